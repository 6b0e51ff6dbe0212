/- Rows of numbers and of structs that come in: opened (law15). -/
import Derived.ProofKit
import Derived.Carry
import Derived.ChangeShapes
import Derived.ChangeMaps5
import Derived.Deep.Slices
import Derived.Test.YtdefpmmdpfpipaaGreatCA14
set_option maxRecDepth 100000
set_option maxHeartbeats 4000000
namespace Go.Proofs.YtdefpmmdpfpipaaGreat
section
open Go.Value renaming int->iV,slice->lV,string->sV,bool->bV,agg->aV
open Go.RowKit Go.QT
theorem bob_ne:(⟨#[98,111,98]⟩:ByteArray).toList≠bANN.toList:=by decide +kernel
theorem bx_newN{s:STab}{k b:Bytes}{u:Int}{n:Nat}(hn:s.boxes.length=n)(hl:n<1000000):(s.seal k u b).box (mkB 98 (n+1))=some ⟨k,u,b⟩:=by
 subst hn;exact bx_new hl
theorem alive15_any(w:World):Calls Tryz.prog 9 #[] w (DPost w (.bool true)):=by
 have hopn:∀ w,Calls Tryz.prog 10 #[.agg #[.int .i64 99,.int .i64 500,.int .i64 49,.bool true,.int .i64 100,.int .i64 0]] w (OpnPost 100 100 500 50 true w):=by
   intro w
   have h:=open15_any 99 500 49 100 0 true w
   rwa [show bits .and .i64 100 1023=100 from by kernel_rfl,show (1:Int)+bits .and .i64 99 511=100 from by kernel_rfl,show bits .and .i64 500 4095=500 from by kernel_rfl,show (1:Int)+bits .and .i64 49 511=50 from by kernel_rfl] at h
 have h0:=Hp.nil (fun _=>False) w
 refine mE 135 ?_
 refine mT (x_open15 (at_:=100) (L:=100) (Rn:=500) (Ot:=50) (mesh:=true) h0 [(aV ([(zD 99),(zD 500),(zD 49),zI,(zD 100),zO]).toArray)] (by kernel_rfl) (hopn _)) ?_
 rintro _ w3 ⟨d,sv,kb,cb,bk,tb,bb,G,Gc,F,kk,ka,kb_,K1,K2,b0,b1,b2,b3,b4,b5,fl,R,A,B,c,c',mv,rfl,hT,⟨hkk,hka,hkb,hK1,hK2⟩,⟨hp0,hp1,hp2,hp3,hp4,hp5⟩,h3⟩
 have h4:=h3.share 7 rfl
 have h5:=h4.share 7 rfl
 refine mJ 2000004 (fun aJ wJ10=>∃ (gJ9_0:Nat) (gJ9_1:Nat) (xJ10:Nat->Value),aJ=patch xJ10 135 [(0,zV),(1,(pt d 0)),(2,(pt gJ9_0 0))]/\Hp (fun _=>False) w wJ10 [rSB ((lV B 16 c')) (mkB 98 5),rSB ((lV A 16 c)) (mkB 98 2)] [rBlk gJ9_0 40 ([(sV (⟨#[98,111,98]⟩)),(zD 5),(zD 1000),zV,zI,(sV (⟨#[107,100,99]⟩)),(lV A 16 c),zN,(lV (some ⟨gJ9_1,0,none⟩) 1 1)]),rBlk gJ9_1 35 ([(sV (⟨#[107,100,99]⟩)),(lV B 16 c')]),rBlk d 37 (dkC tb sv (rpC fl K1 1 bKDC 100 (min (100+600) (100+100)) R) (rpC 4 K2 1 bKDC 100 (min (100+600) (100+50)) 0) (lV A 16 c) (lV B 16 c')),rBlk sv 73 ([(pt kb 0),(pt cb 0),(pt bk 0)]),rBlk kb 78 ([(Value.iface 28 (pt tb 0)),(pt bb 0)]++vb (kl kk)),rBs G bb [User.mk bANN ka 100 500 false,User.mk bBOB kb_ 50 0 true],rCa Gc cb 64 [],rBk mv bk none,rTab F tb ((sO kk ka kb_ b0 b1 b2 b3 b4 b5))]) ?_ (fun hJ10 hhJ10=>?_)
 ·
  rintro _ wJ10 ⟨gJ9_0,gJ9_1,xJ10,rfl,hJh10⟩
  refine mAt ?_
  have h12:=hJh10.share 1 rfl
  have h13:=h12.addQ1 2 1 0 (l:=mkB 98 2) (m:=mkB 98 5) (s:=bKDC) rfl rfl rfl
  have hql:(qB bBOB 5 1000 false true (mkB 98 2) [⟨bKDC,mkB 98 5,B,c'⟩]).length<=4096:=qB_len (by decide) (by rw [mkB_len];decide) (by simp [mkB_len];decide) (by simp)
  refine ma h13 0 ?_
  obtain ⟨ba,hpa⟩:=pack_authent (s:=bANN) (t:=110) (q:=1) (K:=zK) (c:=mkB 100 ((sO kk ka kb_ b0 b1 b2 b3 b4 b5).sumAt (qB bBOB 5 1000 false true (mkB 98 2) [⟨bKDC,mkB 98 5,B,c'⟩])+1)) (rightM_is right_ann (by decide)) (by decide) (by rw [mkB_len];decide)
  refine mT (x_auth (nb:=6) (s2:=(((sO kk ka kb_ b0 b1 b2 b3 b4 b5).digest (qB bBOB 5 1000 false true (mkB 98 2) [⟨bKDC,mkB 98 5,B,c'⟩])).seal (kl K1) 7 ba)) h13 7 rfl [(pt d 0),(Value.iface 40 (aV ([(sV (⟨#[98,111,98]⟩)),(zD 5),(zD 1000),zV,zI,(sV (⟨#[107,100,99]⟩)),(lV A 16 c),zN,(lV (some ⟨gJ9_1,0,none⟩) 1 1)]).toArray)),(zD 110),(zD 1)] (by kernel_rfl) (auth15_any (h13.carve1 7 rfl [(true,1),(false,0)] rfl rfl) ((roomO hp0 hp1 hp2 hp3 hp4 hp5).less (by decide)) (sumQ_any (xs:=[⟨bKDC,mkB 98 5,B,c'⟩]) (D:=none) (an:=0) (ca:=0) (Nat.zero_le _) ⟨Nat.le_refl _,fun x hx=>by rw [List.mem_singleton.1 hx];exact ⟨right_kdc,show (3:Nat)<=100000 by decide,by show (mkB 98 5).length<=100000;rw [mkB_len];decide⟩⟩ right_bob (show (3:Nat)<=300 by decide) rfl rfl (by rw [mkB_len];decide) hql) hpa)) ?_
  rintro _ w14 ⟨A14,c14,F14,rfl,h14⟩
  refine mT (xS h14 2 ([(sV (⟨#[98,111,98]⟩)),(zD 5),(zD 1000),zV,zI,(sV (⟨#[107,100,99]⟩)),(lV A 16 c),(lV A14 16 c14),(lV (some ⟨gJ9_1,0,none⟩) 1 1)])) fun _ w15 h15=>?_
  obtain ⟨t1,ht1⟩:∃ t,t=(((sO kk ka kb_ b0 b1 b2 b3 b4 b5).digest (qB bBOB 5 1000 false true (mkB 98 2) [⟨bKDC,mkB 98 5,B,c'⟩])).seal (kl K1) 7 ba):=⟨_,rfl⟩
  have hx1:t1.box (mkB 98 2)=some ⟨kl kk,2,b1⟩:=by rw [ht1];exact au_old bxOx
  have hy1:t1.box (mkB 98 5)=some ⟨kl kk,2,b4⟩:=by rw [ht1];exact au_old bxOy
  have ha1:t1.box (mkB 98 (6+1))=some ⟨kl K1,7,ba⟩:=by rw [ht1];exact au_box rfl (by decide)
  have hk1:SK t1 (qB bBOB 5 1000 false true (mkB 98 2) [⟨bKDC,mkB 98 5,B,c'⟩]) ((sO kk ka kb_ b0 b1 b2 b3 b4 b5).sumAt (qB bBOB 5 1000 false true (mkB 98 2) [⟨bKDC,mkB 98 5,B,c'⟩])):=by rw [ht1];exact au_sk
  have hn1:t1.keys.length=5:=by rw [ht1];exact au_keys rfl
  have hb1:t1.boxes.length=7:=by rw [ht1];exact au_len rfl
  have hm1:t1.sums.length<=1:=by rw [ht1];exact au_sums (Nat.le_refl 0)
  have hr1:Room 800000 t1:=by rw [ht1];exact (((roomO hp0 hp1 hp2 hp3 hp4 hp5).digest.seal _ _ (pack_le6 hpa)).less (by decide))
  have h17:=h15
  rw [← ht1] at h17
  clear ht1
  obtain ⟨Kf,hKf⟩:=ex_key 6
  obtain ⟨c1,hc1⟩:=pack_inside (f:=2) (K:=Kf) (s:=bANN) (a:=100) (u:=min (min 1000 (min (100+600) (100+100))) (min (100+600) (100+50))) (r:=0) (rightM_is right_ann (by decide)) (by decide)
  obtain ⟨c2,hc2⟩:=pack_reply (f:=2) (K:=Kf) (n:=5) (s:=bBOB) (a:=100) (u:=min (min 1000 (min (100+600) (100+100))) (min (100+600) (100+50))) (r:=0) (rightM_is right_bob (by decide)) (by decide)
  obtain ⟨t2,ht2⟩:∃ t,t=(((t1.add SFrom.fresh).seal (kl K2) 2 c1).seal (kl K1) 8 c2):=⟨_,rfl⟩
  have hx2:t2.box (mkB 98 2)=some ⟨kl kk,2,b1⟩:=by rw [ht2];exact bx_seal (bx_seal hx1)
  have ha2:t2.box (mkB 98 (6+1))=some ⟨kl K1,7,ba⟩:=by rw [ht2];exact bx_seal (bx_seal ha1)
  have hi2:t2.box (mkB 98 (7+1))=some ⟨kl K2,2,c1⟩:=by rw [ht2];exact bx_seal (bx_newN (s:=t1.add SFrom.fresh) hb1 (by decide))
  have ho2:t2.box (mkB 98 (7+2))=some ⟨kl K1,8,c2⟩:=by rw [ht2];exact bx_newN (s:=(t1.add SFrom.fresh).seal (kl K2) 2 c1) (n:=8) (by rw [seal_len];exact congrArg (· + 1) hb1) (by decide)
  have hk2:SK t2 (qB bBOB 5 1000 false true (mkB 98 2) [⟨bKDC,mkB 98 5,B,c'⟩]) ((sO kk ka kb_ b0 b1 b2 b3 b4 b5).sumAt (qB bBOB 5 1000 false true (mkB 98 2) [⟨bKDC,mkB 98 5,B,c'⟩])):=by rw [ht2];exact hk1
  have hm2:t2.sums.length<=1:=by rw [ht2];exact hm1
  have hr2:Room 700000 t2:=by rw [ht2];exact ((((hr1.add SFrom.fresh).seal _ _ (pack_le6 hc1)).seal _ _ (pack_le6 hc2)).less (by decide))
  refine mJ 2000006 (fun aJ wJ19=>∃ (gJ18_0:Nat) (AJ18_1:Option Addr) (cJ18_2:Nat) (BJ18_3:Option Addr) (dJ18_4:Nat) (FJ18_5:Nat->Prop) (GJ18_6:Nat->Prop) (xJ19:Nat->Value),aJ=patch xJ19 135 [(0,zV),(1,(pt d 0)),(2,(pt gJ9_0 0)),(3,(pt gJ18_0 0)),(4,zO)]/\Hp (fun _=>False) w wJ19 [rQx A c (mkB 98 2) (some ⟨gJ9_1,0,none⟩) 1 [⟨bKDC,mkB 98 5,B,c'⟩],rBlk gJ9_1 35 ([(sV (⟨#[107,100,99]⟩)),(lV B 16 c')]),rSB ((lV B 16 c')) (mkB 98 5),rSB ((lV A 16 c)) (mkB 98 2)] [rBlk gJ18_0 43 ([(sV (⟨#[97,110,110]⟩)),(sV (⟨#[98,111,98]⟩)),(lV AJ18_1 16 cJ18_2),(lV BJ18_3 16 dJ18_4)]),rTab FJ18_5 tb t2,rCa GJ18_6 cb 64 [⟨bANN,110,1⟩],rSB ((lV AJ18_1 16 cJ18_2)) (mkB 98 (7+1)),rSB ((lV BJ18_3 16 dJ18_4)) (mkB 98 (7+2)),rSB ((lV A14 16 c14)) (mkB 98 (6+1)),rBlk gJ9_0 40 ([(sV (⟨#[98,111,98]⟩)),(zD 5),(zD 1000),zV,zI,(sV (⟨#[107,100,99]⟩)),(lV A 16 c),(lV A14 16 c14),(lV (some ⟨gJ9_1,0,none⟩) 1 1)]),rBlk d 37 (dkC tb sv (rpC fl K1 1 bKDC 100 (min (100+600) (100+100)) R) (rpC 4 K2 1 bKDC 100 (min (100+600) (100+50)) 0) (lV A 16 c) (lV B 16 c')),rBlk sv 73 ([(pt kb 0),(pt cb 0),(pt bk 0)]),rBlk kb 78 ([(Value.iface 28 (pt tb 0)),(pt bb 0)]++vb (kl kk)),rBs G bb [User.mk bANN ka 100 500 false,User.mk bBOB kb_ 50 0 true],rBk mv bk none]) ?_ (fun hJ19 hhJ19=>?_)
  ·
   rintro _ wJ19 ⟨gJ18_0,AJ18_1,cJ18_2,BJ18_3,dJ18_4,FJ18_5,GJ18_6,xJ19,rfl,hJh19⟩
   refine mAt ?_
   refine mJ 2000007 (fun aJ wJ22=>∃ (gJ21_0:Nat) (FJ21_1:Nat->Prop) (GJ21_2:Nat->Prop) (xJ22:Nat->Value),aJ=patch xJ22 135 [(0,zV),(1,(pt d 0)),(2,(pt gJ9_0 0)),(3,(pt gJ18_0 0)),(4,zO),(6,(zD 14))]/\Hp (fun _=>False) w wJ22 [rQx A c (mkB 98 2) (some ⟨gJ9_1,0,none⟩) 1 [⟨bKDC,mkB 98 5,B,c'⟩],rBlk gJ9_1 35 ([(sV (⟨#[107,100,99]⟩)),(lV B 16 c')]),rSB ((lV B 16 c')) (mkB 98 5),rSB ((lV A 16 c)) (mkB 98 2)] [rBlk gJ21_0 43 ([zE,zE,zN,zN]),rBlk gJ18_0 43 ([(sV (⟨#[97,110,110]⟩)),(sV (⟨#[98,111,98]⟩)),(lV AJ18_1 16 cJ18_2),(lV BJ18_3 16 dJ18_4)]),rTab FJ21_1 tb t2,rCa GJ21_2 cb 64 [⟨bANN,110,1⟩],rSB ((lV AJ18_1 16 cJ18_2)) (mkB 98 (7+1)),rSB ((lV BJ18_3 16 dJ18_4)) (mkB 98 (7+2)),rSB ((lV A14 16 c14)) (mkB 98 (6+1)),rBlk gJ9_0 40 ([(sV (⟨#[98,111,98]⟩)),(zD 5),(zD 1000),zV,zI,(sV (⟨#[107,100,99]⟩)),(lV A 16 c),(lV A14 16 c14),(lV (some ⟨gJ9_1,0,none⟩) 1 1)]),rBlk d 37 (dkC tb sv (rpC fl K1 1 bKDC 100 (min (100+600) (100+100)) R) (rpC 4 K2 1 bKDC 100 (min (100+600) (100+50)) 0) (lV A 16 c) (lV B 16 c')),rBlk sv 73 ([(pt kb 0),(pt cb 0),(pt bk 0)]),rBlk kb 78 ([(Value.iface 28 (pt tb 0)),(pt bb 0)]++vb (kl kk)),rBs G bb [User.mk bANN ka 100 500 false,User.mk bBOB kb_ 50 0 true],rBk mv bk none]) ?_ (fun hJ22 hhJ22=>?_)
   ·
    rintro _ wJ22 ⟨gJ21_0,FJ21_1,GJ21_2,xJ22,rfl,hJh22⟩
    refine mAt ?_
    refine mJ 2000008 (fun aJ wJ25=>∃ (gJ24_0:Nat) (xJ25:Nat->Value),aJ=patch xJ25 135 [(0,zV),(1,(pt d 0)),(2,(pt gJ9_0 0)),(3,(pt gJ18_0 0)),(4,zO),(6,(zD 14)),(7,(pt gJ24_0 0)),(8,zO)]/\Hp (fun _=>False) w wJ25 [rQx A c (mkB 98 2) (some ⟨gJ9_1,0,none⟩) 1 [⟨bKDC,mkB 98 5,B,c'⟩],rBlk gJ9_1 35 ([(sV (⟨#[107,100,99]⟩)),(lV B 16 c')]),rSB ((lV B 16 c')) (mkB 98 5),rSB ((lV A 16 c)) (mkB 98 2)] [rBlk gJ24_0 33 ([(zD 2)]++vb (kl Kf)++[(zD 5),(sV (⟨#[98,111,98]⟩)),(zD 100),(zD 150),zO]),rBlk gJ21_0 43 ([zE,zE,zN,zN]),rBlk gJ18_0 43 ([(sV (⟨#[97,110,110]⟩)),(sV (⟨#[98,111,98]⟩)),(lV AJ18_1 16 cJ18_2),(lV BJ18_3 16 dJ18_4)]),rTab FJ21_1 tb t2,rCa GJ21_2 cb 64 [⟨bANN,110,1⟩],rSB ((lV AJ18_1 16 cJ18_2)) (mkB 98 (7+1)),rSB ((lV BJ18_3 16 dJ18_4)) (mkB 98 (7+2)),rSB ((lV A14 16 c14)) (mkB 98 (6+1)),rBlk gJ9_0 40 ([(sV (⟨#[98,111,98]⟩)),(zD 5),(zD 1000),zV,zI,(sV (⟨#[107,100,99]⟩)),(lV A 16 c),(lV A14 16 c14),(lV (some ⟨gJ9_1,0,none⟩) 1 1)]),rBlk d 37 (dkC tb sv (rpC fl K1 1 bKDC 100 (min (100+600) (100+100)) R) (rpC 4 K2 1 bKDC 100 (min (100+600) (100+50)) 0) (lV A 16 c) (lV B 16 c')),rBlk sv 73 ([(pt kb 0),(pt cb 0),(pt bk 0)]),rBlk kb 78 ([(Value.iface 28 (pt tb 0)),(pt bb 0)]++vb (kl kk)),rBs G bb [User.mk bANN ka 100 500 false,User.mk bBOB kb_ 50 0 true],rBk mv bk none]) ?_ (fun hJ25 hhJ25=>?_)
    ·
     rintro _ wJ25 ⟨gJ24_0,xJ25,rfl,hJh25⟩
     refine mAt ?_
     refine mJ 2000009 (fun aJ wJ28=>∃ (gJ27_0:Nat) (xJ28:Nat->Value),aJ=patch xJ28 135 [(0,zV),(1,(pt d 0)),(2,(pt gJ9_0 0)),(3,(pt gJ18_0 0)),(4,zO),(6,(zD 14)),(7,(pt gJ24_0 0)),(8,zO),(9,(pt gJ27_0 0)),(10,zO)]/\Hp (fun _=>False) w wJ28 [rQx A c (mkB 98 2) (some ⟨gJ9_1,0,none⟩) 1 [⟨bKDC,mkB 98 5,B,c'⟩],rBlk gJ9_1 35 ([(sV (⟨#[107,100,99]⟩)),(lV B 16 c')]),rSB ((lV B 16 c')) (mkB 98 5),rSB ((lV A 16 c)) (mkB 98 2)] [rBlk gJ27_0 54 ([(zD 2)]++vb (kl Kf)++[(sV (⟨#[97,110,110]⟩)),(zD 100),(zD 150),zO]),rBlk gJ24_0 33 ([(zD 2)]++vb (kl Kf)++[(zD 5),(sV (⟨#[98,111,98]⟩)),(zD 100),(zD 150),zO]),rBlk gJ21_0 43 ([zE,zE,zN,zN]),rBlk gJ18_0 43 ([(sV (⟨#[97,110,110]⟩)),(sV (⟨#[98,111,98]⟩)),(lV AJ18_1 16 cJ18_2),(lV BJ18_3 16 dJ18_4)]),rTab FJ21_1 tb t2,rCa GJ21_2 cb 64 [⟨bANN,110,1⟩],rSB ((lV AJ18_1 16 cJ18_2)) (mkB 98 (7+1)),rSB ((lV BJ18_3 16 dJ18_4)) (mkB 98 (7+2)),rSB ((lV A14 16 c14)) (mkB 98 (6+1)),rBlk gJ9_0 40 ([(sV (⟨#[98,111,98]⟩)),(zD 5),(zD 1000),zV,zI,(sV (⟨#[107,100,99]⟩)),(lV A 16 c),(lV A14 16 c14),(lV (some ⟨gJ9_1,0,none⟩) 1 1)]),rBlk d 37 (dkC tb sv (rpC fl K1 1 bKDC 100 (min (100+600) (100+100)) R) (rpC 4 K2 1 bKDC 100 (min (100+600) (100+50)) 0) (lV A 16 c) (lV B 16 c')),rBlk sv 73 ([(pt kb 0),(pt cb 0),(pt bk 0)]),rBlk kb 78 ([(Value.iface 28 (pt tb 0)),(pt bb 0)]++vb (kl kk)),rBs G bb [User.mk bANN ka 100 500 false,User.mk bBOB kb_ 50 0 true],rBk mv bk none]) ?_ (fun hJ28 hhJ28=>?_)
     ·
      rintro _ wJ28 ⟨gJ27_0,xJ28,rfl,hJh28⟩
      refine mAt ?_
      refine dG hJh28 55 54 (fun W=>(rBlk gJ27_0 54 ([(zD 2)]++vb (kl Kf)++[(sV (⟨#[97,110,110]⟩)),(zD 100),(zD 150),zO])).Φ W/\(rBlk gJ24_0 33 ([(zD 2)]++vb (kl Kf)++[(zD 5),(sV (⟨#[98,111,98]⟩)),(zD 100),(zD 150),zO])).Φ W/\(rBlk gJ18_0 43 ([(sV (⟨#[97,110,110]⟩)),(sV (⟨#[98,111,98]⟩)),(lV AJ18_1 16 cJ18_2),(lV BJ18_3 16 dJ18_4)])).Φ W/\(rBlk d 37 (dkC tb sv (rpC fl K1 1 bKDC 100 (min (100+600) (100+100)) R) (rpC 4 K2 1 bKDC 100 (min (100+600) (100+50)) 0) (lV A 16 c) (lV B 16 c'))).Φ W/\(rBlk gJ9_0 40 ([(sV (⟨#[98,111,98]⟩)),(zD 5),(zD 1000),zV,zI,(sV (⟨#[107,100,99]⟩)),(lV A 16 c),(lV A14 16 c14),(lV (some ⟨gJ9_1,0,none⟩) 1 1)])).Φ W/\True) (fun w30 h30=>⟨h30.at_ 0 rfl,h30.at_ 1 rfl,h30.at_ 3 rfl,h30.at_ 10 rfl,h30.at_ 9 rfl,trivial⟩) ?_
      intro w30 h30
      refine dP 39 [0,1,2,3,4,5,6,7,8,9,10,11,12,13,14,15] ?_
      refine dL 16 (fun W hW=>hW.1) ?_
      refine dV 17 (v:=zI) (fun W hW=>eqI (bV ((⟨#[97,110,110]⟩:ByteArray).toList == (⟨#[97,110,110]⟩:ByteArray).toList)) (by simp)) ?_
      refine dP 33 [18,19,20,22] ?_
      refine dL 21 (fun W hW=>hW.1) ?_
      refine dL 23 (fun W hW=>hW.2.1) ?_
      refine dV 24 (v:=zI) (fun W hW=>e_keq Kf Kf 31 31 (.tmp 102) (.tmp 104) (by kernel_rfl) (by kernel_rfl) (by kernel_rfl) (by kernel_rfl) (by kernel_rfl) true (by simp) _) ?_
      refine dP 27 [25,26,27] ?_
      refine dL 28 (fun W hW=>hW.1) ?_
      refine dP 22 [29,30,31,32] ?_
      refine dL 33 (fun W hW=>hW.1) ?_
      refine dP 16 [34,35,36,37,38] ?_
      refine dL 39 (fun W hW=>hW.2.2.1) ?_
      refine dV 40 (v:=zI) (fun W hW=>eqI (bV ((⟨#[98,111,98]⟩:ByteArray).toList == (⟨#[98,111,98]⟩:ByteArray).toList)) (by simp)) ?_
      refine dP 9 [41,42,43,44,45] ?_
      refine dL 46 (fun W hW=>hW.2.2.2.1) ?_
      refine dP 7 [47] ?_
      refine dL 48 (fun W hW=>hW.2.2.2.2.1) ?_
      refine dP 5 [49] ?_
      refine dT 50 (x_sumX h30 4 rfl (qB bBOB 5 1000 false true (mkB 98 2) [⟨bKDC,mkB 98 5,B,c'⟩]) [(Value.iface 28 (pt tb 0)),(Value.iface 40 (aV ([(sV (⟨#[98,111,98]⟩)),(zD 5),(zD 1000),zV,zI,(sV (⟨#[107,100,99]⟩)),(lV A 16 c),(lV A14 16 c14),(lV (some ⟨gJ9_1,0,none⟩) 1 1)]).toArray))] _ (by kernel_rfl) (fun hT=>sumQ_any (xs:=[⟨bKDC,mkB 98 5,B,c'⟩]) (D:=A14) (an:=16) (ca:=c14) (Nat.le_trans hm2 (by decide)) ⟨Nat.le_refl _,fun x hx=>by rw [List.mem_singleton.1 hx];exact ⟨right_kdc,show (3:Nat)<=100000 by decide,by show (mkB 98 5).length<=100000;rw [mkB_len];decide⟩⟩ right_bob (show (3:Nat)<=300 by decide) rfl rfl (by rw [mkB_len];decide) hql _ hT (h30.rd 0 rfl) (h30.rdis 0 4 _ _ rfl rfl))) ?_
      rintro _ w31 ⟨A31,c31,F31,rfl,h31⟩
      refine ⟨⟨h31.at_ 2 rfl,h31.at_ 3 rfl,h31.at_ 5 rfl,h31.at_ 11 rfl,h31.at_ 10 rfl,trivial⟩,?_⟩
      refine dP 1 [51,52,53] ?_
      refine dN 54 ?_
      refine dX ?_
      exact mQ h31
     refine dG hJh25 20 19 (fun W=>(rBlk d 37 (dkC tb sv (rpC fl K1 1 bKDC 100 (min (100+600) (100+100)) R) (rpC 4 K2 1 bKDC 100 (min (100+600) (100+50)) 0) (lV A 16 c) (lV B 16 c'))).Φ W/\(rBlk gJ18_0 43 ([(sV (⟨#[97,110,110]⟩)),(sV (⟨#[98,111,98]⟩)),(lV AJ18_1 16 cJ18_2),(lV BJ18_3 16 dJ18_4)])).Φ W/\True) (fun w32 h32=>⟨h32.at_ 9 rfl,h32.at_ 2 rfl,trivial⟩) ?_
     intro w32 h32
     refine dP 11 [0,1,2,5,6,7,8,10,11] ?_
     refine dL 3 (fun W hW=>hW.1) ?_
     refine dP 9 [4] ?_
     refine dL 9 (fun W hW=>hW.1) ?_
     refine dL 12 (fun W hW=>hW.2.1) ?_
     refine dO 13 17 ?_ ?_
     ·
      refine oT (x_oInside h32 3 rfl K2 2 (by kernel_rfl) (show TabOk _ from hr2.ok) (h32.at_ 5 rfl) (r:=(.inr (.inside 2 Kf bANN 100 (min (min 1000 (min (100+600) (100+100))) (min (100+600) (100+50))) 0))) (op_bx hi2 hc1)) ?_
      rintro _ w33 ⟨rfl,h33⟩
      refine ⟨⟨h33.at_ 9 rfl,h33.at_ 2 rfl,trivial⟩,?_⟩
      refine dP 3 [14,15,16] ?_
      refine dT 17 (xN h33 54 ([zO]++vb (List.replicate 16 0)++[zE,zO,zO,zO])) ?_
      rintro _ w34 ⟨g34,rfl,h34⟩
      refine ⟨⟨h34.at_ 10 rfl,h34.at_ 3 rfl,trivial⟩,?_⟩
      refine dT 18 (xR h34 0 ([(zD 2)]++vb (kl Kf)++[(sV (⟨#[97,110,110]⟩)),(zD 100),(zD 150),zO])) ?_
      rintro _ w35 h35
      refine ⟨⟨h35.at_ 10 rfl,h35.at_ 3 rfl,trivial⟩,?_⟩
      refine dN 19 ?_
      refine dX ?_
      exact mK hJ28 (hhJ28 _ _ ⟨g34,_,pM,h35.sel [0,1,2,3,4,5,6,7,8,9,10,11,12,13,14] [0,1,2,3] (by kernel_rfl) rfl rfl⟩)
     refine oT (xN h32 54 ([zO]++vb (List.replicate 16 0)++[zE,zO,zO,zO])) ?_
     rintro _ w36 ⟨g36,rfl,h36⟩
     refine ⟨⟨h36.at_ 10 rfl,h36.at_ 3 rfl,trivial⟩,?_⟩
     refine dT 13 (x_oInside h36 4 rfl K2 2 (by kernel_rfl) (show TabOk _ from hr2.ok) (h36.at_ 6 rfl) (r:=(.inr (.inside 2 Kf bANN 100 (min (min 1000 (min (100+600) (100+100))) (min (100+600) (100+50))) 0))) (op_bx hi2 hc1)) ?_
     rintro _ w37 ⟨rfl,h37⟩
     refine ⟨⟨h37.at_ 10 rfl,h37.at_ 3 rfl,trivial⟩,?_⟩
     refine dP 2 [14,15,16] ?_
     refine dT 18 (xR h37 0 ([(zD 2)]++vb (kl Kf)++[(sV (⟨#[97,110,110]⟩)),(zD 100),(zD 150),zO])) ?_
     rintro _ w38 h38
     refine ⟨⟨h38.at_ 10 rfl,h38.at_ 3 rfl,trivial⟩,?_⟩
     refine dN 19 ?_
     refine dX ?_
     exact mK hJ28 (hhJ28 _ _ ⟨g36,_,pM,h38.sel [0,1,2,3,4,5,6,7,8,9,10,11,12,13,14] [0,1,2,3] (by kernel_rfl) rfl rfl⟩)
    refine dG hJh22 19 18 (fun W=>(rBlk d 37 (dkC tb sv (rpC fl K1 1 bKDC 100 (min (100+600) (100+100)) R) (rpC 4 K2 1 bKDC 100 (min (100+600) (100+50)) 0) (lV A 16 c) (lV B 16 c'))).Φ W/\(rBlk gJ18_0 43 ([(sV (⟨#[97,110,110]⟩)),(sV (⟨#[98,111,98]⟩)),(lV AJ18_1 16 cJ18_2),(lV BJ18_3 16 dJ18_4)])).Φ W/\True) (fun w39 h39=>⟨h39.at_ 8 rfl,h39.at_ 1 rfl,trivial⟩) ?_
    intro w39 h39
    refine dP 11 [0,1,2,5,6,7,8,10] ?_
    refine dL 3 (fun W hW=>hW.1) ?_
    refine dP 9 [4] ?_
    refine dL 9 (fun W hW=>hW.1) ?_
    refine dL 11 (fun W hW=>hW.2.1) ?_
    refine dO 12 16 ?_ ?_
    ·
     refine oT (x_oReply h39 2 rfl K1 8 (by kernel_rfl) (show TabOk _ from hr2.ok) (h39.at_ 5 rfl) (r:=(.inr (.reply 2 Kf 5 ⟨#[98,111,98]⟩ 100 (min (min 1000 (min (100+600) (100+100))) (min (100+600) (100+50))) 0))) (op_bx ho2 hc2)) ?_
     rintro _ w40 ⟨rfl,h40⟩
     refine ⟨⟨h40.at_ 8 rfl,h40.at_ 1 rfl,trivial⟩,?_⟩
     refine dP 3 [13,14,15] ?_
     refine dT 16 (xN h40 33 ([zO]++vb (List.replicate 16 0)++[zO,zE,zO,zO,zO])) ?_
     rintro _ w41 ⟨g41,rfl,h41⟩
     refine ⟨⟨h41.at_ 9 rfl,h41.at_ 2 rfl,trivial⟩,?_⟩
     refine dT 17 (xR h41 0 ([(zD 2)]++vb (kl Kf)++[(zD 5),(sV (⟨#[98,111,98]⟩)),(zD 100),(zD 150),zO])) ?_
     rintro _ w42 h42
     refine ⟨⟨h42.at_ 9 rfl,h42.at_ 2 rfl,trivial⟩,?_⟩
     refine dN 18 ?_
     refine dX ?_
     exact mK hJ25 (hhJ25 _ _ ⟨g41,_,pM,h42.sel [0,1,2,3,4,5,6,7,8,9,10,11,12,13] [0,1,2,3] (by kernel_rfl) rfl rfl⟩)
    refine oT (xN h39 33 ([zO]++vb (List.replicate 16 0)++[zO,zE,zO,zO,zO])) ?_
    rintro _ w43 ⟨g43,rfl,h43⟩
    refine ⟨⟨h43.at_ 9 rfl,h43.at_ 2 rfl,trivial⟩,?_⟩
    refine dT 12 (x_oReply h43 3 rfl K1 8 (by kernel_rfl) (show TabOk _ from hr2.ok) (h43.at_ 6 rfl) (r:=(.inr (.reply 2 Kf 5 ⟨#[98,111,98]⟩ 100 (min (min 1000 (min (100+600) (100+100))) (min (100+600) (100+50))) 0))) (op_bx ho2 hc2)) ?_
    rintro _ w44 ⟨rfl,h44⟩
    refine ⟨⟨h44.at_ 9 rfl,h44.at_ 2 rfl,trivial⟩,?_⟩
    refine dP 2 [13,14,15] ?_
    refine dT 17 (xR h44 0 ([(zD 2)]++vb (kl Kf)++[(zD 5),(sV (⟨#[98,111,98]⟩)),(zD 100),(zD 150),zO])) ?_
    rintro _ w45 h45
    refine ⟨⟨h45.at_ 9 rfl,h45.at_ 2 rfl,trivial⟩,?_⟩
    refine dN 18 ?_
    refine dX ?_
    exact mK hJ25 (hhJ25 _ _ ⟨g43,_,pM,h45.sel [0,1,2,3,4,5,6,7,8,9,10,11,12,13] [0,1,2,3] (by kernel_rfl) rfl rfl⟩)
   refine dG hJh19 12 11 (fun W=>(rBlk d 37 (dkC tb sv (rpC fl K1 1 bKDC 100 (min (100+600) (100+100)) R) (rpC 4 K2 1 bKDC 100 (min (100+600) (100+50)) 0) (lV A 16 c) (lV B 16 c'))).Φ W/\(rBlk gJ9_0 40 ([(sV (⟨#[98,111,98]⟩)),(zD 5),(zD 1000),zV,zI,(sV (⟨#[107,100,99]⟩)),(lV A 16 c),(lV A14 16 c14),(lV (some ⟨gJ9_1,0,none⟩) 1 1)])).Φ W/\True) (fun w46 h46=>⟨h46.at_ 7 rfl,h46.at_ 6 rfl,trivial⟩) ?_
   intro w46 h46
   refine dP 9 [0,1,2] ?_
   refine dL 3 (fun W hW=>hW.1) ?_
   refine dL 4 (fun W hW=>hW.2.1) ?_
   refine dO 5 9 ?_ ?_
   ·
    refine oT (x_tgsN (ec:=14) (s3:=t2) (sl2:=[⟨bANN,110,1⟩]) h46 1 2 rfl rfl [(pt sv 0),(zD 111),(aV ([(sV (⟨#[98,111,98]⟩)),(zD 5),(zD 1000),zV,zI,(sV (⟨#[107,100,99]⟩)),(lV A 16 c),(lV A14 16 c14),(lV (some ⟨gJ9_1,0,none⟩) 1 1)]).toArray)] rfl (by kernel_rfl) (tgsTwice_any (xs:=[⟨bKDC,mkB 98 5,B,c'⟩]) (au:=mkB 98 (6+1)) (l:=mkB 98 2) (h46.carve2 1 2 rfl rfl [(true,8),(true,9),(false,3),(true,5),(false,0),(true,10)] rfl rfl) (hr2.less (by decide)) (Nat.le_trans hm2 (by decide)) (op_bx hx2 hp1) (by decide) hk2 (op_bx ha2 hpa) (by decide) (by simp) (by simp) (by decide) ⟨Nat.le_refl _,fun x hx=>by rw [List.mem_singleton.1 hx];exact ⟨right_kdc,show (3:Nat)<=100000 by decide,by show (mkB 98 5).length<=100000;rw [mkB_len];decide⟩⟩ right_bob (by decide) rfl rfl (by rw [mkB_len];decide) hql)) ?_
    rintro _ w47 ⟨F47,G47,rfl,h47⟩
    refine ⟨⟨h47.at_ 7 rfl,h47.at_ 6 rfl,trivial⟩,?_⟩
    refine dP 3 [6,7,8] ?_
    refine dT 9 (xN h47 43 ([zE,zE,zN,zN])) ?_
    rintro _ w48 ⟨g48,rfl,h48⟩
    refine ⟨⟨h48.at_ 8 rfl,h48.at_ 7 rfl,trivial⟩,?_⟩
    refine dT 10 (xR h48 0 ([zE,zE,zN,zN])) ?_
    rintro _ w49 h49
    refine ⟨⟨h49.at_ 8 rfl,h49.at_ 7 rfl,trivial⟩,?_⟩
    refine dN 11 ?_
    refine dX ?_
    exact mK hJ22 (hhJ22 _ _ ⟨g48,F47,G47,_,pM,h49.sel [0,1,2,3,4,5,6,7,8,9,10,11,12] [0,1,2,3] (by kernel_rfl) rfl rfl⟩)
   refine oT (xN h46 43 ([zE,zE,zN,zN])) ?_
   rintro _ w50 ⟨g50,rfl,h50⟩
   refine ⟨⟨h50.at_ 8 rfl,h50.at_ 7 rfl,trivial⟩,?_⟩
   refine dT 5 (x_tgsN (ec:=14) (s3:=t2) (sl2:=[⟨bANN,110,1⟩]) h50 2 3 rfl rfl [(pt sv 0),(zD 111),(aV ([(sV (⟨#[98,111,98]⟩)),(zD 5),(zD 1000),zV,zI,(sV (⟨#[107,100,99]⟩)),(lV A 16 c),(lV A14 16 c14),(lV (some ⟨gJ9_1,0,none⟩) 1 1)]).toArray)] rfl (by kernel_rfl) (tgsTwice_any (xs:=[⟨bKDC,mkB 98 5,B,c'⟩]) (au:=mkB 98 (6+1)) (l:=mkB 98 2) (h50.carve2 2 3 rfl rfl [(true,9),(true,10),(false,3),(true,6),(false,0),(true,11)] rfl rfl) (hr2.less (by decide)) (Nat.le_trans hm2 (by decide)) (op_bx hx2 hp1) (by decide) hk2 (op_bx ha2 hpa) (by decide) (by simp) (by simp) (by decide) ⟨Nat.le_refl _,fun x hx=>by rw [List.mem_singleton.1 hx];exact ⟨right_kdc,show (3:Nat)<=100000 by decide,by show (mkB 98 5).length<=100000;rw [mkB_len];decide⟩⟩ right_bob (by decide) rfl rfl (by rw [mkB_len];decide) hql)) ?_
   rintro _ w51 ⟨F51,G51,rfl,h51⟩
   refine ⟨⟨h51.at_ 8 rfl,h51.at_ 7 rfl,trivial⟩,?_⟩
   refine dP 2 [6,7,8] ?_
   refine dT 10 (xR h51 0 ([zE,zE,zN,zN])) ?_
   rintro _ w52 h52
   refine ⟨⟨h52.at_ 8 rfl,h52.at_ 7 rfl,trivial⟩,?_⟩
   refine dN 11 ?_
   refine dX ?_
   exact mK hJ22 (hhJ22 _ _ ⟨g50,F51,G51,_,pM,h52.sel [0,1,2,3,4,5,6,7,8,9,10,11,12] [0,1,2,3] (by kernel_rfl) rfl rfl⟩)
  refine dG h17 12 11 (fun W=>(rBlk d 37 (dkC tb sv (rpC fl K1 1 bKDC 100 (min (100+600) (100+100)) R) (rpC 4 K2 1 bKDC 100 (min (100+600) (100+50)) 0) (lV A 16 c) (lV B 16 c'))).Φ W/\(rBlk gJ9_0 40 ([(sV (⟨#[98,111,98]⟩)),(zD 5),(zD 1000),zV,zI,(sV (⟨#[107,100,99]⟩)),(lV A 16 c),(lV A14 16 c14),(lV (some ⟨gJ9_1,0,none⟩) 1 1)])).Φ W/\True) (fun w53 h53=>⟨h53.at_ 3 rfl,h53.at_ 2 rfl,trivial⟩) ?_
  intro w53 h53
  refine dP 9 [0,1,2] ?_
  refine dL 3 (fun W hW=>hW.1) ?_
  refine dL 4 (fun W hW=>hW.2.1) ?_
  refine dO 5 9 ?_ ?_
  ·
   refine oT (x_tgs (nb:=7) (s3:=t2) (sl2:=[⟨bANN,110,1⟩]) (c1:=bANN) (srv:=⟨#[98,111,98]⟩) h53 0 7 rfl rfl [(pt sv 0),(zD 110),(aV ([(sV (⟨#[98,111,98]⟩)),(zD 5),(zD 1000),zV,zI,(sV (⟨#[107,100,99]⟩)),(lV A 16 c),(lV A14 16 c14),(lV (some ⟨gJ9_1,0,none⟩) 1 1)]).toArray)] rfl (by kernel_rfl) ((by rw [← hb1,ht2];exact tgsMet_any (us_:=User.mk bBOB kb_ 50 0 true) (au:=mkB 98 (6+1)) (l:=mkB 98 2) (pb:=mkB 98 5) (h53.carve2 0 7 rfl rfl [(true,4),(true,5),(false,3),(true,1),(false,0),(true,6)] rfl rfl) (hr1.less (by decide)) (Nat.le_trans hm1 (by decide)) (op_bx hx1 hp1) (by decide) hk1 (op_bx ha1 hpa) (by decide) (by simp) (by simp) (by decide) (by decide) (op_bx hy1 hp4) (by decide) (show (2:Nat)<=1000 by decide) place_bob.1 place_bob.2 rfl bob_ne right_bob (by decide) rfl rfl (by rw [mkB_len];decide) (by rw [mkB_len];decide) hql (by decide) (hKf.trans (by rw [hn1])) hc1 hc2))) ?_
   rintro _ w54 ⟨A54,c54,B54,d54,F54,G54,_,rfl,rfl,h54⟩
   refine ⟨⟨h54.at_ 6 rfl,h54.at_ 5 rfl,trivial⟩,?_⟩
   refine dP 3 [6,7,8] ?_
   refine dT 9 (xN h54 43 ([zE,zE,zN,zN])) ?_
   rintro _ w55 ⟨g55,rfl,h55⟩
   refine ⟨⟨h55.at_ 7 rfl,h55.at_ 6 rfl,trivial⟩,?_⟩
   refine dT 10 (xR h55 0 ([(sV (⟨#[97,110,110]⟩)),(sV (⟨#[98,111,98]⟩)),(lV A54 16 c54),(lV B54 16 d54)])) ?_
   rintro _ w56 h56
   refine ⟨⟨h56.at_ 7 rfl,h56.at_ 6 rfl,trivial⟩,?_⟩
   refine dN 11 ?_
   refine dX ?_
   exact mK hJ19 (hhJ19 _ _ ⟨g55,A54,c54,B54,d54,F54,G54,_,pM,h56.sel [0,1,2,3,4,5,6,7,8,9,10,11] [0,1,2,3] (by kernel_rfl) rfl rfl⟩)
  refine oT (xN h53 43 ([zE,zE,zN,zN])) ?_
  rintro _ w57 ⟨g57,rfl,h57⟩
  refine ⟨⟨h57.at_ 4 rfl,h57.at_ 3 rfl,trivial⟩,?_⟩
  refine dT 5 (x_tgs (nb:=7) (s3:=t2) (sl2:=[⟨bANN,110,1⟩]) (c1:=bANN) (srv:=⟨#[98,111,98]⟩) h57 1 8 rfl rfl [(pt sv 0),(zD 110),(aV ([(sV (⟨#[98,111,98]⟩)),(zD 5),(zD 1000),zV,zI,(sV (⟨#[107,100,99]⟩)),(lV A 16 c),(lV A14 16 c14),(lV (some ⟨gJ9_1,0,none⟩) 1 1)]).toArray)] rfl (by kernel_rfl) ((by rw [← hb1,ht2];exact tgsMet_any (us_:=User.mk bBOB kb_ 50 0 true) (au:=mkB 98 (6+1)) (l:=mkB 98 2) (pb:=mkB 98 5) (h57.carve2 1 8 rfl rfl [(true,5),(true,6),(false,3),(true,2),(false,0),(true,7)] rfl rfl) (hr1.less (by decide)) (Nat.le_trans hm1 (by decide)) (op_bx hx1 hp1) (by decide) hk1 (op_bx ha1 hpa) (by decide) (by simp) (by simp) (by decide) (by decide) (op_bx hy1 hp4) (by decide) (show (2:Nat)<=1000 by decide) place_bob.1 place_bob.2 rfl bob_ne right_bob (by decide) rfl rfl (by rw [mkB_len];decide) (by rw [mkB_len];decide) hql (by decide) (hKf.trans (by rw [hn1])) hc1 hc2))) ?_
  rintro _ w58 ⟨A58,c58,B58,d58,F58,G58,_,rfl,rfl,h58⟩
  refine ⟨⟨h58.at_ 7 rfl,h58.at_ 6 rfl,trivial⟩,?_⟩
  refine dP 2 [6,7,8] ?_
  refine dT 10 (xR h58 4 ([(sV (⟨#[97,110,110]⟩)),(sV (⟨#[98,111,98]⟩)),(lV A58 16 c58),(lV B58 16 d58)])) ?_
  rintro _ w59 h59
  refine ⟨⟨h59.at_ 7 rfl,h59.at_ 6 rfl,trivial⟩,?_⟩
  refine dN 11 ?_
  refine dX ?_
  exact mK hJ19 (hhJ19 _ _ ⟨g57,A58,c58,B58,d58,F58,G58,_,pM,h59.sel [4,0,1,2,3,5,6,7,8,9,10,11] [0,1,2,3] (by kernel_rfl) rfl rfl⟩)
 refine dG h5 12 11 (fun W=>(rBlk d 37 (dkC tb sv (rpC fl K1 1 bKDC 100 (min (100+600) (100+100)) R) (rpC 4 K2 1 bKDC 100 (min (100+600) (100+50)) 0) (lV A 16 c) (lV B 16 c'))).Φ W/\True) (fun w60 h60=>⟨h60.at_ 0 rfl,trivial⟩) ?_
 intro w60 h60
 refine dP 6 [0,1,2,4,5,6] ?_
 refine dLs 4 [3,7] (fun W hW=>hW.1) ?_
 refine dO 8 10 ?_ ?_
 ·
  refine oT (x_bs h60 35 ([(sV (⟨#[107,100,99]⟩)),(lV B 16 c')]) 1 (by kernel_rfl)) ?_
  rintro _ w61 ⟨g61,rfl,h61⟩
  refine ⟨⟨h61.at_ 1 rfl,trivial⟩,?_⟩
  refine dP 2 [9] ?_
  refine dT 10 (xN h61 40 ([zE,zO,zO,zV,zV,zE,zN,zN,zN])) ?_
  rintro _ w62 ⟨g62,rfl,h62⟩
  refine ⟨⟨h62.at_ 2 rfl,trivial⟩,?_⟩
  refine dE 11 (xR h62 0 ([(sV (⟨#[98,111,98]⟩)),(zD 5),(zD 1000),zV,zI,(sV (⟨#[107,100,99]⟩)),(lV A 16 c),zN,(lV (some ⟨g61,0,none⟩) 1 1)])) ?_
  rintro _ w63 h63
  refine dX ?_
  exact mK hJ10 (hhJ10 _ _ ⟨g62,g61,_,pM,h63.sel [0,1,2,3,4,5,6,7,8] [0,1] (by kernel_rfl) rfl rfl⟩)
 refine oT (xN h60 40 ([zE,zO,zO,zV,zV,zE,zN,zN,zN])) ?_
 rintro _ w64 ⟨g64,rfl,h64⟩
 refine ⟨⟨h64.at_ 1 rfl,trivial⟩,?_⟩
 refine dT 8 (x_bs h64 35 ([(sV (⟨#[107,100,99]⟩)),(lV B 16 c')]) 1 (by kernel_rfl)) ?_
 rintro _ w65 ⟨g65,rfl,h65⟩
 refine ⟨⟨h65.at_ 2 rfl,trivial⟩,?_⟩
 refine dP 1 [9] ?_
 refine dE 11 (xR h65 1 ([(sV (⟨#[98,111,98]⟩)),(zD 5),(zD 1000),zV,zI,(sV (⟨#[107,100,99]⟩)),(lV A 16 c),zN,(lV (some ⟨g65,0,none⟩) 1 1)])) ?_
 rintro _ w66 h66
 refine dX ?_
 exact mK hJ10 (hhJ10 _ _ ⟨g64,g65,_,pM,h66.sel [1,0,2,3,4,5,6,7,8] [0,1] (by kernel_rfl) rfl rfl⟩)
end
section
open Go.ChangeShapes Go.WideShapes Go.ChangeAt Go.RowKit
set_option maxRecDepth 100000
variable{H:Type}{enc:TypeId × Value->H}{w:World}{base:Nat}{spare:Nat->Bool}{held:Bool}
theorem c22:Tryz.prog.cellsOf 30=16:=by kernel_rfl
theorem c5:Tryz.prog.cellsOf 5=1:=by kernel_rfl
end
section
open Go.ChangeShapes Go.WideShapes Go.ChangeAt Go.RowKit
theorem Tryz.own:ownKnob Tryz.prog.godebug=none:=by kernel_rfl
theorem Tryz.laidOut:laidOutB Tryz.prog=true:=by kernel_rfl
section
variable{H:Type}{enc:TypeId × Value->H}{P:Program}
theorem trodAll_stays{W W':World}{sp':Nat->Bool}(hl:laidOutB P=true):∀ (ts:List TypeId) (vs:List Value) (ds:List (DataW H)) (ps:List MemPlace),
   (ts.all fun t=>P.readableRec t && decide (t<P.types.size))=true->DataW.TrodAll enc P W 0 (fun _=>true) true ts vs ds ps ->
   (∀ p ∈ ps,W.sameAt W' p)->(∀ p ∈ ps,sp' p.block=true)->DataW.TrodAll enc P W' 0 sp' true ts vs ds ps
 | [],_,_,_,_,h,_,_=>by
   obtain ⟨rfl,rfl,rfl⟩:=trodAll_nil h
   exact rfl
 | t::ts,_,_,_,ht,h,hs,hsp=>by
   obtain ⟨v,vs,d,ds,a,b,rfl,rfl,rfl,h1,h2⟩:=trodAll_cons h
   rw [List.all_cons,Bool.and_eq_true,Bool.and_eq_true,decide_eq_true_eq] at ht
   exact ⟨a,b,WideElems.Trod_stays hl ht.1.1 ht.1.2 h1 (fun p hp=>hs p (by simp [hp])) (fun p hp=>hsp p (by simp [hp])),
     trodAll_stays hl ts vs ds b ht.2 h2 (fun p hp=>hs p (by simp [hp])) (fun p hp=>hsp p (by simp [hp])),rfl⟩
theorem post_of_below{f:Func}{s:ChangeSpec}{apart fresh handsOn again:Bool}{W W':World}{args:Array Value}{v:Value}{ds gs:List (DataW H)}{before pa pv:List MemPlace}
   (hW:DataW.Whole enc P f.params.toList s.vars apart W args.toList ds gs before)
   (hres:∀ (b:Nat) (sp:Nat->Bool) (hd:Bool),DataW.TrodAll enc P W' b sp hd f.resultTypes.toList (v.resultList f.resultTypes.size) (s.fn H (ds++gs)).results [])
   (hargs:∀ sp:Nat->Bool,(∀ p ∈ before,sp p.block=true)->DataW.TrodAll enc P W' 0 sp true f.params.toList args.toList (s.fn H (ds++gs)).args pa)
   (hvars:∀ sp:Nat->Bool,(∀ p ∈ before,sp p.block=true)->DataW.TrodVars enc P W' sp s.vars (s.fn H (ds++gs)).vars pv)
   (hps:before=pa++pv) (hb:Below W.heap.size W W')
   (hok:∀ (j:Nat) (t:TypeId) (r:Value),f.resultTypes[j]?=some t->(v.resultList f.resultTypes.size)[j]?=some r->Value.okWide P W' .any 0 t r) :
   s.post enc P f apart fresh handsOn again W args v W':=by
 have hlt:∀ p ∈ before,p.block<W.heap.size:=fun p hp=>hW.lt p hp
 have hold:∀ p ∈ before,(fun b=>decide (b<W.heap.size)) p.block=true:=fun p hp=>by simpa using hlt p hp
 refine ⟨ds,gs,before,[],pa,pv,hW,hres _ _ _,hargs _ hold,hvars _ hold,World.keptBut_mono (fun p hp=>⟨hp,?_⟩) (hb.frame (· ∈ before)),fun _=>?_⟩
 · rw [hps,List.mem_append] at hp
   exact Or.inr hp
 obtain ⟨_,_,_,_,_,hz,hn⟩:=hW
 refine ⟨hok,_,_,([]++pa)++pv,⟨[]++pa,pv,trodAll_append (hargs _ (fun _ _=>rfl)) (hres _ _ _),hvars _ (fun _ _=>rfl),rfl,?_,?_⟩,?_⟩
 · intro b off hp
   have hin:MemPlace.cell b off ∈ before:=by rw [hps];simpa using hp
   rw [hb.frozen (hlt _ hin)]
   exact hz b off hin
 · intro ha
   have:=hn ha
   rw [hps] at this
   simpa using this
 intro p hp _
 rw [hps]
 simpa using hp
/-- A law's post: it returned true, and what was there is as it was. -/
theorem law_post{f:Func}{s:ChangeSpec}{apart fresh handsOn again:Bool}{W W':World}{args:Array Value}{ds gs:List (DataW H)}{before:List MemPlace}{tb:TypeId}
   (hl:laidOutB P=true) (hts:(f.params.toList.all fun t=>P.readableRec t && decide (t<P.types.size))=true) (htb:P.underlying tb=some .bool) (hr:f.resultTypes=#[tb]) (hv:s.vars=[])
   (hfn:∀ ds:List (DataW H),ds.length=f.params.size->s.fn H ds=⟨[.lit (.bool true)],ds,[]⟩)
   (hW:DataW.Whole enc P f.params.toList s.vars apart W args.toList ds gs before) (hb:Below W.heap.size W W') :
   s.post enc P f apart fresh handsOn again W args (.bool true) W':=by
 have hW':=hW
 have hlt:∀ p ∈ before,p.block<W.heap.size:=fun p hp=>hW.lt p hp
 obtain ⟨p,q,hA,hV,rfl,hfz,hnd⟩:=hW
 rw [hv] at hV
 obtain ⟨rfl,rfl⟩:=trodVars_none hV
 have hlen:ds.length=f.params.size:=by
   have:∀ (ts:List TypeId) (vs:List Value) (ds:List (DataW H)) (p:List MemPlace),DataW.TrodAll enc P W 0 (fun _=>true) true ts vs ds p->ds.length=ts.length:=by
     intro ts
     induction ts with
     | nil=>intro vs ds p h;obtain ⟨rfl,rfl,rfl⟩:=trodAll_nil h;rfl
     | cons t ts ih =>
       intro vs ds p h
       obtain ⟨v,vs,d,ds,a,b,rfl,rfl,rfl,h1,h2⟩:=trodAll_cons h
       simp [ih _ _ _ h2]
   simpa using this _ _ _ _ hA
 simp only [List.append_nil] at hW' hlt
 have hds:s.fn H (ds++[])=⟨[.lit (.bool true)],ds,[]⟩:=by rw [List.append_nil];exact hfn ds hlen
 refine post_of_below (pa:=p) (pv:=[]) (gs:=[]) hW' ?_ ?_ ?_ (by simp) hb ?_
 · intro b sp hd
   rw [hds,hr]
   exact trodAll_mk1 (shut_bool htb true)
 · intro sp hsp
   rw [hds]
   exact trodAll_stays hl _ _ _ _ hts hA (fun x hx=>hb.same (hlt x hx)) hsp
 · intro sp _
   rw [hds,hv]
   exact rfl
 exact ok_one hr rfl (okWide_bool_mk htb true)
end
section
variable{H:Type}{enc:TypeId × Value->H}{w:World}{base:Nat}
end
end
section
open Go.ChangeShapes
variable{H:Type}{enc:TypeId × Value->H}{P:Program}{w:World}{base:Nat}{spare:Nat->Bool}{held:Bool}
end
section
open Go.ChangeShapes Go.WideShapes Go.ChangeAt Go.RowKit Go.QT
set_option maxRecDepth 100000
section
variable{H:Type}{enc:TypeId × Value->H}{w:World}{base:Nat}
theorem kInt:Tryz.prog.cellsOf 3=1:=by kernel_rfl
theorem kStr:Tryz.prog.cellsOf 9=1:=by kernel_rfl
theorem kBool:Tryz.prog.cellsOf 4=1:=by kernel_rfl
theorem uBoolK:Tryz.prog.underlying 4=some .bool:=by kernel_rfl
theorem uIntK:Tryz.prog.underlying 3=some (.int .i64):=by kernel_rfl
theorem uStrK:Tryz.prog.underlying 9=some .string:=by kernel_rfl
theorem fldK{S:TypeId}{k:Nat}{l:List (Nat × Nat)}{n:Nat}{cs:List Value}{xs:List (DataW H × List MemPlace)}{sp:Nat->Bool}(hF:(Tryz.prog.fieldsOf S).toList.map (fun f=>(f.type,f.offset))=l)(hk:l.length=k)(hxl:xs.length=(Tryz.prog.fieldsOf S).size)
   (hx:∀ (i:Nat) (f:Field),(Tryz.prog.fieldsOf S)[i]?=some f->xs[i]?=DataW.trod enc Tryz.prog w base sp true n f.type ((cs.drop f.offset).take (Tryz.prog.cellsOf f.type))):∀ (i:Nat) (t o:Nat),l[i]?=some (t,o)->∃ y,DataW.trod enc Tryz.prog w base sp true n t ((cs.drop o).take (Tryz.prog.cellsOf t))=some y:=by
 intro i t o h
 have hi:i<k:=by rw [← hk];exact (List.getElem?_eq_some_iff.1 h).1
 have hs:(Tryz.prog.fieldsOf S).size=k:=by
   have:=congrArg List.length hF
   rw [← hk,← this];simp
 rw [← hF,List.getElem?_map,Option.map_eq_some_iff] at h
 obtain ⟨f,hf1,hf2⟩:=h
 injection hf2 with h1 h2
 have:=hx i f (by rw [← Array.getElem?_toList];exact hf1)
 rw [h1,h2,List.getElem?_eq_getElem (by omega)] at this
 exact ⟨_,this.symm⟩
theorem rulUnd:Tryz.prog.underlying 23=some (.struct (Tryz.prog.fieldsOf 23)):=by kernel_rfl
theorem rulFields:(Tryz.prog.fieldsOf 23).toList.map (fun f=>(f.type,f.offset))=[(3,0),(3,1),(3,2),(4,3),(3,4),(3,5)]:=by kernel_rfl
theorem rulCellsOf:Tryz.prog.cellsOf 23=6:=by kernel_rfl
theorem open_rules{b0:Nat}{v:Value}{dd:DataW H}{p:List MemPlace}{sp:Nat->Bool}(hv:Value.okWide Tryz.prog w .any b0 23 v)(h:DataW.Trod enc Tryz.prog w base sp true 23 v dd p) :
   ∃ n0 n1 n2 m3 n4 n5,v=.agg #[.int .i64 n0,.int .i64 n1,.int .i64 n2,.bool m3,.int .i64 n4,.int .i64 n5]:=by
 obtain ⟨cs,rfl,hcl⟩:=okWide_struct rulUnd hv
 obtain ⟨fuel,hf⟩:=h
 have hc:(Value.agg cs).cells=cs:=rfl
 rw [hc] at hf
 obtain ⟨xs,n,rfl,_,hl,hxl,hx⟩:=DataW.trod_struct rulUnd hf
 rw [rulCellsOf] at hl
 have fld:=fldK rulFields rfl (by omega) (fun i f h=>(hx i f h).symm)
 obtain ⟨l⟩:=cs
 simp only at hl fld
 match l,hl with
 | [c0,c1,c2,c3,c4,c5],_ =>
   obtain ⟨y0,h0⟩:=fld 0 3 0 rfl
   obtain ⟨y1,h1⟩:=fld 1 3 1 rfl
   obtain ⟨y2,h2⟩:=fld 2 3 2 rfl
   obtain ⟨y3,h3⟩:=fld 3 4 3 rfl
   obtain ⟨y4,h4⟩:=fld 4 3 4 rfl
   obtain ⟨y5,h5⟩:=fld 5 3 5 rfl
   rw [kInt] at h0
   rw [kInt] at h1
   rw [kInt] at h2
   rw [kBool] at h3
   rw [kInt] at h4
   rw [kInt] at h5
   obtain ⟨n0,e0,_,w0⟩:=DataW.trod_int uIntK h0
   obtain ⟨n1,e1,_,w1⟩:=DataW.trod_int uIntK h1
   obtain ⟨n2,e2,_,w2⟩:=DataW.trod_int uIntK h2
   obtain ⟨n3,e3,_⟩:=DataW.trod_bool uBoolK h3
   obtain ⟨n4,e4,_,w4⟩:=DataW.trod_int uIntK h4
   obtain ⟨n5,e5,_,w5⟩:=DataW.trod_int uIntK h5
   obtain rfl:c0=_:=by simpa using e0
   obtain rfl:c1=_:=by simpa using e1
   obtain rfl:c2=_:=by simpa using e2
   obtain rfl:c3=_:=by simpa using e3
   obtain rfl:c4=_:=by simpa using e4
   obtain rfl:c5=_:=by simpa using e5
   exact ⟨_,_,_,_,_,_,rfl⟩
end
end
section
open Go.ChangeShapes Go.WideShapes Go.ChangeAt Go.RowKit Go.QT
set_option maxRecDepth 100000
theorem list_of{α:Type}(n:Nat)(p:Nat->α->Prop)(h:∀ i,i<n->∃ z,p i z):∃ st:List α,st.length=n/\∀ i z,st[i]?=some z->p i z:=by
 induction n with
 | zero=>exact ⟨[],rfl,by simp⟩
 | succ n ih =>
   obtain ⟨st,hl,hst⟩:=ih fun i hi=>h i (by omega)
   obtain ⟨z,hz⟩:=h n (by omega)
   refine ⟨st++[z],by simp [hl],fun i y hy=>?_⟩
   by_cases hi:i<st.length
   · rw [List.getElem?_append_left hi] at hy;exact hst i y hy
   have e:i=st.length:=by
     have:=(List.getElem?_eq_some_iff.1 hy).1
     simp at this;omega
   subst e
   rw [List.getElem?_append_right (Nat.le_refl _),Nat.sub_self] at hy
   have hy:z=y:=by simpa using hy
   subst hy;rw [hl];exact hz
section
variable{H:Type}{enc:TypeId × Value->H}{w:World}{base:Nat}
/-- A row of elements of some cells each, as it comes in. -/
theorem open_row{α:Type}{E S sz:Nat}(cells:α->List Value)(Q:α->Prop)(hu:Tryz.prog.underlying S=some (.slice E))(hsz:Tryz.prog.cellsOf E=sz)(hpos:0<sz)(hlen:∀ z,(cells z).length=sz)
   (hel:∀ {fuel:Nat} {cs:List Value} {x:DataW H × List MemPlace} {sp:Nat->Bool},cs.length=sz->DataW.trod enc Tryz.prog w base sp true fuel E cs=some x->∃ z,cs=cells z/\Q z)
   {b0:Nat} {v:Value} {d:DataW H} {p:List MemPlace} {sp:Nat->Bool} (hv:Value.okWide Tryz.prog w .any b0 S v) (h:DataW.Trod enc Tryz.prog w base sp true S v d p) :
   ∃ A c st,v=.slice A (List.length st) c/\RV w sz A c (st.map cells)/\∀ z ∈ st,Q z:=by
 obtain ⟨a1,len,cap,rfl⟩:=okWide_slice hu hv
 obtain ⟨fuel,hf⟩:=h
 rcases Go.Deep.open_slice hu hf with ⟨hcs,_⟩|⟨a,len',cap',m,n,D,Pl,hcs,_,hl,hm,hmm,_,hx⟩
 · simp [Value.cells] at hcs
   obtain ⟨rfl,rfl,rfl⟩:=hcs
   exact ⟨none,0,[],rfl,⟨by simp,Nat.zero_le _,by simp,by simp⟩,by simp⟩
 simp [Value.cells] at hcs
 obtain ⟨rfl,rfl,rfl⟩:=hcs
 have hml:len<=m:=by rw [hmm];split <;> omega
 obtain ⟨st,hlen2,hst⟩:=list_of len (fun i z=>w.cells? base (a.add (i*sz)) sz=some (cells z)/\Q z) fun i hi=>by
   obtain ⟨cs',h1,h2⟩:=hx i (by omega)
   rw [hsz] at h1
   obtain ⟨z,rfl,hs⟩:=hel (World.cells?_some h1).2.1 h2
   exact ⟨z,h1,hs⟩
 subst hlen2
 refine ⟨some a,cap,st,rfl,⟨by simpa using hl,hm,?_,?_⟩,fun z hz=>?_⟩
 · intro y hy
   rw [List.mem_map] at hy
   obtain ⟨z,_,rfl⟩:=hy
   exact hlen z
 · intro hne
   have hpos2:0<st.length:=by
     rcases Nat.eq_zero_or_pos st.length with h0|h0
     · exact absurd (by rw [List.eq_nil_of_length_eq_zero h0];rfl) hne
     exact h0
   have hz0:=(hst 0 _ (List.getElem?_eq_getElem hpos2)).1
   obtain ⟨_,_,hc0⟩:=World.cells?_some hz0
   obtain ⟨ab,ao,spot⟩:=a
   have h00:=hc0 0 (by omega)
   have hl0:=hlen st[0]
   have h01:w.cell? (((⟨ab,ao,spot⟩:Addr).add (0*sz)).add 0)=some ((cells st[0])[0]'(by omega)):=by rw [h00,List.getElem?_eq_getElem (by omega)]
   have hspot:spot=none:=by simpa [Addr.add] using World.cell?_spot h01
   subst hspot
   refine ⟨ab,ao,rfl,?_,fun i y hy j u hu=>?_⟩
   · rcases Nat.lt_or_ge ab w.heap.size with h' | h'
     · exact h'
     rw [Addr.add_lit,Addr.add_lit] at h01
     simp [World.cell?,Array.getElem?_eq_none h'] at h01
   rw [List.getElem?_map,Option.map_eq_some_iff] at hy
   obtain ⟨z,hz,rfl⟩:=hy
   obtain ⟨_,_,hc⟩:=World.cells?_some (hst i z hz).1
   have hj:j<sz:=by have:=(List.getElem?_eq_some_iff.1 hu).1;rw [hlen z] at this;exact this
   have:=hc j hj
   rw [Addr.add_lit,Addr.add_lit] at this
   rw [this];exact hu
 obtain ⟨i,hi⟩:=List.getElem?_of_mem hz
 exact (hst i z hi).2
theorem askUnd:Tryz.prog.underlying 63=some (.struct (Tryz.prog.fieldsOf 63)):=by kernel_rfl
theorem askFields:(Tryz.prog.fieldsOf 63).toList.map (fun f=>(f.type,f.offset))=[(9,0),(3,1),(3,2),(4,3),(4,4),(3,5),(3,6),(3,7),(3,8),(3,9)]:=by kernel_rfl
theorem askCellsOf:Tryz.prog.cellsOf 63=10:=by kernel_rfl
/-- What is asked for. -/
structure Ask where
 srv:ByteArray
 nn:Int
 till:Int
 r:Bool
 m:Bool
 ex:Int
 la:Int
 tm:Int
 sq:Int
 tn:Int
def askC(a:Ask):List Value:=[.string a.srv,.int .i64 a.nn,.int .i64 a.till,.bool a.r,.bool a.m,.int .i64 a.ex,.int .i64 a.la,.int .i64 a.tm,.int .i64 a.sq,.int .i64 a.tn]
theorem ask_of{fuel:Nat}{cs:List Value}{x:DataW H × List MemPlace}{sp:Nat->Bool}(hf:DataW.trod enc Tryz.prog w base sp true fuel 63 cs=some x):∃ a:Ask,cs=askC a:=by
 obtain ⟨xs,n,rfl,_,hl,hxl,hx⟩:=DataW.trod_struct askUnd hf
 rw [askCellsOf] at hl
 have fld:=fldK askFields rfl (by omega) (fun i f h=>(hx i f h).symm)
 match cs,hl with
 | [c0,c1,c2,c3,c4,c5,c6,c7,c8,c9],_ =>
   obtain ⟨y0,h0⟩:=fld 0 9 0 rfl
   rw [kStr] at h0
   obtain ⟨y1,h1⟩:=fld 1 3 1 rfl
   rw [kInt] at h1
   obtain ⟨y2,h2⟩:=fld 2 3 2 rfl
   rw [kInt] at h2
   obtain ⟨y3,h3⟩:=fld 3 4 3 rfl
   rw [kBool] at h3
   obtain ⟨y4,h4⟩:=fld 4 4 4 rfl
   rw [kBool] at h4
   obtain ⟨y5,h5⟩:=fld 5 3 5 rfl
   rw [kInt] at h5
   obtain ⟨y6,h6⟩:=fld 6 3 6 rfl
   rw [kInt] at h6
   obtain ⟨y7,h7⟩:=fld 7 3 7 rfl
   rw [kInt] at h7
   obtain ⟨y8,h8⟩:=fld 8 3 8 rfl
   rw [kInt] at h8
   obtain ⟨y9,h9⟩:=fld 9 3 9 rfl
   rw [kInt] at h9
   obtain ⟨n0,e0,_,_⟩:=DataW.trod_string uStrK h0
   obtain ⟨n1,e1,_,w1⟩:=DataW.trod_int uIntK h1
   obtain ⟨n2,e2,_,w2⟩:=DataW.trod_int uIntK h2
   obtain ⟨n3,e3,_⟩:=DataW.trod_bool uBoolK h3
   obtain ⟨n4,e4,_⟩:=DataW.trod_bool uBoolK h4
   obtain ⟨n5,e5,_,w5⟩:=DataW.trod_int uIntK h5
   obtain ⟨n6,e6,_,w6⟩:=DataW.trod_int uIntK h6
   obtain ⟨n7,e7,_,w7⟩:=DataW.trod_int uIntK h7
   obtain ⟨n8,e8,_,w8⟩:=DataW.trod_int uIntK h8
   obtain ⟨n9,e9,_,w9⟩:=DataW.trod_int uIntK h9
   obtain rfl:c0=_:=by simpa using e0
   obtain rfl:c1=_:=by simpa using e1
   obtain rfl:c2=_:=by simpa using e2
   obtain rfl:c3=_:=by simpa using e3
   obtain rfl:c4=_:=by simpa using e4
   obtain rfl:c5=_:=by simpa using e5
   obtain rfl:c6=_:=by simpa using e6
   obtain rfl:c7=_:=by simpa using e7
   obtain rfl:c8=_:=by simpa using e8
   obtain rfl:c9=_:=by simpa using e9
   exact ⟨⟨n0,n1,n2,n3,n4,n5,n6,n7,n8,n9⟩,rfl⟩
theorem uAsks:Tryz.prog.underlying 60=some (.slice 63):=by kernel_rfl
theorem open_asks{b0:Nat}{v:Value}{d:DataW H}{p:List MemPlace}{sp:Nat->Bool}(hv:Value.okWide Tryz.prog w .any b0 60 v)(h:DataW.Trod enc Tryz.prog w base sp true 60 v d p) :
   ∃ A c L,v=.slice A (List.length L) c/\RV w 10 A c (L.map askC):=by
 obtain ⟨A,c,L,rfl,hr,_⟩:=open_row (α:=Ask) askC (fun _=>True) uAsks askCellsOf (by omega) (fun _=>rfl) (fun {_ cs _ _} _ hf=>by
   obtain ⟨a,e⟩:=ask_of hf;exact ⟨a,e,trivial⟩) hv h
 exact ⟨A,c,L,rfl,hr⟩
end
end
end Go.Proofs.YtdefpmmdpfpipaaGreat
