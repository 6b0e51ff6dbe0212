/- Package kas: room in tables;what its functions leave. -/
import Derived.Lib.Bytealg
import Derived.Test.YtdefpmmdpfpipaaGreatCA10
set_option maxRecDepth 100000
set_option maxHeartbeats 4000000
namespace Go.Proofs.YtdefpmmdpfpipaaGreat
section
open Go.Value renaming int->iV,slice->lV,string->sV,bool->bV,agg->aV
open Go.RowKit Go.QT
theorem rv_strs{w:World}{g:Nat}{T:TypeId}{cs:List Value}(hb:Blk w g T cs)(l:List ByteArray)(hc:cs=l.map sV)(hl:l.length<=1000):RV w 1 (some ⟨g,0,none⟩) l.length (l.map fun x=>[sV x]):=by
 subst hc
 refine ⟨by simp,by unfold maxLen;omega,by simp,fun _=>⟨g,0,rfl,hb.lt,fun i x hx j u hu=>?_⟩⟩
 rw [List.getElem?_map] at hx
 cases h:l[i]? with
 | none=>rw [h] at hx;cases hx
 | some y =>
   rw [h] at hx
   injection hx with hx
   subst hx
   have hj:j=0:=by have:=(List.getElem?_eq_some_iff.1 hu).1;simpa using this
   subst hj
   rw [show 0+i*1+0=i by omega]
   refine (hb.cell _).trans ?_
   rw [List.getElem?_map,h]
   exact hu
section
variable{o:Oper}{a:Act}{F0:Nat->Prop}{w0 w:World}{ro rs:List Res}
theorem x_mright(h:Hp F0 w0 w ro rs)(i j:Nat){g g':Nat}{T T':TypeId}{cs ds:List Value}(hi:rs[i]?=some (rBlk g T cs))(hj:rs[j]?=some (rBlk g' T' ds))(ns:List ByteArray)(l:List Int)(n m:Nat)(hc:cs=ns.map sV)(hd:ds=l.map (iV .i64))(hn:ns.length=n)(hm:l.length=m)(hn2:n<=1000)(hm2:m<=1000)
   (hns:∀ s ∈ ns,rightN s=true/\s.size<=1000000000) (hls:∀ x ∈ l,inN x=true) (hp:pureVal Tryz.prog (execOp a.eval o)=some (.enter 81 #[.slice (some ⟨g,0,none⟩) n n,.slice (some ⟨g',0,none⟩) m m])) :
   OpTo Tryz.prog o a w (fun u w'=>u=.bool true/\Hp F0 w0 w' ro rs):=by
 subst hn;subst hm
 exact x_dp h _ [_,_] hp (mright_any ns l _ _ _ _ w hn2 hm2 hns hls (rv_strs (h.own i _ hi) ns hc hn2) (rv_ints (h.own j _ hj) l hd hm2))
end
theorem mtick0_any(A:Option Addr)(c:Nat)(w:World):Calls Tryz.prog 82 #[.slice A 0 c] w (MvPost w (.mk 2 0 0 [] [])):=by
 have h0:=Hp.nil (fun _=>False) w
 refine mE 36 ?_
 refine mN h0 157 ([zO,zO,(iV .u64 0),zN,zN]) fun g2 w2 h2=>?_
 refine mD h2 [zO,zN] (dseq_any 0 none 0 0 _) (fun w4 h4=>?_)
 refine mN h4 157 ([zO,zO,(iV .u64 0),zN,zN]) fun g5 w5 h5=>?_
 refine mT (xR h5 0 ([(zD 2),zO,(iV .u64 0),zN,zN])) fun _ w6 h6=>?_
 refine mL (fun mM xX aA wL=>∃ (zz:Nat),mM=zz/\aA=patch xX 36 [(0,(lV A 0 c)),(2,(pt g2 0)),(4,(pt g5 0)),(10,(lV A 0 c)),(11,zO),(12,zO)]/\Hp (fun _=>False) w wL [] [rBlk g5 157 ([(zD 2),zO,(iV .u64 0),zN,zN]),rBlk g2 157 ([zO,zO,(iV .u64 0),zN,zN])]) ⟨_,_,0,rfl,pM,h6.sel [0,1] [] (by kernel_rfl) rfl rfl⟩ ?_
 rintro _ x9 _ w9 ⟨zz,rfl,rfl,h9⟩ KL9 hKL9
 refine mAt ?_
 refine ma h9 0 ?_
 refine mT (xR h9 1 ([(zD 2),zO,(iV .u64 0),zN,zN])) fun _ w13 h13=>?_
 refine mF (post_2 (r:=.cell 2 157) (s:=.tmp 3) (by kernel_rfl) rfl (rce (h13.at_ 1 rfl)) (rtm zI) ?_)
 exact mv_nil h13 0
theorem mtick1_any{s:ByteArray}{b:Bytes}{A B:Option Addr}{c d:Nat}{w:World}(hA:RV w 2 A c [[.string s,.slice B b.length d]])(hb:SB w (.slice B b.length d) b)(hl:limTh (.ticket s b))(hr:rightN s=true):Calls Tryz.prog 82 #[.slice A 1 c] w (MvPost w (.mk 2 0 0 [] [valD (.ticket s b)])):=by
 have hrt:rightTh (.ticket s b)=true:=by show rightM s []=true;unfold rightM;rw [hr];rfl
 have h0:=(Hp.ro1 (rRV 2 A c [[.string s,.slice B b.length d]]) hA).addR (rSB (.slice B b.length d) b) hb (by simp)
 refine mE 36 ?_
 refine mN h0 157 ([zO,zO,(iV .u64 0),zN,zN]) fun g2 w2 h2=>?_
 refine mD h2 [zO,zN] (dseq_any 0 none 0 0 _) (fun w4 h4=>?_)
 refine mN h4 157 ([zO,zO,(iV .u64 0),zN,zN]) fun g5 w5 h5=>?_
 refine mT (xR h5 0 ([(zD 2),zO,(iV .u64 0),zN,zN])) fun _ w6 h6=>?_
 refine mL (fun mM xX aA wL=>(mM=1/\aA=patch xX 36 [(0,(lV A 1 c)),(2,(pt g2 0)),(3,zV),(4,(pt g5 0)),(10,(lV A 1 c)),(11,(zD 1)),(12,zO)]/\Hp (fun _=>False) w wL [rSB ((lV B b.length d)) b,rRV 2 A c ([[.string s,.slice B b.length d]])] [rBlk g5 157 ([(zD 2),zO,(iV .u64 0),zN,zN]),rBlk g2 157 ([zO,zO,(iV .u64 0),zN,zN])])∨(∃ (gU9_00:Nat) (gU9_01:Nat) (gU9_02:Nat) (gU9_03:Nat) (nU9_04:Nat) (AU9_05:Option Addr) (cU9_06:Nat) (FU9_07:Nat->Prop),mM=0/\aA=patch xX 36 [(0,(lV A 1 c)),(2,(pt g2 0)),(3,zV),(4,(pt g5 0)),(6,(pt gU9_00 0)),(7,(pt gU9_01 0)),(8,zI),(10,(lV A 1 c)),(11,(zD 1)),(12,(zD 1)),(13,zI),(23,zV)]/\Hp (fun _=>False) w wL [rSB ((lV B b.length d)) b,rRV 2 A c ([[.string s,.slice B b.length d]])] [rBlk gU9_02 157 ([(zD 2),(zD ((tagTh (.ticket s b):Int))),(iV .u64 0),zN,(lV (some ⟨gU9_03,0,none⟩) nU9_04 nU9_04)]),rOV 157 5 ((lV AU9_05 1 cU9_06)) ([[(zD 2),(zD ((tagTh (.ticket s b):Int))),(iV .u64 0),zN,(lV (some ⟨gU9_03,0,none⟩) nU9_04 nU9_04)]]),rBlk gU9_01 157 ([(zD 2),(zD ((tagTh (.ticket s b):Int))),(iV .u64 0),zN,(lV (some ⟨gU9_03,0,none⟩) nU9_04 nU9_04)]),rDV FU9_07 [(zD 2),(zD ((tagTh (.ticket s b):Int))),(iV .u64 0),zN,(lV (some ⟨gU9_03,0,none⟩) nU9_04 nU9_04)] (valD (.ticket s b)),rBlk gU9_00 35 ([(sV s),(lV B b.length d)]),rBlk g5 157 ([(zD 2),zO,(iV .u64 0),zN,(lV AU9_05 1 cU9_06)]),rBlk g2 157 ([zO,zO,(iV .u64 0),zN,zN])])) ⟨_,_,.inl ⟨rfl,pM,h6⟩⟩ ?_
 rintro _ x10 _ w10 (⟨rfl,rfl,h10⟩|⟨gU9_00,gU9_01,gU9_02,gU9_03,nU9_04,AU9_05,cU9_06,FU9_07,rfl,rfl,h10⟩) KL10 hKL10
 ·
  refine mAt ?_
  refine mW 14 (eIx (RV.lenIs (n:=1) (h10.rd 1 rfl) rfl).2 0 1 (RV.lenIs (n:=1) (h10.rd 1 rfl) rfl).1 (by decide) 38 (.tmp 10) (.tmp 12) .i64 35) ?_
  refine mW 15 (e_elemsN (RV.lenIs (n:=1) (h10.rd 1 rfl) rfl).2 0 0 ([(sV s),(lV B b.length d)]) rfl 35 (.tmp 14) (by kernel_rfl) ([(sV s),(lV B b.length d)]) (by kernel_rfl) (by kernel_rfl) (by kernel_rfl)) ?_
  refine mN h10 35 ([zE,zN]) fun g15 w15 h15=>?_
  refine mT (xR h15 0 ([(sV s),(lV B b.length d)])) fun _ w16 h16=>?_
  refine ma h16 0 ?_
  refine mT (x_mval h16 (t:=.ticket s b) hrt ⟨B,d,rfl,rsg_of (h16.rd 0 rfl)⟩ hl (by kernel_rfl)) ?_
  rintro _ w18 ⟨F18,g18,n18,rfl,h18⟩
  refine mN h18 157 ([zO,zO,(iV .u64 0),zN,zN]) fun g19 w19 h19=>?_
  refine mT (xR h19 0 ([(zD 2),(zD ((tagTh (.ticket s b):Int))),(iV .u64 0),zN,(lV (some ⟨g18,0,none⟩) n18 n18)])) fun _ w20 h20=>?_
  have h23:=h20.ovNil 157 5
  refine ma h23 4 ?_
  refine ma h23 1 ?_
  refine mT (x_bs h23 157 ([(zD 2),(zD ((tagTh (.ticket s b):Int))),(iV .u64 0),zN,(lV (some ⟨g18,0,none⟩) n18 n18)]) 1 (by kernel_rfl)) ?_
  rintro _ w24 ⟨g24,rfl,h24⟩
  refine mT (xPu h24 1 0 rfl rfl (.tmp 26) (.tmp 28) 155 72 (aV ([zO,zO,(iV .u64 0),zN,zN]).toArray) (by decide) (by decide) ([[(zD 2),(zD ((tagTh (.ticket s b):Int))),(iV .u64 0),zN,(lV (some ⟨g18,0,none⟩) n18 n18)]]) (1)) ?_
  rintro _ w25 ⟨A25,c25,rfl,h25⟩
  refine mT (xS h25 5 ([(zD 2),zO,(iV .u64 0),zN,(lV A25 1 c25)])) fun _ w26 h26=>?_
  exact mK KL10 (hKL10 _ _ ⟨0,_,(by decide),.inr (⟨g15,g19,g24,g18,n18,A25,c25,F18,rfl,pM,h26.sel [0,1,2,3,4,5,6] [0,1] (by kernel_rfl) rfl rfl⟩)⟩)
 refine mAt ?_
 refine ma h10 5 ?_
 refine mT (xR h10 6 ([(zD 2),zO,(iV .u64 0),zN,(lV AU9_05 1 cU9_06)])) fun _ w30 h30=>?_
 refine mF (post_2 (r:=.cell 2 157) (s:=.tmp 3) (by kernel_rfl) rfl (rce (h30.at_ 6 rfl)) (rtm zI) ?_)
 exact mv_ov h30 1 rfl (.cons (dvr_dv h30 3 rfl) .nil) rfl
theorem mtick_any{xs:List Xt}{E:Option Addr}{ce:Nat}{w:World}(h:(rXt E ce xs).Φ w)(hx:okXt xs):Calls Tryz.prog 82 #[.slice E xs.length ce] w (MvPost w (.mk 2 0 0 [] ((xs.map Xt.th).map valD))):=by
 match xs,h,hx with
 | [],_,_=>exact mtick0_any E ce w
 | [x],h,hx=>exact mtick1_any h.1 (h.2 x (by simp)) (hx.2 x (by simp)).2 (hx.2 x (by simp)).1
 | _::_::_,_,hx=>exact absurd hx.1 (by simp)
end
section
open Go.RowKit Go.QT
theorem vTgs_any{s ts:ByteArray}{n t:Int}{r m:Bool}{tb ab:Bytes}{xs:List Xt}{C D E:Option Addr}{cc cd ce:Nat}{w:World}(hb:SB w (.slice C tb.length cc) tb)(ha:SB w (.slice D ab.length cd) ab)(hE:(rXt E ce xs).Φ w)(hx:okXt xs)
   (hs:rightN s=true) (hsl:s.size<=1000000) (hn:inN n=true) (ht:inN t=true) (hl:limTh (.ticket ts tb)) (hts:rightN ts=true) (hal:ab.length<=1000000) :
   Calls Tryz.prog 56 #[.iface 40 (.agg #[.string s,.int .i64 n,.int .i64 t,.bool r,.bool m,.string ts,.slice C tb.length cc,.slice D ab.length cd,.slice E xs.length ce])] w (MvPost w (tgsD s n t r m (.ticket ts tb) ab (xs.map Xt.th))):=by
 have hrt:rightTh (.ticket ts tb)=true:=by show rightM ts []=true;unfold rightM;rw [hts];rfl
 have h0:=((Hp.ro1 (rSB (.slice C tb.length cc) tb) hb).addR (rSB (.slice D ab.length cd) ab) ha (by simp)).addR (rXt E ce xs) hE (by simp)
 refine mE 397 ?_
 refine mN h0 157 ([(Value.int .i64 0),(Value.int .i64 0),(Value.int .u64 0),(Value.slice none 0 0),(Value.slice none 0 0)]) fun g2 w2 h2=>?_
 refine mN h2 40 ([(Value.string ByteArray.empty),(Value.int .i64 0),(Value.int .i64 0),(Value.bool false),(Value.bool false),(Value.string ByteArray.empty),(Value.slice none 0 0),(Value.slice none 0 0),(Value.slice none 0 0)]) fun g9 w9 h9=>?_
 refine mT (xR h9 0 ([(Value.string s),(Value.int .i64 n),(Value.int .i64 t),(Value.bool r),(Value.bool m),(Value.string ts),(Value.slice C tb.length cc),(Value.slice D ab.length cd),(Value.slice E xs.length ce)])) fun _ w10 h10=>?_
 refine ma h10 0 ?_
 refine mT (x_mval h10 (t:=.ticket ts tb) hrt ⟨C,cc,rfl,rsg_of (h10.rd 2 rfl)⟩ hl (by kernel_rfl)) ?_
 rintro _ w12 ⟨F12,g12,n12,rfl,h12⟩
 refine mN h12 157 ([(Value.int .i64 0),(Value.int .i64 0),(Value.int .u64 0),(Value.slice none 0 0),(Value.slice none 0 0)]) fun g13 w13 h13=>?_
 refine mT (xR h13 0 ([(Value.int .i64 2),(Value.int .i64 ((tagTh (.ticket ts tb):Int))),(Value.int .u64 0),(Value.slice none 0 0),(Value.slice (some ⟨g12,0,none⟩) n12 n12)])) fun _ w14 h14=>?_
 refine ma h14 2 ?_
 refine mT (x_mv h14 82 [(Value.slice E xs.length ce)] (by kernel_rfl) (mtick_any (h14.rd 0 rfl) hx)) ?_
 rintro _ w16 ⟨F16,A16,c16,rfl,h16⟩
 refine mN h16 157 ([(Value.int .i64 0),(Value.int .i64 0),(Value.int .u64 0),(Value.slice none 0 0),(Value.slice none 0 0)]) fun g17 w17 h17=>?_
 refine mT (xR h17 0 ([(Value.int .i64 2),(Value.int .i64 0),(Value.int .u64 0),(Value.slice none 0 0),(Value.slice A16 (((xs.map Xt.th).map valD).length) c16)])) fun _ w18 h18=>?_
 refine dG h18 39 38 (fun W=>(rBlk g9 40 ([(Value.string s),(Value.int .i64 n),(Value.int .i64 t),(Value.bool r),(Value.bool m),(Value.string ts),(Value.slice C tb.length cc),(Value.slice D ab.length cd),(Value.slice E xs.length ce)])).Φ W/\(rBlk g13 157 ([(Value.int .i64 2),(Value.int .i64 ((tagTh (.ticket ts tb):Int))),(Value.int .u64 0),(Value.slice none 0 0),(Value.slice (some ⟨g12,0,none⟩) n12 n12)])).Φ W/\(rBlk g17 157 ([(Value.int .i64 2),(Value.int .i64 0),(Value.int .u64 0),(Value.slice none 0 0),(Value.slice A16 (((xs.map Xt.th).map valD).length) c16)])).Φ W/\True) (fun w20 h20=>⟨h20.at_ 4 rfl,h20.at_ 2 rfl,h20.at_ 0 rfl,trivial⟩) ?_
 intro w20 h20
 refine dP 32 [0,3,6,9,12,16,22] ?_
 refine dLs 27 [1,4,7,10,13] (fun W hW=>hW.1) ?_
 refine dL 15 (fun W hW=>hW.2.1) ?_
 refine dL 17 (fun W hW=>hW.1) ?_
 refine dL 19 (fun W hW=>hW.2.2.1) ?_
 refine dT 2 (x_rawT h20 78 [(Value.string s)] (by kernel_rfl) (mtext_any s _ (by omega))) ?_
 rintro _ w21 ⟨A21,c21,rfl,h21,_⟩
 refine ⟨⟨h21.at_ 5 rfl,h21.at_ 3 rfl,h21.at_ 1 rfl,trivial⟩,?_⟩
 refine dD 5 h21 [(Value.int .i64 n)] (mnum_any n _) (fun w22 h22=>⟨⟨h22.at_ 5 rfl,h22.at_ 3 rfl,h22.at_ 1 rfl,trivial⟩,?_⟩)
 refine dD 8 h22 [(Value.int .i64 t)] (mnum_any t _) (fun w23 h23=>⟨⟨h23.at_ 5 rfl,h23.at_ 3 rfl,h23.at_ 1 rfl,trivial⟩,?_⟩)
 refine dD 11 h23 [(Value.bool r)] (mtruth_any r _) (fun w24 h24=>⟨⟨h24.at_ 5 rfl,h24.at_ 3 rfl,h24.at_ 1 rfl,trivial⟩,?_⟩)
 refine dD 14 h24 [(Value.bool m)] (mtruth_any m _) (fun w25 h25=>⟨⟨h25.at_ 5 rfl,h25.at_ 3 rfl,h25.at_ 1 rfl,trivial⟩,?_⟩)
 refine dT 18 (x_rawT h25 80 [(Value.slice D ab.length cd)] (by kernel_rfl) (draw_any (Value.slice D ab.length cd) ab _ (h25.rd 1 rfl) (by omega))) ?_
 rintro _ w26 ⟨A26,c26,rfl,h26,_⟩
 refine ⟨⟨h26.at_ 6 rfl,h26.at_ 4 rfl,h26.at_ 2 rfl,trivial⟩,?_⟩
 refine dT 20 (x_bs h26 157 ([(Value.int .i64 1),(Value.int .i64 0),(Value.int .u64 0),(Value.slice A21 s.data.toList.length c21),(Value.slice none 0 0),(Value.int .i64 0),(Value.int .i64 0),(Value.int .u64 ((IntKind.u64.wrap n))),(Value.slice none 0 0),(Value.slice none 0 0),(Value.int .i64 0),(Value.int .i64 0),(Value.int .u64 ((IntKind.u64.wrap t))),(Value.slice none 0 0),(Value.slice none 0 0),(Value.int .i64 0),(Value.int .i64 0),(Value.int .u64 ((IntKind.u64.wrap ((r.toNat:Nat):Int)))),(Value.slice none 0 0),(Value.slice none 0 0),(Value.int .i64 0),(Value.int .i64 0),(Value.int .u64 ((IntKind.u64.wrap ((m.toNat:Nat):Int)))),(Value.slice none 0 0),(Value.slice none 0 0),(Value.int .i64 2),(Value.int .i64 ((tagTh (.ticket ts tb):Int))),(Value.int .u64 0),(Value.slice none 0 0),(Value.slice (some ⟨g12,0,none⟩) n12 n12),(Value.int .i64 1),(Value.int .i64 0),(Value.int .u64 0),(Value.slice A26 ab.length c26),(Value.slice none 0 0),(Value.int .i64 2),(Value.int .i64 0),(Value.int .u64 0),(Value.slice none 0 0),(Value.slice A16 (((xs.map Xt.th).map valD).length) c16)]) 8 (by kernel_rfl)) ?_
 rintro _ w27 ⟨g27,rfl,h27⟩
 refine ⟨⟨h27.at_ 7 rfl,h27.at_ 5 rfl,h27.at_ 3 rfl,trivial⟩,?_⟩
 refine dD 21 h27 [(Value.int .i64 13),(Value.slice (some ⟨g27,0,none⟩) 8 8)] (dseq_any 13 (some ⟨g27,0,none⟩) 8 8 _) (fun w28 h28=>⟨⟨h28.at_ 7 rfl,h28.at_ 5 rfl,h28.at_ 3 rfl,trivial⟩,?_⟩)
 refine dP 9 [23,24,25,26,27,30,32] ?_
 refine dLs 6 [28,31,33] (fun W hW=>hW.1) ?_
 refine dO 29 34 ?_ ?_
 ·
  refine oT (x_bs h28 9 ([(Value.string s)]) 1 (by kernel_rfl)) ?_
  rintro _ w29 ⟨g29,rfl,h29⟩
  refine ⟨⟨h29.at_ 8 rfl,h29.at_ 6 rfl,h29.at_ 4 rfl,trivial⟩,?_⟩
  refine dT 34 (x_bs h29 2 ([(Value.int .i64 n),(Value.int .i64 t)]) 2 (by kernel_rfl)) ?_
  rintro _ w30 ⟨g30,rfl,h30⟩
  refine ⟨⟨h30.at_ 9 rfl,h30.at_ 7 rfl,h30.at_ 5 rfl,trivial⟩,?_⟩
  refine dT 35 (x_mright h30 1 0 rfl rfl [s] [n,t] 1 2 rfl rfl rfl rfl (by decide) (by decide) (by simp;exact ⟨hs,by omega⟩) (by simp;exact ⟨hn,ht⟩) (by kernel_rfl)) ?_
  rintro _ w31 ⟨rfl,h31⟩
  refine ⟨⟨h31.at_ 9 rfl,h31.at_ 7 rfl,h31.at_ 5 rfl,trivial⟩,?_⟩
  refine dP 2 [36] ?_
  refine dT 37 (xR h31 10 ([(Value.int .i64 2),(Value.int .i64 13),(Value.int .u64 0),(Value.slice none 0 0),(Value.slice (some ⟨g27,0,none⟩) 8 8)])) ?_
  rintro _ w32 h32
  refine ⟨⟨h32.at_ 9 rfl,h32.at_ 7 rfl,h32.at_ 5 rfl,trivial⟩,?_⟩
  refine dN 38 ?_
  refine dX ?_
  refine mF (post_2 (r:=.cell 2 157) (s:=.tmp 3) (by kernel_rfl) rfl (rce (h32.at_ 10 rfl)) (rtm (Value.bool true)) ?_)
  exact mv_of h32 2 rfl rfl (.cons (dvr_sb h32 4 rfl) (.cons (dvr_num hn) (.cons (dvr_num ht) (.cons (dvr_num (inN_bool r)) (.cons (dvr_num (inN_bool m)) (.cons (dvr_dv h32 8 rfl) (.cons (dvr_sb h32 3 rfl) (.cons (dvr_dv h32 6 rfl) .nil)))))))) rfl (by decide)
 refine oT (x_bs h28 2 ([(Value.int .i64 n),(Value.int .i64 t)]) 2 (by kernel_rfl)) ?_
 rintro _ w33 ⟨g33,rfl,h33⟩
 refine ⟨⟨h33.at_ 8 rfl,h33.at_ 6 rfl,h33.at_ 4 rfl,trivial⟩,?_⟩
 refine dT 29 (x_bs h33 9 ([(Value.string s)]) 1 (by kernel_rfl)) ?_
 rintro _ w34 ⟨g34,rfl,h34⟩
 refine ⟨⟨h34.at_ 9 rfl,h34.at_ 7 rfl,h34.at_ 5 rfl,trivial⟩,?_⟩
 refine dT 35 (x_mright h34 0 1 rfl rfl [s] [n,t] 1 2 rfl rfl rfl rfl (by decide) (by decide) (by simp;exact ⟨hs,by omega⟩) (by simp;exact ⟨hn,ht⟩) (by kernel_rfl)) ?_
 rintro _ w35 ⟨rfl,h35⟩
 refine ⟨⟨h35.at_ 9 rfl,h35.at_ 7 rfl,h35.at_ 5 rfl,trivial⟩,?_⟩
 refine dP 2 [36] ?_
 refine dT 37 (xR h35 10 ([(Value.int .i64 2),(Value.int .i64 13),(Value.int .u64 0),(Value.slice none 0 0),(Value.slice (some ⟨g27,0,none⟩) 8 8)])) ?_
 rintro _ w36 h36
 refine ⟨⟨h36.at_ 9 rfl,h36.at_ 7 rfl,h36.at_ 5 rfl,trivial⟩,?_⟩
 refine dN 38 ?_
 refine dX ?_
 refine mF (post_2 (r:=.cell 2 157) (s:=.tmp 3) (by kernel_rfl) rfl (rce (h36.at_ 10 rfl)) (rtm (Value.bool true)) ?_)
 exact mv_of h36 2 rfl rfl (.cons (dvr_sb h36 4 rfl) (.cons (dvr_num hn) (.cons (dvr_num ht) (.cons (dvr_num (inN_bool r)) (.cons (dvr_num (inN_bool m)) (.cons (dvr_dv h36 8 rfl) (.cons (dvr_sb h36 3 rfl) (.cons (dvr_dv h36 6 rfl) .nil)))))))) rfl (by decide)
theorem mwrite_any{x:Value}{v:DVal}{w:World}(hV:Calls Tryz.prog 56 #[x] w (MvPost w v))(hr:rightV v 1=true)(hn:(wrV v).length<=4096):Calls Tryz.prog 39 #[x] w (WrT w (wrV v)):=by
 have h0:=Hp.nil (fun _=>False) w
 refine mE 17 ?_
 refine mT (x_mv h0 56 [x] (by kernel_rfl) hV) ?_
 rintro _ w3 ⟨F3,A3,c3,rfl,h3⟩
 refine mN h3 157 ([(Value.int .i64 0),(Value.int .i64 0),(Value.int .u64 0),(Value.slice none 0 0),(Value.slice none 0 0)]) fun g4 w4 h4=>?_
 refine mT (xR h4 0 ([(Value.int .i64 2),(Value.int .i64 ((v.tag:Int))),(Value.int .u64 0),(Value.slice none 0 0),(Value.slice A3 v.l.length c3)])) fun _ w5 h5=>?_
 refine ma h5 0 ?_
 refine mT (x_wrT h5 57 [(Value.agg ([(Value.int .i64 2),(Value.int .i64 ((v.tag:Int))),(Value.int .u64 0),(Value.slice none 0 0),(Value.slice A3 v.l.length c3)]).toArray)] (by kernel_rfl) (Write_any _ _ _ _ (h5.at_ 1 rfl) hr hn)) ?_
 rintro _ w9 ⟨A9,c9,rfl,h9⟩
 refine mP (Value.tuple #[(Value.slice A9 ((wrV v).length) c9),(Value.int .i64 0)]) ?_
 exact ⟨_,_,rfl,h9.sel [0] [] rfl rfl rfl⟩
theorem tgsD_right{s:ByteArray}{n t:Int}{r m:Bool}{tk:Thing}{b:Bytes}{ex:List Thing}:rightV (tgsD s n t r m tk b ex) 1=true:=by
 have hv:∀ t d,d<=6->rightV (valD t) d=true:=by
   intro t d hd
   unfold valD
   rw [rightV,rightL_all]
   · have:d<=8:=by omega
     cases t <;> simp [tagTh,this]
   refine valL_all _ (fun n=>?_) (fun b=>?_) t
   · unfold nD;rw [rightV];simp;omega
   unfold bD;rw [rightV];simp;omega
 have hn:∀ n,rightV (nD n) 2=true:=rightV_nD
 unfold tgsD
 rw [rightV,rightL_all]
 · rfl
 intro x hx
 simp only [List.mem_cons,List.not_mem_nil,or_false] at hx
 rcases hx with rfl|rfl|rfl|rfl|rfl|rfl|rfl|rfl
 · exact rightV_bD _
 · exact hn _
 · exact hn _
 · exact hn _
 · exact hn _
 · exact hv _ _ (by omega)
 · exact rightV_bD _
 rw [rightV,rightL_all]
 · rfl
 intro y hy
 obtain ⟨z,_,rfl⟩:=List.mem_map.1 hy
 exact hv _ _ (by omega)
end
section
open Go.Value renaming int->iV,slice->lV,string->sV,bool->bV,agg->aV
open Go.RowKit Go.QT
theorem unp_er{b:Bytes}{c:Nat}(h:unpB b=.inl c):c≠0:=by
 unfold unpB at h
 split at h
 · rename_i hr;injection h with h;subst h;exact RdB_er hr
 split at h
 · cases h
 injection h with h;omega
/-- What tick.Open leaves, of a thing's type. -/
def outStamp:Nat ⊕ Thing->Value
 | .inl c=>.tuple #[(aV ([(iV .i64 0),(iV .i64 0)]).toArray),.int .i64 (c:Int)]
 | .inr (.stamp a q)=>.tuple #[(aV ([(iV .i64 a),(iV .i64 q)]).toArray),.int .i64 0]
 | .inr _=>.tuple #[(aV ([(iV .i64 0),(iV .i64 0)]).toArray),.int .i64 4]
theorem outStamp_no{t:Thing}(h:tyTh t≠140):outStamp (.inr t)=.tuple #[(aV ([(iV .i64 0),(iV .i64 0)]).toArray),.int .i64 4]:=by
 cases t <;> first|rfl|exact absurd rfl h
theorem oStamp_none{F:Nat->Prop}{tb:Nat}{s:STab}{K:Fin 16->UInt8}{us:Int}{A:Option Addr}{c:Nat}{l:Bytes}{w:World}(hT:(rTab F tb s).Φ w)(hs:TabOk s)(hv:SB w (.slice A l.length c) l)(ho:s.open_ (kl K) us l=none):Calls Tryz.prog 63 #[(Value.iface 28 (pt tb 0)),(aV (vb (kl K)).toArray),.int .i64 us,.slice A l.length c] w (DPost w (outStamp (.inl 13))):=by
 have h0:=((Hp.ro1 (rSB (.slice A l.length c) l) hv).addR (rTab F tb s) hT (by simp))
 refine mE 45 ?_
 refine mN h0 31 (vb (kl K)) fun g2 w2 h2=>?_
 refine mN h2 140 ([zO,zO]) fun g3 w3 h3=>?_
 refine mN h3 140 ([zO,zO]) fun g5 w5 h5=>?_
 refine ma h5 2 ?_
 refine mT (x_openR h5 0 rfl hs K us l (lV A l.length c) none (by kernel_rfl) (h5.rd 1 rfl) ho) ?_
 rintro _ w7 ⟨A7,c7,rfl,h7⟩
 refine ma h7 1 ?_
 refine mT (xSs h7 2 140 (.tmp 8) (.tmp 27) 0 ([zO,zO]) ([zO,zO])) fun _ w11 h11=>?_
 refine mF (post_2 (r:=.cell 8 140) (s:=.tmp 9) (by kernel_rfl) rfl (rce (h11.at_ 2 rfl)) (rtm (zD 13)) ?_)
 exact ⟨rfl,h11.below0⟩
theorem oStamp_err{F:Nat->Prop}{tb:Nat}{s:STab}{K:Fin 16->UInt8}{us:Int}{A:Option Addr}{c:Nat}{l:Bytes}{w:World}(hT:(rTab F tb s).Φ w)(hs:TabOk s)(hv:SB w (.slice A l.length c) l){body:Bytes}{cc:Nat}(ho:s.open_ (kl K) us l=some body)(hu:unpB body=.inl cc):Calls Tryz.prog 63 #[(Value.iface 28 (pt tb 0)),(aV (vb (kl K)).toArray),.int .i64 us,.slice A l.length c] w (DPost w (outStamp (.inl cc))):=by
 have h0:=((Hp.ro1 (rSB (.slice A l.length c) l) hv).addR (rTab F tb s) hT (by simp))
 refine mE 45 ?_
 refine mN h0 31 (vb (kl K)) fun g2 w2 h2=>?_
 refine mN h2 140 ([zO,zO]) fun g3 w3 h3=>?_
 refine mN h3 140 ([zO,zO]) fun g5 w5 h5=>?_
 refine ma h5 2 ?_
 refine mT (x_openR h5 0 rfl hs K us l (lV A l.length c) (some body) (by kernel_rfl) (h5.rd 1 rfl) ho) ?_
 rintro _ w7 ⟨A7,c7,rfl,h7⟩
 refine mD h7 [(lV A7 body.length c7)] (up_e hu (unp_any (OB.sb (h7.at_ 0 rfl)))) (fun w11 h11=>?_)
 refine mX 34 (.bool true) (bV (((cc:Int)) != 0)) (ine (b:=0) (unp_er hu)) ?_
 refine ma h11 1 ?_
 refine mT (xSs h11 2 140 (.tmp 8) (.tmp 35) 0 ([zO,zO]) ([zO,zO])) fun _ w15 h15=>?_
 refine mF (post_2 (r:=.cell 8 140) (s:=.tmp 9) (by kernel_rfl) rfl (rce (h15.at_ 2 rfl)) (rtm (zD ((cc:Int)))) ?_)
 exact ⟨rfl,h15.below0⟩
theorem oStamp_ty{F:Nat->Prop}{tb:Nat}{s:STab}{K:Fin 16->UInt8}{us:Int}{A:Option Addr}{c:Nat}{l:Bytes}{w:World}(hT:(rTab F tb s).Φ w)(hs:TabOk s)(hv:SB w (.slice A l.length c) l){body:Bytes}{t:Thing}(ho:s.open_ (kl K) us l=some body)(hu:unpB body=.inr t)(hty:tyTh t≠140):Calls Tryz.prog 63 #[(Value.iface 28 (pt tb 0)),(aV (vb (kl K)).toArray),.int .i64 us,.slice A l.length c] w (DPost w (outStamp (.inr t))):=by
 have h0:=((Hp.ro1 (rSB (.slice A l.length c) l) hv).addR (rTab F tb s) hT (by simp))
 refine mE 45 ?_
 refine mN h0 31 (vb (kl K)) fun g2 w2 h2=>?_
 refine mN h2 140 ([zO,zO]) fun g3 w3 h3=>?_
 refine mN h3 140 ([zO,zO]) fun g5 w5 h5=>?_
 refine ma h5 2 ?_
 refine mT (x_openR h5 0 rfl hs K us l (lV A l.length c) (some body) (by kernel_rfl) (h5.rd 1 rfl) ho) ?_
 rintro _ w7 ⟨A7,c7,rfl,h7⟩
 refine mT (x_unp h7 hu [(lV A7 body.length c7)] (by kernel_rfl) (unp_any (OB.sb (h7.at_ 0 rfl)))) ?_
 rintro _ w11 ⟨G11,x11,rfl,h11⟩
 obtain ⟨v11,rfl⟩:=(h11.at_ 0 rfl).2.ty
 refine mW 39 (v:=(Value.tuple #[(aV ([zO,zO]).toArray),zV])) (e_asNo (T':=tyTh t) (ta:=140) (xt:=20) (v:=v11) (.tmp 38) (by kernel_rfl) (by kernel_rfl) hty (by kernel_rfl) (by kernel_rfl) _) ?_
 refine mN h11 140 ([zO,zO]) fun g16 w16 h16=>?_
 refine mT (xSs h16 0 140 (.tmp 15) (.tmp 40) 0 ([zO,zO]) ([zO,zO])) fun _ w17 h17=>?_
 refine ma h17 3 ?_
 refine mT (xSs h17 4 140 (.tmp 8) (.tmp 44) 0 ([zO,zO]) ([zO,zO])) fun _ w20 h20=>?_
 refine mF (post_2 (r:=.cell 8 140) (s:=.tmp 9) (by kernel_rfl) rfl (rce (h20.at_ 4 rfl)) (rtm (zD 4)) ?_)
 rw [outStamp_no hty]
 exact ⟨rfl,h20.below0⟩
theorem oStamp_yes{F:Nat->Prop}{tb:Nat}{s:STab}{K:Fin 16->UInt8}{us:Int}{A:Option Addr}{c:Nat}{l:Bytes}{w:World}(hT:(rTab F tb s).Φ w)(hs:TabOk s)(hv:SB w (.slice A l.length c) l)(a:Int)(q:Int){body:Bytes}(ho:s.open_ (kl K) us l=some body)(hu:unpB body=.inr (.stamp a q)):Calls Tryz.prog 63 #[(Value.iface 28 (pt tb 0)),(aV (vb (kl K)).toArray),.int .i64 us,.slice A l.length c] w (DPost w (outStamp (.inr (.stamp a q)))):=by
 have h0:=((Hp.ro1 (rSB (.slice A l.length c) l) hv).addR (rTab F tb s) hT (by simp))
 refine mE 45 ?_
 refine mN h0 31 (vb (kl K)) fun g2 w2 h2=>?_
 refine mN h2 140 ([zO,zO]) fun g3 w3 h3=>?_
 refine mN h3 140 ([zO,zO]) fun g5 w5 h5=>?_
 refine ma h5 2 ?_
 refine mT (x_openR h5 0 rfl hs K us l (lV A l.length c) (some body) (by kernel_rfl) (h5.rd 1 rfl) ho) ?_
 rintro _ w7 ⟨A7,c7,rfl,h7⟩
 refine mT (x_unp h7 hu [(lV A7 body.length c7)] (by kernel_rfl) (unp_any (OB.sb (h7.at_ 0 rfl)))) ?_
 rintro _ w11 ⟨G11,x11,rfl,h11⟩
 obtain rfl:x11=(Value.iface 140 (aV ([(iV .i64 a),(iV .i64 q)]).toArray)):=(h11.at_ 0 rfl).2
 refine mN h11 140 ([zO,zO]) fun g16 w16 h16=>?_
 refine mT (xSs h16 0 140 (.tmp 15) (.tmp 40) 0 ([(zD a),(zD q)]) ([(zD a),(zD q)])) fun _ w17 h17=>?_
 refine ma h17 0 ?_
 refine mT (xSs h17 4 140 (.tmp 8) (.tmp 43) 0 ([(zD a),(zD q)]) ([(zD a),(zD q)])) fun _ w20 h20=>?_
 refine mF (post_2 (r:=.cell 8 140) (s:=.tmp 9) (by kernel_rfl) rfl (rce (h20.at_ 4 rfl)) (rtm zO) ?_)
 exact ⟨rfl,h20.below0⟩
theorem oStamp_any{F:Nat->Prop}{tb:Nat}{s:STab}{K:Fin 16->UInt8}{us:Int}{bv:Value}{l:Bytes}{w:World}(hT:(rTab F tb s).Φ w)(hs:TabOk s)(hv:SB w bv l):Calls Tryz.prog 63 #[(Value.iface 28 (pt tb 0)),(aV (vb (kl K)).toArray),.int .i64 us,bv] w (DPost w (outStamp (openTh s (kl K) us l))):=by
 obtain ⟨A,c,rfl,_⟩:=id hv
 unfold openTh
 split
 · rename_i ho;exact oStamp_none hT hs hv ho
 rename_i body ho
 rcases hu:unpB body with cc|t
 · exact oStamp_err hT hs hv ho hu
 by_cases hty:tyTh t=140
 · cases t with
   | stamp a q=>exact oStamp_yes hT hs hv a q ho hu
   | ticket=>exact absurd (show 35=140 from hty) (by decide)
   | inside=>exact absurd (show 54=140 from hty) (by decide)
   | reply=>exact absurd (show 33=140 from hty) (by decide)
   | authent=>exact absurd (show 100=140 from hty) (by decide)
   | fact=>exact absurd (show 88=140 from hty) (by decide)
   | plain=>exact absurd (show 196=140 from hty) (by decide)
 exact oStamp_ty hT hs hv ho hu hty
/-- .. at a caller. -/
theorem x_oStamp{o:Oper}{a:Act}{F0 F:Nat->Prop}{w0 w:World}{ro rs:List Res}{tb:Nat}{s:STab}(h:Hp F0 w0 w ro rs)(i:Nat)(hi:rs[i]?=some (rTab F tb s))(K:Fin 16->UInt8)(us:Int){bv:Value}{l:Bytes}(hp:pureVal Tryz.prog (execOp a.eval o)=some (.enter 63 #[(Value.iface 28 (pt tb 0)),(aV (vb (kl K)).toArray),.int .i64 us,bv]))(hs:TabOk s)(hb:SB w bv l){r:Nat ⊕ Thing}(hr:openTh s (kl K) us l=r) :
   OpTo Tryz.prog o a w (fun u w'=>u=outStamp r/\Hp F0 w0 w' ro rs):=by
 subst hr
 exact x_dp h 63 [(Value.iface 28 (pt tb 0)),(aV (vb (kl K)).toArray),.int .i64 us,bv] hp (oStamp_any (h.own i _ hi) hs hb)
/-- What tick.Open leaves, of a thing's type. -/
def outInside:Nat ⊕ Thing->Value
 | .inl c=>.tuple #[(aV ([(iV .i64 0)]++vb (List.replicate 16 0)++[(sV ByteArray.empty),(iV .i64 0),(iV .i64 0),(iV .i64 0)]).toArray),.int .i64 (c:Int)]
 | .inr (.inside f Ky s1 a u r)=>.tuple #[(aV ([(iV .i64 f)]++vb (kl Ky)++[(sV s1),(iV .i64 a),(iV .i64 u),(iV .i64 r)]).toArray),.int .i64 0]
 | .inr _=>.tuple #[(aV ([(iV .i64 0)]++vb (List.replicate 16 0)++[(sV ByteArray.empty),(iV .i64 0),(iV .i64 0),(iV .i64 0)]).toArray),.int .i64 4]
theorem outInside_no{t:Thing}(h:tyTh t≠54):outInside (.inr t)=.tuple #[(aV ([(iV .i64 0)]++vb (List.replicate 16 0)++[(sV ByteArray.empty),(iV .i64 0),(iV .i64 0),(iV .i64 0)]).toArray),.int .i64 4]:=by
 cases t <;> first|rfl|exact absurd rfl h
theorem oInside_none{F:Nat->Prop}{tb:Nat}{s:STab}{K:Fin 16->UInt8}{us:Int}{A:Option Addr}{c:Nat}{l:Bytes}{w:World}(hT:(rTab F tb s).Φ w)(hs:TabOk s)(hv:SB w (.slice A l.length c) l)(ho:s.open_ (kl K) us l=none):Calls Tryz.prog 17 #[(Value.iface 28 (pt tb 0)),(aV (vb (kl K)).toArray),.int .i64 us,.slice A l.length c] w (DPost w (outInside (.inl 13))):=by
 have h0:=((Hp.ro1 (rSB (.slice A l.length c) l) hv).addR (rTab F tb s) hT (by simp))
 refine mE 45 ?_
 refine mN h0 31 (vb (kl K)) fun g2 w2 h2=>?_
 refine mN h2 54 ([zO]++vb (List.replicate 16 0)++[zE,zO,zO,zO]) fun g3 w3 h3=>?_
 refine mN h3 54 ([zO]++vb (List.replicate 16 0)++[zE,zO,zO,zO]) fun g5 w5 h5=>?_
 refine ma h5 2 ?_
 refine mT (x_openR h5 0 rfl hs K us l (lV A l.length c) none (by kernel_rfl) (h5.rd 1 rfl) ho) ?_
 rintro _ w7 ⟨A7,c7,rfl,h7⟩
 refine ma h7 1 ?_
 refine mT (xSs h7 2 54 (.tmp 8) (.tmp 27) 0 ([zO]++vb (List.replicate 16 0)++[zE,zO,zO,zO]) ([zO]++vb (List.replicate 16 0)++[zE,zO,zO,zO])) fun _ w11 h11=>?_
 refine mF (post_2 (r:=.cell 8 54) (s:=.tmp 9) (by kernel_rfl) rfl (rce (h11.at_ 2 rfl)) (rtm (zD 13)) ?_)
 exact ⟨rfl,h11.below0⟩
theorem oInside_err{F:Nat->Prop}{tb:Nat}{s:STab}{K:Fin 16->UInt8}{us:Int}{A:Option Addr}{c:Nat}{l:Bytes}{w:World}(hT:(rTab F tb s).Φ w)(hs:TabOk s)(hv:SB w (.slice A l.length c) l){body:Bytes}{cc:Nat}(ho:s.open_ (kl K) us l=some body)(hu:unpB body=.inl cc):Calls Tryz.prog 17 #[(Value.iface 28 (pt tb 0)),(aV (vb (kl K)).toArray),.int .i64 us,.slice A l.length c] w (DPost w (outInside (.inl cc))):=by
 have h0:=((Hp.ro1 (rSB (.slice A l.length c) l) hv).addR (rTab F tb s) hT (by simp))
 refine mE 45 ?_
 refine mN h0 31 (vb (kl K)) fun g2 w2 h2=>?_
 refine mN h2 54 ([zO]++vb (List.replicate 16 0)++[zE,zO,zO,zO]) fun g3 w3 h3=>?_
 refine mN h3 54 ([zO]++vb (List.replicate 16 0)++[zE,zO,zO,zO]) fun g5 w5 h5=>?_
 refine ma h5 2 ?_
 refine mT (x_openR h5 0 rfl hs K us l (lV A l.length c) (some body) (by kernel_rfl) (h5.rd 1 rfl) ho) ?_
 rintro _ w7 ⟨A7,c7,rfl,h7⟩
 refine mD h7 [(lV A7 body.length c7)] (up_e hu (unp_any (OB.sb (h7.at_ 0 rfl)))) (fun w11 h11=>?_)
 refine mX 34 (.bool true) (bV (((cc:Int)) != 0)) (ine (b:=0) (unp_er hu)) ?_
 refine ma h11 1 ?_
 refine mT (xSs h11 2 54 (.tmp 8) (.tmp 35) 0 ([zO]++vb (List.replicate 16 0)++[zE,zO,zO,zO]) ([zO]++vb (List.replicate 16 0)++[zE,zO,zO,zO])) fun _ w15 h15=>?_
 refine mF (post_2 (r:=.cell 8 54) (s:=.tmp 9) (by kernel_rfl) rfl (rce (h15.at_ 2 rfl)) (rtm (zD ((cc:Int)))) ?_)
 exact ⟨rfl,h15.below0⟩
theorem oInside_ty{F:Nat->Prop}{tb:Nat}{s:STab}{K:Fin 16->UInt8}{us:Int}{A:Option Addr}{c:Nat}{l:Bytes}{w:World}(hT:(rTab F tb s).Φ w)(hs:TabOk s)(hv:SB w (.slice A l.length c) l){body:Bytes}{t:Thing}(ho:s.open_ (kl K) us l=some body)(hu:unpB body=.inr t)(hty:tyTh t≠54):Calls Tryz.prog 17 #[(Value.iface 28 (pt tb 0)),(aV (vb (kl K)).toArray),.int .i64 us,.slice A l.length c] w (DPost w (outInside (.inr t))):=by
 have h0:=((Hp.ro1 (rSB (.slice A l.length c) l) hv).addR (rTab F tb s) hT (by simp))
 refine mE 45 ?_
 refine mN h0 31 (vb (kl K)) fun g2 w2 h2=>?_
 refine mN h2 54 ([zO]++vb (List.replicate 16 0)++[zE,zO,zO,zO]) fun g3 w3 h3=>?_
 refine mN h3 54 ([zO]++vb (List.replicate 16 0)++[zE,zO,zO,zO]) fun g5 w5 h5=>?_
 refine ma h5 2 ?_
 refine mT (x_openR h5 0 rfl hs K us l (lV A l.length c) (some body) (by kernel_rfl) (h5.rd 1 rfl) ho) ?_
 rintro _ w7 ⟨A7,c7,rfl,h7⟩
 refine mT (x_unp h7 hu [(lV A7 body.length c7)] (by kernel_rfl) (unp_any (OB.sb (h7.at_ 0 rfl)))) ?_
 rintro _ w11 ⟨G11,x11,rfl,h11⟩
 obtain ⟨v11,rfl⟩:=(h11.at_ 0 rfl).2.ty
 refine mW 39 (v:=(Value.tuple #[(aV ([zO]++vb (List.replicate 16 0)++[zE,zO,zO,zO]).toArray),zV])) (e_asNo (T':=tyTh t) (ta:=54) (xt:=20) (v:=v11) (.tmp 38) (by kernel_rfl) (by kernel_rfl) hty (by kernel_rfl) (by kernel_rfl) _) ?_
 refine mN h11 54 ([zO]++vb (List.replicate 16 0)++[zE,zO,zO,zO]) fun g16 w16 h16=>?_
 refine mT (xSs h16 0 54 (.tmp 15) (.tmp 40) 0 ([zO]++vb (List.replicate 16 0)++[zE,zO,zO,zO]) ([zO]++vb (List.replicate 16 0)++[zE,zO,zO,zO])) fun _ w17 h17=>?_
 refine ma h17 3 ?_
 refine mT (xSs h17 4 54 (.tmp 8) (.tmp 44) 0 ([zO]++vb (List.replicate 16 0)++[zE,zO,zO,zO]) ([zO]++vb (List.replicate 16 0)++[zE,zO,zO,zO])) fun _ w20 h20=>?_
 refine mF (post_2 (r:=.cell 8 54) (s:=.tmp 9) (by kernel_rfl) rfl (rce (h20.at_ 4 rfl)) (rtm (zD 4)) ?_)
 rw [outInside_no hty]
 exact ⟨rfl,h20.below0⟩
theorem oInside_yes{F:Nat->Prop}{tb:Nat}{s:STab}{K:Fin 16->UInt8}{us:Int}{A:Option Addr}{c:Nat}{l:Bytes}{w:World}(hT:(rTab F tb s).Φ w)(hs:TabOk s)(hv:SB w (.slice A l.length c) l)(f:Int)(Ky:Fin 16->UInt8)(s1:ByteArray)(a:Int)(u:Int)(r:Int){body:Bytes}(ho:s.open_ (kl K) us l=some body)(hu:unpB body=.inr (.inside f Ky s1 a u r)):Calls Tryz.prog 17 #[(Value.iface 28 (pt tb 0)),(aV (vb (kl K)).toArray),.int .i64 us,.slice A l.length c] w (DPost w (outInside (.inr (.inside f Ky s1 a u r)))):=by
 have h0:=((Hp.ro1 (rSB (.slice A l.length c) l) hv).addR (rTab F tb s) hT (by simp))
 refine mE 45 ?_
 refine mN h0 31 (vb (kl K)) fun g2 w2 h2=>?_
 refine mN h2 54 ([zO]++vb (List.replicate 16 0)++[zE,zO,zO,zO]) fun g3 w3 h3=>?_
 refine mN h3 54 ([zO]++vb (List.replicate 16 0)++[zE,zO,zO,zO]) fun g5 w5 h5=>?_
 refine ma h5 2 ?_
 refine mT (x_openR h5 0 rfl hs K us l (lV A l.length c) (some body) (by kernel_rfl) (h5.rd 1 rfl) ho) ?_
 rintro _ w7 ⟨A7,c7,rfl,h7⟩
 refine mT (x_unp h7 hu [(lV A7 body.length c7)] (by kernel_rfl) (unp_any (OB.sb (h7.at_ 0 rfl)))) ?_
 rintro _ w11 ⟨G11,x11,rfl,h11⟩
 obtain rfl:x11=(Value.iface 54 (aV ([(iV .i64 f)]++vb (kl Ky)++[(sV s1),(iV .i64 a),(iV .i64 u),(iV .i64 r)]).toArray)):=(h11.at_ 0 rfl).2
 refine mN h11 54 ([zO]++vb (List.replicate 16 0)++[zE,zO,zO,zO]) fun g16 w16 h16=>?_
 refine mT (xSs h16 0 54 (.tmp 15) (.tmp 40) 0 ([(zD f)]++vb (kl Ky)++[(sV s1),(zD a),(zD u),(zD r)]) ([(zD f)]++vb (kl Ky)++[(sV s1),(zD a),(zD u),(zD r)])) fun _ w17 h17=>?_
 refine ma h17 0 ?_
 refine mT (xSs h17 4 54 (.tmp 8) (.tmp 43) 0 ([(zD f)]++vb (kl Ky)++[(sV s1),(zD a),(zD u),(zD r)]) ([(zD f)]++vb (kl Ky)++[(sV s1),(zD a),(zD u),(zD r)])) fun _ w20 h20=>?_
 refine mF (post_2 (r:=.cell 8 54) (s:=.tmp 9) (by kernel_rfl) rfl (rce (h20.at_ 4 rfl)) (rtm zO) ?_)
 exact ⟨rfl,h20.below0⟩
theorem oInside_any{F:Nat->Prop}{tb:Nat}{s:STab}{K:Fin 16->UInt8}{us:Int}{bv:Value}{l:Bytes}{w:World}(hT:(rTab F tb s).Φ w)(hs:TabOk s)(hv:SB w bv l):Calls Tryz.prog 17 #[(Value.iface 28 (pt tb 0)),(aV (vb (kl K)).toArray),.int .i64 us,bv] w (DPost w (outInside (openTh s (kl K) us l))):=by
 obtain ⟨A,c,rfl,_⟩:=id hv
 unfold openTh
 split
 · rename_i ho;exact oInside_none hT hs hv ho
 rename_i body ho
 rcases hu:unpB body with cc|t
 · exact oInside_err hT hs hv ho hu
 by_cases hty:tyTh t=54
 · cases t with
   | inside f Ky s1 a u r=>exact oInside_yes hT hs hv f Ky s1 a u r ho hu
   | ticket=>exact absurd (show 35=54 from hty) (by decide)
   | reply=>exact absurd (show 33=54 from hty) (by decide)
   | authent=>exact absurd (show 100=54 from hty) (by decide)
   | stamp=>exact absurd (show 140=54 from hty) (by decide)
   | fact=>exact absurd (show 88=54 from hty) (by decide)
   | plain=>exact absurd (show 196=54 from hty) (by decide)
 exact oInside_ty hT hs hv ho hu hty
/-- .. at a caller. -/
theorem x_oInside{o:Oper}{a:Act}{F0 F:Nat->Prop}{w0 w:World}{ro rs:List Res}{tb:Nat}{s:STab}(h:Hp F0 w0 w ro rs)(i:Nat)(hi:rs[i]?=some (rTab F tb s))(K:Fin 16->UInt8)(us:Int){bv:Value}{l:Bytes}(hp:pureVal Tryz.prog (execOp a.eval o)=some (.enter 17 #[(Value.iface 28 (pt tb 0)),(aV (vb (kl K)).toArray),.int .i64 us,bv]))(hs:TabOk s)(hb:SB w bv l){r:Nat ⊕ Thing}(hr:openTh s (kl K) us l=r) :
   OpTo Tryz.prog o a w (fun u w'=>u=outInside r/\Hp F0 w0 w' ro rs):=by
 subst hr
 exact x_dp h 17 [(Value.iface 28 (pt tb 0)),(aV (vb (kl K)).toArray),.int .i64 us,bv] hp (oInside_any (h.own i _ hi) hs hb)
/-- What tick.Open leaves, of a thing's type. -/
def outReply:Nat ⊕ Thing->Value
 | .inl c=>.tuple #[(aV ([(iV .i64 0)]++vb (List.replicate 16 0)++[(iV .i64 0),(sV ByteArray.empty),(iV .i64 0),(iV .i64 0),(iV .i64 0)]).toArray),.int .i64 (c:Int)]
 | .inr (.reply f Ky n s1 a u r)=>.tuple #[(aV ([(iV .i64 f)]++vb (kl Ky)++[(iV .i64 n),(sV s1),(iV .i64 a),(iV .i64 u),(iV .i64 r)]).toArray),.int .i64 0]
 | .inr _=>.tuple #[(aV ([(iV .i64 0)]++vb (List.replicate 16 0)++[(iV .i64 0),(sV ByteArray.empty),(iV .i64 0),(iV .i64 0),(iV .i64 0)]).toArray),.int .i64 4]
theorem outReply_no{t:Thing}(h:tyTh t≠33):outReply (.inr t)=.tuple #[(aV ([(iV .i64 0)]++vb (List.replicate 16 0)++[(iV .i64 0),(sV ByteArray.empty),(iV .i64 0),(iV .i64 0),(iV .i64 0)]).toArray),.int .i64 4]:=by
 cases t <;> first|rfl|exact absurd rfl h
theorem oReply_none{F:Nat->Prop}{tb:Nat}{s:STab}{K:Fin 16->UInt8}{us:Int}{A:Option Addr}{c:Nat}{l:Bytes}{w:World}(hT:(rTab F tb s).Φ w)(hs:TabOk s)(hv:SB w (.slice A l.length c) l)(ho:s.open_ (kl K) us l=none):Calls Tryz.prog 18 #[(Value.iface 28 (pt tb 0)),(aV (vb (kl K)).toArray),.int .i64 us,.slice A l.length c] w (DPost w (outReply (.inl 13))):=by
 have h0:=((Hp.ro1 (rSB (.slice A l.length c) l) hv).addR (rTab F tb s) hT (by simp))
 refine mE 45 ?_
 refine mN h0 31 (vb (kl K)) fun g2 w2 h2=>?_
 refine mN h2 33 ([zO]++vb (List.replicate 16 0)++[zO,zE,zO,zO,zO]) fun g3 w3 h3=>?_
 refine mN h3 33 ([zO]++vb (List.replicate 16 0)++[zO,zE,zO,zO,zO]) fun g5 w5 h5=>?_
 refine ma h5 2 ?_
 refine mT (x_openR h5 0 rfl hs K us l (lV A l.length c) none (by kernel_rfl) (h5.rd 1 rfl) ho) ?_
 rintro _ w7 ⟨A7,c7,rfl,h7⟩
 refine ma h7 1 ?_
 refine mT (xSs h7 2 33 (.tmp 8) (.tmp 27) 0 ([zO]++vb (List.replicate 16 0)++[zO,zE,zO,zO,zO]) ([zO]++vb (List.replicate 16 0)++[zO,zE,zO,zO,zO])) fun _ w11 h11=>?_
 refine mF (post_2 (r:=.cell 8 33) (s:=.tmp 9) (by kernel_rfl) rfl (rce (h11.at_ 2 rfl)) (rtm (zD 13)) ?_)
 exact ⟨rfl,h11.below0⟩
theorem oReply_err{F:Nat->Prop}{tb:Nat}{s:STab}{K:Fin 16->UInt8}{us:Int}{A:Option Addr}{c:Nat}{l:Bytes}{w:World}(hT:(rTab F tb s).Φ w)(hs:TabOk s)(hv:SB w (.slice A l.length c) l){body:Bytes}{cc:Nat}(ho:s.open_ (kl K) us l=some body)(hu:unpB body=.inl cc):Calls Tryz.prog 18 #[(Value.iface 28 (pt tb 0)),(aV (vb (kl K)).toArray),.int .i64 us,.slice A l.length c] w (DPost w (outReply (.inl cc))):=by
 have h0:=((Hp.ro1 (rSB (.slice A l.length c) l) hv).addR (rTab F tb s) hT (by simp))
 refine mE 45 ?_
 refine mN h0 31 (vb (kl K)) fun g2 w2 h2=>?_
 refine mN h2 33 ([zO]++vb (List.replicate 16 0)++[zO,zE,zO,zO,zO]) fun g3 w3 h3=>?_
 refine mN h3 33 ([zO]++vb (List.replicate 16 0)++[zO,zE,zO,zO,zO]) fun g5 w5 h5=>?_
 refine ma h5 2 ?_
 refine mT (x_openR h5 0 rfl hs K us l (lV A l.length c) (some body) (by kernel_rfl) (h5.rd 1 rfl) ho) ?_
 rintro _ w7 ⟨A7,c7,rfl,h7⟩
 refine mD h7 [(lV A7 body.length c7)] (up_e hu (unp_any (OB.sb (h7.at_ 0 rfl)))) (fun w11 h11=>?_)
 refine mX 34 (.bool true) (bV (((cc:Int)) != 0)) (ine (b:=0) (unp_er hu)) ?_
 refine ma h11 1 ?_
 refine mT (xSs h11 2 33 (.tmp 8) (.tmp 35) 0 ([zO]++vb (List.replicate 16 0)++[zO,zE,zO,zO,zO]) ([zO]++vb (List.replicate 16 0)++[zO,zE,zO,zO,zO])) fun _ w15 h15=>?_
 refine mF (post_2 (r:=.cell 8 33) (s:=.tmp 9) (by kernel_rfl) rfl (rce (h15.at_ 2 rfl)) (rtm (zD ((cc:Int)))) ?_)
 exact ⟨rfl,h15.below0⟩
theorem oReply_ty{F:Nat->Prop}{tb:Nat}{s:STab}{K:Fin 16->UInt8}{us:Int}{A:Option Addr}{c:Nat}{l:Bytes}{w:World}(hT:(rTab F tb s).Φ w)(hs:TabOk s)(hv:SB w (.slice A l.length c) l){body:Bytes}{t:Thing}(ho:s.open_ (kl K) us l=some body)(hu:unpB body=.inr t)(hty:tyTh t≠33):Calls Tryz.prog 18 #[(Value.iface 28 (pt tb 0)),(aV (vb (kl K)).toArray),.int .i64 us,.slice A l.length c] w (DPost w (outReply (.inr t))):=by
 have h0:=((Hp.ro1 (rSB (.slice A l.length c) l) hv).addR (rTab F tb s) hT (by simp))
 refine mE 45 ?_
 refine mN h0 31 (vb (kl K)) fun g2 w2 h2=>?_
 refine mN h2 33 ([zO]++vb (List.replicate 16 0)++[zO,zE,zO,zO,zO]) fun g3 w3 h3=>?_
 refine mN h3 33 ([zO]++vb (List.replicate 16 0)++[zO,zE,zO,zO,zO]) fun g5 w5 h5=>?_
 refine ma h5 2 ?_
 refine mT (x_openR h5 0 rfl hs K us l (lV A l.length c) (some body) (by kernel_rfl) (h5.rd 1 rfl) ho) ?_
 rintro _ w7 ⟨A7,c7,rfl,h7⟩
 refine mT (x_unp h7 hu [(lV A7 body.length c7)] (by kernel_rfl) (unp_any (OB.sb (h7.at_ 0 rfl)))) ?_
 rintro _ w11 ⟨G11,x11,rfl,h11⟩
 obtain ⟨v11,rfl⟩:=(h11.at_ 0 rfl).2.ty
 refine mW 39 (v:=(Value.tuple #[(aV ([zO]++vb (List.replicate 16 0)++[zO,zE,zO,zO,zO]).toArray),zV])) (e_asNo (T':=tyTh t) (ta:=33) (xt:=20) (v:=v11) (.tmp 38) (by kernel_rfl) (by kernel_rfl) hty (by kernel_rfl) (by kernel_rfl) _) ?_
 refine mN h11 33 ([zO]++vb (List.replicate 16 0)++[zO,zE,zO,zO,zO]) fun g16 w16 h16=>?_
 refine mT (xSs h16 0 33 (.tmp 15) (.tmp 40) 0 ([zO]++vb (List.replicate 16 0)++[zO,zE,zO,zO,zO]) ([zO]++vb (List.replicate 16 0)++[zO,zE,zO,zO,zO])) fun _ w17 h17=>?_
 refine ma h17 3 ?_
 refine mT (xSs h17 4 33 (.tmp 8) (.tmp 44) 0 ([zO]++vb (List.replicate 16 0)++[zO,zE,zO,zO,zO]) ([zO]++vb (List.replicate 16 0)++[zO,zE,zO,zO,zO])) fun _ w20 h20=>?_
 refine mF (post_2 (r:=.cell 8 33) (s:=.tmp 9) (by kernel_rfl) rfl (rce (h20.at_ 4 rfl)) (rtm (zD 4)) ?_)
 rw [outReply_no hty]
 exact ⟨rfl,h20.below0⟩
theorem oReply_yes{F:Nat->Prop}{tb:Nat}{s:STab}{K:Fin 16->UInt8}{us:Int}{A:Option Addr}{c:Nat}{l:Bytes}{w:World}(hT:(rTab F tb s).Φ w)(hs:TabOk s)(hv:SB w (.slice A l.length c) l)(f:Int)(Ky:Fin 16->UInt8)(n:Int)(s1:ByteArray)(a:Int)(u:Int)(r:Int){body:Bytes}(ho:s.open_ (kl K) us l=some body)(hu:unpB body=.inr (.reply f Ky n s1 a u r)):Calls Tryz.prog 18 #[(Value.iface 28 (pt tb 0)),(aV (vb (kl K)).toArray),.int .i64 us,.slice A l.length c] w (DPost w (outReply (.inr (.reply f Ky n s1 a u r)))):=by
 have h0:=((Hp.ro1 (rSB (.slice A l.length c) l) hv).addR (rTab F tb s) hT (by simp))
 refine mE 45 ?_
 refine mN h0 31 (vb (kl K)) fun g2 w2 h2=>?_
 refine mN h2 33 ([zO]++vb (List.replicate 16 0)++[zO,zE,zO,zO,zO]) fun g3 w3 h3=>?_
 refine mN h3 33 ([zO]++vb (List.replicate 16 0)++[zO,zE,zO,zO,zO]) fun g5 w5 h5=>?_
 refine ma h5 2 ?_
 refine mT (x_openR h5 0 rfl hs K us l (lV A l.length c) (some body) (by kernel_rfl) (h5.rd 1 rfl) ho) ?_
 rintro _ w7 ⟨A7,c7,rfl,h7⟩
 refine mT (x_unp h7 hu [(lV A7 body.length c7)] (by kernel_rfl) (unp_any (OB.sb (h7.at_ 0 rfl)))) ?_
 rintro _ w11 ⟨G11,x11,rfl,h11⟩
 obtain rfl:x11=(Value.iface 33 (aV ([(iV .i64 f)]++vb (kl Ky)++[(iV .i64 n),(sV s1),(iV .i64 a),(iV .i64 u),(iV .i64 r)]).toArray)):=(h11.at_ 0 rfl).2
 refine mN h11 33 ([zO]++vb (List.replicate 16 0)++[zO,zE,zO,zO,zO]) fun g16 w16 h16=>?_
 refine mT (xSs h16 0 33 (.tmp 15) (.tmp 40) 0 ([(zD f)]++vb (kl Ky)++[(zD n),(sV s1),(zD a),(zD u),(zD r)]) ([(zD f)]++vb (kl Ky)++[(zD n),(sV s1),(zD a),(zD u),(zD r)])) fun _ w17 h17=>?_
 refine ma h17 0 ?_
 refine mT (xSs h17 4 33 (.tmp 8) (.tmp 43) 0 ([(zD f)]++vb (kl Ky)++[(zD n),(sV s1),(zD a),(zD u),(zD r)]) ([(zD f)]++vb (kl Ky)++[(zD n),(sV s1),(zD a),(zD u),(zD r)])) fun _ w20 h20=>?_
 refine mF (post_2 (r:=.cell 8 33) (s:=.tmp 9) (by kernel_rfl) rfl (rce (h20.at_ 4 rfl)) (rtm zO) ?_)
 exact ⟨rfl,h20.below0⟩
theorem oReply_any{F:Nat->Prop}{tb:Nat}{s:STab}{K:Fin 16->UInt8}{us:Int}{bv:Value}{l:Bytes}{w:World}(hT:(rTab F tb s).Φ w)(hs:TabOk s)(hv:SB w bv l):Calls Tryz.prog 18 #[(Value.iface 28 (pt tb 0)),(aV (vb (kl K)).toArray),.int .i64 us,bv] w (DPost w (outReply (openTh s (kl K) us l))):=by
 obtain ⟨A,c,rfl,_⟩:=id hv
 unfold openTh
 split
 · rename_i ho;exact oReply_none hT hs hv ho
 rename_i body ho
 rcases hu:unpB body with cc|t
 · exact oReply_err hT hs hv ho hu
 by_cases hty:tyTh t=33
 · cases t with
   | reply f Ky n s1 a u r=>exact oReply_yes hT hs hv f Ky n s1 a u r ho hu
   | ticket=>exact absurd (show 35=33 from hty) (by decide)
   | inside=>exact absurd (show 54=33 from hty) (by decide)
   | authent=>exact absurd (show 100=33 from hty) (by decide)
   | stamp=>exact absurd (show 140=33 from hty) (by decide)
   | fact=>exact absurd (show 88=33 from hty) (by decide)
   | plain=>exact absurd (show 196=33 from hty) (by decide)
 exact oReply_ty hT hs hv ho hu hty
/-- .. at a caller. -/
theorem x_oReply{o:Oper}{a:Act}{F0 F:Nat->Prop}{w0 w:World}{ro rs:List Res}{tb:Nat}{s:STab}(h:Hp F0 w0 w ro rs)(i:Nat)(hi:rs[i]?=some (rTab F tb s))(K:Fin 16->UInt8)(us:Int){bv:Value}{l:Bytes}(hp:pureVal Tryz.prog (execOp a.eval o)=some (.enter 18 #[(Value.iface 28 (pt tb 0)),(aV (vb (kl K)).toArray),.int .i64 us,bv]))(hs:TabOk s)(hb:SB w bv l){r:Nat ⊕ Thing}(hr:openTh s (kl K) us l=r) :
   OpTo Tryz.prog o a w (fun u w'=>u=outReply r/\Hp F0 w0 w' ro rs):=by
 subst hr
 exact x_dp h 18 [(Value.iface 28 (pt tb 0)),(aV (vb (kl K)).toArray),.int .i64 us,bv] hp (oReply_any (h.own i _ hi) hs hb)
end
section
open Go.RowKit Go.QT
/-- What a sum leaves. -/
def SumPost(F:Nat->Prop)(tb:Nat)(s:STab)(b:Bytes)(w:World)(e:Ending)(w':World):Prop:=
 ∃ A c F',e=.returned (.slice A 16 c)/\Hp F w w' [] [rTab F' tb (s.digest b),rSB (.slice A 16 c) (mkB 100 (s.sumAt b+1))]
theorem x_sum{o:Oper}{a:Act}{F0 F:Nat->Prop}{w0 w:World}{ro rs:List Res}{tb:Nat}{s:STab}(h:Hp F0 w0 w ro rs)(i:Nat)(hi:rs[i]?=some (rTab F tb s))(b:Bytes)(al:List Value)(fn:FuncId)(hp:pureVal Tryz.prog (execOp a.eval o)=some (.enter fn al.toArray))(hc:(rTab F tb s).Φ w->Calls Tryz.prog fn al.toArray w (SumPost F tb s b w)) :
   OpTo Tryz.prog o a w (fun u w'=>∃ A c F' s',u=.slice A 16 c/\s'=s.digest b/\Hp F0 w0 w' ro (rTab F' tb s'::rSB (.slice A 16 c) (mkB 100 (s.sumAt b+1))::rs.eraseIdx i)):=
 OpTo.enter fn al hp (hc (h.own i _ hi)) fun e w' hq=>by
   obtain ⟨A,c,F',he,h2⟩:=hq
   exact ⟨_,he,A,c,F',_,rfl,rfl,h.call1 i hi h2⟩
/-- A digest, as the call's own. -/
theorem x_digestS{o:Oper}{a:Act}{F0 F:Nat->Prop}{w0 w:World}{ro rs:List Res}{tb:Nat}{s:STab}(h:Hp F0 w0 w ro rs)(i:Nat)(hi:rs[i]?=some (rTab F tb s))(l:Bytes){bv:Value}(hp:pureVal Tryz.prog (execOp a.eval o)=some (.enter 126 #[pt tb 0,bv]))(hb:SB w bv l)(hl:l.length<=1000000)(hm:s.sums.length<1000000) :
   OpTo Tryz.prog o a w (fun u' w'=>∃ A c F',u'=.slice A 16 c/\Hp F0 w0 w' ro (rSB (.slice A 16 c) (mkB 100 (s.sumAt l+1))::rs.set i (rTab F' tb (s.digest l)))):=
 OpTo.enter 126 [pt tb 0,bv] hp (digest_any F tb s l bv w (h.own i _ hi) hb hl hm) fun e w' hq=>by
   obtain ⟨v,F',he,hsb,hT,h1,h2,hf,hn⟩:=hq
   obtain ⟨A,cc,rfl,hc1,hc2,hcell⟩:=hsb
   have hil:i<rs.length:=(List.getElem?_eq_some_iff.1 hi).1
   have hs:SB w' (.slice A (mkB 100 (s.sumAt l+1)).length cc) (mkB 100 (s.sumAt l+1)):=⟨A,cc,rfl,hc1,hc2,hcell⟩
   rw [mkB_len] at hs he hn
   refine ⟨_,he,A,cc,F',rfl,(h.upd i hi hf (rTab F' tb (s.digest l)) hT h1).addS (rSB (.slice A 16 cc) (mkB 100 (s.sumAt l+1))) hs (fun q hq=>.inr (Nat.le_trans h.fr.size (hn q hq.2).1)) (fun j t ht q h3 h4=>?_) (fun j t ht q h3 h4=>?_)⟩
   · by_cases e:j=i
     · subst e
       rw [List.getElem?_set_self hil] at ht
       injection ht with ht
       subst ht
       exact (hn q h3.2).2 h4
     rw [List.getElem?_set_ne (Ne.symm e)] at ht
     exact absurd (t.lt (h.own j t ht) q h4) (Nat.not_lt.2 (hn q h3.2).1)
   exact absurd (t.lt (h.red j t ht) q h4) (Nat.not_lt.2 (hn q h3.2).1)
theorem sumTgs_any{F:Nat->Prop}{tb:Nat}{st:STab}{s ts:ByteArray}{n t:Int}{r m:Bool}{tb_:Bytes}{xs:List Xt}{C D E:Option Addr}{cc an ca ce:Nat}{w:World}(hT:(rTab F tb st).Φ w)(hsm:st.sums.length<1000000)(hb:SB w (.slice C tb_.length cc) tb_)(hdb:(rSB (.slice C tb_.length cc) tb_).dj (rTab F tb st))
   (hE:(rXt E ce xs).Φ w) (hdE:(rXt E ce xs).dj (rTab F tb st)) (hx:okXt xs) (hs:rightN s=true) (hsl:s.size<=1000000) (hn:inN n=true) (ht:inN t=true) (hl:limTh (.ticket ts tb_)) (hts:rightN ts=true) (hlen:(wrV (tgsD s n t r m (.ticket ts tb_) [] (xs.map Xt.th))).length<=4096) :
   Calls Tryz.prog 23 #[(Value.iface 28 (pt tb 0)),.iface 40 (Value.agg ([(Value.string s),(Value.int .i64 n),(Value.int .i64 t),(Value.bool r),(Value.bool m),(Value.string ts),(Value.slice C tb_.length cc),(Value.slice D an ca),(Value.slice E xs.length ce)]).toArray)] w (SumPost F tb st (wrV (tgsD s n t r m (.ticket ts tb_) [] (xs.map Xt.th))) w):=by
 have h0:=((Hp.one (rTab F tb st) hT).addR (rSB (.slice C tb_.length cc) tb_) hb (fun j r hj=>by have:=sel1 hj;injection this with this;subst this;exact hdb)).addR (rXt E ce xs) hE (fun j r hj=>by have:=sel1 hj;injection this with this;subst this;exact hdE)
 refine mE 37 ?_
 refine mN h0 40 ([(Value.string ByteArray.empty),(Value.int .i64 0),(Value.int .i64 0),(Value.bool false),(Value.bool false),(Value.string ByteArray.empty),(Value.slice none 0 0),(Value.slice none 0 0),(Value.slice none 0 0)]) fun g6 w6 h6=>?_
 refine mT (xR h6 0 ([(Value.string s),(Value.int .i64 n),(Value.int .i64 t),(Value.bool r),(Value.bool m),(Value.string ts),(Value.slice C tb_.length cc),(Value.slice D an ca),(Value.slice E xs.length ce)])) fun _ w7 h7=>?_
 refine mT (xS h7 0 ([(Value.string s),(Value.int .i64 n),(Value.int .i64 t),(Value.bool r),(Value.bool m),(Value.string ts),(Value.slice C tb_.length cc),(Value.slice none 0 0),(Value.slice E xs.length ce)])) fun _ w9 h9=>?_
 refine ma h9 0 ?_
 refine mT (x_wrT h9 39 [(Value.iface 40 (Value.agg ([(Value.string s),(Value.int .i64 n),(Value.int .i64 t),(Value.bool r),(Value.bool m),(Value.string ts),(Value.slice C tb_.length cc),(Value.slice none 0 0),(Value.slice E xs.length ce)]).toArray))] (by kernel_rfl) (mwrite_any (vTgs_any (D:=none) (cd:=0) (ab:=[]) (h9.rd 1 rfl) (SB.nil _ 0 (by unfold maxLen;omega) none) (h9.rd 0 rfl) hx hs hsl hn ht hl hts (by decide)) tgsD_right hlen)) ?_
 rintro _ w11 ⟨A11,c11,rfl,h11⟩
 refine mT (x_digestS h11 2 rfl (wrV (tgsD s n t r m (.ticket ts tb_) [] (xs.map Xt.th))) (by kernel_rfl) (OB.sb (h11.at_ 0 rfl)) (by omega) hsm) ?_
 rintro _ w13 ⟨A13,c13,F13,rfl,h13⟩
 refine mP (Value.slice A13 16 c13) ?_
 exact ⟨_,_,_,rfl,h13.sel [3,0] [] rfl rfl rfl⟩
end
section
open Go.RowKit Go.QT
/-- Several things, as one. -/
def rStar(l:List Res):Res where
 F:=fun q=>∃ i r,l[i]?=some r/\r.F q
 Φ:=fun w=>(∀ (i:Nat) (r:Res),l[i]?=some r->r.Φ w)/\∀ (i j:Nat) (r s:Res),l[i]?=some r->l[j]?=some s->i≠j->r.dj s
 lt:=fun h q ⟨i,r,hi,hq⟩=>r.lt (h.1 i r hi) q hq
 keep:=fun h hs hk=>⟨fun i r hi=>r.keep (h.1 i r hi) hs fun q hq=>hk q ⟨i,r,hi,hq⟩,h.2⟩
section
variable{F0:Nat->Prop}{w0 w w':World}{ro rs l:List Res}
theorem Hp.openStar(h:Hp F0 w0 w ro rs)(i:Nat)(hi:rs[i]?=some (rStar l)):Hp F0 w0 w ro (l++rs.eraseIdx i):=
 h.call1 i hi ⟨Fr.refl _ _,(h.own i _ hi).1,fun i r hr q hq=>.inl ⟨i,r,hr,hq⟩,(h.own i _ hi).2,by simp,by simp⟩
theorem Hp.oneStar{w:World}(h:(rStar l).Φ w):Hp (rStar l).F w w [] l:=
 ⟨Fr.refl _ _,h.1,fun i r hr q hq=>.inl ⟨i,r,hr,hq⟩,h.2,by simp,by simp⟩
theorem Hp.closeStar(h:Hp F0 w0 w ro (l++rs)):Hp F0 w0 w ro (rStar l::rs):=by
 have e1:∀ {i:Nat} {r:Res},l[i]?=some r->(l++rs)[i]?=some r:=fun {i r} hi=>by
   rw [List.getElem?_append_left (List.getElem?_eq_some_iff.1 hi).1];exact hi
 have e2:∀ {i:Nat} {r:Res},rs[i]?=some r->(l++rs)[l.length+i]?=some r:=fun {i r} hi=>by
   rw [List.getElem?_append_right (by omega),Nat.add_sub_cancel_left];exact hi
 have lt:∀ {i:Nat} {r:Res},l[i]?=some r->i<l.length:=fun hi=>(List.getElem?_eq_some_iff.1 hi).1
 refine ⟨h.fr,fun i r hi=>?_,fun i r hi q hq=>?_,fun i j r s hi hj hij=>?_,h.red,fun i j r s hi hj=>?_⟩
 · cases i with
   | zero=>injection hi with hi;subst hi;exact ⟨fun i r hr=>h.own i r (e1 hr),fun i j r s hr hs hij=>h.dis i j r s (e1 hr) (e1 hs) hij⟩
   | succ i=>exact h.own _ r (e2 hi)
 · cases i with
   | zero=>injection hi with hi;subst hi;obtain ⟨k,t,hk,ht⟩:=hq;exact h.mine k t (e1 hk) q ht
   | succ i=>exact h.mine _ r (e2 hi) q hq
 · cases i with
   | zero =>
     injection hi with hi;subst hi
     cases j with
     | zero=>exact absurd rfl hij
     | succ j=>exact fun q ⟨k,t,hk,ht⟩ h2=>h.dis k _ t s (e1 hk) (e2 hj) (by have:=lt hk;omega) q ht h2
   | succ i =>
     cases j with
     | zero=>injection hj with hj;subst hj;exact fun q h2 ⟨k,t,hk,ht⟩=>h.dis _ k r t (e2 hi) (e1 hk) (by have:=lt hk;omega) q h2 ht
     | succ j=>exact h.dis _ _ r s (e2 hi) (e2 hj) (by omega)
 cases j with
 | zero=>injection hj with hj;subst hj;exact fun q h2 ⟨k,t,hk,ht⟩=>h.rdis i k r t hi (e1 hk) q h2 ht
 | succ j=>exact h.rdis i _ r s hi (e2 hj)
variable{L L':List (Value × Bytes)}{v:Value}{b:Bytes}
end
end
section
open Go.RowKit Go.QT
structure User where
 name:ByteArray
 key:Fin 16->UInt8
 life:Int
 renew:Int
 mesh:Bool
def uC(u:User):List Value:=[Value.string u.name]++vb (kl u.key)++[Value.int .i64 u.life,Value.int .i64 u.renew,Value.bool u.mesh]
def cmpS(a b:ByteArray):Int:=Lib.compareBytes a.data.toList b.data.toList
/-- The name of the n-th one. -/
def nameAt(us:List User)(n:Nat):ByteArray:=(us[n]?.map (·.name)).getD ByteArray.empty
/-- slices.BinarySearchFunc, by names. -/
def bsGo(us:List User)(s:ByteArray):Nat->Nat->Nat->Nat
 | 0,lo,_=>lo
 | f+1,lo,hi=>if lo<hi then (if cmpS (nameAt us ((lo+hi) / 2)) s<0 then bsGo us s f ((lo+hi) / 2+1) hi else bsGo us s f lo ((lo+hi) / 2)) else lo
def placeI(us:List User)(s:ByteArray):Nat:=bsGo us s us.length 0 us.length
def placeB(us:List User)(s:ByteArray):Bool:=decide (placeI us s<us.length) && decide (cmpS (nameAt us (placeI us s)) s=0)
theorem bsGo_done(us:List User)(s:ByteArray){f lo hi:Nat}(h:¬ lo<hi):bsGo us s f lo hi=lo:=by
 cases f with
 | zero=>rfl
 | succ f=>unfold bsGo;rw [if_neg h]
theorem bsGo_more(us:List User)(s:ByteArray){f lo hi:Nat}(hf:hi-lo<=f):bsGo us s f lo hi=if lo<hi then (if cmpS (nameAt us ((lo+hi) / 2)) s<0 then bsGo us s (f-1) ((lo+hi) / 2+1) hi else bsGo us s (f-1) lo ((lo+hi) / 2)) else lo:=by
 cases f with
 | zero=>rw [if_neg (by omega)];rfl
 | succ f=>rfl
def lBs(bb:Nat)(A:Option Addr)(c:Nat)(us:List User):List Res:=[rBlk bb 176 [.slice A us.length c],rOV 138 20 (.slice A us.length c) (us.map uC)]
/-- All users, as one thing. -/
def rBs(G:Nat->Prop)(bb:Nat)(us:List User):Res where
 F:=G
 Φ:=fun w=>∃ A c,G=(rStar (lBs bb A c us)).F/\(rStar (lBs bb A c us)).Φ w
 lt:=fun ⟨_,_,hG,h⟩ q hq=>(rStar _).lt h q (hG ▸ hq)
 keep:=fun ⟨A,c,hG,h⟩ hs hk=>⟨A,c,hG,(rStar _).keep h hs fun q hq=>hk q (hG ▸ hq)⟩
section
variable{F0:Nat->Prop}{w0 w w':World}{ro rs:List Res}{G:Nat->Prop}{bb:Nat}{us:List User}{o:Oper}{a:Act}
theorem Hp.closeB{A:Option Addr}{c:Nat}(h:Hp F0 w0 w ro (lBs bb A c us++rs)):Hp F0 w0 w ro (rBs (rStar (lBs bb A c us)).F bb us::rs):=by
 have h1:=h.closeStar
 have h2:=h1.upd 0 rfl (Fr.refl _ _) (rBs (rStar (lBs bb A c us)).F bb us) ⟨A,c,rfl,h1.own 0 _ rfl⟩ (fun q hq=>.inl hq)
 exact h2
theorem bs_open(h:(rBs G bb us).Φ w):∃ A c,Blk w bb 176 [.slice A us.length c]/\(rOV 138 20 (.slice A us.length c) (us.map uC)).Φ w/\(∀ q,q=bb->G q)/\(∀ q,(rOV 138 20 (.slice A us.length c) (us.map uC)).F q->G q):=by
 obtain ⟨A,c,rfl,h2⟩:=h
 exact ⟨A,c,h2.1 0 _ rfl,h2.1 1 _ rfl,fun q hq=>⟨0,_,rfl,hq⟩,fun q hq=>⟨1,_,rfl,hq⟩⟩
/-- The comparison of two strings, as the run time has it. -/
theorem e_cmpx(x y:Operand)(ats:Array TypeId)(ho:o.op=.call { callee:=.value (.func 108),args:=#[x,y],argTypes:=ats })(s t:ByteArray)(hx:a.eval x=.string s)(hy:a.eval y=.string t)(W:World) :
   (execOp a.eval o).run Tryz.prog W=.ok (.value (.int .i64 (cmpS s t))) W:=by
 obtain ⟨dst,op,type,pos,after,guard⟩:=o
 simp only at ho
 subst ho
 rw [execOp_call_go]
 have e:(#[]++#[x,y].map a.eval++#[]:Array Value)=#[.string s,.string t]:=by simp [hx,hy]
 rw [e,run_callFunc_extern (e:=Extern.BytealgCompare.compare) Tryz.func108 (by kernel_rfl) (by kernel_rfl) (by kernel_rfl) (by kernel_rfl),Lib.run_compareString]
 rfl
end
end
section
open Go.RowKit Go.QT
section
variable{P:Program}{o:Oper}{a:Act}
theorem e_shr64(t t':TypeId)(x y:Operand)(ho:o.op=.binOp .shr t x y t')(m:Nat)(k:IntKind)(n:Nat)(hn:n<=8)(hx:a.eval x=.int .u64 (m:Int))(hy:a.eval y=.int k (n:Int))(r:Nat)(hr:r=m / 2 ^ n)(W:World) :
   (execOp a.eval o).run P W=.ok (.value (.int .u64 (r:Int))) W:=by
 subst hr
 have h3:(eqGuard .shr t x y (.int .u64 (m:Int)) (.int k (n:Int))).run P W=.ok () W:=by simp [eqGuard]
 have e:((m:Int)).fdiv (2 ^ n)=((m / 2 ^ n:Nat):Int):=by
   have h2:(2:Int) ^ n=((2 ^ n:Nat):Int):=by simp
   rw [h2,Int.fdiv_eq_ediv_of_nonneg _ (Int.natCast_nonneg _),← Int.natCast_ediv]
 have h4:(binOp .shr t (.int .u64 (m:Int)) (.int k (n:Int))).run P W=.ok (.int .u64 ((m / 2 ^ n:Nat):Int)) W:=by
   have hm:min ((n:Int)).toNat IntKind.u64.bits=n:=by
     show min ((n:Int)).toNat 64=n
     omega
   have h0:¬ ((n:Int)<0):=by omega
   unfold binOp Op.shift
   simp only [if_neg h0,hm,e,Sem.run_pure]
 unfold execOp
 simp only [ho,hx,hy,Sem.run_bind,h3,h4,Result.andThen_ok,Sem.run_pure]
theorem us_at{us:List User}{i:Nat}{u:User}(h:us[i]?=some u):(us.map uC)[i]?=some (uC u):=by rw [List.getElem?_map,h];rfl
end
theorem cmpx_any(s t:ByteArray)(w:World):Calls Tryz.prog 105 #[(Value.string s),(Value.string t)] w (DPost w (.int .i64 (cmpS s t))):=by
 have h0:=Hp.nil (fun _=>False) w
 refine mE 8 ?_
 refine mW 7 (e_cmpx (.tmp 5) (.tmp 6) #[9,9] (by kernel_rfl) s t (by kernel_rfl) (by kernel_rfl) _) ?_
 exact mQ h0
theorem cmps_any(s t:ByteArray)(w:World):Calls Tryz.prog 88 #[(Value.string s),(Value.string t)] w (DPost w (.int .i64 (cmpS s t))):=by
 have h0:=Hp.nil (fun _=>False) w
 refine mE 8 ?_
 refine mD h0 [(Value.string s),(Value.string t)] (cmpx_any s t _) (fun w3 h3=>?_)
 exact mQ h3
theorem cmpu_any(u:User)(t:ByteArray)(w:World):Calls Tryz.prog 87 #[(Value.agg ([(Value.string u.name)]++vb (kl u.key)++[(Value.int .i64 u.life),(Value.int .i64 u.renew),(Value.bool u.mesh)]).toArray),(Value.string t)] w (DPost w (.int .i64 (cmpS u.name t))):=by
 have h0:=Hp.nil (fun _=>False) w
 refine mE 9 ?_
 refine mN h0 138 ([(Value.string u.name)]++vb (kl u.key)++[(Value.int .i64 u.life),(Value.int .i64 u.renew),(Value.bool u.mesh)]) fun g2 w2 h2=>?_
 refine ma h2 0 ?_
 refine mD h2 [(Value.string u.name),(Value.string t)] (cmps_any u.name t _) (fun w4 h4=>?_)
 exact mQ h4
theorem search_any{us:List User}{s:ByteArray}{A:Option Addr}{c:Nat}{w:World}(hx:RV w 20 A c (us.map uC))(h32:us.length<=1000000):Calls Tryz.prog 86 #[(Value.slice A us.length c),(Value.string s),(Value.func (.func 87) #[] #[])] w (DPost w (.tuple #[.int .i64 (placeI us s:Int),.bool (placeB us s)])):=by
 have h0:=Hp.ro1 (rRV 20 A c (us.map uC)) hx
 refine mE 49 ?_
 refine mL (fun mM xX aA wL=>∃ (f:Nat) (lo:Nat) (hi:Nat),(lo<=hi)/\(hi<=us.length)/\(hi-lo<=f)/\(placeI us s=bsGo us s f lo hi)/\mM=hi-lo/\aA=patch xX 49 [(0,(Value.slice A us.length c)),(1,(Value.string s)),(2,(Value.func (.func 87) #[] #[])),(6,(Value.int .i64 0)),(7,(Value.bool false)),(8,(Value.int .i64 ((us.length:Int)))),(9,(Value.int .i64 ((lo:Int)))),(10,(Value.int .i64 ((hi:Int))))]/\Hp (fun _=>False) w wL [rRV 20 A c ((us.map uC))] []) ⟨_,_,us.length,0,us.length,(Nat.zero_le _),(Nat.le_refl _),(by omega),rfl,rfl,pM,h0.sel [] [0] (by kernel_rfl) rfl rfl⟩ ?_
 rintro _ x5 _ w5 ⟨f,lo,hi,hlo,hhi,hf,hinv,rfl,rfl,h5⟩ KL5 hKL5
 refine mAt ?_
 refine m_if 17 ((lo:Int)<(hi:Int)) (by kernel_rfl) (fun b8=>?_) (fun b8=>?_)
 ·
  have hlt:lo<hi:=by omega
  have hmore:=bsGo_more us s hf
  rw [if_pos hlt] at hmore
  obtain ⟨m,hm⟩:∃ m,m=(lo+hi) / 2:=⟨_,rfl⟩
  obtain ⟨u,hu⟩:∃ u,us[m]?=some u:=⟨_,List.getElem?_eq_getElem (by omega)⟩
  have hnm:nameAt us m=u.name:=by unfold nameAt;rw [hu];rfl
  rw [← hm,hnm] at hmore
  refine mW 20 (exec_add _ _ _ _ bO (lo:Int) (hi:Int) (by kernel_rfl) (by kernel_rfl) (((lo+hi:Nat):Int)) (by omega) (by omega) (by omega) _) ?_
  refine mX 21 (Value.int .u64 (((lo+hi:Nat):Int))) (Value.int .u64 (IntKind.u64.wrap ((lo+hi:Nat):Int))) (wrap_u64_is (by omega) (by omega)) ?_
  refine mW 22 (e_shr64 232 232 (.tmp 21) (.const (Value.int .u64 1)) (by kernel_rfl) (lo+hi) .u64 1 (by decide) (by kernel_rfl) (by kernel_rfl) m (by rw [hm]) _) ?_
  refine mX 23 (Value.int .i64 ((m:Int))) (Value.int .i64 (IntKind.i64.wrap (m:Int))) (i64_nat (by omega)) ?_
  refine mW 27 (eIx (RV.lenIs (n:=us.length) (h5.rd 0 rfl) (List.length_map _)).2 m us.length (RV.lenIs (n:=us.length) (h5.rd 0 rfl) (List.length_map _)).1 (by omega) 174 (.tmp 25) (.tmp 26) .i64 138) ?_
  refine mW 28 (e_elemsN (RV.lenIs (n:=us.length) (h5.rd 0 rfl) (List.length_map _)).2 m 0 ([(Value.string u.name)]++vb (kl u.key)++[(Value.int .i64 u.life),(Value.int .i64 u.renew),(Value.bool u.mesh)]) (us_at hu) 138 (.tmp 27) (by kernel_rfl) ([(Value.string u.name)]++vb (kl u.key)++[(Value.int .i64 u.life),(Value.int .i64 u.renew),(Value.bool u.mesh)]) (by kernel_rfl) (by kernel_rfl) (by kernel_rfl)) ?_
  refine mD h5 [(Value.agg ([(Value.string u.name)]++vb (kl u.key)++[(Value.int .i64 u.life),(Value.int .i64 u.renew),(Value.bool u.mesh)]).toArray),(Value.string s)] (cmpu_any u s _) (fun w11 h11=>?_)
  refine m_if 31 (cmpS u.name s<0) (by kernel_rfl) (fun b12=>?_) (fun b12=>?_)
  ·
   rw [if_pos (by omega)] at hmore
   have hn:=hinv.trans hmore
   refine mW 33 (exec_add _ _ _ _ bO (m:Int) 1 (by kernel_rfl) (by kernel_rfl) (((m+1:Nat):Int)) (by omega) (by omega) (by omega) _) ?_
   exact mK KL5 (hKL5 _ _ ⟨hi-(m+1),_,(by omega),((f-1)),((m+1)),hi,(by omega),(by omega),(by omega),hn,rfl,pM,h11.sel [] [0] (by kernel_rfl) rfl rfl⟩)
  rw [if_neg (by omega)] at hmore
  have hn:=hinv.trans hmore
  exact mK KL5 (hKL5 _ _ ⟨m-lo,_,(by omega),((f-1)),lo,m,(by omega),(by omega),(by omega),hn,rfl,pM,h11.sel [] [0] (by kernel_rfl) rfl rfl⟩)
 rcases Nat.lt_or_ge lo us.length with hl|hl
 ·
  have hpl:placeI us s=lo:=hinv.trans (bsGo_done us s (by omega))
  obtain ⟨u,hu⟩:∃ u,us[lo]?=some u:=⟨_,List.getElem?_eq_getElem hl⟩
  have hnm:nameAt us lo=u.name:=by unfold nameAt;rw [hu];rfl
  refine mX 38 (.bool true) (Value.bool (decide ((lo:Int)<(us.length:Int)))) (by simp;omega) ?_
  refine mW 43 (eIx (RV.lenIs (n:=us.length) (h5.rd 0 rfl) (List.length_map _)).2 lo us.length (RV.lenIs (n:=us.length) (h5.rd 0 rfl) (List.length_map _)).1 (by omega) 174 (.tmp 41) (.tmp 42) .i64 138) ?_
  refine mW 44 (e_elemsN (RV.lenIs (n:=us.length) (h5.rd 0 rfl) (List.length_map _)).2 lo 0 ([(Value.string u.name)]++vb (kl u.key)++[(Value.int .i64 u.life),(Value.int .i64 u.renew),(Value.bool u.mesh)]) (us_at hu) 138 (.tmp 43) (by kernel_rfl) ([(Value.string u.name)]++vb (kl u.key)++[(Value.int .i64 u.life),(Value.int .i64 u.renew),(Value.bool u.mesh)]) (by kernel_rfl) (by kernel_rfl) (by kernel_rfl)) ?_
  refine mD h5 [(Value.agg ([(Value.string u.name)]++vb (kl u.key)++[(Value.int .i64 u.life),(Value.int .i64 u.renew),(Value.bool u.mesh)]).toArray),(Value.string s)] (cmpu_any u s _) (fun w15 h15=>?_)
  refine mX 47 (Value.bool (placeB us s)) (Value.bool (cmpS u.name s == 0)) (congrArg Value.bool (by unfold placeB;rw [hpl,decide_eq_true hl,hnm,Bool.true_and];rfl)) ?_
  exact mQe (Value.tuple #[(Value.int .i64 ((lo:Int))),(Value.bool (placeB us s))]) h15 (by rw [hpl])
 have hpl:placeI us s=lo:=hinv.trans (bsGo_done us s (by omega))
 refine mX 38 (.bool false) (Value.bool (decide ((lo:Int)<(us.length:Int)))) (by simp;omega) ?_
 exact mQe (Value.tuple #[(Value.int .i64 ((lo:Int))),(Value.bool false)]) h5 (by rw [hpl,show placeB us s=false from by unfold placeB;rw [hpl,decide_eq_false (by omega)];rfl])
end
section
open Go.RowKit Go.QT
/-- cache.Near. -/
def nearF(now t:Int):Bool:=decide (0<=t/\t<=1099511627776/\0<=now/\now<=1099511627776/\now-t<=30/\t-now<=30)
theorem place_any{G:Nat->Prop}{bb:Nat}{us:List User}{w:World}(hB:(rBs G bb us).Φ w)(h32:us.length<=1000000)(s:ByteArray):Calls Tryz.prog 59 #[(pt bb 0),(Value.string s)] w (DPost w (.tuple #[.int .i64 (placeI us s:Int),.bool (placeB us s)])):=by
 obtain ⟨A,c,hb,hov,_,_⟩:=bs_open hB
 have hx:=(OV.rvn (n:=us.length) hov).2
 have h0:=(Hp.ro1 (rRV 20 A c (us.map uC)) hx).addR (rBlk bb 176 _) hb (by simp)
 refine mE 14 ?_
 refine mr h0 0 ?_
 refine mD h0 [(Value.slice A us.length c),(Value.string s),(Value.func (.func 87) #[] #[])] (search_any (h0.rd 1 rfl) h32) (fun w3 h3=>?_)
 exact mQ h3
theorem x_place{o:Oper}{a:Act}{F0:Nat->Prop}{w0 w:World}{ro rs:List Res}{G:Nat->Prop}{bb:Nat}{us:List User}(h:Hp F0 w0 w ro rs)(hB:(rBs G bb us).Φ w)(h32:us.length<=1000000)(s:ByteArray)(hp:pureVal Tryz.prog (execOp a.eval o)=some (.enter 59 #[pt bb 0,.string s])){i:Nat}{b:Bool}(hi:placeI us s=i)(hb:placeB us s=b) :
   OpTo Tryz.prog o a w (fun u w'=>u=.tuple #[.int .i64 (i:Int),.bool b]/\Hp F0 w0 w' ro rs):=by
 subst hi;subst hb
 exact x_dp h 59 [pt bb 0,.string s] hp (place_any hB h32 s)
theorem get_yes{G:Nat->Prop}{bb:Nat}{us:List User}{w:World}(hB:(rBs G bb us).Φ w)(h32:us.length<=1000000){s:ByteArray}{u:User}(hb2:placeB us s=true)(hu:us[placeI us s]?=some u):Calls Tryz.prog 51 #[(pt bb 0),(Value.string s)] w (DPost w (.tuple #[(Value.agg ([(Value.string u.name)]++vb (kl u.key)++[(Value.int .i64 u.life),(Value.int .i64 u.renew),(Value.bool u.mesh)]).toArray),.int .i64 0])):=by
 obtain ⟨A,c,hb,hov,_,_⟩:=bs_open hB
 have hx:=(OV.rvn (n:=us.length) hov).2
 have hlt:=(List.getElem?_eq_some_iff.1 hu).1
 have h0:=((Hp.ro1 (rRV 20 A c (us.map uC)) hx).addR (rBlk bb 176 _) hb (by simp)).addR (rBs G bb us) hB (by simp)
 refine mE 24 ?_
 refine mN h0 138 ([(Value.string ByteArray.empty)]++vb (List.replicate 16 0)++[(Value.int .i64 0),(Value.int .i64 0),(Value.bool false)]) fun g2 w2 h2=>?_
 refine mT (x_place h2 (h2.rd 0 rfl) h32 s (by kernel_rfl) rfl hb2) ?_
 rintro _ w4 ⟨rfl,h4⟩
 refine mr h4 1 ?_
 refine mW 22 (eIx (RV.lenIs (n:=us.length) (h4.rd 2 rfl) (List.length_map _)).2 ((placeI us s)) us.length (RV.lenIs (n:=us.length) (h4.rd 2 rfl) (List.length_map _)).1 hlt 174 (.tmp 20) (.tmp 21) .i64 138) ?_
 refine mW 23 (e_elemsN (RV.lenIs (n:=us.length) (h4.rd 2 rfl) (List.length_map _)).2 ((placeI us s)) 0 ([(Value.string u.name)]++vb (kl u.key)++[(Value.int .i64 u.life),(Value.int .i64 u.renew),(Value.bool u.mesh)]) (us_at hu) 138 (.tmp 22) (by kernel_rfl) ([(Value.string u.name)]++vb (kl u.key)++[(Value.int .i64 u.life),(Value.int .i64 u.renew),(Value.bool u.mesh)]) (by kernel_rfl) (by kernel_rfl) (by kernel_rfl)) ?_
 refine mT (xSs h4 0 138 (.tmp 4) (.tmp 23) 0 ([(Value.string u.name)]++vb (kl u.key)++[(Value.int .i64 u.life),(Value.int .i64 u.renew),(Value.bool u.mesh)]) ([(Value.string u.name)]++vb (kl u.key)++[(Value.int .i64 u.life),(Value.int .i64 u.renew),(Value.bool u.mesh)])) fun _ w8 h8=>?_
 refine mF (post_2 (r:=.cell 4 138) (s:=.tmp 5) (by kernel_rfl) rfl (rce (h8.at_ 0 rfl)) (rtm (Value.int .i64 0)) ?_)
 exact ⟨rfl,h8.below0⟩
theorem near_ways(now t:Int):t<0∨(0<=t/\1099511627776<t)∨(0<=t/\t<=1099511627776/\now<0)∨(0<=t/\t<=1099511627776/\0<=now/\1099511627776<now)∨(0<=t/\t<=1099511627776/\0<=now/\now<=1099511627776):=by omega
theorem near_any(now t:Int)(w:World):Calls Tryz.prog 64 #[(Value.int .i64 now),(Value.int .i64 t)] w (DPost w (.bool (nearF now t))):=by
 have h0:=Hp.nil (fun _=>False) w
 refine mE 29 ?_
 rcases near_ways now t with hq|⟨q1,hq⟩|⟨q1,q2,hq⟩|⟨q1,q2,q3,hq⟩|⟨q1,q2,q3,q4⟩
 ·
  refine mX 6 (.bool true) (Value.bool (decide (t<0))) (by simp;omega) ?_
  exact mQe (Value.bool false) h0 (by rw [show nearF now t=false from decide_eq_false (by omega)])
 ·
  refine mX 6 (.bool false) (Value.bool (decide (t<0))) (by simp;omega) ?_
  refine mX 9 (.bool true) (Value.bool (decide (t>1099511627776))) (by simp;omega) ?_
  exact mQe (Value.bool false) h0 (by rw [show nearF now t=false from decide_eq_false (by omega)])
 ·
  refine mX 6 (.bool false) (Value.bool (decide (t<0))) (by simp;omega) ?_
  refine mX 9 (.bool false) (Value.bool (decide (t>1099511627776))) (by simp;omega) ?_
  refine mX 13 (.bool true) (Value.bool (decide (now<0))) (by simp;omega) ?_
  exact mQe (Value.bool false) h0 (by rw [show nearF now t=false from decide_eq_false (by omega)])
 ·
  refine mX 6 (.bool false) (Value.bool (decide (t<0))) (by simp;omega) ?_
  refine mX 9 (.bool false) (Value.bool (decide (t>1099511627776))) (by simp;omega) ?_
  refine mX 13 (.bool false) (Value.bool (decide (now<0))) (by simp;omega) ?_
  refine mX 17 (.bool true) (Value.bool (decide (now>1099511627776))) (by simp;omega) ?_
  exact mQe (Value.bool false) h0 (by rw [show nearF now t=false from decide_eq_false (by omega)])
 refine mX 6 (.bool false) (Value.bool (decide (t<0))) (by simp;omega) ?_
 refine mX 9 (.bool false) (Value.bool (decide (t>1099511627776))) (by simp;omega) ?_
 refine mX 13 (.bool false) (Value.bool (decide (now<0))) (by simp;omega) ?_
 refine mX 17 (.bool false) (Value.bool (decide (now>1099511627776))) (by simp;omega) ?_
 rcases (by omega:now-t<=30∨30<now-t) with q5|q5
 ·
  refine mW 21 (exec_sub _ _ _ _ bO now t (by kernel_rfl) (by kernel_rfl) (now-t) rfl (by omega) (by omega) _) ?_
  refine mX 22 (.bool true) (Value.bool (decide (now-t<=30))) (by simp;omega) ?_
  refine mW 26 (exec_sub _ _ _ _ bO t now (by kernel_rfl) (by kernel_rfl) (t-now) rfl (by omega) (by omega) _) ?_
  exact mQe (Value.bool (decide (t-now<=30))) h0 (by rw [show nearF now t=decide (t-now<=30) from by unfold nearF;by_cases h:t-now<=30 <;> simp [h] <;> omega])
 refine mW 21 (exec_sub _ _ _ _ bO now t (by kernel_rfl) (by kernel_rfl) (now-t) rfl (by omega) (by omega) _) ?_
 refine mX 22 (.bool false) (Value.bool (decide (now-t<=30))) (by simp;omega) ?_
 exact mQe (Value.bool false) h0 (by rw [show nearF now t=false from decide_eq_false (by omega)])
theorem bnew_any(w:World):Calls Tryz.prog 58 #[] w (fun e w'=>∃ G bb,e=.returned (pt bb 0)/\Hp (fun _=>False) w w' [] [rBs G bb []]):=by
 have h0:=Hp.nil (fun _=>False) w
 refine mE 3 ?_
 refine mN h0 176 ([(Value.slice none 0 0)]) fun g3 w3 h3=>?_
 refine mP (pt g3 0) ?_
 have h4:=h3.ovNil 138 20
 exact ⟨_,_,rfl,(show Hp _ _ _ _ (lBs _ none 0 []++[]) from h4.sel [1,0] [] rfl rfl rfl).closeB⟩
end
section
open Go.RowKit Go.QT
section
variable{P:Program}{o:Oper}{a:Act}
/-- v[i:]. -/
theorem e_cutA{A:Option Addr}{sz n c i:Nat}(hi:i<=n)(t:TypeId)(x lo:Operand)(ho:o.op=.slice t x (some lo) none none)(hx:a.eval x=.slice A n c)(k:IntKind)(hlo:a.eval lo=.int k (i:Int))(ht:P.underlying t=some (.slice (P.elem t)))(hE:pureVal P (sizeOf (P.elem t))=some sz)(W:World) :
   (execOp a.eval o).run P W=.ok (.value (sliced A i n c sz)) W:=by
 have hsz:=pureVal_run hE W
 have hr:(Instr.sliceAt t (.slice A n c) (some (.int k (i:Int))) none none).run P W=.ok (sliced A i n c sz) W:=by
   rw [run_sliceAt_slice W t _ _ _ _ ht,run_slice_l W t A _ c ht k i (by omega) (by omega),hsz]
   rfl
 unfold execOp
 simp only [ho,hx,hlo,Option.map_some,Option.map_none,Sem.run_bind,hr,Result.andThen_ok,Sem.run_pure]
/-- append of one element that is only read. -/
theorem x_pushR{F0:Nat->Prop}{w0 w:World}{ro rs:List Res}{sz:Nat}{xs:List (List Value)}(h:Hp F0 w0 w ro rs)(i j:Nat){E:TypeId}{v:Value}{g:Nat}{T:TypeId}{news:List Value}(hi:rs[i]?=some (rOV E sz v xs))(hj:ro[j]?=some (rBlk g T news))
   (s x:Operand) (t:TypeId) (ho:o.op=.call { callee:=.builtin .append,args:=#[s,x],argTypes:=#[t,t] }) (bytes:Nat) (z:Value) (ht:P.underlying t=some (.slice E)) (hinf:(P.info? E).map (fun i=>(i.zero,i.size,i.bytes))=some (some z,sz,bytes))
   (hzs:z.cells.size=sz) (hsz:decide (0<sz)=true) (hs:a.eval s=v) (c:Nat) (hx:a.eval x=.slice (some ⟨g,0,none⟩) 1 c) (hn:news.length=sz) (h1:news.all (·.oneCell')=true)
   (hlen:(xs.length+1)*bytes<=140737488355328) (hlen2:xs.length<maxLen) (ys:List (List Value)) (n:Nat) (hys:ys=xs++[news]) (hyn:ys.length=n) :
   OpTo P o a w (fun u w'=>∃ A cc,u=.slice A n cc/\Hp F0 w0 w' ro (rs.set i (rOV E sz (.slice A n cc) ys))):=by
 subst hys;subst hyn
 have hv:OV w 0 E sz v xs:=h.own i _ hi
 have hb:Blk w g T news:=h.red j _ hj
 obtain ⟨v',w',hrun,h2,h3,h4⟩:=OV.push (P:=P) s x t ho 0 E sz bytes z ht hinf hzs (of_decide_eq_true hsz) v xs hs hv g T news c hx hb hn (by simpa using h1) hlen hlen2 (Nat.zero_le _)
 obtain ⟨A,cc,e,_,_⟩:=h2.form
 refine OpTo.run v' hrun ⟨A,cc,e,?_⟩
 rw [← e]
 refine h.upd i hi (Fr.of_grown h3 (fun q hq=>.inl hq)) (rOV E sz v' (xs++[news])) h2 (fun q hq=>?_)
 rcases h4 with h4|h4
 · left;show v.ownBlock=some q;rw [← h4];exact hq
 right
 have:v'.ownBlock=some q:=hq
 rw [h4] at this
 injection this with this
 omega
end
def InsPost(w:World)(v:Value)(xs:List (List Value))(e:Ending)(w':World):Prop:=∃ A c,e=.returned (.slice A xs.length c)/\Hp (rOV 138 20 v []).F w w' [] [rOV 138 20 (.slice A xs.length c) xs]
theorem x_ins{o:Oper}{a:Act}{F0:Nat->Prop}{w0 w:World}{ro rs:List Res}{v:Value}{xs ys:List (List Value)}(h:Hp F0 w0 w ro rs)(i:Nat)(hi:rs[i]?=some (rOV 138 20 v xs))(fn:FuncId)(al:List Value)(hp:pureVal Tryz.prog (execOp a.eval o)=some (.enter fn al.toArray))(n:Nat)(hn:ys.length=n)(hc:Calls Tryz.prog fn al.toArray w (InsPost w v ys)) :
   OpTo Tryz.prog o a w (fun u w'=>∃ A c,u=.slice A n c/\Hp F0 w0 w' ro (rOV 138 20 (.slice A n c) ys::rs.eraseIdx i)):=by
 subst hn
 exact OpTo.enter fn al hp hc fun e w' ⟨A,c,he,hh⟩=>⟨_,he,A,c,rfl,h.call1 i hi hh⟩
theorem ins_end{A:Option Addr}{n c g:Nat}{xs:List (List Value)}{u:User}{w:World}(hv:(rOV 138 20 (.slice A n c) xs).Φ w)(hb:Blk w g 138 ([(Value.string u.name)]++vb (kl u.key)++[(Value.int .i64 u.life),(Value.int .i64 u.renew),(Value.bool u.mesh)]))(hd:¬ (rOV 138 20 (.slice A n c) xs).F g)(hn:xs.length=n)(h32:n<=1000000):Calls Tryz.prog 60 #[.slice A n c,.int .i64 (n:Int),.slice (some ⟨g,0,none⟩) 1 1] w (InsPost w (.slice A n c) (xs++[uC u])):=by
 have h0:=((Hp.one (rOV 138 20 (.slice A n c) xs) hv).weaken (F:=(rOV 138 20 (.slice A n c) []).F) (fun q hq=>hq)).addR (rBlk g 138 _) hb (fun j s hj q h1 h2=>by have h3:=sel1 hj;injection h3 with h3;subst h3;exact hd (by rw [show q=g from h1] at h2;exact h2))
 refine mE 95 ?_
 refine mW 12 (v:=(sliced A n n c 20)) (e_cutA (A:=A) (n:=n) (c:=c) (i:=n) (by omega) 174 (.tmp 10) (.tmp 11) (by kernel_rfl) (by kernel_rfl) .i64 (by kernel_rfl) (by kernel_rfl) (by kernel_rfl) _) ?_
 refine mX 22 (.bool true) (Value.bool (((n:Int)) == ((n:Int)))) (by simp) ?_
 refine mT (x_pushR h0 0 0 rfl rfl (.tmp 23) (.tmp 24) 174 (by kernel_rfl) 56 (Value.agg ([(Value.string ByteArray.empty)]++vb (List.replicate 16 0)++[(Value.int .i64 0),(Value.int .i64 0),(Value.bool false)]).toArray) (by kernel_rfl) (by kernel_rfl) (by kernel_rfl) (by kernel_rfl) (by kernel_rfl) 1 (by kernel_rfl) (by kernel_rfl) (by kernel_rfl) (by omega) (by unfold maxLen;omega) (xs++[uC u]) ((xs++[uC u]).length) rfl rfl) ?_
 rintro _ w10 ⟨A10,c10,rfl,h10⟩
 refine mP (Value.slice A10 ((xs++[uC u]).length) c10) ?_
 exact ⟨_,_,rfl,h10.sel [0] [] rfl rfl rfl⟩
theorem add_twice{G:Nat->Prop}{bb:Nat}{us:List User}{u:User}{w:World}(hB:(rBs G bb us).Φ w)(h32:us.length<=1000000)(hsz:u.name.size<=1000000000)(hr:rightN u.name=true)(ha:1<=u.life/\u.life<=600/\0<=u.renew/\u.renew<=6000)(ht:placeB us u.name=true):Calls Tryz.prog 43 #[(pt bb 0),(Value.agg ([(Value.string u.name)]++vb (kl u.key)++[(Value.int .i64 u.life),(Value.int .i64 u.renew),(Value.bool u.mesh)]).toArray)] w (DPost w (.int .i64 10)):=by
 obtain ⟨A,c,hb,hov,_,_⟩:=bs_open hB
 have h0:=(Hp.ro1 (rBlk bb 176 _) hb).addR (rBs G bb us) hB (by simp)
 refine mE 58 ?_
 refine mN h0 138 ([(Value.string u.name)]++vb (kl u.key)++[(Value.int .i64 u.life),(Value.int .i64 u.renew),(Value.bool u.mesh)]) fun g2 w2 h2=>?_
 refine ma h2 0 ?_
 refine mT (x_place h2 (h2.rd 0 rfl) h32 u.name (by kernel_rfl) rfl rfl) ?_
 rintro _ w4 ⟨rfl,h4⟩
 refine ma h4 0 ?_
 refine mT (x_nright h4 u.name hsz (by kernel_rfl)) ?_
 rintro _ w7 ⟨rfl,h7⟩
 refine mX 18 (Value.bool false) (Value.bool (!(rightN u.name))) (congrArg Value.bool (by rw [hr];rfl)) ?_
 refine ma h7 0 ?_
 refine mX 22 (.bool false) (Value.bool (decide (u.life<1))) (by simp;omega) ?_
 refine ma h7 0 ?_
 refine mX 26 (.bool false) (Value.bool (decide (u.life>600))) (by simp;omega) ?_
 refine ma h7 0 ?_
 refine mX 31 (.bool false) (Value.bool (decide (u.renew<0))) (by simp;omega) ?_
 refine ma h7 0 ?_
 refine mX 36 (.bool false) (Value.bool (decide (u.renew>6000))) (by simp;omega) ?_
 refine mX 38 (Value.bool true) (Value.bool (placeB us u.name)) (congrArg Value.bool ht) ?_
 exact mQ h7
theorem bs_of{bb:Nat}{A:Option Addr}{c:Nat}{us:List User}{w:World}(hb:Blk w bb 176 [.slice A us.length c])(ho:(rOV 138 20 (.slice A us.length c) (us.map uC)).Φ w)(hd:(rBlk bb 176 [.slice A us.length c]).dj (rOV 138 20 (.slice A us.length c) (us.map uC))):(rBs (rStar (lBs bb A c us)).F bb us).Φ w:=by
 refine ⟨A,c,rfl,fun i r hi=>?_,fun i j r s hi hj hij=>?_⟩
 · match i,hi with
   | 0,hi=>injection hi with hi;subst hi;exact hb
   | 1,hi=>injection hi with hi;subst hi;exact ho
   | n+2,hi=>simp [lBs] at hi
 match i,j,hi,hj with
 | 0,0,_,_=>exact absurd rfl hij
 | 0,1,hi,hj=>injection hi with hi;injection hj with hj;subst hi;subst hj;exact hd
 | 1,0,hi,hj=>injection hi with hi;injection hj with hj;subst hi;subst hj;exact hd.symm
 | 1,1,_,_=>exact absurd rfl hij
 | n+2,_,hi,_=>simp [lBs] at hi
 | 0,n+2,_,hj=>simp [lBs] at hj
 | 1,n+2,_,hj=>simp [lBs] at hj
theorem lBs_snoc(bb:Nat)(A:Option Addr)(c:Nat)(us:List User)(u:User):lBs bb A c (us++[u])=[rBlk bb 176 [.slice A (us++[u]).length c],rOV 138 20 (.slice A (us++[u]).length c) (us.map uC++[uC u])]:=by
 rw [lBs,List.map_append];rfl
theorem ins_len(us:List User)(u:User):(us.map uC++[uC u]).length=(us++[u]).length:=by simp
theorem add_ok{G:Nat->Prop}{bb:Nat}{us:List User}{u:User}{w:World}(hB:(rBs G bb us).Φ w)(h32:us.length<=1000000)(hsz:u.name.size<=1000000000)(hr:rightN u.name=true)(ha:1<=u.life/\u.life<=600/\0<=u.renew/\u.renew<=6000)(ht:placeB us u.name=false)(hf:us.length<32)(hi:placeI us u.name=us.length):Calls Tryz.prog 43 #[(pt bb 0),(Value.agg ([(Value.string u.name)]++vb (kl u.key)++[(Value.int .i64 u.life),(Value.int .i64 u.renew),(Value.bool u.mesh)]).toArray)] w (fun e w'=>e=.returned (.int .i64 0)/\∃ G',Hp G w w' [] [rBs G' bb (us++[u])]):=by
 obtain ⟨A,c,rfl,h2⟩:=hB
 have h0:=Hp.oneStar h2
 refine mE 58 ?_
 refine mN h0 138 ([(Value.string u.name)]++vb (kl u.key)++[(Value.int .i64 u.life),(Value.int .i64 u.renew),(Value.bool u.mesh)]) fun g2 w2 h2=>?_
 refine ma h2 0 ?_
 refine mT (x_place h2 (bs_of (h2.at_ 1 rfl) (h2.at_ 2 rfl) (h2.dis 1 2 _ _ rfl rfl (by decide))) h32 u.name (by kernel_rfl) hi ht) ?_
 rintro _ w5 ⟨rfl,h5⟩
 refine ma h5 0 ?_
 refine mT (x_nright h5 u.name hsz (by kernel_rfl)) ?_
 rintro _ w8 ⟨rfl,h8⟩
 refine mX 18 (Value.bool false) (Value.bool (!(rightN u.name))) (congrArg Value.bool (by rw [hr];rfl)) ?_
 refine ma h8 0 ?_
 refine mX 22 (.bool false) (Value.bool (decide (u.life<1))) (by simp;omega) ?_
 refine ma h8 0 ?_
 refine mX 26 (.bool false) (Value.bool (decide (u.life>600))) (by simp;omega) ?_
 refine ma h8 0 ?_
 refine mX 31 (.bool false) (Value.bool (decide (u.renew<0))) (by simp;omega) ?_
 refine ma h8 0 ?_
 refine mX 36 (.bool false) (Value.bool (decide (u.renew>6000))) (by simp;omega) ?_
 refine ma h8 1 ?_
 refine mX 46 (.bool false) (Value.bool (((us.length:Int)) == 32)) (by simp;omega) ?_
 refine dG h8 12 9 (fun W=>(rBlk bb 176 ([(Value.slice A us.length c)])).Φ W/\(rBlk g2 138 ([(Value.string u.name)]++vb (kl u.key)++[(Value.int .i64 u.life),(Value.int .i64 u.renew),(Value.bool u.mesh)])).Φ W/\True) (fun w13 h13=>⟨h13.at_ 1 rfl,h13.at_ 0 rfl,trivial⟩) ?_
 intro w13 h13
 refine dP 7 [0,1,2,3,5] ?_
 refine dL 4 (fun W hW=>hW.1) ?_
 refine dL 6 (fun W hW=>hW.2.1) ?_
 refine dT 7 (x_bs h13 138 ([(Value.string u.name)]++vb (kl u.key)++[(Value.int .i64 u.life),(Value.int .i64 u.renew),(Value.bool u.mesh)]) 1 (by kernel_rfl)) ?_
 rintro _ w14 ⟨g14,rfl,h14⟩
 refine ⟨⟨h14.at_ 2 rfl,h14.at_ 1 rfl,trivial⟩,?_⟩
 refine dT 8 (x_ins h14 3 rfl 60 [(Value.slice A us.length c),(Value.int .i64 ((us.length:Int))),(Value.slice (some ⟨g14,0,none⟩) 1 1)] (by kernel_rfl) ((us++[u]).length) (ins_len us u) (ins_end (h14.at_ 3 rfl) (h14.at_ 0 rfl) (fun hq=>h14.dis 3 0 _ _ rfl rfl (by decide) _ hq rfl) (List.length_map _) h32)) ?_
 rintro _ w15 ⟨A15,c15,rfl,h15⟩
 refine ⟨⟨h15.at_ 3 rfl,h15.at_ 2 rfl,trivial⟩,?_⟩
 refine dN 9 ?_
 refine dN 10 ?_
 refine dE 11 (xSt h15 3 174 (.tmp 57) (.tmp 55) 0 (Value.slice A15 ((us++[u]).length) c15) ([(Value.slice A15 ((us++[u]).length) c15)])) ?_
 rintro _ w16 h16
 refine dX ?_
 refine mP (Value.int .i64 0) ?_
 exact ⟨rfl,_,(show Hp _ _ _ _ (lBs bb A15 c15 (us++[u])++[]) from by rw [lBs_snoc];exact h16.sel [3,0] [] rfl rfl rfl).closeB⟩
end
section
open Go.RowKit Go.QT
/-- A table that has room for n more keys and boxes. -/
structure Room(n:Nat)(s:STab):Prop where
 body:∀ b ∈ s.boxes,b.body.length<=1000000
 box:s.boxes.length+n<1000000
 key:s.keys.length+n<1000000
theorem Room.ok{n:Nat}{s:STab}(h:Room n s):TabOk s:=⟨h.body,by have:=h.box;omega⟩
theorem Room.less{n m:Nat}{s:STab}(h:Room n s)(hm:m<=n):Room m s:=⟨h.body,by have:=h.box;omega,by have:=h.key;omega⟩
theorem Room.keys{n:Nat}{s:STab}(h:Room n s):s.keys.length<1000000:=by have:=h.key;omega
theorem Room.seal{n:Nat}{s:STab}(h:Room (n+1) s)(k:Bytes)(u:Int){b:Bytes}(hb:b.length<=1000000):Room n (s.seal k u b):=by
 refine ⟨fun x hx=>?_,?_,?_⟩
 · rcases List.mem_append.1 hx with hx|hx
   · exact h.body x hx
   rw [List.mem_singleton.1 hx];exact hb
 · have:=h.box
   show (s.boxes++_).length+n<_
   rw [List.length_append,List.length_singleton];omega
 have:=h.key
 show s.keys.length+n<_
 omega
theorem Room.add{n:Nat}{s:STab}(h:Room (n+1) s)(f:SFrom):Room n (s.add f):=by
 refine ⟨h.body,?_,?_⟩
 · have:=h.box
   show s.boxes.length+n<_
   omega
 have:=h.key
 show (s.keys++[f]).length+n<_
 rw [List.length_append,List.length_singleton];omega
theorem rTh_inside(w:World)(f:Int)(K:Fin 16->UInt8)(s:ByteArray)(a u r:Int):(rTh (fun _=>False) (.iface 54 (.agg ([Value.int .i64 f]++vb (kl K)++[Value.string s,.int .i64 a,.int .i64 u,.int .i64 r]).toArray)) (.inside f K s a u r)).Φ w:=⟨fun _ hf=>hf.elim,rfl⟩
theorem rTh_reply(w:World)(f:Int)(K:Fin 16->UInt8)(n:Int)(s:ByteArray)(a u r:Int):(rTh (fun _=>False) (.iface 33 (.agg ([Value.int .i64 f]++vb (kl K)++[Value.int .i64 n,.string s,.int .i64 a,.int .i64 u,.int .i64 r]).toArray)) (.reply f K n s a u r)).Φ w:=⟨fun _ hf=>hf.elim,rfl⟩
theorem rTh_stamp(w:World)(t q:Int):(rTh (fun _=>False) (.iface 140 (.agg #[.int .i64 t,.int .i64 q])) (.stamp t q)).Φ w:=⟨fun _ hf=>hf.elim,rfl⟩
def kdcC(tb bb:Nat)(K:Fin 16->UInt8):List Value:=[Value.iface 28 (pt tb 0),pt bb 0]++vb (kl K)
/-- What Give leaves, where it gives. -/
def GivePost(w:World)(F:Nat->Prop)(tb:Nat)(s s':STab)(server:ByteArray)(e:Ending)(w':World):Prop:=
 ∃ A1 c1 A2 c2 F',e=.returned (.tuple #[.agg #[.string server,.slice A1 16 c1],.slice A2 16 c2,.int .i64 0]) /\
   Hp F w w' [] [rTab F' tb s',rSB (.slice A1 16 c1) (mkB 98 (s.boxes.length+1)),rSB (.slice A2 16 c2) (mkB 98 (s.boxes.length+2))]
/-- What it leaves, where it does not. -/
def GiveNo(w:World)(F:Nat->Prop)(tb:Nat)(s':STab)(cc:Nat)(e:Ending)(w':World):Prop:=
 e=.returned (.tuple #[.agg #[.string ByteArray.empty,.slice none 0 0],.slice none 0 0,.int .i64 (cc:Int)])/\∃ F',Hp F w w' [] [rTab F' tb s']
end
end Go.Proofs.YtdefpmmdpfpipaaGreat
