/- der.read of any bytes: plain functions. -/
import Derived.Test.YtaoijkhndakppaaGreatCA8
set_option maxRecDepth 100000
set_option maxHeartbeats 4000000
namespace Go.Proofs.YtaoijkhndakppaaGreat
section
open Go.Value renaming int->iV,slice->lV,string->sV,bool->bV,agg->aV
open Go.RowKit Go.QT
theorem rv_ints{w:World}{g:Nat}{T:TypeId}{cs:List Value}(hb:Blk w g T cs)(l:List Int)(hc:cs=l.map (iV .i64))(hl:l.length<=1000):RV w 1 (some ⟨g,0,none⟩) l.length (l.map fun x=>[iV .i64 x]):=by
 subst hc
 refine ⟨by simp,by unfold maxLen;omega,by simp,fun _=>⟨g,0,rfl,hb.lt,fun i x hx j u hu=>?_⟩⟩
 rw [List.getElem?_map] at hx
 cases h:l[i]? with
 | none=>rw [h] at hx;cases hx
 | some y =>
   rw [h] at hx
   injection hx with hx
   subst hx
   have hj:j=0:=by have:=(List.getElem?_eq_some_iff.1 hu).1;simpa using this
   subst hj
   rw [show 0+i*1+0=i by omega]
   refine (hb.cell _).trans ?_
   rw [List.getElem?_map,h]
   exact hu
theorem x_tiRight{F0:Nat->Prop}{w0 w:World}{ro rs:List Res}{o:Oper}{a:Act}(h:Hp F0 w0 w ro rs)(i:Nat){g:Nat}{T:TypeId}{cs:List Value}(hi:rs[i]?=some (rBlk g T cs))(s:ByteArray)(hs:s.size<=1000000000)(l:List Int)(n:Nat)(hc:cs=l.map (iV .i64))(hn:l.length=n)(hl:n<=1000)
   (hp:pureVal Tryz.prog (execOp a.eval o)=some (.enter 121 #[.string s,.slice (some ⟨g,0,none⟩) n n])) :
   OpTo Tryz.prog o a w (fun u w'=>u=.bool (rightM s l)/\Hp F0 w0 w' ro rs):=by
 subst hn
 have hb:Blk w g T cs:=h.own i _ hi
 refine OpTo.enter 121 [.string s,.slice (some ⟨g,0,none⟩) l.length l.length] hp (kright_any s hs l _ _ w hl ((Hp.nil (fun _=>False) w).addR _ (rv_ints hb l hc hl) (by simp))) fun e w' hq=>?_
 exact ⟨_,hq.1,rfl,h.below hq.2⟩
theorem vStamp_any(t q:Int)(w:World):Calls Tryz.prog 99 #[.iface 104 (.agg [iV .i64 t,.int .i64 q].toArray)] w fun e w'=>∃ g,e=.returned (.tuple #[.agg #[.int .i64 2,.int .i64 5,.int .u64 0,.slice none 0 0,.slice (some ⟨g,0,none⟩) 2 2],.bool (rightM ⟨#[97]⟩ [t,q])])/\Blk w' g 196 (nV t++nV q)/\w.heap.size<=g/\Below w.heap.size w w':=by
 have h0:=Hp.nil (fun _=>False) w
 refine mE 180 ?_
 refine mN h0 196 ([zO,zO,(iV .u64 0),zN,zN]) fun g2 w2 h2=>?_
 refine mN h2 104 ([zO,zO]) fun g11 w11 h11=>?_
 refine mT (xSs h11 0 104 (.tmp 8) (.tmp 131) 0 ([(zD t),(zD q)]) ([(zD t),(zD q)])) fun _ w12 h12=>?_
 refine dG h12 16 15 (fun W=>(rBlk g11 104 ([(zD t),(zD q)])).Φ W/\True) (fun w14 h14=>⟨h14.at_ 0 rfl,trivial⟩) ?_
 intro w14 h14
 refine dP 12 [0,3,8,10] ?_
 refine dLs 8 [1,4,9,11] (fun W hW=>hW.1) ?_
 refine dC 3 8191 (fun KJ=>∀ (gT4_0:Nat),∀ (gT4_1:Nat),∀ (xT15_4:Nat->Value) (aJ:Act) (wT15_4:World),aJ=patch xT15_4 180 [(2,(pt g2 0)),(3,zV),(8,(pt g11 0)),(11,(Value.iface 104 (aV ([(zD t),(zD q)]).toArray))),(139,(aV ([(zD 2),(zD 5),(iV .u64 0),zN,(lV (some ⟨gT4_0,0,none⟩) 2 2)]).toArray)),(144,(lV (some ⟨gT4_1,0,none⟩) 2 2))]->Hp (fun _=>False) w wT15_4 [] [rBlk gT4_0 196 ([zO,zO,(iV .u64 ((IntKind.u64.wrap t))),zN,zN,zO,zO,(iV .u64 ((IntKind.u64.wrap q))),zN,zN]),rBlk gT4_1 2 ([(zD t),(zD q)]),rBlk g11 104 ([(zD t),(zD q)]),rBlk g2 196 ([zO,zO,(iV .u64 0),zN,zN])]->KJ aJ wT15_4) ?_ (fun hT15_4=>?_)
 ·
  rintro gT4_0 gT4_1 xT15_4 _ wT15_4 rfl hTh15_4
  refine dAt ?_
  refine dT 13 (x_tiRight hTh15_4 1 rfl (⟨#[97]⟩) (by decide) [t,q] 2 rfl rfl (by decide) (by kernel_rfl)) ?_
  rintro _ w16 ⟨rfl,h16⟩
  refine ⟨⟨h16.at_ 2 rfl,trivial⟩,?_⟩
  refine dT 14 (xSs h16 3 196 (.tmp 2) (.tmp 139) 0 ([(zD 2),(zD 5),(iV .u64 0),zN,(lV (some ⟨gT4_0,0,none⟩) 2 2)]) ([(zD 2),(zD 5),(iV .u64 0),zN,(lV (some ⟨gT4_0,0,none⟩) 2 2)])) ?_
  rintro _ w17 h17
  refine ⟨⟨h17.at_ 2 rfl,trivial⟩,?_⟩
  refine dN 15 ?_
  refine dX ?_
  refine mF (post_2 (r:=.cell 2 196) (s:=.tmp 3) (by kernel_rfl) rfl (rce (h17.at_ 3 rfl)) (rtm (bV (rightM (⟨#[97]⟩) [t,q]))) ?_)
  exact ⟨gT4_0,rfl,h17.at_ 0 rfl,(h17.mine 0 _ rfl _ rfl).elim (fun h=>h.elim) id,h17.below0⟩
 refine dC 4 8063 (fun KJ=>∀ (gT3_0:Nat),∀ (gT3_1:Nat),∀ (xT15_3:Nat->Value) (aJ:Act) (wT15_3:World),aJ=patch xT15_3 180 [(2,(pt g2 0)),(3,zV),(8,(pt g11 0)),(11,(Value.iface 104 (aV ([(zD t),(zD q)]).toArray))),(138,(lV (some ⟨gT3_0,0,none⟩) 2 2)),(144,(lV (some ⟨gT3_1,0,none⟩) 2 2))]->Hp (fun _=>False) w wT15_3 [] [rBlk gT3_0 196 ([zO,zO,(iV .u64 ((IntKind.u64.wrap t))),zN,zN,zO,zO,(iV .u64 ((IntKind.u64.wrap q))),zN,zN]),rBlk gT3_1 2 ([(zD t),(zD q)]),rBlk g11 104 ([(zD t),(zD q)]),rBlk g2 196 ([zO,zO,(iV .u64 0),zN,zN])]->KJ aJ wT15_3) ?_ (fun hT15_3=>?_)
 ·
  rintro gT3_0 gT3_1 xT15_3 _ wT15_3 rfl hTh15_3
  refine dAt ?_
  refine dD 7 hTh15_3 [(zD 5),(lV (some ⟨gT3_0,0,none⟩) 2 2)] (dseq_any 5 (some ⟨gT3_0,0,none⟩) 2 2 _) (fun w18 h18=>⟨⟨h18.at_ 2 rfl,trivial⟩,?_⟩)
  exact dF (hT15_4 gT3_0 gT3_1 _ _ _ pM (h18.sel [0,1,2,3] [] (by kernel_rfl) rfl rfl))
 refine dC 5 7999 (fun KJ=>∀ (gT2_0:Nat),∀ (xT15_2:Nat->Value) (aJ:Act) (wT15_2:World),aJ=patch xT15_2 180 [(2,(pt g2 0)),(3,zV),(8,(pt g11 0)),(11,(Value.iface 104 (aV ([(zD t),(zD q)]).toArray))),(134,(aV ([zO,zO,(iV .u64 ((IntKind.u64.wrap t))),zN,zN]).toArray)),(137,(aV ([zO,zO,(iV .u64 ((IntKind.u64.wrap q))),zN,zN]).toArray)),(144,(lV (some ⟨gT2_0,0,none⟩) 2 2))]->Hp (fun _=>False) w wT15_2 [] [rBlk gT2_0 2 ([(zD t),(zD q)]),rBlk g11 104 ([(zD t),(zD q)]),rBlk g2 196 ([zO,zO,(iV .u64 0),zN,zN])]->KJ aJ wT15_2) ?_ (fun hT15_2=>?_)
 ·
  rintro gT2_0 xT15_2 _ wT15_2 rfl hTh15_2
  refine dAt ?_
  refine dT 6 (x_bs hTh15_2 196 ([zO,zO,(iV .u64 ((IntKind.u64.wrap t))),zN,zN,zO,zO,(iV .u64 ((IntKind.u64.wrap q))),zN,zN]) 2 (by kernel_rfl)) ?_
  rintro _ w19 ⟨g19,rfl,h19⟩
  refine ⟨⟨h19.at_ 2 rfl,trivial⟩,?_⟩
  exact dF (hT15_3 g19 gT2_0 _ _ _ pM (h19.sel [0,1,2,3] [] (by kernel_rfl) rfl rfl))
 refine dC 6 7967 (fun KJ=>∀ (gT1_0:Nat),∀ (xT15_1:Nat->Value) (aJ:Act) (wT15_1:World),aJ=patch xT15_1 180 [(2,(pt g2 0)),(3,zV),(8,(pt g11 0)),(11,(Value.iface 104 (aV ([(zD t),(zD q)]).toArray))),(134,(aV ([zO,zO,(iV .u64 ((IntKind.u64.wrap t))),zN,zN]).toArray)),(136,(zD q)),(144,(lV (some ⟨gT1_0,0,none⟩) 2 2))]->Hp (fun _=>False) w wT15_1 [] [rBlk gT1_0 2 ([(zD t),(zD q)]),rBlk g11 104 ([(zD t),(zD q)]),rBlk g2 196 ([zO,zO,(iV .u64 0),zN,zN])]->KJ aJ wT15_1) ?_ (fun hT15_1=>?_)
 ·
  rintro gT1_0 xT15_1 _ wT15_1 rfl hTh15_1
  refine dAt ?_
  refine dD 5 hTh15_1 [(zD q)] (knum_any q _) (fun w20 h20=>⟨⟨h20.at_ 1 rfl,trivial⟩,?_⟩)
  exact dF (hT15_2 gT1_0 _ _ _ pM (h20.sel [0,1,2] [] (by kernel_rfl) rfl rfl))
 refine dC 7 7963 (fun KJ=>∀ (gT0_0:Nat),∀ (xT15_0:Nat->Value) (aJ:Act) (wT15_0:World),aJ=patch xT15_0 180 [(2,(pt g2 0)),(3,zV),(8,(pt g11 0)),(11,(Value.iface 104 (aV ([(zD t),(zD q)]).toArray))),(133,(zD t)),(136,(zD q)),(144,(lV (some ⟨gT0_0,0,none⟩) 2 2))]->Hp (fun _=>False) w wT15_0 [] [rBlk gT0_0 2 ([(zD t),(zD q)]),rBlk g11 104 ([(zD t),(zD q)]),rBlk g2 196 ([zO,zO,(iV .u64 0),zN,zN])]->KJ aJ wT15_0) ?_ (fun hT15_0=>?_)
 ·
  rintro gT0_0 xT15_0 _ wT15_0 rfl hTh15_0
  refine dAt ?_
  refine dD 2 hTh15_0 [(zD t)] (knum_any t _) (fun w21 h21=>⟨⟨h21.at_ 1 rfl,trivial⟩,?_⟩)
  exact dF (hT15_1 gT0_0 _ _ _ pM (h21.sel [0,1,2] [] (by kernel_rfl) rfl rfl))
 refine dO 2 12 ?_ ?_
 ·
  refine oD h14 [(zD t)] (knum_any t _) (fun w22 h22=>⟨⟨h22.at_ 0 rfl,trivial⟩,?_⟩)
  refine dO 5 12 ?_ ?_
  ·
   refine oD h22 [(zD q)] (knum_any q _) (fun w23 h23=>⟨⟨h23.at_ 0 rfl,trivial⟩,?_⟩)
   refine dO 6 12 ?_ ?_
   ·
    refine oT (x_bs h23 196 ([zO,zO,(iV .u64 ((IntKind.u64.wrap t))),zN,zN,zO,zO,(iV .u64 ((IntKind.u64.wrap q))),zN,zN]) 2 (by kernel_rfl)) ?_
    rintro _ w24 ⟨g24,rfl,h24⟩
    refine ⟨⟨h24.at_ 1 rfl,trivial⟩,?_⟩
    refine dO 7 12 ?_ ?_
    ·
     refine oD h24 [(zD 5),(lV (some ⟨g24,0,none⟩) 2 2)] (dseq_any 5 (some ⟨g24,0,none⟩) 2 2 _) (fun w25 h25=>⟨⟨h25.at_ 1 rfl,trivial⟩,?_⟩)
     refine dT 12 (x_bs h25 2 ([(zD t),(zD q)]) 2 (by kernel_rfl)) ?_
     rintro _ w26 ⟨g26,rfl,h26⟩
     refine ⟨⟨h26.at_ 2 rfl,trivial⟩,?_⟩
     exact dF (hT15_4 g24 g26 _ _ _ pM (h26.sel [1,0,2,3] [] (by kernel_rfl) rfl rfl))
    refine oT (x_bs h24 2 ([(zD t),(zD q)]) 2 (by kernel_rfl)) ?_
    rintro _ w27 ⟨g27,rfl,h27⟩
    refine ⟨⟨h27.at_ 2 rfl,trivial⟩,?_⟩
    exact dF (hT15_3 g24 g27 _ _ _ pM (h27.sel [1,0,2,3] [] (by kernel_rfl) rfl rfl))
   refine oT (x_bs h23 2 ([(zD t),(zD q)]) 2 (by kernel_rfl)) ?_
   rintro _ w28 ⟨g28,rfl,h28⟩
   refine ⟨⟨h28.at_ 1 rfl,trivial⟩,?_⟩
   exact dF (hT15_2 g28 _ _ _ pM (h28.sel [0,1,2] [] (by kernel_rfl) rfl rfl))
  refine oT (x_bs h22 2 ([(zD t),(zD q)]) 2 (by kernel_rfl)) ?_
  rintro _ w29 ⟨g29,rfl,h29⟩
  refine ⟨⟨h29.at_ 1 rfl,trivial⟩,?_⟩
  exact dF (hT15_1 g29 _ _ _ pM (h29.sel [0,1,2] [] (by kernel_rfl) rfl rfl))
 refine oT (x_bs h14 2 ([(zD t),(zD q)]) 2 (by kernel_rfl)) ?_
 rintro _ w30 ⟨g30,rfl,h30⟩
 refine ⟨⟨h30.at_ 1 rfl,trivial⟩,?_⟩
 exact dF (hT15_0 g30 _ _ _ pM (h30.sel [0,1,2] [] (by kernel_rfl) rfl rfl))
end
section
open Go.Value renaming int->iV,slice->lV,string->sV,bool->bV,agg->aV
open Go.RowKit Go.QT
theorem vFact_any(n t:Int)(s:ByteArray)(b:Bool)(hs:s.size<=1000000)(w:World):Calls Tryz.prog 99 #[.iface 49 (.agg [iV .i64 n,.string s,.bool b,.int .i64 t].toArray)] w fun e w'=>∃ g A c,e=.returned (.tuple #[.agg #[.int .i64 2,.int .i64 6,.int .u64 0,.slice none 0 0,.slice (some ⟨g,0,none⟩) 4 4],.bool (rightM s [n,t])])/\Blk w' g 196 (nV n++[.int .i64 1,.int .i64 0,.int .u64 0,.slice A s.data.toList.length c,.slice none 0 0]++nV b.toNat++nV t)/\SB w' (.slice A s.data.toList.length c) s.data.toList/\w.heap.size<=g/\(∀ q,(lV A s.data.toList.length c).ownBlock=some q->w.heap.size<=q)/\Below w.heap.size w w':=by
 have h0:=Hp.nil (fun _=>False) w
 refine mE 180 ?_
 refine mN h0 196 ([zO,zO,(iV .u64 0),zN,zN]) fun g2 w2 h2=>?_
 refine mN h2 49 ([zO,zE,zV,zO]) fun g12 w12 h12=>?_
 refine mT (xSs h12 0 49 (.tmp 9) (.tmp 148) 0 ([(zD n),(sV s),(bV b),(zD t)]) ([(zD n),(sV s),(bV b),(zD t)])) fun _ w13 h13=>?_
 refine dG h13 24 23 (fun W=>(rBlk g12 49 ([(zD n),(sV s),(bV b),(zD t)])).Φ W/\True) (fun w15 h15=>⟨h15.at_ 0 rfl,trivial⟩) ?_
 intro w15 h15
 refine dP 17 [0,3,6,9,14,16,18] ?_
 refine dLs 10 [1,4,7,10,15,17,19] (fun W hW=>hW.1) ?_
 refine dO 2 20 ?_ ?_
 ·
  refine oD h15 [(zD n)] (knum_any n _) (fun w16 h16=>⟨⟨h16.at_ 0 rfl,trivial⟩,?_⟩)
  refine dO 5 20 ?_ ?_
  ·
   refine oT (x_rawT h16 120 [(sV s)] (by kernel_rfl) (ktext_any s _ (by omega))) ?_
   rintro _ w17 ⟨A17,c17,rfl,h17,hn17⟩
   refine ⟨⟨h17.at_ 1 rfl,trivial⟩,?_⟩
   refine dO 8 20 ?_ ?_
   ·
    refine oD h17 [(bV b)] (ktruth_any b _) (fun w18 h18=>⟨⟨h18.at_ 1 rfl,trivial⟩,?_⟩)
    refine dO 11 20 ?_ ?_
    ·
     refine oD h18 [(zD t)] (knum_any t _) (fun w19 h19=>⟨⟨h19.at_ 1 rfl,trivial⟩,?_⟩)
     refine dO 12 20 ?_ ?_
     ·
      refine oT (x_bs h19 196 ([zO,zO,(iV .u64 ((IntKind.u64.wrap n))),zN,zN,(zD 1),zO,(iV .u64 0),(lV A17 s.data.toList.length c17),zN,zO,zO,(iV .u64 ((IntKind.u64.wrap ((b.toNat:Nat):Int)))),zN,zN,zO,zO,(iV .u64 ((IntKind.u64.wrap t))),zN,zN]) 4 (by kernel_rfl)) ?_
      rintro _ w20 ⟨g20,rfl,h20⟩
      refine ⟨⟨h20.at_ 2 rfl,trivial⟩,?_⟩
      refine dO 13 20 ?_ ?_
      ·
       refine oD h20 [(zD 6),(lV (some ⟨g20,0,none⟩) 4 4)] (dseq_any 6 (some ⟨g20,0,none⟩) 4 4 _) (fun w21 h21=>⟨⟨h21.at_ 2 rfl,trivial⟩,?_⟩)
       refine dT 20 (x_bs h21 2 ([(zD n),(zD t)]) 2 (by kernel_rfl)) ?_
       rintro _ w22 ⟨g22,rfl,h22⟩
       refine ⟨⟨h22.at_ 3 rfl,trivial⟩,?_⟩
       refine dT 21 (x_tiRight h22 0 rfl s (by omega) [n,t] 2 rfl rfl (by decide) (by kernel_rfl)) ?_
       rintro _ w23 ⟨rfl,h23⟩
       refine ⟨⟨h23.at_ 3 rfl,trivial⟩,?_⟩
       refine dT 22 (xSs h23 4 196 (.tmp 2) (.tmp 162) 0 ([(zD 2),(zD 6),(iV .u64 0),zN,(lV (some ⟨g20,0,none⟩) 4 4)]) ([(zD 2),(zD 6),(iV .u64 0),zN,(lV (some ⟨g20,0,none⟩) 4 4)])) ?_
       rintro _ w24 h24
       refine ⟨⟨h24.at_ 3 rfl,trivial⟩,?_⟩
       refine dN 23 ?_
       refine dX ?_
       refine mF (post_2 (r:=.cell 2 196) (s:=.tmp 3) (by kernel_rfl) rfl (rce (h24.at_ 4 rfl)) (rtm (bV (rightM s [n,t]))) ?_)
       exact ⟨g20,_,_,rfl,h24.at_ 1 rfl,h24.at_ 2 rfl,(h24.mine 1 _ rfl _ rfl).elim (fun h=>h.elim) id,fun q hq=>Nat.le_trans h16.below0.size (hn17 q hq),h24.below0⟩
      refine oT (x_bs h20 2 ([(zD n),(zD t)]) 2 (by kernel_rfl)) ?_
      rintro _ w25 ⟨g25,rfl,h25⟩
      refine ⟨⟨h25.at_ 3 rfl,trivial⟩,?_⟩
      refine dD 13 h25 [(zD 6),(lV (some ⟨g20,0,none⟩) 4 4)] (dseq_any 6 (some ⟨g20,0,none⟩) 4 4 _) (fun w26 h26=>⟨⟨h26.at_ 3 rfl,trivial⟩,?_⟩)
      refine dT 21 (x_tiRight h26 0 rfl s (by omega) [n,t] 2 rfl rfl (by decide) (by kernel_rfl)) ?_
      rintro _ w27 ⟨rfl,h27⟩
      refine ⟨⟨h27.at_ 3 rfl,trivial⟩,?_⟩
      refine dT 22 (xSs h27 4 196 (.tmp 2) (.tmp 162) 0 ([(zD 2),(zD 6),(iV .u64 0),zN,(lV (some ⟨g20,0,none⟩) 4 4)]) ([(zD 2),(zD 6),(iV .u64 0),zN,(lV (some ⟨g20,0,none⟩) 4 4)])) ?_
      rintro _ w28 h28
      refine ⟨⟨h28.at_ 3 rfl,trivial⟩,?_⟩
      refine dN 23 ?_
      refine dX ?_
      refine mF (post_2 (r:=.cell 2 196) (s:=.tmp 3) (by kernel_rfl) rfl (rce (h28.at_ 4 rfl)) (rtm (bV (rightM s [n,t]))) ?_)
      exact ⟨g20,_,_,rfl,h28.at_ 1 rfl,h28.at_ 2 rfl,(h28.mine 1 _ rfl _ rfl).elim (fun h=>h.elim) id,fun q hq=>Nat.le_trans h16.below0.size (hn17 q hq),h28.below0⟩
     refine oT (x_bs h19 2 ([(zD n),(zD t)]) 2 (by kernel_rfl)) ?_
     rintro _ w29 ⟨g29,rfl,h29⟩
     refine ⟨⟨h29.at_ 2 rfl,trivial⟩,?_⟩
     refine dT 12 (x_bs h29 196 ([zO,zO,(iV .u64 ((IntKind.u64.wrap n))),zN,zN,(zD 1),zO,(iV .u64 0),(lV A17 s.data.toList.length c17),zN,zO,zO,(iV .u64 ((IntKind.u64.wrap ((b.toNat:Nat):Int)))),zN,zN,zO,zO,(iV .u64 ((IntKind.u64.wrap t))),zN,zN]) 4 (by kernel_rfl)) ?_
     rintro _ w30 ⟨g30,rfl,h30⟩
     refine ⟨⟨h30.at_ 3 rfl,trivial⟩,?_⟩
     refine dD 13 h30 [(zD 6),(lV (some ⟨g30,0,none⟩) 4 4)] (dseq_any 6 (some ⟨g30,0,none⟩) 4 4 _) (fun w31 h31=>⟨⟨h31.at_ 3 rfl,trivial⟩,?_⟩)
     refine dT 21 (x_tiRight h31 1 rfl s (by omega) [n,t] 2 rfl rfl (by decide) (by kernel_rfl)) ?_
     rintro _ w32 ⟨rfl,h32⟩
     refine ⟨⟨h32.at_ 3 rfl,trivial⟩,?_⟩
     refine dT 22 (xSs h32 4 196 (.tmp 2) (.tmp 162) 0 ([(zD 2),(zD 6),(iV .u64 0),zN,(lV (some ⟨g30,0,none⟩) 4 4)]) ([(zD 2),(zD 6),(iV .u64 0),zN,(lV (some ⟨g30,0,none⟩) 4 4)])) ?_
     rintro _ w33 h33
     refine ⟨⟨h33.at_ 3 rfl,trivial⟩,?_⟩
     refine dN 23 ?_
     refine dX ?_
     refine mF (post_2 (r:=.cell 2 196) (s:=.tmp 3) (by kernel_rfl) rfl (rce (h33.at_ 4 rfl)) (rtm (bV (rightM s [n,t]))) ?_)
     exact ⟨g30,_,_,rfl,h33.at_ 0 rfl,h33.at_ 2 rfl,(h33.mine 0 _ rfl _ rfl).elim (fun h=>h.elim) id,fun q hq=>Nat.le_trans h16.below0.size (hn17 q hq),h33.below0⟩
    refine oT (x_bs h18 2 ([(zD n),(zD t)]) 2 (by kernel_rfl)) ?_
    rintro _ w34 ⟨g34,rfl,h34⟩
    refine ⟨⟨h34.at_ 2 rfl,trivial⟩,?_⟩
    refine dD 11 h34 [(zD t)] (knum_any t _) (fun w35 h35=>⟨⟨h35.at_ 2 rfl,trivial⟩,?_⟩)
    refine dT 12 (x_bs h35 196 ([zO,zO,(iV .u64 ((IntKind.u64.wrap n))),zN,zN,(zD 1),zO,(iV .u64 0),(lV A17 s.data.toList.length c17),zN,zO,zO,(iV .u64 ((IntKind.u64.wrap ((b.toNat:Nat):Int)))),zN,zN,zO,zO,(iV .u64 ((IntKind.u64.wrap t))),zN,zN]) 4 (by kernel_rfl)) ?_
    rintro _ w36 ⟨g36,rfl,h36⟩
    refine ⟨⟨h36.at_ 3 rfl,trivial⟩,?_⟩
    refine dD 13 h36 [(zD 6),(lV (some ⟨g36,0,none⟩) 4 4)] (dseq_any 6 (some ⟨g36,0,none⟩) 4 4 _) (fun w37 h37=>⟨⟨h37.at_ 3 rfl,trivial⟩,?_⟩)
    refine dT 21 (x_tiRight h37 1 rfl s (by omega) [n,t] 2 rfl rfl (by decide) (by kernel_rfl)) ?_
    rintro _ w38 ⟨rfl,h38⟩
    refine ⟨⟨h38.at_ 3 rfl,trivial⟩,?_⟩
    refine dT 22 (xSs h38 4 196 (.tmp 2) (.tmp 162) 0 ([(zD 2),(zD 6),(iV .u64 0),zN,(lV (some ⟨g36,0,none⟩) 4 4)]) ([(zD 2),(zD 6),(iV .u64 0),zN,(lV (some ⟨g36,0,none⟩) 4 4)])) ?_
    rintro _ w39 h39
    refine ⟨⟨h39.at_ 3 rfl,trivial⟩,?_⟩
    refine dN 23 ?_
    refine dX ?_
    refine mF (post_2 (r:=.cell 2 196) (s:=.tmp 3) (by kernel_rfl) rfl (rce (h39.at_ 4 rfl)) (rtm (bV (rightM s [n,t]))) ?_)
    exact ⟨g36,_,_,rfl,h39.at_ 0 rfl,h39.at_ 2 rfl,(h39.mine 0 _ rfl _ rfl).elim (fun h=>h.elim) id,fun q hq=>Nat.le_trans h16.below0.size (hn17 q hq),h39.below0⟩
   refine oT (x_bs h17 2 ([(zD n),(zD t)]) 2 (by kernel_rfl)) ?_
   rintro _ w40 ⟨g40,rfl,h40⟩
   refine ⟨⟨h40.at_ 2 rfl,trivial⟩,?_⟩
   refine dD 8 h40 [(bV b)] (ktruth_any b _) (fun w41 h41=>⟨⟨h41.at_ 2 rfl,trivial⟩,?_⟩)
   refine dD 11 h41 [(zD t)] (knum_any t _) (fun w42 h42=>⟨⟨h42.at_ 2 rfl,trivial⟩,?_⟩)
   refine dT 12 (x_bs h42 196 ([zO,zO,(iV .u64 ((IntKind.u64.wrap n))),zN,zN,(zD 1),zO,(iV .u64 0),(lV A17 s.data.toList.length c17),zN,zO,zO,(iV .u64 ((IntKind.u64.wrap ((b.toNat:Nat):Int)))),zN,zN,zO,zO,(iV .u64 ((IntKind.u64.wrap t))),zN,zN]) 4 (by kernel_rfl)) ?_
   rintro _ w43 ⟨g43,rfl,h43⟩
   refine ⟨⟨h43.at_ 3 rfl,trivial⟩,?_⟩
   refine dD 13 h43 [(zD 6),(lV (some ⟨g43,0,none⟩) 4 4)] (dseq_any 6 (some ⟨g43,0,none⟩) 4 4 _) (fun w44 h44=>⟨⟨h44.at_ 3 rfl,trivial⟩,?_⟩)
   refine dT 21 (x_tiRight h44 1 rfl s (by omega) [n,t] 2 rfl rfl (by decide) (by kernel_rfl)) ?_
   rintro _ w45 ⟨rfl,h45⟩
   refine ⟨⟨h45.at_ 3 rfl,trivial⟩,?_⟩
   refine dT 22 (xSs h45 4 196 (.tmp 2) (.tmp 162) 0 ([(zD 2),(zD 6),(iV .u64 0),zN,(lV (some ⟨g43,0,none⟩) 4 4)]) ([(zD 2),(zD 6),(iV .u64 0),zN,(lV (some ⟨g43,0,none⟩) 4 4)])) ?_
   rintro _ w46 h46
   refine ⟨⟨h46.at_ 3 rfl,trivial⟩,?_⟩
   refine dN 23 ?_
   refine dX ?_
   refine mF (post_2 (r:=.cell 2 196) (s:=.tmp 3) (by kernel_rfl) rfl (rce (h46.at_ 4 rfl)) (rtm (bV (rightM s [n,t]))) ?_)
   exact ⟨g43,_,_,rfl,h46.at_ 0 rfl,h46.at_ 2 rfl,(h46.mine 0 _ rfl _ rfl).elim (fun h=>h.elim) id,fun q hq=>Nat.le_trans h16.below0.size (hn17 q hq),h46.below0⟩
  refine oT (x_bs h16 2 ([(zD n),(zD t)]) 2 (by kernel_rfl)) ?_
  rintro _ w47 ⟨g47,rfl,h47⟩
  refine ⟨⟨h47.at_ 1 rfl,trivial⟩,?_⟩
  refine dT 5 (x_rawT h47 120 [(sV s)] (by kernel_rfl) (ktext_any s _ (by omega))) ?_
  rintro _ w48 ⟨A48,c48,rfl,h48,hn48⟩
  refine ⟨⟨h48.at_ 2 rfl,trivial⟩,?_⟩
  refine dD 8 h48 [(bV b)] (ktruth_any b _) (fun w49 h49=>⟨⟨h49.at_ 2 rfl,trivial⟩,?_⟩)
  refine dD 11 h49 [(zD t)] (knum_any t _) (fun w50 h50=>⟨⟨h50.at_ 2 rfl,trivial⟩,?_⟩)
  refine dT 12 (x_bs h50 196 ([zO,zO,(iV .u64 ((IntKind.u64.wrap n))),zN,zN,(zD 1),zO,(iV .u64 0),(lV A48 s.data.toList.length c48),zN,zO,zO,(iV .u64 ((IntKind.u64.wrap ((b.toNat:Nat):Int)))),zN,zN,zO,zO,(iV .u64 ((IntKind.u64.wrap t))),zN,zN]) 4 (by kernel_rfl)) ?_
  rintro _ w51 ⟨g51,rfl,h51⟩
  refine ⟨⟨h51.at_ 3 rfl,trivial⟩,?_⟩
  refine dD 13 h51 [(zD 6),(lV (some ⟨g51,0,none⟩) 4 4)] (dseq_any 6 (some ⟨g51,0,none⟩) 4 4 _) (fun w52 h52=>⟨⟨h52.at_ 3 rfl,trivial⟩,?_⟩)
  refine dT 21 (x_tiRight h52 2 rfl s (by omega) [n,t] 2 rfl rfl (by decide) (by kernel_rfl)) ?_
  rintro _ w53 ⟨rfl,h53⟩
  refine ⟨⟨h53.at_ 3 rfl,trivial⟩,?_⟩
  refine dT 22 (xSs h53 4 196 (.tmp 2) (.tmp 162) 0 ([(zD 2),(zD 6),(iV .u64 0),zN,(lV (some ⟨g51,0,none⟩) 4 4)]) ([(zD 2),(zD 6),(iV .u64 0),zN,(lV (some ⟨g51,0,none⟩) 4 4)])) ?_
  rintro _ w54 h54
  refine ⟨⟨h54.at_ 3 rfl,trivial⟩,?_⟩
  refine dN 23 ?_
  refine dX ?_
  refine mF (post_2 (r:=.cell 2 196) (s:=.tmp 3) (by kernel_rfl) rfl (rce (h54.at_ 4 rfl)) (rtm (bV (rightM s [n,t]))) ?_)
  exact ⟨g51,_,_,rfl,h54.at_ 0 rfl,h54.at_ 1 rfl,(h54.mine 0 _ rfl _ rfl).elim (fun h=>h.elim) id,fun q hq=>Nat.le_trans h47.below0.size (hn48 q hq),h54.below0⟩
 refine oT (x_bs h15 2 ([(zD n),(zD t)]) 2 (by kernel_rfl)) ?_
 rintro _ w55 ⟨g55,rfl,h55⟩
 refine ⟨⟨h55.at_ 1 rfl,trivial⟩,?_⟩
 refine dD 2 h55 [(zD n)] (knum_any n _) (fun w56 h56=>⟨⟨h56.at_ 1 rfl,trivial⟩,?_⟩)
 refine dT 5 (x_rawT h56 120 [(sV s)] (by kernel_rfl) (ktext_any s _ (by omega))) ?_
 rintro _ w57 ⟨A57,c57,rfl,h57,hn57⟩
 refine ⟨⟨h57.at_ 2 rfl,trivial⟩,?_⟩
 refine dD 8 h57 [(bV b)] (ktruth_any b _) (fun w58 h58=>⟨⟨h58.at_ 2 rfl,trivial⟩,?_⟩)
 refine dD 11 h58 [(zD t)] (knum_any t _) (fun w59 h59=>⟨⟨h59.at_ 2 rfl,trivial⟩,?_⟩)
 refine dT 12 (x_bs h59 196 ([zO,zO,(iV .u64 ((IntKind.u64.wrap n))),zN,zN,(zD 1),zO,(iV .u64 0),(lV A57 s.data.toList.length c57),zN,zO,zO,(iV .u64 ((IntKind.u64.wrap ((b.toNat:Nat):Int)))),zN,zN,zO,zO,(iV .u64 ((IntKind.u64.wrap t))),zN,zN]) 4 (by kernel_rfl)) ?_
 rintro _ w60 ⟨g60,rfl,h60⟩
 refine ⟨⟨h60.at_ 3 rfl,trivial⟩,?_⟩
 refine dD 13 h60 [(zD 6),(lV (some ⟨g60,0,none⟩) 4 4)] (dseq_any 6 (some ⟨g60,0,none⟩) 4 4 _) (fun w61 h61=>⟨⟨h61.at_ 3 rfl,trivial⟩,?_⟩)
 refine dT 21 (x_tiRight h61 2 rfl s (by omega) [n,t] 2 rfl rfl (by decide) (by kernel_rfl)) ?_
 rintro _ w62 ⟨rfl,h62⟩
 refine ⟨⟨h62.at_ 3 rfl,trivial⟩,?_⟩
 refine dT 22 (xSs h62 4 196 (.tmp 2) (.tmp 162) 0 ([(zD 2),(zD 6),(iV .u64 0),zN,(lV (some ⟨g60,0,none⟩) 4 4)]) ([(zD 2),(zD 6),(iV .u64 0),zN,(lV (some ⟨g60,0,none⟩) 4 4)])) ?_
 rintro _ w63 h63
 refine ⟨⟨h63.at_ 3 rfl,trivial⟩,?_⟩
 refine dN 23 ?_
 refine dX ?_
 refine mF (post_2 (r:=.cell 2 196) (s:=.tmp 3) (by kernel_rfl) rfl (rce (h63.at_ 4 rfl)) (rtm (bV (rightM s [n,t]))) ?_)
 exact ⟨g60,_,_,rfl,h63.at_ 0 rfl,h63.at_ 1 rfl,(h63.mine 0 _ rfl _ rfl).elim (fun h=>h.elim) id,fun q hq=>Nat.le_trans h56.below0.size (hn57 q hq),h63.below0⟩
end
section
open Go.Value renaming int->iV,slice->lV,string->sV,bool->bV,agg->aV
open Go.RowKit Go.QT
/-- What bytes are in der. -/
def rV(v:Value):List Value:=[.int .i64 1,.int .i64 0,.int .u64 0,v,.slice none 0 0]
theorem vInside_any(f a u r:Int)(s:ByteArray)(K:Fin 16->UInt8)(hs:s.size<=1000000)(w:World):Calls Tryz.prog 99 #[.iface 187 (aV ([(iV .i64 f)]++vb (kl K)++[(sV s),(iV .i64 a),(iV .i64 u),(iV .i64 r)]).toArray)] w fun e w'=>∃ g A c B d,e=.returned (.tuple #[.agg #[.int .i64 2,.int .i64 2,.int .u64 0,.slice none 0 0,.slice (some ⟨g,0,none⟩) 6 6],.bool (rightM s [f,a,u,r])])/\Blk w' g 196 (nV f++rV (lV B (kl K).length d)++rV (lV A s.data.toList.length c)++nV a++nV u++nV r)/\SB w' (lV A s.data.toList.length c) s.data.toList/\SB w' (lV B (kl K).length d) (kl K)/\w.heap.size<=g/\(∀ q,(lV A s.data.toList.length c).ownBlock=some q->w.heap.size<=q)/\(∀ q,(lV B (kl K).length d).ownBlock=some q->w.heap.size<=q)/\Below w.heap.size w w':=by
 have h0:=Hp.nil (fun _=>False) w
 refine mE 180 ?_
 refine mN h0 196 ([zO,zO,(iV .u64 0),zN,zN]) fun g2 w2 h2=>?_
 refine mN h2 187 ([zO]++vb (List.replicate 16 0)++[zE,zO,zO,zO]) fun g8 w8 h8=>?_
 refine mT (xSs h8 0 187 (.tmp 5) (.tmp 28) 0 ([(zD f)]++vb (kl K)++[(sV s),(zD a),(zD u),(zD r)]) ([(zD f)]++vb (kl K)++[(sV s),(zD a),(zD u),(zD r)])) fun _ w9 h9=>?_
 refine dG h9 34 33 (fun W=>(rBlk g8 187 ([(zD f)]++vb (kl K)++[(sV s),(zD a),(zD u),(zD r)])).Φ W/\True) (fun w11 h11=>⟨h11.at_ 0 rfl,trivial⟩) ?_
 intro w11 h11
 refine dP 23 [0,3,6,9,12,15,20,22,24,26,28] ?_
 refine dLs 12 [1,4,7,10,13,16,21,23,25,27,29] (fun W hW=>hW.1) ?_
 refine dO 2 30 ?_ ?_
 ·
  refine oD h11 [(zD f)] (knum_any f _) (fun w12 h12=>⟨⟨h12.at_ 0 rfl,trivial⟩,?_⟩)
  refine dO 5 30 ?_ ?_
  ·
   refine oT (x_rawT h12 123 [(aV (vb (kl K)).toArray)] (by kernel_rfl) (kkey_any K _)) ?_
   rintro _ w13 ⟨A13,c13,rfl,h13,hn13⟩
   refine ⟨⟨h13.at_ 1 rfl,trivial⟩,?_⟩
   refine dO 8 30 ?_ ?_
   ·
    refine oT (x_rawT h13 120 [(sV s)] (by kernel_rfl) (ktext_any s _ (by omega))) ?_
    rintro _ w14 ⟨A14,c14,rfl,h14,hn14⟩
    refine ⟨⟨h14.at_ 2 rfl,trivial⟩,?_⟩
    refine dO 11 30 ?_ ?_
    ·
     refine oD h14 [(zD a)] (knum_any a _) (fun w15 h15=>⟨⟨h15.at_ 2 rfl,trivial⟩,?_⟩)
     refine dO 14 30 ?_ ?_
     ·
      refine oD h15 [(zD u)] (knum_any u _) (fun w16 h16=>⟨⟨h16.at_ 2 rfl,trivial⟩,?_⟩)
      refine dO 17 30 ?_ ?_
      ·
       refine oD h16 [(zD r)] (knum_any r _) (fun w17 h17=>⟨⟨h17.at_ 2 rfl,trivial⟩,?_⟩)
       refine dO 18 30 ?_ ?_
       ·
        refine oT (x_bs h17 196 ([zO,zO,(iV .u64 ((IntKind.u64.wrap f))),zN,zN,(zD 1),zO,(iV .u64 0),(lV A13 ((kl K).length) c13),zN,(zD 1),zO,(iV .u64 0),(lV A14 s.data.toList.length c14),zN,zO,zO,(iV .u64 ((IntKind.u64.wrap a))),zN,zN,zO,zO,(iV .u64 ((IntKind.u64.wrap u))),zN,zN,zO,zO,(iV .u64 ((IntKind.u64.wrap r))),zN,zN]) 6 (by kernel_rfl)) ?_
        rintro _ w18 ⟨g18,rfl,h18⟩
        refine ⟨⟨h18.at_ 3 rfl,trivial⟩,?_⟩
        refine dO 19 30 ?_ ?_
        ·
         refine oD h18 [(zD 2),(lV (some ⟨g18,0,none⟩) 6 6)] (dseq_any 2 (some ⟨g18,0,none⟩) 6 6 _) (fun w19 h19=>⟨⟨h19.at_ 3 rfl,trivial⟩,?_⟩)
         refine dT 30 (x_bs h19 2 ([(zD f),(zD a),(zD u),(zD r)]) 4 (by kernel_rfl)) ?_
         rintro _ w20 ⟨g20,rfl,h20⟩
         refine ⟨⟨h20.at_ 4 rfl,trivial⟩,?_⟩
         refine dT 31 (x_tiRight h20 0 rfl s (by omega) [f,a,u,r] 4 rfl rfl (by decide) (by kernel_rfl)) ?_
         rintro _ w21 ⟨rfl,h21⟩
         refine ⟨⟨h21.at_ 4 rfl,trivial⟩,?_⟩
         refine dT 32 (xSs h21 5 196 (.tmp 2) (.tmp 48) 0 ([(zD 2),(zD 2),(iV .u64 0),zN,(lV (some ⟨g18,0,none⟩) 6 6)]) ([(zD 2),(zD 2),(iV .u64 0),zN,(lV (some ⟨g18,0,none⟩) 6 6)])) ?_
         rintro _ w22 h22
         refine ⟨⟨h22.at_ 4 rfl,trivial⟩,?_⟩
         refine dN 33 ?_
         refine dX ?_
         refine mF (post_2 (r:=.cell 2 196) (s:=.tmp 3) (by kernel_rfl) rfl (rce (h22.at_ 5 rfl)) (rtm (bV (rightM s [f,a,u,r]))) ?_)
         exact ⟨g18,_,_,_,_,rfl,h22.at_ 1 rfl,h22.at_ 2 rfl,h22.at_ 3 rfl,(h22.mine 1 _ rfl _ rfl).elim (fun h=>h.elim) id,fun q hq=>Nat.le_trans h13.below0.size (hn14 q hq),fun q hq=>Nat.le_trans h12.below0.size (hn13 q hq),h22.below0⟩
        refine oT (x_bs h18 2 ([(zD f),(zD a),(zD u),(zD r)]) 4 (by kernel_rfl)) ?_
        rintro _ w23 ⟨g23,rfl,h23⟩
        refine ⟨⟨h23.at_ 4 rfl,trivial⟩,?_⟩
        refine dD 19 h23 [(zD 2),(lV (some ⟨g18,0,none⟩) 6 6)] (dseq_any 2 (some ⟨g18,0,none⟩) 6 6 _) (fun w24 h24=>⟨⟨h24.at_ 4 rfl,trivial⟩,?_⟩)
        refine dT 31 (x_tiRight h24 0 rfl s (by omega) [f,a,u,r] 4 rfl rfl (by decide) (by kernel_rfl)) ?_
        rintro _ w25 ⟨rfl,h25⟩
        refine ⟨⟨h25.at_ 4 rfl,trivial⟩,?_⟩
        refine dT 32 (xSs h25 5 196 (.tmp 2) (.tmp 48) 0 ([(zD 2),(zD 2),(iV .u64 0),zN,(lV (some ⟨g18,0,none⟩) 6 6)]) ([(zD 2),(zD 2),(iV .u64 0),zN,(lV (some ⟨g18,0,none⟩) 6 6)])) ?_
        rintro _ w26 h26
        refine ⟨⟨h26.at_ 4 rfl,trivial⟩,?_⟩
        refine dN 33 ?_
        refine dX ?_
        refine mF (post_2 (r:=.cell 2 196) (s:=.tmp 3) (by kernel_rfl) rfl (rce (h26.at_ 5 rfl)) (rtm (bV (rightM s [f,a,u,r]))) ?_)
        exact ⟨g18,_,_,_,_,rfl,h26.at_ 1 rfl,h26.at_ 2 rfl,h26.at_ 3 rfl,(h26.mine 1 _ rfl _ rfl).elim (fun h=>h.elim) id,fun q hq=>Nat.le_trans h13.below0.size (hn14 q hq),fun q hq=>Nat.le_trans h12.below0.size (hn13 q hq),h26.below0⟩
       refine oT (x_bs h17 2 ([(zD f),(zD a),(zD u),(zD r)]) 4 (by kernel_rfl)) ?_
       rintro _ w27 ⟨g27,rfl,h27⟩
       refine ⟨⟨h27.at_ 3 rfl,trivial⟩,?_⟩
       refine dT 18 (x_bs h27 196 ([zO,zO,(iV .u64 ((IntKind.u64.wrap f))),zN,zN,(zD 1),zO,(iV .u64 0),(lV A13 ((kl K).length) c13),zN,(zD 1),zO,(iV .u64 0),(lV A14 s.data.toList.length c14),zN,zO,zO,(iV .u64 ((IntKind.u64.wrap a))),zN,zN,zO,zO,(iV .u64 ((IntKind.u64.wrap u))),zN,zN,zO,zO,(iV .u64 ((IntKind.u64.wrap r))),zN,zN]) 6 (by kernel_rfl)) ?_
       rintro _ w28 ⟨g28,rfl,h28⟩
       refine ⟨⟨h28.at_ 4 rfl,trivial⟩,?_⟩
       refine dD 19 h28 [(zD 2),(lV (some ⟨g28,0,none⟩) 6 6)] (dseq_any 2 (some ⟨g28,0,none⟩) 6 6 _) (fun w29 h29=>⟨⟨h29.at_ 4 rfl,trivial⟩,?_⟩)
       refine dT 31 (x_tiRight h29 1 rfl s (by omega) [f,a,u,r] 4 rfl rfl (by decide) (by kernel_rfl)) ?_
       rintro _ w30 ⟨rfl,h30⟩
       refine ⟨⟨h30.at_ 4 rfl,trivial⟩,?_⟩
       refine dT 32 (xSs h30 5 196 (.tmp 2) (.tmp 48) 0 ([(zD 2),(zD 2),(iV .u64 0),zN,(lV (some ⟨g28,0,none⟩) 6 6)]) ([(zD 2),(zD 2),(iV .u64 0),zN,(lV (some ⟨g28,0,none⟩) 6 6)])) ?_
       rintro _ w31 h31
       refine ⟨⟨h31.at_ 4 rfl,trivial⟩,?_⟩
       refine dN 33 ?_
       refine dX ?_
       refine mF (post_2 (r:=.cell 2 196) (s:=.tmp 3) (by kernel_rfl) rfl (rce (h31.at_ 5 rfl)) (rtm (bV (rightM s [f,a,u,r]))) ?_)
       exact ⟨g28,_,_,_,_,rfl,h31.at_ 0 rfl,h31.at_ 2 rfl,h31.at_ 3 rfl,(h31.mine 0 _ rfl _ rfl).elim (fun h=>h.elim) id,fun q hq=>Nat.le_trans h13.below0.size (hn14 q hq),fun q hq=>Nat.le_trans h12.below0.size (hn13 q hq),h31.below0⟩
      refine oT (x_bs h16 2 ([(zD f),(zD a),(zD u),(zD r)]) 4 (by kernel_rfl)) ?_
      rintro _ w32 ⟨g32,rfl,h32⟩
      refine ⟨⟨h32.at_ 3 rfl,trivial⟩,?_⟩
      refine dD 17 h32 [(zD r)] (knum_any r _) (fun w33 h33=>⟨⟨h33.at_ 3 rfl,trivial⟩,?_⟩)
      refine dT 18 (x_bs h33 196 ([zO,zO,(iV .u64 ((IntKind.u64.wrap f))),zN,zN,(zD 1),zO,(iV .u64 0),(lV A13 ((kl K).length) c13),zN,(zD 1),zO,(iV .u64 0),(lV A14 s.data.toList.length c14),zN,zO,zO,(iV .u64 ((IntKind.u64.wrap a))),zN,zN,zO,zO,(iV .u64 ((IntKind.u64.wrap u))),zN,zN,zO,zO,(iV .u64 ((IntKind.u64.wrap r))),zN,zN]) 6 (by kernel_rfl)) ?_
      rintro _ w34 ⟨g34,rfl,h34⟩
      refine ⟨⟨h34.at_ 4 rfl,trivial⟩,?_⟩
      refine dD 19 h34 [(zD 2),(lV (some ⟨g34,0,none⟩) 6 6)] (dseq_any 2 (some ⟨g34,0,none⟩) 6 6 _) (fun w35 h35=>⟨⟨h35.at_ 4 rfl,trivial⟩,?_⟩)
      refine dT 31 (x_tiRight h35 1 rfl s (by omega) [f,a,u,r] 4 rfl rfl (by decide) (by kernel_rfl)) ?_
      rintro _ w36 ⟨rfl,h36⟩
      refine ⟨⟨h36.at_ 4 rfl,trivial⟩,?_⟩
      refine dT 32 (xSs h36 5 196 (.tmp 2) (.tmp 48) 0 ([(zD 2),(zD 2),(iV .u64 0),zN,(lV (some ⟨g34,0,none⟩) 6 6)]) ([(zD 2),(zD 2),(iV .u64 0),zN,(lV (some ⟨g34,0,none⟩) 6 6)])) ?_
      rintro _ w37 h37
      refine ⟨⟨h37.at_ 4 rfl,trivial⟩,?_⟩
      refine dN 33 ?_
      refine dX ?_
      refine mF (post_2 (r:=.cell 2 196) (s:=.tmp 3) (by kernel_rfl) rfl (rce (h37.at_ 5 rfl)) (rtm (bV (rightM s [f,a,u,r]))) ?_)
      exact ⟨g34,_,_,_,_,rfl,h37.at_ 0 rfl,h37.at_ 2 rfl,h37.at_ 3 rfl,(h37.mine 0 _ rfl _ rfl).elim (fun h=>h.elim) id,fun q hq=>Nat.le_trans h13.below0.size (hn14 q hq),fun q hq=>Nat.le_trans h12.below0.size (hn13 q hq),h37.below0⟩
     refine oT (x_bs h15 2 ([(zD f),(zD a),(zD u),(zD r)]) 4 (by kernel_rfl)) ?_
     rintro _ w38 ⟨g38,rfl,h38⟩
     refine ⟨⟨h38.at_ 3 rfl,trivial⟩,?_⟩
     refine dD 14 h38 [(zD u)] (knum_any u _) (fun w39 h39=>⟨⟨h39.at_ 3 rfl,trivial⟩,?_⟩)
     refine dD 17 h39 [(zD r)] (knum_any r _) (fun w40 h40=>⟨⟨h40.at_ 3 rfl,trivial⟩,?_⟩)
     refine dT 18 (x_bs h40 196 ([zO,zO,(iV .u64 ((IntKind.u64.wrap f))),zN,zN,(zD 1),zO,(iV .u64 0),(lV A13 ((kl K).length) c13),zN,(zD 1),zO,(iV .u64 0),(lV A14 s.data.toList.length c14),zN,zO,zO,(iV .u64 ((IntKind.u64.wrap a))),zN,zN,zO,zO,(iV .u64 ((IntKind.u64.wrap u))),zN,zN,zO,zO,(iV .u64 ((IntKind.u64.wrap r))),zN,zN]) 6 (by kernel_rfl)) ?_
     rintro _ w41 ⟨g41,rfl,h41⟩
     refine ⟨⟨h41.at_ 4 rfl,trivial⟩,?_⟩
     refine dD 19 h41 [(zD 2),(lV (some ⟨g41,0,none⟩) 6 6)] (dseq_any 2 (some ⟨g41,0,none⟩) 6 6 _) (fun w42 h42=>⟨⟨h42.at_ 4 rfl,trivial⟩,?_⟩)
     refine dT 31 (x_tiRight h42 1 rfl s (by omega) [f,a,u,r] 4 rfl rfl (by decide) (by kernel_rfl)) ?_
     rintro _ w43 ⟨rfl,h43⟩
     refine ⟨⟨h43.at_ 4 rfl,trivial⟩,?_⟩
     refine dT 32 (xSs h43 5 196 (.tmp 2) (.tmp 48) 0 ([(zD 2),(zD 2),(iV .u64 0),zN,(lV (some ⟨g41,0,none⟩) 6 6)]) ([(zD 2),(zD 2),(iV .u64 0),zN,(lV (some ⟨g41,0,none⟩) 6 6)])) ?_
     rintro _ w44 h44
     refine ⟨⟨h44.at_ 4 rfl,trivial⟩,?_⟩
     refine dN 33 ?_
     refine dX ?_
     refine mF (post_2 (r:=.cell 2 196) (s:=.tmp 3) (by kernel_rfl) rfl (rce (h44.at_ 5 rfl)) (rtm (bV (rightM s [f,a,u,r]))) ?_)
     exact ⟨g41,_,_,_,_,rfl,h44.at_ 0 rfl,h44.at_ 2 rfl,h44.at_ 3 rfl,(h44.mine 0 _ rfl _ rfl).elim (fun h=>h.elim) id,fun q hq=>Nat.le_trans h13.below0.size (hn14 q hq),fun q hq=>Nat.le_trans h12.below0.size (hn13 q hq),h44.below0⟩
    refine oT (x_bs h14 2 ([(zD f),(zD a),(zD u),(zD r)]) 4 (by kernel_rfl)) ?_
    rintro _ w45 ⟨g45,rfl,h45⟩
    refine ⟨⟨h45.at_ 3 rfl,trivial⟩,?_⟩
    refine dD 11 h45 [(zD a)] (knum_any a _) (fun w46 h46=>⟨⟨h46.at_ 3 rfl,trivial⟩,?_⟩)
    refine dD 14 h46 [(zD u)] (knum_any u _) (fun w47 h47=>⟨⟨h47.at_ 3 rfl,trivial⟩,?_⟩)
    refine dD 17 h47 [(zD r)] (knum_any r _) (fun w48 h48=>⟨⟨h48.at_ 3 rfl,trivial⟩,?_⟩)
    refine dT 18 (x_bs h48 196 ([zO,zO,(iV .u64 ((IntKind.u64.wrap f))),zN,zN,(zD 1),zO,(iV .u64 0),(lV A13 ((kl K).length) c13),zN,(zD 1),zO,(iV .u64 0),(lV A14 s.data.toList.length c14),zN,zO,zO,(iV .u64 ((IntKind.u64.wrap a))),zN,zN,zO,zO,(iV .u64 ((IntKind.u64.wrap u))),zN,zN,zO,zO,(iV .u64 ((IntKind.u64.wrap r))),zN,zN]) 6 (by kernel_rfl)) ?_
    rintro _ w49 ⟨g49,rfl,h49⟩
    refine ⟨⟨h49.at_ 4 rfl,trivial⟩,?_⟩
    refine dD 19 h49 [(zD 2),(lV (some ⟨g49,0,none⟩) 6 6)] (dseq_any 2 (some ⟨g49,0,none⟩) 6 6 _) (fun w50 h50=>⟨⟨h50.at_ 4 rfl,trivial⟩,?_⟩)
    refine dT 31 (x_tiRight h50 1 rfl s (by omega) [f,a,u,r] 4 rfl rfl (by decide) (by kernel_rfl)) ?_
    rintro _ w51 ⟨rfl,h51⟩
    refine ⟨⟨h51.at_ 4 rfl,trivial⟩,?_⟩
    refine dT 32 (xSs h51 5 196 (.tmp 2) (.tmp 48) 0 ([(zD 2),(zD 2),(iV .u64 0),zN,(lV (some ⟨g49,0,none⟩) 6 6)]) ([(zD 2),(zD 2),(iV .u64 0),zN,(lV (some ⟨g49,0,none⟩) 6 6)])) ?_
    rintro _ w52 h52
    refine ⟨⟨h52.at_ 4 rfl,trivial⟩,?_⟩
    refine dN 33 ?_
    refine dX ?_
    refine mF (post_2 (r:=.cell 2 196) (s:=.tmp 3) (by kernel_rfl) rfl (rce (h52.at_ 5 rfl)) (rtm (bV (rightM s [f,a,u,r]))) ?_)
    exact ⟨g49,_,_,_,_,rfl,h52.at_ 0 rfl,h52.at_ 2 rfl,h52.at_ 3 rfl,(h52.mine 0 _ rfl _ rfl).elim (fun h=>h.elim) id,fun q hq=>Nat.le_trans h13.below0.size (hn14 q hq),fun q hq=>Nat.le_trans h12.below0.size (hn13 q hq),h52.below0⟩
   refine oT (x_bs h13 2 ([(zD f),(zD a),(zD u),(zD r)]) 4 (by kernel_rfl)) ?_
   rintro _ w53 ⟨g53,rfl,h53⟩
   refine ⟨⟨h53.at_ 2 rfl,trivial⟩,?_⟩
   refine dT 8 (x_rawT h53 120 [(sV s)] (by kernel_rfl) (ktext_any s _ (by omega))) ?_
   rintro _ w54 ⟨A54,c54,rfl,h54,hn54⟩
   refine ⟨⟨h54.at_ 3 rfl,trivial⟩,?_⟩
   refine dD 11 h54 [(zD a)] (knum_any a _) (fun w55 h55=>⟨⟨h55.at_ 3 rfl,trivial⟩,?_⟩)
   refine dD 14 h55 [(zD u)] (knum_any u _) (fun w56 h56=>⟨⟨h56.at_ 3 rfl,trivial⟩,?_⟩)
   refine dD 17 h56 [(zD r)] (knum_any r _) (fun w57 h57=>⟨⟨h57.at_ 3 rfl,trivial⟩,?_⟩)
   refine dT 18 (x_bs h57 196 ([zO,zO,(iV .u64 ((IntKind.u64.wrap f))),zN,zN,(zD 1),zO,(iV .u64 0),(lV A13 ((kl K).length) c13),zN,(zD 1),zO,(iV .u64 0),(lV A54 s.data.toList.length c54),zN,zO,zO,(iV .u64 ((IntKind.u64.wrap a))),zN,zN,zO,zO,(iV .u64 ((IntKind.u64.wrap u))),zN,zN,zO,zO,(iV .u64 ((IntKind.u64.wrap r))),zN,zN]) 6 (by kernel_rfl)) ?_
   rintro _ w58 ⟨g58,rfl,h58⟩
   refine ⟨⟨h58.at_ 4 rfl,trivial⟩,?_⟩
   refine dD 19 h58 [(zD 2),(lV (some ⟨g58,0,none⟩) 6 6)] (dseq_any 2 (some ⟨g58,0,none⟩) 6 6 _) (fun w59 h59=>⟨⟨h59.at_ 4 rfl,trivial⟩,?_⟩)
   refine dT 31 (x_tiRight h59 2 rfl s (by omega) [f,a,u,r] 4 rfl rfl (by decide) (by kernel_rfl)) ?_
   rintro _ w60 ⟨rfl,h60⟩
   refine ⟨⟨h60.at_ 4 rfl,trivial⟩,?_⟩
   refine dT 32 (xSs h60 5 196 (.tmp 2) (.tmp 48) 0 ([(zD 2),(zD 2),(iV .u64 0),zN,(lV (some ⟨g58,0,none⟩) 6 6)]) ([(zD 2),(zD 2),(iV .u64 0),zN,(lV (some ⟨g58,0,none⟩) 6 6)])) ?_
   rintro _ w61 h61
   refine ⟨⟨h61.at_ 4 rfl,trivial⟩,?_⟩
   refine dN 33 ?_
   refine dX ?_
   refine mF (post_2 (r:=.cell 2 196) (s:=.tmp 3) (by kernel_rfl) rfl (rce (h61.at_ 5 rfl)) (rtm (bV (rightM s [f,a,u,r]))) ?_)
   exact ⟨g58,_,_,_,_,rfl,h61.at_ 0 rfl,h61.at_ 1 rfl,h61.at_ 3 rfl,(h61.mine 0 _ rfl _ rfl).elim (fun h=>h.elim) id,fun q hq=>Nat.le_trans h53.below0.size (hn54 q hq),fun q hq=>Nat.le_trans h12.below0.size (hn13 q hq),h61.below0⟩
  refine oT (x_bs h12 2 ([(zD f),(zD a),(zD u),(zD r)]) 4 (by kernel_rfl)) ?_
  rintro _ w62 ⟨g62,rfl,h62⟩
  refine ⟨⟨h62.at_ 1 rfl,trivial⟩,?_⟩
  refine dT 5 (x_rawT h62 123 [(aV (vb (kl K)).toArray)] (by kernel_rfl) (kkey_any K _)) ?_
  rintro _ w63 ⟨A63,c63,rfl,h63,hn63⟩
  refine ⟨⟨h63.at_ 2 rfl,trivial⟩,?_⟩
  refine dT 8 (x_rawT h63 120 [(sV s)] (by kernel_rfl) (ktext_any s _ (by omega))) ?_
  rintro _ w64 ⟨A64,c64,rfl,h64,hn64⟩
  refine ⟨⟨h64.at_ 3 rfl,trivial⟩,?_⟩
  refine dD 11 h64 [(zD a)] (knum_any a _) (fun w65 h65=>⟨⟨h65.at_ 3 rfl,trivial⟩,?_⟩)
  refine dD 14 h65 [(zD u)] (knum_any u _) (fun w66 h66=>⟨⟨h66.at_ 3 rfl,trivial⟩,?_⟩)
  refine dD 17 h66 [(zD r)] (knum_any r _) (fun w67 h67=>⟨⟨h67.at_ 3 rfl,trivial⟩,?_⟩)
  refine dT 18 (x_bs h67 196 ([zO,zO,(iV .u64 ((IntKind.u64.wrap f))),zN,zN,(zD 1),zO,(iV .u64 0),(lV A63 ((kl K).length) c63),zN,(zD 1),zO,(iV .u64 0),(lV A64 s.data.toList.length c64),zN,zO,zO,(iV .u64 ((IntKind.u64.wrap a))),zN,zN,zO,zO,(iV .u64 ((IntKind.u64.wrap u))),zN,zN,zO,zO,(iV .u64 ((IntKind.u64.wrap r))),zN,zN]) 6 (by kernel_rfl)) ?_
  rintro _ w68 ⟨g68,rfl,h68⟩
  refine ⟨⟨h68.at_ 4 rfl,trivial⟩,?_⟩
  refine dD 19 h68 [(zD 2),(lV (some ⟨g68,0,none⟩) 6 6)] (dseq_any 2 (some ⟨g68,0,none⟩) 6 6 _) (fun w69 h69=>⟨⟨h69.at_ 4 rfl,trivial⟩,?_⟩)
  refine dT 31 (x_tiRight h69 3 rfl s (by omega) [f,a,u,r] 4 rfl rfl (by decide) (by kernel_rfl)) ?_
  rintro _ w70 ⟨rfl,h70⟩
  refine ⟨⟨h70.at_ 4 rfl,trivial⟩,?_⟩
  refine dT 32 (xSs h70 5 196 (.tmp 2) (.tmp 48) 0 ([(zD 2),(zD 2),(iV .u64 0),zN,(lV (some ⟨g68,0,none⟩) 6 6)]) ([(zD 2),(zD 2),(iV .u64 0),zN,(lV (some ⟨g68,0,none⟩) 6 6)])) ?_
  rintro _ w71 h71
  refine ⟨⟨h71.at_ 4 rfl,trivial⟩,?_⟩
  refine dN 33 ?_
  refine dX ?_
  refine mF (post_2 (r:=.cell 2 196) (s:=.tmp 3) (by kernel_rfl) rfl (rce (h71.at_ 5 rfl)) (rtm (bV (rightM s [f,a,u,r]))) ?_)
  exact ⟨g68,_,_,_,_,rfl,h71.at_ 0 rfl,h71.at_ 1 rfl,h71.at_ 2 rfl,(h71.mine 0 _ rfl _ rfl).elim (fun h=>h.elim) id,fun q hq=>Nat.le_trans h63.below0.size (hn64 q hq),fun q hq=>Nat.le_trans h62.below0.size (hn63 q hq),h71.below0⟩
 refine oT (x_bs h11 2 ([(zD f),(zD a),(zD u),(zD r)]) 4 (by kernel_rfl)) ?_
 rintro _ w72 ⟨g72,rfl,h72⟩
 refine ⟨⟨h72.at_ 1 rfl,trivial⟩,?_⟩
 refine dD 2 h72 [(zD f)] (knum_any f _) (fun w73 h73=>⟨⟨h73.at_ 1 rfl,trivial⟩,?_⟩)
 refine dT 5 (x_rawT h73 123 [(aV (vb (kl K)).toArray)] (by kernel_rfl) (kkey_any K _)) ?_
 rintro _ w74 ⟨A74,c74,rfl,h74,hn74⟩
 refine ⟨⟨h74.at_ 2 rfl,trivial⟩,?_⟩
 refine dT 8 (x_rawT h74 120 [(sV s)] (by kernel_rfl) (ktext_any s _ (by omega))) ?_
 rintro _ w75 ⟨A75,c75,rfl,h75,hn75⟩
 refine ⟨⟨h75.at_ 3 rfl,trivial⟩,?_⟩
 refine dD 11 h75 [(zD a)] (knum_any a _) (fun w76 h76=>⟨⟨h76.at_ 3 rfl,trivial⟩,?_⟩)
 refine dD 14 h76 [(zD u)] (knum_any u _) (fun w77 h77=>⟨⟨h77.at_ 3 rfl,trivial⟩,?_⟩)
 refine dD 17 h77 [(zD r)] (knum_any r _) (fun w78 h78=>⟨⟨h78.at_ 3 rfl,trivial⟩,?_⟩)
 refine dT 18 (x_bs h78 196 ([zO,zO,(iV .u64 ((IntKind.u64.wrap f))),zN,zN,(zD 1),zO,(iV .u64 0),(lV A74 ((kl K).length) c74),zN,(zD 1),zO,(iV .u64 0),(lV A75 s.data.toList.length c75),zN,zO,zO,(iV .u64 ((IntKind.u64.wrap a))),zN,zN,zO,zO,(iV .u64 ((IntKind.u64.wrap u))),zN,zN,zO,zO,(iV .u64 ((IntKind.u64.wrap r))),zN,zN]) 6 (by kernel_rfl)) ?_
 rintro _ w79 ⟨g79,rfl,h79⟩
 refine ⟨⟨h79.at_ 4 rfl,trivial⟩,?_⟩
 refine dD 19 h79 [(zD 2),(lV (some ⟨g79,0,none⟩) 6 6)] (dseq_any 2 (some ⟨g79,0,none⟩) 6 6 _) (fun w80 h80=>⟨⟨h80.at_ 4 rfl,trivial⟩,?_⟩)
 refine dT 31 (x_tiRight h80 3 rfl s (by omega) [f,a,u,r] 4 rfl rfl (by decide) (by kernel_rfl)) ?_
 rintro _ w81 ⟨rfl,h81⟩
 refine ⟨⟨h81.at_ 4 rfl,trivial⟩,?_⟩
 refine dT 32 (xSs h81 5 196 (.tmp 2) (.tmp 48) 0 ([(zD 2),(zD 2),(iV .u64 0),zN,(lV (some ⟨g79,0,none⟩) 6 6)]) ([(zD 2),(zD 2),(iV .u64 0),zN,(lV (some ⟨g79,0,none⟩) 6 6)])) ?_
 rintro _ w82 h82
 refine ⟨⟨h82.at_ 4 rfl,trivial⟩,?_⟩
 refine dN 33 ?_
 refine dX ?_
 refine mF (post_2 (r:=.cell 2 196) (s:=.tmp 3) (by kernel_rfl) rfl (rce (h82.at_ 5 rfl)) (rtm (bV (rightM s [f,a,u,r]))) ?_)
 exact ⟨g79,_,_,_,_,rfl,h82.at_ 0 rfl,h82.at_ 1 rfl,h82.at_ 2 rfl,(h82.mine 0 _ rfl _ rfl).elim (fun h=>h.elim) id,fun q hq=>Nat.le_trans h74.below0.size (hn75 q hq),fun q hq=>Nat.le_trans h73.below0.size (hn74 q hq),h82.below0⟩
theorem vReply_any(f n a u r:Int)(s:ByteArray)(K:Fin 16->UInt8)(hs:s.size<=1000000)(w:World):Calls Tryz.prog 99 #[.iface 211 (aV ([(iV .i64 f)]++vb (kl K)++[(iV .i64 n),(sV s),(iV .i64 a),(iV .i64 u),(iV .i64 r)]).toArray)] w fun e w'=>∃ g A c B d,e=.returned (.tuple #[.agg #[.int .i64 2,.int .i64 3,.int .u64 0,.slice none 0 0,.slice (some ⟨g,0,none⟩) 7 7],.bool (rightM s [f,n,a,u,r])])/\Blk w' g 196 (nV f++rV (lV B (kl K).length d)++nV n++rV (lV A s.data.toList.length c)++nV a++nV u++nV r)/\SB w' (lV A s.data.toList.length c) s.data.toList/\SB w' (lV B (kl K).length d) (kl K)/\w.heap.size<=g/\(∀ q,(lV A s.data.toList.length c).ownBlock=some q->w.heap.size<=q)/\(∀ q,(lV B (kl K).length d).ownBlock=some q->w.heap.size<=q)/\Below w.heap.size w w':=by
 have h0:=Hp.nil (fun _=>False) w
 refine mE 180 ?_
 refine mN h0 196 ([zO,zO,(iV .u64 0),zN,zN]) fun g2 w2 h2=>?_
 refine mN h2 211 ([zO]++vb (List.replicate 16 0)++[zO,zE,zO,zO,zO]) fun g9 w9 h9=>?_
 refine mT (xSs h9 0 211 (.tmp 6) (.tmp 63) 0 ([(zD f)]++vb (kl K)++[(zD n),(sV s),(zD a),(zD u),(zD r)]) ([(zD f)]++vb (kl K)++[(zD n),(sV s),(zD a),(zD u),(zD r)])) fun _ w10 h10=>?_
 refine dG h10 39 38 (fun W=>(rBlk g9 211 ([(zD f)]++vb (kl K)++[(zD n),(sV s),(zD a),(zD u),(zD r)])).Φ W/\True) (fun w12 h12=>⟨h12.at_ 0 rfl,trivial⟩) ?_
 intro w12 h12
 refine dP 26 [0,3,6,9,12,15,18,23,25,27,29,31,33] ?_
 refine dLs 13 [1,4,7,10,13,16,19,24,26,28,30,32,34] (fun W hW=>hW.1) ?_
 refine dO 2 35 ?_ ?_
 ·
  refine oD h12 [(zD f)] (knum_any f _) (fun w13 h13=>⟨⟨h13.at_ 0 rfl,trivial⟩,?_⟩)
  refine dO 5 35 ?_ ?_
  ·
   refine oT (x_rawT h13 123 [(aV (vb (kl K)).toArray)] (by kernel_rfl) (kkey_any K _)) ?_
   rintro _ w14 ⟨A14,c14,rfl,h14,hn14⟩
   refine ⟨⟨h14.at_ 1 rfl,trivial⟩,?_⟩
   refine dO 8 35 ?_ ?_
   ·
    refine oD h14 [(zD n)] (knum_any n _) (fun w15 h15=>⟨⟨h15.at_ 1 rfl,trivial⟩,?_⟩)
    refine dO 11 35 ?_ ?_
    ·
     refine oT (x_rawT h15 120 [(sV s)] (by kernel_rfl) (ktext_any s _ (by omega))) ?_
     rintro _ w16 ⟨A16,c16,rfl,h16,hn16⟩
     refine ⟨⟨h16.at_ 2 rfl,trivial⟩,?_⟩
     refine dO 14 35 ?_ ?_
     ·
      refine oD h16 [(zD a)] (knum_any a _) (fun w17 h17=>⟨⟨h17.at_ 2 rfl,trivial⟩,?_⟩)
      refine dO 17 35 ?_ ?_
      ·
       refine oD h17 [(zD u)] (knum_any u _) (fun w18 h18=>⟨⟨h18.at_ 2 rfl,trivial⟩,?_⟩)
       refine dO 20 35 ?_ ?_
       ·
        refine oD h18 [(zD r)] (knum_any r _) (fun w19 h19=>⟨⟨h19.at_ 2 rfl,trivial⟩,?_⟩)
        refine dO 21 35 ?_ ?_
        ·
         refine oT (x_bs h19 196 ([zO,zO,(iV .u64 ((IntKind.u64.wrap f))),zN,zN,(zD 1),zO,(iV .u64 0),(lV A14 ((kl K).length) c14),zN,zO,zO,(iV .u64 ((IntKind.u64.wrap n))),zN,zN,(zD 1),zO,(iV .u64 0),(lV A16 s.data.toList.length c16),zN,zO,zO,(iV .u64 ((IntKind.u64.wrap a))),zN,zN,zO,zO,(iV .u64 ((IntKind.u64.wrap u))),zN,zN,zO,zO,(iV .u64 ((IntKind.u64.wrap r))),zN,zN]) 7 (by kernel_rfl)) ?_
         rintro _ w20 ⟨g20,rfl,h20⟩
         refine ⟨⟨h20.at_ 3 rfl,trivial⟩,?_⟩
         refine dO 22 35 ?_ ?_
         ·
          refine oD h20 [(zD 3),(lV (some ⟨g20,0,none⟩) 7 7)] (dseq_any 3 (some ⟨g20,0,none⟩) 7 7 _) (fun w21 h21=>⟨⟨h21.at_ 3 rfl,trivial⟩,?_⟩)
          refine dT 35 (x_bs h21 2 ([(zD f),(zD n),(zD a),(zD u),(zD r)]) 5 (by kernel_rfl)) ?_
          rintro _ w22 ⟨g22,rfl,h22⟩
          refine ⟨⟨h22.at_ 4 rfl,trivial⟩,?_⟩
          refine dT 36 (x_tiRight h22 0 rfl s (by omega) [f,n,a,u,r] 5 rfl rfl (by decide) (by kernel_rfl)) ?_
          rintro _ w23 ⟨rfl,h23⟩
          refine ⟨⟨h23.at_ 4 rfl,trivial⟩,?_⟩
          refine dT 37 (xSs h23 5 196 (.tmp 2) (.tmp 86) 0 ([(zD 2),(zD 3),(iV .u64 0),zN,(lV (some ⟨g20,0,none⟩) 7 7)]) ([(zD 2),(zD 3),(iV .u64 0),zN,(lV (some ⟨g20,0,none⟩) 7 7)])) ?_
          rintro _ w24 h24
          refine ⟨⟨h24.at_ 4 rfl,trivial⟩,?_⟩
          refine dN 38 ?_
          refine dX ?_
          refine mF (post_2 (r:=.cell 2 196) (s:=.tmp 3) (by kernel_rfl) rfl (rce (h24.at_ 5 rfl)) (rtm (bV (rightM s [f,n,a,u,r]))) ?_)
          exact ⟨g20,_,_,_,_,rfl,h24.at_ 1 rfl,h24.at_ 2 rfl,h24.at_ 3 rfl,(h24.mine 1 _ rfl _ rfl).elim (fun h=>h.elim) id,fun q hq=>Nat.le_trans h15.below0.size (hn16 q hq),fun q hq=>Nat.le_trans h13.below0.size (hn14 q hq),h24.below0⟩
         refine oT (x_bs h20 2 ([(zD f),(zD n),(zD a),(zD u),(zD r)]) 5 (by kernel_rfl)) ?_
         rintro _ w25 ⟨g25,rfl,h25⟩
         refine ⟨⟨h25.at_ 4 rfl,trivial⟩,?_⟩
         refine dD 22 h25 [(zD 3),(lV (some ⟨g20,0,none⟩) 7 7)] (dseq_any 3 (some ⟨g20,0,none⟩) 7 7 _) (fun w26 h26=>⟨⟨h26.at_ 4 rfl,trivial⟩,?_⟩)
         refine dT 36 (x_tiRight h26 0 rfl s (by omega) [f,n,a,u,r] 5 rfl rfl (by decide) (by kernel_rfl)) ?_
         rintro _ w27 ⟨rfl,h27⟩
         refine ⟨⟨h27.at_ 4 rfl,trivial⟩,?_⟩
         refine dT 37 (xSs h27 5 196 (.tmp 2) (.tmp 86) 0 ([(zD 2),(zD 3),(iV .u64 0),zN,(lV (some ⟨g20,0,none⟩) 7 7)]) ([(zD 2),(zD 3),(iV .u64 0),zN,(lV (some ⟨g20,0,none⟩) 7 7)])) ?_
         rintro _ w28 h28
         refine ⟨⟨h28.at_ 4 rfl,trivial⟩,?_⟩
         refine dN 38 ?_
         refine dX ?_
         refine mF (post_2 (r:=.cell 2 196) (s:=.tmp 3) (by kernel_rfl) rfl (rce (h28.at_ 5 rfl)) (rtm (bV (rightM s [f,n,a,u,r]))) ?_)
         exact ⟨g20,_,_,_,_,rfl,h28.at_ 1 rfl,h28.at_ 2 rfl,h28.at_ 3 rfl,(h28.mine 1 _ rfl _ rfl).elim (fun h=>h.elim) id,fun q hq=>Nat.le_trans h15.below0.size (hn16 q hq),fun q hq=>Nat.le_trans h13.below0.size (hn14 q hq),h28.below0⟩
        refine oT (x_bs h19 2 ([(zD f),(zD n),(zD a),(zD u),(zD r)]) 5 (by kernel_rfl)) ?_
        rintro _ w29 ⟨g29,rfl,h29⟩
        refine ⟨⟨h29.at_ 3 rfl,trivial⟩,?_⟩
        refine dT 21 (x_bs h29 196 ([zO,zO,(iV .u64 ((IntKind.u64.wrap f))),zN,zN,(zD 1),zO,(iV .u64 0),(lV A14 ((kl K).length) c14),zN,zO,zO,(iV .u64 ((IntKind.u64.wrap n))),zN,zN,(zD 1),zO,(iV .u64 0),(lV A16 s.data.toList.length c16),zN,zO,zO,(iV .u64 ((IntKind.u64.wrap a))),zN,zN,zO,zO,(iV .u64 ((IntKind.u64.wrap u))),zN,zN,zO,zO,(iV .u64 ((IntKind.u64.wrap r))),zN,zN]) 7 (by kernel_rfl)) ?_
        rintro _ w30 ⟨g30,rfl,h30⟩
        refine ⟨⟨h30.at_ 4 rfl,trivial⟩,?_⟩
        refine dD 22 h30 [(zD 3),(lV (some ⟨g30,0,none⟩) 7 7)] (dseq_any 3 (some ⟨g30,0,none⟩) 7 7 _) (fun w31 h31=>⟨⟨h31.at_ 4 rfl,trivial⟩,?_⟩)
        refine dT 36 (x_tiRight h31 1 rfl s (by omega) [f,n,a,u,r] 5 rfl rfl (by decide) (by kernel_rfl)) ?_
        rintro _ w32 ⟨rfl,h32⟩
        refine ⟨⟨h32.at_ 4 rfl,trivial⟩,?_⟩
        refine dT 37 (xSs h32 5 196 (.tmp 2) (.tmp 86) 0 ([(zD 2),(zD 3),(iV .u64 0),zN,(lV (some ⟨g30,0,none⟩) 7 7)]) ([(zD 2),(zD 3),(iV .u64 0),zN,(lV (some ⟨g30,0,none⟩) 7 7)])) ?_
        rintro _ w33 h33
        refine ⟨⟨h33.at_ 4 rfl,trivial⟩,?_⟩
        refine dN 38 ?_
        refine dX ?_
        refine mF (post_2 (r:=.cell 2 196) (s:=.tmp 3) (by kernel_rfl) rfl (rce (h33.at_ 5 rfl)) (rtm (bV (rightM s [f,n,a,u,r]))) ?_)
        exact ⟨g30,_,_,_,_,rfl,h33.at_ 0 rfl,h33.at_ 2 rfl,h33.at_ 3 rfl,(h33.mine 0 _ rfl _ rfl).elim (fun h=>h.elim) id,fun q hq=>Nat.le_trans h15.below0.size (hn16 q hq),fun q hq=>Nat.le_trans h13.below0.size (hn14 q hq),h33.below0⟩
       refine oT (x_bs h18 2 ([(zD f),(zD n),(zD a),(zD u),(zD r)]) 5 (by kernel_rfl)) ?_
       rintro _ w34 ⟨g34,rfl,h34⟩
       refine ⟨⟨h34.at_ 3 rfl,trivial⟩,?_⟩
       refine dD 20 h34 [(zD r)] (knum_any r _) (fun w35 h35=>⟨⟨h35.at_ 3 rfl,trivial⟩,?_⟩)
       refine dT 21 (x_bs h35 196 ([zO,zO,(iV .u64 ((IntKind.u64.wrap f))),zN,zN,(zD 1),zO,(iV .u64 0),(lV A14 ((kl K).length) c14),zN,zO,zO,(iV .u64 ((IntKind.u64.wrap n))),zN,zN,(zD 1),zO,(iV .u64 0),(lV A16 s.data.toList.length c16),zN,zO,zO,(iV .u64 ((IntKind.u64.wrap a))),zN,zN,zO,zO,(iV .u64 ((IntKind.u64.wrap u))),zN,zN,zO,zO,(iV .u64 ((IntKind.u64.wrap r))),zN,zN]) 7 (by kernel_rfl)) ?_
       rintro _ w36 ⟨g36,rfl,h36⟩
       refine ⟨⟨h36.at_ 4 rfl,trivial⟩,?_⟩
       refine dD 22 h36 [(zD 3),(lV (some ⟨g36,0,none⟩) 7 7)] (dseq_any 3 (some ⟨g36,0,none⟩) 7 7 _) (fun w37 h37=>⟨⟨h37.at_ 4 rfl,trivial⟩,?_⟩)
       refine dT 36 (x_tiRight h37 1 rfl s (by omega) [f,n,a,u,r] 5 rfl rfl (by decide) (by kernel_rfl)) ?_
       rintro _ w38 ⟨rfl,h38⟩
       refine ⟨⟨h38.at_ 4 rfl,trivial⟩,?_⟩
       refine dT 37 (xSs h38 5 196 (.tmp 2) (.tmp 86) 0 ([(zD 2),(zD 3),(iV .u64 0),zN,(lV (some ⟨g36,0,none⟩) 7 7)]) ([(zD 2),(zD 3),(iV .u64 0),zN,(lV (some ⟨g36,0,none⟩) 7 7)])) ?_
       rintro _ w39 h39
       refine ⟨⟨h39.at_ 4 rfl,trivial⟩,?_⟩
       refine dN 38 ?_
       refine dX ?_
       refine mF (post_2 (r:=.cell 2 196) (s:=.tmp 3) (by kernel_rfl) rfl (rce (h39.at_ 5 rfl)) (rtm (bV (rightM s [f,n,a,u,r]))) ?_)
       exact ⟨g36,_,_,_,_,rfl,h39.at_ 0 rfl,h39.at_ 2 rfl,h39.at_ 3 rfl,(h39.mine 0 _ rfl _ rfl).elim (fun h=>h.elim) id,fun q hq=>Nat.le_trans h15.below0.size (hn16 q hq),fun q hq=>Nat.le_trans h13.below0.size (hn14 q hq),h39.below0⟩
      refine oT (x_bs h17 2 ([(zD f),(zD n),(zD a),(zD u),(zD r)]) 5 (by kernel_rfl)) ?_
      rintro _ w40 ⟨g40,rfl,h40⟩
      refine ⟨⟨h40.at_ 3 rfl,trivial⟩,?_⟩
      refine dD 17 h40 [(zD u)] (knum_any u _) (fun w41 h41=>⟨⟨h41.at_ 3 rfl,trivial⟩,?_⟩)
      refine dD 20 h41 [(zD r)] (knum_any r _) (fun w42 h42=>⟨⟨h42.at_ 3 rfl,trivial⟩,?_⟩)
      refine dT 21 (x_bs h42 196 ([zO,zO,(iV .u64 ((IntKind.u64.wrap f))),zN,zN,(zD 1),zO,(iV .u64 0),(lV A14 ((kl K).length) c14),zN,zO,zO,(iV .u64 ((IntKind.u64.wrap n))),zN,zN,(zD 1),zO,(iV .u64 0),(lV A16 s.data.toList.length c16),zN,zO,zO,(iV .u64 ((IntKind.u64.wrap a))),zN,zN,zO,zO,(iV .u64 ((IntKind.u64.wrap u))),zN,zN,zO,zO,(iV .u64 ((IntKind.u64.wrap r))),zN,zN]) 7 (by kernel_rfl)) ?_
      rintro _ w43 ⟨g43,rfl,h43⟩
      refine ⟨⟨h43.at_ 4 rfl,trivial⟩,?_⟩
      refine dD 22 h43 [(zD 3),(lV (some ⟨g43,0,none⟩) 7 7)] (dseq_any 3 (some ⟨g43,0,none⟩) 7 7 _) (fun w44 h44=>⟨⟨h44.at_ 4 rfl,trivial⟩,?_⟩)
      refine dT 36 (x_tiRight h44 1 rfl s (by omega) [f,n,a,u,r] 5 rfl rfl (by decide) (by kernel_rfl)) ?_
      rintro _ w45 ⟨rfl,h45⟩
      refine ⟨⟨h45.at_ 4 rfl,trivial⟩,?_⟩
      refine dT 37 (xSs h45 5 196 (.tmp 2) (.tmp 86) 0 ([(zD 2),(zD 3),(iV .u64 0),zN,(lV (some ⟨g43,0,none⟩) 7 7)]) ([(zD 2),(zD 3),(iV .u64 0),zN,(lV (some ⟨g43,0,none⟩) 7 7)])) ?_
      rintro _ w46 h46
      refine ⟨⟨h46.at_ 4 rfl,trivial⟩,?_⟩
      refine dN 38 ?_
      refine dX ?_
      refine mF (post_2 (r:=.cell 2 196) (s:=.tmp 3) (by kernel_rfl) rfl (rce (h46.at_ 5 rfl)) (rtm (bV (rightM s [f,n,a,u,r]))) ?_)
      exact ⟨g43,_,_,_,_,rfl,h46.at_ 0 rfl,h46.at_ 2 rfl,h46.at_ 3 rfl,(h46.mine 0 _ rfl _ rfl).elim (fun h=>h.elim) id,fun q hq=>Nat.le_trans h15.below0.size (hn16 q hq),fun q hq=>Nat.le_trans h13.below0.size (hn14 q hq),h46.below0⟩
     refine oT (x_bs h16 2 ([(zD f),(zD n),(zD a),(zD u),(zD r)]) 5 (by kernel_rfl)) ?_
     rintro _ w47 ⟨g47,rfl,h47⟩
     refine ⟨⟨h47.at_ 3 rfl,trivial⟩,?_⟩
     refine dD 14 h47 [(zD a)] (knum_any a _) (fun w48 h48=>⟨⟨h48.at_ 3 rfl,trivial⟩,?_⟩)
     refine dD 17 h48 [(zD u)] (knum_any u _) (fun w49 h49=>⟨⟨h49.at_ 3 rfl,trivial⟩,?_⟩)
     refine dD 20 h49 [(zD r)] (knum_any r _) (fun w50 h50=>⟨⟨h50.at_ 3 rfl,trivial⟩,?_⟩)
     refine dT 21 (x_bs h50 196 ([zO,zO,(iV .u64 ((IntKind.u64.wrap f))),zN,zN,(zD 1),zO,(iV .u64 0),(lV A14 ((kl K).length) c14),zN,zO,zO,(iV .u64 ((IntKind.u64.wrap n))),zN,zN,(zD 1),zO,(iV .u64 0),(lV A16 s.data.toList.length c16),zN,zO,zO,(iV .u64 ((IntKind.u64.wrap a))),zN,zN,zO,zO,(iV .u64 ((IntKind.u64.wrap u))),zN,zN,zO,zO,(iV .u64 ((IntKind.u64.wrap r))),zN,zN]) 7 (by kernel_rfl)) ?_
     rintro _ w51 ⟨g51,rfl,h51⟩
     refine ⟨⟨h51.at_ 4 rfl,trivial⟩,?_⟩
     refine dD 22 h51 [(zD 3),(lV (some ⟨g51,0,none⟩) 7 7)] (dseq_any 3 (some ⟨g51,0,none⟩) 7 7 _) (fun w52 h52=>⟨⟨h52.at_ 4 rfl,trivial⟩,?_⟩)
     refine dT 36 (x_tiRight h52 1 rfl s (by omega) [f,n,a,u,r] 5 rfl rfl (by decide) (by kernel_rfl)) ?_
     rintro _ w53 ⟨rfl,h53⟩
     refine ⟨⟨h53.at_ 4 rfl,trivial⟩,?_⟩
     refine dT 37 (xSs h53 5 196 (.tmp 2) (.tmp 86) 0 ([(zD 2),(zD 3),(iV .u64 0),zN,(lV (some ⟨g51,0,none⟩) 7 7)]) ([(zD 2),(zD 3),(iV .u64 0),zN,(lV (some ⟨g51,0,none⟩) 7 7)])) ?_
     rintro _ w54 h54
     refine ⟨⟨h54.at_ 4 rfl,trivial⟩,?_⟩
     refine dN 38 ?_
     refine dX ?_
     refine mF (post_2 (r:=.cell 2 196) (s:=.tmp 3) (by kernel_rfl) rfl (rce (h54.at_ 5 rfl)) (rtm (bV (rightM s [f,n,a,u,r]))) ?_)
     exact ⟨g51,_,_,_,_,rfl,h54.at_ 0 rfl,h54.at_ 2 rfl,h54.at_ 3 rfl,(h54.mine 0 _ rfl _ rfl).elim (fun h=>h.elim) id,fun q hq=>Nat.le_trans h15.below0.size (hn16 q hq),fun q hq=>Nat.le_trans h13.below0.size (hn14 q hq),h54.below0⟩
    refine oT (x_bs h15 2 ([(zD f),(zD n),(zD a),(zD u),(zD r)]) 5 (by kernel_rfl)) ?_
    rintro _ w55 ⟨g55,rfl,h55⟩
    refine ⟨⟨h55.at_ 2 rfl,trivial⟩,?_⟩
    refine dT 11 (x_rawT h55 120 [(sV s)] (by kernel_rfl) (ktext_any s _ (by omega))) ?_
    rintro _ w56 ⟨A56,c56,rfl,h56,hn56⟩
    refine ⟨⟨h56.at_ 3 rfl,trivial⟩,?_⟩
    refine dD 14 h56 [(zD a)] (knum_any a _) (fun w57 h57=>⟨⟨h57.at_ 3 rfl,trivial⟩,?_⟩)
    refine dD 17 h57 [(zD u)] (knum_any u _) (fun w58 h58=>⟨⟨h58.at_ 3 rfl,trivial⟩,?_⟩)
    refine dD 20 h58 [(zD r)] (knum_any r _) (fun w59 h59=>⟨⟨h59.at_ 3 rfl,trivial⟩,?_⟩)
    refine dT 21 (x_bs h59 196 ([zO,zO,(iV .u64 ((IntKind.u64.wrap f))),zN,zN,(zD 1),zO,(iV .u64 0),(lV A14 ((kl K).length) c14),zN,zO,zO,(iV .u64 ((IntKind.u64.wrap n))),zN,zN,(zD 1),zO,(iV .u64 0),(lV A56 s.data.toList.length c56),zN,zO,zO,(iV .u64 ((IntKind.u64.wrap a))),zN,zN,zO,zO,(iV .u64 ((IntKind.u64.wrap u))),zN,zN,zO,zO,(iV .u64 ((IntKind.u64.wrap r))),zN,zN]) 7 (by kernel_rfl)) ?_
    rintro _ w60 ⟨g60,rfl,h60⟩
    refine ⟨⟨h60.at_ 4 rfl,trivial⟩,?_⟩
    refine dD 22 h60 [(zD 3),(lV (some ⟨g60,0,none⟩) 7 7)] (dseq_any 3 (some ⟨g60,0,none⟩) 7 7 _) (fun w61 h61=>⟨⟨h61.at_ 4 rfl,trivial⟩,?_⟩)
    refine dT 36 (x_tiRight h61 2 rfl s (by omega) [f,n,a,u,r] 5 rfl rfl (by decide) (by kernel_rfl)) ?_
    rintro _ w62 ⟨rfl,h62⟩
    refine ⟨⟨h62.at_ 4 rfl,trivial⟩,?_⟩
    refine dT 37 (xSs h62 5 196 (.tmp 2) (.tmp 86) 0 ([(zD 2),(zD 3),(iV .u64 0),zN,(lV (some ⟨g60,0,none⟩) 7 7)]) ([(zD 2),(zD 3),(iV .u64 0),zN,(lV (some ⟨g60,0,none⟩) 7 7)])) ?_
    rintro _ w63 h63
    refine ⟨⟨h63.at_ 4 rfl,trivial⟩,?_⟩
    refine dN 38 ?_
    refine dX ?_
    refine mF (post_2 (r:=.cell 2 196) (s:=.tmp 3) (by kernel_rfl) rfl (rce (h63.at_ 5 rfl)) (rtm (bV (rightM s [f,n,a,u,r]))) ?_)
    exact ⟨g60,_,_,_,_,rfl,h63.at_ 0 rfl,h63.at_ 1 rfl,h63.at_ 3 rfl,(h63.mine 0 _ rfl _ rfl).elim (fun h=>h.elim) id,fun q hq=>Nat.le_trans h55.below0.size (hn56 q hq),fun q hq=>Nat.le_trans h13.below0.size (hn14 q hq),h63.below0⟩
   refine oT (x_bs h14 2 ([(zD f),(zD n),(zD a),(zD u),(zD r)]) 5 (by kernel_rfl)) ?_
   rintro _ w64 ⟨g64,rfl,h64⟩
   refine ⟨⟨h64.at_ 2 rfl,trivial⟩,?_⟩
   refine dD 8 h64 [(zD n)] (knum_any n _) (fun w65 h65=>⟨⟨h65.at_ 2 rfl,trivial⟩,?_⟩)
   refine dT 11 (x_rawT h65 120 [(sV s)] (by kernel_rfl) (ktext_any s _ (by omega))) ?_
   rintro _ w66 ⟨A66,c66,rfl,h66,hn66⟩
   refine ⟨⟨h66.at_ 3 rfl,trivial⟩,?_⟩
   refine dD 14 h66 [(zD a)] (knum_any a _) (fun w67 h67=>⟨⟨h67.at_ 3 rfl,trivial⟩,?_⟩)
   refine dD 17 h67 [(zD u)] (knum_any u _) (fun w68 h68=>⟨⟨h68.at_ 3 rfl,trivial⟩,?_⟩)
   refine dD 20 h68 [(zD r)] (knum_any r _) (fun w69 h69=>⟨⟨h69.at_ 3 rfl,trivial⟩,?_⟩)
   refine dT 21 (x_bs h69 196 ([zO,zO,(iV .u64 ((IntKind.u64.wrap f))),zN,zN,(zD 1),zO,(iV .u64 0),(lV A14 ((kl K).length) c14),zN,zO,zO,(iV .u64 ((IntKind.u64.wrap n))),zN,zN,(zD 1),zO,(iV .u64 0),(lV A66 s.data.toList.length c66),zN,zO,zO,(iV .u64 ((IntKind.u64.wrap a))),zN,zN,zO,zO,(iV .u64 ((IntKind.u64.wrap u))),zN,zN,zO,zO,(iV .u64 ((IntKind.u64.wrap r))),zN,zN]) 7 (by kernel_rfl)) ?_
   rintro _ w70 ⟨g70,rfl,h70⟩
   refine ⟨⟨h70.at_ 4 rfl,trivial⟩,?_⟩
   refine dD 22 h70 [(zD 3),(lV (some ⟨g70,0,none⟩) 7 7)] (dseq_any 3 (some ⟨g70,0,none⟩) 7 7 _) (fun w71 h71=>⟨⟨h71.at_ 4 rfl,trivial⟩,?_⟩)
   refine dT 36 (x_tiRight h71 2 rfl s (by omega) [f,n,a,u,r] 5 rfl rfl (by decide) (by kernel_rfl)) ?_
   rintro _ w72 ⟨rfl,h72⟩
   refine ⟨⟨h72.at_ 4 rfl,trivial⟩,?_⟩
   refine dT 37 (xSs h72 5 196 (.tmp 2) (.tmp 86) 0 ([(zD 2),(zD 3),(iV .u64 0),zN,(lV (some ⟨g70,0,none⟩) 7 7)]) ([(zD 2),(zD 3),(iV .u64 0),zN,(lV (some ⟨g70,0,none⟩) 7 7)])) ?_
   rintro _ w73 h73
   refine ⟨⟨h73.at_ 4 rfl,trivial⟩,?_⟩
   refine dN 38 ?_
   refine dX ?_
   refine mF (post_2 (r:=.cell 2 196) (s:=.tmp 3) (by kernel_rfl) rfl (rce (h73.at_ 5 rfl)) (rtm (bV (rightM s [f,n,a,u,r]))) ?_)
   exact ⟨g70,_,_,_,_,rfl,h73.at_ 0 rfl,h73.at_ 1 rfl,h73.at_ 3 rfl,(h73.mine 0 _ rfl _ rfl).elim (fun h=>h.elim) id,fun q hq=>Nat.le_trans h65.below0.size (hn66 q hq),fun q hq=>Nat.le_trans h13.below0.size (hn14 q hq),h73.below0⟩
  refine oT (x_bs h13 2 ([(zD f),(zD n),(zD a),(zD u),(zD r)]) 5 (by kernel_rfl)) ?_
  rintro _ w74 ⟨g74,rfl,h74⟩
  refine ⟨⟨h74.at_ 1 rfl,trivial⟩,?_⟩
  refine dT 5 (x_rawT h74 123 [(aV (vb (kl K)).toArray)] (by kernel_rfl) (kkey_any K _)) ?_
  rintro _ w75 ⟨A75,c75,rfl,h75,hn75⟩
  refine ⟨⟨h75.at_ 2 rfl,trivial⟩,?_⟩
  refine dD 8 h75 [(zD n)] (knum_any n _) (fun w76 h76=>⟨⟨h76.at_ 2 rfl,trivial⟩,?_⟩)
  refine dT 11 (x_rawT h76 120 [(sV s)] (by kernel_rfl) (ktext_any s _ (by omega))) ?_
  rintro _ w77 ⟨A77,c77,rfl,h77,hn77⟩
  refine ⟨⟨h77.at_ 3 rfl,trivial⟩,?_⟩
  refine dD 14 h77 [(zD a)] (knum_any a _) (fun w78 h78=>⟨⟨h78.at_ 3 rfl,trivial⟩,?_⟩)
  refine dD 17 h78 [(zD u)] (knum_any u _) (fun w79 h79=>⟨⟨h79.at_ 3 rfl,trivial⟩,?_⟩)
  refine dD 20 h79 [(zD r)] (knum_any r _) (fun w80 h80=>⟨⟨h80.at_ 3 rfl,trivial⟩,?_⟩)
  refine dT 21 (x_bs h80 196 ([zO,zO,(iV .u64 ((IntKind.u64.wrap f))),zN,zN,(zD 1),zO,(iV .u64 0),(lV A75 ((kl K).length) c75),zN,zO,zO,(iV .u64 ((IntKind.u64.wrap n))),zN,zN,(zD 1),zO,(iV .u64 0),(lV A77 s.data.toList.length c77),zN,zO,zO,(iV .u64 ((IntKind.u64.wrap a))),zN,zN,zO,zO,(iV .u64 ((IntKind.u64.wrap u))),zN,zN,zO,zO,(iV .u64 ((IntKind.u64.wrap r))),zN,zN]) 7 (by kernel_rfl)) ?_
  rintro _ w81 ⟨g81,rfl,h81⟩
  refine ⟨⟨h81.at_ 4 rfl,trivial⟩,?_⟩
  refine dD 22 h81 [(zD 3),(lV (some ⟨g81,0,none⟩) 7 7)] (dseq_any 3 (some ⟨g81,0,none⟩) 7 7 _) (fun w82 h82=>⟨⟨h82.at_ 4 rfl,trivial⟩,?_⟩)
  refine dT 36 (x_tiRight h82 3 rfl s (by omega) [f,n,a,u,r] 5 rfl rfl (by decide) (by kernel_rfl)) ?_
  rintro _ w83 ⟨rfl,h83⟩
  refine ⟨⟨h83.at_ 4 rfl,trivial⟩,?_⟩
  refine dT 37 (xSs h83 5 196 (.tmp 2) (.tmp 86) 0 ([(zD 2),(zD 3),(iV .u64 0),zN,(lV (some ⟨g81,0,none⟩) 7 7)]) ([(zD 2),(zD 3),(iV .u64 0),zN,(lV (some ⟨g81,0,none⟩) 7 7)])) ?_
  rintro _ w84 h84
  refine ⟨⟨h84.at_ 4 rfl,trivial⟩,?_⟩
  refine dN 38 ?_
  refine dX ?_
  refine mF (post_2 (r:=.cell 2 196) (s:=.tmp 3) (by kernel_rfl) rfl (rce (h84.at_ 5 rfl)) (rtm (bV (rightM s [f,n,a,u,r]))) ?_)
  exact ⟨g81,_,_,_,_,rfl,h84.at_ 0 rfl,h84.at_ 1 rfl,h84.at_ 2 rfl,(h84.mine 0 _ rfl _ rfl).elim (fun h=>h.elim) id,fun q hq=>Nat.le_trans h76.below0.size (hn77 q hq),fun q hq=>Nat.le_trans h74.below0.size (hn75 q hq),h84.below0⟩
 refine oT (x_bs h12 2 ([(zD f),(zD n),(zD a),(zD u),(zD r)]) 5 (by kernel_rfl)) ?_
 rintro _ w85 ⟨g85,rfl,h85⟩
 refine ⟨⟨h85.at_ 1 rfl,trivial⟩,?_⟩
 refine dD 2 h85 [(zD f)] (knum_any f _) (fun w86 h86=>⟨⟨h86.at_ 1 rfl,trivial⟩,?_⟩)
 refine dT 5 (x_rawT h86 123 [(aV (vb (kl K)).toArray)] (by kernel_rfl) (kkey_any K _)) ?_
 rintro _ w87 ⟨A87,c87,rfl,h87,hn87⟩
 refine ⟨⟨h87.at_ 2 rfl,trivial⟩,?_⟩
 refine dD 8 h87 [(zD n)] (knum_any n _) (fun w88 h88=>⟨⟨h88.at_ 2 rfl,trivial⟩,?_⟩)
 refine dT 11 (x_rawT h88 120 [(sV s)] (by kernel_rfl) (ktext_any s _ (by omega))) ?_
 rintro _ w89 ⟨A89,c89,rfl,h89,hn89⟩
 refine ⟨⟨h89.at_ 3 rfl,trivial⟩,?_⟩
 refine dD 14 h89 [(zD a)] (knum_any a _) (fun w90 h90=>⟨⟨h90.at_ 3 rfl,trivial⟩,?_⟩)
 refine dD 17 h90 [(zD u)] (knum_any u _) (fun w91 h91=>⟨⟨h91.at_ 3 rfl,trivial⟩,?_⟩)
 refine dD 20 h91 [(zD r)] (knum_any r _) (fun w92 h92=>⟨⟨h92.at_ 3 rfl,trivial⟩,?_⟩)
 refine dT 21 (x_bs h92 196 ([zO,zO,(iV .u64 ((IntKind.u64.wrap f))),zN,zN,(zD 1),zO,(iV .u64 0),(lV A87 ((kl K).length) c87),zN,zO,zO,(iV .u64 ((IntKind.u64.wrap n))),zN,zN,(zD 1),zO,(iV .u64 0),(lV A89 s.data.toList.length c89),zN,zO,zO,(iV .u64 ((IntKind.u64.wrap a))),zN,zN,zO,zO,(iV .u64 ((IntKind.u64.wrap u))),zN,zN,zO,zO,(iV .u64 ((IntKind.u64.wrap r))),zN,zN]) 7 (by kernel_rfl)) ?_
 rintro _ w93 ⟨g93,rfl,h93⟩
 refine ⟨⟨h93.at_ 4 rfl,trivial⟩,?_⟩
 refine dD 22 h93 [(zD 3),(lV (some ⟨g93,0,none⟩) 7 7)] (dseq_any 3 (some ⟨g93,0,none⟩) 7 7 _) (fun w94 h94=>⟨⟨h94.at_ 4 rfl,trivial⟩,?_⟩)
 refine dT 36 (x_tiRight h94 3 rfl s (by omega) [f,n,a,u,r] 5 rfl rfl (by decide) (by kernel_rfl)) ?_
 rintro _ w95 ⟨rfl,h95⟩
 refine ⟨⟨h95.at_ 4 rfl,trivial⟩,?_⟩
 refine dT 37 (xSs h95 5 196 (.tmp 2) (.tmp 86) 0 ([(zD 2),(zD 3),(iV .u64 0),zN,(lV (some ⟨g93,0,none⟩) 7 7)]) ([(zD 2),(zD 3),(iV .u64 0),zN,(lV (some ⟨g93,0,none⟩) 7 7)])) ?_
 rintro _ w96 h96
 refine ⟨⟨h96.at_ 4 rfl,trivial⟩,?_⟩
 refine dN 38 ?_
 refine dX ?_
 refine mF (post_2 (r:=.cell 2 196) (s:=.tmp 3) (by kernel_rfl) rfl (rce (h96.at_ 5 rfl)) (rtm (bV (rightM s [f,n,a,u,r]))) ?_)
 exact ⟨g93,_,_,_,_,rfl,h96.at_ 0 rfl,h96.at_ 1 rfl,h96.at_ 2 rfl,(h96.mine 0 _ rfl _ rfl).elim (fun h=>h.elim) id,fun q hq=>Nat.le_trans h88.below0.size (hn89 q hq),fun q hq=>Nat.le_trans h86.below0.size (hn87 q hq),h96.below0⟩
end
section
open Go.RowKit Go.QT
theorem vPlain_any(B:Option Addr)(d:Nat)(b:Bytes)(w:World)(hb:SB w (.slice B b.length d) b)(hl:b.length<=1000000):Calls Tryz.prog 99 #[.iface 276 (.agg [Value.slice B b.length d].toArray)] w fun e w'=>∃ g A c,e=.returned (.tuple #[.agg #[.int .i64 2,.int .i64 7,.int .u64 0,.slice none 0 0,.slice (some ⟨g,0,none⟩) 1 1],.bool true])/\Blk w' g 196 (rV (.slice A b.length c))/\SB w' (.slice A b.length c) b/\w.heap.size<=g/\(∀ q,(Value.slice A b.length c).ownBlock=some q->w.heap.size<=q)/\Below w.heap.size w w':=by
 have h0:=(Hp.nil (fun _=>False) w).addR (rSB _ b) hb (by simp)
 refine mE 180 ?_
 refine mN h0 196 ([(Value.int .i64 0),(Value.int .i64 0),(Value.int .u64 0),(Value.slice none 0 0),(Value.slice none 0 0)]) fun g2 w2 h2=>?_
 refine mN h2 276 ([(Value.slice none 0 0)]) fun g13 w13 h13=>?_
 refine mT (xSs h13 0 276 (.tmp 10) (.tmp 173) 0 ([(Value.slice B b.length d)]) ([(Value.slice B b.length d)])) fun _ w14 h14=>?_
 refine ma h14 0 ?_
 refine mT (x_rawT h14 97 [(Value.slice B b.length d)] (by kernel_rfl) (draw_any (Value.slice B b.length d) b _ (h14.rd 0 rfl) (by omega))) ?_
 rintro _ w16 ⟨A16,c16,rfl,h16,hn16⟩
 refine mT (x_bs h16 196 ([(Value.int .i64 1),(Value.int .i64 0),(Value.int .u64 0),(Value.slice A16 b.length c16),(Value.slice none 0 0)]) 1 (by kernel_rfl)) ?_
 rintro _ w17 ⟨g17,rfl,h17⟩
 refine mD h17 [(Value.int .i64 7),(Value.slice (some ⟨g17,0,none⟩) 1 1)] (dseq_any 7 (some ⟨g17,0,none⟩) 1 1 _) (fun w18 h18=>?_)
 refine mT (xSs h18 3 196 (.tmp 2) (.tmp 178) 0 ([(Value.int .i64 2),(Value.int .i64 7),(Value.int .u64 0),(Value.slice none 0 0),(Value.slice (some ⟨g17,0,none⟩) 1 1)]) ([(Value.int .i64 2),(Value.int .i64 7),(Value.int .u64 0),(Value.slice none 0 0),(Value.slice (some ⟨g17,0,none⟩) 1 1)])) fun _ w19 h19=>?_
 refine mF (post_2 (r:=.cell 2 196) (s:=.tmp 3) (by kernel_rfl) rfl (rce (h19.at_ 3 rfl)) (rtm (Value.bool true)) ?_)
 exact ⟨g17,_,_,rfl,h19.at_ 0 rfl,h19.at_ 1 rfl,(h19.mine 0 _ rfl _ rfl).elim (fun h=>h.elim) id,fun q hq=>Nat.le_trans h14.below0.size (hn16 q hq),h19.below0⟩
end
section
open Go.RowKit Go.QT
theorem ine{a b:Nat}(h:a≠b):Value.bool ((a:Int) != (b:Int))=Value.bool true:=by
 congr 1;rw [bne_iff_ne];omega
theorem ieq{a b:Nat}(h:a=b):Value.bool ((a:Int) != (b:Int))=Value.bool false:=by
 subst h;simp
/-- The error, how many bytes follow, where they begin. -/
def szB(L:Bytes):Nat × Nat × Nat:=
 if L.length<2 then (1,0,0) else
 if nb (gb L 1)<128 then (if 2+nb (gb L 1)<=L.length then (0,nb (gb L 1),2) else (1,0,0)) else
 if nb (gb L 1)-128<1∨2<nb (gb L 1)-128 then (3,0,0) else
 if L.length<2+(nb (gb L 1)-128) then (1,0,0) else
 if getN ((L.take (2+(nb (gb L 1)-128))).drop 2)<128∨(nb (gb L 1)-128=2/\getN ((L.take (2+(nb (gb L 1)-128))).drop 2)<256) then (3,0,0) else
 if 2+(nb (gb L 1)-128)+getN ((L.take (2+(nb (gb L 1)-128))).drop 2)<=L.length then (0,getN ((L.take (2+(nb (gb L 1)-128))).drop 2),2+(nb (gb L 1)-128)) else (1,0,0)
/-- Values one behind the other. -/
def lsB(rd:Bytes->Nat ⊕ (DVal × Nat)):Nat->Bytes->Nat ⊕ List DVal
 | 0,_=>.inr []
 | f+1,l=>if l.length=0 then .inr [] else
   match rd l with
   | .inl e=>.inl e
   | .inr (v,k)=>match lsB rd f (l.drop k) with
     | .inl e=>.inl e
     | .inr r=>.inr (v::r)
/-- What some bytes are, of a kind, a tag. -/
def ptB(rd:Bytes->Nat ⊕ (DVal × Nat))(k t:Nat)(B:Bytes)(n:Nat):Nat ⊕ (DVal × Nat):=
 if k=0 then (if B.length=0∨8<B.length∨(1<B.length/\gb B 0=0) then .inl 4 else .inr (.mk 0 t (getN B) [] [],n))
 else if k=1 then .inr (.mk 1 t 0 B [],n)
 else match lsB rd B.length B with
   | .inl e=>.inl e
   | .inr ts=>.inr (.mk 2 t 0 [] ts,n)
/-- der.read: the value and how many bytes it has; or an error. m: how much deeper it may go. -/
def rdB:Nat->Bytes->Nat ⊕ (DVal × Nat)
 | 0,_=>.inl 4
 | m+1,L =>
   if (szB L).1≠0 then .inl (szB L).1 else
   if 2<nb (gb L 0) / 64∨30<nb (gb L 0) % 64 then .inl 2 else
   ptB (rdB m) (nb (gb L 0) / 64) (nb (gb L 0) % 64) ((L.take ((szB L).2.2+(szB L).2.1)).drop (szB L).2.2) ((szB L).2.2+(szB L).2.1)
/-- der.Read. -/
def RdB(L:Bytes):Nat ⊕ DVal:=
 if 4096<L.length then .inl 20 else
 match rdB 8 L with
 | .inl e=>.inl e
 | .inr (v,n)=>if n<L.length then .inl 5 else .inr v
theorem szB_ok{L:Bytes}(h:(szB L).1=0):2<=(szB L).2.2/\(szB L).2.2+(szB L).2.1<=L.length:=by
 unfold szB at h ⊢
 generalize nb (gb L 1)-128=K at *
 generalize getN ((L.take (2+K)).drop 2)=m at *
 generalize nb (gb L 1)=y at *
 split at h
 · cases h
 rename_i h1
 rw [if_neg h1]
 split at h
 · rename_i h2
   rw [if_pos h2]
   split at h
   · rename_i h3;rw [if_pos h3];exact ⟨Nat.le_refl _,h3⟩
   cases h
 rename_i h2
 rw [if_neg h2]
 split at h
 · cases h
 rename_i h3
 rw [if_neg h3]
 split at h
 · cases h
 rename_i h4
 rw [if_neg h4]
 split at h
 · cases h
 rename_i h5
 rw [if_neg h5]
 split at h
 · rename_i h6;rw [if_pos h6];exact ⟨Nat.le_add_right _ _,h6⟩
 cases h
theorem ptB_n{rd:Bytes->Nat ⊕ (DVal × Nat)}{k t n:Nat}{B:Bytes}{v:DVal}{m:Nat}(h:ptB rd k t B n=.inr (v,m)):m=n:=by
 unfold ptB at h
 split at h
 · split at h
   · cases h
   injection h with h;injection h with h1 h2;exact h2.symm
 split at h
 · injection h with h;injection h with h1 h2;exact h2.symm
 split at h
 · cases h
 injection h with h;injection h with h1 h2;exact h2.symm
theorem rdB_n{m:Nat}{L:Bytes}{v:DVal}{k:Nat}(h:rdB m L=.inr (v,k)):2<=k/\k<=L.length:=by
 cases m with
 | zero=>cases h
 | succ m =>
   rw [rdB] at h
   split at h
   · cases h
   rename_i h1
   split at h
   · cases h
   have h2:=szB_ok (L:=L) (by omega)
   have:=ptB_n h
   omega
theorem lsB_er{rd:Bytes->Nat ⊕ (DVal × Nat)}(h:∀ l e,rd l=.inl e->e≠0):∀ (f:Nat) (l:Bytes) (e:Nat),lsB rd f l=.inl e->e≠0
 | 0,_,_,hh=>by cases hh
 | f+1,l,e,hh=>by
   rw [lsB] at hh
   split at hh
   · cases hh
   split at hh
   · rename_i hr;injection hh with hh;subst hh;exact h l _ hr
   split at hh
   · rename_i hr;injection hh with hh;subst hh;exact lsB_er h f _ _ hr
   cases hh
theorem rdB_er:∀ (m:Nat) (L:Bytes) (e:Nat),rdB m L=.inl e->e≠0
 | 0,_,_,h=>by injection h with h;omega
 | m+1,L,e,h=>by
   rw [rdB] at h
   split at h
   · rename_i h1;injection h with h;omega
   split at h
   · injection h with h;omega
   unfold ptB at h
   split at h
   · split at h
     · injection h with h;omega
     cases h
   split at h
   · cases h
   split at h
   · rename_i hr;injection h with h;subst h;exact lsB_er (rdB_er m) _ _ _ hr
   cases h
/-- A list goes on behind its first values. -/
def preL(ts:List DVal):Nat ⊕ List DVal->Nat ⊕ List DVal
 | .inl e=>.inl e
 | .inr r=>.inr (ts++r)
theorem lsB_step{rd:Bytes->Nat ⊕ (DVal × Nat)}{f:Nat}{l:Bytes}{v:DVal}{k:Nat}(h0:l.length≠0)(hr:rd l=.inr (v,k))(ts:List DVal):preL ts (lsB rd (f+1) l)=preL (ts++[v]) (lsB rd f (l.drop k)):=by
 rw [lsB,if_neg h0,hr]
 simp only
 cases lsB rd f (l.drop k) with
 | inl e=>rfl
 | inr r=>show Sum.inr _=Sum.inr _;rw [List.append_assoc];rfl
theorem lsB_bad{rd:Bytes->Nat ⊕ (DVal × Nat)}{f:Nat}{l:Bytes}{e:Nat}(h0:l.length≠0)(hr:rd l=.inl e)(ts:List DVal):preL ts (lsB rd (f+1) l)=.inl e:=by
 rw [lsB,if_neg h0,hr];rfl
theorem lsB_end{rd:Bytes->Nat ⊕ (DVal × Nat)}{f:Nat}{l:Bytes}(h0:l.length=0)(ts:List DVal):preL ts (lsB rd f l)=.inr ts:=by
 cases f with
 | zero=>show Sum.inr _=_;rw [List.append_nil]
 | succ f=>rw [lsB,if_pos h0];show Sum.inr _=_;rw [List.append_nil]
/-- What der.read leaves. -/
def ReadG(w:World)(r:Nat ⊕ (DVal × Nat))(e:Ending)(w':World):Prop:=
 match r with
 | .inl c=>DPost w (.tuple #[.agg #[.int .i64 0,.int .i64 0,.int .u64 0,.slice none 0 0,.slice none 0 0],.int .i64 0,.int .i64 (c:Int)]) e w'
 | .inr (v,k)=>ReadPost w v k e w'
theorem readG_bad{w:World}{r:Nat ⊕ (DVal × Nat)}{c:Nat}(h:r=.inl c){e:Ending}{w':World}(hd:DPost w (.tuple #[.agg #[.int .i64 0,.int .i64 0,.int .u64 0,.slice none 0 0,.slice none 0 0],.int .i64 0,.int .i64 (c:Int)]) e w'):ReadG w r e w':=by subst h;exact hd
theorem readG_ok{w:World}{r:Nat ⊕ (DVal × Nat)}{v:DVal}{k:Nat}(h:r=.inr (v,k)){e:Ending}{w':World}(hd:ReadPost w v k e w'):ReadG w r e w':=by subst h;exact hd
def ReadGOk(w:World)(r:Nat ⊕ DVal)(e:Ending)(w':World):Prop:=
 match r with
 | .inl c=>DPost w (.tuple #[.agg #[.int .i64 0,.int .i64 0,.int .u64 0,.slice none 0 0,.slice none 0 0],.int .i64 (c:Int)]) e w'
 | .inr v=>ReadOk w v e w'
end
end Go.Proofs.YtaoijkhndakppaaGreat
