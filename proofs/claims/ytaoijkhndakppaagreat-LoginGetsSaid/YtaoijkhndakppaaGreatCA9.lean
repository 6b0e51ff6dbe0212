/- The walk of tick's Taker: next. -/
import Derived.Test.YtaoijkhndakppaaGreatCA8
set_option maxRecDepth 100000
set_option maxHeartbeats 4000000
namespace Go.Proofs.YtaoijkhndakppaaGreat
section
open Go.Value renaming int->iV,slice->lV,string->sV,bool->bV,agg->aV
open Go.RowKit Go.QT
/-- What bytes are in der. -/
def rV(v:Value):List Value:=[.int .i64 1,.int .i64 0,.int .u64 0,v,.slice none 0 0]
theorem vInside_any(f a u r:Int)(s:ByteArray)(K:Fin 16->UInt8)(hs:s.size<=1000000)(w:World):Calls Tryz.prog 99 #[.iface 187 (aV ([(iV .i64 f)]++vb (kl K)++[(sV s),(iV .i64 a),(iV .i64 u),(iV .i64 r)]).toArray)] w fun e w'=>∃ g A c B d,e=.returned (.tuple #[.agg #[.int .i64 2,.int .i64 2,.int .u64 0,.slice none 0 0,.slice (some ⟨g,0,none⟩) 6 6],.bool (rightM s [f,a,u,r])])/\Blk w' g 196 (nV f++rV (lV B (kl K).length d)++rV (lV A s.data.toList.length c)++nV a++nV u++nV r)/\SB w' (lV A s.data.toList.length c) s.data.toList/\SB w' (lV B (kl K).length d) (kl K)/\w.heap.size<=g/\(∀ q,(lV A s.data.toList.length c).ownBlock=some q->w.heap.size<=q)/\(∀ q,(lV B (kl K).length d).ownBlock=some q->w.heap.size<=q)/\Below w.heap.size w w':=by
 have h0:=Hp.nil (fun _=>False) w
 refine mE 180 ?_
 refine mN h0 196 ([zO,zO,(iV .u64 0),zN,zN]) fun g2 w2 h2=>?_
 refine mN h2 187 ([zO]++vb (List.replicate 16 0)++[zE,zO,zO,zO]) fun g8 w8 h8=>?_
 refine mT (xSs h8 0 187 (.tmp 5) (.tmp 28) 0 ([(zD f)]++vb (kl K)++[(sV s),(zD a),(zD u),(zD r)]) ([(zD f)]++vb (kl K)++[(sV s),(zD a),(zD u),(zD r)])) fun _ w9 h9=>?_
 refine dG h9 34 33 (fun W=>(rBlk g8 187 ([(zD f)]++vb (kl K)++[(sV s),(zD a),(zD u),(zD r)])).Φ W/\True) (fun w11 h11=>⟨h11.at_ 0 rfl,trivial⟩) ?_
 intro w11 h11
 refine dP 23 [0,3,6,9,12,15,20,22,24,26,28] ?_
 refine dLs 12 [1,4,7,10,13,16,21,23,25,27,29] (fun W hW=>hW.1) ?_
 refine dO 2 30 ?_ ?_
 ·
  refine oD h11 [(zD f)] (knum_any f _) (fun w12 h12=>⟨⟨h12.at_ 0 rfl,trivial⟩,?_⟩)
  refine dO 5 30 ?_ ?_
  ·
   refine oT (x_rawT h12 123 [(aV (vb (kl K)).toArray)] (by kernel_rfl) (kkey_any K _)) ?_
   rintro _ w13 ⟨A13,c13,rfl,h13,hn13⟩
   refine ⟨⟨h13.at_ 1 rfl,trivial⟩,?_⟩
   refine dO 8 30 ?_ ?_
   ·
    refine oT (x_rawT h13 120 [(sV s)] (by kernel_rfl) (ktext_any s _ (by omega))) ?_
    rintro _ w14 ⟨A14,c14,rfl,h14,hn14⟩
    refine ⟨⟨h14.at_ 2 rfl,trivial⟩,?_⟩
    refine dO 11 30 ?_ ?_
    ·
     refine oD h14 [(zD a)] (knum_any a _) (fun w15 h15=>⟨⟨h15.at_ 2 rfl,trivial⟩,?_⟩)
     refine dO 14 30 ?_ ?_
     ·
      refine oD h15 [(zD u)] (knum_any u _) (fun w16 h16=>⟨⟨h16.at_ 2 rfl,trivial⟩,?_⟩)
      refine dO 17 30 ?_ ?_
      ·
       refine oD h16 [(zD r)] (knum_any r _) (fun w17 h17=>⟨⟨h17.at_ 2 rfl,trivial⟩,?_⟩)
       refine dO 18 30 ?_ ?_
       ·
        refine oT (x_bs h17 196 ([zO,zO,(iV .u64 ((IntKind.u64.wrap f))),zN,zN,(zD 1),zO,(iV .u64 0),(lV A13 ((kl K).length) c13),zN,(zD 1),zO,(iV .u64 0),(lV A14 s.data.toList.length c14),zN,zO,zO,(iV .u64 ((IntKind.u64.wrap a))),zN,zN,zO,zO,(iV .u64 ((IntKind.u64.wrap u))),zN,zN,zO,zO,(iV .u64 ((IntKind.u64.wrap r))),zN,zN]) 6 (by kernel_rfl)) ?_
        rintro _ w18 ⟨g18,rfl,h18⟩
        refine ⟨⟨h18.at_ 3 rfl,trivial⟩,?_⟩
        refine dO 19 30 ?_ ?_
        ·
         refine oD h18 [(zD 2),(lV (some ⟨g18,0,none⟩) 6 6)] (dseq_any 2 (some ⟨g18,0,none⟩) 6 6 _) (fun w19 h19=>⟨⟨h19.at_ 3 rfl,trivial⟩,?_⟩)
         refine dT 30 (x_bs h19 2 ([(zD f),(zD a),(zD u),(zD r)]) 4 (by kernel_rfl)) ?_
         rintro _ w20 ⟨g20,rfl,h20⟩
         refine ⟨⟨h20.at_ 4 rfl,trivial⟩,?_⟩
         refine dT 31 (x_tiRight h20 0 rfl s (by omega) [f,a,u,r] 4 rfl rfl (by decide) (by kernel_rfl)) ?_
         rintro _ w21 ⟨rfl,h21⟩
         refine ⟨⟨h21.at_ 4 rfl,trivial⟩,?_⟩
         refine dT 32 (xSs h21 5 196 (.tmp 2) (.tmp 48) 0 ([(zD 2),(zD 2),(iV .u64 0),zN,(lV (some ⟨g18,0,none⟩) 6 6)]) ([(zD 2),(zD 2),(iV .u64 0),zN,(lV (some ⟨g18,0,none⟩) 6 6)])) ?_
         rintro _ w22 h22
         refine ⟨⟨h22.at_ 4 rfl,trivial⟩,?_⟩
         refine dN 33 ?_
         refine dX ?_
         refine mF (post_2 (r:=.cell 2 196) (s:=.tmp 3) (by kernel_rfl) rfl (rce (h22.at_ 5 rfl)) (rtm (bV (rightM s [f,a,u,r]))) ?_)
         exact ⟨g18,_,_,_,_,rfl,h22.at_ 1 rfl,h22.at_ 2 rfl,h22.at_ 3 rfl,(h22.mine 1 _ rfl _ rfl).elim (fun h=>h.elim) id,fun q hq=>Nat.le_trans h13.below0.size (hn14 q hq),fun q hq=>Nat.le_trans h12.below0.size (hn13 q hq),h22.below0⟩
        refine oT (x_bs h18 2 ([(zD f),(zD a),(zD u),(zD r)]) 4 (by kernel_rfl)) ?_
        rintro _ w23 ⟨g23,rfl,h23⟩
        refine ⟨⟨h23.at_ 4 rfl,trivial⟩,?_⟩
        refine dD 19 h23 [(zD 2),(lV (some ⟨g18,0,none⟩) 6 6)] (dseq_any 2 (some ⟨g18,0,none⟩) 6 6 _) (fun w24 h24=>⟨⟨h24.at_ 4 rfl,trivial⟩,?_⟩)
        refine dT 31 (x_tiRight h24 0 rfl s (by omega) [f,a,u,r] 4 rfl rfl (by decide) (by kernel_rfl)) ?_
        rintro _ w25 ⟨rfl,h25⟩
        refine ⟨⟨h25.at_ 4 rfl,trivial⟩,?_⟩
        refine dT 32 (xSs h25 5 196 (.tmp 2) (.tmp 48) 0 ([(zD 2),(zD 2),(iV .u64 0),zN,(lV (some ⟨g18,0,none⟩) 6 6)]) ([(zD 2),(zD 2),(iV .u64 0),zN,(lV (some ⟨g18,0,none⟩) 6 6)])) ?_
        rintro _ w26 h26
        refine ⟨⟨h26.at_ 4 rfl,trivial⟩,?_⟩
        refine dN 33 ?_
        refine dX ?_
        refine mF (post_2 (r:=.cell 2 196) (s:=.tmp 3) (by kernel_rfl) rfl (rce (h26.at_ 5 rfl)) (rtm (bV (rightM s [f,a,u,r]))) ?_)
        exact ⟨g18,_,_,_,_,rfl,h26.at_ 1 rfl,h26.at_ 2 rfl,h26.at_ 3 rfl,(h26.mine 1 _ rfl _ rfl).elim (fun h=>h.elim) id,fun q hq=>Nat.le_trans h13.below0.size (hn14 q hq),fun q hq=>Nat.le_trans h12.below0.size (hn13 q hq),h26.below0⟩
       refine oT (x_bs h17 2 ([(zD f),(zD a),(zD u),(zD r)]) 4 (by kernel_rfl)) ?_
       rintro _ w27 ⟨g27,rfl,h27⟩
       refine ⟨⟨h27.at_ 3 rfl,trivial⟩,?_⟩
       refine dT 18 (x_bs h27 196 ([zO,zO,(iV .u64 ((IntKind.u64.wrap f))),zN,zN,(zD 1),zO,(iV .u64 0),(lV A13 ((kl K).length) c13),zN,(zD 1),zO,(iV .u64 0),(lV A14 s.data.toList.length c14),zN,zO,zO,(iV .u64 ((IntKind.u64.wrap a))),zN,zN,zO,zO,(iV .u64 ((IntKind.u64.wrap u))),zN,zN,zO,zO,(iV .u64 ((IntKind.u64.wrap r))),zN,zN]) 6 (by kernel_rfl)) ?_
       rintro _ w28 ⟨g28,rfl,h28⟩
       refine ⟨⟨h28.at_ 4 rfl,trivial⟩,?_⟩
       refine dD 19 h28 [(zD 2),(lV (some ⟨g28,0,none⟩) 6 6)] (dseq_any 2 (some ⟨g28,0,none⟩) 6 6 _) (fun w29 h29=>⟨⟨h29.at_ 4 rfl,trivial⟩,?_⟩)
       refine dT 31 (x_tiRight h29 1 rfl s (by omega) [f,a,u,r] 4 rfl rfl (by decide) (by kernel_rfl)) ?_
       rintro _ w30 ⟨rfl,h30⟩
       refine ⟨⟨h30.at_ 4 rfl,trivial⟩,?_⟩
       refine dT 32 (xSs h30 5 196 (.tmp 2) (.tmp 48) 0 ([(zD 2),(zD 2),(iV .u64 0),zN,(lV (some ⟨g28,0,none⟩) 6 6)]) ([(zD 2),(zD 2),(iV .u64 0),zN,(lV (some ⟨g28,0,none⟩) 6 6)])) ?_
       rintro _ w31 h31
       refine ⟨⟨h31.at_ 4 rfl,trivial⟩,?_⟩
       refine dN 33 ?_
       refine dX ?_
       refine mF (post_2 (r:=.cell 2 196) (s:=.tmp 3) (by kernel_rfl) rfl (rce (h31.at_ 5 rfl)) (rtm (bV (rightM s [f,a,u,r]))) ?_)
       exact ⟨g28,_,_,_,_,rfl,h31.at_ 0 rfl,h31.at_ 2 rfl,h31.at_ 3 rfl,(h31.mine 0 _ rfl _ rfl).elim (fun h=>h.elim) id,fun q hq=>Nat.le_trans h13.below0.size (hn14 q hq),fun q hq=>Nat.le_trans h12.below0.size (hn13 q hq),h31.below0⟩
      refine oT (x_bs h16 2 ([(zD f),(zD a),(zD u),(zD r)]) 4 (by kernel_rfl)) ?_
      rintro _ w32 ⟨g32,rfl,h32⟩
      refine ⟨⟨h32.at_ 3 rfl,trivial⟩,?_⟩
      refine dD 17 h32 [(zD r)] (knum_any r _) (fun w33 h33=>⟨⟨h33.at_ 3 rfl,trivial⟩,?_⟩)
      refine dT 18 (x_bs h33 196 ([zO,zO,(iV .u64 ((IntKind.u64.wrap f))),zN,zN,(zD 1),zO,(iV .u64 0),(lV A13 ((kl K).length) c13),zN,(zD 1),zO,(iV .u64 0),(lV A14 s.data.toList.length c14),zN,zO,zO,(iV .u64 ((IntKind.u64.wrap a))),zN,zN,zO,zO,(iV .u64 ((IntKind.u64.wrap u))),zN,zN,zO,zO,(iV .u64 ((IntKind.u64.wrap r))),zN,zN]) 6 (by kernel_rfl)) ?_
      rintro _ w34 ⟨g34,rfl,h34⟩
      refine ⟨⟨h34.at_ 4 rfl,trivial⟩,?_⟩
      refine dD 19 h34 [(zD 2),(lV (some ⟨g34,0,none⟩) 6 6)] (dseq_any 2 (some ⟨g34,0,none⟩) 6 6 _) (fun w35 h35=>⟨⟨h35.at_ 4 rfl,trivial⟩,?_⟩)
      refine dT 31 (x_tiRight h35 1 rfl s (by omega) [f,a,u,r] 4 rfl rfl (by decide) (by kernel_rfl)) ?_
      rintro _ w36 ⟨rfl,h36⟩
      refine ⟨⟨h36.at_ 4 rfl,trivial⟩,?_⟩
      refine dT 32 (xSs h36 5 196 (.tmp 2) (.tmp 48) 0 ([(zD 2),(zD 2),(iV .u64 0),zN,(lV (some ⟨g34,0,none⟩) 6 6)]) ([(zD 2),(zD 2),(iV .u64 0),zN,(lV (some ⟨g34,0,none⟩) 6 6)])) ?_
      rintro _ w37 h37
      refine ⟨⟨h37.at_ 4 rfl,trivial⟩,?_⟩
      refine dN 33 ?_
      refine dX ?_
      refine mF (post_2 (r:=.cell 2 196) (s:=.tmp 3) (by kernel_rfl) rfl (rce (h37.at_ 5 rfl)) (rtm (bV (rightM s [f,a,u,r]))) ?_)
      exact ⟨g34,_,_,_,_,rfl,h37.at_ 0 rfl,h37.at_ 2 rfl,h37.at_ 3 rfl,(h37.mine 0 _ rfl _ rfl).elim (fun h=>h.elim) id,fun q hq=>Nat.le_trans h13.below0.size (hn14 q hq),fun q hq=>Nat.le_trans h12.below0.size (hn13 q hq),h37.below0⟩
     refine oT (x_bs h15 2 ([(zD f),(zD a),(zD u),(zD r)]) 4 (by kernel_rfl)) ?_
     rintro _ w38 ⟨g38,rfl,h38⟩
     refine ⟨⟨h38.at_ 3 rfl,trivial⟩,?_⟩
     refine dD 14 h38 [(zD u)] (knum_any u _) (fun w39 h39=>⟨⟨h39.at_ 3 rfl,trivial⟩,?_⟩)
     refine dD 17 h39 [(zD r)] (knum_any r _) (fun w40 h40=>⟨⟨h40.at_ 3 rfl,trivial⟩,?_⟩)
     refine dT 18 (x_bs h40 196 ([zO,zO,(iV .u64 ((IntKind.u64.wrap f))),zN,zN,(zD 1),zO,(iV .u64 0),(lV A13 ((kl K).length) c13),zN,(zD 1),zO,(iV .u64 0),(lV A14 s.data.toList.length c14),zN,zO,zO,(iV .u64 ((IntKind.u64.wrap a))),zN,zN,zO,zO,(iV .u64 ((IntKind.u64.wrap u))),zN,zN,zO,zO,(iV .u64 ((IntKind.u64.wrap r))),zN,zN]) 6 (by kernel_rfl)) ?_
     rintro _ w41 ⟨g41,rfl,h41⟩
     refine ⟨⟨h41.at_ 4 rfl,trivial⟩,?_⟩
     refine dD 19 h41 [(zD 2),(lV (some ⟨g41,0,none⟩) 6 6)] (dseq_any 2 (some ⟨g41,0,none⟩) 6 6 _) (fun w42 h42=>⟨⟨h42.at_ 4 rfl,trivial⟩,?_⟩)
     refine dT 31 (x_tiRight h42 1 rfl s (by omega) [f,a,u,r] 4 rfl rfl (by decide) (by kernel_rfl)) ?_
     rintro _ w43 ⟨rfl,h43⟩
     refine ⟨⟨h43.at_ 4 rfl,trivial⟩,?_⟩
     refine dT 32 (xSs h43 5 196 (.tmp 2) (.tmp 48) 0 ([(zD 2),(zD 2),(iV .u64 0),zN,(lV (some ⟨g41,0,none⟩) 6 6)]) ([(zD 2),(zD 2),(iV .u64 0),zN,(lV (some ⟨g41,0,none⟩) 6 6)])) ?_
     rintro _ w44 h44
     refine ⟨⟨h44.at_ 4 rfl,trivial⟩,?_⟩
     refine dN 33 ?_
     refine dX ?_
     refine mF (post_2 (r:=.cell 2 196) (s:=.tmp 3) (by kernel_rfl) rfl (rce (h44.at_ 5 rfl)) (rtm (bV (rightM s [f,a,u,r]))) ?_)
     exact ⟨g41,_,_,_,_,rfl,h44.at_ 0 rfl,h44.at_ 2 rfl,h44.at_ 3 rfl,(h44.mine 0 _ rfl _ rfl).elim (fun h=>h.elim) id,fun q hq=>Nat.le_trans h13.below0.size (hn14 q hq),fun q hq=>Nat.le_trans h12.below0.size (hn13 q hq),h44.below0⟩
    refine oT (x_bs h14 2 ([(zD f),(zD a),(zD u),(zD r)]) 4 (by kernel_rfl)) ?_
    rintro _ w45 ⟨g45,rfl,h45⟩
    refine ⟨⟨h45.at_ 3 rfl,trivial⟩,?_⟩
    refine dD 11 h45 [(zD a)] (knum_any a _) (fun w46 h46=>⟨⟨h46.at_ 3 rfl,trivial⟩,?_⟩)
    refine dD 14 h46 [(zD u)] (knum_any u _) (fun w47 h47=>⟨⟨h47.at_ 3 rfl,trivial⟩,?_⟩)
    refine dD 17 h47 [(zD r)] (knum_any r _) (fun w48 h48=>⟨⟨h48.at_ 3 rfl,trivial⟩,?_⟩)
    refine dT 18 (x_bs h48 196 ([zO,zO,(iV .u64 ((IntKind.u64.wrap f))),zN,zN,(zD 1),zO,(iV .u64 0),(lV A13 ((kl K).length) c13),zN,(zD 1),zO,(iV .u64 0),(lV A14 s.data.toList.length c14),zN,zO,zO,(iV .u64 ((IntKind.u64.wrap a))),zN,zN,zO,zO,(iV .u64 ((IntKind.u64.wrap u))),zN,zN,zO,zO,(iV .u64 ((IntKind.u64.wrap r))),zN,zN]) 6 (by kernel_rfl)) ?_
    rintro _ w49 ⟨g49,rfl,h49⟩
    refine ⟨⟨h49.at_ 4 rfl,trivial⟩,?_⟩
    refine dD 19 h49 [(zD 2),(lV (some ⟨g49,0,none⟩) 6 6)] (dseq_any 2 (some ⟨g49,0,none⟩) 6 6 _) (fun w50 h50=>⟨⟨h50.at_ 4 rfl,trivial⟩,?_⟩)
    refine dT 31 (x_tiRight h50 1 rfl s (by omega) [f,a,u,r] 4 rfl rfl (by decide) (by kernel_rfl)) ?_
    rintro _ w51 ⟨rfl,h51⟩
    refine ⟨⟨h51.at_ 4 rfl,trivial⟩,?_⟩
    refine dT 32 (xSs h51 5 196 (.tmp 2) (.tmp 48) 0 ([(zD 2),(zD 2),(iV .u64 0),zN,(lV (some ⟨g49,0,none⟩) 6 6)]) ([(zD 2),(zD 2),(iV .u64 0),zN,(lV (some ⟨g49,0,none⟩) 6 6)])) ?_
    rintro _ w52 h52
    refine ⟨⟨h52.at_ 4 rfl,trivial⟩,?_⟩
    refine dN 33 ?_
    refine dX ?_
    refine mF (post_2 (r:=.cell 2 196) (s:=.tmp 3) (by kernel_rfl) rfl (rce (h52.at_ 5 rfl)) (rtm (bV (rightM s [f,a,u,r]))) ?_)
    exact ⟨g49,_,_,_,_,rfl,h52.at_ 0 rfl,h52.at_ 2 rfl,h52.at_ 3 rfl,(h52.mine 0 _ rfl _ rfl).elim (fun h=>h.elim) id,fun q hq=>Nat.le_trans h13.below0.size (hn14 q hq),fun q hq=>Nat.le_trans h12.below0.size (hn13 q hq),h52.below0⟩
   refine oT (x_bs h13 2 ([(zD f),(zD a),(zD u),(zD r)]) 4 (by kernel_rfl)) ?_
   rintro _ w53 ⟨g53,rfl,h53⟩
   refine ⟨⟨h53.at_ 2 rfl,trivial⟩,?_⟩
   refine dT 8 (x_rawT h53 120 [(sV s)] (by kernel_rfl) (ktext_any s _ (by omega))) ?_
   rintro _ w54 ⟨A54,c54,rfl,h54,hn54⟩
   refine ⟨⟨h54.at_ 3 rfl,trivial⟩,?_⟩
   refine dD 11 h54 [(zD a)] (knum_any a _) (fun w55 h55=>⟨⟨h55.at_ 3 rfl,trivial⟩,?_⟩)
   refine dD 14 h55 [(zD u)] (knum_any u _) (fun w56 h56=>⟨⟨h56.at_ 3 rfl,trivial⟩,?_⟩)
   refine dD 17 h56 [(zD r)] (knum_any r _) (fun w57 h57=>⟨⟨h57.at_ 3 rfl,trivial⟩,?_⟩)
   refine dT 18 (x_bs h57 196 ([zO,zO,(iV .u64 ((IntKind.u64.wrap f))),zN,zN,(zD 1),zO,(iV .u64 0),(lV A13 ((kl K).length) c13),zN,(zD 1),zO,(iV .u64 0),(lV A54 s.data.toList.length c54),zN,zO,zO,(iV .u64 ((IntKind.u64.wrap a))),zN,zN,zO,zO,(iV .u64 ((IntKind.u64.wrap u))),zN,zN,zO,zO,(iV .u64 ((IntKind.u64.wrap r))),zN,zN]) 6 (by kernel_rfl)) ?_
   rintro _ w58 ⟨g58,rfl,h58⟩
   refine ⟨⟨h58.at_ 4 rfl,trivial⟩,?_⟩
   refine dD 19 h58 [(zD 2),(lV (some ⟨g58,0,none⟩) 6 6)] (dseq_any 2 (some ⟨g58,0,none⟩) 6 6 _) (fun w59 h59=>⟨⟨h59.at_ 4 rfl,trivial⟩,?_⟩)
   refine dT 31 (x_tiRight h59 2 rfl s (by omega) [f,a,u,r] 4 rfl rfl (by decide) (by kernel_rfl)) ?_
   rintro _ w60 ⟨rfl,h60⟩
   refine ⟨⟨h60.at_ 4 rfl,trivial⟩,?_⟩
   refine dT 32 (xSs h60 5 196 (.tmp 2) (.tmp 48) 0 ([(zD 2),(zD 2),(iV .u64 0),zN,(lV (some ⟨g58,0,none⟩) 6 6)]) ([(zD 2),(zD 2),(iV .u64 0),zN,(lV (some ⟨g58,0,none⟩) 6 6)])) ?_
   rintro _ w61 h61
   refine ⟨⟨h61.at_ 4 rfl,trivial⟩,?_⟩
   refine dN 33 ?_
   refine dX ?_
   refine mF (post_2 (r:=.cell 2 196) (s:=.tmp 3) (by kernel_rfl) rfl (rce (h61.at_ 5 rfl)) (rtm (bV (rightM s [f,a,u,r]))) ?_)
   exact ⟨g58,_,_,_,_,rfl,h61.at_ 0 rfl,h61.at_ 1 rfl,h61.at_ 3 rfl,(h61.mine 0 _ rfl _ rfl).elim (fun h=>h.elim) id,fun q hq=>Nat.le_trans h53.below0.size (hn54 q hq),fun q hq=>Nat.le_trans h12.below0.size (hn13 q hq),h61.below0⟩
  refine oT (x_bs h12 2 ([(zD f),(zD a),(zD u),(zD r)]) 4 (by kernel_rfl)) ?_
  rintro _ w62 ⟨g62,rfl,h62⟩
  refine ⟨⟨h62.at_ 1 rfl,trivial⟩,?_⟩
  refine dT 5 (x_rawT h62 123 [(aV (vb (kl K)).toArray)] (by kernel_rfl) (kkey_any K _)) ?_
  rintro _ w63 ⟨A63,c63,rfl,h63,hn63⟩
  refine ⟨⟨h63.at_ 2 rfl,trivial⟩,?_⟩
  refine dT 8 (x_rawT h63 120 [(sV s)] (by kernel_rfl) (ktext_any s _ (by omega))) ?_
  rintro _ w64 ⟨A64,c64,rfl,h64,hn64⟩
  refine ⟨⟨h64.at_ 3 rfl,trivial⟩,?_⟩
  refine dD 11 h64 [(zD a)] (knum_any a _) (fun w65 h65=>⟨⟨h65.at_ 3 rfl,trivial⟩,?_⟩)
  refine dD 14 h65 [(zD u)] (knum_any u _) (fun w66 h66=>⟨⟨h66.at_ 3 rfl,trivial⟩,?_⟩)
  refine dD 17 h66 [(zD r)] (knum_any r _) (fun w67 h67=>⟨⟨h67.at_ 3 rfl,trivial⟩,?_⟩)
  refine dT 18 (x_bs h67 196 ([zO,zO,(iV .u64 ((IntKind.u64.wrap f))),zN,zN,(zD 1),zO,(iV .u64 0),(lV A63 ((kl K).length) c63),zN,(zD 1),zO,(iV .u64 0),(lV A64 s.data.toList.length c64),zN,zO,zO,(iV .u64 ((IntKind.u64.wrap a))),zN,zN,zO,zO,(iV .u64 ((IntKind.u64.wrap u))),zN,zN,zO,zO,(iV .u64 ((IntKind.u64.wrap r))),zN,zN]) 6 (by kernel_rfl)) ?_
  rintro _ w68 ⟨g68,rfl,h68⟩
  refine ⟨⟨h68.at_ 4 rfl,trivial⟩,?_⟩
  refine dD 19 h68 [(zD 2),(lV (some ⟨g68,0,none⟩) 6 6)] (dseq_any 2 (some ⟨g68,0,none⟩) 6 6 _) (fun w69 h69=>⟨⟨h69.at_ 4 rfl,trivial⟩,?_⟩)
  refine dT 31 (x_tiRight h69 3 rfl s (by omega) [f,a,u,r] 4 rfl rfl (by decide) (by kernel_rfl)) ?_
  rintro _ w70 ⟨rfl,h70⟩
  refine ⟨⟨h70.at_ 4 rfl,trivial⟩,?_⟩
  refine dT 32 (xSs h70 5 196 (.tmp 2) (.tmp 48) 0 ([(zD 2),(zD 2),(iV .u64 0),zN,(lV (some ⟨g68,0,none⟩) 6 6)]) ([(zD 2),(zD 2),(iV .u64 0),zN,(lV (some ⟨g68,0,none⟩) 6 6)])) ?_
  rintro _ w71 h71
  refine ⟨⟨h71.at_ 4 rfl,trivial⟩,?_⟩
  refine dN 33 ?_
  refine dX ?_
  refine mF (post_2 (r:=.cell 2 196) (s:=.tmp 3) (by kernel_rfl) rfl (rce (h71.at_ 5 rfl)) (rtm (bV (rightM s [f,a,u,r]))) ?_)
  exact ⟨g68,_,_,_,_,rfl,h71.at_ 0 rfl,h71.at_ 1 rfl,h71.at_ 2 rfl,(h71.mine 0 _ rfl _ rfl).elim (fun h=>h.elim) id,fun q hq=>Nat.le_trans h63.below0.size (hn64 q hq),fun q hq=>Nat.le_trans h62.below0.size (hn63 q hq),h71.below0⟩
 refine oT (x_bs h11 2 ([(zD f),(zD a),(zD u),(zD r)]) 4 (by kernel_rfl)) ?_
 rintro _ w72 ⟨g72,rfl,h72⟩
 refine ⟨⟨h72.at_ 1 rfl,trivial⟩,?_⟩
 refine dD 2 h72 [(zD f)] (knum_any f _) (fun w73 h73=>⟨⟨h73.at_ 1 rfl,trivial⟩,?_⟩)
 refine dT 5 (x_rawT h73 123 [(aV (vb (kl K)).toArray)] (by kernel_rfl) (kkey_any K _)) ?_
 rintro _ w74 ⟨A74,c74,rfl,h74,hn74⟩
 refine ⟨⟨h74.at_ 2 rfl,trivial⟩,?_⟩
 refine dT 8 (x_rawT h74 120 [(sV s)] (by kernel_rfl) (ktext_any s _ (by omega))) ?_
 rintro _ w75 ⟨A75,c75,rfl,h75,hn75⟩
 refine ⟨⟨h75.at_ 3 rfl,trivial⟩,?_⟩
 refine dD 11 h75 [(zD a)] (knum_any a _) (fun w76 h76=>⟨⟨h76.at_ 3 rfl,trivial⟩,?_⟩)
 refine dD 14 h76 [(zD u)] (knum_any u _) (fun w77 h77=>⟨⟨h77.at_ 3 rfl,trivial⟩,?_⟩)
 refine dD 17 h77 [(zD r)] (knum_any r _) (fun w78 h78=>⟨⟨h78.at_ 3 rfl,trivial⟩,?_⟩)
 refine dT 18 (x_bs h78 196 ([zO,zO,(iV .u64 ((IntKind.u64.wrap f))),zN,zN,(zD 1),zO,(iV .u64 0),(lV A74 ((kl K).length) c74),zN,(zD 1),zO,(iV .u64 0),(lV A75 s.data.toList.length c75),zN,zO,zO,(iV .u64 ((IntKind.u64.wrap a))),zN,zN,zO,zO,(iV .u64 ((IntKind.u64.wrap u))),zN,zN,zO,zO,(iV .u64 ((IntKind.u64.wrap r))),zN,zN]) 6 (by kernel_rfl)) ?_
 rintro _ w79 ⟨g79,rfl,h79⟩
 refine ⟨⟨h79.at_ 4 rfl,trivial⟩,?_⟩
 refine dD 19 h79 [(zD 2),(lV (some ⟨g79,0,none⟩) 6 6)] (dseq_any 2 (some ⟨g79,0,none⟩) 6 6 _) (fun w80 h80=>⟨⟨h80.at_ 4 rfl,trivial⟩,?_⟩)
 refine dT 31 (x_tiRight h80 3 rfl s (by omega) [f,a,u,r] 4 rfl rfl (by decide) (by kernel_rfl)) ?_
 rintro _ w81 ⟨rfl,h81⟩
 refine ⟨⟨h81.at_ 4 rfl,trivial⟩,?_⟩
 refine dT 32 (xSs h81 5 196 (.tmp 2) (.tmp 48) 0 ([(zD 2),(zD 2),(iV .u64 0),zN,(lV (some ⟨g79,0,none⟩) 6 6)]) ([(zD 2),(zD 2),(iV .u64 0),zN,(lV (some ⟨g79,0,none⟩) 6 6)])) ?_
 rintro _ w82 h82
 refine ⟨⟨h82.at_ 4 rfl,trivial⟩,?_⟩
 refine dN 33 ?_
 refine dX ?_
 refine mF (post_2 (r:=.cell 2 196) (s:=.tmp 3) (by kernel_rfl) rfl (rce (h82.at_ 5 rfl)) (rtm (bV (rightM s [f,a,u,r]))) ?_)
 exact ⟨g79,_,_,_,_,rfl,h82.at_ 0 rfl,h82.at_ 1 rfl,h82.at_ 2 rfl,(h82.mine 0 _ rfl _ rfl).elim (fun h=>h.elim) id,fun q hq=>Nat.le_trans h74.below0.size (hn75 q hq),fun q hq=>Nat.le_trans h73.below0.size (hn74 q hq),h82.below0⟩
theorem vReply_any(f n a u r:Int)(s:ByteArray)(K:Fin 16->UInt8)(hs:s.size<=1000000)(w:World):Calls Tryz.prog 99 #[.iface 211 (aV ([(iV .i64 f)]++vb (kl K)++[(iV .i64 n),(sV s),(iV .i64 a),(iV .i64 u),(iV .i64 r)]).toArray)] w fun e w'=>∃ g A c B d,e=.returned (.tuple #[.agg #[.int .i64 2,.int .i64 3,.int .u64 0,.slice none 0 0,.slice (some ⟨g,0,none⟩) 7 7],.bool (rightM s [f,n,a,u,r])])/\Blk w' g 196 (nV f++rV (lV B (kl K).length d)++nV n++rV (lV A s.data.toList.length c)++nV a++nV u++nV r)/\SB w' (lV A s.data.toList.length c) s.data.toList/\SB w' (lV B (kl K).length d) (kl K)/\w.heap.size<=g/\(∀ q,(lV A s.data.toList.length c).ownBlock=some q->w.heap.size<=q)/\(∀ q,(lV B (kl K).length d).ownBlock=some q->w.heap.size<=q)/\Below w.heap.size w w':=by
 have h0:=Hp.nil (fun _=>False) w
 refine mE 180 ?_
 refine mN h0 196 ([zO,zO,(iV .u64 0),zN,zN]) fun g2 w2 h2=>?_
 refine mN h2 211 ([zO]++vb (List.replicate 16 0)++[zO,zE,zO,zO,zO]) fun g9 w9 h9=>?_
 refine mT (xSs h9 0 211 (.tmp 6) (.tmp 63) 0 ([(zD f)]++vb (kl K)++[(zD n),(sV s),(zD a),(zD u),(zD r)]) ([(zD f)]++vb (kl K)++[(zD n),(sV s),(zD a),(zD u),(zD r)])) fun _ w10 h10=>?_
 refine dG h10 39 38 (fun W=>(rBlk g9 211 ([(zD f)]++vb (kl K)++[(zD n),(sV s),(zD a),(zD u),(zD r)])).Φ W/\True) (fun w12 h12=>⟨h12.at_ 0 rfl,trivial⟩) ?_
 intro w12 h12
 refine dP 26 [0,3,6,9,12,15,18,23,25,27,29,31,33] ?_
 refine dLs 13 [1,4,7,10,13,16,19,24,26,28,30,32,34] (fun W hW=>hW.1) ?_
 refine dO 2 35 ?_ ?_
 ·
  refine oD h12 [(zD f)] (knum_any f _) (fun w13 h13=>⟨⟨h13.at_ 0 rfl,trivial⟩,?_⟩)
  refine dO 5 35 ?_ ?_
  ·
   refine oT (x_rawT h13 123 [(aV (vb (kl K)).toArray)] (by kernel_rfl) (kkey_any K _)) ?_
   rintro _ w14 ⟨A14,c14,rfl,h14,hn14⟩
   refine ⟨⟨h14.at_ 1 rfl,trivial⟩,?_⟩
   refine dO 8 35 ?_ ?_
   ·
    refine oD h14 [(zD n)] (knum_any n _) (fun w15 h15=>⟨⟨h15.at_ 1 rfl,trivial⟩,?_⟩)
    refine dO 11 35 ?_ ?_
    ·
     refine oT (x_rawT h15 120 [(sV s)] (by kernel_rfl) (ktext_any s _ (by omega))) ?_
     rintro _ w16 ⟨A16,c16,rfl,h16,hn16⟩
     refine ⟨⟨h16.at_ 2 rfl,trivial⟩,?_⟩
     refine dO 14 35 ?_ ?_
     ·
      refine oD h16 [(zD a)] (knum_any a _) (fun w17 h17=>⟨⟨h17.at_ 2 rfl,trivial⟩,?_⟩)
      refine dO 17 35 ?_ ?_
      ·
       refine oD h17 [(zD u)] (knum_any u _) (fun w18 h18=>⟨⟨h18.at_ 2 rfl,trivial⟩,?_⟩)
       refine dO 20 35 ?_ ?_
       ·
        refine oD h18 [(zD r)] (knum_any r _) (fun w19 h19=>⟨⟨h19.at_ 2 rfl,trivial⟩,?_⟩)
        refine dO 21 35 ?_ ?_
        ·
         refine oT (x_bs h19 196 ([zO,zO,(iV .u64 ((IntKind.u64.wrap f))),zN,zN,(zD 1),zO,(iV .u64 0),(lV A14 ((kl K).length) c14),zN,zO,zO,(iV .u64 ((IntKind.u64.wrap n))),zN,zN,(zD 1),zO,(iV .u64 0),(lV A16 s.data.toList.length c16),zN,zO,zO,(iV .u64 ((IntKind.u64.wrap a))),zN,zN,zO,zO,(iV .u64 ((IntKind.u64.wrap u))),zN,zN,zO,zO,(iV .u64 ((IntKind.u64.wrap r))),zN,zN]) 7 (by kernel_rfl)) ?_
         rintro _ w20 ⟨g20,rfl,h20⟩
         refine ⟨⟨h20.at_ 3 rfl,trivial⟩,?_⟩
         refine dO 22 35 ?_ ?_
         ·
          refine oD h20 [(zD 3),(lV (some ⟨g20,0,none⟩) 7 7)] (dseq_any 3 (some ⟨g20,0,none⟩) 7 7 _) (fun w21 h21=>⟨⟨h21.at_ 3 rfl,trivial⟩,?_⟩)
          refine dT 35 (x_bs h21 2 ([(zD f),(zD n),(zD a),(zD u),(zD r)]) 5 (by kernel_rfl)) ?_
          rintro _ w22 ⟨g22,rfl,h22⟩
          refine ⟨⟨h22.at_ 4 rfl,trivial⟩,?_⟩
          refine dT 36 (x_tiRight h22 0 rfl s (by omega) [f,n,a,u,r] 5 rfl rfl (by decide) (by kernel_rfl)) ?_
          rintro _ w23 ⟨rfl,h23⟩
          refine ⟨⟨h23.at_ 4 rfl,trivial⟩,?_⟩
          refine dT 37 (xSs h23 5 196 (.tmp 2) (.tmp 86) 0 ([(zD 2),(zD 3),(iV .u64 0),zN,(lV (some ⟨g20,0,none⟩) 7 7)]) ([(zD 2),(zD 3),(iV .u64 0),zN,(lV (some ⟨g20,0,none⟩) 7 7)])) ?_
          rintro _ w24 h24
          refine ⟨⟨h24.at_ 4 rfl,trivial⟩,?_⟩
          refine dN 38 ?_
          refine dX ?_
          refine mF (post_2 (r:=.cell 2 196) (s:=.tmp 3) (by kernel_rfl) rfl (rce (h24.at_ 5 rfl)) (rtm (bV (rightM s [f,n,a,u,r]))) ?_)
          exact ⟨g20,_,_,_,_,rfl,h24.at_ 1 rfl,h24.at_ 2 rfl,h24.at_ 3 rfl,(h24.mine 1 _ rfl _ rfl).elim (fun h=>h.elim) id,fun q hq=>Nat.le_trans h15.below0.size (hn16 q hq),fun q hq=>Nat.le_trans h13.below0.size (hn14 q hq),h24.below0⟩
         refine oT (x_bs h20 2 ([(zD f),(zD n),(zD a),(zD u),(zD r)]) 5 (by kernel_rfl)) ?_
         rintro _ w25 ⟨g25,rfl,h25⟩
         refine ⟨⟨h25.at_ 4 rfl,trivial⟩,?_⟩
         refine dD 22 h25 [(zD 3),(lV (some ⟨g20,0,none⟩) 7 7)] (dseq_any 3 (some ⟨g20,0,none⟩) 7 7 _) (fun w26 h26=>⟨⟨h26.at_ 4 rfl,trivial⟩,?_⟩)
         refine dT 36 (x_tiRight h26 0 rfl s (by omega) [f,n,a,u,r] 5 rfl rfl (by decide) (by kernel_rfl)) ?_
         rintro _ w27 ⟨rfl,h27⟩
         refine ⟨⟨h27.at_ 4 rfl,trivial⟩,?_⟩
         refine dT 37 (xSs h27 5 196 (.tmp 2) (.tmp 86) 0 ([(zD 2),(zD 3),(iV .u64 0),zN,(lV (some ⟨g20,0,none⟩) 7 7)]) ([(zD 2),(zD 3),(iV .u64 0),zN,(lV (some ⟨g20,0,none⟩) 7 7)])) ?_
         rintro _ w28 h28
         refine ⟨⟨h28.at_ 4 rfl,trivial⟩,?_⟩
         refine dN 38 ?_
         refine dX ?_
         refine mF (post_2 (r:=.cell 2 196) (s:=.tmp 3) (by kernel_rfl) rfl (rce (h28.at_ 5 rfl)) (rtm (bV (rightM s [f,n,a,u,r]))) ?_)
         exact ⟨g20,_,_,_,_,rfl,h28.at_ 1 rfl,h28.at_ 2 rfl,h28.at_ 3 rfl,(h28.mine 1 _ rfl _ rfl).elim (fun h=>h.elim) id,fun q hq=>Nat.le_trans h15.below0.size (hn16 q hq),fun q hq=>Nat.le_trans h13.below0.size (hn14 q hq),h28.below0⟩
        refine oT (x_bs h19 2 ([(zD f),(zD n),(zD a),(zD u),(zD r)]) 5 (by kernel_rfl)) ?_
        rintro _ w29 ⟨g29,rfl,h29⟩
        refine ⟨⟨h29.at_ 3 rfl,trivial⟩,?_⟩
        refine dT 21 (x_bs h29 196 ([zO,zO,(iV .u64 ((IntKind.u64.wrap f))),zN,zN,(zD 1),zO,(iV .u64 0),(lV A14 ((kl K).length) c14),zN,zO,zO,(iV .u64 ((IntKind.u64.wrap n))),zN,zN,(zD 1),zO,(iV .u64 0),(lV A16 s.data.toList.length c16),zN,zO,zO,(iV .u64 ((IntKind.u64.wrap a))),zN,zN,zO,zO,(iV .u64 ((IntKind.u64.wrap u))),zN,zN,zO,zO,(iV .u64 ((IntKind.u64.wrap r))),zN,zN]) 7 (by kernel_rfl)) ?_
        rintro _ w30 ⟨g30,rfl,h30⟩
        refine ⟨⟨h30.at_ 4 rfl,trivial⟩,?_⟩
        refine dD 22 h30 [(zD 3),(lV (some ⟨g30,0,none⟩) 7 7)] (dseq_any 3 (some ⟨g30,0,none⟩) 7 7 _) (fun w31 h31=>⟨⟨h31.at_ 4 rfl,trivial⟩,?_⟩)
        refine dT 36 (x_tiRight h31 1 rfl s (by omega) [f,n,a,u,r] 5 rfl rfl (by decide) (by kernel_rfl)) ?_
        rintro _ w32 ⟨rfl,h32⟩
        refine ⟨⟨h32.at_ 4 rfl,trivial⟩,?_⟩
        refine dT 37 (xSs h32 5 196 (.tmp 2) (.tmp 86) 0 ([(zD 2),(zD 3),(iV .u64 0),zN,(lV (some ⟨g30,0,none⟩) 7 7)]) ([(zD 2),(zD 3),(iV .u64 0),zN,(lV (some ⟨g30,0,none⟩) 7 7)])) ?_
        rintro _ w33 h33
        refine ⟨⟨h33.at_ 4 rfl,trivial⟩,?_⟩
        refine dN 38 ?_
        refine dX ?_
        refine mF (post_2 (r:=.cell 2 196) (s:=.tmp 3) (by kernel_rfl) rfl (rce (h33.at_ 5 rfl)) (rtm (bV (rightM s [f,n,a,u,r]))) ?_)
        exact ⟨g30,_,_,_,_,rfl,h33.at_ 0 rfl,h33.at_ 2 rfl,h33.at_ 3 rfl,(h33.mine 0 _ rfl _ rfl).elim (fun h=>h.elim) id,fun q hq=>Nat.le_trans h15.below0.size (hn16 q hq),fun q hq=>Nat.le_trans h13.below0.size (hn14 q hq),h33.below0⟩
       refine oT (x_bs h18 2 ([(zD f),(zD n),(zD a),(zD u),(zD r)]) 5 (by kernel_rfl)) ?_
       rintro _ w34 ⟨g34,rfl,h34⟩
       refine ⟨⟨h34.at_ 3 rfl,trivial⟩,?_⟩
       refine dD 20 h34 [(zD r)] (knum_any r _) (fun w35 h35=>⟨⟨h35.at_ 3 rfl,trivial⟩,?_⟩)
       refine dT 21 (x_bs h35 196 ([zO,zO,(iV .u64 ((IntKind.u64.wrap f))),zN,zN,(zD 1),zO,(iV .u64 0),(lV A14 ((kl K).length) c14),zN,zO,zO,(iV .u64 ((IntKind.u64.wrap n))),zN,zN,(zD 1),zO,(iV .u64 0),(lV A16 s.data.toList.length c16),zN,zO,zO,(iV .u64 ((IntKind.u64.wrap a))),zN,zN,zO,zO,(iV .u64 ((IntKind.u64.wrap u))),zN,zN,zO,zO,(iV .u64 ((IntKind.u64.wrap r))),zN,zN]) 7 (by kernel_rfl)) ?_
       rintro _ w36 ⟨g36,rfl,h36⟩
       refine ⟨⟨h36.at_ 4 rfl,trivial⟩,?_⟩
       refine dD 22 h36 [(zD 3),(lV (some ⟨g36,0,none⟩) 7 7)] (dseq_any 3 (some ⟨g36,0,none⟩) 7 7 _) (fun w37 h37=>⟨⟨h37.at_ 4 rfl,trivial⟩,?_⟩)
       refine dT 36 (x_tiRight h37 1 rfl s (by omega) [f,n,a,u,r] 5 rfl rfl (by decide) (by kernel_rfl)) ?_
       rintro _ w38 ⟨rfl,h38⟩
       refine ⟨⟨h38.at_ 4 rfl,trivial⟩,?_⟩
       refine dT 37 (xSs h38 5 196 (.tmp 2) (.tmp 86) 0 ([(zD 2),(zD 3),(iV .u64 0),zN,(lV (some ⟨g36,0,none⟩) 7 7)]) ([(zD 2),(zD 3),(iV .u64 0),zN,(lV (some ⟨g36,0,none⟩) 7 7)])) ?_
       rintro _ w39 h39
       refine ⟨⟨h39.at_ 4 rfl,trivial⟩,?_⟩
       refine dN 38 ?_
       refine dX ?_
       refine mF (post_2 (r:=.cell 2 196) (s:=.tmp 3) (by kernel_rfl) rfl (rce (h39.at_ 5 rfl)) (rtm (bV (rightM s [f,n,a,u,r]))) ?_)
       exact ⟨g36,_,_,_,_,rfl,h39.at_ 0 rfl,h39.at_ 2 rfl,h39.at_ 3 rfl,(h39.mine 0 _ rfl _ rfl).elim (fun h=>h.elim) id,fun q hq=>Nat.le_trans h15.below0.size (hn16 q hq),fun q hq=>Nat.le_trans h13.below0.size (hn14 q hq),h39.below0⟩
      refine oT (x_bs h17 2 ([(zD f),(zD n),(zD a),(zD u),(zD r)]) 5 (by kernel_rfl)) ?_
      rintro _ w40 ⟨g40,rfl,h40⟩
      refine ⟨⟨h40.at_ 3 rfl,trivial⟩,?_⟩
      refine dD 17 h40 [(zD u)] (knum_any u _) (fun w41 h41=>⟨⟨h41.at_ 3 rfl,trivial⟩,?_⟩)
      refine dD 20 h41 [(zD r)] (knum_any r _) (fun w42 h42=>⟨⟨h42.at_ 3 rfl,trivial⟩,?_⟩)
      refine dT 21 (x_bs h42 196 ([zO,zO,(iV .u64 ((IntKind.u64.wrap f))),zN,zN,(zD 1),zO,(iV .u64 0),(lV A14 ((kl K).length) c14),zN,zO,zO,(iV .u64 ((IntKind.u64.wrap n))),zN,zN,(zD 1),zO,(iV .u64 0),(lV A16 s.data.toList.length c16),zN,zO,zO,(iV .u64 ((IntKind.u64.wrap a))),zN,zN,zO,zO,(iV .u64 ((IntKind.u64.wrap u))),zN,zN,zO,zO,(iV .u64 ((IntKind.u64.wrap r))),zN,zN]) 7 (by kernel_rfl)) ?_
      rintro _ w43 ⟨g43,rfl,h43⟩
      refine ⟨⟨h43.at_ 4 rfl,trivial⟩,?_⟩
      refine dD 22 h43 [(zD 3),(lV (some ⟨g43,0,none⟩) 7 7)] (dseq_any 3 (some ⟨g43,0,none⟩) 7 7 _) (fun w44 h44=>⟨⟨h44.at_ 4 rfl,trivial⟩,?_⟩)
      refine dT 36 (x_tiRight h44 1 rfl s (by omega) [f,n,a,u,r] 5 rfl rfl (by decide) (by kernel_rfl)) ?_
      rintro _ w45 ⟨rfl,h45⟩
      refine ⟨⟨h45.at_ 4 rfl,trivial⟩,?_⟩
      refine dT 37 (xSs h45 5 196 (.tmp 2) (.tmp 86) 0 ([(zD 2),(zD 3),(iV .u64 0),zN,(lV (some ⟨g43,0,none⟩) 7 7)]) ([(zD 2),(zD 3),(iV .u64 0),zN,(lV (some ⟨g43,0,none⟩) 7 7)])) ?_
      rintro _ w46 h46
      refine ⟨⟨h46.at_ 4 rfl,trivial⟩,?_⟩
      refine dN 38 ?_
      refine dX ?_
      refine mF (post_2 (r:=.cell 2 196) (s:=.tmp 3) (by kernel_rfl) rfl (rce (h46.at_ 5 rfl)) (rtm (bV (rightM s [f,n,a,u,r]))) ?_)
      exact ⟨g43,_,_,_,_,rfl,h46.at_ 0 rfl,h46.at_ 2 rfl,h46.at_ 3 rfl,(h46.mine 0 _ rfl _ rfl).elim (fun h=>h.elim) id,fun q hq=>Nat.le_trans h15.below0.size (hn16 q hq),fun q hq=>Nat.le_trans h13.below0.size (hn14 q hq),h46.below0⟩
     refine oT (x_bs h16 2 ([(zD f),(zD n),(zD a),(zD u),(zD r)]) 5 (by kernel_rfl)) ?_
     rintro _ w47 ⟨g47,rfl,h47⟩
     refine ⟨⟨h47.at_ 3 rfl,trivial⟩,?_⟩
     refine dD 14 h47 [(zD a)] (knum_any a _) (fun w48 h48=>⟨⟨h48.at_ 3 rfl,trivial⟩,?_⟩)
     refine dD 17 h48 [(zD u)] (knum_any u _) (fun w49 h49=>⟨⟨h49.at_ 3 rfl,trivial⟩,?_⟩)
     refine dD 20 h49 [(zD r)] (knum_any r _) (fun w50 h50=>⟨⟨h50.at_ 3 rfl,trivial⟩,?_⟩)
     refine dT 21 (x_bs h50 196 ([zO,zO,(iV .u64 ((IntKind.u64.wrap f))),zN,zN,(zD 1),zO,(iV .u64 0),(lV A14 ((kl K).length) c14),zN,zO,zO,(iV .u64 ((IntKind.u64.wrap n))),zN,zN,(zD 1),zO,(iV .u64 0),(lV A16 s.data.toList.length c16),zN,zO,zO,(iV .u64 ((IntKind.u64.wrap a))),zN,zN,zO,zO,(iV .u64 ((IntKind.u64.wrap u))),zN,zN,zO,zO,(iV .u64 ((IntKind.u64.wrap r))),zN,zN]) 7 (by kernel_rfl)) ?_
     rintro _ w51 ⟨g51,rfl,h51⟩
     refine ⟨⟨h51.at_ 4 rfl,trivial⟩,?_⟩
     refine dD 22 h51 [(zD 3),(lV (some ⟨g51,0,none⟩) 7 7)] (dseq_any 3 (some ⟨g51,0,none⟩) 7 7 _) (fun w52 h52=>⟨⟨h52.at_ 4 rfl,trivial⟩,?_⟩)
     refine dT 36 (x_tiRight h52 1 rfl s (by omega) [f,n,a,u,r] 5 rfl rfl (by decide) (by kernel_rfl)) ?_
     rintro _ w53 ⟨rfl,h53⟩
     refine ⟨⟨h53.at_ 4 rfl,trivial⟩,?_⟩
     refine dT 37 (xSs h53 5 196 (.tmp 2) (.tmp 86) 0 ([(zD 2),(zD 3),(iV .u64 0),zN,(lV (some ⟨g51,0,none⟩) 7 7)]) ([(zD 2),(zD 3),(iV .u64 0),zN,(lV (some ⟨g51,0,none⟩) 7 7)])) ?_
     rintro _ w54 h54
     refine ⟨⟨h54.at_ 4 rfl,trivial⟩,?_⟩
     refine dN 38 ?_
     refine dX ?_
     refine mF (post_2 (r:=.cell 2 196) (s:=.tmp 3) (by kernel_rfl) rfl (rce (h54.at_ 5 rfl)) (rtm (bV (rightM s [f,n,a,u,r]))) ?_)
     exact ⟨g51,_,_,_,_,rfl,h54.at_ 0 rfl,h54.at_ 2 rfl,h54.at_ 3 rfl,(h54.mine 0 _ rfl _ rfl).elim (fun h=>h.elim) id,fun q hq=>Nat.le_trans h15.below0.size (hn16 q hq),fun q hq=>Nat.le_trans h13.below0.size (hn14 q hq),h54.below0⟩
    refine oT (x_bs h15 2 ([(zD f),(zD n),(zD a),(zD u),(zD r)]) 5 (by kernel_rfl)) ?_
    rintro _ w55 ⟨g55,rfl,h55⟩
    refine ⟨⟨h55.at_ 2 rfl,trivial⟩,?_⟩
    refine dT 11 (x_rawT h55 120 [(sV s)] (by kernel_rfl) (ktext_any s _ (by omega))) ?_
    rintro _ w56 ⟨A56,c56,rfl,h56,hn56⟩
    refine ⟨⟨h56.at_ 3 rfl,trivial⟩,?_⟩
    refine dD 14 h56 [(zD a)] (knum_any a _) (fun w57 h57=>⟨⟨h57.at_ 3 rfl,trivial⟩,?_⟩)
    refine dD 17 h57 [(zD u)] (knum_any u _) (fun w58 h58=>⟨⟨h58.at_ 3 rfl,trivial⟩,?_⟩)
    refine dD 20 h58 [(zD r)] (knum_any r _) (fun w59 h59=>⟨⟨h59.at_ 3 rfl,trivial⟩,?_⟩)
    refine dT 21 (x_bs h59 196 ([zO,zO,(iV .u64 ((IntKind.u64.wrap f))),zN,zN,(zD 1),zO,(iV .u64 0),(lV A14 ((kl K).length) c14),zN,zO,zO,(iV .u64 ((IntKind.u64.wrap n))),zN,zN,(zD 1),zO,(iV .u64 0),(lV A56 s.data.toList.length c56),zN,zO,zO,(iV .u64 ((IntKind.u64.wrap a))),zN,zN,zO,zO,(iV .u64 ((IntKind.u64.wrap u))),zN,zN,zO,zO,(iV .u64 ((IntKind.u64.wrap r))),zN,zN]) 7 (by kernel_rfl)) ?_
    rintro _ w60 ⟨g60,rfl,h60⟩
    refine ⟨⟨h60.at_ 4 rfl,trivial⟩,?_⟩
    refine dD 22 h60 [(zD 3),(lV (some ⟨g60,0,none⟩) 7 7)] (dseq_any 3 (some ⟨g60,0,none⟩) 7 7 _) (fun w61 h61=>⟨⟨h61.at_ 4 rfl,trivial⟩,?_⟩)
    refine dT 36 (x_tiRight h61 2 rfl s (by omega) [f,n,a,u,r] 5 rfl rfl (by decide) (by kernel_rfl)) ?_
    rintro _ w62 ⟨rfl,h62⟩
    refine ⟨⟨h62.at_ 4 rfl,trivial⟩,?_⟩
    refine dT 37 (xSs h62 5 196 (.tmp 2) (.tmp 86) 0 ([(zD 2),(zD 3),(iV .u64 0),zN,(lV (some ⟨g60,0,none⟩) 7 7)]) ([(zD 2),(zD 3),(iV .u64 0),zN,(lV (some ⟨g60,0,none⟩) 7 7)])) ?_
    rintro _ w63 h63
    refine ⟨⟨h63.at_ 4 rfl,trivial⟩,?_⟩
    refine dN 38 ?_
    refine dX ?_
    refine mF (post_2 (r:=.cell 2 196) (s:=.tmp 3) (by kernel_rfl) rfl (rce (h63.at_ 5 rfl)) (rtm (bV (rightM s [f,n,a,u,r]))) ?_)
    exact ⟨g60,_,_,_,_,rfl,h63.at_ 0 rfl,h63.at_ 1 rfl,h63.at_ 3 rfl,(h63.mine 0 _ rfl _ rfl).elim (fun h=>h.elim) id,fun q hq=>Nat.le_trans h55.below0.size (hn56 q hq),fun q hq=>Nat.le_trans h13.below0.size (hn14 q hq),h63.below0⟩
   refine oT (x_bs h14 2 ([(zD f),(zD n),(zD a),(zD u),(zD r)]) 5 (by kernel_rfl)) ?_
   rintro _ w64 ⟨g64,rfl,h64⟩
   refine ⟨⟨h64.at_ 2 rfl,trivial⟩,?_⟩
   refine dD 8 h64 [(zD n)] (knum_any n _) (fun w65 h65=>⟨⟨h65.at_ 2 rfl,trivial⟩,?_⟩)
   refine dT 11 (x_rawT h65 120 [(sV s)] (by kernel_rfl) (ktext_any s _ (by omega))) ?_
   rintro _ w66 ⟨A66,c66,rfl,h66,hn66⟩
   refine ⟨⟨h66.at_ 3 rfl,trivial⟩,?_⟩
   refine dD 14 h66 [(zD a)] (knum_any a _) (fun w67 h67=>⟨⟨h67.at_ 3 rfl,trivial⟩,?_⟩)
   refine dD 17 h67 [(zD u)] (knum_any u _) (fun w68 h68=>⟨⟨h68.at_ 3 rfl,trivial⟩,?_⟩)
   refine dD 20 h68 [(zD r)] (knum_any r _) (fun w69 h69=>⟨⟨h69.at_ 3 rfl,trivial⟩,?_⟩)
   refine dT 21 (x_bs h69 196 ([zO,zO,(iV .u64 ((IntKind.u64.wrap f))),zN,zN,(zD 1),zO,(iV .u64 0),(lV A14 ((kl K).length) c14),zN,zO,zO,(iV .u64 ((IntKind.u64.wrap n))),zN,zN,(zD 1),zO,(iV .u64 0),(lV A66 s.data.toList.length c66),zN,zO,zO,(iV .u64 ((IntKind.u64.wrap a))),zN,zN,zO,zO,(iV .u64 ((IntKind.u64.wrap u))),zN,zN,zO,zO,(iV .u64 ((IntKind.u64.wrap r))),zN,zN]) 7 (by kernel_rfl)) ?_
   rintro _ w70 ⟨g70,rfl,h70⟩
   refine ⟨⟨h70.at_ 4 rfl,trivial⟩,?_⟩
   refine dD 22 h70 [(zD 3),(lV (some ⟨g70,0,none⟩) 7 7)] (dseq_any 3 (some ⟨g70,0,none⟩) 7 7 _) (fun w71 h71=>⟨⟨h71.at_ 4 rfl,trivial⟩,?_⟩)
   refine dT 36 (x_tiRight h71 2 rfl s (by omega) [f,n,a,u,r] 5 rfl rfl (by decide) (by kernel_rfl)) ?_
   rintro _ w72 ⟨rfl,h72⟩
   refine ⟨⟨h72.at_ 4 rfl,trivial⟩,?_⟩
   refine dT 37 (xSs h72 5 196 (.tmp 2) (.tmp 86) 0 ([(zD 2),(zD 3),(iV .u64 0),zN,(lV (some ⟨g70,0,none⟩) 7 7)]) ([(zD 2),(zD 3),(iV .u64 0),zN,(lV (some ⟨g70,0,none⟩) 7 7)])) ?_
   rintro _ w73 h73
   refine ⟨⟨h73.at_ 4 rfl,trivial⟩,?_⟩
   refine dN 38 ?_
   refine dX ?_
   refine mF (post_2 (r:=.cell 2 196) (s:=.tmp 3) (by kernel_rfl) rfl (rce (h73.at_ 5 rfl)) (rtm (bV (rightM s [f,n,a,u,r]))) ?_)
   exact ⟨g70,_,_,_,_,rfl,h73.at_ 0 rfl,h73.at_ 1 rfl,h73.at_ 3 rfl,(h73.mine 0 _ rfl _ rfl).elim (fun h=>h.elim) id,fun q hq=>Nat.le_trans h65.below0.size (hn66 q hq),fun q hq=>Nat.le_trans h13.below0.size (hn14 q hq),h73.below0⟩
  refine oT (x_bs h13 2 ([(zD f),(zD n),(zD a),(zD u),(zD r)]) 5 (by kernel_rfl)) ?_
  rintro _ w74 ⟨g74,rfl,h74⟩
  refine ⟨⟨h74.at_ 1 rfl,trivial⟩,?_⟩
  refine dT 5 (x_rawT h74 123 [(aV (vb (kl K)).toArray)] (by kernel_rfl) (kkey_any K _)) ?_
  rintro _ w75 ⟨A75,c75,rfl,h75,hn75⟩
  refine ⟨⟨h75.at_ 2 rfl,trivial⟩,?_⟩
  refine dD 8 h75 [(zD n)] (knum_any n _) (fun w76 h76=>⟨⟨h76.at_ 2 rfl,trivial⟩,?_⟩)
  refine dT 11 (x_rawT h76 120 [(sV s)] (by kernel_rfl) (ktext_any s _ (by omega))) ?_
  rintro _ w77 ⟨A77,c77,rfl,h77,hn77⟩
  refine ⟨⟨h77.at_ 3 rfl,trivial⟩,?_⟩
  refine dD 14 h77 [(zD a)] (knum_any a _) (fun w78 h78=>⟨⟨h78.at_ 3 rfl,trivial⟩,?_⟩)
  refine dD 17 h78 [(zD u)] (knum_any u _) (fun w79 h79=>⟨⟨h79.at_ 3 rfl,trivial⟩,?_⟩)
  refine dD 20 h79 [(zD r)] (knum_any r _) (fun w80 h80=>⟨⟨h80.at_ 3 rfl,trivial⟩,?_⟩)
  refine dT 21 (x_bs h80 196 ([zO,zO,(iV .u64 ((IntKind.u64.wrap f))),zN,zN,(zD 1),zO,(iV .u64 0),(lV A75 ((kl K).length) c75),zN,zO,zO,(iV .u64 ((IntKind.u64.wrap n))),zN,zN,(zD 1),zO,(iV .u64 0),(lV A77 s.data.toList.length c77),zN,zO,zO,(iV .u64 ((IntKind.u64.wrap a))),zN,zN,zO,zO,(iV .u64 ((IntKind.u64.wrap u))),zN,zN,zO,zO,(iV .u64 ((IntKind.u64.wrap r))),zN,zN]) 7 (by kernel_rfl)) ?_
  rintro _ w81 ⟨g81,rfl,h81⟩
  refine ⟨⟨h81.at_ 4 rfl,trivial⟩,?_⟩
  refine dD 22 h81 [(zD 3),(lV (some ⟨g81,0,none⟩) 7 7)] (dseq_any 3 (some ⟨g81,0,none⟩) 7 7 _) (fun w82 h82=>⟨⟨h82.at_ 4 rfl,trivial⟩,?_⟩)
  refine dT 36 (x_tiRight h82 3 rfl s (by omega) [f,n,a,u,r] 5 rfl rfl (by decide) (by kernel_rfl)) ?_
  rintro _ w83 ⟨rfl,h83⟩
  refine ⟨⟨h83.at_ 4 rfl,trivial⟩,?_⟩
  refine dT 37 (xSs h83 5 196 (.tmp 2) (.tmp 86) 0 ([(zD 2),(zD 3),(iV .u64 0),zN,(lV (some ⟨g81,0,none⟩) 7 7)]) ([(zD 2),(zD 3),(iV .u64 0),zN,(lV (some ⟨g81,0,none⟩) 7 7)])) ?_
  rintro _ w84 h84
  refine ⟨⟨h84.at_ 4 rfl,trivial⟩,?_⟩
  refine dN 38 ?_
  refine dX ?_
  refine mF (post_2 (r:=.cell 2 196) (s:=.tmp 3) (by kernel_rfl) rfl (rce (h84.at_ 5 rfl)) (rtm (bV (rightM s [f,n,a,u,r]))) ?_)
  exact ⟨g81,_,_,_,_,rfl,h84.at_ 0 rfl,h84.at_ 1 rfl,h84.at_ 2 rfl,(h84.mine 0 _ rfl _ rfl).elim (fun h=>h.elim) id,fun q hq=>Nat.le_trans h76.below0.size (hn77 q hq),fun q hq=>Nat.le_trans h74.below0.size (hn75 q hq),h84.below0⟩
 refine oT (x_bs h12 2 ([(zD f),(zD n),(zD a),(zD u),(zD r)]) 5 (by kernel_rfl)) ?_
 rintro _ w85 ⟨g85,rfl,h85⟩
 refine ⟨⟨h85.at_ 1 rfl,trivial⟩,?_⟩
 refine dD 2 h85 [(zD f)] (knum_any f _) (fun w86 h86=>⟨⟨h86.at_ 1 rfl,trivial⟩,?_⟩)
 refine dT 5 (x_rawT h86 123 [(aV (vb (kl K)).toArray)] (by kernel_rfl) (kkey_any K _)) ?_
 rintro _ w87 ⟨A87,c87,rfl,h87,hn87⟩
 refine ⟨⟨h87.at_ 2 rfl,trivial⟩,?_⟩
 refine dD 8 h87 [(zD n)] (knum_any n _) (fun w88 h88=>⟨⟨h88.at_ 2 rfl,trivial⟩,?_⟩)
 refine dT 11 (x_rawT h88 120 [(sV s)] (by kernel_rfl) (ktext_any s _ (by omega))) ?_
 rintro _ w89 ⟨A89,c89,rfl,h89,hn89⟩
 refine ⟨⟨h89.at_ 3 rfl,trivial⟩,?_⟩
 refine dD 14 h89 [(zD a)] (knum_any a _) (fun w90 h90=>⟨⟨h90.at_ 3 rfl,trivial⟩,?_⟩)
 refine dD 17 h90 [(zD u)] (knum_any u _) (fun w91 h91=>⟨⟨h91.at_ 3 rfl,trivial⟩,?_⟩)
 refine dD 20 h91 [(zD r)] (knum_any r _) (fun w92 h92=>⟨⟨h92.at_ 3 rfl,trivial⟩,?_⟩)
 refine dT 21 (x_bs h92 196 ([zO,zO,(iV .u64 ((IntKind.u64.wrap f))),zN,zN,(zD 1),zO,(iV .u64 0),(lV A87 ((kl K).length) c87),zN,zO,zO,(iV .u64 ((IntKind.u64.wrap n))),zN,zN,(zD 1),zO,(iV .u64 0),(lV A89 s.data.toList.length c89),zN,zO,zO,(iV .u64 ((IntKind.u64.wrap a))),zN,zN,zO,zO,(iV .u64 ((IntKind.u64.wrap u))),zN,zN,zO,zO,(iV .u64 ((IntKind.u64.wrap r))),zN,zN]) 7 (by kernel_rfl)) ?_
 rintro _ w93 ⟨g93,rfl,h93⟩
 refine ⟨⟨h93.at_ 4 rfl,trivial⟩,?_⟩
 refine dD 22 h93 [(zD 3),(lV (some ⟨g93,0,none⟩) 7 7)] (dseq_any 3 (some ⟨g93,0,none⟩) 7 7 _) (fun w94 h94=>⟨⟨h94.at_ 4 rfl,trivial⟩,?_⟩)
 refine dT 36 (x_tiRight h94 3 rfl s (by omega) [f,n,a,u,r] 5 rfl rfl (by decide) (by kernel_rfl)) ?_
 rintro _ w95 ⟨rfl,h95⟩
 refine ⟨⟨h95.at_ 4 rfl,trivial⟩,?_⟩
 refine dT 37 (xSs h95 5 196 (.tmp 2) (.tmp 86) 0 ([(zD 2),(zD 3),(iV .u64 0),zN,(lV (some ⟨g93,0,none⟩) 7 7)]) ([(zD 2),(zD 3),(iV .u64 0),zN,(lV (some ⟨g93,0,none⟩) 7 7)])) ?_
 rintro _ w96 h96
 refine ⟨⟨h96.at_ 4 rfl,trivial⟩,?_⟩
 refine dN 38 ?_
 refine dX ?_
 refine mF (post_2 (r:=.cell 2 196) (s:=.tmp 3) (by kernel_rfl) rfl (rce (h96.at_ 5 rfl)) (rtm (bV (rightM s [f,n,a,u,r]))) ?_)
 exact ⟨g93,_,_,_,_,rfl,h96.at_ 0 rfl,h96.at_ 1 rfl,h96.at_ 2 rfl,(h96.mine 0 _ rfl _ rfl).elim (fun h=>h.elim) id,fun q hq=>Nat.le_trans h88.below0.size (hn89 q hq),fun q hq=>Nat.le_trans h86.below0.size (hn87 q hq),h96.below0⟩
end
section
open Go.RowKit Go.QT
theorem vPlain_any(B:Option Addr)(d:Nat)(b:Bytes)(w:World)(hb:SB w (.slice B b.length d) b)(hl:b.length<=1000000):Calls Tryz.prog 99 #[.iface 276 (.agg [Value.slice B b.length d].toArray)] w fun e w'=>∃ g A c,e=.returned (.tuple #[.agg #[.int .i64 2,.int .i64 7,.int .u64 0,.slice none 0 0,.slice (some ⟨g,0,none⟩) 1 1],.bool true])/\Blk w' g 196 (rV (.slice A b.length c))/\SB w' (.slice A b.length c) b/\w.heap.size<=g/\(∀ q,(Value.slice A b.length c).ownBlock=some q->w.heap.size<=q)/\Below w.heap.size w w':=by
 have h0:=(Hp.nil (fun _=>False) w).addR (rSB _ b) hb (by simp)
 refine mE 180 ?_
 refine mN h0 196 ([(Value.int .i64 0),(Value.int .i64 0),(Value.int .u64 0),(Value.slice none 0 0),(Value.slice none 0 0)]) fun g2 w2 h2=>?_
 refine mN h2 276 ([(Value.slice none 0 0)]) fun g13 w13 h13=>?_
 refine mT (xSs h13 0 276 (.tmp 10) (.tmp 173) 0 ([(Value.slice B b.length d)]) ([(Value.slice B b.length d)])) fun _ w14 h14=>?_
 refine ma h14 0 ?_
 refine mT (x_rawT h14 97 [(Value.slice B b.length d)] (by kernel_rfl) (draw_any (Value.slice B b.length d) b _ (h14.rd 0 rfl) (by omega))) ?_
 rintro _ w16 ⟨A16,c16,rfl,h16,hn16⟩
 refine mT (x_bs h16 196 ([(Value.int .i64 1),(Value.int .i64 0),(Value.int .u64 0),(Value.slice A16 b.length c16),(Value.slice none 0 0)]) 1 (by kernel_rfl)) ?_
 rintro _ w17 ⟨g17,rfl,h17⟩
 refine mD h17 [(Value.int .i64 7),(Value.slice (some ⟨g17,0,none⟩) 1 1)] (dseq_any 7 (some ⟨g17,0,none⟩) 1 1 _) (fun w18 h18=>?_)
 refine mT (xSs h18 3 196 (.tmp 2) (.tmp 178) 0 ([(Value.int .i64 2),(Value.int .i64 7),(Value.int .u64 0),(Value.slice none 0 0),(Value.slice (some ⟨g17,0,none⟩) 1 1)]) ([(Value.int .i64 2),(Value.int .i64 7),(Value.int .u64 0),(Value.slice none 0 0),(Value.slice (some ⟨g17,0,none⟩) 1 1)])) fun _ w19 h19=>?_
 refine mF (post_2 (r:=.cell 2 196) (s:=.tmp 3) (by kernel_rfl) rfl (rce (h19.at_ 3 rfl)) (rtm (Value.bool true)) ?_)
 exact ⟨g17,_,_,rfl,h19.at_ 0 rfl,h19.at_ 1 rfl,(h19.mine 0 _ rfl _ rfl).elim (fun h=>h.elim) id,fun q hq=>Nat.le_trans h14.below0.size (hn16 q hq),h19.below0⟩
end
section
open Go.RowKit Go.QT
theorem ine{a b:Nat}(h:a≠b):Value.bool ((a:Int) != (b:Int))=Value.bool true:=by
 congr 1;rw [bne_iff_ne];omega
theorem ieq{a b:Nat}(h:a=b):Value.bool ((a:Int) != (b:Int))=Value.bool false:=by
 subst h;simp
/-- The error, how many bytes follow, where they begin. -/
def szB(L:Bytes):Nat × Nat × Nat:=
 if L.length<2 then (1,0,0) else
 if nb (gb L 1)<128 then (if 2+nb (gb L 1)<=L.length then (0,nb (gb L 1),2) else (1,0,0)) else
 if nb (gb L 1)-128<1∨2<nb (gb L 1)-128 then (3,0,0) else
 if L.length<2+(nb (gb L 1)-128) then (1,0,0) else
 if getN ((L.take (2+(nb (gb L 1)-128))).drop 2)<128∨(nb (gb L 1)-128=2/\getN ((L.take (2+(nb (gb L 1)-128))).drop 2)<256) then (3,0,0) else
 if 2+(nb (gb L 1)-128)+getN ((L.take (2+(nb (gb L 1)-128))).drop 2)<=L.length then (0,getN ((L.take (2+(nb (gb L 1)-128))).drop 2),2+(nb (gb L 1)-128)) else (1,0,0)
/-- Values one behind the other. -/
def lsB(rd:Bytes->Nat ⊕ (DVal × Nat)):Nat->Bytes->Nat ⊕ List DVal
 | 0,_=>.inr []
 | f+1,l=>if l.length=0 then .inr [] else
   match rd l with
   | .inl e=>.inl e
   | .inr (v,k)=>match lsB rd f (l.drop k) with
     | .inl e=>.inl e
     | .inr r=>.inr (v::r)
/-- What some bytes are, of a kind, a tag. -/
def ptB(rd:Bytes->Nat ⊕ (DVal × Nat))(k t:Nat)(B:Bytes)(n:Nat):Nat ⊕ (DVal × Nat):=
 if k=0 then (if B.length=0∨8<B.length∨(1<B.length/\gb B 0=0) then .inl 4 else .inr (.mk 0 t (getN B) [] [],n))
 else if k=1 then .inr (.mk 1 t 0 B [],n)
 else match lsB rd B.length B with
   | .inl e=>.inl e
   | .inr ts=>.inr (.mk 2 t 0 [] ts,n)
/-- der.read: the value and how many bytes it has; or an error. m: how much deeper it may go. -/
def rdB:Nat->Bytes->Nat ⊕ (DVal × Nat)
 | 0,_=>.inl 4
 | m+1,L =>
   if (szB L).1≠0 then .inl (szB L).1 else
   if 2<nb (gb L 0) / 64∨30<nb (gb L 0) % 64 then .inl 2 else
   ptB (rdB m) (nb (gb L 0) / 64) (nb (gb L 0) % 64) ((L.take ((szB L).2.2+(szB L).2.1)).drop (szB L).2.2) ((szB L).2.2+(szB L).2.1)
/-- der.Read. -/
def RdB(L:Bytes):Nat ⊕ DVal:=
 if 4096<L.length then .inl 20 else
 match rdB 8 L with
 | .inl e=>.inl e
 | .inr (v,n)=>if n<L.length then .inl 5 else .inr v
theorem szB_ok{L:Bytes}(h:(szB L).1=0):2<=(szB L).2.2/\(szB L).2.2+(szB L).2.1<=L.length:=by
 unfold szB at h ⊢
 generalize nb (gb L 1)-128=K at *
 generalize getN ((L.take (2+K)).drop 2)=m at *
 generalize nb (gb L 1)=y at *
 split at h
 · cases h
 rename_i h1
 rw [if_neg h1]
 split at h
 · rename_i h2
   rw [if_pos h2]
   split at h
   · rename_i h3;rw [if_pos h3];exact ⟨Nat.le_refl _,h3⟩
   cases h
 rename_i h2
 rw [if_neg h2]
 split at h
 · cases h
 rename_i h3
 rw [if_neg h3]
 split at h
 · cases h
 rename_i h4
 rw [if_neg h4]
 split at h
 · cases h
 rename_i h5
 rw [if_neg h5]
 split at h
 · rename_i h6;rw [if_pos h6];exact ⟨Nat.le_add_right _ _,h6⟩
 cases h
theorem ptB_n{rd:Bytes->Nat ⊕ (DVal × Nat)}{k t n:Nat}{B:Bytes}{v:DVal}{m:Nat}(h:ptB rd k t B n=.inr (v,m)):m=n:=by
 unfold ptB at h
 split at h
 · split at h
   · cases h
   injection h with h;injection h with h1 h2;exact h2.symm
 split at h
 · injection h with h;injection h with h1 h2;exact h2.symm
 split at h
 · cases h
 injection h with h;injection h with h1 h2;exact h2.symm
theorem rdB_n{m:Nat}{L:Bytes}{v:DVal}{k:Nat}(h:rdB m L=.inr (v,k)):2<=k/\k<=L.length:=by
 cases m with
 | zero=>cases h
 | succ m =>
   rw [rdB] at h
   split at h
   · cases h
   rename_i h1
   split at h
   · cases h
   have h2:=szB_ok (L:=L) (by omega)
   have:=ptB_n h
   omega
theorem lsB_er{rd:Bytes->Nat ⊕ (DVal × Nat)}(h:∀ l e,rd l=.inl e->e≠0):∀ (f:Nat) (l:Bytes) (e:Nat),lsB rd f l=.inl e->e≠0
 | 0,_,_,hh=>by cases hh
 | f+1,l,e,hh=>by
   rw [lsB] at hh
   split at hh
   · cases hh
   split at hh
   · rename_i hr;injection hh with hh;subst hh;exact h l _ hr
   split at hh
   · rename_i hr;injection hh with hh;subst hh;exact lsB_er h f _ _ hr
   cases hh
theorem rdB_er:∀ (m:Nat) (L:Bytes) (e:Nat),rdB m L=.inl e->e≠0
 | 0,_,_,h=>by injection h with h;omega
 | m+1,L,e,h=>by
   rw [rdB] at h
   split at h
   · rename_i h1;injection h with h;omega
   split at h
   · injection h with h;omega
   unfold ptB at h
   split at h
   · split at h
     · injection h with h;omega
     cases h
   split at h
   · cases h
   split at h
   · rename_i hr;injection h with h;subst h;exact lsB_er (rdB_er m) _ _ _ hr
   cases h
/-- A list goes on behind its first values. -/
def preL(ts:List DVal):Nat ⊕ List DVal->Nat ⊕ List DVal
 | .inl e=>.inl e
 | .inr r=>.inr (ts++r)
theorem lsB_step{rd:Bytes->Nat ⊕ (DVal × Nat)}{f:Nat}{l:Bytes}{v:DVal}{k:Nat}(h0:l.length≠0)(hr:rd l=.inr (v,k))(ts:List DVal):preL ts (lsB rd (f+1) l)=preL (ts++[v]) (lsB rd f (l.drop k)):=by
 rw [lsB,if_neg h0,hr]
 simp only
 cases lsB rd f (l.drop k) with
 | inl e=>rfl
 | inr r=>show Sum.inr _=Sum.inr _;rw [List.append_assoc];rfl
theorem lsB_bad{rd:Bytes->Nat ⊕ (DVal × Nat)}{f:Nat}{l:Bytes}{e:Nat}(h0:l.length≠0)(hr:rd l=.inl e)(ts:List DVal):preL ts (lsB rd (f+1) l)=.inl e:=by
 rw [lsB,if_neg h0,hr];rfl
theorem lsB_end{rd:Bytes->Nat ⊕ (DVal × Nat)}{f:Nat}{l:Bytes}(h0:l.length=0)(ts:List DVal):preL ts (lsB rd f l)=.inr ts:=by
 cases f with
 | zero=>show Sum.inr _=_;rw [List.append_nil]
 | succ f=>rw [lsB,if_pos h0];show Sum.inr _=_;rw [List.append_nil]
/-- What der.read leaves. -/
def ReadG(w:World)(r:Nat ⊕ (DVal × Nat))(e:Ending)(w':World):Prop:=
 match r with
 | .inl c=>DPost w (.tuple #[.agg #[.int .i64 0,.int .i64 0,.int .u64 0,.slice none 0 0,.slice none 0 0],.int .i64 0,.int .i64 (c:Int)]) e w'
 | .inr (v,k)=>ReadPost w v k e w'
theorem readG_bad{w:World}{r:Nat ⊕ (DVal × Nat)}{c:Nat}(h:r=.inl c){e:Ending}{w':World}(hd:DPost w (.tuple #[.agg #[.int .i64 0,.int .i64 0,.int .u64 0,.slice none 0 0,.slice none 0 0],.int .i64 0,.int .i64 (c:Int)]) e w'):ReadG w r e w':=by subst h;exact hd
theorem readG_ok{w:World}{r:Nat ⊕ (DVal × Nat)}{v:DVal}{k:Nat}(h:r=.inr (v,k)){e:Ending}{w':World}(hd:ReadPost w v k e w'):ReadG w r e w':=by subst h;exact hd
def ReadGOk(w:World)(r:Nat ⊕ DVal)(e:Ending)(w':World):Prop:=
 match r with
 | .inl c=>DPost w (.tuple #[.agg #[.int .i64 0,.int .i64 0,.int .u64 0,.slice none 0 0,.slice none 0 0],.int .i64 (c:Int)]) e w'
 | .inr v=>ReadOk w v e w'
end
section
open Go.RowKit Go.QT
abbrev TkSt:=List DVal × Bool
def zDV:DVal:=.mk 0 0 0 [] []
def nxV(k:Nat):List DVal->DVal
 | []=>zDV
 | v::_=>if v.kind=k/\v.tag=0 then v else zDV
def nxT(k:Nat):TkSt->TkSt
 | ([],_)=>([],true)
 | (v::r,b)=>if v.kind=k/\v.tag=0 then (r,b) else ([],true)
theorem nx_bad{k:Nat}{v:DVal}{r:List DVal}(h:v.kind≠k∨v.tag≠0)(b:Bool):nxV k (v::r)=zDV/\nxT k (v::r,b)=([],true):=by
 have:¬ (v.kind=k/\v.tag=0):=fun hh=>h.elim (fun h=>h hh.1) (fun h=>h hh.2)
 exact ⟨if_neg this,if_neg this⟩
theorem nx_good{k:Nat}{v:DVal}{r:List DVal}(h:v.kind=k)(h2:v.tag=0)(b:Bool):nxV k (v::r)=v/\nxT k (v::r,b)=(r,b):=⟨if_pos ⟨h,h2⟩,if_pos ⟨h,h2⟩⟩
/-- A number that is taken, and what is left. -/
def numO(T:TkSt):Int:=if (nxV 0 T.1).n>1099511627776 then 0 else (nxV 0 T.1).n
def numT(T:TkSt):TkSt:=((nxT 0 T).1,(nxT 0 T).2 || decide ((nxV 0 T.1).n>1099511627776))
def nameO(T:TkSt):ByteArray:=⟨(nxV 1 T.1).b.toArray⟩
def nameT(T:TkSt):TkSt:=((nxT 1 T).1,(nxT 1 T).2 || !rightN (nameO T))
def keyF(b:Bytes):Bytes:=if b.length=16 then b else zKey
def keyO(T:TkSt):Fin 16->UInt8:=fun i=>gb (keyF (nxV 1 T.1).b) i.val
def keyT(T:TkSt):TkSt:=((nxT 1 T).1,(nxT 1 T).2 || !decide ((nxV 1 T.1).b.length=16))
def truthO(T:TkSt):Bool:=decide ((nxV 0 T.1).n=1)
def truthT(T:TkSt):TkSt:=((nxT 0 T).1,(nxT 0 T).2 || decide ((nxV 0 T.1).n>1))
def bytesO(T:TkSt):Bytes:=(nxV 1 T.1).b
def bytesT(T:TkSt):TkSt:=nxT 1 T
def doneO(T:TkSt):Bool:=!T.2 && decide (T.1.length=0)
/-- No bytes are very long. -/
def Sm(ts:List DVal):Prop:=∀ v ∈ ts,v.b.length<=1000000
theorem Sm.nxV{ts:List DVal}(h:Sm ts)(k:Nat):(nxV k ts).b.length<=1000000:=by
 cases ts with
 | nil=>exact Nat.zero_le _
 | cons v r =>
   by_cases hc:v.kind=k/\v.tag=0
   · rw [(nx_good (r:=r) hc.1 hc.2 true).1];exact h v (by simp)
   rw [Go.Proofs.YtaoijkhndakppaaGreat.nxV,if_neg hc];exact Nat.zero_le _
theorem Sm.nxT{T:TkSt}(h:Sm T.1)(k:Nat):Sm (nxT k T).1:=by
 obtain ⟨ts,b⟩:=T
 cases ts with
 | nil=>intro v hv;cases hv
 | cons v r =>
   by_cases hc:v.kind=k/\v.tag=0
   · rw [(nx_good (r:=r) hc.1 hc.2 b).2];exact fun u hu=>h u (by simp [hu])
   rw [Go.Proofs.YtaoijkhndakppaaGreat.nxT,if_neg hc];intro v hv;cases hv
/-- A list of values, all of which lies in the blocks G. -/
def rLst(G:Nat->Prop)(A:Option Addr)(c:Nat)(ts:List DVal):Res where
 F:=G
 Φ:=fun w=>(∀ q,G q->q<w.heap.size)/\∃ xs,RVF G w 5 A c xs/\xs.length=ts.length/\∀ (i:Nat) (x:List Value) (u:DVal),xs[i]?=some x->ts[i]?=some u->DVR G w x u
 lt:=fun h=>h.1
 keep:=fun h hs hk=>⟨fun q hq=>Nat.lt_of_lt_of_le (h.1 q hq) hs,by
   obtain ⟨_,xs,h1,h2,h3⟩:=h
   exact ⟨xs,h1.keep hs hk,h2,fun i x u hx hu=>(h3 i x u hx hu).keep hs hk⟩⟩
/-- Bytes that lie in the blocks G. -/
def rSG(G:Nat->Prop)(v:Value)(b:Bytes):Res where
 F:=G
 Φ:=fun w=>(∀ q,G q->q<w.heap.size)/\SBF G w v b
 lt:=fun h=>h.1
 keep:=fun h hs hk=>⟨fun q hq=>Nat.lt_of_lt_of_le (h.1 q hq) hs,h.2.keep hs hk⟩
theorem dv_lst{G:Nat->Prop}{w:World}{cs:List Value}{v:DVal}(h:(rDV G cs v).Φ w):∃ B d A c,cs=[.int .i64 (v.kind:Int),.int .i64 (v.tag:Int),.int .u64 (v.n:Int),.slice B v.b.length d,.slice A v.l.length c] /\
   (rSG G (.slice B v.b.length d) v.b).Φ w/\(rLst G A c v.l).Φ w/\v.n<18446744073709551616:=by
 obtain ⟨hF,h⟩:=h
 cases h with
 | mk k t n bv b A c xs ts hn hb hx hl hs =>
   obtain ⟨B,d,rfl,_⟩:=id hb.1
   exact ⟨B,d,A,c,rfl,⟨hF,hb⟩,⟨hF,xs,hx,hl,hs⟩,hn⟩
theorem lst_nil{G:Nat->Prop}{w:World}(hG:∀ q,G q->q<w.heap.size)(A:Option Addr)(c:Nat)(hc:c<=maxLen):(rLst G A c []).Φ w:=⟨hG,[],rvf_nil _ _ _ _ hc _,rfl,by simp⟩
theorem sg_nil{G:Nat->Prop}{w:World}(hG:∀ q,G q->q<w.heap.size):(rSG G (.slice none 0 0) []).Φ w:=⟨hG,sbf_nil _ _⟩
/-- Where a list goes on behind its first one. -/
def tlA(sz:Nat)(A:Option Addr)(c:Nat):Option Addr:=if c=1 then A else A.map (·.add (1*sz))
section
variable{P:Program}{w:World}{sz c:Nat}{A:Option Addr}{x:List Value}{xs:List (List Value)}{o:Oper}{a:Act}
theorem RV.tailA(h:RV w sz A c (x::xs)):RV w sz (tlA sz A c) (c-1) xs:=by
 have hle:=h.le
 rw [List.length_cons] at hle
 refine ⟨by omega,by have:=h.cap;omega,fun y hy=>h.len y (by simp [hy]),fun hne=>?_⟩
 obtain ⟨b,o,rfl,hb,hc⟩:=h.at_ (by simp)
 have hp:=List.length_pos_iff.2 hne
 refine ⟨b,o+sz,?_,hb,fun i y hy j u hu=>?_⟩
 · unfold tlA
   rw [if_neg (by omega)]
   simp [Addr.add]
 have:=hc (i+1) y (by simpa using hy) j u hu
 rw [Nat.add_mul,Nat.one_mul] at this
 rw [show o+sz+i*sz+j=o+(i*sz+sz)+j by omega]
 exact this
theorem tlA_own{q:Nat}(h:ownA (tlA sz A c)=some q):ownA A=some q:=by
 unfold tlA at h
 split at h
 · exact h
 cases A with
 | none=>exact h
 | some a=>rw [Option.map_some] at h;rw [← h];show some a.block=some (a.add (1*sz)).block;rw [block_of_add]
theorem RVF.tailA{G:Nat->Prop}(h:RVF G w sz A c (x::xs)):RVF G w sz (tlA sz A c) (c-1) xs:=⟨h.1.tailA,fun _ q hq=>h.2 (by simp) q (tlA_own hq)⟩
/-- v[1:]. -/
theorem e_tailA{n:Nat}(hn:0<n)(t:TypeId)(x lo:Operand)(ho:o.op=.slice t x (some lo) none none)(hx:a.eval x=.slice A n c)(k:IntKind)(hlo:a.eval lo=.int k 1)(ht:P.underlying t=some (.slice (P.elem t)))(hE:pureVal P (sizeOf (P.elem t))=some sz)(W:World) :
   (execOp a.eval o).run P W=.ok (.value (.slice (tlA sz A c) (n-1) (c-1))) W:=by
 have hsz:=pureVal_run hE W
 have hr:(Instr.sliceAt t (.slice A n c) (some (.int k 1)) none none).run P W=.ok (.slice (tlA sz A c) (n-1) (c-1)) W:=by
   rw [run_sliceAt_slice W t _ _ _ _ ht,run_slice_l W t A _ c ht k 1 (by omega) (by omega),hsz]
   rfl
 unfold execOp
 simp only [ho,hx,hlo,Option.map_some,Option.map_none,Sem.run_bind,hr,Result.andThen_ok,Sem.run_pure]
end
theorem lst_tail{G:Nat->Prop}{w:World}{A:Option Addr}{c:Nat}{v:DVal}{r:List DVal}(h:(rLst G A c (v::r)).Φ w):(rLst G (tlA 5 A c) (c-1) r).Φ w:=by
 obtain ⟨hG,xs,h1,h2,h3⟩:=h
 cases xs with
 | nil=>cases h2
 | cons x xs=>exact ⟨hG,xs,h1.tailA,by simpa using h2,fun i y u hy hu=>h3 (i+1) y u (by simpa using hy) (by simpa using hu)⟩
/-- The first one of a list. -/
theorem lst_head{G:Nat->Prop}{w:World}{A:Option Addr}{c:Nat}{v:DVal}{r:List DVal}(h:(rLst G A c (v::r)).Φ w):∃ xs cs,RV w 5 A c xs/\xs.length=(v::r).length/\xs[0]?=some cs/\(rDV G cs v).Φ w/\(∀ q,(rRV 5 A c xs).F q->G q):=by
 obtain ⟨hG,xs,h1,h2,h3⟩:=h
 cases xs with
 | nil=>cases h2
 | cons x xs=>exact ⟨x::xs,x,h1.1,h2,rfl,⟨hG,h3 0 x v rfl rfl⟩,fun q hq=>h1.2 hq.1 q hq.2⟩
/-- What a method of the taker leaves. -/
def TkPost(w:World)(tb:Nat)(G:Nat->Prop)(T:TkSt)(u:Value)(e:Ending)(w':World):Prop:=
 ∃ A c ts b,ts=T.1/\b=T.2/\e=.returned u/\Hp (fun q=>q=tb) w w' [rLst G A c ts] [rBlk tb 287 [.slice A ts.length c,.bool b]]
def BkPost(w:World)(tb:Nat)(G:Nat->Prop)(T:TkSt)(l:Bytes)(e:Ending)(w':World):Prop:=
 ∃ A c ts b B d,ts=T.1/\b=T.2/\e=.returned (.slice B l.length d)/\Hp (fun q=>q=tb) w w' [rLst G A c ts,rSG G (.slice B l.length d) l] [rBlk tb 287 [.slice A ts.length c,.bool b]]
def NxPost(w:World)(tb:Nat)(G:Nat->Prop)(T:TkSt)(v:DVal)(e:Ending)(w':World):Prop:=
 ∃ A c B d A2 c2 ts b,ts=T.1/\b=T.2/\e=.returned (.agg #[.int .i64 (v.kind:Int),.int .i64 (v.tag:Int),.int .u64 (v.n:Int),.slice B v.b.length d,.slice A2 v.l.length c2])/\v.n<18446744073709551616 /\
   Hp (fun q=>q=tb) w w' [rLst G A c ts,rSG G (.slice B v.b.length d) v.b,rLst G A2 c2 v.l] [rBlk tb 287 [.slice A ts.length c,.bool b]]
section
variable{o:Oper}{a:Act}{F0:Nat->Prop}{w0 w w':World}{ro rs:List Res}{tb:Nat}{G:Nat->Prop}{A:Option Addr}{c:Nat}{ts:List DVal}{b:Bool}
/-- What comes back from a call that was given one thing to turn, and what it read. -/
theorem Hp.callR{ro':List Res}(h:Hp F0 w0 w ro rs)(i:Nat){r r':Res}(hi:rs[i]?=some r)(k:Nat){s:Res}(hk:ro[k]?=some s)(hc:Hp r.F w w' ro' [r'])(hL:∀ t ∈ ro',∀ q,t.F q->s.F q):Hp F0 w0 w' (ro'++ro) (rs.set i r'):=by
 have hu:=h.upd i hi hc.fr r' (hc.own 0 _ rfl) (hc.mine 0 _ rfl)
 have hd:∀ t ∈ ro',∀ (j:Nat) (u:Res),(rs.set i r')[j]?=some u->t.dj u:=fun t ht j u hj q h1 h2=>by
   by_cases hij:j=i
   · subst hij
     rw [List.getElem?_set_self (List.getElem?_eq_some_iff.1 hi).1] at hj
     injection hj with hj;subst hj
     obtain ⟨m,hm,rfl⟩:=List.getElem_of_mem ht
     exact hc.rdis m 0 _ _ (List.getElem?_eq_getElem hm) rfl q h1 h2
   rw [List.getElem?_set_ne (by omega)] at hj
   exact h.rdis k j _ u hk hj q (hL t ht q h1) h2
 have hr:∀ t ∈ ro',t.Φ w':=fun t ht=>by
   obtain ⟨m,hm,rfl⟩:=List.getElem_of_mem ht
   exact hc.red m _ (List.getElem?_eq_getElem hm)
 clear hc hL
 induction ro' with
 | nil=>exact hu
 | cons t l ih=>exact (ih (fun t ht=>hd t (by simp [ht])) (fun t ht=>hr t (by simp [ht]))).addR t (hr t (by simp)) (hd t (by simp))
/-- The taker's methods, at their callers. -/
theorem x_tk(h:Hp F0 w0 w ro rs)(i:Nat){cs:List Value}(hi:rs[i]?=some (rBlk tb 287 cs))(k:Nat)(hk:ro[k]?=some (rLst G A c ts)){T:TkSt}{u:Value}(fn:FuncId)(al:List Value)(hp:pureVal Tryz.prog (execOp a.eval o)=some (.enter fn al.toArray))(hc:Calls Tryz.prog fn al.toArray w (TkPost w tb G T u)) :
   OpTo Tryz.prog o a w (fun u' w'=>∃ A c ts b,ts=T.1/\b=T.2/\u'=u/\Hp F0 w0 w' (rLst G A c ts::ro) (rs.set i (rBlk tb 287 [.slice A ts.length c,.bool b]))):=
 OpTo.enter fn al hp hc fun e w' ⟨A,c,ts,b,h1,h2,he,hh⟩=>⟨_,he,A,c,ts,b,h1,h2,rfl,h.callR i hi k hk (Hp.weaken hh (fun q hq=>hq ▸ rfl)) (by intro t ht;simp at ht;subst ht;exact fun q hq=>hq)⟩
theorem x_bk(h:Hp F0 w0 w ro rs)(i:Nat){cs:List Value}(hi:rs[i]?=some (rBlk tb 287 cs))(k:Nat)(hk:ro[k]?=some (rLst G A c ts)){T:TkSt}{l:Bytes}(fn:FuncId)(al:List Value)(hp:pureVal Tryz.prog (execOp a.eval o)=some (.enter fn al.toArray))(hc:Calls Tryz.prog fn al.toArray w (BkPost w tb G T l)) :
   OpTo Tryz.prog o a w (fun u' w'=>∃ A c ts b B d,ts=T.1/\b=T.2/\u'=.slice B l.length d/\Hp F0 w0 w' (rLst G A c ts::rSG G (.slice B l.length d) l::ro) (rs.set i (rBlk tb 287 [.slice A ts.length c,.bool b]))):=
 OpTo.enter fn al hp hc fun e w' ⟨A,c,ts,b,B,d,h1,h2,he,hh⟩=>⟨_,he,A,c,ts,b,B,d,h1,h2,rfl,h.callR i hi k hk (Hp.weaken hh (fun q hq=>hq ▸ rfl)) (by intro t ht;simp at ht;rcases ht with rfl|rfl <;> exact fun q hq=>hq)⟩
theorem x_nx(h:Hp F0 w0 w ro rs)(i:Nat){cs:List Value}(hi:rs[i]?=some (rBlk tb 287 cs))(k:Nat)(hk:ro[k]?=some (rLst G A c ts)){T:TkSt}{v:DVal}(fn:FuncId)(al:List Value)(hp:pureVal Tryz.prog (execOp a.eval o)=some (.enter fn al.toArray))(hc:Calls Tryz.prog fn al.toArray w (NxPost w tb G T v)) :
   OpTo Tryz.prog o a w (fun u' w'=>∃ A c B d A2 c2 ts b,ts=T.1/\b=T.2/\u'=.agg #[.int .i64 (v.kind:Int),.int .i64 (v.tag:Int),.int .u64 (v.n:Int),.slice B v.b.length d,.slice A2 v.l.length c2]/\v.n<18446744073709551616 /\
     Hp F0 w0 w' (rLst G A c ts::rSG G (.slice B v.b.length d) v.b::rLst G A2 c2 v.l::ro) (rs.set i (rBlk tb 287 [.slice A ts.length c,.bool b]))):=
 OpTo.enter fn al hp hc fun e w' ⟨A,c,B,d,A2,c2,ts,b,h1,h2,he,hn,hh⟩=>⟨_,he,A,c,B,d,A2,c2,ts,b,h1,h2,rfl,hn,h.callR i hi k hk (Hp.weaken hh (fun q hq=>hq ▸ rfl)) (by intro t ht;simp at ht;rcases ht with rfl|rfl|rfl <;> exact fun q hq=>hq)⟩
end
end
section
open Go.Value renaming int->iV,slice->lV,string->sV,bool->bV,agg->aV
open Go.RowKit Go.QT
theorem sel1{a s:Res}{j:Nat}(h:[a][j]?=some s):some a=some s:=by
 cases j with
 | zero=>exact h
 | succ j=>cases h
theorem len_pos0{v:DVal}{r:List DVal}:bV ((((v::r).length:Nat):Int) == 0)=bV false:=by
 congr 1
theorem next_nil{tb:Nat}{G:Nat->Prop}{A:Option Addr}{c:Nat}{bad:Bool}(k:Nat){w:World}(hL:(rLst G A c (([]:List DVal))).Φ w)(hb:Blk w tb 287 [.slice A (([]:List DVal)).length c,.bool bad])(hd:¬ G tb):Calls Tryz.prog 130 #[pt tb 0,.int .i64 (k:Int)] w (NxPost w tb G ([],true) zDV):=by
 have hdd:∀ (j:Nat) (s:Res),[rBlk tb 287 [.slice A 0 c,.bool bad]][j]?=some s->(rLst G A c (([]:List DVal))).dj s:=fun j s hj q h1 h2=>by
   have h3:=sel1 hj
   injection h3 with h3
   subst h3
   exact hd (by rw [show q=tb from h2] at h1;exact h1)
 have h0:=((Hp.one (rBlk tb 287 [.slice A 0 c,.bool bad]) hb).weaken (F:=fun q=>q=tb) (fun q hq=>hq)).addR (rLst G A c ([])) hL hdd
 refine mE 55 ?_
 refine mN h0 196 ([zO,zO,(iV .u64 0),zN,zN]) fun g2 w2 h2=>?_
 refine ma h2 1 ?_
 refine mT (xSt h2 1 4 (.tmp 36) (.const zI) 1 zI ([(lV A 0 c),zI])) fun _ w6 h6=>?_
 refine mT (xSt h6 1 194 (.tmp 38) (.const zN) 0 zN ([zN,zI])) fun _ w7 h7=>?_
 refine mT (xSs h7 0 196 (.tmp 4) (.tmp 39) 0 ([zO,zO,(iV .u64 0),zN,zN]) ([zO,zO,(iV .u64 0),zN,zN])) fun _ w9 h9=>?_
 refine mF (post_1 (r:=.cell 4 196) (by kernel_rfl) rfl (rce (h9.at_ 0 rfl)) ?_)
 exact ⟨none,0,none,0,none,0,[],true,rfl,rfl,rfl,by decide,(((h9.sel [1] [] rfl rfl rfl).addR (rLst G none 0 []) (lst_nil (fun q hq=>Nat.lt_of_lt_of_le (hL.1 q hq) h9.fr.size) _ _ (by unfold maxLen;omega)) (fun j s hj q h1 h2=>h9.rdis 0 1 _ s rfl (sel1 hj) q h1 h2)).addR (rSG G (.slice none 0 0) []) (sg_nil (fun q hq=>Nat.lt_of_lt_of_le (hL.1 q hq) h9.fr.size)) (fun j s hj q h1 h2=>h9.rdis 0 1 _ s rfl (sel1 hj) q h1 h2)).addR (rLst G none 0 []) (lst_nil (fun q hq=>Nat.lt_of_lt_of_le (hL.1 q hq) h9.fr.size) _ _ (by unfold maxLen;omega)) (fun j s hj q h1 h2=>h9.rdis 0 1 _ s rfl (sel1 hj) q h1 h2)⟩
theorem next_kind{tb:Nat}{G:Nat->Prop}{A:Option Addr}{c:Nat}{bad:Bool}(k:Nat){w:World}(v:DVal)(r:List DVal)(hk:v.kind≠k)(hL:(rLst G A c (v::r)).Φ w)(hb:Blk w tb 287 [.slice A (v::r).length c,.bool bad])(hd:¬ G tb):Calls Tryz.prog 130 #[pt tb 0,.int .i64 (k:Int)] w (NxPost w tb G ([],true) zDV):=by
 obtain ⟨xs,cs,hx,hll,hxi,hv,hxF⟩:=lst_head hL
 obtain ⟨B,d,A2,c2,rfl,hsg,hls,hn⟩:=dv_lst hv
 have hxx:=hxi
 have hdd:∀ (j:Nat) (s:Res),[rBlk tb 287 [.slice A (v::r).length c,.bool bad]][j]?=some s->(rLst G A c (v::r)).dj s:=fun j s hj q h1 h2=>by
   have h3:=sel1 hj
   injection h3 with h3
   subst h3
   exact hd (by rw [show q=tb from h2] at h1;exact h1)
 have h0:=((((((Hp.one (rBlk tb 287 [.slice A (v::r).length c,.bool bad]) hb).weaken (F:=fun q=>q=tb) (fun q hq=>hq)).addR (rLst G A c (v::r)) hL hdd).addR (rRV 5 A c xs) hx (fun j s hj q h1 h2=>hdd j s hj q (hxF q h1) h2)).addR (rLst G A2 c2 v.l) hls (fun j s hj=>hdd j s hj)).addR (rSG G (.slice B v.b.length d) v.b) hsg (fun j s hj=>hdd j s hj))
 refine mE 55 ?_
 refine mN h0 196 ([zO,zO,(iV .u64 0),zN,zN]) fun g2 w2 h2=>?_
 refine ma h2 1 ?_
 refine mX 11 zV (bV ((((v::r).length:Int)) == 0)) len_pos0 ?_
 refine ma h2 1 ?_
 refine mW 17 (eIx (RV.lenIs (n:=(v::r).length) (h2.rd 2 rfl) hll).2 0 ((v::r).length) (RV.lenIs (n:=(v::r).length) (h2.rd 2 rfl) hll).1 (by simp) 194 (.tmp 16) (.const zO) .i64 196) ?_
 refine mW 18 (e_fldN (RV.lenIs (n:=(v::r).length) (h2.rd 2 rfl) hll).2 0 0 0 ([(zD ((v.kind:Int))),(zD ((v.tag:Int))),(iV .u64 ((v.n:Int))),(lV B v.b.length d),(lV A2 v.l.length c2)]) hxi (.tmp 17) (by kernel_rfl) (fun _ _=>by kernel_rfl) (fun _=>by kernel_rfl) _) ?_
 refine mW 19 (eEl (RV.lenIs (n:=(v::r).length) (h2.rd 2 rfl) hll).2 0 0 ([(zD ((v.kind:Int))),(zD ((v.tag:Int))),(iV .u64 ((v.n:Int))),(lV B v.b.length d),(lV A2 v.l.length c2)]) hxi 3 (.tmp 18) (zD ((v.kind:Int)))) ?_
 refine mX 21 zI (bV (((v.kind:Int)) != ((k:Int)))) (ine hk) ?_
 refine mT (xSt h2 1 4 (.tmp 36) (.const zI) 1 zI ([(lV A ((v::r).length) c),zI])) fun _ w6 h6=>?_
 refine mT (xSt h6 1 194 (.tmp 38) (.const zN) 0 zN ([zN,zI])) fun _ w7 h7=>?_
 refine mT (xSs h7 0 196 (.tmp 4) (.tmp 39) 0 ([zO,zO,(iV .u64 0),zN,zN]) ([zO,zO,(iV .u64 0),zN,zN])) fun _ w9 h9=>?_
 refine mF (post_1 (r:=.cell 4 196) (by kernel_rfl) rfl (rce (h9.at_ 0 rfl)) ?_)
 exact ⟨none,0,none,0,none,0,[],true,rfl,rfl,rfl,by decide,(((h9.sel [1] [] rfl rfl rfl).addR (rLst G none 0 []) (lst_nil (fun q hq=>Nat.lt_of_lt_of_le (hL.1 q hq) h9.fr.size) _ _ (by unfold maxLen;omega)) (fun j s hj q h1 h2=>h9.rdis 3 1 _ s rfl (sel1 hj) q h1 h2)).addR (rSG G (.slice none 0 0) []) (sg_nil (fun q hq=>Nat.lt_of_lt_of_le (hL.1 q hq) h9.fr.size)) (fun j s hj q h1 h2=>h9.rdis 3 1 _ s rfl (sel1 hj) q h1 h2)).addR (rLst G none 0 []) (lst_nil (fun q hq=>Nat.lt_of_lt_of_le (hL.1 q hq) h9.fr.size) _ _ (by unfold maxLen;omega)) (fun j s hj q h1 h2=>h9.rdis 3 1 _ s rfl (sel1 hj) q h1 h2)⟩
theorem next_tag{tb:Nat}{G:Nat->Prop}{A:Option Addr}{c:Nat}{bad:Bool}(k:Nat){w:World}(v:DVal)(r:List DVal)(hk:v.kind=k)(ht:v.tag≠0)(hL:(rLst G A c (v::r)).Φ w)(hb:Blk w tb 287 [.slice A (v::r).length c,.bool bad])(hd:¬ G tb):Calls Tryz.prog 130 #[pt tb 0,.int .i64 (k:Int)] w (NxPost w tb G ([],true) zDV):=by
 obtain ⟨xs,cs,hx,hll,hxi,hv,hxF⟩:=lst_head hL
 obtain ⟨B,d,A2,c2,rfl,hsg,hls,hn⟩:=dv_lst hv
 have hxx:=hxi
 have hdd:∀ (j:Nat) (s:Res),[rBlk tb 287 [.slice A (v::r).length c,.bool bad]][j]?=some s->(rLst G A c (v::r)).dj s:=fun j s hj q h1 h2=>by
   have h3:=sel1 hj
   injection h3 with h3
   subst h3
   exact hd (by rw [show q=tb from h2] at h1;exact h1)
 have h0:=((((((Hp.one (rBlk tb 287 [.slice A (v::r).length c,.bool bad]) hb).weaken (F:=fun q=>q=tb) (fun q hq=>hq)).addR (rLst G A c (v::r)) hL hdd).addR (rRV 5 A c xs) hx (fun j s hj q h1 h2=>hdd j s hj q (hxF q h1) h2)).addR (rLst G A2 c2 v.l) hls (fun j s hj=>hdd j s hj)).addR (rSG G (.slice B v.b.length d) v.b) hsg (fun j s hj=>hdd j s hj))
 refine mE 55 ?_
 refine mN h0 196 ([zO,zO,(iV .u64 0),zN,zN]) fun g2 w2 h2=>?_
 refine ma h2 1 ?_
 refine mX 11 zV (bV ((((v::r).length:Int)) == 0)) len_pos0 ?_
 refine ma h2 1 ?_
 refine mW 17 (eIx (RV.lenIs (n:=(v::r).length) (h2.rd 2 rfl) hll).2 0 ((v::r).length) (RV.lenIs (n:=(v::r).length) (h2.rd 2 rfl) hll).1 (by simp) 194 (.tmp 16) (.const zO) .i64 196) ?_
 refine mW 18 (e_fldN (RV.lenIs (n:=(v::r).length) (h2.rd 2 rfl) hll).2 0 0 0 ([(zD ((v.kind:Int))),(zD ((v.tag:Int))),(iV .u64 ((v.n:Int))),(lV B v.b.length d),(lV A2 v.l.length c2)]) hxi (.tmp 17) (by kernel_rfl) (fun _ _=>by kernel_rfl) (fun _=>by kernel_rfl) _) ?_
 refine mW 19 (eEl (RV.lenIs (n:=(v::r).length) (h2.rd 2 rfl) hll).2 0 0 ([(zD ((v.kind:Int))),(zD ((v.tag:Int))),(iV .u64 ((v.n:Int))),(lV B v.b.length d),(lV A2 v.l.length c2)]) hxi 3 (.tmp 18) (zD ((v.kind:Int)))) ?_
 refine mX 21 zV (bV (((v.kind:Int)) != ((k:Int)))) (ieq hk) ?_
 refine ma h2 1 ?_
 refine mW 28 (eIx (RV.lenIs (n:=(v::r).length) (h2.rd 2 rfl) hll).2 0 ((v::r).length) (RV.lenIs (n:=(v::r).length) (h2.rd 2 rfl) hll).1 (by simp) 194 (.tmp 27) (.const zO) .i64 196) ?_
 refine mW 29 (e_fldN (RV.lenIs (n:=(v::r).length) (h2.rd 2 rfl) hll).2 0 0 1 ([(zD ((v.kind:Int))),(zD ((v.tag:Int))),(iV .u64 ((v.n:Int))),(lV B v.b.length d),(lV A2 v.l.length c2)]) hxi (.tmp 28) (by kernel_rfl) (fun _ _=>by kernel_rfl) (fun _=>by kernel_rfl) _) ?_
 refine mW 30 (eEl (RV.lenIs (n:=(v::r).length) (h2.rd 2 rfl) hll).2 0 1 ([(zD ((v.kind:Int))),(zD ((v.tag:Int))),(iV .u64 ((v.n:Int))),(lV B v.b.length d),(lV A2 v.l.length c2)]) hxi 3 (.tmp 29) (zD ((v.tag:Int)))) ?_
 refine mX 31 zI (bV (((v.tag:Int)) != 0)) (ine (b:=0) ht) ?_
 refine mT (xSt h2 1 4 (.tmp 36) (.const zI) 1 zI ([(lV A ((v::r).length) c),zI])) fun _ w6 h6=>?_
 refine mT (xSt h6 1 194 (.tmp 38) (.const zN) 0 zN ([zN,zI])) fun _ w7 h7=>?_
 refine mT (xSs h7 0 196 (.tmp 4) (.tmp 39) 0 ([zO,zO,(iV .u64 0),zN,zN]) ([zO,zO,(iV .u64 0),zN,zN])) fun _ w9 h9=>?_
 refine mF (post_1 (r:=.cell 4 196) (by kernel_rfl) rfl (rce (h9.at_ 0 rfl)) ?_)
 exact ⟨none,0,none,0,none,0,[],true,rfl,rfl,rfl,by decide,(((h9.sel [1] [] rfl rfl rfl).addR (rLst G none 0 []) (lst_nil (fun q hq=>Nat.lt_of_lt_of_le (hL.1 q hq) h9.fr.size) _ _ (by unfold maxLen;omega)) (fun j s hj q h1 h2=>h9.rdis 3 1 _ s rfl (sel1 hj) q h1 h2)).addR (rSG G (.slice none 0 0) []) (sg_nil (fun q hq=>Nat.lt_of_lt_of_le (hL.1 q hq) h9.fr.size)) (fun j s hj q h1 h2=>h9.rdis 3 1 _ s rfl (sel1 hj) q h1 h2)).addR (rLst G none 0 []) (lst_nil (fun q hq=>Nat.lt_of_lt_of_le (hL.1 q hq) h9.fr.size) _ _ (by unfold maxLen;omega)) (fun j s hj q h1 h2=>h9.rdis 3 1 _ s rfl (sel1 hj) q h1 h2)⟩
theorem next_good{tb:Nat}{G:Nat->Prop}{A:Option Addr}{c:Nat}{bad:Bool}(k:Nat){w:World}(v:DVal)(r:List DVal)(hk:v.kind=k)(ht:v.tag=0)(hL:(rLst G A c (v::r)).Φ w)(hb:Blk w tb 287 [.slice A (v::r).length c,.bool bad])(hd:¬ G tb):Calls Tryz.prog 130 #[pt tb 0,.int .i64 (k:Int)] w (NxPost w tb G (r,bad) v):=by
 obtain ⟨xs,cs,hx,hll,hxi,hv,hxF⟩:=lst_head hL
 obtain ⟨B,d,A2,c2,rfl,hsg,hls,hn⟩:=dv_lst hv
 have hxx:=hxi
 have hdd:∀ (j:Nat) (s:Res),[rBlk tb 287 [.slice A (v::r).length c,.bool bad]][j]?=some s->(rLst G A c (v::r)).dj s:=fun j s hj q h1 h2=>by
   have h3:=sel1 hj
   injection h3 with h3
   subst h3
   exact hd (by rw [show q=tb from h2] at h1;exact h1)
 have h0:=((((((Hp.one (rBlk tb 287 [.slice A (v::r).length c,.bool bad]) hb).weaken (F:=fun q=>q=tb) (fun q hq=>hq)).addR (rLst G A c (v::r)) hL hdd).addR (rRV 5 A c xs) hx (fun j s hj q h1 h2=>hdd j s hj q (hxF q h1) h2)).addR (rLst G A2 c2 v.l) hls (fun j s hj=>hdd j s hj)).addR (rSG G (.slice B v.b.length d) v.b) hsg (fun j s hj=>hdd j s hj))
 refine mE 55 ?_
 refine mN h0 196 ([zO,zO,(iV .u64 0),zN,zN]) fun g2 w2 h2=>?_
 refine ma h2 1 ?_
 refine mX 11 zV (bV ((((v::r).length:Int)) == 0)) len_pos0 ?_
 refine ma h2 1 ?_
 refine mW 17 (eIx (RV.lenIs (n:=(v::r).length) (h2.rd 2 rfl) hll).2 0 ((v::r).length) (RV.lenIs (n:=(v::r).length) (h2.rd 2 rfl) hll).1 (by simp) 194 (.tmp 16) (.const zO) .i64 196) ?_
 refine mW 18 (e_fldN (RV.lenIs (n:=(v::r).length) (h2.rd 2 rfl) hll).2 0 0 0 ([(zD ((v.kind:Int))),(zD ((v.tag:Int))),(iV .u64 ((v.n:Int))),(lV B v.b.length d),(lV A2 v.l.length c2)]) hxi (.tmp 17) (by kernel_rfl) (fun _ _=>by kernel_rfl) (fun _=>by kernel_rfl) _) ?_
 refine mW 19 (eEl (RV.lenIs (n:=(v::r).length) (h2.rd 2 rfl) hll).2 0 0 ([(zD ((v.kind:Int))),(zD ((v.tag:Int))),(iV .u64 ((v.n:Int))),(lV B v.b.length d),(lV A2 v.l.length c2)]) hxi 3 (.tmp 18) (zD ((v.kind:Int)))) ?_
 refine mX 21 zV (bV (((v.kind:Int)) != ((k:Int)))) (ieq hk) ?_
 refine ma h2 1 ?_
 refine mW 28 (eIx (RV.lenIs (n:=(v::r).length) (h2.rd 2 rfl) hll).2 0 ((v::r).length) (RV.lenIs (n:=(v::r).length) (h2.rd 2 rfl) hll).1 (by simp) 194 (.tmp 27) (.const zO) .i64 196) ?_
 refine mW 29 (e_fldN (RV.lenIs (n:=(v::r).length) (h2.rd 2 rfl) hll).2 0 0 1 ([(zD ((v.kind:Int))),(zD ((v.tag:Int))),(iV .u64 ((v.n:Int))),(lV B v.b.length d),(lV A2 v.l.length c2)]) hxi (.tmp 28) (by kernel_rfl) (fun _ _=>by kernel_rfl) (fun _=>by kernel_rfl) _) ?_
 refine mW 30 (eEl (RV.lenIs (n:=(v::r).length) (h2.rd 2 rfl) hll).2 0 1 ([(zD ((v.kind:Int))),(zD ((v.tag:Int))),(iV .u64 ((v.n:Int))),(lV B v.b.length d),(lV A2 v.l.length c2)]) hxi 3 (.tmp 29) (zD ((v.tag:Int)))) ?_
 refine mX 31 zV (bV (((v.tag:Int)) != 0)) (ieq (b:=0) ht) ?_
 refine ma h2 1 ?_
 refine mW 44 (eIx (RV.lenIs (n:=(v::r).length) (h2.rd 2 rfl) hll).2 0 ((v::r).length) (RV.lenIs (n:=(v::r).length) (h2.rd 2 rfl) hll).1 (by simp) 194 (.tmp 43) (.const zO) .i64 196) ?_
 refine mW 45 (e_elemsN (RV.lenIs (n:=(v::r).length) (h2.rd 2 rfl) hll).2 0 0 ([(zD ((v.kind:Int))),(zD ((v.tag:Int))),(iV .u64 ((v.n:Int))),(lV B v.b.length d),(lV A2 v.l.length c2)]) hxi 196 (.tmp 44) (by kernel_rfl) ([(zD ((v.kind:Int))),(zD ((v.tag:Int))),(iV .u64 ((v.n:Int))),(lV B v.b.length d),(lV A2 v.l.length c2)]) (by kernel_rfl) (by kernel_rfl) (by kernel_rfl)) ?_
 refine mN h2 196 ([zO,zO,(iV .u64 0),zN,zN]) fun g6 w6 h6=>?_
 refine mT (xSs h6 0 196 (.tmp 5) (.tmp 45) 0 ([(zD ((v.kind:Int))),(zD ((v.tag:Int))),(iV .u64 ((v.n:Int))),(lV B v.b.length d),(lV A2 v.l.length c2)]) ([(zD ((v.kind:Int))),(zD ((v.tag:Int))),(iV .u64 ((v.n:Int))),(lV B v.b.length d),(lV A2 v.l.length c2)])) fun _ w7 h7=>?_
 refine ma h7 2 ?_
 refine mW 51 (v:=(lV (tlA 5 A c) r.length ((c-1)))) (e_tailA (n:=(v::r).length) (by simp) 194 (.tmp 50) (.const (zD 1)) (by kernel_rfl) (by kernel_rfl) .i64 (by kernel_rfl) (by kernel_rfl) (by kernel_rfl) _) ?_
 refine mT (xSt h7 2 194 (.tmp 53) (.tmp 51) 0 (lV (tlA 5 A c) r.length ((c-1))) ([(lV (tlA 5 A c) r.length ((c-1))),(bV bad)])) fun _ w9 h9=>?_
 refine ma h9 0 ?_
 refine mT (xSs h9 1 196 (.tmp 4) (.tmp 54) 0 ([(zD ((v.kind:Int))),(zD ((v.tag:Int))),(iV .u64 ((v.n:Int))),(lV B v.b.length d),(lV A2 v.l.length c2)]) ([(zD ((v.kind:Int))),(zD ((v.tag:Int))),(iV .u64 ((v.n:Int))),(lV B v.b.length d),(lV A2 v.l.length c2)])) fun _ w11 h11=>?_
 refine mF (post_1 (r:=.cell 4 196) (by kernel_rfl) rfl (rce (h11.at_ 1 rfl)) ?_)
 exact ⟨_,_,_,_,_,_,r,bad,rfl,rfl,rfl,hn,(h11.sel [2] [0,1] rfl rfl rfl).addR (rLst G (tlA 5 A c) (c-1) r) (lst_tail (h11.rd 3 rfl)) (fun j s hj q h1 h2=>h11.rdis 3 2 _ s rfl (sel1 hj) q h1 h2)⟩
theorem next_any{tb:Nat}{G:Nat->Prop}{A:Option Addr}{c:Nat}{bad:Bool}{ts:List DVal}(k:Nat){w:World}(hL:(rLst G A c ts).Φ w)(hb:Blk w tb 287 [.slice A ts.length c,.bool bad])(hd:¬ G tb) :
   Calls Tryz.prog 130 #[pt tb 0,.int .i64 (k:Int)] w (NxPost w tb G (nxT k (ts,bad)) (nxV k ts)):=by
 cases ts with
 | nil=>exact next_nil k hL hb hd
 | cons v r =>
   by_cases hk:v.kind=k
   · by_cases ht:v.tag=0
     · rw [(nx_good (r:=r) hk ht bad).1,(nx_good hk ht bad).2];exact next_good k v r hk ht hL hb hd
     rw [(nx_bad (r:=r) (.inr ht:v.kind≠k∨v.tag≠0) bad).1,(nx_bad (.inr ht:v.kind≠k∨v.tag≠0) bad).2];exact next_tag k v r hk ht hL hb hd
   rw [(nx_bad (r:=r) (.inl hk:v.kind≠k∨v.tag≠0) bad).1,(nx_bad (.inl hk:v.kind≠k∨v.tag≠0) bad).2];exact next_kind k v r hk hL hb hd
end
end Go.Proofs.YtaoijkhndakppaaGreat
