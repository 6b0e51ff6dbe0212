/- The walks of package cache: Show. -/
import Derived.Laws.StructEq
import Derived.Deep.AppendSrc
import Derived.Test.YtdefpmmdpfpipaaGreatCA11
set_option maxRecDepth 100000
set_option maxHeartbeats 4000000
namespace Go.Proofs.YtdefpmmdpfpipaaGreat
section
open Go.RowKit Go.QT
theorem give_2{F:Nat->Prop}{kb tb bb:Nat}{Kk Kx Ky Ki:Fin 16->UInt8}{s:STab}{server s1:ByteArray}{f a u r nonce us:Int}{w:World}(hT:(rTab F tb s).Φ w)(hs:Room 5 s)(hK:Blk w kb 78 (kdcC tb bb Kk))(hd:¬ F kb)(hl:s1.size<=1000)(hl2:server.size<=1000){b1:Bytes}{cc:Nat}(hp1:packB (.inside f Ki s1 a u r)=.inr b1)(hp:packB (.reply f Ki nonce server a u r)=.inl cc):Calls Tryz.prog 32 #[(pt kb 0),(Value.string server),(Value.agg (vb (kl Kx)).toArray),(Value.agg ([(Value.int .i64 f)]++vb (kl Ki)++[(Value.string s1),(Value.int .i64 a),(Value.int .i64 u),(Value.int .i64 r)]).toArray),(Value.int .i64 nonce),(Value.agg (vb (kl Ky)).toArray),(Value.int .i64 us)] w (GiveNo w F tb (s.seal (kl Kx) 2 b1) cc):=by
 have h0:=(Hp.one (rTab F tb s) hT).addR (rBlk kb 78 (kdcC tb bb Kk)) hK (fun j s hj q h1 h2=>by have h3:=sel1 hj;injection h3 with h3;subst h3;exact hd (by rw [show q=kb from h1] at h2;exact h2))
 refine mE 69 ?_
 refine mN h0 31 (vb (kl Kx)) fun g2 w2 h2=>?_
 refine mN h2 54 ([(Value.int .i64 f)]++vb (kl Ki)++[(Value.string s1),(Value.int .i64 a),(Value.int .i64 u),(Value.int .i64 r)]) fun g3 w3 h3=>?_
 refine mN h3 31 (vb (kl Ky)) fun g4 w4 h4=>?_
 refine mN h4 35 ([(Value.string ByteArray.empty),(Value.slice none 0 0)]) fun g5 w5 h5=>?_
 refine dG h5 13 12 (fun W=>(rBlk kb 78 ([(Value.iface 28 (pt tb 0)),(pt bb 0)]++vb (kl Kk))).Φ W/\(rBlk g2 31 (vb (kl Kx))).Φ W/\(rBlk g3 54 ([(Value.int .i64 f)]++vb (kl Ki)++[(Value.string s1),(Value.int .i64 a),(Value.int .i64 u),(Value.int .i64 r)])).Φ W/\True) (fun w7 h7=>⟨h7.rd 0 rfl,h7.at_ 3 rfl,h7.at_ 2 rfl,trivial⟩) ?_
 intro w7 h7
 refine dP 10 [0,1,2] ?_
 refine dL 3 (fun W hW=>hW.1) ?_
 refine dL 4 (fun W hW=>hW.2.1) ?_
 refine dL 5 (fun W hW=>hW.2.2.1) ?_
 refine dP 6 [6] ?_
 refine dT 7 (x_tseal h7 4 rfl Kx 2 hp1 (by kernel_rfl) hs.ok (rTh_inside _ f Ki s1 a u r) (fun _ hf=>hf.elim) (show s1.size<=100000 from by omega)) ?_
 rintro _ w8 ⟨A8,c8,F8,s8,rfl,hs8,h8⟩
 refine ⟨⟨h8.rd 0 rfl,h8.at_ 5 rfl,h8.at_ 4 rfl,trivial⟩,?_⟩
 have hr8:Room 4 s8:=by rw [hs8];exact hs.seal _ _ (by have:=pack_le hp1;omega)
 have hx8:s8.boxes.length=s.boxes.length+1:=by rw [hs8];simp [STab.seal]
 refine dP 1 [8,9,10,11] ?_
 refine dN 12 ?_
 refine dX ?_
 refine ma h8 4 ?_
 refine ma h8 4 ?_
 refine ma h8 4 ?_
 refine ma h8 4 ?_
 refine ma h8 4 ?_
 refine mN h8 33 ([(Value.int .i64 0)]++vb (List.replicate 16 0)++[(Value.int .i64 0),(Value.string ByteArray.empty),(Value.int .i64 0),(Value.int .i64 0),(Value.int .i64 0)]) fun g12 w12 h12=>?_
 refine mT (xSs h12 0 33 (.tmp 19) (.tmp 48) 0 ([(Value.int .i64 f)]++vb (kl Ki)++[(Value.int .i64 nonce),(Value.string server),(Value.int .i64 a),(Value.int .i64 u),(Value.int .i64 r)]) ([(Value.int .i64 f)]++vb (kl Ki)++[(Value.int .i64 nonce),(Value.string server),(Value.int .i64 a),(Value.int .i64 u),(Value.int .i64 r)])) fun _ w13 h13=>?_
 refine dG h13 14 13 (fun W=>(rBlk kb 78 ([(Value.iface 28 (pt tb 0)),(pt bb 0)]++vb (kl Kk))).Φ W/\(rBlk g4 31 (vb (kl Ky))).Φ W/\(rBlk g12 33 ([(Value.int .i64 f)]++vb (kl Ki)++[(Value.int .i64 nonce),(Value.string server),(Value.int .i64 a),(Value.int .i64 u),(Value.int .i64 r)])).Φ W/\True) (fun w15 h15=>⟨h15.rd 0 rfl,h15.at_ 4 rfl,h15.at_ 0 rfl,trivial⟩) ?_
 intro w15 h15
 refine dP 10 [0,1,2,5] ?_
 refine dL 3 (fun W hW=>hW.1) ?_
 refine dL 4 (fun W hW=>hW.2.1) ?_
 refine dL 6 (fun W hW=>hW.2.2.1) ?_
 refine dP 6 [7] ?_
 refine dT 8 (x_tsealN (tb:=tb) h15 Ky us hp (by kernel_rfl) (rTh_reply _ f Ki nonce server a u r) (show server.size<=100000 from by omega)) ?_
 rintro _ w16 ⟨rfl,h16⟩
 refine ⟨⟨h16.rd 0 rfl,h16.at_ 4 rfl,h16.at_ 0 rfl,trivial⟩,?_⟩
 refine dP 1 [9,10,11,12] ?_
 refine dN 13 ?_
 refine dX ?_
 refine mX 62 (.bool true) (Value.bool (((cc:Int)) != 0)) (ine (b:=0) (pack_er hp)) ?_
 refine mT (xSs h16 3 35 (.tmp 14) (.tmp 63) 0 ([(Value.string ByteArray.empty),(Value.slice none 0 0)]) ([(Value.string ByteArray.empty),(Value.slice none 0 0)])) fun _ w20 h20=>?_
 refine mF (post_3 (r:=.cell 14 35) (s:=.tmp 15) (t:=.tmp 16) (by kernel_rfl) rfl (rce (h20.at_ 3 rfl)) (rtm (Value.slice none 0 0)) (rtm (Value.int .i64 ((cc:Int)))) ?_)
 subst hs8
 exact ⟨rfl,_,h20.sel [1] [] rfl rfl rfl⟩
theorem give_ok{F:Nat->Prop}{kb tb bb:Nat}{Kk Kx Ky Ki:Fin 16->UInt8}{s:STab}{server s1:ByteArray}{f a u r nonce us:Int}{w:World}(hT:(rTab F tb s).Φ w)(hs:Room 5 s)(hK:Blk w kb 78 (kdcC tb bb Kk))(hd:¬ F kb)(hl:s1.size<=1000)(hl2:server.size<=1000){b1 b2:Bytes}(hp1:packB (.inside f Ki s1 a u r)=.inr b1)(hp2:packB (.reply f Ki nonce server a u r)=.inr b2):Calls Tryz.prog 32 #[(pt kb 0),(Value.string server),(Value.agg (vb (kl Kx)).toArray),(Value.agg ([(Value.int .i64 f)]++vb (kl Ki)++[(Value.string s1),(Value.int .i64 a),(Value.int .i64 u),(Value.int .i64 r)]).toArray),(Value.int .i64 nonce),(Value.agg (vb (kl Ky)).toArray),(Value.int .i64 us)] w (GivePost w F tb s ((s.seal (kl Kx) 2 b1).seal (kl Ky) us b2) server):=by
 have h0:=(Hp.one (rTab F tb s) hT).addR (rBlk kb 78 (kdcC tb bb Kk)) hK (fun j s hj q h1 h2=>by have h3:=sel1 hj;injection h3 with h3;subst h3;exact hd (by rw [show q=kb from h1] at h2;exact h2))
 refine mE 69 ?_
 refine mN h0 31 (vb (kl Kx)) fun g2 w2 h2=>?_
 refine mN h2 54 ([(Value.int .i64 f)]++vb (kl Ki)++[(Value.string s1),(Value.int .i64 a),(Value.int .i64 u),(Value.int .i64 r)]) fun g3 w3 h3=>?_
 refine mN h3 31 (vb (kl Ky)) fun g4 w4 h4=>?_
 refine mN h4 35 ([(Value.string ByteArray.empty),(Value.slice none 0 0)]) fun g5 w5 h5=>?_
 refine dG h5 13 12 (fun W=>(rBlk kb 78 ([(Value.iface 28 (pt tb 0)),(pt bb 0)]++vb (kl Kk))).Φ W/\(rBlk g2 31 (vb (kl Kx))).Φ W/\(rBlk g3 54 ([(Value.int .i64 f)]++vb (kl Ki)++[(Value.string s1),(Value.int .i64 a),(Value.int .i64 u),(Value.int .i64 r)])).Φ W/\True) (fun w7 h7=>⟨h7.rd 0 rfl,h7.at_ 3 rfl,h7.at_ 2 rfl,trivial⟩) ?_
 intro w7 h7
 refine dP 10 [0,1,2] ?_
 refine dL 3 (fun W hW=>hW.1) ?_
 refine dL 4 (fun W hW=>hW.2.1) ?_
 refine dL 5 (fun W hW=>hW.2.2.1) ?_
 refine dP 6 [6] ?_
 refine dT 7 (x_tseal h7 4 rfl Kx 2 hp1 (by kernel_rfl) hs.ok (rTh_inside _ f Ki s1 a u r) (fun _ hf=>hf.elim) (show s1.size<=100000 from by omega)) ?_
 rintro _ w8 ⟨A8,c8,F8,s8,rfl,hs8,h8⟩
 refine ⟨⟨h8.rd 0 rfl,h8.at_ 5 rfl,h8.at_ 4 rfl,trivial⟩,?_⟩
 have hr8:Room 4 s8:=by rw [hs8];exact hs.seal _ _ (by have:=pack_le hp1;omega)
 have hx8:s8.boxes.length=s.boxes.length+1:=by rw [hs8];simp [STab.seal]
 refine dP 1 [8,9,10,11] ?_
 refine dN 12 ?_
 refine dX ?_
 refine ma h8 4 ?_
 refine ma h8 4 ?_
 refine ma h8 4 ?_
 refine ma h8 4 ?_
 refine ma h8 4 ?_
 refine mN h8 33 ([(Value.int .i64 0)]++vb (List.replicate 16 0)++[(Value.int .i64 0),(Value.string ByteArray.empty),(Value.int .i64 0),(Value.int .i64 0),(Value.int .i64 0)]) fun g12 w12 h12=>?_
 refine mT (xSs h12 0 33 (.tmp 19) (.tmp 48) 0 ([(Value.int .i64 f)]++vb (kl Ki)++[(Value.int .i64 nonce),(Value.string server),(Value.int .i64 a),(Value.int .i64 u),(Value.int .i64 r)]) ([(Value.int .i64 f)]++vb (kl Ki)++[(Value.int .i64 nonce),(Value.string server),(Value.int .i64 a),(Value.int .i64 u),(Value.int .i64 r)])) fun _ w13 h13=>?_
 refine dG h13 14 13 (fun W=>(rBlk kb 78 ([(Value.iface 28 (pt tb 0)),(pt bb 0)]++vb (kl Kk))).Φ W/\(rBlk g4 31 (vb (kl Ky))).Φ W/\(rBlk g12 33 ([(Value.int .i64 f)]++vb (kl Ki)++[(Value.int .i64 nonce),(Value.string server),(Value.int .i64 a),(Value.int .i64 u),(Value.int .i64 r)])).Φ W/\True) (fun w15 h15=>⟨h15.rd 0 rfl,h15.at_ 4 rfl,h15.at_ 0 rfl,trivial⟩) ?_
 intro w15 h15
 refine dP 10 [0,1,2,5] ?_
 refine dL 3 (fun W hW=>hW.1) ?_
 refine dL 4 (fun W hW=>hW.2.1) ?_
 refine dL 6 (fun W hW=>hW.2.2.1) ?_
 refine dP 6 [7] ?_
 refine dT 8 (x_tseal h15 1 rfl Ky us hp2 (by kernel_rfl) hr8.ok (rTh_reply _ f Ki nonce server a u r) (fun _ hf=>hf.elim) (show server.size<=100000 from by omega)) ?_
 rintro _ w16 ⟨A16,c16,F16,s16,rfl,hs16,h16⟩
 refine ⟨⟨h16.rd 0 rfl,h16.at_ 5 rfl,h16.at_ 2 rfl,trivial⟩,?_⟩
 refine dP 1 [9,10,11,12] ?_
 refine dN 13 ?_
 refine dX ?_
 refine mT (xSs h16 4 35 (.tmp 14) (.tmp 67) 0 ([(Value.string server),(Value.slice A8 16 c8)]) ([(Value.string server),(Value.slice A8 16 c8)])) fun _ w20 h20=>?_
 refine mF (post_3 (r:=.cell 14 35) (s:=.tmp 15) (t:=.tmp 16) (by kernel_rfl) rfl (rce (h20.at_ 4 rfl)) (rtm (Value.slice A16 16 c16)) (rtm (Value.int .i64 0)) ?_)
 rw [hx8] at h20
 subst hs16
 subst hs8
 exact ⟨_,_,_,_,_,rfl,h20.sel [0,3,1] [] rfl rfl rfl⟩
end
section
open Go.RowKit Go.QT
theorem x_bnew{o:Oper}{a:Act}{F0:Nat->Prop}{w0 w:World}{ro rs:List Res}(h:Hp F0 w0 w ro rs)(hp:pureVal Tryz.prog (execOp a.eval o)=some (.enter 58 #[])) :
   OpTo Tryz.prog o a w (fun u w'=>∃ G bb,u=pt bb 0/\Hp F0 w0 w' ro (rBs G bb []::rs)):=
 OpTo.enter 58 [] hp (bnew_any w) fun _ _ ⟨G,bb,he,hh⟩=>⟨_,he,G,bb,rfl,h.call0 hh⟩
/-- Add, where it adds. -/
theorem x_badd{o:Oper}{a:Act}{F0:Nat->Prop}{w0 w:World}{ro rs:List Res}{G:Nat->Prop}{bb:Nat}{us us':List User}(h:Hp F0 w0 w ro rs)(i:Nat)(hi:rs[i]?=some (rBs G bb us))(al:List Value)(hp:pureVal Tryz.prog (execOp a.eval o)=some (.enter 43 al.toArray))(hc:(rBs G bb us).Φ w->Calls Tryz.prog 43 al.toArray w (fun e w'=>e=.returned (.int .i64 0)/\∃ G',Hp G w w' [] [rBs G' bb us'])) :
   OpTo Tryz.prog o a w (fun u w'=>∃ G',u=.int .i64 0/\Hp F0 w0 w' ro (rBs G' bb us'::rs.eraseIdx i)):=
 OpTo.enter 43 al hp (hc (h.own i _ hi)) fun _ _ ⟨he,G',hh⟩=>⟨_,he,G',rfl,h.call1 i hi hh⟩
theorem knew_any{F:Nat->Prop}{tb:Nat}{s:STab}{w:World}(hT:(rTab F tb s).Φ w)(hs:Room 5 s):Calls Tryz.prog 40 #[(Value.iface 28 (pt tb 0))] w (fun e w'=>∃ kb G bb F' K,e=.returned (pt kb 0)/\kl K=mkB 107 (s.keys.length+1)/\Hp F w w' [] [rBlk kb 78 (kdcC tb bb K),rBs G bb [],rTab F' tb (s.add SFrom.fresh)]):=by
 have h0:=Hp.one (rTab F tb s) hT
 refine mE 9 ?_
 refine mT (x_bnew h0 (by kernel_rfl)) ?_
 rintro _ w3 ⟨G3,bb3,rfl,h3⟩
 refine mT (x_fresh h3 1 rfl  (by kernel_rfl) hs.keys) ?_
 rintro _ w4 ⟨K4,F4,s4,rfl,hK4,hs4,h4⟩
 refine mN h4 78 ([(Value.iface 28 (pt tb 0)),(pt bb3 0)]++vb (kl K4)) fun g5 w5 h5=>?_
 refine mP (pt g5 0) ?_
 subst hs4
 exact ⟨_,_,_,_,_,rfl,hK4,h5.sel [0,1,2] [] rfl rfl rfl⟩
theorem enrol_no{F G:Nat->Prop}{kb tb bb:Nat}{Kk:Fin 16->UInt8}{s:STab}{us:List User}{name pw:ByteArray}{life renew:Int}{mesh:Bool}{w:World}(hT:(rTab F tb s).Φ w)(hB:(rBs G bb us).Φ w)(hFG:(rTab F tb s).dj (rBs G bb us))(hs:Room 5 s)(hK:Blk w kb 78 (kdcC tb bb Kk))(hd:¬ F kb)(hd2:¬ G kb)(hn:name.size<=1000)(hpw:pw.size<=1000)(K:Fin 16->UInt8)(hKK:kl K=mkB 107 (s.num (textF pw name))){er:Int}(hadd:∀ w,(rBs G bb us).Φ w->Calls Tryz.prog 43 #[pt bb 0,(Value.agg ([(Value.string name)]++vb (kl K)++[(Value.int .i64 life),(Value.int .i64 renew),(Value.bool mesh)]).toArray)] w (DPost w (.int .i64 er))):Calls Tryz.prog 26 #[(pt kb 0),(Value.string name),(Value.string pw),(Value.int .i64 life),(Value.int .i64 renew),(Value.bool mesh)] w (fun e w'=>e=.returned (.int .i64 er)/\∃ F' G',Hp (fun q=>F q∨G q) w w' [] [rTab F' tb (s.made (textF pw name)),rBs G' bb (us)]):=by
 have h0:=(Hp.two (rTab F tb s) (rBs G bb us) hT hB hFG).addR (rBlk kb 78 (kdcC tb bb Kk)) hK (fun j r hj q h1 h2=>by obtain rfl:q=kb:=h1;match j,hj with|0,hj=>(injection hj with hj;subst hj;exact hd h2)|1,hj=>(injection hj with hj;subst hj;exact hd2 h2))
 refine mE 30 ?_
 refine dG h0 18 17 (fun W=>(rBlk kb 78 ([(Value.iface 28 (pt tb 0)),(pt bb 0)]++vb (kl Kk))).Φ W/\True) (fun w3 h3=>⟨h3.rd 0 rfl,trivial⟩) ?_
 intro w3 h3
 refine dP 6 [0,1,2,4,5,6,7,9,10,12,13,14] ?_
 refine dLs 4 [3,8] (fun W hW=>hW.1) ?_
 refine dT 11 (x_text h3 0 rfl pw name (by kernel_rfl) (by omega) (by omega) hs.keys) ?_
 rintro _ w4 ⟨K4,F4,s4,rfl,hK4,hs4,h4⟩
 refine ⟨⟨h4.rd 0 rfl,trivial⟩,?_⟩
 obtain rfl:K=K4:=kl_inj (hKK.trans hK4.symm)
 refine dP 2 [15] ?_
 refine dT 16 (x_dp (v:=.int .i64 er) h4 43 [(pt bb 0),(Value.agg ([(Value.string name)]++vb (kl K)++[(Value.int .i64 life),(Value.int .i64 renew),(Value.bool mesh)]).toArray)] (by kernel_rfl) (hadd _ (h4.at_ 1 rfl))) ?_
 rintro _ w5 ⟨rfl,h5⟩
 refine ⟨⟨h5.rd 0 rfl,trivial⟩,?_⟩
 refine dN 17 ?_
 refine dX ?_
 refine mP (Value.int .i64 er) ?_
 subst hs4
 exact ⟨rfl,_,_,h5.sel [0,1] [] rfl rfl rfl⟩
theorem enrol_ok{F G:Nat->Prop}{kb tb bb:Nat}{Kk:Fin 16->UInt8}{s:STab}{us:List User}{name pw:ByteArray}{life renew:Int}{mesh:Bool}{w:World}(hT:(rTab F tb s).Φ w)(hB:(rBs G bb us).Φ w)(hFG:(rTab F tb s).dj (rBs G bb us))(hs:Room 5 s)(hK:Blk w kb 78 (kdcC tb bb Kk))(hd:¬ F kb)(hd2:¬ G kb)(hn:name.size<=1000)(hpw:pw.size<=1000)(K:Fin 16->UInt8)(hKK:kl K=mkB 107 (s.num (textF pw name)))(h32:us.length<=1000000)(hr:rightN name=true)(ha:1<=life/\life<=600/\0<=renew/\renew<=6000)(ht:placeB us name=false)(hf:us.length<32)(hi:placeI us name=us.length):Calls Tryz.prog 26 #[(pt kb 0),(Value.string name),(Value.string pw),(Value.int .i64 life),(Value.int .i64 renew),(Value.bool mesh)] w (fun e w'=>e=.returned (.int .i64 0)/\∃ F' G',Hp (fun q=>F q∨G q) w w' [] [rTab F' tb (s.made (textF pw name)),rBs G' bb (us++[(User.mk name K life renew mesh)])]):=by
 have h0:=(Hp.two (rTab F tb s) (rBs G bb us) hT hB hFG).addR (rBlk kb 78 (kdcC tb bb Kk)) hK (fun j r hj q h1 h2=>by obtain rfl:q=kb:=h1;match j,hj with|0,hj=>(injection hj with hj;subst hj;exact hd h2)|1,hj=>(injection hj with hj;subst hj;exact hd2 h2))
 refine mE 30 ?_
 refine dG h0 18 17 (fun W=>(rBlk kb 78 ([(Value.iface 28 (pt tb 0)),(pt bb 0)]++vb (kl Kk))).Φ W/\True) (fun w3 h3=>⟨h3.rd 0 rfl,trivial⟩) ?_
 intro w3 h3
 refine dP 6 [0,1,2,4,5,6,7,9,10,12,13,14] ?_
 refine dLs 4 [3,8] (fun W hW=>hW.1) ?_
 refine dT 11 (x_text h3 0 rfl pw name (by kernel_rfl) (by omega) (by omega) hs.keys) ?_
 rintro _ w4 ⟨K4,F4,s4,rfl,hK4,hs4,h4⟩
 refine ⟨⟨h4.rd 0 rfl,trivial⟩,?_⟩
 obtain rfl:K=K4:=kl_inj (hKK.trans hK4.symm)
 refine dP 2 [15] ?_
 refine dT 16 (x_badd (us':=us++[(User.mk name K life renew mesh)]) h4 1 rfl [(pt bb 0),(Value.agg ([(Value.string name)]++vb (kl K)++[(Value.int .i64 life),(Value.int .i64 renew),(Value.bool mesh)]).toArray)] (by kernel_rfl) (fun hB=>add_ok (u:=(User.mk name K life renew mesh)) hB h32 (show name.size<=_ by omega) hr ha ht hf hi)) ?_
 rintro _ w5 ⟨G5,rfl,h5⟩
 refine ⟨⟨h5.rd 0 rfl,trivial⟩,?_⟩
 refine dN 17 ?_
 refine dX ?_
 refine mP (Value.int .i64 0) ?_
 subst hs4
 exact ⟨rfl,_,_,h5.sel [1,0] [] rfl rfl rfl⟩
end
section
open Go.Value renaming int->iV,slice->lV,string->sV,bool->bV,agg->aV
open Go.RowKit Go.QT
theorem x_bget{o:Oper}{a:Act}{F0:Nat->Prop}{w0 w:World}{ro rs:List Res}{v:Value}(h:Hp F0 w0 w ro rs)(al:List Value)(hp:pureVal Tryz.prog (execOp a.eval o)=some (.enter 51 al.toArray))(hc:Calls Tryz.prog 51 al.toArray w (DPost w v)) :
   OpTo Tryz.prog o a w (fun u w'=>u=v/\Hp F0 w0 w' ro rs):=x_dp h 51 al hp hc
/-- Give at a caller. -/
theorem x_give{o:Oper}{a:Act}{F0 F:Nat->Prop}{w0 w:World}{ro rs:List Res}{tb:Nat}{s s':STab}{server:ByteArray}(h:Hp F0 w0 w ro rs)(i:Nat)(hi:rs[i]?=some (rTab F tb s))(al:List Value)(hp:pureVal Tryz.prog (execOp a.eval o)=some (.enter 32 al.toArray))(hc:Calls Tryz.prog 32 al.toArray w (GivePost w F tb s s' server)) :
   OpTo Tryz.prog o a w (fun u w'=>∃ A1 c1 A2 c2 F',u=.tuple #[.agg #[.string server,.slice A1 16 c1],.slice A2 16 c2,.int .i64 0]/\Hp F0 w0 w' ro (rTab F' tb s'::rSB (.slice A1 16 c1) (mkB 98 (s.boxes.length+1))::rSB (.slice A2 16 c2) (mkB 98 (s.boxes.length+2))::rs.eraseIdx i)):=
 OpTo.enter 32 al hp hc fun _ _ ⟨A1,c1,A2,c2,F',he,hh⟩=>⟨_,he,A1,c1,A2,c2,F',rfl,h.call1 i hi hh⟩
theorem x_giveN{o:Oper}{a:Act}{F0 F:Nat->Prop}{w0 w:World}{ro rs:List Res}{tb cc:Nat}{s s':STab}(h:Hp F0 w0 w ro rs)(i:Nat)(hi:rs[i]?=some (rTab F tb s))(al:List Value)(hp:pureVal Tryz.prog (execOp a.eval o)=some (.enter 32 al.toArray))(hc:Calls Tryz.prog 32 al.toArray w (GiveNo w F tb s' cc)) :
   OpTo Tryz.prog o a w (fun u w'=>∃ F',u=.tuple #[.agg #[.string ByteArray.empty,.slice none 0 0],.slice none 0 0,.int .i64 (cc:Int)]/\Hp F0 w0 w' ro (rTab F' tb s'::rs.eraseIdx i)):=
 OpTo.enter 32 al hp hc fun _ _ ⟨he,F',hh⟩=>⟨_,he,F',rfl,h.call1 i hi hh⟩
/-- What As leaves where it asks Give. -/
def AsPost(F:Nat->Prop)(tb:Nat)(s:STab)(Kk:Fin 16->UInt8)(u:User)(b1:Bytes)(w:World)(r:Nat ⊕ Bytes)(e:Ending)(w':World):Prop:=
 match r with
 | .inl cc=>e=.returned (.tuple #[.agg #[.string ByteArray.empty,.string ByteArray.empty,.slice none 0 0,.slice none 0 0],.int .i64 (cc:Int)])/\∃ F',Hp F w w' [] [rTab F' tb ((s.add SFrom.fresh).seal (kl Kk) 2 b1)]
 | .inr b2=>∃ A1 c1 A2 c2 F',e=.returned (.tuple #[.agg #[.string u.name,.string ⟨#[107,100,99]⟩,.slice A1 16 c1,.slice A2 16 c2],.int .i64 0])/\Hp F w w' [] [rTab F' tb (((s.add SFrom.fresh).seal (kl Kk) 2 b1).seal (kl u.key) 3 b2),rSB (.slice A1 16 c1) (mkB 98 (s.boxes.length+1)),rSB (.slice A2 16 c2) (mkB 98 (s.boxes.length+2))]
theorem as_main{F G:Nat->Prop}{kb tb bb:Nat}{Kk:Fin 16->UInt8}{s:STab}{us:List User}{client:ByteArray}{now nonce till:Int}{P:Option Addr}{pc:Nat}{pre:Bytes}{w:World}(hT:(rTab F tb s).Φ w)(hB:(rBs G bb us).Φ w)(hFG:(rTab F tb s).dj (rBs G bb us))(hs:Room 9 s)(hK:Blk w kb 78 (kdcC tb bb Kk))(hd:¬ F kb)(hv:SB w (.slice P pre.length pc) pre)(hdv:(rSB (.slice P pre.length pc) pre).dj (rTab F tb s))(h32:us.length<=1000000){u:User}(hb2:placeB us client=true)(hu:us[placeI us client]?=some u){t q:Int}(ho:openTh s (kl u.key) 1 pre=.inr (.stamp t q))(hnear:nearF now t=true)(ht:now<till)(hnow:0<=now/\now<=1099511627776)(hlife:0<=u.life/\u.life<=600)(hnm:u.name.size<=1000)(K:Fin 16->UInt8)(hKK:kl K=mkB 107 (s.keys.length+1)){fl R:Int}(hfr:(0<u.renew/\u.renew<=6000/\fl=5/\R=now+u.renew)∨(u.renew<=0/\fl=4/\R=0)){b1:Bytes}(hp1:packB (.inside fl K u.name now (min till (now+u.life)) R)=.inr b1){r:Nat ⊕ Bytes}(hp2:packB (.reply fl K nonce ⟨#[107,100,99]⟩ now (min till (now+u.life)) R)=r):Calls Tryz.prog 45 #[(pt kb 0),(iV .i64 now),(aV ([(sV client),(iV .i64 nonce),(iV .i64 till),(lV P pre.length pc)]).toArray)] w (AsPost F tb s Kk u b1 w r):=by
 have h0:=((((Hp.one (rTab F tb s) hT).addR (rSB (.slice P pre.length pc) pre) hv (fun j r hj=>by have h3:=sel1 hj;injection h3 with h3;subst h3;exact hdv)).addR (rBs G bb us) hB (fun j r hj=>by have h3:=sel1 hj;injection h3 with h3;subst h3;exact hFG.symm)).addR (rBlk kb 78 (kdcC tb bb Kk)) hK (fun j s hj q h1 h2=>by have h3:=sel1 hj;injection h3 with h3;subst h3;exact hd (by rw [show q=kb from h1] at h2;exact h2)))
 refine mE 109 ?_
 refine mN h0 145 ([(sV client),(zD nonce),(zD till),(lV P pre.length pc)]) fun g2 w2 h2=>?_
 refine mN h2 141 ([zE,zE,zN,zN]) fun g3 w3 h3=>?_
 refine mJ 2000001 (fun aJ wJ6=>∃ (gJ5_0:Nat) (xJ6:Nat->Value),aJ=patch xJ6 109 [(0,(pt kb 0)),(1,(zD now)),(5,(pt g2 0)),(6,(pt g3 0)),(7,zO),(8,(pt gJ5_0 0)),(9,zO)]/\Hp F w wJ6 [rBlk kb 78 ([(Value.iface 28 (pt tb 0)),(pt bb 0)]++vb (kl Kk)),rBs G bb us,rSB ((lV P pre.length pc)) pre] [rBlk gJ5_0 138 ([(sV u.name)]++vb (kl u.key)++[(zD u.life),(zD u.renew),(bV u.mesh)]),rBlk g3 141 ([zE,zE,zN,zN]),rBlk g2 145 ([(sV client),(zD nonce),(zD till),(lV P pre.length pc)]),rTab F tb s]) ?_ (fun hJ6 hhJ6=>?_)
 ·
  rintro _ wJ6 ⟨gJ5_0,xJ6,rfl,hJh6⟩
  refine mAt ?_
  refine mJ 2000004 (fun aJ wJ11=>∃ (gJ10_0:Nat) (xJ11:Nat->Value),aJ=patch xJ11 109 [(0,(pt kb 0)),(1,(zD now)),(5,(pt g2 0)),(6,(pt g3 0)),(7,zO),(8,(pt gJ5_0 0)),(9,zO),(10,(pt gJ10_0 0))]/\Hp F w wJ11 [rBlk kb 78 ([(Value.iface 28 (pt tb 0)),(pt bb 0)]++vb (kl Kk)),rBs G bb us,rSB ((lV P pre.length pc)) pre] [rBlk gJ10_0 140 ([(zD t),(zD q)]),rBlk gJ5_0 138 ([(sV u.name)]++vb (kl u.key)++[(zD u.life),(zD u.renew),(bV u.mesh)]),rBlk g3 141 ([zE,zE,zN,zN]),rBlk g2 145 ([(sV client),(zD nonce),(zD till),(lV P pre.length pc)]),rTab F tb s]) ?_ (fun hJ11 hhJ11=>?_)
  ·
   rintro _ wJ11 ⟨gJ10_0,xJ11,rfl,hJh11⟩
   refine mAt ?_
   refine ma hJh11 0 ?_
   refine mT (x_dp (v:=.bool true) hJh11 64 [(zD now),(zD t)] (by kernel_rfl) (hnear ▸ near_any now t _)) ?_
   rintro _ w15 ⟨rfl,h15⟩
   refine ma h15 3 ?_
   refine mX 55 (.bool false) (bV (decide (till<=now))) (by simp;omega) ?_
   refine mJ 2000011 (fun aJ wJ19=>∃ (gJ18_0:Nat) (FJ18_1:Nat->Prop) (sJ18_2:STab) (xJ19:Nat->Value),sJ18_2=s.add SFrom.fresh/\Room 8 sJ18_2/\aJ=patch xJ19 109 [(0,(pt kb 0)),(1,(zD now)),(5,(pt g2 0)),(6,(pt g3 0)),(7,zO),(8,(pt gJ5_0 0)),(9,zO),(11,(pt gJ18_0 0))]/\Hp F w wJ19 [rBlk kb 78 ([(Value.iface 28 (pt tb 0)),(pt bb 0)]++vb (kl Kk)),rBs G bb us,rSB ((lV P pre.length pc)) pre] [rBlk gJ18_0 54 ([(zD 4)]++vb (kl K)++[(sV u.name),(zD now),(zD (min till (now+u.life))),zO]),rBlk gJ10_0 140 ([(zD t),(zD q)]),rBlk gJ5_0 138 ([(sV u.name)]++vb (kl u.key)++[(zD u.life),(zD u.renew),(bV u.mesh)]),rBlk g3 141 ([zE,zE,zN,zN]),rBlk g2 145 ([(sV client),(zD nonce),(zD till),(lV P pre.length pc)]),rTab FJ18_1 tb sJ18_2]) ?_ (fun hJ19 hhJ19=>?_)
   ·
    rintro _ wJ19 ⟨gJ18_0,FJ18_1,sJ18_2,xJ19,hsJ,hrJ,rfl,hJh19⟩
    refine mAt ?_
    refine ma hJh19 2 ?_
    refine mJ 1000075 (fun aJ wJ23=>∃ (xJ23:Nat->Value),aJ=patch xJ23 109 [(0,(pt kb 0)),(1,(zD now)),(5,(pt g2 0)),(6,(pt g3 0)),(7,zO),(8,(pt gJ5_0 0)),(9,zO),(11,(pt gJ18_0 0)),(75,(bV (decide (u.renew>0))))]/\Hp F w wJ23 [rBlk kb 78 ([(Value.iface 28 (pt tb 0)),(pt bb 0)]++vb (kl Kk)),rBs G bb us,rSB ((lV P pre.length pc)) pre] [rBlk gJ18_0 54 ([(zD fl)]++vb (kl K)++[(sV u.name),(zD now),(zD (min till (now+u.life))),(zD R)]),rBlk gJ10_0 140 ([(zD t),(zD q)]),rBlk gJ5_0 138 ([(sV u.name)]++vb (kl u.key)++[(zD u.life),(zD u.renew),(bV u.mesh)]),rBlk g3 141 ([zE,zE,zN,zN]),rBlk g2 145 ([(sV client),(zD nonce),(zD till),(lV P pre.length pc)]),rTab FJ18_1 tb sJ18_2]) ?_ (fun hJ23 hhJ23=>?_)
    ·
     rintro _ wJ23 ⟨xJ23,rfl,hJh23⟩
     refine mAt ?_
     rcases r with cc|b2
     ·
      refine mJ 2000015 (fun aJ wJ27=>∃ (gJ26_0:Nat) (FJ26_1:Nat->Prop) (xJ27:Nat->Value),aJ=patch xJ27 109 [(0,(pt kb 0)),(5,(pt g2 0)),(6,(pt g3 0)),(7,zO),(8,(pt gJ5_0 0)),(9,(zD ((cc:Int)))),(11,(pt gJ18_0 0)),(12,(pt gJ26_0 0)),(13,zN)]/\Hp F w wJ27 [rBlk kb 78 ([(Value.iface 28 (pt tb 0)),(pt bb 0)]++vb (kl Kk)),rBs G bb us,rSB ((lV P pre.length pc)) pre] [rBlk gJ26_0 35 ([zE,zN]),rTab FJ26_1 tb ((STab.seal sJ18_2 (kl Kk) 2 b1)),rBlk gJ18_0 54 ([(zD fl)]++vb (kl K)++[(sV u.name),(zD now),(zD (min till (now+u.life))),(zD R)]),rBlk gJ10_0 140 ([(zD t),(zD q)]),rBlk gJ5_0 138 ([(sV u.name)]++vb (kl u.key)++[(zD u.life),(zD u.renew),(bV u.mesh)]),rBlk g3 141 ([zE,zE,zN,zN]),rBlk g2 145 ([(sV client),(zD nonce),(zD till),(lV P pre.length pc)])]) ?_ (fun hJ27 hhJ27=>?_)
      ·
       rintro _ wJ27 ⟨gJ26_0,FJ26_1,xJ27,rfl,hJh27⟩
       refine mAt ?_
       refine mX 101 (.bool true) (bV (((cc:Int)) != 0)) (ine (b:=0) (pack_er hp2)) ?_
       refine mT (xSs hJh27 5 141 (.tmp 6) (.tmp 102) 0 ([zE,zE,zN,zN]) ([zE,zE,zN,zN])) fun _ w31 h31=>?_
       refine mF (post_2 (r:=.cell 6 141) (s:=.tmp 7) (by kernel_rfl) rfl (rce (h31.at_ 5 rfl)) (rtm (zD ((cc:Int)))) ?_)
       subst hsJ
       exact ⟨rfl,_,h31.sel [1] [] rfl rfl rfl⟩
      refine dG hJh23 19 18 (fun W=>(rBlk kb 78 ([(Value.iface 28 (pt tb 0)),(pt bb 0)]++vb (kl Kk))).Φ W/\(rBlk gJ18_0 54 ([(zD fl)]++vb (kl K)++[(sV u.name),(zD now),(zD (min till (now+u.life))),(zD R)])).Φ W/\(rBlk g2 145 ([(sV client),(zD nonce),(zD till),(lV P pre.length pc)])).Φ W/\(rBlk gJ5_0 138 ([(sV u.name)]++vb (kl u.key)++[(zD u.life),(zD u.renew),(bV u.mesh)])).Φ W/\True) (fun w32 h32=>⟨h32.rd 0 rfl,h32.at_ 0 rfl,h32.at_ 4 rfl,h32.at_ 2 rfl,trivial⟩) ?_
      intro w32 h32
      refine dP 13 [0,1,2,3,6,8] ?_
      refine dL 4 (fun W hW=>hW.1) ?_
      refine dL 5 (fun W hW=>hW.2.1) ?_
      refine dL 7 (fun W hW=>hW.2.2.1) ?_
      refine dL 9 (fun W hW=>hW.2.2.2.1) ?_
      refine dO 10 15 ?_ ?_
      ·
       refine oT (x_giveN h32 5 rfl [(pt kb 0),(sV (⟨#[107,100,99]⟩)),(aV (vb (kl Kk)).toArray),(aV ([(zD fl)]++vb (kl K)++[(sV u.name),(zD now),(zD (min till (now+u.life))),(zD R)]).toArray),(zD nonce),(aV (vb (kl u.key)).toArray),(zD 3)] (by kernel_rfl) (give_2 (h32.at_ 5 rfl) (hrJ.less (by decide)) (h32.rd 0 rfl) (fun hq=>h32.rdis 0 5 _ _ rfl rfl kb rfl hq) (by omega) (by decide) hp1 hp2)) ?_
       rintro _ w33 ⟨F33,rfl,h33⟩
       refine ⟨⟨h33.rd 0 rfl,h33.at_ 1 rfl,h33.at_ 5 rfl,h33.at_ 3 rfl,trivial⟩,?_⟩
       refine dP 4 [11,12,13,14] ?_
       refine dT 15 (xN h33 35 ([zE,zN])) ?_
       rintro _ w34 ⟨g34,rfl,h34⟩
       refine ⟨⟨h34.rd 0 rfl,h34.at_ 2 rfl,h34.at_ 6 rfl,h34.at_ 4 rfl,trivial⟩,?_⟩
       refine dT 16 (xSs h34 0 35 (.tmp 12) (.tmp 97) 0 ([zE,zN]) ([zE,zN])) ?_
       rintro _ w35 h35
       refine ⟨⟨h35.rd 0 rfl,h35.at_ 2 rfl,h35.at_ 6 rfl,h35.at_ 4 rfl,trivial⟩,?_⟩
       refine dP 1 [17] ?_
       refine dN 18 ?_
       refine dX ?_
       exact mK hJ27 (hhJ27 _ _ ⟨g34,F33,_,pM,h35.sel [0,1,2,3,4,5,6] [0,1,2] (by kernel_rfl) rfl rfl⟩)
      refine oT (xN h32 35 ([zE,zN])) ?_
      rintro _ w36 ⟨g36,rfl,h36⟩
      refine ⟨⟨h36.rd 0 rfl,h36.at_ 1 rfl,h36.at_ 5 rfl,h36.at_ 3 rfl,trivial⟩,?_⟩
      refine dT 10 (x_giveN h36 6 rfl [(pt kb 0),(sV (⟨#[107,100,99]⟩)),(aV (vb (kl Kk)).toArray),(aV ([(zD fl)]++vb (kl K)++[(sV u.name),(zD now),(zD (min till (now+u.life))),(zD R)]).toArray),(zD nonce),(aV (vb (kl u.key)).toArray),(zD 3)] (by kernel_rfl) (give_2 (h36.at_ 6 rfl) (hrJ.less (by decide)) (h36.rd 0 rfl) (fun hq=>h36.rdis 0 6 _ _ rfl rfl kb rfl hq) (by omega) (by decide) hp1 hp2)) ?_
      rintro _ w37 ⟨F37,rfl,h37⟩
      refine ⟨⟨h37.rd 0 rfl,h37.at_ 2 rfl,h37.at_ 6 rfl,h37.at_ 4 rfl,trivial⟩,?_⟩
      refine dP 3 [11,12,13,14] ?_
      refine dT 16 (xSs h37 1 35 (.tmp 12) (.tmp 97) 0 ([zE,zN]) ([zE,zN])) ?_
      rintro _ w38 h38
      refine ⟨⟨h38.rd 0 rfl,h38.at_ 2 rfl,h38.at_ 6 rfl,h38.at_ 4 rfl,trivial⟩,?_⟩
      refine dP 1 [17] ?_
      refine dN 18 ?_
      refine dX ?_
      exact mK hJ27 (hhJ27 _ _ ⟨g36,F37,_,pM,h38.sel [1,0,2,3,4,5,6] [0,1,2] (by kernel_rfl) rfl rfl⟩)
     refine mJ 2000015 (fun aJ wJ40=>∃ (gJ39_0:Nat) (BJ39_1:Option Addr) (dJ39_2:Nat) (AJ39_3:Option Addr) (cJ39_4:Nat) (FJ39_5:Nat->Prop) (xJ40:Nat->Value),aJ=patch xJ40 109 [(0,(pt kb 0)),(5,(pt g2 0)),(6,(pt g3 0)),(7,zO),(8,(pt gJ5_0 0)),(9,zO),(11,(pt gJ18_0 0)),(12,(pt gJ39_0 0)),(13,(lV BJ39_1 16 dJ39_2))]/\Hp F w wJ40 [rBlk kb 78 ([(Value.iface 28 (pt tb 0)),(pt bb 0)]++vb (kl Kk)),rBs G bb us,rSB ((lV P pre.length pc)) pre] [rBlk gJ39_0 35 ([(sV (⟨#[107,100,99]⟩)),(lV AJ39_3 16 cJ39_4)]),rTab FJ39_5 tb ((STab.seal (STab.seal sJ18_2 (kl Kk) 2 b1) (kl u.key) 3 b2)),rSB ((lV AJ39_3 16 cJ39_4)) (mkB 98 (sJ18_2.boxes.length+1)),rSB ((lV BJ39_1 16 dJ39_2)) (mkB 98 (sJ18_2.boxes.length+2)),rBlk gJ18_0 54 ([(zD fl)]++vb (kl K)++[(sV u.name),(zD now),(zD (min till (now+u.life))),(zD R)]),rBlk gJ10_0 140 ([(zD t),(zD q)]),rBlk gJ5_0 138 ([(sV u.name)]++vb (kl u.key)++[(zD u.life),(zD u.renew),(bV u.mesh)]),rBlk g3 141 ([zE,zE,zN,zN]),rBlk g2 145 ([(sV client),(zD nonce),(zD till),(lV P pre.length pc)])]) ?_ (fun hJ40 hhJ40=>?_)
     ·
      rintro _ wJ40 ⟨gJ39_0,BJ39_1,dJ39_2,AJ39_3,cJ39_4,FJ39_5,xJ40,rfl,hJh40⟩
      refine mAt ?_
      refine ma hJh40 6 ?_
      refine ma hJh40 0 ?_
      refine mT (xSs hJh40 7 141 (.tmp 6) (.tmp 108) 0 ([(sV u.name),(sV (⟨#[107,100,99]⟩)),(lV AJ39_3 16 cJ39_4),(lV BJ39_1 16 dJ39_2)]) ([(sV u.name),(sV (⟨#[107,100,99]⟩)),(lV AJ39_3 16 cJ39_4),(lV BJ39_1 16 dJ39_2)])) fun _ w44 h44=>?_
      refine mF (post_2 (r:=.cell 6 141) (s:=.tmp 7) (by kernel_rfl) rfl (rce (h44.at_ 7 rfl)) (rtm zO) ?_)
      subst hsJ
      exact ⟨_,_,_,_,_,rfl,h44.sel [1,2,3] [] rfl rfl rfl⟩
     refine dG hJh23 19 18 (fun W=>(rBlk kb 78 ([(Value.iface 28 (pt tb 0)),(pt bb 0)]++vb (kl Kk))).Φ W/\(rBlk gJ18_0 54 ([(zD fl)]++vb (kl K)++[(sV u.name),(zD now),(zD (min till (now+u.life))),(zD R)])).Φ W/\(rBlk g2 145 ([(sV client),(zD nonce),(zD till),(lV P pre.length pc)])).Φ W/\(rBlk gJ5_0 138 ([(sV u.name)]++vb (kl u.key)++[(zD u.life),(zD u.renew),(bV u.mesh)])).Φ W/\True) (fun w45 h45=>⟨h45.rd 0 rfl,h45.at_ 0 rfl,h45.at_ 4 rfl,h45.at_ 2 rfl,trivial⟩) ?_
     intro w45 h45
     refine dP 13 [0,1,2,3,6,8] ?_
     refine dL 4 (fun W hW=>hW.1) ?_
     refine dL 5 (fun W hW=>hW.2.1) ?_
     refine dL 7 (fun W hW=>hW.2.2.1) ?_
     refine dL 9 (fun W hW=>hW.2.2.2.1) ?_
     refine dO 10 15 ?_ ?_
     ·
      refine oT (x_give h45 5 rfl [(pt kb 0),(sV (⟨#[107,100,99]⟩)),(aV (vb (kl Kk)).toArray),(aV ([(zD fl)]++vb (kl K)++[(sV u.name),(zD now),(zD (min till (now+u.life))),(zD R)]).toArray),(zD nonce),(aV (vb (kl u.key)).toArray),(zD 3)] (by kernel_rfl) (give_ok (h45.at_ 5 rfl) (hrJ.less (by decide)) (h45.rd 0 rfl) (fun hq=>h45.rdis 0 5 _ _ rfl rfl kb rfl hq) (by omega) (by decide) hp1 hp2)) ?_
      rintro _ w46 ⟨A46,c46,B46,d46,F46,rfl,h46⟩
      refine ⟨⟨h46.rd 0 rfl,h46.at_ 3 rfl,h46.at_ 7 rfl,h46.at_ 5 rfl,trivial⟩,?_⟩
      refine dP 4 [11,12,13,14] ?_
      refine dT 15 (xN h46 35 ([zE,zN])) ?_
      rintro _ w47 ⟨g47,rfl,h47⟩
      refine ⟨⟨h47.rd 0 rfl,h47.at_ 4 rfl,h47.at_ 8 rfl,h47.at_ 6 rfl,trivial⟩,?_⟩
      refine dT 16 (xSs h47 0 35 (.tmp 12) (.tmp 97) 0 ([(sV (⟨#[107,100,99]⟩)),(lV A46 16 c46)]) ([(sV (⟨#[107,100,99]⟩)),(lV A46 16 c46)])) ?_
      rintro _ w48 h48
      refine ⟨⟨h48.rd 0 rfl,h48.at_ 4 rfl,h48.at_ 8 rfl,h48.at_ 6 rfl,trivial⟩,?_⟩
      refine dP 1 [17] ?_
      refine dN 18 ?_
      refine dX ?_
      exact mK hJ40 (hhJ40 _ _ ⟨g47,B46,d46,A46,c46,F46,_,pM,h48.sel [0,1,2,3,4,5,6,7,8] [0,1,2] (by kernel_rfl) rfl rfl⟩)
     refine oT (xN h45 35 ([zE,zN])) ?_
     rintro _ w49 ⟨g49,rfl,h49⟩
     refine ⟨⟨h49.rd 0 rfl,h49.at_ 1 rfl,h49.at_ 5 rfl,h49.at_ 3 rfl,trivial⟩,?_⟩
     refine dT 10 (x_give h49 6 rfl [(pt kb 0),(sV (⟨#[107,100,99]⟩)),(aV (vb (kl Kk)).toArray),(aV ([(zD fl)]++vb (kl K)++[(sV u.name),(zD now),(zD (min till (now+u.life))),(zD R)]).toArray),(zD nonce),(aV (vb (kl u.key)).toArray),(zD 3)] (by kernel_rfl) (give_ok (h49.at_ 6 rfl) (hrJ.less (by decide)) (h49.rd 0 rfl) (fun hq=>h49.rdis 0 6 _ _ rfl rfl kb rfl hq) (by omega) (by decide) hp1 hp2)) ?_
     rintro _ w50 ⟨A50,c50,B50,d50,F50,rfl,h50⟩
     refine ⟨⟨h50.rd 0 rfl,h50.at_ 4 rfl,h50.at_ 8 rfl,h50.at_ 6 rfl,trivial⟩,?_⟩
     refine dP 3 [11,12,13,14] ?_
     refine dT 16 (xSs h50 3 35 (.tmp 12) (.tmp 97) 0 ([(sV (⟨#[107,100,99]⟩)),(lV A50 16 c50)]) ([(sV (⟨#[107,100,99]⟩)),(lV A50 16 c50)])) ?_
     rintro _ w51 h51
     refine ⟨⟨h51.rd 0 rfl,h51.at_ 4 rfl,h51.at_ 8 rfl,h51.at_ 6 rfl,trivial⟩,?_⟩
     refine dP 1 [17] ?_
     refine dN 18 ?_
     refine dX ?_
     exact mK hJ40 (hhJ40 _ _ ⟨g49,B50,d50,A50,c50,F50,_,pM,h51.sel [3,0,1,2,4,5,6,7,8] [0,1,2] (by kernel_rfl) rfl rfl⟩)
    refine m_if 75 (u.renew>0) (by kernel_rfl) (fun b52=>?_) (fun b52=>?_)
    ·
     have hf:fl=5/\R=now+u.renew:=by
       rcases hfr with h|h
       · exact h.2.2
       exact absurd b52 (by have:=h.1;omega)
     refine ma hJh19 0 ?_
     refine mX 78 (zD 5) (zD (bits .or .i64 4 1)) rfl ?_
     refine mT (xSt hJh19 0 3 (.tmp 79) (.tmp 78) 0 (zD 5) ([(zD 5)]++vb (kl K)++[(sV u.name),(zD now),(zD (min till (now+u.life))),zO])) fun _ w54 h54=>?_
     refine ma h54 2 ?_
     refine mW 83 (exec_add _ _ _ _ bO now u.renew (by kernel_rfl) (by kernel_rfl) (now+u.renew) rfl (by omega) (by omega) _) ?_
     refine mT (xSt h54 0 2 (.tmp 84) (.tmp 83) 20 (zD (now+u.renew)) ([(zD 5)]++vb (kl K)++[(sV u.name),(zD now),(zD (min till (now+u.life))),(zD (now+u.renew))])) fun _ w55 h55=>?_
     have h56:Hp F w w55 [rBlk kb 78 ([(Value.iface 28 (pt tb 0)),(pt bb 0)]++vb (kl Kk)),rBs G bb us,rSB ((lV P pre.length pc)) pre] [rBlk gJ18_0 54 ([(iV .i64 fl)]++vb (kl K)++[(sV u.name),(iV .i64 now),(iV .i64 (min till (now+u.life))),(iV .i64 R)]),rBlk gJ10_0 140 ([(iV .i64 t),(iV .i64 q)]),rBlk gJ5_0 138 ([(sV u.name)]++vb (kl u.key)++[(iV .i64 u.life),(iV .i64 u.renew),(bV u.mesh)]),rBlk g3 141 ([(sV ByteArray.empty),(sV ByteArray.empty),(lV none 0 0),(lV none 0 0)]),rBlk g2 145 ([(sV client),(iV .i64 nonce),(iV .i64 till),(lV P pre.length pc)]),rTab FJ18_1 tb sJ18_2]:=by rw [hf.1,hf.2];exact h55
     exact mK hJ23 (hhJ23 _ _ ⟨_,pM,h56.sel [0,1,2,3,4,5] [0,1,2] (by kernel_rfl) rfl rfl⟩)
    have hf:fl=4/\R=0:=by
      rcases hfr with h|h
      · exact absurd h.1 b52
      exact h.2
    have h57:Hp F w wJ19 [rBlk kb 78 ([(Value.iface 28 (pt tb 0)),(pt bb 0)]++vb (kl Kk)),rBs G bb us,rSB ((lV P pre.length pc)) pre] [rBlk gJ18_0 54 ([(iV .i64 fl)]++vb (kl K)++[(sV u.name),(iV .i64 now),(iV .i64 (min till (now+u.life))),(iV .i64 R)]),rBlk gJ10_0 140 ([(iV .i64 t),(iV .i64 q)]),rBlk gJ5_0 138 ([(sV u.name)]++vb (kl u.key)++[(iV .i64 u.life),(iV .i64 u.renew),(bV u.mesh)]),rBlk g3 141 ([(sV ByteArray.empty),(sV ByteArray.empty),(lV none 0 0),(lV none 0 0)]),rBlk g2 145 ([(sV client),(iV .i64 nonce),(iV .i64 till),(lV P pre.length pc)]),rTab FJ18_1 tb sJ18_2]:=by rw [hf.1,hf.2];exact hJh19
    exact mK hJ23 (hhJ23 _ _ ⟨_,pM,h57.sel [0,1,2,3,4,5] [0,1,2] (by kernel_rfl) rfl rfl⟩)
   refine dG h15 18 17 (fun W=>(rBlk kb 78 ([(Value.iface 28 (pt tb 0)),(pt bb 0)]++vb (kl Kk))).Φ W/\(rBlk gJ5_0 138 ([(sV u.name)]++vb (kl u.key)++[(zD u.life),(zD u.renew),(bV u.mesh)])).Φ W/\(rBlk g2 145 ([(sV client),(zD nonce),(zD till),(lV P pre.length pc)])).Φ W/\True) (fun w58 h58=>⟨h58.rd 0 rfl,h58.at_ 1 rfl,h58.at_ 3 rfl,trivial⟩) ?_
   intro w58 h58
   refine dP 10 [0,1,2,5,7,8,10,11] ?_
   refine dL 3 (fun W hW=>hW.1) ?_
   refine dL 6 (fun W hW=>hW.2.1) ?_
   refine dL 9 (fun W hW=>hW.2.2.1) ?_
   refine dL 12 (fun W hW=>hW.2.1) ?_
   refine dV 13 (fun W hW=>exec_add _ _ _ _ bO now u.life (by kernel_rfl) (by kernel_rfl) (now+u.life) rfl (by omega) (by omega) _) ?_
   refine dV 14 (v:=(zD (min till (now+u.life)))) (fun W hW=>e_min (.tmp 66) (.tmp 70) #[2,2] (by kernel_rfl) .i64 .i64 till (now+u.life) (by kernel_rfl) (by kernel_rfl) (min till (now+u.life)) (by split <;> omega) _) ?_
   refine dO 4 16 ?_ ?_
   ·
    refine oT (x_fresh h58 4 rfl  (by kernel_rfl) hs.keys) ?_
    rintro _ w59 ⟨K59,F59,s59,rfl,hK59,hs59,h59⟩
    refine ⟨⟨h59.rd 0 rfl,h59.at_ 1 rfl,h59.at_ 3 rfl,trivial⟩,?_⟩
    obtain rfl:K=K59:=kl_inj (hKK.trans hK59.symm)
    have hr59:Room 8 s59:=by rw [hs59];exact hs.add _
    refine dP 2 [15] ?_
    refine dT 16 (xN h59 54 ([zO]++vb (List.replicate 16 0)++[zE,zO,zO,zO])) ?_
    rintro _ w60 ⟨g60,rfl,h60⟩
    refine ⟨⟨h60.rd 0 rfl,h60.at_ 2 rfl,h60.at_ 4 rfl,trivial⟩,?_⟩
    refine dE 17 (xSs h60 0 54 (.tmp 11) (.tmp 72) 0 ([(zD 4)]++vb (kl K)++[(sV u.name),(zD now),(zD (min till (now+u.life))),zO]) ([(zD 4)]++vb (kl K)++[(sV u.name),(zD now),(zD (min till (now+u.life))),zO])) ?_
    rintro _ w61 h61
    refine dX ?_
    exact mK hJ19 (hhJ19 _ _ ⟨g60,F59,s59,_,hs59,hr59,pM,h61.sel [0,1,2,3,4,5] [0,1,2] (by kernel_rfl) rfl rfl⟩)
   refine oT (xN h58 54 ([zO]++vb (List.replicate 16 0)++[zE,zO,zO,zO])) ?_
   rintro _ w62 ⟨g62,rfl,h62⟩
   refine ⟨⟨h62.rd 0 rfl,h62.at_ 2 rfl,h62.at_ 4 rfl,trivial⟩,?_⟩
   refine dT 4 (x_fresh h62 5 rfl  (by kernel_rfl) hs.keys) ?_
   rintro _ w63 ⟨K63,F63,s63,rfl,hK63,hs63,h63⟩
   refine ⟨⟨h63.rd 0 rfl,h63.at_ 2 rfl,h63.at_ 4 rfl,trivial⟩,?_⟩
   obtain rfl:K=K63:=kl_inj (hKK.trans hK63.symm)
   have hr63:Room 8 s63:=by rw [hs63];exact hs.add _
   refine dP 1 [15] ?_
   refine dE 17 (xSs h63 0 54 (.tmp 11) (.tmp 72) 0 ([(zD 4)]++vb (kl K)++[(sV u.name),(zD now),(zD (min till (now+u.life))),zO]) ([(zD 4)]++vb (kl K)++[(sV u.name),(zD now),(zD (min till (now+u.life))),zO])) ?_
   rintro _ w64 h64
   refine dX ?_
   exact mK hJ19 (hhJ19 _ _ ⟨g62,F63,s63,_,hs63,hr63,pM,h64.sel [0,1,2,3,4,5] [0,1,2] (by kernel_rfl) rfl rfl⟩)
  refine dG hJh6 15 14 (fun W=>(rBlk kb 78 ([(Value.iface 28 (pt tb 0)),(pt bb 0)]++vb (kl Kk))).Φ W/\(rBlk gJ5_0 138 ([(sV u.name)]++vb (kl u.key)++[(zD u.life),(zD u.renew),(bV u.mesh)])).Φ W/\(rBlk g2 145 ([(sV client),(zD nonce),(zD till),(lV P pre.length pc)])).Φ W/\True) (fun w65 h65=>⟨h65.rd 0 rfl,h65.at_ 0 rfl,h65.at_ 2 rfl,trivial⟩) ?_
  intro w65 h65
  refine dP 10 [0,1,2,4,6] ?_
  refine dL 3 (fun W hW=>hW.1) ?_
  refine dL 5 (fun W hW=>hW.2.1) ?_
  refine dL 7 (fun W hW=>hW.2.2.1) ?_
  refine dO 8 12 ?_ ?_
  ·
   refine oT (x_oStamp h65 3 rfl u.key 1 (by kernel_rfl) hs.ok (h65.rd 2 rfl) ho) ?_
   rintro _ w66 ⟨rfl,h66⟩
   refine ⟨⟨h66.rd 0 rfl,h66.at_ 0 rfl,h66.at_ 2 rfl,trivial⟩,?_⟩
   refine dP 3 [9,10,11] ?_
   refine dT 12 (xN h66 140 ([zO,zO])) ?_
   rintro _ w67 ⟨g67,rfl,h67⟩
   refine ⟨⟨h67.rd 0 rfl,h67.at_ 1 rfl,h67.at_ 3 rfl,trivial⟩,?_⟩
   refine dT 13 (xSs h67 0 140 (.tmp 10) (.tmp 38) 0 ([(zD t),(zD q)]) ([(zD t),(zD q)])) ?_
   rintro _ w68 h68
   refine ⟨⟨h68.rd 0 rfl,h68.at_ 1 rfl,h68.at_ 3 rfl,trivial⟩,?_⟩
   refine dN 14 ?_
   refine dX ?_
   exact mK hJ11 (hhJ11 _ _ ⟨g67,_,pM,h68.sel [0,1,2,3,4] [0,1,2] (by kernel_rfl) rfl rfl⟩)
  refine oT (xN h65 140 ([zO,zO])) ?_
  rintro _ w69 ⟨g69,rfl,h69⟩
  refine ⟨⟨h69.rd 0 rfl,h69.at_ 1 rfl,h69.at_ 3 rfl,trivial⟩,?_⟩
  refine dT 8 (x_oStamp h69 4 rfl u.key 1 (by kernel_rfl) hs.ok (h69.rd 2 rfl) ho) ?_
  rintro _ w70 ⟨rfl,h70⟩
  refine ⟨⟨h70.rd 0 rfl,h70.at_ 1 rfl,h70.at_ 3 rfl,trivial⟩,?_⟩
  refine dP 2 [9,10,11] ?_
  refine dT 13 (xSs h70 0 140 (.tmp 10) (.tmp 38) 0 ([(zD t),(zD q)]) ([(zD t),(zD q)])) ?_
  rintro _ w71 h71
  refine ⟨⟨h71.rd 0 rfl,h71.at_ 1 rfl,h71.at_ 3 rfl,trivial⟩,?_⟩
  refine dN 14 ?_
  refine dX ?_
  exact mK hJ11 (hhJ11 _ _ ⟨g69,_,pM,h71.sel [0,1,2,3,4] [0,1,2] (by kernel_rfl) rfl rfl⟩)
 refine dG h3 13 12 (fun W=>(rBlk kb 78 ([(Value.iface 28 (pt tb 0)),(pt bb 0)]++vb (kl Kk))).Φ W/\(rBlk g2 145 ([(sV client),(zD nonce),(zD till),(lV P pre.length pc)])).Φ W/\True) (fun w72 h72=>⟨h72.rd 0 rfl,h72.at_ 1 rfl,trivial⟩) ?_
 intro w72 h72
 refine dP 9 [0,1,2,4] ?_
 refine dL 3 (fun W hW=>hW.1) ?_
 refine dL 5 (fun W hW=>hW.2.1) ?_
 refine dO 6 10 ?_ ?_
 ·
  refine oT (x_bget h72 [(pt bb 0),(sV client)] (by kernel_rfl) (get_yes (h72.rd 1 rfl) h32 hb2 hu)) ?_
  rintro _ w73 ⟨rfl,h73⟩
  refine ⟨⟨h73.rd 0 rfl,h73.at_ 1 rfl,trivial⟩,?_⟩
  refine dP 3 [7,8,9] ?_
  refine dT 10 (xN h73 138 ([zE]++vb (List.replicate 16 0)++[zO,zO,zV])) ?_
  rintro _ w74 ⟨g74,rfl,h74⟩
  refine ⟨⟨h74.rd 0 rfl,h74.at_ 2 rfl,trivial⟩,?_⟩
  refine dT 11 (xSs h74 0 138 (.tmp 8) (.tmp 22) 0 ([(sV u.name)]++vb (kl u.key)++[(zD u.life),(zD u.renew),(bV u.mesh)]) ([(sV u.name)]++vb (kl u.key)++[(zD u.life),(zD u.renew),(bV u.mesh)])) ?_
  rintro _ w75 h75
  refine ⟨⟨h75.rd 0 rfl,h75.at_ 2 rfl,trivial⟩,?_⟩
  refine dN 12 ?_
  refine dX ?_
  exact mK hJ6 (hhJ6 _ _ ⟨g74,_,pM,h75.sel [0,1,2,3] [0,1,2] (by kernel_rfl) rfl rfl⟩)
 refine oT (xN h72 138 ([zE]++vb (List.replicate 16 0)++[zO,zO,zV])) ?_
 rintro _ w76 ⟨g76,rfl,h76⟩
 refine ⟨⟨h76.rd 0 rfl,h76.at_ 2 rfl,trivial⟩,?_⟩
 refine dT 6 (x_bget h76 [(pt bb 0),(sV client)] (by kernel_rfl) (get_yes (h76.rd 1 rfl) h32 hb2 hu)) ?_
 rintro _ w77 ⟨rfl,h77⟩
 refine ⟨⟨h77.rd 0 rfl,h77.at_ 2 rfl,trivial⟩,?_⟩
 refine dP 2 [7,8,9] ?_
 refine dT 11 (xSs h77 0 138 (.tmp 8) (.tmp 22) 0 ([(sV u.name)]++vb (kl u.key)++[(zD u.life),(zD u.renew),(bV u.mesh)]) ([(sV u.name)]++vb (kl u.key)++[(zD u.life),(zD u.renew),(bV u.mesh)])) ?_
 rintro _ w78 h78
 refine ⟨⟨h78.rd 0 rfl,h78.at_ 2 rfl,trivial⟩,?_⟩
 refine dN 12 ?_
 refine dX ?_
 exact mK hJ6 (hhJ6 _ _ ⟨g76,_,pM,h78.sel [0,1,2,3] [0,1,2] (by kernel_rfl) rfl rfl⟩)
end
section
open Go.Value renaming int->iV,slice->lV,string->sV,bool->bV,agg->aV
open Go.RowKit Go.QT
def auC(s1:ByteArray)(a q:Int)(Ky:Fin 16->UInt8)(v:Value):List Value:=[sV s1,.int .i64 a,.int .i64 q]++vb (kl Ky)++[v]
/-- What is left of what shows. -/
def AuPost(w:World)(s1:ByteArray)(a q:Int)(Ky:Fin 16->UInt8)(b:Bytes)(e:Ending)(w':World):Prop:=
 ∃ A c,e=.returned (.tuple #[.agg (auC s1 a q Ky (.slice A b.length c)).toArray,.int .i64 0])/\Hp (fun _=>False) w w' [] [rSB (.slice A b.length c) b]
theorem au_end{w w':World}{ro rs:List Res}{G:Nat->Prop}{s1:ByteArray}{a q:Int}{Ky:Fin 16->UInt8}{b:Bytes}{A:Option Addr}{c:Nat}(h:Hp (fun _=>False) w w' ro rs)(i:Nat)(hi:rs[i]?=some (rTh G (.iface 100 (.agg (auC s1 a q Ky (.slice A b.length c)).toArray)) (.authent s1 a q Ky b))):Hp (fun _=>False) w w' [] [rSB (.slice A b.length c) b]:=by
 obtain ⟨A',c',e,hsg⟩:=(h.own i _ hi).2
 injection e with _ e;injection e with e
 have e:=congrArg Array.toList e
 have e:=List.append_cancel_left e
 injection e with e _
 rw [← e] at hsg
 exact (Hp.nil _ w).newS h.below0 _ hsg.2.1 (fun q hq=>(h.fresh i hi q (hsg.2.2 hq.1 q hq.2)).1)
theorem x_au{o:Oper}{a:Act}{F0:Nat->Prop}{w0 w:World}{ro rs:List Res}{s1:ByteArray}{ta q:Int}{Ky:Fin 16->UInt8}{b:Bytes}(h:Hp F0 w0 w ro rs)(al:List Value)(hp:pureVal Tryz.prog (execOp a.eval o)=some (.enter 48 al.toArray))(hc:Calls Tryz.prog 48 al.toArray w (AuPost w s1 ta q Ky b)) :
   OpTo Tryz.prog o a w (fun u w'=>∃ A c,u=.tuple #[.agg (auC s1 ta q Ky (.slice A b.length c)).toArray,.int .i64 0]/\Hp F0 w0 w' ro (rSB (.slice A b.length c) b::rs)):=
 OpTo.enter 48 al hp hc fun e w' hq=>by
   obtain ⟨A,c,he,h2⟩:=hq
   exact ⟨_,he,A,c,rfl,h.call0 h2⟩
theorem au_yes{F:Nat->Prop}{tb:Nat}{s:STab}{K:Fin 16->UInt8}{us:Int}{A:Option Addr}{c:Nat}{l:Bytes}{w:World}(hT:(rTab F tb s).Φ w)(hs:TabOk s)(hv:SB w (.slice A l.length c) l){s1:ByteArray}{ta q:Int}{Ky:Fin 16->UInt8}{b body:Bytes}(ho:s.open_ (kl K) us l=some body)(hu:unpB body=.inr (.authent s1 ta q Ky b)):Calls Tryz.prog 48 #[(Value.iface 28 (pt tb 0)),(aV (vb (kl K)).toArray),.int .i64 us,.slice A l.length c] w (AuPost w s1 ta q Ky b):=by
 have h0:=((Hp.ro1 (rSB (.slice A l.length c) l) hv).addR (rTab F tb s) hT (by simp))
 refine mE 45 ?_
 refine mN h0 31 (vb (kl K)) fun g2 w2 h2=>?_
 refine mN h2 100 ([zE,zO,zO]++vb (List.replicate 16 0)++[zN]) fun g3 w3 h3=>?_
 refine mN h3 100 ([zE,zO,zO]++vb (List.replicate 16 0)++[zN]) fun g5 w5 h5=>?_
 refine ma h5 2 ?_
 refine mT (x_openR h5 0 rfl hs K us l (lV A l.length c) (some body) (by kernel_rfl) (h5.rd 1 rfl) ho) ?_
 rintro _ w7 ⟨A7,c7,rfl,h7⟩
 refine mT (x_unp h7 hu [(lV A7 body.length c7)] (by kernel_rfl) (unp_any (OB.sb (h7.at_ 0 rfl)))) ?_
 rintro _ w11 ⟨G11,x11,rfl,h11⟩
 obtain ⟨A11,c11,rfl,_⟩:=(h11.at_ 0 rfl).2
 refine mN h11 100 ([zE,zO,zO]++vb (List.replicate 16 0)++[zN]) fun g16 w16 h16=>?_
 refine mT (xR h16 0 ([(sV s1),(zD ta),(zD q)]++vb (kl Ky)++[(lV A11 b.length c11)])) fun _ w17 h17=>?_
 refine ma h17 0 ?_
 refine mT (xR h17 4 ([(sV s1),(zD ta),(zD q)]++vb (kl Ky)++[(lV A11 b.length c11)])) fun _ w20 h20=>?_
 refine mF (post_2 (r:=.cell 8 100) (s:=.tmp 9) (by kernel_rfl) rfl (rce (h20.at_ 4 rfl)) (rtm zO) ?_)
 exact ⟨_,_,rfl,au_end h20 1 rfl⟩
theorem opth_yes{s:STab}{K:Bytes}{us:Int}{l:Bytes}{t:Thing}(h:openTh s K us l=.inr t):∃ body,s.open_ K us l=some body/\unpB body=.inr t:=by
 unfold openTh at h
 split at h
 · cases h
 rename_i body ho;exact ⟨body,ho,h⟩
theorem auth_any{F:Nat->Prop}{tb:Nat}{s:STab}{K:Fin 16->UInt8}{us:Int}{bv:Value}{l:Bytes}{w:World}(hT:(rTab F tb s).Φ w)(hs:TabOk s)(hv:SB w bv l){s1:ByteArray}{ta q:Int}{Ky:Fin 16->UInt8}{b:Bytes}(h:openTh s (kl K) us l=.inr (.authent s1 ta q Ky b)):Calls Tryz.prog 48 #[(Value.iface 28 (pt tb 0)),(aV (vb (kl K)).toArray),.int .i64 us,bv] w (AuPost w s1 ta q Ky b):=by
 obtain ⟨A,c,rfl,_⟩:=id hv
 obtain ⟨body,ho,hu⟩:=opth_yes h
 exact au_yes hT hs hv ho hu
theorem oI_as{w:World}{s:STab}{K:Bytes}{us:Int}{l:Bytes}{al:Array Value}{v:Value}(h:Calls Tryz.prog 17 al w (DPost w (outInside (openTh s K us l))))(hv:outInside (openTh s K us l)=v):Calls Tryz.prog 17 al w (DPost w v):=hv ▸ h
theorem opened_late{F:Nat->Prop}{sv kb cb bk tb bb:Nat}{Kk:Fin 16->UInt8}{s:STab}{now:Int}{C:Option Addr}{c:Nat}{l:Bytes}{w:World}(hS:Blk w sv 73 [pt kb 0,pt cb 0,pt bk 0])(hK:Blk w kb 78 (kdcC tb bb Kk))(hT:(rTab F tb s).Φ w)(hs:TabOk s)(hv:SB w (.slice C l.length c) l){f a u r:Int}{Ky:Fin 16->UInt8}{s1:ByteArray}(ho:outInside (openTh s (kl Kk) 2 l)=.tuple #[(aV ([(iV .i64 f)]++vb (kl Ky)++[(sV s1),(iV .i64 a),(iV .i64 u),(iV .i64 r)]).toArray),.int .i64 0])(hu:u<=now):Calls Tryz.prog 47 #[pt sv 0,.int .i64 now,(aV ([(sV (⟨#[107,100,99]⟩)),(lV C l.length c)]).toArray)] w (DPost w (.tuple #[(aV ([(iV .i64 0)]++vb (List.replicate 16 0)++[(sV ByteArray.empty),(iV .i64 0),(iV .i64 0),(iV .i64 0)]).toArray),.int .i64 12])):=by
 have h0:=(((Hp.ro1 (rSB (.slice C l.length c) l) hv).addR (rTab F tb s) hT (by simp)).addR (rBlk kb 78 (kdcC tb bb Kk)) hK (by simp)).addR (rBlk sv 73 _) hS (by simp)
 refine mE 45 ?_
 refine mN h0 35 ([(sV (⟨#[107,100,99]⟩)),(lV C l.length c)]) fun g2 w2 h2=>?_
 refine mN h2 54 ([zO]++vb (List.replicate 16 0)++[zE,zO,zO,zO]) fun g3 w3 h3=>?_
 refine ma h3 1 ?_
 refine mX 12 zV (bV (!((⟨#[107,100,99]⟩:ByteArray).toList == (⟨#[107,100,99]⟩:ByteArray).toList))) (by simp) ?_
 refine dG h3 23 22 (fun W=>(rBlk sv 73 ([(pt kb 0),(pt cb 0),(pt bk 0)])).Φ W/\(rBlk kb 78 ([(Value.iface 28 (pt tb 0)),(pt bb 0)]++vb (kl Kk))).Φ W/\(rBlk g2 35 ([(sV (⟨#[107,100,99]⟩)),(lV C l.length c)])).Φ W/\True) (fun w7 h7=>⟨h7.rd 0 rfl,h7.rd 1 rfl,h7.at_ 1 rfl,trivial⟩) ?_
 intro w7 h7
 refine dP 16 [0,1,2,7,8,9,14] ?_
 refine dL 3 (fun W hW=>hW.1) ?_
 refine dP 13 [4,5] ?_
 refine dL 6 (fun W hW=>hW.2.1) ?_
 refine dL 10 (fun W hW=>hW.1) ?_
 refine dP 9 [11,12] ?_
 refine dL 13 (fun W hW=>hW.2.1) ?_
 refine dL 15 (fun W hW=>hW.2.2.1) ?_
 refine dO 16 20 ?_ ?_
 ·
  refine oD h7 [(Value.iface 28 (pt tb 0)),(aV (vb (kl Kk)).toArray),(zD 2),(lV C l.length c)] (oI_as (oInside_any (h7.rd 2 rfl) hs (h7.rd 3 rfl)) ho) (fun w8 h8=>⟨⟨h8.rd 0 rfl,h8.rd 1 rfl,h8.at_ 1 rfl,trivial⟩,?_⟩)
  refine dP 3 [17,18,19] ?_
  refine dT 20 (xN h8 54 ([zO]++vb (List.replicate 16 0)++[zE,zO,zO,zO])) ?_
  rintro _ w9 ⟨g9,rfl,h9⟩
  refine ⟨⟨h9.rd 0 rfl,h9.rd 1 rfl,h9.at_ 2 rfl,trivial⟩,?_⟩
  refine dT 21 (xR h9 0 ([(zD f)]++vb (kl Ky)++[(sV s1),(zD a),(zD u),(zD r)])) ?_
  rintro _ w10 h10
  refine ⟨⟨h10.rd 0 rfl,h10.rd 1 rfl,h10.at_ 2 rfl,trivial⟩,?_⟩
  refine dN 22 ?_
  refine dX ?_
  refine ma h10 0 ?_
  refine mX 42 (.bool true) (bV (decide (u<=now))) (by simp;omega) ?_
  refine mT (xR h10 1 ([zO]++vb (List.replicate 16 0)++[zE,zO,zO,zO])) fun _ w15 h15=>?_
  refine mF (post_2 (r:=.cell 6 54) (s:=.tmp 7) (by kernel_rfl) rfl (rce (h15.at_ 1 rfl)) (rtm (zD 12)) ?_)
  exact ⟨rfl,h15.below0⟩
 refine oT (xN h7 54 ([zO]++vb (List.replicate 16 0)++[zE,zO,zO,zO])) ?_
 rintro _ w16 ⟨g16,rfl,h16⟩
 refine ⟨⟨h16.rd 0 rfl,h16.rd 1 rfl,h16.at_ 2 rfl,trivial⟩,?_⟩
 refine dD 16 h16 [(Value.iface 28 (pt tb 0)),(aV (vb (kl Kk)).toArray),(zD 2),(lV C l.length c)] (oI_as (oInside_any (h16.rd 2 rfl) hs (h16.rd 3 rfl)) ho) (fun w17 h17=>⟨⟨h17.rd 0 rfl,h17.rd 1 rfl,h17.at_ 2 rfl,trivial⟩,?_⟩)
 refine dP 2 [17,18,19] ?_
 refine dT 21 (xR h17 0 ([(zD f)]++vb (kl Ky)++[(sV s1),(zD a),(zD u),(zD r)])) ?_
 rintro _ w18 h18
 refine ⟨⟨h18.rd 0 rfl,h18.rd 1 rfl,h18.at_ 2 rfl,trivial⟩,?_⟩
 refine dN 22 ?_
 refine dX ?_
 refine ma h18 0 ?_
 refine mX 42 (.bool true) (bV (decide (u<=now))) (by simp;omega) ?_
 refine mT (xR h18 1 ([zO]++vb (List.replicate 16 0)++[zE,zO,zO,zO])) fun _ w23 h23=>?_
 refine mF (post_2 (r:=.cell 6 54) (s:=.tmp 7) (by kernel_rfl) rfl (rce (h23.at_ 1 rfl)) (rtm (zD 12)) ?_)
 exact ⟨rfl,h23.below0⟩
theorem opened_ok{F:Nat->Prop}{sv kb cb bk tb bb:Nat}{Kk:Fin 16->UInt8}{s:STab}{now:Int}{C:Option Addr}{c:Nat}{l:Bytes}{w:World}(hS:Blk w sv 73 [pt kb 0,pt cb 0,pt bk 0])(hK:Blk w kb 78 (kdcC tb bb Kk))(hT:(rTab F tb s).Φ w)(hs:TabOk s)(hv:SB w (.slice C l.length c) l){f a u r:Int}{Ky:Fin 16->UInt8}{s1:ByteArray}(ho:outInside (openTh s (kl Kk) 2 l)=.tuple #[(aV ([(iV .i64 f)]++vb (kl Ky)++[(sV s1),(iV .i64 a),(iV .i64 u),(iV .i64 r)]).toArray),.int .i64 0])(hu:now<u):Calls Tryz.prog 47 #[pt sv 0,.int .i64 now,(aV ([(sV (⟨#[107,100,99]⟩)),(lV C l.length c)]).toArray)] w (DPost w (.tuple #[(aV ([(iV .i64 f)]++vb (kl Ky)++[(sV s1),(iV .i64 a),(iV .i64 u),(iV .i64 r)]).toArray),.int .i64 0])):=by
 have h0:=(((Hp.ro1 (rSB (.slice C l.length c) l) hv).addR (rTab F tb s) hT (by simp)).addR (rBlk kb 78 (kdcC tb bb Kk)) hK (by simp)).addR (rBlk sv 73 _) hS (by simp)
 refine mE 45 ?_
 refine mN h0 35 ([(sV (⟨#[107,100,99]⟩)),(lV C l.length c)]) fun g2 w2 h2=>?_
 refine mN h2 54 ([zO]++vb (List.replicate 16 0)++[zE,zO,zO,zO]) fun g3 w3 h3=>?_
 refine ma h3 1 ?_
 refine mX 12 zV (bV (!((⟨#[107,100,99]⟩:ByteArray).toList == (⟨#[107,100,99]⟩:ByteArray).toList))) (by simp) ?_
 refine dG h3 23 22 (fun W=>(rBlk sv 73 ([(pt kb 0),(pt cb 0),(pt bk 0)])).Φ W/\(rBlk kb 78 ([(Value.iface 28 (pt tb 0)),(pt bb 0)]++vb (kl Kk))).Φ W/\(rBlk g2 35 ([(sV (⟨#[107,100,99]⟩)),(lV C l.length c)])).Φ W/\True) (fun w7 h7=>⟨h7.rd 0 rfl,h7.rd 1 rfl,h7.at_ 1 rfl,trivial⟩) ?_
 intro w7 h7
 refine dP 16 [0,1,2,7,8,9,14] ?_
 refine dL 3 (fun W hW=>hW.1) ?_
 refine dP 13 [4,5] ?_
 refine dL 6 (fun W hW=>hW.2.1) ?_
 refine dL 10 (fun W hW=>hW.1) ?_
 refine dP 9 [11,12] ?_
 refine dL 13 (fun W hW=>hW.2.1) ?_
 refine dL 15 (fun W hW=>hW.2.2.1) ?_
 refine dO 16 20 ?_ ?_
 ·
  refine oD h7 [(Value.iface 28 (pt tb 0)),(aV (vb (kl Kk)).toArray),(zD 2),(lV C l.length c)] (oI_as (oInside_any (h7.rd 2 rfl) hs (h7.rd 3 rfl)) ho) (fun w8 h8=>⟨⟨h8.rd 0 rfl,h8.rd 1 rfl,h8.at_ 1 rfl,trivial⟩,?_⟩)
  refine dP 3 [17,18,19] ?_
  refine dT 20 (xN h8 54 ([zO]++vb (List.replicate 16 0)++[zE,zO,zO,zO])) ?_
  rintro _ w9 ⟨g9,rfl,h9⟩
  refine ⟨⟨h9.rd 0 rfl,h9.rd 1 rfl,h9.at_ 2 rfl,trivial⟩,?_⟩
  refine dT 21 (xR h9 0 ([(zD f)]++vb (kl Ky)++[(sV s1),(zD a),(zD u),(zD r)])) ?_
  rintro _ w10 h10
  refine ⟨⟨h10.rd 0 rfl,h10.rd 1 rfl,h10.at_ 2 rfl,trivial⟩,?_⟩
  refine dN 22 ?_
  refine dX ?_
  refine ma h10 0 ?_
  refine mX 42 (.bool false) (bV (decide (u<=now))) (by simp;omega) ?_
  refine ma h10 0 ?_
  refine mT (xR h10 1 ([(zD f)]++vb (kl Ky)++[(sV s1),(zD a),(zD u),(zD r)])) fun _ w15 h15=>?_
  refine mF (post_2 (r:=.cell 6 54) (s:=.tmp 7) (by kernel_rfl) rfl (rce (h15.at_ 1 rfl)) (rtm zO) ?_)
  exact ⟨rfl,h15.below0⟩
 refine oT (xN h7 54 ([zO]++vb (List.replicate 16 0)++[zE,zO,zO,zO])) ?_
 rintro _ w16 ⟨g16,rfl,h16⟩
 refine ⟨⟨h16.rd 0 rfl,h16.rd 1 rfl,h16.at_ 2 rfl,trivial⟩,?_⟩
 refine dD 16 h16 [(Value.iface 28 (pt tb 0)),(aV (vb (kl Kk)).toArray),(zD 2),(lV C l.length c)] (oI_as (oInside_any (h16.rd 2 rfl) hs (h16.rd 3 rfl)) ho) (fun w17 h17=>⟨⟨h17.rd 0 rfl,h17.rd 1 rfl,h17.at_ 2 rfl,trivial⟩,?_⟩)
 refine dP 2 [17,18,19] ?_
 refine dT 21 (xR h17 0 ([(zD f)]++vb (kl Ky)++[(sV s1),(zD a),(zD u),(zD r)])) ?_
 rintro _ w18 h18
 refine ⟨⟨h18.rd 0 rfl,h18.rd 1 rfl,h18.at_ 2 rfl,trivial⟩,?_⟩
 refine dN 22 ?_
 refine dX ?_
 refine ma h18 0 ?_
 refine mX 42 (.bool false) (bV (decide (u<=now))) (by simp;omega) ?_
 refine ma h18 0 ?_
 refine mT (xR h18 1 ([(zD f)]++vb (kl Ky)++[(sV s1),(zD a),(zD u),(zD r)])) fun _ w23 h23=>?_
 refine mF (post_2 (r:=.cell 6 54) (s:=.tmp 7) (by kernel_rfl) rfl (rce (h23.at_ 1 rfl)) (rtm zO) ?_)
 exact ⟨rfl,h23.below0⟩
end
section
open Go.RowKit Go.QT
theorem eqFields_self{P:Program}(d:Nat)(xs:Array Value)(w:World):∀ (fs:List Field),(∀ f ∈ fs,∃ x,(∀ W,(part f.type xs f.offset).run P W=.ok x W)/\∀ W,(Op.equalIn d f.type x x).run P W=.ok true W)->(Op.eqFields d xs xs fs).run P w=.ok true w
 | [],_=>by simp [Op.eqFields]
 | f::fs,h=>by
   obtain ⟨x,h1,h2⟩:=h f (by simp)
   have ih:=eqFields_self d xs w fs (fun g hg=>h g (by simp [hg]))
   unfold Op.eqFields
   split
   · simp only [Sem.run_bind,h1,h2,Result.andThen_ok,ih,Bool.not_true,Bool.false_eq_true,if_false]
   exact ih
theorem part_at{P:Program}(t:TypeId)(cs:List Value)(k:Nat)(v:Value)(ht:∀ W,(isAgg t).run P W=.ok false W)(hv:cs[k]?=some v)(W:World):(part t cs.toArray k).run P W=.ok v W:=by
 have e:cs.toArray[k]?=some v:=by simpa using hv
 simp only [part,Sem.run_bind,ht,Result.andThen_ok,Bool.false_eq_true,if_false,e,Sem.run_pure]
theorem part_ar{P:Program}(t:TypeId)(n:Nat)(cs:List Value)(k:Nat)(m:List Value)(ht:∀ W,(isAgg t).run P W=.ok true W)(hs:∀ W,(sizeOf t).run P W=.ok n W)(hm:(cs.drop k).take n=m)(W:World):(part t cs.toArray k).run P W=.ok (.agg m.toArray) W:=by
 have e:cs.toArray.extract k (k+n)=m.toArray:=by
   apply Array.ext'
   rw [Array.toList_extract,← hm]
   simp [List.extract_eq_take_drop]
 simp only [part,Sem.run_bind,ht,hs,Result.andThen_ok,if_true,Sem.run_pure]
 rw [e]
theorem self_struct{P:Program}(d:Nat)(t:TypeId)(cs:List Value)(tl:List (TypeId × Nat))(ht:P.underlying t=some (.struct (P.fieldsOf t)))(hp:P.stoodInHeld t=false)(hf:(P.fieldsOf t).toList.map (fun f=>(f.type,f.offset))=tl)
   (h:∀ p ∈ tl,∃ x,(∀ W,(part p.1 cs.toArray p.2).run P W=.ok x W)/\∀ W,(Op.equalIn d p.1 x x).run P W=.ok true W) (w:World):(Op.equalIn (d+1) t (.agg cs.toArray) (.agg cs.toArray)).run P w=.ok true w:=by
 rw [run_equalIn_struct w d t _ _ ht hp]
 refine eqFields_self d _ w _ fun f hm=>?_
 exact h (f.type,f.offset) (by rw [← hf];exact List.mem_map_of_mem hm)
section
theorem seq_int(t:TypeId)(ht:Tryz.prog.underlying t=some (.int .i64))(n:Int)(W:World):(Op.equalIn 9999 t (.int .i64 n) (.int .i64 n)).run Tryz.prog W=.ok true W:=by
 rw [run_equalIn_int W 9998 t .i64 .i64 _ _ ht];simp
theorem seq_str(s:ByteArray)(W:World):(Op.equalIn 9999 9 (.string s) (.string s)).run Tryz.prog W=.ok true W:=by
 rw [run_equalIn_string W 9998 9 _ _ (by kernel_rfl)];simp
end
end
section
open Go.RowKit Go.QT
/-- A field of two structs. -/
inductive Fq
 | num (k:IntKind) (m n:Int)
 | str (s t:ByteArray)
 | tru (a b:Bool)
 | key (K L:Fin 16->UInt8)
def Fq.l:Fq->List Value
 | .num k m _=>[.int k m]
 | .str s _=>[.string s]
 | .tru a _=>[.bool a]
 | .key K _=>vb (kl K)
def Fq.r:Fq->List Value
 | .num k _ n=>[.int k n]
 | .str _ t=>[.string t]
 | .tru _ b=>[.bool b]
 | .key _ L=>vb (kl L)
def Fq.eqb:Fq->Bool
 | .num _ m n=>m == n
 | .str s t=>decide (s=t)
 | .tru a b=>a == b
 | .key K L=>decide (kl K=kl L)
noncomputable def Fq.ok (P:Program) (t:TypeId):Fq->Bool
 | .num ..=>(match P.underlying t,pureVal P (isAgg t) with|some (.int _),some false=>true|_,_=>false)
 | .str ..=>(match P.underlying t,pureVal P (isAgg t) with|some .string,some false=>true|_,_=>false)
 | .tru ..=>(match P.underlying t,pureVal P (isAgg t) with|some .bool,some false=>true|_,_=>false)
 | .key ..=>(match P.underlying t,pureVal P (isAgg t),pureVal P (sizeOf t) with|some (.array 16 e),some true,some 16=>Nat.beq e 5|_,_,_=>false)
section
variable{P:Program}{t:TypeId}
theorem ok_num{k:IntKind}{m n:Int}(h:(Fq.num k m n).ok P t=true):∃ k',P.underlying t=some (.int k')/\pureVal P (isAgg t)=some false:=by
 simp only [Fq.ok] at h
 split at h
 · rename_i kd' hu ha;exact ⟨_,hu,ha⟩
 cases h
theorem ok_str{s u:ByteArray}(h:(Fq.str s u).ok P t=true):P.underlying t=some .string/\pureVal P (isAgg t)=some false:=by
 simp only [Fq.ok] at h
 split at h
 · rename_i hu ha;exact ⟨hu,ha⟩
 cases h
theorem ok_tru{a b:Bool}(h:(Fq.tru a b).ok P t=true):P.underlying t=some .bool/\pureVal P (isAgg t)=some false:=by
 simp only [Fq.ok] at h
 split at h
 · rename_i hu ha;exact ⟨hu,ha⟩
 cases h
theorem ok_key{K L:Fin 16->UInt8}(h:(Fq.key K L).ok P t=true):P.underlying t=some (.array 16 5)/\pureVal P (isAgg t)=some true/\pureVal P (sizeOf t)=some 16:=by
 simp only [Fq.ok] at h
 split at h
 · rename_i e hu ha hs
   have he:=Nat.eq_of_beq_eq_true h
   subst he;exact ⟨hu,ha,hs⟩
 cases h
end
theorem beq_str(s t:ByteArray):(s.toList == t.toList)=decide (s=t):=by
 rw [ByteArray.toList_eq,ByteArray.toList_eq,Bool.eq_iff_iff,beq_iff_eq,decide_eq_true_eq]
 constructor
 · intro h;cases s;cases t;simp only [ByteArray.mk.injEq];exact Array.ext' h
 rintro rfl;rfl
theorem fq_one(q:Fq)(t:TypeId)(k:Nat)(xs ys:List Value)(ok:q.ok Tryz.prog t=true)(hl:(xs.drop k).take q.l.length=q.l)(hr:(ys.drop k).take q.r.length=q.r) :
   ∃ x y,(∀ W,(part t xs.toArray k).run Tryz.prog W=.ok x W)/\(∀ W,(part t ys.toArray k).run Tryz.prog W=.ok y W)/\∀ W,(Op.equalIn 9999 t x y).run Tryz.prog W=.ok q.eqb W:=by
 have one:∀ (zs:List Value) (v:Value),(zs.drop k).take 1=[v]->zs[k]?=some v:=by
   intro zs v h
   have:=congrArg (·[0]?) h
   simpa [List.getElem?_take,List.getElem?_drop] using this
 cases q with
 | num kd m n =>
   obtain ⟨kd',hu,ha⟩:=ok_num ok
   exact ⟨_,_,part_at t xs k _ (pureVal_run ha) (one xs _ hl),part_at t ys k _ (pureVal_run ha) (one ys _ hr),fun W=>run_equalIn_int W 9998 t kd kd' m n hu⟩
 | str s u =>
   obtain ⟨hu,ha⟩:=ok_str ok
   exact ⟨_,_,part_at t xs k _ (pureVal_run ha) (one xs _ hl),part_at t ys k _ (pureVal_run ha) (one ys _ hr),fun W=>(run_equalIn_string W 9998 t s u hu).trans (by rw [beq_str];rfl)⟩
 | tru a b =>
   obtain ⟨hu,ha⟩:=ok_tru ok
   exact ⟨_,_,part_at t xs k _ (pureVal_run ha) (one xs _ hl),part_at t ys k _ (pureVal_run ha) (one ys _ hr),fun W=>run_equalIn_bool W 9998 t a b hu⟩
 | key K L =>
   obtain ⟨hu,ha,hs⟩:=ok_key ok
   have hK:(vb (kl K)).length=16:=by simp [vb,kl]
   have hL:(vb (kl L)).length=16:=by simp [vb,kl]
   have hl:(xs.drop k).take (vb (kl K)).length=vb (kl K):=hl
   have hr:(ys.drop k).take (vb (kl L)).length=vb (kl L):=hr
   rw [hK] at hl;rw [hL] at hr
   exact ⟨_,_,part_ar t 16 xs k _ (pureVal_run ha) (pureVal_run hs) hl,part_ar t 16 ys k _ (pureVal_run ha) (pureVal_run hs) hr,fun W=>run_equalIn16 9997 t _ _ W hu (kl_len K) (kl_len L)⟩
theorem fq_all (xs ys : List Value) (w : World) : ∀ (fs : List Field) (qs : List Fq), fs.length = qs.length -> fs.all (fun f => f.name != "_") = true -> ((fs.zip qs).all fun p => p.2.ok Tryz.prog p.1.type) = true -> (fs.zip qs).map (fun p => (xs.drop p.1.offset).take p.2.l.length) = (fs.zip qs).map (·.2.l) -> (fs.zip qs).map (fun p => (ys.drop p.1.offset).take p.2.r.length) = (fs.zip qs).map (·.2.r) ->
   (Op.eqFields 9999 xs.toArray ys.toArray fs).run Tryz.prog w=.ok (qs.all Fq.eqb) w
 | [],[],_,_,_,_,_=>by simp [Op.eqFields]
 | f::fs,q::qs,hn,hb,ho,hl,hr=>by
   simp only [List.zip_cons_cons,List.all_cons,List.map_cons,Bool.and_eq_true,List.cons.injEq] at hb ho hl hr
   obtain ⟨x,y,h1,h2,h3⟩:=fq_one q f.type f.offset xs ys ho.1 hl.1 hr.1
   have ih:=fq_all xs ys w fs qs (by simpa using hn) hb.2 ho.2 hl.2 hr.2
   unfold Op.eqFields
   have hne : f.name ≠ "_" := by simpa using hb.1
   rw [if_pos hne]
   simp only [Sem.run_bind,h1,h2,h3,Result.andThen_ok,List.all_cons]
   cases q.eqb
   · simp
   simp [ih]
/-- == of two structs. -/
theorem e_eqS{o:Oper}{a:Act}(qs:List Fq)(b:Bool)(hb:qs.all Fq.eqb=b){W:World}(ho:o.op=.binOp .eql (bT o) (bX o) (bY o) (bU o):=by kernel_rfl)(hx:a.eval (bX o)=.agg (qs.map Fq.l).flatten.toArray:=by kernel_rfl)(hy:a.eval (bY o)=.agg (qs.map Fq.r).flatten.toArray:=by kernel_rfl)
   (hg : Tryz.prog.eqGuardType Tryz.prog.depth (bT o) = false := by kernel_rfl) (ht : Tryz.prog.underlying (bT o) = some (.struct (Tryz.prog.fieldsOf (bT o))) := by kernel_rfl) (hp : Tryz.prog.stoodInHeld (bT o) = false := by kernel_rfl) (hn : (Tryz.prog.fieldsOf (bT o)).toList.length = qs.length := by kernel_rfl) (hu : (Tryz.prog.fieldsOf (bT o)).toList.all (fun f => f.name != "_") = true := by kernel_rfl)
   (hk:(((Tryz.prog.fieldsOf (bT o)).toList.zip qs).all fun p=>p.2.ok Tryz.prog p.1.type)=true:=by kernel_rfl) (hl:((Tryz.prog.fieldsOf (bT o)).toList.zip qs).map (fun p=>((qs.map Fq.l).flatten.drop p.1.offset).take p.2.l.length)=((Tryz.prog.fieldsOf (bT o)).toList.zip qs).map (·.2.l):=by kernel_rfl) (hr:((Tryz.prog.fieldsOf (bT o)).toList.zip qs).map (fun p=>((qs.map Fq.r).flatten.drop p.1.offset).take p.2.r.length)=((Tryz.prog.fieldsOf (bT o)).toList.zip qs).map (·.2.r):=by kernel_rfl) :
   (execOp a.eval o).run Tryz.prog W=.ok (.value (.bool b)) W:=by
 subst hb
 have h:=fq_all _ _ W _ qs hn hu hk hl hr
 unfold execOp
 rw [ho]
 simp only [hx,hy,Sem.run_bind,run_eqGuard_agg W _ (bT o) _ _ _ _ hg,Result.andThen_ok,run_eql_struct]
 rw [show (10000:Nat)=9999+1 from rfl,run_equalIn_struct W 9999 (bT o) _ _ ht hp,h]
 rfl
end
section
open Go.RowKit Go.QT
/-- A row of the call's own; without elements it may stand anywhere, without room. -/
def rOW(E:TypeId)(sz:Nat)(v:Value)(xs:List (List Value)):Res where
 F:=fun q=>xs≠[]/\v.ownBlock=some q
 Φ:=fun w=>(xs=[]/\∃ A,v=.slice A 0 0)∨(xs≠[]/\OV w 0 E sz v xs)
 lt:=fun h q hq=>h.elim (fun h=>absurd h.1 hq.1) fun h=>(rOV E sz v xs).lt h.2 q hq.2
 keep:=fun h hs hk=>h.imp id fun h=>⟨h.1,(rOV E sz v xs).keep h.2 hs fun q hq=>hk q ⟨h.1,hq⟩⟩
section
variable{P:Program}{o:Oper}{a:Act}{w w' w0:World}{sz:Nat}{E:TypeId}{v:Value}{xs:List (List Value)}{F0:Nat->Prop}{ro rs:List Res}
theorem OW.form(h:(rOW E sz v xs).Φ w):∃ A c,v=.slice A xs.length c/\RV w sz A c xs:=by
 rcases h with ⟨rfl,A,rfl⟩|⟨_,h⟩
 · exact ⟨A,0,rfl,Nat.le_refl _,by unfold maxLen;omega,by simp,fun h=>absurd rfl h⟩
 obtain ⟨A,c,rfl,_⟩:=h.form
 exact ⟨A,c,rfl,(OV.rvn h).2⟩
theorem OW.rvn{A:Option Addr}{n c:Nat}(h:(rOW E sz (.slice A n c) xs).Φ w):xs.length=n/\RV w sz A c xs:=by
 obtain ⟨A',c',e,h⟩:=OW.form h
 injection e with h1 h2 h3
 subst h1;subst h3
 exact ⟨h2.symm,h⟩
theorem append_alias(t e ty:TypeId)(i:TypeInfo)(z:Value)(ht:P.underlying t=some (.slice e))(hi:P.info? e=some i)(hz:i.zero=some z)(A:Option Addr)(x:Value)(news:List Value)(hs:Src P i.size t x 1 news w)(hfit:Builtin.nextslicecap 1 0*i.bytes<=281474976710656) :
   (Builtin.append_ #[t,t] ty #[.slice A 0 0,x]).run P w=(Builtin.append_ #[t,t] ty #[.slice none 0 0,x]).run P w:=by
 have hold:∀ A:Option Addr,(Builtin.firstCells i.size 0 (.slice A 0 0)).run P w.drew=.ok ([]:List Value).toArray w.drew:=by
   intro A
   cases A with
   | none=>exact run_firstCells_none w.drew i.size 0 0 0
   | some A=>exact run_firstCells_some w.drew i.size 0 A 0 0 [] (by simp) (by simp)
 rw [run_append_grow_src w t t ty e i z ht hi hz A 0 0 [] (hold A) x 1 news hs (by omega) (by decide) (by simpa using hfit),run_append_grow_src w t t ty e i z ht hi hz none 0 0 [] (hold none) x 1 news hs (by omega) (by decide) (by simpa using hfit)]
/-- append(v, x). -/
theorem x_pushW(h:Hp F0 w0 w ro rs)(i j:Nat){g:Nat}{T:TypeId}{news:List Value}(hi:rs[i]?=some (rOW E sz v xs))(hj:rs[j]?=some (rBlk g T news))(s x:Operand)(t:TypeId)(ho:o.op=.call { callee:=.builtin .append,args:=#[s,x],argTypes:=#[t,t] })(bytes:Nat)(z:Value)(ht:P.underlying t=some (.slice E))(hinf:(P.info? E).map (fun i=>(i.zero,i.size,i.bytes))=some (some z,sz,bytes))
   (hzs:z.cells.size=sz) (hsz:decide (0<sz)=true) (hs:a.eval s=v) (hx:a.eval x=.slice (some ⟨g,0,none⟩) 1 1) (hn:news.length=sz) (h1:news.all (·.oneCell')=true) (hlen:(xs.length+1)*bytes<=140737488355328) (hlen2:xs.length<maxLen) (ys:List (List Value)) (n:Nat) (hys:ys=xs++[news]) (hyn:ys.length=n) :
   OpTo P o a w (fun u w'=>∃ A cc,u=.slice A n cc/\Hp F0 w0 w' ro (rs.set i (rOW E sz (.slice A n cc) ys))):=by
 subst hys;subst hyn
 have hsz:=of_decide_eq_true hsz
 have h1:∀ u ∈ news,u.oneCell'=true:=by simpa using h1
 have hb:Blk w g T news:=h.own j _ hj
 have hne:xs++[news]≠[]:=by simp
 rcases h.own i _ hi with ⟨rfl,A,rfl⟩|⟨hx0,hv⟩
 · let o':Oper:={ o with op:=.call { callee:=.builtin .append,args:=#[.const (.slice none 0 0),x],argTypes:=#[t,t] } }
   obtain ⟨v',w',hrun,h2,h3,h4⟩:=OV.push (P:=P) (o:=o') (a:=a) (.const (.slice none 0 0)) x t rfl 0 E sz bytes z ht hinf hzs hsz (.slice none 0 0) [] rfl (OV.nil w 0 E sz) g T news 1 hx hb hn h1 hlen hlen2 (Nat.zero_le _)
   obtain ⟨A',cc,e,_,_⟩:=h2.form
   obtain ⟨i0,hi0,hz0,hz1,hz2⟩:=info_parts hinf
   have hsrc:Src P i0.size t (.slice (some ⟨g,0,none⟩) 1 1) 1 news w:=Src.ofSlice w ht ⟨g,0,none⟩ 1 1 news (by rw [hz1];omega) (fun j u hu=>by rw [Addr.add_mid,Nat.zero_add,hb.cell,hu]) h1
   have hrun2:(execOp a.eval o).run P w=.ok (.value v') w':=by
     unfold execOp at hrun ⊢
     simp only [o',resolve,invoke,builtin,Sem.run_bind,Sem.run_pure,Result.andThen_ok,List.map_toArray,List.map_cons,List.map_nil,hx,show a.eval (.const (.slice none 0 0))=.slice none 0 0 from rfl] at hrun
     simp only [ho,resolve,invoke,builtin,Sem.run_bind,Sem.run_pure,Result.andThen_ok,List.map_toArray,List.map_cons,List.map_nil,hs,hx]
     rw [append_alias t E _ i0 z ht hi0 hz0 A _ news hsrc (by rw [hz2];exact growslice_fits (need:=1) (old:=0) (by omega) (by simpa using hlen))]
     exact hrun
   refine OpTo.run v' hrun2 ⟨A',cc,e,h.upd i hi (Fr.of_grown h3 (fun q hq=>by cases hq)) (rOW E sz _ ([]++[news])) (.inr ⟨hne,e ▸ h2⟩) (fun q hq=>?_)⟩
   rcases h4 with h4|h4
   · have:v'.ownBlock=some q:=by rw [e];exact hq.2
     rw [h4] at this;cases this
   right
   have:v'.ownBlock=some q:=by rw [e];exact hq.2
   rw [h4] at this
   injection this with this
   omega
 obtain ⟨v',w',hrun,h2,h3,h4⟩:=OV.push (P:=P) s x t ho 0 E sz bytes z ht hinf hzs hsz v xs hs hv g T news 1 hx hb hn h1 hlen hlen2 (Nat.zero_le _)
 obtain ⟨A,cc,e,_,_⟩:=h2.form
 refine OpTo.run v' hrun ⟨A,cc,e,h.upd i hi (Fr.of_grown h3 (fun q hq=>.inl ⟨hx0,hq⟩)) (rOW E sz _ (xs++[news])) (.inr ⟨hne,e ▸ h2⟩) (fun q hq=>?_)⟩
 have hq2:v'.ownBlock=some q:=by rw [e];exact hq.2
 rcases h4 with h4|h4
 · left;exact ⟨hx0,by rw [← h4];exact hq2⟩
 right
 rw [h4] at hq2
 injection hq2 with hq2
 omega
/-- v[:0:0], as an own row. -/
theorem Hp.owNil(h:Hp F0 w0 w ro rs)(E sz:Nat)(A:Option Addr):Hp F0 w0 w ro (rOW E sz (.slice A 0 0) []::rs):=
 h.newS (Below.refl _ _) _ (.inl ⟨rfl,A,rfl⟩) (fun _q hq=>absurd rfl hq.1)
theorem e_cut00{A:Option Addr}{n c:Nat}(t:TypeId)(x hi mx:Operand)(ho:o.op=.slice t x none (some hi) (some mx))(hx:a.eval x=.slice A n c)(kh km:IntKind)(hh:a.eval hi=.int kh 0)(hm:a.eval mx=.int km 0)(ht:P.underlying t=some (.slice (P.elem t)))(hE:pureVal P (sizeOf (P.elem t))=some sz)(W:World) :
   (execOp a.eval o).run P W=.ok (.value (.slice A 0 0)) W:=by
 have hsz:=pureVal_run hE W
 have hr:(Instr.sliceAt t (.slice A n c) none (some (.int kh 0)) (some (.int km 0))).run P W=.ok (.slice A 0 0) W:=by
   rw [run_sliceAt_slice W t _ _ _ _ ht,run_slice_hm W t A n c ht kh km 0 0 (by omega) (by omega) (by omega),hsz];rfl
 unfold execOp
 simp only [ho,hx,hh,hm,Option.map_some,Option.map_none,Sem.run_bind,hr,Result.andThen_ok,Sem.run_pure]
end
theorem near_in{now t:Int}(h:nearF now t=true):0<=t/\t<=1099511627776/\0<=now/\now<=1099511627776:=by unfold nearF at h;have:=of_decide_eq_true h;omega
/-- Something that was shown. -/
structure Sh where
 c:ByteArray
 t:Int
 q:Int
deriving DecidableEq
def Sh.cs(x:Sh):List Value:=[.string x.c,.int .i64 x.t,.int .i64 x.q]
def keptF(now:Int)(l:List Sh):List Sh:=l.filter fun y=>decide (now-y.t<=30)
theorem sh_eqb(x y:Sh):[Fq.str y.c x.c,Fq.num .i64 y.t x.t,Fq.num .i64 y.q x.q].all Fq.eqb=decide (y=x):=by
 obtain ⟨a,b,c⟩:=x
 obtain ⟨a',b',c'⟩:=y
 rw [Bool.eq_iff_iff]
 simp [Fq.eqb]
theorem kept_yes{now:Int}{l:List Sh}{k:Nat}{y:Sh}(h:l[k]?=some y)(ht:now-y.t<=30):keptF now (l.take (k+1))=keptF now (l.take k)++[y]:=by
 unfold keptF
 rw [List.take_add_one,h,Option.toList_some,List.filter_append]
 simp [ht]
theorem kept_no{now:Int}{l:List Sh}{k:Nat}{y:Sh}(h:l[k]?=some y)(ht:¬ now-y.t<=30):keptF now (l.take (k+1))=keptF now (l.take k):=by
 unfold keptF
 rw [List.take_add_one,h,Option.toList_some,List.filter_append]
 simp;omega
theorem not_in_step{l:List Sh}{k:Nat}{x y:Sh}(h:l[k]?=some y)(hne:decide (y=x)=false)(hn:x ∉ l.take k):x ∉ l.take (k+1):=by
 rw [List.take_add_one,h]
 intro hm
 rcases List.mem_append.1 hm with hm|hm
 · exact hn hm
 have:x=y:=by simpa using hm
 exact (of_decide_eq_false hne) this.symm
theorem sh_get{l:List Sh}{k:Nat}{y:Sh}(h:l[k]?=some y):(l.map Sh.cs)[k]?=some [.string y.c,.int .i64 y.t,.int .i64 y.q]:=by rw [List.getElem?_map,h];rfl
theorem kept_len(now:Int)(l:List Sh):(keptF now l).length<=l.length:=List.length_filter_le _ _
/-- The cache's parts. -/
def lCa(cb:Nat)(A:Option Addr)(c most:Nat)(l:List Sh):List Res:=[rBlk cb 171 [.slice A l.length c,.int .i64 (most:Int)],rOW 187 3 (.slice A l.length c) (l.map Sh.cs)]
/-- A cache. -/
def rCa(G:Nat->Prop)(cb most:Nat)(l:List Sh):Res where
 F:=G
 Φ:=fun w=>∃ A c,G=(rStar (lCa cb A c most l)).F/\(rStar (lCa cb A c most l)).Φ w
 lt:=fun ⟨_,_,hG,h⟩ q hq=>(rStar _).lt h q (hG ▸ hq)
 keep:=fun ⟨A,c,hG,h⟩ hs hk=>⟨A,c,hG,(rStar _).keep h hs fun q hq=>hk q (hG ▸ hq)⟩
section
variable{F0:Nat->Prop}{w0 w w':World}{ro rs:List Res}{G:Nat->Prop}{cb most:Nat}{l:List Sh}
theorem Hp.openC(h:Hp F0 w0 w ro rs)(i:Nat)(hi:rs[i]?=some (rCa G cb most l)):∃ A c,G=(rStar (lCa cb A c most l)).F/\Hp F0 w0 w ro (lCa cb A c most l++rs.eraseIdx i):=by
 obtain ⟨A,c,hG,h2⟩:=h.own i _ hi
 refine ⟨A,c,hG,?_⟩
 exact h.call1 i hi ⟨Fr.refl _ _,h2.1,fun j r hr q hq=>.inl (hG ▸ ⟨j,r,hr,hq⟩),h2.2,by simp,by simp⟩
theorem Hp.closeC{A:Option Addr}{c:Nat}(h:Hp F0 w0 w ro (lCa cb A c most l++rs)):Hp F0 w0 w ro (rCa (rStar (lCa cb A c most l)).F cb most l::rs):=by
 have h1:=h.closeStar
 have h2:=h1.upd 0 rfl (Fr.refl _ _) (rCa (rStar (lCa cb A c most l)).F cb most l) ⟨A,c,rfl,h1.own 0 _ rfl⟩ (fun q hq=>.inl hq)
 exact h2
end
end
section
open Go.RowKit Go.QT
/-- What Show leaves. -/
def ShPost(G:Nat->Prop)(cb most:Nat)(w:World)(r:Nat × List Sh)(e:Ending)(w':World):Prop:=e=.returned (.int .i64 (r.1:Int))/\∃ G',Hp G w w' [] [rCa G' cb most r.2]
theorem show_twice{G:Nat->Prop}{cb most:Nat}{l:List Sh}{w:World}(hC:(rCa G cb most l).Φ w){now:Int}{x:Sh}(hnear:nearF now x.t=true)(hl:∀ y ∈ l,0<=y.t/\y.t<=1099511627776)(hm:l.length<=1000000)(hx2:x ∈ l):Calls Tryz.prog 50 #[pt cb 0,.int .i64 now,.string x.c,.int .i64 x.t,.int .i64 x.q] w (ShPost G cb most w (14,l)):=by
 obtain ⟨A,c,hG,h00⟩:=(Hp.one (rCa G cb most l) hC).openC 0 rfl
 have hin:=near_in hnear
 have h0:=(show Hp G w w [] (lCa cb A c most l++[]) from h00)
 refine mE 74 ?_
 refine mT (x_dp (v:=.bool true) h0 64 [(Value.int .i64 now),(Value.int .i64 x.t)] (by kernel_rfl) (hnear ▸ near_any now x.t _)) ?_
 rintro _ w4 ⟨rfl,h4⟩
 refine mN h4 187 ([(Value.string ByteArray.empty),(Value.int .i64 0),(Value.int .i64 0)]) fun g6 w6 h6=>?_
 refine mT (xR h6 0 ([(Value.string x.c),(Value.int .i64 x.t),(Value.int .i64 x.q)])) fun _ w7 h7=>?_
 refine ma h7 1 ?_
 refine mW 27 (v:=(Value.slice A 0 0)) (e_cut00 (sz:=3) (A:=A) (n:=l.length) (c:=c) 169 (.tmp 26) (.const (Value.int .i64 0)) (.const (Value.int .i64 0)) (by kernel_rfl) (by kernel_rfl) .i64 .i64 (by kernel_rfl) (by kernel_rfl) (by kernel_rfl) (by kernel_rfl) _) ?_
 have h9:=h7.owNil 187 3 A
 refine ma h9 2 ?_
 refine mL (fun mM xX aA wL=>∃ (k:Nat) (A1:Option Addr) (c1:Nat) (ys:List Sh),(k<=l.length)/\(x ∉ l.take k)/\(keptF now (l.take k)=ys)/\mM=l.length-k/\aA=patch xX 74 [(0,(pt cb 0)),(1,(Value.int .i64 now)),(11,(pt g6 0)),(12,(Value.slice A1 ys.length c1)),(31,(Value.slice A l.length c)),(32,(Value.int .i64 ((l.length:Int)))),(33,(Value.int .i64 ((k:Int))))]/\Hp G w wL [] [rOW 187 3 ((Value.slice A1 ys.length c1)) (ys.map Sh.cs),rBlk g6 187 ([(Value.string x.c),(Value.int .i64 x.t),(Value.int .i64 x.q)]),rBlk cb 171 ([(Value.slice A l.length c),(Value.int .i64 ((most:Int)))]),rOW 187 3 ((Value.slice A l.length c)) (l.map Sh.cs)]) ⟨_,_,0,A,0,(([]:List Sh)),(Nat.zero_le _),(by simp),rfl,rfl,pM,h9.sel [0,1,2,3] [] (by kernel_rfl) rfl rfl⟩ ?_
 rintro _ x12 _ w12 ⟨k,A1,c1,ys,hk,hx,hys,rfl,rfl,h12⟩ KL12 hKL12
 refine mAt ?_
 by_cases b14:k<l.length
 ·
  refine mX 34 (.bool true) (Value.bool (decide ((k:Int)<(l.length:Int)))) (by simp;omega) ?_
  have hyl:ys.length<=k:=by rw [← hys];have:=kept_len now (l.take k);rw [List.length_take] at this;omega
  obtain ⟨y,hy⟩:∃ y,l[k]?=some y:=⟨_,List.getElem?_eq_getElem (by omega)⟩
  have hyt:=hl y (List.mem_of_getElem? hy)
  refine mW 35 (eIx (OW.rvn (h12.at_ 3 rfl)).2 k l.length (OW.rvn (h12.at_ 3 rfl)).1 (by omega) 169 (.tmp 31) (.tmp 33) .i64 187) ?_
  refine mW 36 (e_elemsN (OW.rvn (h12.at_ 3 rfl)).2 k 0 ([(Value.string y.c),(Value.int .i64 y.t),(Value.int .i64 y.q)]) (sh_get hy) 187 (.tmp 35) (by kernel_rfl) ([(Value.string y.c),(Value.int .i64 y.t),(Value.int .i64 y.q)]) (by kernel_rfl) (by kernel_rfl) (by kernel_rfl)) ?_
  refine mN h12 187 ([(Value.string ByteArray.empty),(Value.int .i64 0),(Value.int .i64 0)]) fun g18 w18 h18=>?_
  refine mT (xR h18 0 ([(Value.string y.c),(Value.int .i64 y.t),(Value.int .i64 y.q)])) fun _ w19 h19=>?_
  rcases hne:decide (y=x) with _|_
  ·
   refine ma h19 0 ?_
   refine ma h19 2 ?_
   refine mW 39 (v:=(Value.bool false)) (e_eqS [Fq.str y.c x.c,Fq.num .i64 y.t x.t,Fq.num .i64 y.q x.q] false ((sh_eqb x y).trans hne)) ?_
   rcases (show now-y.t<=30∨¬ now-y.t<=30 by omega) with h30|h30
   ·
    refine ma h19 0 ?_
    refine mW 43 (exec_sub _ _ _ _ bO now y.t (by kernel_rfl) (by kernel_rfl) (now-y.t) rfl (by omega) (by omega) _) ?_
    refine mX 44 (.bool true) (Value.bool (decide (now-y.t<=30))) (by simp;omega) ?_
    refine ma h19 0 ?_
    refine mT (x_bs h19 187 ([(Value.string y.c),(Value.int .i64 y.t),(Value.int .i64 y.q)]) 1 (by kernel_rfl)) ?_
    rintro _ w25 ⟨g25,rfl,h25⟩
    refine mT (x_pushW h25 2 0 rfl rfl (.tmp 45) (.tmp 47) 169 (by kernel_rfl) 32 (Value.agg ([(Value.string ByteArray.empty),(Value.int .i64 0),(Value.int .i64 0)]).toArray) (by kernel_rfl) (by kernel_rfl) (by kernel_rfl) (by kernel_rfl) (by kernel_rfl) (by kernel_rfl) (by kernel_rfl) (by kernel_rfl) (by rw [List.length_map];omega) (by rw [List.length_map];unfold maxLen;omega) ((ys++[y]).map Sh.cs) ((ys++[y]).length) (by rw [List.map_append];rfl) (List.length_map _)) ?_
    rintro _ w26 ⟨A26,c26,rfl,h26⟩
    refine mW 49 (exec_add _ _ _ _ bO ((k:Int)) 1 (by kernel_rfl) (by kernel_rfl) ((k:Int)+1) rfl (by omega) (by omega) _) ?_
    exact mK KL12 (hKL12 _ _ ⟨l.length-(k+1),_,(by omega),(k+1),A26,c26,((ys++[y])),(by omega),(not_in_step hy hne hx),(by rw [kept_yes hy h30,hys]),rfl,pM,h26.sel [2,3,4,5] [] (by kernel_rfl) rfl rfl⟩)
   refine ma h19 0 ?_
   refine mW 43 (exec_sub _ _ _ _ bO now y.t (by kernel_rfl) (by kernel_rfl) (now-y.t) rfl (by omega) (by omega) _) ?_
   refine mX 44 (.bool false) (Value.bool (decide (now-y.t<=30))) (by simp;omega) ?_
   refine mW 49 (exec_add _ _ _ _ bO ((k:Int)) 1 (by kernel_rfl) (by kernel_rfl) ((k:Int)+1) rfl (by omega) (by omega) _) ?_
   exact mK KL12 (hKL12 _ _ ⟨l.length-(k+1),_,(by omega),(k+1),A1,c1,ys,(by omega),(not_in_step hy hne hx),(by rw [kept_no hy h30,hys]),rfl,pM,h19.sel [1,2,3,4] [] (by kernel_rfl) rfl rfl⟩)
  refine ma h19 0 ?_
  refine ma h19 2 ?_
  refine mW 39 (v:=(Value.bool true)) (e_eqS [Fq.str y.c x.c,Fq.num .i64 y.t x.t,Fq.num .i64 y.q x.q] true ((sh_eqb x y).trans hne)) ?_
  refine mP (Value.int .i64 14) ?_
  exact ⟨rfl,_,(show Hp _ _ _ _ (lCa cb A c most l++[]) from h19.sel [3,4] [] rfl rfl rfl).closeC⟩
 refine mX 34 (.bool false) (Value.bool (decide ((k:Int)<(l.length:Int)))) (by simp;omega) ?_
 rw [List.take_of_length_le (by omega)] at hys
 have hyl:ys.length<=l.length:=by rw [← hys];exact kept_len now l
 refine mT (xS h12 2 ([(Value.slice A1 ys.length c1),(Value.int .i64 ((most:Int)))])) fun _ w30 h30=>?_
 refine dG h30 10 10 (fun W=>(rBlk cb 171 ([(Value.slice A1 ys.length c1),(Value.int .i64 ((most:Int)))])).Φ W/\True) (fun w33 h33=>⟨h33.at_ 2 rfl,trivial⟩) ?_
 intro w33 h33
 refine dP 4 [0,1,2,5,6,7] ?_
 refine dL 3 (fun W hW=>hW.1) ?_
 refine dP 2 [4] ?_
 refine dL 8 (fun W hW=>hW.1) ?_
 refine dP 0 [9] ?_
 refine dX ?_
 refine m_if 63 ((ys.length:Int) ≥ (most:Int)) (by kernel_rfl) (fun b34=>?_) (fun b34=>?_)
 ·
  refine mP (Value.int .i64 8) ?_
  exact absurd hx2 (by rw [List.take_of_length_le (by omega)] at hx;exact hx)
 refine dG h33 11 8 (fun W=>(rBlk cb 171 ([(Value.slice A1 ys.length c1),(Value.int .i64 ((most:Int)))])).Φ W/\(rBlk g6 187 ([(Value.string x.c),(Value.int .i64 x.t),(Value.int .i64 x.q)])).Φ W/\True) (fun w37 h37=>⟨h37.at_ 2 rfl,h37.at_ 1 rfl,trivial⟩) ?_
 intro w37 h37
 refine dP 7 [0,1,2,3] ?_
 refine dL 4 (fun W hW=>hW.1) ?_
 refine dL 5 (fun W hW=>hW.2.1) ?_
 refine dT 6 (x_bs h37 187 ([(Value.string x.c),(Value.int .i64 x.t),(Value.int .i64 x.q)]) 1 (by kernel_rfl)) ?_
 rintro _ w38 ⟨g38,rfl,h38⟩
 refine ⟨⟨h38.at_ 3 rfl,h38.at_ 2 rfl,trivial⟩,?_⟩
 refine dT 7 (x_pushW h38 1 0 rfl rfl (.tmp 68) (.tmp 70) 169 (by kernel_rfl) 32 (Value.agg ([(Value.string ByteArray.empty),(Value.int .i64 0),(Value.int .i64 0)]).toArray) (by kernel_rfl) (by kernel_rfl) (by kernel_rfl) (by kernel_rfl) (by kernel_rfl) (by kernel_rfl) (by kernel_rfl) (by kernel_rfl) (by rw [List.length_map];omega) (by rw [List.length_map];unfold maxLen;omega) ((ys++[x]).map Sh.cs) ((ys++[x]).length) (by rw [List.map_append];rfl) (List.length_map _)) ?_
 rintro _ w39 ⟨A39,c39,rfl,h39⟩
 refine ⟨⟨h39.at_ 3 rfl,h39.at_ 2 rfl,trivial⟩,?_⟩
 refine dN 8 ?_
 refine dN 9 ?_
 refine dE 10 (xS h39 3 ([(Value.slice A39 ((ys++[x]).length) c39),(Value.int .i64 ((most:Int)))])) ?_
 rintro _ w40 h40
 refine dX ?_
 refine mP (Value.int .i64 0) ?_
 exact absurd hx2 (by rw [List.take_of_length_le (by omega)] at hx;exact hx)
theorem show_ok{G:Nat->Prop}{cb most:Nat}{l:List Sh}{w:World}(hC:(rCa G cb most l).Φ w){now:Int}{x:Sh}(hnear:nearF now x.t=true)(hl:∀ y ∈ l,0<=y.t/\y.t<=1099511627776)(_hm:l.length<=1000000)(hx0:x ∉ l)(hmost:l.length<most)(hmm:most<=1000000):Calls Tryz.prog 50 #[pt cb 0,.int .i64 now,.string x.c,.int .i64 x.t,.int .i64 x.q] w (ShPost G cb most w (0,keptF now l++[x])):=by
 obtain ⟨A,c,hG,h00⟩:=(Hp.one (rCa G cb most l) hC).openC 0 rfl
 have hin:=near_in hnear
 have h0:=(show Hp G w w [] (lCa cb A c most l++[]) from h00)
 refine mE 74 ?_
 refine mT (x_dp (v:=.bool true) h0 64 [(Value.int .i64 now),(Value.int .i64 x.t)] (by kernel_rfl) (hnear ▸ near_any now x.t _)) ?_
 rintro _ w4 ⟨rfl,h4⟩
 refine mN h4 187 ([(Value.string ByteArray.empty),(Value.int .i64 0),(Value.int .i64 0)]) fun g6 w6 h6=>?_
 refine mT (xR h6 0 ([(Value.string x.c),(Value.int .i64 x.t),(Value.int .i64 x.q)])) fun _ w7 h7=>?_
 refine ma h7 1 ?_
 refine mW 27 (v:=(Value.slice A 0 0)) (e_cut00 (sz:=3) (A:=A) (n:=l.length) (c:=c) 169 (.tmp 26) (.const (Value.int .i64 0)) (.const (Value.int .i64 0)) (by kernel_rfl) (by kernel_rfl) .i64 .i64 (by kernel_rfl) (by kernel_rfl) (by kernel_rfl) (by kernel_rfl) _) ?_
 have h9:=h7.owNil 187 3 A
 refine ma h9 2 ?_
 refine mL (fun mM xX aA wL=>∃ (k:Nat) (A1:Option Addr) (c1:Nat) (ys:List Sh),(k<=l.length)/\(x ∉ l.take k)/\(keptF now (l.take k)=ys)/\mM=l.length-k/\aA=patch xX 74 [(0,(pt cb 0)),(1,(Value.int .i64 now)),(11,(pt g6 0)),(12,(Value.slice A1 ys.length c1)),(31,(Value.slice A l.length c)),(32,(Value.int .i64 ((l.length:Int)))),(33,(Value.int .i64 ((k:Int))))]/\Hp G w wL [] [rOW 187 3 ((Value.slice A1 ys.length c1)) (ys.map Sh.cs),rBlk g6 187 ([(Value.string x.c),(Value.int .i64 x.t),(Value.int .i64 x.q)]),rBlk cb 171 ([(Value.slice A l.length c),(Value.int .i64 ((most:Int)))]),rOW 187 3 ((Value.slice A l.length c)) (l.map Sh.cs)]) ⟨_,_,0,A,0,(([]:List Sh)),(Nat.zero_le _),(by simp),rfl,rfl,pM,h9.sel [0,1,2,3] [] (by kernel_rfl) rfl rfl⟩ ?_
 rintro _ x12 _ w12 ⟨k,A1,c1,ys,hk,hx,hys,rfl,rfl,h12⟩ KL12 hKL12
 refine mAt ?_
 by_cases b14:k<l.length
 ·
  refine mX 34 (.bool true) (Value.bool (decide ((k:Int)<(l.length:Int)))) (by simp;omega) ?_
  have hyl:ys.length<=k:=by rw [← hys];have:=kept_len now (l.take k);rw [List.length_take] at this;omega
  obtain ⟨y,hy⟩:∃ y,l[k]?=some y:=⟨_,List.getElem?_eq_getElem (by omega)⟩
  have hyt:=hl y (List.mem_of_getElem? hy)
  refine mW 35 (eIx (OW.rvn (h12.at_ 3 rfl)).2 k l.length (OW.rvn (h12.at_ 3 rfl)).1 (by omega) 169 (.tmp 31) (.tmp 33) .i64 187) ?_
  refine mW 36 (e_elemsN (OW.rvn (h12.at_ 3 rfl)).2 k 0 ([(Value.string y.c),(Value.int .i64 y.t),(Value.int .i64 y.q)]) (sh_get hy) 187 (.tmp 35) (by kernel_rfl) ([(Value.string y.c),(Value.int .i64 y.t),(Value.int .i64 y.q)]) (by kernel_rfl) (by kernel_rfl) (by kernel_rfl)) ?_
  refine mN h12 187 ([(Value.string ByteArray.empty),(Value.int .i64 0),(Value.int .i64 0)]) fun g18 w18 h18=>?_
  refine mT (xR h18 0 ([(Value.string y.c),(Value.int .i64 y.t),(Value.int .i64 y.q)])) fun _ w19 h19=>?_
  have hne:decide (y=x)=false:=decide_eq_false fun e=>hx0 (e ▸ List.mem_of_getElem? hy)
  refine ma h19 0 ?_
  refine ma h19 2 ?_
  refine mW 39 (v:=(Value.bool false)) (e_eqS [Fq.str y.c x.c,Fq.num .i64 y.t x.t,Fq.num .i64 y.q x.q] false ((sh_eqb x y).trans hne)) ?_
  rcases (show now-y.t<=30∨¬ now-y.t<=30 by omega) with h30|h30
  ·
   refine ma h19 0 ?_
   refine mW 43 (exec_sub _ _ _ _ bO now y.t (by kernel_rfl) (by kernel_rfl) (now-y.t) rfl (by omega) (by omega) _) ?_
   refine mX 44 (.bool true) (Value.bool (decide (now-y.t<=30))) (by simp;omega) ?_
   refine ma h19 0 ?_
   refine mT (x_bs h19 187 ([(Value.string y.c),(Value.int .i64 y.t),(Value.int .i64 y.q)]) 1 (by kernel_rfl)) ?_
   rintro _ w24 ⟨g24,rfl,h24⟩
   refine mT (x_pushW h24 2 0 rfl rfl (.tmp 45) (.tmp 47) 169 (by kernel_rfl) 32 (Value.agg ([(Value.string ByteArray.empty),(Value.int .i64 0),(Value.int .i64 0)]).toArray) (by kernel_rfl) (by kernel_rfl) (by kernel_rfl) (by kernel_rfl) (by kernel_rfl) (by kernel_rfl) (by kernel_rfl) (by kernel_rfl) (by rw [List.length_map];omega) (by rw [List.length_map];unfold maxLen;omega) ((ys++[y]).map Sh.cs) ((ys++[y]).length) (by rw [List.map_append];rfl) (List.length_map _)) ?_
   rintro _ w25 ⟨A25,c25,rfl,h25⟩
   refine mW 49 (exec_add _ _ _ _ bO ((k:Int)) 1 (by kernel_rfl) (by kernel_rfl) ((k:Int)+1) rfl (by omega) (by omega) _) ?_
   exact mK KL12 (hKL12 _ _ ⟨l.length-(k+1),_,(by omega),(k+1),A25,c25,((ys++[y])),(by omega),(not_in_step hy hne hx),(by rw [kept_yes hy h30,hys]),rfl,pM,h25.sel [2,3,4,5] [] (by kernel_rfl) rfl rfl⟩)
  refine ma h19 0 ?_
  refine mW 43 (exec_sub _ _ _ _ bO now y.t (by kernel_rfl) (by kernel_rfl) (now-y.t) rfl (by omega) (by omega) _) ?_
  refine mX 44 (.bool false) (Value.bool (decide (now-y.t<=30))) (by simp;omega) ?_
  refine mW 49 (exec_add _ _ _ _ bO ((k:Int)) 1 (by kernel_rfl) (by kernel_rfl) ((k:Int)+1) rfl (by omega) (by omega) _) ?_
  exact mK KL12 (hKL12 _ _ ⟨l.length-(k+1),_,(by omega),(k+1),A1,c1,ys,(by omega),(not_in_step hy hne hx),(by rw [kept_no hy h30,hys]),rfl,pM,h19.sel [1,2,3,4] [] (by kernel_rfl) rfl rfl⟩)
 refine mX 34 (.bool false) (Value.bool (decide ((k:Int)<(l.length:Int)))) (by simp;omega) ?_
 rw [List.take_of_length_le (by omega)] at hys
 have hyl:ys.length<=l.length:=by rw [← hys];exact kept_len now l
 refine mT (xS h12 2 ([(Value.slice A1 ys.length c1),(Value.int .i64 ((most:Int)))])) fun _ w28 h28=>?_
 refine dG h28 10 10 (fun W=>(rBlk cb 171 ([(Value.slice A1 ys.length c1),(Value.int .i64 ((most:Int)))])).Φ W/\True) (fun w31 h31=>⟨h31.at_ 2 rfl,trivial⟩) ?_
 intro w31 h31
 refine dP 4 [0,1,2,5,6,7] ?_
 refine dL 3 (fun W hW=>hW.1) ?_
 refine dP 2 [4] ?_
 refine dL 8 (fun W hW=>hW.1) ?_
 refine dP 0 [9] ?_
 refine dX ?_
 refine m_if 63 ((ys.length:Int) ≥ (most:Int)) (by kernel_rfl) (fun b32=>?_) (fun b32=>?_)
 ·
  refine mP (Value.int .i64 8) ?_
  exact absurd b32 (by omega)
 refine dG h31 11 8 (fun W=>(rBlk cb 171 ([(Value.slice A1 ys.length c1),(Value.int .i64 ((most:Int)))])).Φ W/\(rBlk g6 187 ([(Value.string x.c),(Value.int .i64 x.t),(Value.int .i64 x.q)])).Φ W/\True) (fun w35 h35=>⟨h35.at_ 2 rfl,h35.at_ 1 rfl,trivial⟩) ?_
 intro w35 h35
 refine dP 7 [0,1,2,3] ?_
 refine dL 4 (fun W hW=>hW.1) ?_
 refine dL 5 (fun W hW=>hW.2.1) ?_
 refine dT 6 (x_bs h35 187 ([(Value.string x.c),(Value.int .i64 x.t),(Value.int .i64 x.q)]) 1 (by kernel_rfl)) ?_
 rintro _ w36 ⟨g36,rfl,h36⟩
 refine ⟨⟨h36.at_ 3 rfl,h36.at_ 2 rfl,trivial⟩,?_⟩
 refine dT 7 (x_pushW h36 1 0 rfl rfl (.tmp 68) (.tmp 70) 169 (by kernel_rfl) 32 (Value.agg ([(Value.string ByteArray.empty),(Value.int .i64 0),(Value.int .i64 0)]).toArray) (by kernel_rfl) (by kernel_rfl) (by kernel_rfl) (by kernel_rfl) (by kernel_rfl) (by kernel_rfl) (by kernel_rfl) (by kernel_rfl) (by rw [List.length_map];omega) (by rw [List.length_map];unfold maxLen;omega) ((ys++[x]).map Sh.cs) ((ys++[x]).length) (by rw [List.map_append];rfl) (List.length_map _)) ?_
 rintro _ w37 ⟨A37,c37,rfl,h37⟩
 refine ⟨⟨h37.at_ 3 rfl,h37.at_ 2 rfl,trivial⟩,?_⟩
 refine dN 8 ?_
 refine dN 9 ?_
 refine dE 10 (xS h37 3 ([(Value.slice A37 ((ys++[x]).length) c37),(Value.int .i64 ((most:Int)))])) ?_
 rintro _ w38 h38
 refine dX ?_
 refine mP (Value.int .i64 0) ?_
 rw [hys]
 exact ⟨rfl,_,(show Hp _ _ _ _ (lCa cb A37 c37 most (ys++[x])++[]) from h38.sel [3,1] [] rfl rfl rfl).closeC⟩
end
end Go.Proofs.YtdefpmmdpfpipaaGreat
