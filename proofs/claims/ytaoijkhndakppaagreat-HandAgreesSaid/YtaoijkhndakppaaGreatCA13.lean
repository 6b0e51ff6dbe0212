/- The walks of base: the comparison,the search,place,Get;cache.Near. -/
import Derived.Lib.Bytealg
import Derived.Test.YtaoijkhndakppaaGreatCA12
set_option maxRecDepth 100000
set_option maxHeartbeats 4000000
namespace Go.Proofs.YtaoijkhndakppaaGreat
section
open Go.Value renaming int->iV,slice->lV,string->sV,bool->bV,agg->aV
open Go.RowKit Go.QT
theorem unp_er{b:Bytes}{c:Nat}(h:unpB b=.inl c):c≠0:=by
 unfold unpB at h
 split at h
 · rename_i hr;injection h with h;subst h;exact RdB_er hr
 split at h
 · cases h
 injection h with h;omega
/-- What tick.Open leaves, of a thing's type. -/
def outStamp:Nat ⊕ Thing->Value
 | .inl c=>.tuple #[(aV ([(iV .i64 0),(iV .i64 0)]).toArray),.int .i64 (c:Int)]
 | .inr (.stamp a q)=>.tuple #[(aV ([(iV .i64 a),(iV .i64 q)]).toArray),.int .i64 0]
 | .inr _=>.tuple #[(aV ([(iV .i64 0),(iV .i64 0)]).toArray),.int .i64 4]
theorem outStamp_no{t:Thing}(h:tyTh t≠104):outStamp (.inr t)=.tuple #[(aV ([(iV .i64 0),(iV .i64 0)]).toArray),.int .i64 4]:=by
 cases t <;> first|rfl|exact absurd rfl h
theorem oStamp_none{F:Nat->Prop}{tb:Nat}{s:STab}{K:Fin 16->UInt8}{us:Int}{A:Option Addr}{c:Nat}{l:Bytes}{w:World}(hT:(rTab F tb s).Φ w)(hs:TabOk s)(hv:SB w (.slice A l.length c) l)(ho:s.open_ (kl K) us l=none):Calls Tryz.prog 42 #[(Value.iface 30 (pt tb 0)),(aV (vb (kl K)).toArray),.int .i64 us,.slice A l.length c] w (DPost w (outStamp (.inl 13))):=by
 have h0:=((Hp.ro1 (rSB (.slice A l.length c) l) hv).addR (rTab F tb s) hT (by simp))
 refine mE 45 ?_
 refine mN h0 41 (vb (kl K)) fun g2 w2 h2=>?_
 refine mN h2 104 ([zO,zO]) fun g3 w3 h3=>?_
 refine mN h3 104 ([zO,zO]) fun g5 w5 h5=>?_
 refine ma h5 2 ?_
 refine mT (x_openR h5 0 rfl hs K us l (lV A l.length c) none (by kernel_rfl) (h5.rd 1 rfl) ho) ?_
 rintro _ w7 ⟨A7,c7,rfl,h7⟩
 refine ma h7 1 ?_
 refine mT (xSs h7 2 104 (.tmp 8) (.tmp 27) 0 ([zO,zO]) ([zO,zO])) fun _ w11 h11=>?_
 refine mF (post_2 (r:=.cell 8 104) (s:=.tmp 9) (by kernel_rfl) rfl (rce (h11.at_ 2 rfl)) (rtm (zD 13)) ?_)
 exact ⟨rfl,h11.below0⟩
theorem oStamp_err{F:Nat->Prop}{tb:Nat}{s:STab}{K:Fin 16->UInt8}{us:Int}{A:Option Addr}{c:Nat}{l:Bytes}{w:World}(hT:(rTab F tb s).Φ w)(hs:TabOk s)(hv:SB w (.slice A l.length c) l){body:Bytes}{cc:Nat}(ho:s.open_ (kl K) us l=some body)(hu:unpB body=.inl cc):Calls Tryz.prog 42 #[(Value.iface 30 (pt tb 0)),(aV (vb (kl K)).toArray),.int .i64 us,.slice A l.length c] w (DPost w (outStamp (.inl cc))):=by
 have h0:=((Hp.ro1 (rSB (.slice A l.length c) l) hv).addR (rTab F tb s) hT (by simp))
 refine mE 45 ?_
 refine mN h0 41 (vb (kl K)) fun g2 w2 h2=>?_
 refine mN h2 104 ([zO,zO]) fun g3 w3 h3=>?_
 refine mN h3 104 ([zO,zO]) fun g5 w5 h5=>?_
 refine ma h5 2 ?_
 refine mT (x_openR h5 0 rfl hs K us l (lV A l.length c) (some body) (by kernel_rfl) (h5.rd 1 rfl) ho) ?_
 rintro _ w7 ⟨A7,c7,rfl,h7⟩
 refine mD h7 [(lV A7 body.length c7)] (up_e hu (unp_any (OB.sb (h7.at_ 0 rfl)))) (fun w11 h11=>?_)
 refine mX 34 (.bool true) (bV (((cc:Int)) != 0)) (ine (b:=0) (unp_er hu)) ?_
 refine ma h11 1 ?_
 refine mT (xSs h11 2 104 (.tmp 8) (.tmp 35) 0 ([zO,zO]) ([zO,zO])) fun _ w15 h15=>?_
 refine mF (post_2 (r:=.cell 8 104) (s:=.tmp 9) (by kernel_rfl) rfl (rce (h15.at_ 2 rfl)) (rtm (zD ((cc:Int)))) ?_)
 exact ⟨rfl,h15.below0⟩
theorem oStamp_ty{F:Nat->Prop}{tb:Nat}{s:STab}{K:Fin 16->UInt8}{us:Int}{A:Option Addr}{c:Nat}{l:Bytes}{w:World}(hT:(rTab F tb s).Φ w)(hs:TabOk s)(hv:SB w (.slice A l.length c) l){body:Bytes}{t:Thing}(ho:s.open_ (kl K) us l=some body)(hu:unpB body=.inr t)(hty:tyTh t≠104):Calls Tryz.prog 42 #[(Value.iface 30 (pt tb 0)),(aV (vb (kl K)).toArray),.int .i64 us,.slice A l.length c] w (DPost w (outStamp (.inr t))):=by
 have h0:=((Hp.ro1 (rSB (.slice A l.length c) l) hv).addR (rTab F tb s) hT (by simp))
 refine mE 45 ?_
 refine mN h0 41 (vb (kl K)) fun g2 w2 h2=>?_
 refine mN h2 104 ([zO,zO]) fun g3 w3 h3=>?_
 refine mN h3 104 ([zO,zO]) fun g5 w5 h5=>?_
 refine ma h5 2 ?_
 refine mT (x_openR h5 0 rfl hs K us l (lV A l.length c) (some body) (by kernel_rfl) (h5.rd 1 rfl) ho) ?_
 rintro _ w7 ⟨A7,c7,rfl,h7⟩
 refine mT (x_unp h7 hu [(lV A7 body.length c7)] (by kernel_rfl) (unp_any (OB.sb (h7.at_ 0 rfl)))) ?_
 rintro _ w11 ⟨G11,x11,rfl,h11⟩
 obtain ⟨v11,rfl⟩:=(h11.at_ 0 rfl).2.ty
 refine mW 39 (v:=(Value.tuple #[(aV ([zO,zO]).toArray),zV])) (e_asNo (T':=tyTh t) (ta:=104) (xt:=20) (v:=v11) (.tmp 38) (by kernel_rfl) (by kernel_rfl) hty (by kernel_rfl) (by kernel_rfl) _) ?_
 refine mN h11 104 ([zO,zO]) fun g16 w16 h16=>?_
 refine mT (xSs h16 0 104 (.tmp 15) (.tmp 40) 0 ([zO,zO]) ([zO,zO])) fun _ w17 h17=>?_
 refine ma h17 3 ?_
 refine mT (xSs h17 4 104 (.tmp 8) (.tmp 44) 0 ([zO,zO]) ([zO,zO])) fun _ w20 h20=>?_
 refine mF (post_2 (r:=.cell 8 104) (s:=.tmp 9) (by kernel_rfl) rfl (rce (h20.at_ 4 rfl)) (rtm (zD 4)) ?_)
 rw [outStamp_no hty]
 exact ⟨rfl,h20.below0⟩
theorem oStamp_yes{F:Nat->Prop}{tb:Nat}{s:STab}{K:Fin 16->UInt8}{us:Int}{A:Option Addr}{c:Nat}{l:Bytes}{w:World}(hT:(rTab F tb s).Φ w)(hs:TabOk s)(hv:SB w (.slice A l.length c) l)(a:Int)(q:Int){body:Bytes}(ho:s.open_ (kl K) us l=some body)(hu:unpB body=.inr (.stamp a q)):Calls Tryz.prog 42 #[(Value.iface 30 (pt tb 0)),(aV (vb (kl K)).toArray),.int .i64 us,.slice A l.length c] w (DPost w (outStamp (.inr (.stamp a q)))):=by
 have h0:=((Hp.ro1 (rSB (.slice A l.length c) l) hv).addR (rTab F tb s) hT (by simp))
 refine mE 45 ?_
 refine mN h0 41 (vb (kl K)) fun g2 w2 h2=>?_
 refine mN h2 104 ([zO,zO]) fun g3 w3 h3=>?_
 refine mN h3 104 ([zO,zO]) fun g5 w5 h5=>?_
 refine ma h5 2 ?_
 refine mT (x_openR h5 0 rfl hs K us l (lV A l.length c) (some body) (by kernel_rfl) (h5.rd 1 rfl) ho) ?_
 rintro _ w7 ⟨A7,c7,rfl,h7⟩
 refine mT (x_unp h7 hu [(lV A7 body.length c7)] (by kernel_rfl) (unp_any (OB.sb (h7.at_ 0 rfl)))) ?_
 rintro _ w11 ⟨G11,x11,rfl,h11⟩
 obtain rfl:x11=(Value.iface 104 (aV ([(iV .i64 a),(iV .i64 q)]).toArray)):=(h11.at_ 0 rfl).2
 refine mN h11 104 ([zO,zO]) fun g16 w16 h16=>?_
 refine mT (xSs h16 0 104 (.tmp 15) (.tmp 40) 0 ([(zD a),(zD q)]) ([(zD a),(zD q)])) fun _ w17 h17=>?_
 refine ma h17 0 ?_
 refine mT (xSs h17 4 104 (.tmp 8) (.tmp 43) 0 ([(zD a),(zD q)]) ([(zD a),(zD q)])) fun _ w20 h20=>?_
 refine mF (post_2 (r:=.cell 8 104) (s:=.tmp 9) (by kernel_rfl) rfl (rce (h20.at_ 4 rfl)) (rtm zO) ?_)
 exact ⟨rfl,h20.below0⟩
theorem oStamp_any{F:Nat->Prop}{tb:Nat}{s:STab}{K:Fin 16->UInt8}{us:Int}{bv:Value}{l:Bytes}{w:World}(hT:(rTab F tb s).Φ w)(hs:TabOk s)(hv:SB w bv l):Calls Tryz.prog 42 #[(Value.iface 30 (pt tb 0)),(aV (vb (kl K)).toArray),.int .i64 us,bv] w (DPost w (outStamp (openTh s (kl K) us l))):=by
 obtain ⟨A,c,rfl,_⟩:=id hv
 unfold openTh
 split
 · rename_i ho;exact oStamp_none hT hs hv ho
 rename_i body ho
 rcases hu:unpB body with cc|t
 · exact oStamp_err hT hs hv ho hu
 by_cases hty:tyTh t=104
 · cases t with
   | stamp a q=>exact oStamp_yes hT hs hv a q ho hu
   | ticket=>exact absurd (show 39=104 from hty) (by decide)
   | inside=>exact absurd (show 187=104 from hty) (by decide)
   | reply=>exact absurd (show 211=104 from hty) (by decide)
   | authent=>exact absurd (show 71=104 from hty) (by decide)
   | fact=>exact absurd (show 49=104 from hty) (by decide)
   | plain=>exact absurd (show 276=104 from hty) (by decide)
 exact oStamp_ty hT hs hv ho hu hty
/-- What tick.Open leaves, of a thing's type. -/
def outInside:Nat ⊕ Thing->Value
 | .inl c=>.tuple #[(aV ([(iV .i64 0)]++vb (List.replicate 16 0)++[(sV ByteArray.empty),(iV .i64 0),(iV .i64 0),(iV .i64 0)]).toArray),.int .i64 (c:Int)]
 | .inr (.inside f Ky s1 a u r)=>.tuple #[(aV ([(iV .i64 f)]++vb (kl Ky)++[(sV s1),(iV .i64 a),(iV .i64 u),(iV .i64 r)]).toArray),.int .i64 0]
 | .inr _=>.tuple #[(aV ([(iV .i64 0)]++vb (List.replicate 16 0)++[(sV ByteArray.empty),(iV .i64 0),(iV .i64 0),(iV .i64 0)]).toArray),.int .i64 4]
theorem outInside_no{t:Thing}(h:tyTh t≠187):outInside (.inr t)=.tuple #[(aV ([(iV .i64 0)]++vb (List.replicate 16 0)++[(sV ByteArray.empty),(iV .i64 0),(iV .i64 0),(iV .i64 0)]).toArray),.int .i64 4]:=by
 cases t <;> first|rfl|exact absurd rfl h
theorem oInside_none{F:Nat->Prop}{tb:Nat}{s:STab}{K:Fin 16->UInt8}{us:Int}{A:Option Addr}{c:Nat}{l:Bytes}{w:World}(hT:(rTab F tb s).Φ w)(hs:TabOk s)(hv:SB w (.slice A l.length c) l)(ho:s.open_ (kl K) us l=none):Calls Tryz.prog 68 #[(Value.iface 30 (pt tb 0)),(aV (vb (kl K)).toArray),.int .i64 us,.slice A l.length c] w (DPost w (outInside (.inl 13))):=by
 have h0:=((Hp.ro1 (rSB (.slice A l.length c) l) hv).addR (rTab F tb s) hT (by simp))
 refine mE 45 ?_
 refine mN h0 41 (vb (kl K)) fun g2 w2 h2=>?_
 refine mN h2 187 ([zO]++vb (List.replicate 16 0)++[zE,zO,zO,zO]) fun g3 w3 h3=>?_
 refine mN h3 187 ([zO]++vb (List.replicate 16 0)++[zE,zO,zO,zO]) fun g5 w5 h5=>?_
 refine ma h5 2 ?_
 refine mT (x_openR h5 0 rfl hs K us l (lV A l.length c) none (by kernel_rfl) (h5.rd 1 rfl) ho) ?_
 rintro _ w7 ⟨A7,c7,rfl,h7⟩
 refine ma h7 1 ?_
 refine mT (xSs h7 2 187 (.tmp 8) (.tmp 27) 0 ([zO]++vb (List.replicate 16 0)++[zE,zO,zO,zO]) ([zO]++vb (List.replicate 16 0)++[zE,zO,zO,zO])) fun _ w11 h11=>?_
 refine mF (post_2 (r:=.cell 8 187) (s:=.tmp 9) (by kernel_rfl) rfl (rce (h11.at_ 2 rfl)) (rtm (zD 13)) ?_)
 exact ⟨rfl,h11.below0⟩
theorem oInside_err{F:Nat->Prop}{tb:Nat}{s:STab}{K:Fin 16->UInt8}{us:Int}{A:Option Addr}{c:Nat}{l:Bytes}{w:World}(hT:(rTab F tb s).Φ w)(hs:TabOk s)(hv:SB w (.slice A l.length c) l){body:Bytes}{cc:Nat}(ho:s.open_ (kl K) us l=some body)(hu:unpB body=.inl cc):Calls Tryz.prog 68 #[(Value.iface 30 (pt tb 0)),(aV (vb (kl K)).toArray),.int .i64 us,.slice A l.length c] w (DPost w (outInside (.inl cc))):=by
 have h0:=((Hp.ro1 (rSB (.slice A l.length c) l) hv).addR (rTab F tb s) hT (by simp))
 refine mE 45 ?_
 refine mN h0 41 (vb (kl K)) fun g2 w2 h2=>?_
 refine mN h2 187 ([zO]++vb (List.replicate 16 0)++[zE,zO,zO,zO]) fun g3 w3 h3=>?_
 refine mN h3 187 ([zO]++vb (List.replicate 16 0)++[zE,zO,zO,zO]) fun g5 w5 h5=>?_
 refine ma h5 2 ?_
 refine mT (x_openR h5 0 rfl hs K us l (lV A l.length c) (some body) (by kernel_rfl) (h5.rd 1 rfl) ho) ?_
 rintro _ w7 ⟨A7,c7,rfl,h7⟩
 refine mD h7 [(lV A7 body.length c7)] (up_e hu (unp_any (OB.sb (h7.at_ 0 rfl)))) (fun w11 h11=>?_)
 refine mX 34 (.bool true) (bV (((cc:Int)) != 0)) (ine (b:=0) (unp_er hu)) ?_
 refine ma h11 1 ?_
 refine mT (xSs h11 2 187 (.tmp 8) (.tmp 35) 0 ([zO]++vb (List.replicate 16 0)++[zE,zO,zO,zO]) ([zO]++vb (List.replicate 16 0)++[zE,zO,zO,zO])) fun _ w15 h15=>?_
 refine mF (post_2 (r:=.cell 8 187) (s:=.tmp 9) (by kernel_rfl) rfl (rce (h15.at_ 2 rfl)) (rtm (zD ((cc:Int)))) ?_)
 exact ⟨rfl,h15.below0⟩
theorem oInside_ty{F:Nat->Prop}{tb:Nat}{s:STab}{K:Fin 16->UInt8}{us:Int}{A:Option Addr}{c:Nat}{l:Bytes}{w:World}(hT:(rTab F tb s).Φ w)(hs:TabOk s)(hv:SB w (.slice A l.length c) l){body:Bytes}{t:Thing}(ho:s.open_ (kl K) us l=some body)(hu:unpB body=.inr t)(hty:tyTh t≠187):Calls Tryz.prog 68 #[(Value.iface 30 (pt tb 0)),(aV (vb (kl K)).toArray),.int .i64 us,.slice A l.length c] w (DPost w (outInside (.inr t))):=by
 have h0:=((Hp.ro1 (rSB (.slice A l.length c) l) hv).addR (rTab F tb s) hT (by simp))
 refine mE 45 ?_
 refine mN h0 41 (vb (kl K)) fun g2 w2 h2=>?_
 refine mN h2 187 ([zO]++vb (List.replicate 16 0)++[zE,zO,zO,zO]) fun g3 w3 h3=>?_
 refine mN h3 187 ([zO]++vb (List.replicate 16 0)++[zE,zO,zO,zO]) fun g5 w5 h5=>?_
 refine ma h5 2 ?_
 refine mT (x_openR h5 0 rfl hs K us l (lV A l.length c) (some body) (by kernel_rfl) (h5.rd 1 rfl) ho) ?_
 rintro _ w7 ⟨A7,c7,rfl,h7⟩
 refine mT (x_unp h7 hu [(lV A7 body.length c7)] (by kernel_rfl) (unp_any (OB.sb (h7.at_ 0 rfl)))) ?_
 rintro _ w11 ⟨G11,x11,rfl,h11⟩
 obtain ⟨v11,rfl⟩:=(h11.at_ 0 rfl).2.ty
 refine mW 39 (v:=(Value.tuple #[(aV ([zO]++vb (List.replicate 16 0)++[zE,zO,zO,zO]).toArray),zV])) (e_asNo (T':=tyTh t) (ta:=187) (xt:=20) (v:=v11) (.tmp 38) (by kernel_rfl) (by kernel_rfl) hty (by kernel_rfl) (by kernel_rfl) _) ?_
 refine mN h11 187 ([zO]++vb (List.replicate 16 0)++[zE,zO,zO,zO]) fun g16 w16 h16=>?_
 refine mT (xSs h16 0 187 (.tmp 15) (.tmp 40) 0 ([zO]++vb (List.replicate 16 0)++[zE,zO,zO,zO]) ([zO]++vb (List.replicate 16 0)++[zE,zO,zO,zO])) fun _ w17 h17=>?_
 refine ma h17 3 ?_
 refine mT (xSs h17 4 187 (.tmp 8) (.tmp 44) 0 ([zO]++vb (List.replicate 16 0)++[zE,zO,zO,zO]) ([zO]++vb (List.replicate 16 0)++[zE,zO,zO,zO])) fun _ w20 h20=>?_
 refine mF (post_2 (r:=.cell 8 187) (s:=.tmp 9) (by kernel_rfl) rfl (rce (h20.at_ 4 rfl)) (rtm (zD 4)) ?_)
 rw [outInside_no hty]
 exact ⟨rfl,h20.below0⟩
theorem oInside_yes{F:Nat->Prop}{tb:Nat}{s:STab}{K:Fin 16->UInt8}{us:Int}{A:Option Addr}{c:Nat}{l:Bytes}{w:World}(hT:(rTab F tb s).Φ w)(hs:TabOk s)(hv:SB w (.slice A l.length c) l)(f:Int)(Ky:Fin 16->UInt8)(s1:ByteArray)(a:Int)(u:Int)(r:Int){body:Bytes}(ho:s.open_ (kl K) us l=some body)(hu:unpB body=.inr (.inside f Ky s1 a u r)):Calls Tryz.prog 68 #[(Value.iface 30 (pt tb 0)),(aV (vb (kl K)).toArray),.int .i64 us,.slice A l.length c] w (DPost w (outInside (.inr (.inside f Ky s1 a u r)))):=by
 have h0:=((Hp.ro1 (rSB (.slice A l.length c) l) hv).addR (rTab F tb s) hT (by simp))
 refine mE 45 ?_
 refine mN h0 41 (vb (kl K)) fun g2 w2 h2=>?_
 refine mN h2 187 ([zO]++vb (List.replicate 16 0)++[zE,zO,zO,zO]) fun g3 w3 h3=>?_
 refine mN h3 187 ([zO]++vb (List.replicate 16 0)++[zE,zO,zO,zO]) fun g5 w5 h5=>?_
 refine ma h5 2 ?_
 refine mT (x_openR h5 0 rfl hs K us l (lV A l.length c) (some body) (by kernel_rfl) (h5.rd 1 rfl) ho) ?_
 rintro _ w7 ⟨A7,c7,rfl,h7⟩
 refine mT (x_unp h7 hu [(lV A7 body.length c7)] (by kernel_rfl) (unp_any (OB.sb (h7.at_ 0 rfl)))) ?_
 rintro _ w11 ⟨G11,x11,rfl,h11⟩
 obtain rfl:x11=(Value.iface 187 (aV ([(iV .i64 f)]++vb (kl Ky)++[(sV s1),(iV .i64 a),(iV .i64 u),(iV .i64 r)]).toArray)):=(h11.at_ 0 rfl).2
 refine mN h11 187 ([zO]++vb (List.replicate 16 0)++[zE,zO,zO,zO]) fun g16 w16 h16=>?_
 refine mT (xSs h16 0 187 (.tmp 15) (.tmp 40) 0 ([(zD f)]++vb (kl Ky)++[(sV s1),(zD a),(zD u),(zD r)]) ([(zD f)]++vb (kl Ky)++[(sV s1),(zD a),(zD u),(zD r)])) fun _ w17 h17=>?_
 refine ma h17 0 ?_
 refine mT (xSs h17 4 187 (.tmp 8) (.tmp 43) 0 ([(zD f)]++vb (kl Ky)++[(sV s1),(zD a),(zD u),(zD r)]) ([(zD f)]++vb (kl Ky)++[(sV s1),(zD a),(zD u),(zD r)])) fun _ w20 h20=>?_
 refine mF (post_2 (r:=.cell 8 187) (s:=.tmp 9) (by kernel_rfl) rfl (rce (h20.at_ 4 rfl)) (rtm zO) ?_)
 exact ⟨rfl,h20.below0⟩
theorem oInside_any{F:Nat->Prop}{tb:Nat}{s:STab}{K:Fin 16->UInt8}{us:Int}{bv:Value}{l:Bytes}{w:World}(hT:(rTab F tb s).Φ w)(hs:TabOk s)(hv:SB w bv l):Calls Tryz.prog 68 #[(Value.iface 30 (pt tb 0)),(aV (vb (kl K)).toArray),.int .i64 us,bv] w (DPost w (outInside (openTh s (kl K) us l))):=by
 obtain ⟨A,c,rfl,_⟩:=id hv
 unfold openTh
 split
 · rename_i ho;exact oInside_none hT hs hv ho
 rename_i body ho
 rcases hu:unpB body with cc|t
 · exact oInside_err hT hs hv ho hu
 by_cases hty:tyTh t=187
 · cases t with
   | inside f Ky s1 a u r=>exact oInside_yes hT hs hv f Ky s1 a u r ho hu
   | ticket=>exact absurd (show 39=187 from hty) (by decide)
   | reply=>exact absurd (show 211=187 from hty) (by decide)
   | authent=>exact absurd (show 71=187 from hty) (by decide)
   | stamp=>exact absurd (show 104=187 from hty) (by decide)
   | fact=>exact absurd (show 49=187 from hty) (by decide)
   | plain=>exact absurd (show 276=187 from hty) (by decide)
 exact oInside_ty hT hs hv ho hu hty
/-- What tick.Open leaves, of a thing's type. -/
def outReply:Nat ⊕ Thing->Value
 | .inl c=>.tuple #[(aV ([(iV .i64 0)]++vb (List.replicate 16 0)++[(iV .i64 0),(sV ByteArray.empty),(iV .i64 0),(iV .i64 0),(iV .i64 0)]).toArray),.int .i64 (c:Int)]
 | .inr (.reply f Ky n s1 a u r)=>.tuple #[(aV ([(iV .i64 f)]++vb (kl Ky)++[(iV .i64 n),(sV s1),(iV .i64 a),(iV .i64 u),(iV .i64 r)]).toArray),.int .i64 0]
 | .inr _=>.tuple #[(aV ([(iV .i64 0)]++vb (List.replicate 16 0)++[(iV .i64 0),(sV ByteArray.empty),(iV .i64 0),(iV .i64 0),(iV .i64 0)]).toArray),.int .i64 4]
theorem outReply_no{t:Thing}(h:tyTh t≠211):outReply (.inr t)=.tuple #[(aV ([(iV .i64 0)]++vb (List.replicate 16 0)++[(iV .i64 0),(sV ByteArray.empty),(iV .i64 0),(iV .i64 0),(iV .i64 0)]).toArray),.int .i64 4]:=by
 cases t <;> first|rfl|exact absurd rfl h
theorem oReply_none{F:Nat->Prop}{tb:Nat}{s:STab}{K:Fin 16->UInt8}{us:Int}{A:Option Addr}{c:Nat}{l:Bytes}{w:World}(hT:(rTab F tb s).Φ w)(hs:TabOk s)(hv:SB w (.slice A l.length c) l)(ho:s.open_ (kl K) us l=none):Calls Tryz.prog 80 #[(Value.iface 30 (pt tb 0)),(aV (vb (kl K)).toArray),.int .i64 us,.slice A l.length c] w (DPost w (outReply (.inl 13))):=by
 have h0:=((Hp.ro1 (rSB (.slice A l.length c) l) hv).addR (rTab F tb s) hT (by simp))
 refine mE 45 ?_
 refine mN h0 41 (vb (kl K)) fun g2 w2 h2=>?_
 refine mN h2 211 ([zO]++vb (List.replicate 16 0)++[zO,zE,zO,zO,zO]) fun g3 w3 h3=>?_
 refine mN h3 211 ([zO]++vb (List.replicate 16 0)++[zO,zE,zO,zO,zO]) fun g5 w5 h5=>?_
 refine ma h5 2 ?_
 refine mT (x_openR h5 0 rfl hs K us l (lV A l.length c) none (by kernel_rfl) (h5.rd 1 rfl) ho) ?_
 rintro _ w7 ⟨A7,c7,rfl,h7⟩
 refine ma h7 1 ?_
 refine mT (xSs h7 2 211 (.tmp 8) (.tmp 27) 0 ([zO]++vb (List.replicate 16 0)++[zO,zE,zO,zO,zO]) ([zO]++vb (List.replicate 16 0)++[zO,zE,zO,zO,zO])) fun _ w11 h11=>?_
 refine mF (post_2 (r:=.cell 8 211) (s:=.tmp 9) (by kernel_rfl) rfl (rce (h11.at_ 2 rfl)) (rtm (zD 13)) ?_)
 exact ⟨rfl,h11.below0⟩
theorem oReply_err{F:Nat->Prop}{tb:Nat}{s:STab}{K:Fin 16->UInt8}{us:Int}{A:Option Addr}{c:Nat}{l:Bytes}{w:World}(hT:(rTab F tb s).Φ w)(hs:TabOk s)(hv:SB w (.slice A l.length c) l){body:Bytes}{cc:Nat}(ho:s.open_ (kl K) us l=some body)(hu:unpB body=.inl cc):Calls Tryz.prog 80 #[(Value.iface 30 (pt tb 0)),(aV (vb (kl K)).toArray),.int .i64 us,.slice A l.length c] w (DPost w (outReply (.inl cc))):=by
 have h0:=((Hp.ro1 (rSB (.slice A l.length c) l) hv).addR (rTab F tb s) hT (by simp))
 refine mE 45 ?_
 refine mN h0 41 (vb (kl K)) fun g2 w2 h2=>?_
 refine mN h2 211 ([zO]++vb (List.replicate 16 0)++[zO,zE,zO,zO,zO]) fun g3 w3 h3=>?_
 refine mN h3 211 ([zO]++vb (List.replicate 16 0)++[zO,zE,zO,zO,zO]) fun g5 w5 h5=>?_
 refine ma h5 2 ?_
 refine mT (x_openR h5 0 rfl hs K us l (lV A l.length c) (some body) (by kernel_rfl) (h5.rd 1 rfl) ho) ?_
 rintro _ w7 ⟨A7,c7,rfl,h7⟩
 refine mD h7 [(lV A7 body.length c7)] (up_e hu (unp_any (OB.sb (h7.at_ 0 rfl)))) (fun w11 h11=>?_)
 refine mX 34 (.bool true) (bV (((cc:Int)) != 0)) (ine (b:=0) (unp_er hu)) ?_
 refine ma h11 1 ?_
 refine mT (xSs h11 2 211 (.tmp 8) (.tmp 35) 0 ([zO]++vb (List.replicate 16 0)++[zO,zE,zO,zO,zO]) ([zO]++vb (List.replicate 16 0)++[zO,zE,zO,zO,zO])) fun _ w15 h15=>?_
 refine mF (post_2 (r:=.cell 8 211) (s:=.tmp 9) (by kernel_rfl) rfl (rce (h15.at_ 2 rfl)) (rtm (zD ((cc:Int)))) ?_)
 exact ⟨rfl,h15.below0⟩
theorem oReply_ty{F:Nat->Prop}{tb:Nat}{s:STab}{K:Fin 16->UInt8}{us:Int}{A:Option Addr}{c:Nat}{l:Bytes}{w:World}(hT:(rTab F tb s).Φ w)(hs:TabOk s)(hv:SB w (.slice A l.length c) l){body:Bytes}{t:Thing}(ho:s.open_ (kl K) us l=some body)(hu:unpB body=.inr t)(hty:tyTh t≠211):Calls Tryz.prog 80 #[(Value.iface 30 (pt tb 0)),(aV (vb (kl K)).toArray),.int .i64 us,.slice A l.length c] w (DPost w (outReply (.inr t))):=by
 have h0:=((Hp.ro1 (rSB (.slice A l.length c) l) hv).addR (rTab F tb s) hT (by simp))
 refine mE 45 ?_
 refine mN h0 41 (vb (kl K)) fun g2 w2 h2=>?_
 refine mN h2 211 ([zO]++vb (List.replicate 16 0)++[zO,zE,zO,zO,zO]) fun g3 w3 h3=>?_
 refine mN h3 211 ([zO]++vb (List.replicate 16 0)++[zO,zE,zO,zO,zO]) fun g5 w5 h5=>?_
 refine ma h5 2 ?_
 refine mT (x_openR h5 0 rfl hs K us l (lV A l.length c) (some body) (by kernel_rfl) (h5.rd 1 rfl) ho) ?_
 rintro _ w7 ⟨A7,c7,rfl,h7⟩
 refine mT (x_unp h7 hu [(lV A7 body.length c7)] (by kernel_rfl) (unp_any (OB.sb (h7.at_ 0 rfl)))) ?_
 rintro _ w11 ⟨G11,x11,rfl,h11⟩
 obtain ⟨v11,rfl⟩:=(h11.at_ 0 rfl).2.ty
 refine mW 39 (v:=(Value.tuple #[(aV ([zO]++vb (List.replicate 16 0)++[zO,zE,zO,zO,zO]).toArray),zV])) (e_asNo (T':=tyTh t) (ta:=211) (xt:=20) (v:=v11) (.tmp 38) (by kernel_rfl) (by kernel_rfl) hty (by kernel_rfl) (by kernel_rfl) _) ?_
 refine mN h11 211 ([zO]++vb (List.replicate 16 0)++[zO,zE,zO,zO,zO]) fun g16 w16 h16=>?_
 refine mT (xSs h16 0 211 (.tmp 15) (.tmp 40) 0 ([zO]++vb (List.replicate 16 0)++[zO,zE,zO,zO,zO]) ([zO]++vb (List.replicate 16 0)++[zO,zE,zO,zO,zO])) fun _ w17 h17=>?_
 refine ma h17 3 ?_
 refine mT (xSs h17 4 211 (.tmp 8) (.tmp 44) 0 ([zO]++vb (List.replicate 16 0)++[zO,zE,zO,zO,zO]) ([zO]++vb (List.replicate 16 0)++[zO,zE,zO,zO,zO])) fun _ w20 h20=>?_
 refine mF (post_2 (r:=.cell 8 211) (s:=.tmp 9) (by kernel_rfl) rfl (rce (h20.at_ 4 rfl)) (rtm (zD 4)) ?_)
 rw [outReply_no hty]
 exact ⟨rfl,h20.below0⟩
theorem oReply_yes{F:Nat->Prop}{tb:Nat}{s:STab}{K:Fin 16->UInt8}{us:Int}{A:Option Addr}{c:Nat}{l:Bytes}{w:World}(hT:(rTab F tb s).Φ w)(hs:TabOk s)(hv:SB w (.slice A l.length c) l)(f:Int)(Ky:Fin 16->UInt8)(n:Int)(s1:ByteArray)(a:Int)(u:Int)(r:Int){body:Bytes}(ho:s.open_ (kl K) us l=some body)(hu:unpB body=.inr (.reply f Ky n s1 a u r)):Calls Tryz.prog 80 #[(Value.iface 30 (pt tb 0)),(aV (vb (kl K)).toArray),.int .i64 us,.slice A l.length c] w (DPost w (outReply (.inr (.reply f Ky n s1 a u r)))):=by
 have h0:=((Hp.ro1 (rSB (.slice A l.length c) l) hv).addR (rTab F tb s) hT (by simp))
 refine mE 45 ?_
 refine mN h0 41 (vb (kl K)) fun g2 w2 h2=>?_
 refine mN h2 211 ([zO]++vb (List.replicate 16 0)++[zO,zE,zO,zO,zO]) fun g3 w3 h3=>?_
 refine mN h3 211 ([zO]++vb (List.replicate 16 0)++[zO,zE,zO,zO,zO]) fun g5 w5 h5=>?_
 refine ma h5 2 ?_
 refine mT (x_openR h5 0 rfl hs K us l (lV A l.length c) (some body) (by kernel_rfl) (h5.rd 1 rfl) ho) ?_
 rintro _ w7 ⟨A7,c7,rfl,h7⟩
 refine mT (x_unp h7 hu [(lV A7 body.length c7)] (by kernel_rfl) (unp_any (OB.sb (h7.at_ 0 rfl)))) ?_
 rintro _ w11 ⟨G11,x11,rfl,h11⟩
 obtain rfl:x11=(Value.iface 211 (aV ([(iV .i64 f)]++vb (kl Ky)++[(iV .i64 n),(sV s1),(iV .i64 a),(iV .i64 u),(iV .i64 r)]).toArray)):=(h11.at_ 0 rfl).2
 refine mN h11 211 ([zO]++vb (List.replicate 16 0)++[zO,zE,zO,zO,zO]) fun g16 w16 h16=>?_
 refine mT (xSs h16 0 211 (.tmp 15) (.tmp 40) 0 ([(zD f)]++vb (kl Ky)++[(zD n),(sV s1),(zD a),(zD u),(zD r)]) ([(zD f)]++vb (kl Ky)++[(zD n),(sV s1),(zD a),(zD u),(zD r)])) fun _ w17 h17=>?_
 refine ma h17 0 ?_
 refine mT (xSs h17 4 211 (.tmp 8) (.tmp 43) 0 ([(zD f)]++vb (kl Ky)++[(zD n),(sV s1),(zD a),(zD u),(zD r)]) ([(zD f)]++vb (kl Ky)++[(zD n),(sV s1),(zD a),(zD u),(zD r)])) fun _ w20 h20=>?_
 refine mF (post_2 (r:=.cell 8 211) (s:=.tmp 9) (by kernel_rfl) rfl (rce (h20.at_ 4 rfl)) (rtm zO) ?_)
 exact ⟨rfl,h20.below0⟩
theorem oReply_any{F:Nat->Prop}{tb:Nat}{s:STab}{K:Fin 16->UInt8}{us:Int}{bv:Value}{l:Bytes}{w:World}(hT:(rTab F tb s).Φ w)(hs:TabOk s)(hv:SB w bv l):Calls Tryz.prog 80 #[(Value.iface 30 (pt tb 0)),(aV (vb (kl K)).toArray),.int .i64 us,bv] w (DPost w (outReply (openTh s (kl K) us l))):=by
 obtain ⟨A,c,rfl,_⟩:=id hv
 unfold openTh
 split
 · rename_i ho;exact oReply_none hT hs hv ho
 rename_i body ho
 rcases hu:unpB body with cc|t
 · exact oReply_err hT hs hv ho hu
 by_cases hty:tyTh t=211
 · cases t with
   | reply f Ky n s1 a u r=>exact oReply_yes hT hs hv f Ky n s1 a u r ho hu
   | ticket=>exact absurd (show 39=211 from hty) (by decide)
   | inside=>exact absurd (show 187=211 from hty) (by decide)
   | authent=>exact absurd (show 71=211 from hty) (by decide)
   | stamp=>exact absurd (show 104=211 from hty) (by decide)
   | fact=>exact absurd (show 49=211 from hty) (by decide)
   | plain=>exact absurd (show 276=211 from hty) (by decide)
 exact oReply_ty hT hs hv ho hu hty
end
section
open Go.RowKit Go.QT
section
variable{F0:Nat->Prop}{w0 w w':World}{ro rs:List Res}
end
end
section
open Go.RowKit Go.QT
abbrev aI(n:Int):AV:=.v (.int .i64 n)
abbrev aS(s:ByteArray):AV:=.v (.string s)
abbrev aB(b:Bool):AV:=.v (.bool b)
abbrev aN:AV:=.v (.slice none 0 0)
abbrev aK(K:Fin 16->UInt8):List AV:=rg (vb (kl K))
abbrev aZ:List AV:=rg (vb (List.replicate 16 0))
/-- A table; bytes that are only read. -/
def tabC(s:STab)(kv:Kv):Prop:=∃ F,kv.r=rTab F kv.n s
/-- Bytes that nobody turns any more: they may be held by many. -/
def rFB(v:Value)(l:Bytes):Res:={ rSB v l with W:=fun _=>False,hW:=fun _ h=>h.elim }
def sbC(l:Bytes)(kv:Kv):Prop:=kv.r=rFB (.slice kv.a l.length kv.n) l
abbrev eT(k:Nat)(s:STab):Ent:=.opq k (tabC s)
abbrev eB(k:Nat)(l:Bytes):Ent:=.opq k (sbC l)
theorem w64{x:Int}(h1:-9223372036854775808<=x)(h2:x<=9223372036854775807):Value.int .i64 (IntKind.i64.wrap x)=.int .i64 x:=by
 congr 1;rw [IntKind.wrap_i64];omega
theorem isT{p:Prop}[Decidable p](h:p):Value.bool (decide p)=.bool true:=by rw [decide_eq_true h]
theorem isF{p:Prop}[Decidable p](h:¬ p):Value.bool (decide p)=.bool false:=by rw [decide_eq_false h]
theorem foot_one(κ:Kp)(e:Ent):foot κ [e]=⟨(e.res κ).W,(e.res κ).F⟩:=by
 unfold foot
 congr 1 <;> (funext q;simp)
abbrev fN:Ft:=ft fun _=>False
theorem foot_nil(κ:Kp):foot κ []=fN:=by
 unfold foot fN
 congr 1 <;> (funext q;simp)
section
variable{P:Program}
/-- What makes one new thing, of which only its slice is told. -/
theorem newO_tr{o:Oper}{ev:Operand->AV}{ro H:List Ent}{b n:Nat}{C:Kv->Prop}{ob:List Ob} (h:∀ {A:Nat->Prop} {κ:Kp} {a:Act} {w w0:World} {F0:Ft},(∀ e ∈ ro,e.ok A)->(∀ e ∈ H,e.ok A)->a.eval=(fun y=>(ev y).den κ)->HE F0 w0 w κ ro H ->
   OpTo P o a w (fun u w'=>∃ A c r,u=.slice A n c/\C ⟨c,A,r⟩/\HA F0 w0 w' (ro.map (Ent.res κ)) (r::H.map (Ent.res κ)))):Tr P o ev ro H b ⟨.o b n,insK (.opq b C) H,[],ob⟩ where
 goes:=by
   intro A κ a w w0 F0 hA hev hro hH ha hh
   refine (h hro hH ha hh).mono fun u w' ⟨A',c,r,e1,hC,hp⟩=>?_
   have hag:=upK_agr κ ⟨c,A',r⟩ hA
   refine ⟨upK κ b ⟨c,A',r⟩,hag,?_,?_⟩
   · rw [e1];show _=Value.slice (upK κ b ⟨c,A',r⟩ b).a n (upK κ b ⟨c,A',r⟩ b).n
     rw [upK_at]
   refine HE.perm (H:=.opq b C::H) ⟨?_,fun e he=>Ent.holds_agr hag (hro e he) List.not_mem_nil (hh.hr e he),fun e he=>?_⟩ (insK_perm _ _)
   · rw [List.map_cons,map_agr hag ro hro (fun _ _=>List.not_mem_nil),map_agr hag H hH (fun _ _=>List.not_mem_nil)]
     show HA _ _ _ _ ((upK κ b ⟨c,A',r⟩ b).r::_)
     rw [upK_at];exact hp
   rcases List.mem_cons.1 he with rfl|he
   · show C (upK κ b ⟨c,A',r⟩ b);rw [upK_at];exact hC
   exact Ent.holds_agr hag (hH e he) List.not_mem_nil (hh.hh e he)
 names:=by
   intro A hev hro hH
   refine ⟨.inr ⟨Nat.le_refl _,by omega⟩,fun e he=>?_⟩
   rcases List.mem_cons.1 ((insK_perm _ _).mem_iff.2 he) with rfl|he
   · exact .inr ⟨Nat.le_refl _,by omega⟩
   exact Ent.ok_mono (fun _ h=>.inl h) (hH e he)
 keeps:=fun e he _=>(insK_perm _ _).mem_iff.1 (List.mem_cons_of_mem _ he)
end
/-- append([]byte(nil), x...). -/
noncomputable def appF (l:Bytes) (o:Oper) (ev:Operand->AV) (ro H:List Ent) (b:Nat):Option Out:=
 match o.op with
 | .call ⟨.builtin .append,⟨[s,x]⟩,⟨[t,u]⟩⟩=>match ev x with
   | .o j n=>match findK j (H++ro) with
     | some e=>bif Nat.beq t 25 && Nat.beq u 25 then some ⟨.o b l.length,insK (eB b l) H,[],[⟨AV,ev s,aN⟩,⟨Nat,n,l.length⟩,⟨Ent,e,eB j l⟩]⟩ else none
     | none=>none
   | _=>none
 | _=>none
theorem HE.ent{F0:Ft}{w0 w:World}{κ:Kp}{ro H:List Ent}{e:Ent}(h:HE F0 w0 w κ ro H)(he:e ∈ H++ro):(e.res κ).Φ w/\e.holds κ:=by
 rcases List.mem_append.1 he with he|he
 · exact ⟨h.ha.own _ (List.mem_map.2 ⟨e,he,rfl⟩),h.hh e he⟩
 exact ⟨h.ha.red _ (List.mem_map.2 ⟨e,he,rfl⟩),h.hr e he⟩
theorem sb_ent{F0:Ft}{w0 w:World}{κ:Kp}{ro H:List Ent}{j:Nat}{l:Bytes}(h:HE F0 w0 w κ ro H)(he:eB j l ∈ H++ro):SB w (.slice (κ j).a l.length (κ j).n) l:=by
 obtain ⟨h1,h2⟩:=h.ent he
 have h2:(κ j).r=rFB (.slice (κ j).a l.length (κ j).n) l:=h2
 have h1:((κ j).r).Φ w:=h1
 rw [h2] at h1;exact h1
noncomputable def appA (key:Nat) (l:Bytes) (hl:l.length<=1000000):Pl Tryz.prog:=⟨key,appF l,by
 intro o ev ro H b u h hob
 unfold appF at h
 split at h
 · rename_i s x t u' ho
   split at h
   · rename_i j n hx
     split at h
     · rename_i e hf
       rw [cond_some] at h
       obtain ⟨hc,h⟩:=h
       subst h
       rw [Bool.and_eq_true] at hc
       have e1:=Nat.eq_of_beq_eq_true hc.1
       have e2:=Nat.eq_of_beq_eq_true hc.2
       subst e1;subst e2
       have o1:ev s=aN:=hob _ (List.mem_cons_self ..)
       have o2:n=l.length:=hob _ (List.mem_cons_of_mem _ (List.mem_cons_self ..))
       have o3:e=eB j l:=hob _ (List.mem_cons_of_mem _ (List.mem_cons_of_mem _ (List.mem_cons_self ..)))
       subst o2
       refine newO_tr fun {A κ a w w0 F0} hro hH ha hh=>?_
       have hsb:=sb_ent (j:=j) (l:=l) hh (by rw [← o3];exact (findK_mem hf).1)
       have h0:=(Hp.nil (fun _=>False) w).addS (rOB (.slice none 0 0) []) (OB.nil w 0) (fun q hq=>by cases hq) (fun j s _ q hq=>by cases hq) (fun j s _ q hq=>by cases hq)
       refine (x_appB h0 0 rfl s x ho (.slice (κ j).a l.length (κ j).n) (by rw [ha];simp only [o1];rfl) (by rw [ha];simp only [hx];rfl) hsb (by simp only [List.length_nil];omega)).mono fun u w' ⟨A',cc,e1,h1⟩=>?_
       rw [List.nil_append] at e1 h1
       subst e1
       exact ⟨A',cc,rFB (.slice A' l.length cc) l,rfl,rfl,hh.ha.newH (h1.upd 0 rfl (Fr.refl _ _) (rFB (.slice A' l.length cc) l) (OB.sb (h1.own 0 _ rfl)) (fun q hq=>.inl hq.2))⟩
     cases h
   cases h
 cases h⟩
/-! ### What was known,under names -/
/-- A call that holds a table and nothing else. -/
theorem tab_s{f:FuncId}{s:STab}{al:List AV}{nx:Nat}{ro:List Ent}{v:AV}{post:List Ent}(h:∀ (κ:Kp) (w:World) (F:Nat->Prop),HE (foot κ [eT 0 s]) w w κ ro [eT 0 s]->(κ 0).r=rTab F (κ 0).n s->(rTab F (κ 0).n s).Φ w->Calls Tryz.prog f (AV.denL κ al).toArray w (fun e w'=>∃ κ':Kp,Agr (· < nx) κ κ'/\e=.returned (v.den κ')/\Hp F w w' [] (post.map (Ent.res κ'))/\∀ e ∈ post,e.holds κ')):Spec Tryz.prog ⟨f,nx,al,ro,[eT 0 s],v,post⟩:=⟨fun κ w hh=>by
 obtain ⟨F,hF⟩:=hh.hh (eT 0 s) (List.mem_singleton.2 rfl)
 have h1:(rTab F (κ 0).n s).Φ w:=by rw [← hF];exact hh.ha.own _ (List.mem_singleton.2 rfl)
 refine (h κ w F hh hF h1).mono fun e w' ⟨κ',a1,a2,a3,a4⟩=>⟨⟨κ',a1,a2,?_,fun e he=>absurd he List.not_mem_nil,a4⟩⟩
 rw [show foot κ (Sp.pre ⟨f,nx,al,ro,[eT 0 s],v,post⟩)=ft F from by rw [foot_one];show (⟨((κ 0).r).W,((κ 0).r).F⟩:Ft)=ft F;rw [hF];rfl]
 exact a3.ha⟩
theorem up1{κ:Kp}{nx:Nat}(kv:Kv):Agr (· < nx) κ (upK κ nx kv):=fun k hk=>by rw [upK_ne κ kv (Nat.ne_of_lt hk)];exact ⟨rfl,rfl⟩
/-- The same table, at another footprint; and one more thing. -/
def upT(κ:Kp)(r:Res):Kp:=upK κ 0 ⟨(κ 0).n,(κ 0).a,r⟩
theorem upT_agr(κ:Kp)(r:Res)(A:Nat->Prop):Agr A κ (upT κ r):=fun k _=>by
 unfold upT
 by_cases h:k=0
 · subst h;rw [upK_at];exact ⟨rfl,rfl⟩
 rw [upK_ne _ _ h];exact ⟨rfl,rfl⟩
end
section
open Go.RowKit Go.QT
/-- The blocks that came since. -/
def newF(w w':World):Nat->Prop:=fun q=>w.heap.size<=q/\q<w'.heap.size
section
variable{w w':World}{ro rs:List Res}
theorem Hp.fresh{r:Res}(h:Hp (fun _=>False) w w' ro rs)(i:Nat)(hi:rs[i]?=some r):∀ q,r.F q->newF w w' q:=fun q hq=>⟨(h.mine i r hi q hq).elim False.elim id,r.lt (h.own i r hi) q hq⟩
theorem dvr_sb(h:Hp (fun _=>False) w w' ro rs)(i:Nat){v:Value}{b:Bytes}(hi:rs[i]?=some (rSB v b)):DVR (newF w w') w' (rV v) (bD b):=dvr_raw' (h.own i _ hi) (h.fresh i hi)
theorem dvr_dv(h:Hp (fun _=>False) w w' ro rs)(i:Nat){F:Nat->Prop}{cs:List Value}{v:DVal}(hi:rs[i]?=some (rDV F cs v)):DVR (newF w w') w' cs v:=(h.own i _ hi).2.mono (h.fresh i hi)
/-- What a message's value leaves. -/
def MvPost(w:World)(v:DVal)(e:Ending)(w':World):Prop:=
 ∃ F A c,e=.returned (.tuple #[.agg #[.int .i64 2,.int .i64 (v.tag:Int),.int .u64 0,.slice none 0 0,.slice A v.l.length c],.bool true])/\Hp (fun _=>False) w w' [] [rDV F [.int .i64 2,.int .i64 (v.tag:Int),.int .u64 0,.slice none 0 0,.slice A v.l.length c] v]
theorem mv_of(h:Hp (fun _=>False) w w' ro rs)(i:Nat){g n tag:Nat}{cs:List Value}{xs:List (List Value)}{ts:List DVal}(hi:rs[i]?=some (rBlk g 196 cs))(hc:cs=xs.flatten)(hx:DVLs (newF w w') w' xs ts)(hn:ts.length=n)(hl:decide (n<=1000)=true) :
   MvPost w (.mk 2 tag 0 [] ts) (.returned (.tuple #[.agg #[.int .i64 2,.int .i64 (tag:Int),.int .u64 0,.slice none 0 0,.slice (some ⟨g,0,none⟩) n n],.bool true])) w':=by
 subst hn
 exact ⟨newF w w',_,_,rfl,(Hp.nil _ w).newS h.below0 _ (dv_blk (h.own i _ hi) hc hx rfl hl (h.fresh i hi g rfl) (fun q hq=>hq.2)) (fun q hq=>hq.1)⟩
theorem mv_nil(h:Hp (fun _=>False) w w' ro rs)(tag:Nat):MvPost w (.mk 2 tag 0 [] []) (.returned (.tuple #[.agg #[.int .i64 2,.int .i64 (tag:Int),.int .u64 0,.slice none 0 0,.slice none 0 0],.bool true])) w':=
 ⟨newF w w',none,0,rfl,(Hp.nil _ w).newS h.below0 _ (dv_seq (rvf_nil _ _ _ _ (by unfold maxLen;omega) _) rfl ⟨fun q hq=>hq.2,by simp⟩) (fun q hq=>hq.1)⟩
theorem mv_ov(h:Hp (fun _=>False) w w' ro rs)(i:Nat){A:Option Addr}{n c tag:Nat}{xs:List (List Value)}{ts:List DVal}(hi:rs[i]?=some (rOV 196 5 (.slice A n c) xs))(hx:DVLs (newF w w') w' xs ts)(hn:ts.length=n) :
   MvPost w (.mk 2 tag 0 [] ts) (.returned (.tuple #[.agg #[.int .i64 2,.int .i64 (tag:Int),.int .u64 0,.slice none 0 0,.slice A n c],.bool true])) w':=by
 subst hn
 refine ⟨newF w w',_,_,rfl,(Hp.nil _ w).newS h.below0 _ (dv_seq ⟨(OV.rvn (h.own i _ hi)).2,fun _ q hq=>h.fresh i hi q ?_⟩ hx.len ⟨fun q hq=>hq.2,hx.at_⟩) (fun q hq=>hq.1)⟩
 show (Value.slice A ts.length c).ownBlock=some q
 cases A with
 | none=>cases hq
 | some A=>exact hq
end
section
variable{o:Oper}{a:Act}{F0:Nat->Prop}{w0 w:World}{ro rs:List Res}
theorem x_mv(h:Hp F0 w0 w ro rs){v:DVal}(fn:FuncId)(al:List Value)(hp:pureVal Tryz.prog (execOp a.eval o)=some (.enter fn al.toArray))(hc:Calls Tryz.prog fn al.toArray w (MvPost w v)) :
   OpTo Tryz.prog o a w (fun u w'=>∃ F A c,u=.tuple #[.agg #[.int .i64 2,.int .i64 (v.tag:Int),.int .u64 0,.slice none 0 0,.slice A v.l.length c],.bool true]/\Hp F0 w0 w' ro (rDV F [.int .i64 2,.int .i64 (v.tag:Int),.int .u64 0,.slice none 0 0,.slice A v.l.length c] v::rs)):=
 OpTo.enter fn al hp hc fun e w' hq=>by
   obtain ⟨F,A,c,he,h2⟩:=hq
   exact ⟨_,he,F,A,c,rfl,h.call0 h2⟩
/-- tick.Value of what is right. -/
theorem mval_any{G:Nat->Prop}{u:Value}{t:Thing}{w:World}(hu:ThR G w u t)(hl:limTh t)(hr:rightTh t=true):Calls Tryz.prog 99 #[u] w (fun e w'=>∃ F g n,e=.returned (.tuple #[.agg #[.int .i64 2,.int .i64 (tagTh t:Int),.int .u64 0,.slice none 0 0,.slice (some ⟨g,0,none⟩) n n],.bool true])/\Hp (fun _=>False) w w' [] [rDV F [.int .i64 2,.int .i64 (tagTh t:Int),.int .u64 0,.slice none 0 0,.slice (some ⟨g,0,none⟩) n n] (valD t)]):=
 (val_any t hu hl).mono fun e w' hq=>by
   obtain ⟨hB,g,n,he,hf⟩:=hq
   rw [hr] at he
   obtain ⟨F,hF,hn⟩:=hf hr
   exact ⟨F,g,n,he,(Hp.nil _ w).newS hB _ hF hn⟩
theorem x_mval(h:Hp F0 w0 w ro rs){G:Nat->Prop}{u:Value}{t:Thing}(hr:rightTh t=true)(hu:ThR G w u t)(hl:limTh t)(hp:pureVal Tryz.prog (execOp a.eval o)=some (.enter 99 #[u])) :
   OpTo Tryz.prog o a w (fun v w'=>∃ F g n,v=.tuple #[.agg #[.int .i64 2,.int .i64 (tagTh t:Int),.int .u64 0,.slice none 0 0,.slice (some ⟨g,0,none⟩) n n],.bool true]/\Hp F0 w0 w' ro (rDV F [.int .i64 2,.int .i64 (tagTh t:Int),.int .u64 0,.slice none 0 0,.slice (some ⟨g,0,none⟩) n n] (valD t)::rs)):=
 OpTo.enter 99 [u] hp (mval_any hu hl hr) fun e w' hq=>by
   obtain ⟨F,g,n,he,h2⟩:=hq
   exact ⟨_,he,F,g,n,rfl,h.call0 h2⟩
end
theorem rsg_of{w:World}{v:Value}{b:Bytes}(h:SB w v b):(rSG (rSB v b).F v b).Φ w:=⟨(rSB v b).lt h,h,fun hne _ hq=>⟨hne,hq⟩⟩
/-- A ticket that stands beside, and where. -/
structure Xt where
 s:ByteArray
 b:Bytes
 A:Option Addr
 c:Nat
def Xt.th(x:Xt):Thing:=.ticket x.s x.b
def Xt.cs(x:Xt):List Value:=[.string x.s,.slice x.A x.b.length x.c]
/-- A row of tickets. -/
def rXt(E:Option Addr)(ce:Nat)(xs:List Xt):Res where
 F:=fun q=>(rRV 2 E ce (xs.map Xt.cs)).F q∨∃ x,x ∈ xs/\(rSB (.slice x.A x.b.length x.c) x.b).F q
 Φ:=fun w=>RV w 2 E ce (xs.map Xt.cs)/\∀ x,x ∈ xs->SB w (.slice x.A x.b.length x.c) x.b
 lt:=fun h q hq=>hq.elim ((rRV 2 E ce (xs.map Xt.cs)).lt h.1 q) fun ⟨x,hx,hq⟩=>(rSB _ _).lt (h.2 x hx) q hq
 keep:=fun h hs hk=>⟨(rRV 2 E ce (xs.map Xt.cs)).keep h.1 hs fun q hq=>hk q (.inl hq),fun x hx=>(rSB _ _).keep (h.2 x hx) hs fun q hq=>hk q (.inr ⟨x,hx,hq⟩)⟩
def okXt(xs:List Xt):Prop:=xs.length<=1/\∀ x,x ∈ xs->rightN x.s=true/\limTh x.th
/-- A request for a ticket, as a value. -/
def tgsD(s:ByteArray)(n t:Int)(r m:Bool)(tk:Thing)(b:Bytes)(ex:List Thing):DVal:=
 .mk 2 13 0 [] [bD s.data.toList,nD n,nD t,nD r.toNat,nD m.toNat,valD tk,bD b,.mk 2 0 0 [] (ex.map valD)]
theorem inN_bool(b:Bool):inN (b.toNat:Int)=true:=by cases b <;> rfl
end
section
open Go.RowKit Go.QT
theorem mnum_any(n:Int)(w:World):Calls Tryz.prog 96 #[.int .i64 n] w (DPost w (.agg (nV n).toArray)):=by
 obtain ⟨m,hm,hm1,-⟩:=wrap64_ex n
 unfold nV
 rw [hm]
 have h0:=Hp.nil (fun _=>False) w
 refine mE 6 ?_
 refine mN h0 196 ([(Value.int .i64 0),(Value.int .i64 0),(Value.int .u64 0),(Value.slice none 0 0),(Value.slice none 0 0)]) fun g2 w2 h2=>?_
 refine mX 4 (Value.int .u64 ((m:Int))) (Value.int .u64 (IntKind.u64.wrap n)) (by rw [hm]) ?_
 refine mD h2 [(Value.int .u64 ((m:Int)))] (dnum_any m _) (fun w4 h4=>?_)
 refine mT (xSs h4 0 196 (.tmp 2) (.tmp 5) 0 ([(Value.int .i64 0),(Value.int .i64 0),(Value.int .u64 ((m:Int))),(Value.slice none 0 0),(Value.slice none 0 0)]) ([(Value.int .i64 0),(Value.int .i64 0),(Value.int .u64 ((m:Int))),(Value.slice none 0 0),(Value.slice none 0 0)])) fun _ w5 h5=>?_
 refine mF (post_1 (r:=.cell 2 196) (by kernel_rfl) rfl (rce (h5.at_ 0 rfl)) ?_)
 exact ⟨rfl,h5.below0⟩
theorem mtruth_any(b:Bool)(w:World):Calls Tryz.prog 101 #[.bool b] w (DPost w (.agg (nV b.toNat).toArray)):=by
 have hm:IntKind.u64.wrap (b.toNat:Int)=(b.toNat:Int):=by cases b <;> rfl
 unfold nV
 rw [hm]
 cases b
 · skip
   have h0:=Hp.nil (fun _=>False) w
   refine mE 6 ?_
   refine mN h0 196 ([(Value.int .i64 0),(Value.int .i64 0),(Value.int .u64 0),(Value.slice none 0 0),(Value.slice none 0 0)]) fun g2 w2 h2=>?_
   refine mD h2 [(Value.int .u64 0)] (dnum_any 0 _) (fun w6 h6=>?_)
   refine mT (xSs h6 0 196 (.tmp 2) (.tmp 5) 0 ([(Value.int .i64 0),(Value.int .i64 0),(Value.int .u64 ((0:Int))),(Value.slice none 0 0),(Value.slice none 0 0)]) ([(Value.int .i64 0),(Value.int .i64 0),(Value.int .u64 ((0:Int))),(Value.slice none 0 0),(Value.slice none 0 0)])) fun _ w7 h7=>?_
   refine mF (post_1 (r:=.cell 2 196) (by kernel_rfl) rfl (rce (h7.at_ 0 rfl)) ?_)
   exact ⟨rfl,h7.below0⟩
 skip
 have h0:=Hp.nil (fun _=>False) w
 refine mE 6 ?_
 refine mN h0 196 ([(Value.int .i64 0),(Value.int .i64 0),(Value.int .u64 0),(Value.slice none 0 0),(Value.slice none 0 0)]) fun g2 w2 h2=>?_
 refine mD h2 [(Value.int .u64 1)] (dnum_any 1 _) (fun w6 h6=>?_)
 refine mT (xSs h6 0 196 (.tmp 2) (.tmp 4) 0 ([(Value.int .i64 0),(Value.int .i64 0),(Value.int .u64 ((1:Int))),(Value.slice none 0 0),(Value.slice none 0 0)]) ([(Value.int .i64 0),(Value.int .i64 0),(Value.int .u64 ((1:Int))),(Value.slice none 0 0),(Value.slice none 0 0)])) fun _ w7 h7=>?_
 refine mF (post_1 (r:=.cell 2 196) (by kernel_rfl) rfl (rce (h7.at_ 0 rfl)) ?_)
 exact ⟨rfl,h7.below0⟩
theorem mtext_any(s:ByteArray)(w:World)(hs:s.size<=1000000):Calls Tryz.prog 95 #[.string s] w (RawPost w s.data.toList):=by
 have hsl:s.data.toList.length=s.size:=by cases s;simp [ByteArray.size]
 have h0:=Hp.nil (fun _=>False) w
 refine mE 6 ?_
 refine mN h0 196 ([(Value.int .i64 0),(Value.int .i64 0),(Value.int .u64 0),(Value.slice none 0 0),(Value.slice none 0 0)]) fun g2 w2 h2=>?_
 refine mT (x_convT h2 (.tmp 3) (by kernel_rfl) s (by kernel_rfl) (by omega) (s.data.toList) rfl (s.data.toList.length) rfl) ?_
 rintro _ w4 ⟨A4,c4,rfl,h4⟩
 refine mT (x_rawT h4 97 [(Value.slice A4 s.data.toList.length c4)] (by kernel_rfl) (draw_any (Value.slice A4 s.data.toList.length c4) s.data.toList _ (h4.rd 0 rfl) (by omega))) ?_
 rintro _ w5 ⟨A5,c5,rfl,h5,hn5⟩
 refine mT (xSs h5 1 196 (.tmp 2) (.tmp 5) 0 ([(Value.int .i64 1),(Value.int .i64 0),(Value.int .u64 0),(Value.slice A5 s.data.toList.length c5),(Value.slice none 0 0)]) ([(Value.int .i64 1),(Value.int .i64 0),(Value.int .u64 0),(Value.slice A5 s.data.toList.length c5),(Value.slice none 0 0)])) fun _ w6 h6=>?_
 refine mF (post_1 (r:=.cell 2 196) (by kernel_rfl) rfl (rce (h6.at_ 1 rfl)) ?_)
 exact rawpost_sb h6 0 rfl (.inr fun q hq=>Nat.le_trans h4.below0.size (hn5 q hq))
theorem strl_get{l:List ByteArray}{k:Nat}{x:ByteArray}(h:l[k]?=some x):(l.map fun x=>[Value.string x])[k]?=some [.string x]:=by rw [List.getElem?_map,h];rfl
theorem mright_any(ns:List ByteArray)(l:List Int)(A B:Option Addr)(c d:Nat)(w:World)(hn:ns.length<=1000)(hl:l.length<=1000)(hns:∀ s ∈ ns,rightN s=true/\s.size<=1000000000)(hls:∀ x ∈ l,inN x=true)(hA:RV w 1 A c (ns.map fun x=>[Value.string x]))(hB:RV w 1 B d (l.map fun x=>[Value.int .i64 x])) :
   Calls Tryz.prog 98 #[.slice A ns.length c,.slice B l.length d] w (DPost w (.bool true)):=by
 have h0:=(Hp.ro1 (rRV 1 A c (ns.map fun x=>[Value.string x])) hA).addR (rRV 1 B d (l.map fun x=>[Value.int .i64 x])) hB (by simp)
 refine mE 32 ?_
 refine mL (fun mM xX aA wL=>∃ (k:Nat),(k<=ns.length)/\mM=ns.length-k/\aA=patch xX 32 [(1,(Value.slice B l.length d)),(9,(Value.slice A ns.length c)),(10,(Value.int .i64 ((ns.length:Int)))),(11,(Value.int .i64 ((k:Int))))]/\Hp (fun _=>False) w wL [rRV 1 B d ((l.map fun x=>[Value.int .i64 x])),rRV 1 A c ((ns.map fun x=>[Value.string x]))] []) ⟨_,_,0,(by omega),rfl,pM,h0.sel [] [0,1] (by kernel_rfl) rfl rfl⟩ ?_
 rintro _ x4 _ w4 ⟨k,hk,rfl,rfl,h4⟩ KL4 hKL4
 refine mAt ?_
 by_cases b6:k<ns.length
 ·
  refine mX 12 (.bool true) (Value.bool (decide ((k:Int)<(ns.length:Int)))) (by simp;omega) ?_
  obtain ⟨p,hp⟩:∃ p,ns[k]?=some p:=⟨_,List.getElem?_eq_getElem (by omega)⟩
  refine mW 13 (eIx (RV.lenIs (n:=ns.length) (h4.rd 1 rfl) (by simp)).2 k ns.length (RV.lenIs (n:=ns.length) (h4.rd 1 rfl) (by simp)).1 (by omega) 243 (.tmp 9) (.tmp 11) .i64 9) ?_
  refine mW 14 (eEl (RV.lenIs (n:=ns.length) (h4.rd 1 rfl) (by simp)).2 k 0 ([(Value.string p)]) (strl_get hp) 9 (.tmp 13) (Value.string p)) ?_
  refine mT (x_dp (v:=.bool true) h4 115 [(Value.string p)] (by kernel_rfl) (by have hz:=nright_any p w4 (hns p (List.mem_of_getElem? hp)).2;rw [(hns p (List.mem_of_getElem? hp)).1] at hz;exact hz)) ?_
  rintro _ w11 ⟨rfl,h11⟩
  refine mW 18 (exec_add _ _ _ _ bO ((k:Int)) 1 (by kernel_rfl) (by kernel_rfl) ((k:Int)+1) rfl (by omega) (by omega) _) ?_
  exact mK KL4 (hKL4 _ _ ⟨ns.length-(k+1),_,(by omega),(k+1),(by omega),rfl,pM,h11.sel [] [0,1] (by kernel_rfl) rfl rfl⟩)
 refine mX 12 (.bool false) (Value.bool (decide ((k:Int)<(ns.length:Int)))) (by simp;omega) ?_
 refine mL (fun mM xX aA wL=>∃ (k:Nat),(k<=l.length)/\mM=l.length-k/\aA=patch xX 32 [(19,(Value.slice B l.length d)),(20,(Value.int .i64 ((l.length:Int)))),(21,(Value.int .i64 ((k:Int))))]/\Hp (fun _=>False) w wL [rRV 1 B d ((l.map fun x=>[Value.int .i64 x])),rRV 1 A c ((ns.map fun x=>[Value.string x]))] []) ⟨_,_,0,(by omega),rfl,pM,h4.sel [] [0,1] (by kernel_rfl) rfl rfl⟩ ?_
 rintro _ x15 _ w15 ⟨k,hk,rfl,rfl,h15⟩ KL15 hKL15
 refine mAt ?_
 by_cases b17:k<l.length
 ·
  refine mX 22 (.bool true) (Value.bool (decide ((k:Int)<(l.length:Int)))) (by simp;omega) ?_
  obtain ⟨p,hp⟩:∃ p,l[k]?=some p:=⟨_,List.getElem?_eq_getElem (by omega)⟩
  obtain ⟨hq1,hq2⟩:¬ p<0/\¬ p>1099511627776:=by have hq:=hls p (List.mem_of_getElem? hp);unfold inN at hq;simp at hq;omega
  refine mW 23 (eIx (RV.lenIs (n:=l.length) (h15.rd 0 rfl) (by simp)).2 k l.length (RV.lenIs (n:=l.length) (h15.rd 0 rfl) (by simp)).1 (by omega) 278 (.tmp 19) (.tmp 21) .i64 2) ?_
  refine mW 24 (eEl (RV.lenIs (n:=l.length) (h15.rd 0 rfl) (by simp)).2 k 0 ([(Value.int .i64 p)]) (inl_get hp) 2 (.tmp 23) (Value.int .i64 p)) ?_
  refine mX 26 (.bool false) (Value.bool (decide (p<0))) (by simp;omega) ?_
  refine mX 29 (.bool false) (Value.bool (decide (p>1099511627776))) (by simp;omega) ?_
  refine mW 31 (exec_add _ _ _ _ bO ((k:Int)) 1 (by kernel_rfl) (by kernel_rfl) ((k:Int)+1) rfl (by omega) (by omega) _) ?_
  exact mK KL15 (hKL15 _ _ ⟨l.length-(k+1),_,(by omega),(k+1),(by omega),rfl,pM,h15.sel [] [0,1] (by kernel_rfl) rfl rfl⟩)
 refine mX 22 (.bool false) (Value.bool (decide ((k:Int)<(l.length:Int)))) (by simp;omega) ?_
 exact mQ h15
end
section
open Go.Value renaming int->iV,slice->lV,string->sV,bool->bV,agg->aV
open Go.RowKit Go.QT
theorem rv_strs{w:World}{g:Nat}{T:TypeId}{cs:List Value}(hb:Blk w g T cs)(l:List ByteArray)(hc:cs=l.map sV)(hl:l.length<=1000):RV w 1 (some ⟨g,0,none⟩) l.length (l.map fun x=>[sV x]):=by
 subst hc
 refine ⟨by simp,by unfold maxLen;omega,by simp,fun _=>⟨g,0,rfl,hb.lt,fun i x hx j u hu=>?_⟩⟩
 rw [List.getElem?_map] at hx
 cases h:l[i]? with
 | none=>rw [h] at hx;cases hx
 | some y =>
   rw [h] at hx
   injection hx with hx
   subst hx
   have hj:j=0:=by have:=(List.getElem?_eq_some_iff.1 hu).1;simpa using this
   subst hj
   rw [show 0+i*1+0=i by omega]
   refine (hb.cell _).trans ?_
   rw [List.getElem?_map,h]
   exact hu
section
variable{o:Oper}{a:Act}{F0:Nat->Prop}{w0 w:World}{ro rs:List Res}
theorem x_mright(h:Hp F0 w0 w ro rs)(i j:Nat){g g':Nat}{T T':TypeId}{cs ds:List Value}(hi:rs[i]?=some (rBlk g T cs))(hj:rs[j]?=some (rBlk g' T' ds))(ns:List ByteArray)(l:List Int)(n m:Nat)(hc:cs=ns.map sV)(hd:ds=l.map (iV .i64))(hn:ns.length=n)(hm:l.length=m)(hn2:n<=1000)(hm2:m<=1000)
   (hns:∀ s ∈ ns,rightN s=true/\s.size<=1000000000) (hls:∀ x ∈ l,inN x=true) (hp:pureVal Tryz.prog (execOp a.eval o)=some (.enter 98 #[.slice (some ⟨g,0,none⟩) n n,.slice (some ⟨g',0,none⟩) m m])) :
   OpTo Tryz.prog o a w (fun u w'=>u=.bool true/\Hp F0 w0 w' ro rs):=by
 subst hn;subst hm
 exact x_dp h _ [_,_] hp (mright_any ns l _ _ _ _ w hn2 hm2 hns hls (rv_strs (h.own i _ hi) ns hc hn2) (rv_ints (h.own j _ hj) l hd hm2))
end
theorem mtick0_any(A:Option Addr)(c:Nat)(w:World):Calls Tryz.prog 100 #[.slice A 0 c] w (MvPost w (.mk 2 0 0 [] [])):=by
 have h0:=Hp.nil (fun _=>False) w
 refine mE 36 ?_
 refine mN h0 196 ([zO,zO,(iV .u64 0),zN,zN]) fun g2 w2 h2=>?_
 refine mD h2 [zO,zN] (dseq_any 0 none 0 0 _) (fun w4 h4=>?_)
 refine mN h4 196 ([zO,zO,(iV .u64 0),zN,zN]) fun g5 w5 h5=>?_
 refine mT (xR h5 0 ([(zD 2),zO,(iV .u64 0),zN,zN])) fun _ w6 h6=>?_
 refine mL (fun mM xX aA wL=>∃ (zz:Nat),mM=zz/\aA=patch xX 36 [(0,(lV A 0 c)),(2,(pt g2 0)),(4,(pt g5 0)),(10,(lV A 0 c)),(11,zO),(12,zO)]/\Hp (fun _=>False) w wL [] [rBlk g5 196 ([(zD 2),zO,(iV .u64 0),zN,zN]),rBlk g2 196 ([zO,zO,(iV .u64 0),zN,zN])]) ⟨_,_,0,rfl,pM,h6.sel [0,1] [] (by kernel_rfl) rfl rfl⟩ ?_
 rintro _ x9 _ w9 ⟨zz,rfl,rfl,h9⟩ KL9 hKL9
 refine mAt ?_
 refine ma h9 0 ?_
 refine mT (xR h9 1 ([(zD 2),zO,(iV .u64 0),zN,zN])) fun _ w13 h13=>?_
 refine mF (post_2 (r:=.cell 2 196) (s:=.tmp 3) (by kernel_rfl) rfl (rce (h13.at_ 1 rfl)) (rtm zI) ?_)
 exact mv_nil h13 0
theorem mtick1_any{s:ByteArray}{b:Bytes}{A B:Option Addr}{c d:Nat}{w:World}(hA:RV w 2 A c [[.string s,.slice B b.length d]])(hb:SB w (.slice B b.length d) b)(hl:limTh (.ticket s b))(hr:rightN s=true):Calls Tryz.prog 100 #[.slice A 1 c] w (MvPost w (.mk 2 0 0 [] [valD (.ticket s b)])):=by
 have hrt:rightTh (.ticket s b)=true:=by show rightM s []=true;unfold rightM;rw [hr];rfl
 have h0:=(Hp.ro1 (rRV 2 A c [[.string s,.slice B b.length d]]) hA).addR (rSB (.slice B b.length d) b) hb (by simp)
 refine mE 36 ?_
 refine mN h0 196 ([zO,zO,(iV .u64 0),zN,zN]) fun g2 w2 h2=>?_
 refine mD h2 [zO,zN] (dseq_any 0 none 0 0 _) (fun w4 h4=>?_)
 refine mN h4 196 ([zO,zO,(iV .u64 0),zN,zN]) fun g5 w5 h5=>?_
 refine mT (xR h5 0 ([(zD 2),zO,(iV .u64 0),zN,zN])) fun _ w6 h6=>?_
 refine mL (fun mM xX aA wL=>(mM=1/\aA=patch xX 36 [(0,(lV A 1 c)),(2,(pt g2 0)),(3,zV),(4,(pt g5 0)),(10,(lV A 1 c)),(11,(zD 1)),(12,zO)]/\Hp (fun _=>False) w wL [rSB ((lV B b.length d)) b,rRV 2 A c ([[.string s,.slice B b.length d]])] [rBlk g5 196 ([(zD 2),zO,(iV .u64 0),zN,zN]),rBlk g2 196 ([zO,zO,(iV .u64 0),zN,zN])])∨(∃ (gU9_00:Nat) (gU9_01:Nat) (gU9_02:Nat) (gU9_03:Nat) (nU9_04:Nat) (AU9_05:Option Addr) (cU9_06:Nat) (FU9_07:Nat->Prop),mM=0/\aA=patch xX 36 [(0,(lV A 1 c)),(2,(pt g2 0)),(3,zV),(4,(pt g5 0)),(6,(pt gU9_00 0)),(7,(pt gU9_01 0)),(8,zI),(10,(lV A 1 c)),(11,(zD 1)),(12,(zD 1)),(13,zI),(23,zV)]/\Hp (fun _=>False) w wL [rSB ((lV B b.length d)) b,rRV 2 A c ([[.string s,.slice B b.length d]])] [rBlk gU9_02 196 ([(zD 2),(zD ((tagTh (.ticket s b):Int))),(iV .u64 0),zN,(lV (some ⟨gU9_03,0,none⟩) nU9_04 nU9_04)]),rOV 196 5 ((lV AU9_05 1 cU9_06)) ([[(zD 2),(zD ((tagTh (.ticket s b):Int))),(iV .u64 0),zN,(lV (some ⟨gU9_03,0,none⟩) nU9_04 nU9_04)]]),rBlk gU9_01 196 ([(zD 2),(zD ((tagTh (.ticket s b):Int))),(iV .u64 0),zN,(lV (some ⟨gU9_03,0,none⟩) nU9_04 nU9_04)]),rDV FU9_07 [(zD 2),(zD ((tagTh (.ticket s b):Int))),(iV .u64 0),zN,(lV (some ⟨gU9_03,0,none⟩) nU9_04 nU9_04)] (valD (.ticket s b)),rBlk gU9_00 39 ([(sV s),(lV B b.length d)]),rBlk g5 196 ([(zD 2),zO,(iV .u64 0),zN,(lV AU9_05 1 cU9_06)]),rBlk g2 196 ([zO,zO,(iV .u64 0),zN,zN])])) ⟨_,_,.inl ⟨rfl,pM,h6⟩⟩ ?_
 rintro _ x10 _ w10 (⟨rfl,rfl,h10⟩|⟨gU9_00,gU9_01,gU9_02,gU9_03,nU9_04,AU9_05,cU9_06,FU9_07,rfl,rfl,h10⟩) KL10 hKL10
 ·
  refine mAt ?_
  refine mW 14 (eIx (RV.lenIs (n:=1) (h10.rd 1 rfl) rfl).2 0 1 (RV.lenIs (n:=1) (h10.rd 1 rfl) rfl).1 (by decide) 56 (.tmp 10) (.tmp 12) .i64 39) ?_
  refine mW 15 (e_elemsN (RV.lenIs (n:=1) (h10.rd 1 rfl) rfl).2 0 0 ([(sV s),(lV B b.length d)]) rfl 39 (.tmp 14) (by kernel_rfl) ([(sV s),(lV B b.length d)]) (by kernel_rfl) (by kernel_rfl) (by kernel_rfl)) ?_
  refine mN h10 39 ([zE,zN]) fun g15 w15 h15=>?_
  refine mT (xR h15 0 ([(sV s),(lV B b.length d)])) fun _ w16 h16=>?_
  refine ma h16 0 ?_
  refine mT (x_mval h16 (t:=.ticket s b) hrt ⟨B,d,rfl,rsg_of (h16.rd 0 rfl)⟩ hl (by kernel_rfl)) ?_
  rintro _ w18 ⟨F18,g18,n18,rfl,h18⟩
  refine mN h18 196 ([zO,zO,(iV .u64 0),zN,zN]) fun g19 w19 h19=>?_
  refine mT (xR h19 0 ([(zD 2),(zD ((tagTh (.ticket s b):Int))),(iV .u64 0),zN,(lV (some ⟨g18,0,none⟩) n18 n18)])) fun _ w20 h20=>?_
  have h23:=h20.ovNil 196 5
  refine ma h23 4 ?_
  refine ma h23 1 ?_
  refine mT (x_bs h23 196 ([(zD 2),(zD ((tagTh (.ticket s b):Int))),(iV .u64 0),zN,(lV (some ⟨g18,0,none⟩) n18 n18)]) 1 (by kernel_rfl)) ?_
  rintro _ w24 ⟨g24,rfl,h24⟩
  refine mT (xPu h24 1 0 rfl rfl (.tmp 26) (.tmp 28) 194 72 (aV ([zO,zO,(iV .u64 0),zN,zN]).toArray) (by decide) (by decide) ([[(zD 2),(zD ((tagTh (.ticket s b):Int))),(iV .u64 0),zN,(lV (some ⟨g18,0,none⟩) n18 n18)]]) (1)) ?_
  rintro _ w25 ⟨A25,c25,rfl,h25⟩
  refine mT (xS h25 5 ([(zD 2),zO,(iV .u64 0),zN,(lV A25 1 c25)])) fun _ w26 h26=>?_
  exact mK KL10 (hKL10 _ _ ⟨0,_,(by decide),.inr (⟨g15,g19,g24,g18,n18,A25,c25,F18,rfl,pM,h26.sel [0,1,2,3,4,5,6] [0,1] (by kernel_rfl) rfl rfl⟩)⟩)
 refine mAt ?_
 refine ma h10 5 ?_
 refine mT (xR h10 6 ([(zD 2),zO,(iV .u64 0),zN,(lV AU9_05 1 cU9_06)])) fun _ w30 h30=>?_
 refine mF (post_2 (r:=.cell 2 196) (s:=.tmp 3) (by kernel_rfl) rfl (rce (h30.at_ 6 rfl)) (rtm zI) ?_)
 exact mv_ov h30 1 rfl (.cons (dvr_dv h30 3 rfl) .nil) rfl
theorem mtick_any{xs:List Xt}{E:Option Addr}{ce:Nat}{w:World}(h:(rXt E ce xs).Φ w)(hx:okXt xs):Calls Tryz.prog 100 #[.slice E xs.length ce] w (MvPost w (.mk 2 0 0 [] ((xs.map Xt.th).map valD))):=by
 match xs,h,hx with
 | [],_,_=>exact mtick0_any E ce w
 | [x],h,hx=>exact mtick1_any h.1 (h.2 x (by simp)) (hx.2 x (by simp)).2 (hx.2 x (by simp)).1
 | _::_::_,_,hx=>exact absurd hx.1 (by simp)
end
section
open Go.RowKit Go.QT
theorem vTgs_any{s ts:ByteArray}{n t:Int}{r m:Bool}{tb ab:Bytes}{xs:List Xt}{C D E:Option Addr}{cc cd ce:Nat}{w:World}(hb:SB w (.slice C tb.length cc) tb)(ha:SB w (.slice D ab.length cd) ab)(hE:(rXt E ce xs).Φ w)(hx:okXt xs)
   (hs:rightN s=true) (hsl:s.size<=1000000) (hn:inN n=true) (ht:inN t=true) (hl:limTh (.ticket ts tb)) (hts:rightN ts=true) (hal:ab.length<=1000000) :
   Calls Tryz.prog 72 #[.iface 58 (.agg #[.string s,.int .i64 n,.int .i64 t,.bool r,.bool m,.string ts,.slice C tb.length cc,.slice D ab.length cd,.slice E xs.length ce])] w (MvPost w (tgsD s n t r m (.ticket ts tb) ab (xs.map Xt.th))):=by
 have hrt:rightTh (.ticket ts tb)=true:=by show rightM ts []=true;unfold rightM;rw [hts];rfl
 have h0:=((Hp.ro1 (rSB (.slice C tb.length cc) tb) hb).addR (rSB (.slice D ab.length cd) ab) ha (by simp)).addR (rXt E ce xs) hE (by simp)
 refine mE 397 ?_
 refine mN h0 196 ([(Value.int .i64 0),(Value.int .i64 0),(Value.int .u64 0),(Value.slice none 0 0),(Value.slice none 0 0)]) fun g2 w2 h2=>?_
 refine mN h2 58 ([(Value.string ByteArray.empty),(Value.int .i64 0),(Value.int .i64 0),(Value.bool false),(Value.bool false),(Value.string ByteArray.empty),(Value.slice none 0 0),(Value.slice none 0 0),(Value.slice none 0 0)]) fun g9 w9 h9=>?_
 refine mT (xR h9 0 ([(Value.string s),(Value.int .i64 n),(Value.int .i64 t),(Value.bool r),(Value.bool m),(Value.string ts),(Value.slice C tb.length cc),(Value.slice D ab.length cd),(Value.slice E xs.length ce)])) fun _ w10 h10=>?_
 refine ma h10 0 ?_
 refine mT (x_mval h10 (t:=.ticket ts tb) hrt ⟨C,cc,rfl,rsg_of (h10.rd 2 rfl)⟩ hl (by kernel_rfl)) ?_
 rintro _ w12 ⟨F12,g12,n12,rfl,h12⟩
 refine mN h12 196 ([(Value.int .i64 0),(Value.int .i64 0),(Value.int .u64 0),(Value.slice none 0 0),(Value.slice none 0 0)]) fun g13 w13 h13=>?_
 refine mT (xR h13 0 ([(Value.int .i64 2),(Value.int .i64 ((tagTh (.ticket ts tb):Int))),(Value.int .u64 0),(Value.slice none 0 0),(Value.slice (some ⟨g12,0,none⟩) n12 n12)])) fun _ w14 h14=>?_
 refine ma h14 2 ?_
 refine mT (x_mv h14 100 [(Value.slice E xs.length ce)] (by kernel_rfl) (mtick_any (h14.rd 0 rfl) hx)) ?_
 rintro _ w16 ⟨F16,A16,c16,rfl,h16⟩
 refine mN h16 196 ([(Value.int .i64 0),(Value.int .i64 0),(Value.int .u64 0),(Value.slice none 0 0),(Value.slice none 0 0)]) fun g17 w17 h17=>?_
 refine mT (xR h17 0 ([(Value.int .i64 2),(Value.int .i64 0),(Value.int .u64 0),(Value.slice none 0 0),(Value.slice A16 (((xs.map Xt.th).map valD).length) c16)])) fun _ w18 h18=>?_
 refine dG h18 39 38 (fun W=>(rBlk g9 58 ([(Value.string s),(Value.int .i64 n),(Value.int .i64 t),(Value.bool r),(Value.bool m),(Value.string ts),(Value.slice C tb.length cc),(Value.slice D ab.length cd),(Value.slice E xs.length ce)])).Φ W/\(rBlk g13 196 ([(Value.int .i64 2),(Value.int .i64 ((tagTh (.ticket ts tb):Int))),(Value.int .u64 0),(Value.slice none 0 0),(Value.slice (some ⟨g12,0,none⟩) n12 n12)])).Φ W/\(rBlk g17 196 ([(Value.int .i64 2),(Value.int .i64 0),(Value.int .u64 0),(Value.slice none 0 0),(Value.slice A16 (((xs.map Xt.th).map valD).length) c16)])).Φ W/\True) (fun w20 h20=>⟨h20.at_ 4 rfl,h20.at_ 2 rfl,h20.at_ 0 rfl,trivial⟩) ?_
 intro w20 h20
 refine dP 32 [0,3,6,9,12,16,22] ?_
 refine dLs 27 [1,4,7,10,13] (fun W hW=>hW.1) ?_
 refine dL 15 (fun W hW=>hW.2.1) ?_
 refine dL 17 (fun W hW=>hW.1) ?_
 refine dL 19 (fun W hW=>hW.2.2.1) ?_
 refine dT 2 (x_rawT h20 95 [(Value.string s)] (by kernel_rfl) (mtext_any s _ (by omega))) ?_
 rintro _ w21 ⟨A21,c21,rfl,h21,_⟩
 refine ⟨⟨h21.at_ 5 rfl,h21.at_ 3 rfl,h21.at_ 1 rfl,trivial⟩,?_⟩
 refine dD 5 h21 [(Value.int .i64 n)] (mnum_any n _) (fun w22 h22=>⟨⟨h22.at_ 5 rfl,h22.at_ 3 rfl,h22.at_ 1 rfl,trivial⟩,?_⟩)
 refine dD 8 h22 [(Value.int .i64 t)] (mnum_any t _) (fun w23 h23=>⟨⟨h23.at_ 5 rfl,h23.at_ 3 rfl,h23.at_ 1 rfl,trivial⟩,?_⟩)
 refine dD 11 h23 [(Value.bool r)] (mtruth_any r _) (fun w24 h24=>⟨⟨h24.at_ 5 rfl,h24.at_ 3 rfl,h24.at_ 1 rfl,trivial⟩,?_⟩)
 refine dD 14 h24 [(Value.bool m)] (mtruth_any m _) (fun w25 h25=>⟨⟨h25.at_ 5 rfl,h25.at_ 3 rfl,h25.at_ 1 rfl,trivial⟩,?_⟩)
 refine dT 18 (x_rawT h25 97 [(Value.slice D ab.length cd)] (by kernel_rfl) (draw_any (Value.slice D ab.length cd) ab _ (h25.rd 1 rfl) (by omega))) ?_
 rintro _ w26 ⟨A26,c26,rfl,h26,_⟩
 refine ⟨⟨h26.at_ 6 rfl,h26.at_ 4 rfl,h26.at_ 2 rfl,trivial⟩,?_⟩
 refine dT 20 (x_bs h26 196 ([(Value.int .i64 1),(Value.int .i64 0),(Value.int .u64 0),(Value.slice A21 s.data.toList.length c21),(Value.slice none 0 0),(Value.int .i64 0),(Value.int .i64 0),(Value.int .u64 ((IntKind.u64.wrap n))),(Value.slice none 0 0),(Value.slice none 0 0),(Value.int .i64 0),(Value.int .i64 0),(Value.int .u64 ((IntKind.u64.wrap t))),(Value.slice none 0 0),(Value.slice none 0 0),(Value.int .i64 0),(Value.int .i64 0),(Value.int .u64 ((IntKind.u64.wrap ((r.toNat:Nat):Int)))),(Value.slice none 0 0),(Value.slice none 0 0),(Value.int .i64 0),(Value.int .i64 0),(Value.int .u64 ((IntKind.u64.wrap ((m.toNat:Nat):Int)))),(Value.slice none 0 0),(Value.slice none 0 0),(Value.int .i64 2),(Value.int .i64 ((tagTh (.ticket ts tb):Int))),(Value.int .u64 0),(Value.slice none 0 0),(Value.slice (some ⟨g12,0,none⟩) n12 n12),(Value.int .i64 1),(Value.int .i64 0),(Value.int .u64 0),(Value.slice A26 ab.length c26),(Value.slice none 0 0),(Value.int .i64 2),(Value.int .i64 0),(Value.int .u64 0),(Value.slice none 0 0),(Value.slice A16 (((xs.map Xt.th).map valD).length) c16)]) 8 (by kernel_rfl)) ?_
 rintro _ w27 ⟨g27,rfl,h27⟩
 refine ⟨⟨h27.at_ 7 rfl,h27.at_ 5 rfl,h27.at_ 3 rfl,trivial⟩,?_⟩
 refine dD 21 h27 [(Value.int .i64 13),(Value.slice (some ⟨g27,0,none⟩) 8 8)] (dseq_any 13 (some ⟨g27,0,none⟩) 8 8 _) (fun w28 h28=>⟨⟨h28.at_ 7 rfl,h28.at_ 5 rfl,h28.at_ 3 rfl,trivial⟩,?_⟩)
 refine dP 9 [23,24,25,26,27,30,32] ?_
 refine dLs 6 [28,31,33] (fun W hW=>hW.1) ?_
 refine dO 29 34 ?_ ?_
 ·
  refine oT (x_bs h28 9 ([(Value.string s)]) 1 (by kernel_rfl)) ?_
  rintro _ w29 ⟨g29,rfl,h29⟩
  refine ⟨⟨h29.at_ 8 rfl,h29.at_ 6 rfl,h29.at_ 4 rfl,trivial⟩,?_⟩
  refine dT 34 (x_bs h29 2 ([(Value.int .i64 n),(Value.int .i64 t)]) 2 (by kernel_rfl)) ?_
  rintro _ w30 ⟨g30,rfl,h30⟩
  refine ⟨⟨h30.at_ 9 rfl,h30.at_ 7 rfl,h30.at_ 5 rfl,trivial⟩,?_⟩
  refine dT 35 (x_mright h30 1 0 rfl rfl [s] [n,t] 1 2 rfl rfl rfl rfl (by decide) (by decide) (by simp;exact ⟨hs,by omega⟩) (by simp;exact ⟨hn,ht⟩) (by kernel_rfl)) ?_
  rintro _ w31 ⟨rfl,h31⟩
  refine ⟨⟨h31.at_ 9 rfl,h31.at_ 7 rfl,h31.at_ 5 rfl,trivial⟩,?_⟩
  refine dP 2 [36] ?_
  refine dT 37 (xR h31 10 ([(Value.int .i64 2),(Value.int .i64 13),(Value.int .u64 0),(Value.slice none 0 0),(Value.slice (some ⟨g27,0,none⟩) 8 8)])) ?_
  rintro _ w32 h32
  refine ⟨⟨h32.at_ 9 rfl,h32.at_ 7 rfl,h32.at_ 5 rfl,trivial⟩,?_⟩
  refine dN 38 ?_
  refine dX ?_
  refine mF (post_2 (r:=.cell 2 196) (s:=.tmp 3) (by kernel_rfl) rfl (rce (h32.at_ 10 rfl)) (rtm (Value.bool true)) ?_)
  exact mv_of h32 2 rfl rfl (.cons (dvr_sb h32 4 rfl) (.cons (dvr_num hn) (.cons (dvr_num ht) (.cons (dvr_num (inN_bool r)) (.cons (dvr_num (inN_bool m)) (.cons (dvr_dv h32 8 rfl) (.cons (dvr_sb h32 3 rfl) (.cons (dvr_dv h32 6 rfl) .nil)))))))) rfl (by decide)
 refine oT (x_bs h28 2 ([(Value.int .i64 n),(Value.int .i64 t)]) 2 (by kernel_rfl)) ?_
 rintro _ w33 ⟨g33,rfl,h33⟩
 refine ⟨⟨h33.at_ 8 rfl,h33.at_ 6 rfl,h33.at_ 4 rfl,trivial⟩,?_⟩
 refine dT 29 (x_bs h33 9 ([(Value.string s)]) 1 (by kernel_rfl)) ?_
 rintro _ w34 ⟨g34,rfl,h34⟩
 refine ⟨⟨h34.at_ 9 rfl,h34.at_ 7 rfl,h34.at_ 5 rfl,trivial⟩,?_⟩
 refine dT 35 (x_mright h34 0 1 rfl rfl [s] [n,t] 1 2 rfl rfl rfl rfl (by decide) (by decide) (by simp;exact ⟨hs,by omega⟩) (by simp;exact ⟨hn,ht⟩) (by kernel_rfl)) ?_
 rintro _ w35 ⟨rfl,h35⟩
 refine ⟨⟨h35.at_ 9 rfl,h35.at_ 7 rfl,h35.at_ 5 rfl,trivial⟩,?_⟩
 refine dP 2 [36] ?_
 refine dT 37 (xR h35 10 ([(Value.int .i64 2),(Value.int .i64 13),(Value.int .u64 0),(Value.slice none 0 0),(Value.slice (some ⟨g27,0,none⟩) 8 8)])) ?_
 rintro _ w36 h36
 refine ⟨⟨h36.at_ 9 rfl,h36.at_ 7 rfl,h36.at_ 5 rfl,trivial⟩,?_⟩
 refine dN 38 ?_
 refine dX ?_
 refine mF (post_2 (r:=.cell 2 196) (s:=.tmp 3) (by kernel_rfl) rfl (rce (h36.at_ 10 rfl)) (rtm (Value.bool true)) ?_)
 exact mv_of h36 2 rfl rfl (.cons (dvr_sb h36 4 rfl) (.cons (dvr_num hn) (.cons (dvr_num ht) (.cons (dvr_num (inN_bool r)) (.cons (dvr_num (inN_bool m)) (.cons (dvr_dv h36 8 rfl) (.cons (dvr_sb h36 3 rfl) (.cons (dvr_dv h36 6 rfl) .nil)))))))) rfl (by decide)
theorem mwrite_any{x:Value}{v:DVal}{w:World}(hV:Calls Tryz.prog 72 #[x] w (MvPost w v))(hr:rightV v 1=true)(hn:(wrV v).length<=4096):Calls Tryz.prog 43 #[x] w (WrT w (wrV v)):=by
 have h0:=Hp.nil (fun _=>False) w
 refine mE 17 ?_
 refine mT (x_mv h0 72 [x] (by kernel_rfl) hV) ?_
 rintro _ w3 ⟨F3,A3,c3,rfl,h3⟩
 refine mN h3 196 ([(Value.int .i64 0),(Value.int .i64 0),(Value.int .u64 0),(Value.slice none 0 0),(Value.slice none 0 0)]) fun g4 w4 h4=>?_
 refine mT (xR h4 0 ([(Value.int .i64 2),(Value.int .i64 ((v.tag:Int))),(Value.int .u64 0),(Value.slice none 0 0),(Value.slice A3 v.l.length c3)])) fun _ w5 h5=>?_
 refine ma h5 0 ?_
 refine mT (x_wrT h5 73 [(Value.agg ([(Value.int .i64 2),(Value.int .i64 ((v.tag:Int))),(Value.int .u64 0),(Value.slice none 0 0),(Value.slice A3 v.l.length c3)]).toArray)] (by kernel_rfl) (Write_any _ _ _ _ (h5.at_ 1 rfl) hr hn)) ?_
 rintro _ w9 ⟨A9,c9,rfl,h9⟩
 refine mP (Value.tuple #[(Value.slice A9 ((wrV v).length) c9),(Value.int .i64 0)]) ?_
 exact ⟨_,_,rfl,h9.sel [0] [] rfl rfl rfl⟩
theorem tgsD_right{s:ByteArray}{n t:Int}{r m:Bool}{tk:Thing}{b:Bytes}{ex:List Thing}:rightV (tgsD s n t r m tk b ex) 1=true:=by
 have hv:∀ t d,d<=6->rightV (valD t) d=true:=by
   intro t d hd
   unfold valD
   rw [rightV,rightL_all]
   · have:d<=8:=by omega
     cases t <;> simp [tagTh,this]
   refine valL_all _ (fun n=>?_) (fun b=>?_) t
   · unfold nD;rw [rightV];simp;omega
   unfold bD;rw [rightV];simp;omega
 have hn:∀ n,rightV (nD n) 2=true:=rightV_nD
 unfold tgsD
 rw [rightV,rightL_all]
 · rfl
 intro x hx
 simp only [List.mem_cons,List.not_mem_nil,or_false] at hx
 rcases hx with rfl|rfl|rfl|rfl|rfl|rfl|rfl|rfl
 · exact rightV_bD _
 · exact hn _
 · exact hn _
 · exact hn _
 · exact hn _
 · exact hv _ _ (by omega)
 · exact rightV_bD _
 rw [rightV,rightL_all]
 · rfl
 intro y hy
 obtain ⟨z,_,rfl⟩:=List.mem_map.1 hy
 exact hv _ _ (by omega)
end
section
open Go.RowKit Go.QT
/-- What a sum leaves. -/
def SumPost(F:Nat->Prop)(tb:Nat)(s:STab)(b:Bytes)(w:World)(e:Ending)(w':World):Prop:=
 ∃ A c F',e=.returned (.slice A 16 c)/\Hp F w w' [] [rTab F' tb (s.digest b),rSB (.slice A 16 c) (mkB 100 (s.sumAt b+1))]
/-- A digest, as the call's own. -/
theorem x_digestS{o:Oper}{a:Act}{F0 F:Nat->Prop}{w0 w:World}{ro rs:List Res}{tb:Nat}{s:STab}(h:Hp F0 w0 w ro rs)(i:Nat)(hi:rs[i]?=some (rTab F tb s))(l:Bytes){bv:Value}(hp:pureVal Tryz.prog (execOp a.eval o)=some (.enter 161 #[pt tb 0,bv]))(hb:SB w bv l)(hl:l.length<=1000000)(hm:s.sums.length<1000000) :
   OpTo Tryz.prog o a w (fun u' w'=>∃ A c F',u'=.slice A 16 c/\Hp F0 w0 w' ro (rSB (.slice A 16 c) (mkB 100 (s.sumAt l+1))::rs.set i (rTab F' tb (s.digest l)))):=
 OpTo.enter 161 [pt tb 0,bv] hp (digest_any F tb s l bv w (h.own i _ hi) hb hl hm) fun e w' hq=>by
   obtain ⟨v,F',he,hsb,hT,h1,h2,hf,hn⟩:=hq
   obtain ⟨A,cc,rfl,hc1,hc2,hcell⟩:=hsb
   have hil:i<rs.length:=(List.getElem?_eq_some_iff.1 hi).1
   have hs:SB w' (.slice A (mkB 100 (s.sumAt l+1)).length cc) (mkB 100 (s.sumAt l+1)):=⟨A,cc,rfl,hc1,hc2,hcell⟩
   rw [mkB_len] at hs he hn
   refine ⟨_,he,A,cc,F',rfl,(h.upd i hi hf (rTab F' tb (s.digest l)) hT h1).addS (rSB (.slice A 16 cc) (mkB 100 (s.sumAt l+1))) hs (fun q hq=>.inr (Nat.le_trans h.fr.size (hn q hq.2).1)) (fun j t ht q h3 h4=>?_) (fun j t ht q h3 h4=>?_)⟩
   · by_cases e:j=i
     · subst e
       rw [List.getElem?_set_self hil] at ht
       injection ht with ht
       subst ht
       exact (hn q h3.2).2 h4
     rw [List.getElem?_set_ne (Ne.symm e)] at ht
     exact absurd (t.lt (h.own j t ht) q h4) (Nat.not_lt.2 (hn q h3.2).1)
   exact absurd (t.lt (h.red j t ht) q h4) (Nat.not_lt.2 (hn q h3.2).1)
theorem sumTgs_any{F:Nat->Prop}{tb:Nat}{st:STab}{s ts:ByteArray}{n t:Int}{r m:Bool}{tb_:Bytes}{xs:List Xt}{C D E:Option Addr}{cc an ca ce:Nat}{w:World}(hT:(rTab F tb st).Φ w)(hsm:st.sums.length<1000000)(hb:SB w (.slice C tb_.length cc) tb_)(hdb:(rSB (.slice C tb_.length cc) tb_).dj (rTab F tb st))
   (hE:(rXt E ce xs).Φ w) (hdE:(rXt E ce xs).dj (rTab F tb st)) (hx:okXt xs) (hs:rightN s=true) (hsl:s.size<=1000000) (hn:inN n=true) (ht:inN t=true) (hl:limTh (.ticket ts tb_)) (hts:rightN ts=true) (hlen:(wrV (tgsD s n t r m (.ticket ts tb_) [] (xs.map Xt.th))).length<=4096) :
   Calls Tryz.prog 26 #[(Value.iface 30 (pt tb 0)),.iface 58 (Value.agg ([(Value.string s),(Value.int .i64 n),(Value.int .i64 t),(Value.bool r),(Value.bool m),(Value.string ts),(Value.slice C tb_.length cc),(Value.slice D an ca),(Value.slice E xs.length ce)]).toArray)] w (SumPost F tb st (wrV (tgsD s n t r m (.ticket ts tb_) [] (xs.map Xt.th))) w):=by
 have h0:=((Hp.one (rTab F tb st) hT).addR (rSB (.slice C tb_.length cc) tb_) hb (fun j r hj=>by have:=sel1 hj;injection this with this;subst this;exact hdb)).addR (rXt E ce xs) hE (fun j r hj=>by have:=sel1 hj;injection this with this;subst this;exact hdE)
 refine mE 37 ?_
 refine mN h0 58 ([(Value.string ByteArray.empty),(Value.int .i64 0),(Value.int .i64 0),(Value.bool false),(Value.bool false),(Value.string ByteArray.empty),(Value.slice none 0 0),(Value.slice none 0 0),(Value.slice none 0 0)]) fun g6 w6 h6=>?_
 refine mT (xR h6 0 ([(Value.string s),(Value.int .i64 n),(Value.int .i64 t),(Value.bool r),(Value.bool m),(Value.string ts),(Value.slice C tb_.length cc),(Value.slice D an ca),(Value.slice E xs.length ce)])) fun _ w7 h7=>?_
 refine mT (xS h7 0 ([(Value.string s),(Value.int .i64 n),(Value.int .i64 t),(Value.bool r),(Value.bool m),(Value.string ts),(Value.slice C tb_.length cc),(Value.slice none 0 0),(Value.slice E xs.length ce)])) fun _ w9 h9=>?_
 refine ma h9 0 ?_
 refine mT (x_wrT h9 43 [(Value.iface 58 (Value.agg ([(Value.string s),(Value.int .i64 n),(Value.int .i64 t),(Value.bool r),(Value.bool m),(Value.string ts),(Value.slice C tb_.length cc),(Value.slice none 0 0),(Value.slice E xs.length ce)]).toArray))] (by kernel_rfl) (mwrite_any (vTgs_any (D:=none) (cd:=0) (ab:=[]) (h9.rd 1 rfl) (SB.nil _ 0 (by unfold maxLen;omega) none) (h9.rd 0 rfl) hx hs hsl hn ht hl hts (by decide)) tgsD_right hlen)) ?_
 rintro _ w11 ⟨A11,c11,rfl,h11⟩
 refine mT (x_digestS h11 2 rfl (wrV (tgsD s n t r m (.ticket ts tb_) [] (xs.map Xt.th))) (by kernel_rfl) (OB.sb (h11.at_ 0 rfl)) (by omega) hsm) ?_
 rintro _ w13 ⟨A13,c13,F13,rfl,h13⟩
 refine mP (Value.slice A13 16 c13) ?_
 exact ⟨_,_,_,rfl,h13.sel [3,0] [] rfl rfl rfl⟩
end
section
open Go.RowKit Go.QT
/-- Several things, as one. -/
def rStar(l:List Res):Res where
 F:=fun q=>∃ i r,l[i]?=some r/\r.F q
 Φ:=fun w=>(∀ (i:Nat) (r:Res),l[i]?=some r->r.Φ w)/\∀ (i j:Nat) (r s:Res),l[i]?=some r->l[j]?=some s->i≠j->r.dj s
 lt:=fun h q ⟨i,r,hi,hq⟩=>r.lt (h.1 i r hi) q hq
 keep:=fun h hs hk=>⟨fun i r hi=>r.keep (h.1 i r hi) hs fun q hq=>hk q ⟨i,r,hi,hq⟩,h.2⟩
section
variable{F0:Nat->Prop}{w0 w w':World}{ro rs l:List Res}
theorem Hp.oneStar{w:World}(h:(rStar l).Φ w):Hp (rStar l).F w w [] l:=
 ⟨Fr.refl _ _,h.1,fun i r hr q hq=>.inl ⟨i,r,hr,hq⟩,h.2,by simp,by simp⟩
theorem Hp.closeStar(h:Hp F0 w0 w ro (l++rs)):Hp F0 w0 w ro (rStar l::rs):=by
 have e1:∀ {i:Nat} {r:Res},l[i]?=some r->(l++rs)[i]?=some r:=fun {i r} hi=>by
   rw [List.getElem?_append_left (List.getElem?_eq_some_iff.1 hi).1];exact hi
 have e2:∀ {i:Nat} {r:Res},rs[i]?=some r->(l++rs)[l.length+i]?=some r:=fun {i r} hi=>by
   rw [List.getElem?_append_right (by omega),Nat.add_sub_cancel_left];exact hi
 have lt:∀ {i:Nat} {r:Res},l[i]?=some r->i<l.length:=fun hi=>(List.getElem?_eq_some_iff.1 hi).1
 refine ⟨h.fr,fun i r hi=>?_,fun i r hi q hq=>?_,fun i j r s hi hj hij=>?_,h.red,fun i j r s hi hj=>?_⟩
 · cases i with
   | zero=>injection hi with hi;subst hi;exact ⟨fun i r hr=>h.own i r (e1 hr),fun i j r s hr hs hij=>h.dis i j r s (e1 hr) (e1 hs) hij⟩
   | succ i=>exact h.own _ r (e2 hi)
 · cases i with
   | zero=>injection hi with hi;subst hi;obtain ⟨k,t,hk,ht⟩:=hq;exact h.mine k t (e1 hk) q ht
   | succ i=>exact h.mine _ r (e2 hi) q hq
 · cases i with
   | zero =>
     injection hi with hi;subst hi
     cases j with
     | zero=>exact absurd rfl hij
     | succ j=>exact fun q ⟨k,t,hk,ht⟩ h2=>h.dis k _ t s (e1 hk) (e2 hj) (by have:=lt hk;omega) q ht h2
   | succ i =>
     cases j with
     | zero=>injection hj with hj;subst hj;exact fun q h2 ⟨k,t,hk,ht⟩=>h.dis _ k r t (e2 hi) (e1 hk) (by have:=lt hk;omega) q h2 ht
     | succ j=>exact h.dis _ _ r s (e2 hi) (e2 hj) (by omega)
 cases j with
 | zero=>injection hj with hj;subst hj;exact fun q h2 ⟨k,t,hk,ht⟩=>h.rdis i k r t hi (e1 hk) q h2 ht
 | succ j=>exact h.rdis i _ r s hi (e2 hj)
variable{L L':List (Value × Bytes)}{v:Value}{b:Bytes}
end
end
section
open Go.RowKit Go.QT
structure User where
 name:ByteArray
 key:Fin 16->UInt8
 life:Int
 renew:Int
 mesh:Bool
def uC(u:User):List Value:=[Value.string u.name]++vb (kl u.key)++[Value.int .i64 u.life,Value.int .i64 u.renew,Value.bool u.mesh]
def cmpS(a b:ByteArray):Int:=Lib.compareBytes a.data.toList b.data.toList
theorem cmpB_eq:∀ l m:List UInt8,Lib.compareBytes l m=0->l=m
 | [],[],_=>rfl
 | [],_::_,h=>by simp [Lib.compareBytes] at h
 | _::_,[],h=>by simp [Lib.compareBytes] at h
 | x::l,y::m,h=>by
   unfold Lib.compareBytes at h
   split at h
   · cases h
   split at h
   · cases h
   rename_i h1 h2
   have e:x=y:=by
     have h1:=UInt8.not_lt.1 h1
     have h2:=UInt8.not_lt.1 h2
     exact UInt8.le_antisymm h2 h1
   rw [e,cmpB_eq l m h]
theorem cmpS_eq{a b:ByteArray}(h:cmpS a b=0):a=b:=by
 have:=cmpB_eq _ _ h
 obtain ⟨⟨l⟩⟩:=a
 obtain ⟨⟨m⟩⟩:=b
 simp at this
 rw [this]
/-- The name of the n-th one. -/
def nameAt(us:List User)(n:Nat):ByteArray:=(us[n]?.map (·.name)).getD ByteArray.empty
/-- slices.BinarySearchFunc, by names. -/
def bsGo(us:List User)(s:ByteArray):Nat->Nat->Nat->Nat
 | 0,lo,_=>lo
 | f+1,lo,hi=>if lo<hi then (if cmpS (nameAt us ((lo+hi) / 2)) s<0 then bsGo us s f ((lo+hi) / 2+1) hi else bsGo us s f lo ((lo+hi) / 2)) else lo
def placeI(us:List User)(s:ByteArray):Nat:=bsGo us s us.length 0 us.length
def placeB(us:List User)(s:ByteArray):Bool:=decide (placeI us s<us.length) && decide (cmpS (nameAt us (placeI us s)) s=0)
theorem bsGo_done(us:List User)(s:ByteArray){f lo hi:Nat}(h:¬ lo<hi):bsGo us s f lo hi=lo:=by
 cases f with
 | zero=>rfl
 | succ f=>unfold bsGo;rw [if_neg h]
theorem bsGo_more(us:List User)(s:ByteArray){f lo hi:Nat}(hf:hi-lo<=f):bsGo us s f lo hi=if lo<hi then (if cmpS (nameAt us ((lo+hi) / 2)) s<0 then bsGo us s (f-1) ((lo+hi) / 2+1) hi else bsGo us s (f-1) lo ((lo+hi) / 2)) else lo:=by
 cases f with
 | zero=>rw [if_neg (by omega)];rfl
 | succ f=>rfl
def lBs(bb:Nat)(A:Option Addr)(c:Nat)(us:List User):List Res:=[rBlk bb 271 [.slice A us.length c],rOV 208 20 (.slice A us.length c) (us.map uC)]
/-- All users, as one thing. -/
def rBs(G:Nat->Prop)(bb:Nat)(us:List User):Res where
 F:=G
 Φ:=fun w=>∃ A c,G=(rStar (lBs bb A c us)).F/\(rStar (lBs bb A c us)).Φ w
 lt:=fun ⟨_,_,hG,h⟩ q hq=>(rStar _).lt h q (hG ▸ hq)
 keep:=fun ⟨A,c,hG,h⟩ hs hk=>⟨A,c,hG,(rStar _).keep h hs fun q hq=>hk q (hG ▸ hq)⟩
section
variable{F0:Nat->Prop}{w0 w w':World}{ro rs:List Res}{G:Nat->Prop}{bb:Nat}{us:List User}{o:Oper}{a:Act}
theorem Hp.closeB{A:Option Addr}{c:Nat}(h:Hp F0 w0 w ro (lBs bb A c us++rs)):Hp F0 w0 w ro (rBs (rStar (lBs bb A c us)).F bb us::rs):=by
 have h1:=h.closeStar
 have h2:=h1.upd 0 rfl (Fr.refl _ _) (rBs (rStar (lBs bb A c us)).F bb us) ⟨A,c,rfl,h1.own 0 _ rfl⟩ (fun q hq=>.inl hq)
 exact h2
theorem bs_open(h:(rBs G bb us).Φ w):∃ A c,Blk w bb 271 [.slice A us.length c]/\(rOV 208 20 (.slice A us.length c) (us.map uC)).Φ w/\(∀ q,q=bb->G q)/\(∀ q,(rOV 208 20 (.slice A us.length c) (us.map uC)).F q->G q):=by
 obtain ⟨A,c,rfl,h2⟩:=h
 exact ⟨A,c,h2.1 0 _ rfl,h2.1 1 _ rfl,fun q hq=>⟨0,_,rfl,hq⟩,fun q hq=>⟨1,_,rfl,hq⟩⟩
/-- The comparison of two strings, as the run time has it. -/
theorem e_cmpx(x y:Operand)(ats:Array TypeId)(ho:o.op=.call { callee:=.value (.func 143),args:=#[x,y],argTypes:=ats })(s t:ByteArray)(hx:a.eval x=.string s)(hy:a.eval y=.string t)(W:World) :
   (execOp a.eval o).run Tryz.prog W=.ok (.value (.int .i64 (cmpS s t))) W:=by
 obtain ⟨dst,op,type,pos,after,guard⟩:=o
 simp only at ho
 subst ho
 rw [execOp_call_go]
 have e:(#[]++#[x,y].map a.eval++#[]:Array Value)=#[.string s,.string t]:=by simp [hx,hy]
 rw [e,run_callFunc_extern (e:=Extern.BytealgCompare.compare) Tryz.func143 (by kernel_rfl) (by kernel_rfl) (by kernel_rfl) (by kernel_rfl),Lib.run_compareString]
 rfl
end
end
section
open Go.RowKit Go.QT
section
variable{P:Program}{o:Oper}{a:Act}
theorem e_shr64(t t':TypeId)(x y:Operand)(ho:o.op=.binOp .shr t x y t')(m:Nat)(k:IntKind)(n:Nat)(hn:n<=8)(hx:a.eval x=.int .u64 (m:Int))(hy:a.eval y=.int k (n:Int))(r:Nat)(hr:r=m / 2 ^ n)(W:World) :
   (execOp a.eval o).run P W=.ok (.value (.int .u64 (r:Int))) W:=by
 subst hr
 have h3:(eqGuard .shr t x y (.int .u64 (m:Int)) (.int k (n:Int))).run P W=.ok () W:=by simp [eqGuard]
 have e:((m:Int)).fdiv (2 ^ n)=((m / 2 ^ n:Nat):Int):=by
   have h2:(2:Int) ^ n=((2 ^ n:Nat):Int):=by simp
   rw [h2,Int.fdiv_eq_ediv_of_nonneg _ (Int.natCast_nonneg _),← Int.natCast_ediv]
 have h4:(binOp .shr t (.int .u64 (m:Int)) (.int k (n:Int))).run P W=.ok (.int .u64 ((m / 2 ^ n:Nat):Int)) W:=by
   have hm:min ((n:Int)).toNat IntKind.u64.bits=n:=by
     show min ((n:Int)).toNat 64=n
     omega
   have h0:¬ ((n:Int)<0):=by omega
   unfold binOp Op.shift
   simp only [if_neg h0,hm,e,Sem.run_pure]
 unfold execOp
 simp only [ho,hx,hy,Sem.run_bind,h3,h4,Result.andThen_ok,Sem.run_pure]
theorem us_at{us:List User}{i:Nat}{u:User}(h:us[i]?=some u):(us.map uC)[i]?=some (uC u):=by rw [List.getElem?_map,h];rfl
end
theorem cmpx_any(s t:ByteArray)(w:World):Calls Tryz.prog 141 #[(Value.string s),(Value.string t)] w (DPost w (.int .i64 (cmpS s t))):=by
 have h0:=Hp.nil (fun _=>False) w
 refine mE 8 ?_
 refine mW 7 (e_cmpx (.tmp 5) (.tmp 6) #[9,9] (by kernel_rfl) s t (by kernel_rfl) (by kernel_rfl) _) ?_
 exact mQ h0
theorem cmps_any(s t:ByteArray)(w:World):Calls Tryz.prog 134 #[(Value.string s),(Value.string t)] w (DPost w (.int .i64 (cmpS s t))):=by
 have h0:=Hp.nil (fun _=>False) w
 refine mE 8 ?_
 refine mD h0 [(Value.string s),(Value.string t)] (cmpx_any s t _) (fun w3 h3=>?_)
 exact mQ h3
theorem cmpu_any(u:User)(t:ByteArray)(w:World):Calls Tryz.prog 133 #[(Value.agg ([(Value.string u.name)]++vb (kl u.key)++[(Value.int .i64 u.life),(Value.int .i64 u.renew),(Value.bool u.mesh)]).toArray),(Value.string t)] w (DPost w (.int .i64 (cmpS u.name t))):=by
 have h0:=Hp.nil (fun _=>False) w
 refine mE 9 ?_
 refine mN h0 208 ([(Value.string u.name)]++vb (kl u.key)++[(Value.int .i64 u.life),(Value.int .i64 u.renew),(Value.bool u.mesh)]) fun g2 w2 h2=>?_
 refine ma h2 0 ?_
 refine mD h2 [(Value.string u.name),(Value.string t)] (cmps_any u.name t _) (fun w4 h4=>?_)
 exact mQ h4
theorem search_any{us:List User}{s:ByteArray}{A:Option Addr}{c:Nat}{w:World}(hx:RV w 20 A c (us.map uC))(h32:us.length<=1000000):Calls Tryz.prog 132 #[(Value.slice A us.length c),(Value.string s),(Value.func (.func 133) #[] #[])] w (DPost w (.tuple #[.int .i64 (placeI us s:Int),.bool (placeB us s)])):=by
 have h0:=Hp.ro1 (rRV 20 A c (us.map uC)) hx
 refine mE 49 ?_
 refine mL (fun mM xX aA wL=>∃ (f:Nat) (lo:Nat) (hi:Nat),(lo<=hi)/\(hi<=us.length)/\(hi-lo<=f)/\(placeI us s=bsGo us s f lo hi)/\mM=hi-lo/\aA=patch xX 49 [(0,(Value.slice A us.length c)),(1,(Value.string s)),(2,(Value.func (.func 133) #[] #[])),(6,(Value.int .i64 0)),(7,(Value.bool false)),(8,(Value.int .i64 ((us.length:Int)))),(9,(Value.int .i64 ((lo:Int)))),(10,(Value.int .i64 ((hi:Int))))]/\Hp (fun _=>False) w wL [rRV 20 A c ((us.map uC))] []) ⟨_,_,us.length,0,us.length,(Nat.zero_le _),(Nat.le_refl _),(by omega),rfl,rfl,pM,h0.sel [] [0] (by kernel_rfl) rfl rfl⟩ ?_
 rintro _ x5 _ w5 ⟨f,lo,hi,hlo,hhi,hf,hinv,rfl,rfl,h5⟩ KL5 hKL5
 refine mAt ?_
 refine m_if 17 ((lo:Int)<(hi:Int)) (by kernel_rfl) (fun b8=>?_) (fun b8=>?_)
 ·
  have hlt:lo<hi:=by omega
  have hmore:=bsGo_more us s hf
  rw [if_pos hlt] at hmore
  obtain ⟨m,hm⟩:∃ m,m=(lo+hi) / 2:=⟨_,rfl⟩
  obtain ⟨u,hu⟩:∃ u,us[m]?=some u:=⟨_,List.getElem?_eq_getElem (by omega)⟩
  have hnm:nameAt us m=u.name:=by unfold nameAt;rw [hu];rfl
  rw [← hm,hnm] at hmore
  refine mW 20 (exec_add _ _ _ _ bO (lo:Int) (hi:Int) (by kernel_rfl) (by kernel_rfl) (((lo+hi:Nat):Int)) (by omega) (by omega) (by omega) _) ?_
  refine mX 21 (Value.int .u64 (((lo+hi:Nat):Int))) (Value.int .u64 (IntKind.u64.wrap ((lo+hi:Nat):Int))) (wrap_u64_is (by omega) (by omega)) ?_
  refine mW 22 (e_shr64 228 228 (.tmp 21) (.const (Value.int .u64 1)) (by kernel_rfl) (lo+hi) .u64 1 (by decide) (by kernel_rfl) (by kernel_rfl) m (by rw [hm]) _) ?_
  refine mX 23 (Value.int .i64 ((m:Int))) (Value.int .i64 (IntKind.i64.wrap (m:Int))) (i64_nat (by omega)) ?_
  refine mW 27 (eIx (RV.lenIs (n:=us.length) (h5.rd 0 rfl) (List.length_map _)).2 m us.length (RV.lenIs (n:=us.length) (h5.rd 0 rfl) (List.length_map _)).1 (by omega) 269 (.tmp 25) (.tmp 26) .i64 208) ?_
  refine mW 28 (e_elemsN (RV.lenIs (n:=us.length) (h5.rd 0 rfl) (List.length_map _)).2 m 0 ([(Value.string u.name)]++vb (kl u.key)++[(Value.int .i64 u.life),(Value.int .i64 u.renew),(Value.bool u.mesh)]) (us_at hu) 208 (.tmp 27) (by kernel_rfl) ([(Value.string u.name)]++vb (kl u.key)++[(Value.int .i64 u.life),(Value.int .i64 u.renew),(Value.bool u.mesh)]) (by kernel_rfl) (by kernel_rfl) (by kernel_rfl)) ?_
  refine mD h5 [(Value.agg ([(Value.string u.name)]++vb (kl u.key)++[(Value.int .i64 u.life),(Value.int .i64 u.renew),(Value.bool u.mesh)]).toArray),(Value.string s)] (cmpu_any u s _) (fun w11 h11=>?_)
  refine m_if 31 (cmpS u.name s<0) (by kernel_rfl) (fun b12=>?_) (fun b12=>?_)
  ·
   rw [if_pos (by omega)] at hmore
   have hn:=hinv.trans hmore
   refine mW 33 (exec_add _ _ _ _ bO (m:Int) 1 (by kernel_rfl) (by kernel_rfl) (((m+1:Nat):Int)) (by omega) (by omega) (by omega) _) ?_
   exact mK KL5 (hKL5 _ _ ⟨hi-(m+1),_,(by omega),((f-1)),((m+1)),hi,(by omega),(by omega),(by omega),hn,rfl,pM,h11.sel [] [0] (by kernel_rfl) rfl rfl⟩)
  rw [if_neg (by omega)] at hmore
  have hn:=hinv.trans hmore
  exact mK KL5 (hKL5 _ _ ⟨m-lo,_,(by omega),((f-1)),lo,m,(by omega),(by omega),(by omega),hn,rfl,pM,h11.sel [] [0] (by kernel_rfl) rfl rfl⟩)
 rcases Nat.lt_or_ge lo us.length with hl|hl
 ·
  have hpl:placeI us s=lo:=hinv.trans (bsGo_done us s (by omega))
  obtain ⟨u,hu⟩:∃ u,us[lo]?=some u:=⟨_,List.getElem?_eq_getElem hl⟩
  have hnm:nameAt us lo=u.name:=by unfold nameAt;rw [hu];rfl
  refine mX 38 (.bool true) (Value.bool (decide ((lo:Int)<(us.length:Int)))) (by simp;omega) ?_
  refine mW 43 (eIx (RV.lenIs (n:=us.length) (h5.rd 0 rfl) (List.length_map _)).2 lo us.length (RV.lenIs (n:=us.length) (h5.rd 0 rfl) (List.length_map _)).1 (by omega) 269 (.tmp 41) (.tmp 42) .i64 208) ?_
  refine mW 44 (e_elemsN (RV.lenIs (n:=us.length) (h5.rd 0 rfl) (List.length_map _)).2 lo 0 ([(Value.string u.name)]++vb (kl u.key)++[(Value.int .i64 u.life),(Value.int .i64 u.renew),(Value.bool u.mesh)]) (us_at hu) 208 (.tmp 43) (by kernel_rfl) ([(Value.string u.name)]++vb (kl u.key)++[(Value.int .i64 u.life),(Value.int .i64 u.renew),(Value.bool u.mesh)]) (by kernel_rfl) (by kernel_rfl) (by kernel_rfl)) ?_
  refine mD h5 [(Value.agg ([(Value.string u.name)]++vb (kl u.key)++[(Value.int .i64 u.life),(Value.int .i64 u.renew),(Value.bool u.mesh)]).toArray),(Value.string s)] (cmpu_any u s _) (fun w15 h15=>?_)
  refine mX 47 (Value.bool (placeB us s)) (Value.bool (cmpS u.name s == 0)) (congrArg Value.bool (by unfold placeB;rw [hpl,decide_eq_true hl,hnm,Bool.true_and];rfl)) ?_
  exact mQe (Value.tuple #[(Value.int .i64 ((lo:Int))),(Value.bool (placeB us s))]) h15 (by rw [hpl])
 have hpl:placeI us s=lo:=hinv.trans (bsGo_done us s (by omega))
 refine mX 38 (.bool false) (Value.bool (decide ((lo:Int)<(us.length:Int)))) (by simp;omega) ?_
 exact mQe (Value.tuple #[(Value.int .i64 ((lo:Int))),(Value.bool false)]) h5 (by rw [hpl,show placeB us s=false from by unfold placeB;rw [hpl,decide_eq_false (by omega)];rfl])
end
end Go.Proofs.YtaoijkhndakppaaGreat
