/- The walks of tick.Seal,tick.Open. -/
import Derived.Test.YtaoijkhndakppaaGreatCA11
set_option maxRecDepth 100000
set_option maxHeartbeats 4000000
namespace Go.Proofs.YtaoijkhndakppaaGreat
section
open Go.Value renaming int->iV,slice->lV,string->sV,bool->bV,agg->aV
open Go.RowKit Go.QT
theorem szv{fn:FuncId}{al:Array Value}{L:Bytes}{e m H:Nat}{w:World}(h:szB L=(e,m,H))(hd:Calls Tryz.prog fn al w (DPost w (.tuple #[.int .i64 ((szB L).2.1:Int),.int .i64 ((szB L).2.2:Int),.int .i64 ((szB L).1:Int)]))):Calls Tryz.prog fn al w (DPost w (.tuple #[.int .i64 (m:Int),.int .i64 (H:Int),.int .i64 (e:Int)])):=by rw [h] at hd;exact hd
theorem x_getNo{o:Oper}{a:Act}{w:World}{F0:Nat->Prop}{w0:World}{ro rs:List Res}(h:Hp F0 w0 w ro rs)(l:Bytes)(bv:Value)(hp:pureVal Tryz.prog (execOp a.eval o)=some (.enter 61 #[bv]))(hb:SB w bv l)(h0:l.length=0∨8<l.length) :
   OpTo Tryz.prog o a w (fun u w'=>u=.tuple #[.int .u64 0,.bool false]/\Hp F0 w0 w' ro rs):=
 OpTo.enter 61 [bv] hp (get_any bv l w hb) fun e w' hq=>by
   obtain ⟨he,m,rfl⟩:=hq
   rw [getP_no l h0] at he
   exact ⟨_,he,rfl,h.drewN m⟩
theorem pre_nil(r:Nat ⊕ List DVal):preL [] r=r:=by cases r <;> rfl
theorem readG_b{fn:FuncId}{al:Array Value}{w:World}{r:Nat ⊕ (DVal × Nat)}{c:Nat}(h:r=.inl c)(hd:Calls Tryz.prog fn al w (ReadG w r)):Calls Tryz.prog fn al w (DPost w (.tuple #[.agg #[.int .i64 0,.int .i64 0,.int .u64 0,.slice none 0 0,.slice none 0 0],.int .i64 0,.int .i64 (c:Int)])):=by subst h;exact hd
theorem readG_o{fn:FuncId}{al:Array Value}{w:World}{r:Nat ⊕ (DVal × Nat)}{v:DVal}{k:Nat}(h:r=.inr (v,k))(hd:Calls Tryz.prog fn al w (ReadG w r)):Calls Tryz.prog fn al w (ReadPost w v k):=by subst h;exact hd
theorem pt_bad{rd:Bytes->Nat ⊕ (DVal × Nat)}{t n f ee:Nat}{B l:Bytes}{ts:List DVal}(hinv:lsB rd B.length B=preL ts (lsB rd (f+1) l))(h0:l.length≠0)(hr:rd l=.inl ee):ptB rd 2 t B n=.inl ee:=by
 unfold ptB
 rw [if_neg (by decide),if_neg (by decide),hinv,lsB_bad h0 hr]
theorem pt_end{rd:Bytes->Nat ⊕ (DVal × Nat)}{t n f:Nat}{B l:Bytes}{ts:List DVal}(hinv:lsB rd B.length B=preL ts (lsB rd f l))(h0:l.length=0):ptB rd 2 t B n=.inr (.mk 2 t 0 [] ts,n):=by
 unfold ptB
 rw [if_neg (by decide),if_neg (by decide),hinv,lsB_end h0]
theorem rd_deep(d:Nat)(L:Bytes)(hd:8<d)(A:Option Addr)(c:Nat)(w:World)(hv:SB w (.slice A L.length c) L):Calls Tryz.prog 104 #[.slice A L.length c,.int .i64 (d:Int)] w (DPost w (.tuple #[.agg #[.int .i64 0,.int .i64 0,.int .u64 0,.slice none 0 0,.slice none 0 0],.int .i64 0,.int .i64 4])):=by
 have h0:=Hp.ro1 (rSB (.slice A L.length c) L) hv
 refine mE 114 ?_
 refine mN h0 196 ([zO,zO,(iV .u64 0),zN,zN]) fun g2 w2 h2=>?_
 refine mX 18 (.bool true) (bV (decide ((d:Int)>8))) (by simp;omega) ?_
 refine mT (xSs h2 0 196 (.tmp 4) (.tmp 19) 0 ([zO,zO,(iV .u64 0),zN,zN]) ([zO,zO,(iV .u64 0),zN,zN])) fun _ w6 h6=>?_
 refine mF (post_3 (r:=.cell 4 196) (s:=.tmp 5) (t:=.tmp 6) (by kernel_rfl) rfl (rce (h6.at_ 0 rfl)) (rtm zO) (rtm (zD 4)) ?_)
 exact ⟨rfl,h6.below0⟩
theorem rd_size(d:Nat)(L:Bytes)(hL:L.length<=900000)(hd:d<=8)(e m H:Nat)(hsz:szB L=(e,m,H))(he:e≠0)(A:Option Addr)(c:Nat)(w:World)(hv:SB w (.slice A L.length c) L):Calls Tryz.prog 104 #[.slice A L.length c,.int .i64 (d:Int)] w (DPost w (.tuple #[.agg #[.int .i64 0,.int .i64 0,.int .u64 0,.slice none 0 0,.slice none 0 0],.int .i64 0,.int .i64 (e:Int)])):=by
 have h0:=Hp.ro1 (rSB (.slice A L.length c) L) hv
 refine mE 114 ?_
 refine mN h0 196 ([zO,zO,(iV .u64 0),zN,zN]) fun g2 w2 h2=>?_
 refine mX 18 (.bool false) (bV (decide ((d:Int)>8))) (by simp;omega) ?_
 refine mD h2 [(lV A L.length c)] (szv hsz (size_all L hL A c _ (h2.rd 0 rfl))) (fun w6 h6=>?_)
 refine mX 27 (.bool true) (bV (((e:Int)) != 0)) (ine (b:=0) he) ?_
 refine mT (xSs h6 0 196 (.tmp 4) (.tmp 28) 0 ([zO,zO,(iV .u64 0),zN,zN]) ([zO,zO,(iV .u64 0),zN,zN])) fun _ w10 h10=>?_
 refine mF (post_3 (r:=.cell 4 196) (s:=.tmp 5) (t:=.tmp 6) (by kernel_rfl) rfl (rce (h10.at_ 0 rfl)) (rtm zO) (rtm (zD ((e:Int)))) ?_)
 exact ⟨rfl,h10.below0⟩
theorem rd_kind(d:Nat)(L:Bytes)(hL:L.length<=900000)(hd:d<=8)(t m H k:Nat)(hsz:szB L=(0,m,H))(h0:nb (gb L 0)=k*64+t)(ht:t<64)(h2:2<=H)(hlen:H+m<=L.length)(hk:2<k)(A:Option Addr)(c:Nat)(w:World)(hv:SB w (.slice A L.length c) L):Calls Tryz.prog 104 #[.slice A L.length c,.int .i64 (d:Int)] w (DPost w (.tuple #[.agg #[.int .i64 0,.int .i64 0,.int .u64 0,.slice none 0 0,.slice none 0 0],.int .i64 0,.int .i64 2])):=by
 have h256:=nb_lt (gb L 0)
 have hk0:nb (gb L 0) / 2 ^ 6=k:=by omega
 have ht0:nb (gb L 0) % 64=t:=by omega
 have h0:=Hp.ro1 (rSB (.slice A L.length c) L) hv
 refine mE 114 ?_
 refine mN h0 196 ([zO,zO,(iV .u64 0),zN,zN]) fun g2 w2 h2=>?_
 refine mX 18 (.bool false) (bV (decide ((d:Int)>8))) (by simp;omega) ?_
 refine mD h2 [(lV A L.length c)] (szv hsz (size_all L hL A c _ (h2.rd 0 rfl))) (fun w6 h6=>?_)
 refine dG h6 13 12 (fun W=>(rSB ((lV A L.length c)) L).Φ W/\True) (fun w10 h10=>⟨h10.rd 0 rfl,trivial⟩) ?_
 intro w10 h10
 refine dP 11 [0,5] ?_
 refine dV 1 (fun W hW=>eIx (SB.rvn (h10.rd 0 rfl)).2 0 L.length (SB.rvn (h10.rd 0 rfl)).1 (by omega) 25 (.tmp 30) (.const zO) .i64 5) ?_
 refine dV 6 (fun W hW=>eIx (SB.rvn (h10.rd 0 rfl)).2 0 L.length (SB.rvn (h10.rd 0 rfl)).1 (by omega) 25 (.tmp 35) (.const zO) .i64 5) ?_
 refine dV 2 (fun W hW=>eEl (SB.rvn hW.1).2 0 0 ([(iV .u8 (ub (gb (L) (0))))]) (bx_get _ _ (by omega)) 5 (.tmp 31) (iV .u8 (ub (gb (L) (0))))) ?_
 refine dV 3 (v:=(iV .u8 (((nb (gb L 0) / 2 ^ 6:Nat):Int)))) (fun W hW=>e_shr8 5 228 (.tmp 32) (.const (iV .u64 6)) (by kernel_rfl) (nb (gb L 0)) .u64 6 (by decide) (by rw [← ub_nb];kernel_rfl) (by kernel_rfl) h256 _) ?_
 refine dV 4 (v:=(zD ((k:Int)))) (fun W hW=>eqI (zD (IntKind.i64.wrap (((nb (gb L 0) / 2 ^ 6:Nat):Int)))) (by rw [hk0];exact i64_nat (by omega))) ?_
 refine dV 7 (fun W hW=>eEl (SB.rvn hW.1).2 0 0 ([(iV .u8 (ub (gb (L) (0))))]) (bx_get _ _ (by omega)) 5 (.tmp 36) (iV .u8 (ub (gb (L) (0))))) ?_
 refine dV 8 (v:=(iV .u8 (((nb (gb L 0) % 64:Nat):Int)))) (fun W hW=>eqI (iV .u8 (bits .and .u8 (ub (gb L 0)) 63)) (by rw [ub_nb,and63' h256])) ?_
 refine dV 9 (v:=(zD ((t:Int)))) (fun W hW=>eqI (zD (IntKind.i64.wrap (((nb (gb L 0) % 64:Nat):Int)))) (by rw [ht0];exact i64_nat (by omega))) ?_
 refine dP 2 [10] ?_
 refine dT 11 (xN h10 196 ([zO,zO,(iV .u64 0),zN,zN])) ?_
 rintro _ w11 ⟨g11,rfl,h11⟩
 refine ⟨⟨h11.rd 0 rfl,trivial⟩,?_⟩
 refine dE 12 (xSs h11 0 196 (.tmp 10) (.tmp 40) 0 ([(zD ((k:Int))),(zD ((t:Int))),(iV .u64 0),zN,zN]) ([(zD ((k:Int))),(zD ((t:Int))),(iV .u64 0),zN,zN])) ?_
 rintro _ w12 h12
 refine dX ?_
 refine ma h12 0 ?_
 refine mX 43 (.bool true) (bV (decide ((k:Int)>2))) (by simp;omega) ?_
 refine mT (xSs h12 1 196 (.tmp 4) (.tmp 49) 0 ([zO,zO,(iV .u64 0),zN,zN]) ([zO,zO,(iV .u64 0),zN,zN])) fun _ w16 h16=>?_
 refine mF (post_3 (r:=.cell 4 196) (s:=.tmp 5) (t:=.tmp 6) (by kernel_rfl) rfl (rce (h16.at_ 1 rfl)) (rtm zO) (rtm (zD 2)) ?_)
 exact ⟨rfl,h16.below0⟩
theorem rd_tag(d:Nat)(L:Bytes)(hL:L.length<=900000)(hd:d<=8)(t m H k:Nat)(hsz:szB L=(0,m,H))(h0:nb (gb L 0)=k*64+t)(ht:t<64)(h2:2<=H)(hlen:H+m<=L.length)(hk:k<=2)(ht2:30<t)(A:Option Addr)(c:Nat)(w:World)(hv:SB w (.slice A L.length c) L):Calls Tryz.prog 104 #[.slice A L.length c,.int .i64 (d:Int)] w (DPost w (.tuple #[.agg #[.int .i64 0,.int .i64 0,.int .u64 0,.slice none 0 0,.slice none 0 0],.int .i64 0,.int .i64 2])):=by
 have h256:=nb_lt (gb L 0)
 have hk0:nb (gb L 0) / 2 ^ 6=k:=by omega
 have ht0:nb (gb L 0) % 64=t:=by omega
 have h0:=Hp.ro1 (rSB (.slice A L.length c) L) hv
 refine mE 114 ?_
 refine mN h0 196 ([zO,zO,(iV .u64 0),zN,zN]) fun g2 w2 h2=>?_
 refine mX 18 (.bool false) (bV (decide ((d:Int)>8))) (by simp;omega) ?_
 refine mD h2 [(lV A L.length c)] (szv hsz (size_all L hL A c _ (h2.rd 0 rfl))) (fun w6 h6=>?_)
 refine dG h6 13 12 (fun W=>(rSB ((lV A L.length c)) L).Φ W/\True) (fun w10 h10=>⟨h10.rd 0 rfl,trivial⟩) ?_
 intro w10 h10
 refine dP 11 [0,5] ?_
 refine dV 1 (fun W hW=>eIx (SB.rvn (h10.rd 0 rfl)).2 0 L.length (SB.rvn (h10.rd 0 rfl)).1 (by omega) 25 (.tmp 30) (.const zO) .i64 5) ?_
 refine dV 6 (fun W hW=>eIx (SB.rvn (h10.rd 0 rfl)).2 0 L.length (SB.rvn (h10.rd 0 rfl)).1 (by omega) 25 (.tmp 35) (.const zO) .i64 5) ?_
 refine dV 2 (fun W hW=>eEl (SB.rvn hW.1).2 0 0 ([(iV .u8 (ub (gb (L) (0))))]) (bx_get _ _ (by omega)) 5 (.tmp 31) (iV .u8 (ub (gb (L) (0))))) ?_
 refine dV 3 (v:=(iV .u8 (((nb (gb L 0) / 2 ^ 6:Nat):Int)))) (fun W hW=>e_shr8 5 228 (.tmp 32) (.const (iV .u64 6)) (by kernel_rfl) (nb (gb L 0)) .u64 6 (by decide) (by rw [← ub_nb];kernel_rfl) (by kernel_rfl) h256 _) ?_
 refine dV 4 (v:=(zD ((k:Int)))) (fun W hW=>eqI (zD (IntKind.i64.wrap (((nb (gb L 0) / 2 ^ 6:Nat):Int)))) (by rw [hk0];exact i64_nat (by omega))) ?_
 refine dV 7 (fun W hW=>eEl (SB.rvn hW.1).2 0 0 ([(iV .u8 (ub (gb (L) (0))))]) (bx_get _ _ (by omega)) 5 (.tmp 36) (iV .u8 (ub (gb (L) (0))))) ?_
 refine dV 8 (v:=(iV .u8 (((nb (gb L 0) % 64:Nat):Int)))) (fun W hW=>eqI (iV .u8 (bits .and .u8 (ub (gb L 0)) 63)) (by rw [ub_nb,and63' h256])) ?_
 refine dV 9 (v:=(zD ((t:Int)))) (fun W hW=>eqI (zD (IntKind.i64.wrap (((nb (gb L 0) % 64:Nat):Int)))) (by rw [ht0];exact i64_nat (by omega))) ?_
 refine dP 2 [10] ?_
 refine dT 11 (xN h10 196 ([zO,zO,(iV .u64 0),zN,zN])) ?_
 rintro _ w11 ⟨g11,rfl,h11⟩
 refine ⟨⟨h11.rd 0 rfl,trivial⟩,?_⟩
 refine dE 12 (xSs h11 0 196 (.tmp 10) (.tmp 40) 0 ([(zD ((k:Int))),(zD ((t:Int))),(iV .u64 0),zN,zN]) ([(zD ((k:Int))),(zD ((t:Int))),(iV .u64 0),zN,zN])) ?_
 rintro _ w12 h12
 refine dX ?_
 refine ma h12 0 ?_
 refine mX 43 (.bool false) (bV (decide ((k:Int)>2))) (by simp;omega) ?_
 refine ma h12 0 ?_
 refine mX 47 (.bool true) (bV (decide ((t:Int)>30))) (by simp;omega) ?_
 refine mT (xSs h12 1 196 (.tmp 4) (.tmp 49) 0 ([zO,zO,(iV .u64 0),zN,zN]) ([zO,zO,(iV .u64 0),zN,zN])) fun _ w16 h16=>?_
 refine mF (post_3 (r:=.cell 4 196) (s:=.tmp 5) (t:=.tmp 6) (by kernel_rfl) rfl (rce (h16.at_ 1 rfl)) (rtm zO) (rtm (zD 2)) ?_)
 exact ⟨rfl,h16.below0⟩
theorem rd_numL(d:Nat)(L:Bytes)(hL:L.length<=900000)(hd:d<=8)(t m H:Nat)(hsz:szB L=(0,m,H))(h0:nb (gb L 0)=0*64+t)(ht:t<=30)(h2:2<=H)(hlen:H+m<=L.length)(B:Bytes)(hcut:(L.take (H+m)).drop H=B)(hB:B.length=m)(hb:B.length=0∨8<B.length)(A:Option Addr)(c:Nat)(w:World)(hv:SB w (.slice A L.length c) L):Calls Tryz.prog 104 #[.slice A L.length c,.int .i64 (d:Int)] w (DPost w (.tuple #[.agg #[.int .i64 0,.int .i64 0,.int .u64 0,.slice none 0 0,.slice none 0 0],.int .i64 0,.int .i64 4])):=by
 have h256:=nb_lt (gb L 0)
 have hk0:nb (gb L 0) / 2 ^ 6=0:=by omega
 have ht0:nb (gb L 0) % 64=t:=by omega
 have h0:=Hp.ro1 (rSB (.slice A L.length c) L) hv
 refine mE 114 ?_
 refine mN h0 196 ([zO,zO,(iV .u64 0),zN,zN]) fun g2 w2 h2=>?_
 refine mX 18 (.bool false) (bV (decide ((d:Int)>8))) (by simp;omega) ?_
 refine mD h2 [(lV A L.length c)] (szv hsz (size_all L hL A c _ (h2.rd 0 rfl))) (fun w6 h6=>?_)
 refine dG h6 13 12 (fun W=>(rSB ((lV A L.length c)) L).Φ W/\True) (fun w10 h10=>⟨h10.rd 0 rfl,trivial⟩) ?_
 intro w10 h10
 refine dP 11 [0,5] ?_
 refine dV 1 (fun W hW=>eIx (SB.rvn (h10.rd 0 rfl)).2 0 L.length (SB.rvn (h10.rd 0 rfl)).1 (by omega) 25 (.tmp 30) (.const zO) .i64 5) ?_
 refine dV 6 (fun W hW=>eIx (SB.rvn (h10.rd 0 rfl)).2 0 L.length (SB.rvn (h10.rd 0 rfl)).1 (by omega) 25 (.tmp 35) (.const zO) .i64 5) ?_
 refine dV 2 (fun W hW=>eEl (SB.rvn hW.1).2 0 0 ([(iV .u8 (ub (gb (L) (0))))]) (bx_get _ _ (by omega)) 5 (.tmp 31) (iV .u8 (ub (gb (L) (0))))) ?_
 refine dV 3 (v:=(iV .u8 (((nb (gb L 0) / 2 ^ 6:Nat):Int)))) (fun W hW=>e_shr8 5 228 (.tmp 32) (.const (iV .u64 6)) (by kernel_rfl) (nb (gb L 0)) .u64 6 (by decide) (by rw [← ub_nb];kernel_rfl) (by kernel_rfl) h256 _) ?_
 refine dV 4 (v:=zO) (fun W hW=>eqI (zD (IntKind.i64.wrap (((nb (gb L 0) / 2 ^ 6:Nat):Int)))) (by rw [hk0];rfl)) ?_
 refine dV 7 (fun W hW=>eEl (SB.rvn hW.1).2 0 0 ([(iV .u8 (ub (gb (L) (0))))]) (bx_get _ _ (by omega)) 5 (.tmp 36) (iV .u8 (ub (gb (L) (0))))) ?_
 refine dV 8 (v:=(iV .u8 (((nb (gb L 0) % 64:Nat):Int)))) (fun W hW=>eqI (iV .u8 (bits .and .u8 (ub (gb L 0)) 63)) (by rw [ub_nb,and63' h256])) ?_
 refine dV 9 (v:=(zD ((t:Int)))) (fun W hW=>eqI (zD (IntKind.i64.wrap (((nb (gb L 0) % 64:Nat):Int)))) (by rw [ht0];exact i64_nat (by omega))) ?_
 refine dP 2 [10] ?_
 refine dT 11 (xN h10 196 ([zO,zO,(iV .u64 0),zN,zN])) ?_
 rintro _ w11 ⟨g11,rfl,h11⟩
 refine ⟨⟨h11.rd 0 rfl,trivial⟩,?_⟩
 refine dE 12 (xSs h11 0 196 (.tmp 10) (.tmp 40) 0 ([zO,(zD ((t:Int))),(iV .u64 0),zN,zN]) ([zO,(zD ((t:Int))),(iV .u64 0),zN,zN])) ?_
 rintro _ w12 h12
 refine dX ?_
 refine ma h12 0 ?_
 refine ma h12 0 ?_
 refine mX 47 (.bool false) (bV (decide ((t:Int)>30))) (by simp;omega) ?_
 refine mW 54 (exec_add _ _ _ _ bO ((H:Int)) ((m:Int)) (by kernel_rfl) (by kernel_rfl) (((H+m:Nat):Int)) (by omega) (by omega) (by omega) _) ?_
 obtain ⟨A16,c16,e16,h16⟩:=h12.roCut 0 rfl H (H+m) (by omega) B hcut
 refine mW 55 (v:=(lV A16 B.length c16)) (e16 ▸ e_cut_lh (h12.rd 0 rfl) (.tmp 50) (.tmp 51) (.tmp 54) (by kernel_rfl) (by kernel_rfl) .i64 .i64 H (H+m) (by kernel_rfl) (by kernel_rfl) (by omega) (by omega) _) ?_
 refine ma h16 0 ?_
 refine mT (x_getNo h16 (B) (lV A16 B.length c16) (by kernel_rfl) (h16.rd 0 rfl) hb) ?_
 rintro _ w21 ⟨rfl,h21⟩
 refine mT (xSs h21 1 196 (.tmp 4) (.tmp 102) 0 ([zO,zO,(iV .u64 0),zN,zN]) ([zO,zO,(iV .u64 0),zN,zN])) fun _ w25 h25=>?_
 refine mF (post_3 (r:=.cell 4 196) (s:=.tmp 5) (t:=.tmp 6) (by kernel_rfl) rfl (rce (h25.at_ 1 rfl)) (rtm zO) (rtm (zD 4)) ?_)
 exact ⟨rfl,h25.below0⟩
theorem rd_num0(d:Nat)(L:Bytes)(hL:L.length<=900000)(hd:d<=8)(t m H:Nat)(hsz:szB L=(0,m,H))(h0:nb (gb L 0)=0*64+t)(ht:t<=30)(h2:2<=H)(hlen:H+m<=L.length)(B:Bytes)(hcut:(L.take (H+m)).drop H=B)(hB:B.length=m)(hb:1<B.length)(hb8:B.length<=8)(hz:gb B 0=0)(A:Option Addr)(c:Nat)(w:World)(hv:SB w (.slice A L.length c) L):Calls Tryz.prog 104 #[.slice A L.length c,.int .i64 (d:Int)] w (DPost w (.tuple #[.agg #[.int .i64 0,.int .i64 0,.int .u64 0,.slice none 0 0,.slice none 0 0],.int .i64 0,.int .i64 4])):=by
 have h256:=nb_lt (gb L 0)
 have hk0:nb (gb L 0) / 2 ^ 6=0:=by omega
 have ht0:nb (gb L 0) % 64=t:=by omega
 have h0:=Hp.ro1 (rSB (.slice A L.length c) L) hv
 refine mE 114 ?_
 refine mN h0 196 ([zO,zO,(iV .u64 0),zN,zN]) fun g2 w2 h2=>?_
 refine mX 18 (.bool false) (bV (decide ((d:Int)>8))) (by simp;omega) ?_
 refine mD h2 [(lV A L.length c)] (szv hsz (size_all L hL A c _ (h2.rd 0 rfl))) (fun w6 h6=>?_)
 refine dG h6 13 12 (fun W=>(rSB ((lV A L.length c)) L).Φ W/\True) (fun w10 h10=>⟨h10.rd 0 rfl,trivial⟩) ?_
 intro w10 h10
 refine dP 11 [0,5] ?_
 refine dV 1 (fun W hW=>eIx (SB.rvn (h10.rd 0 rfl)).2 0 L.length (SB.rvn (h10.rd 0 rfl)).1 (by omega) 25 (.tmp 30) (.const zO) .i64 5) ?_
 refine dV 6 (fun W hW=>eIx (SB.rvn (h10.rd 0 rfl)).2 0 L.length (SB.rvn (h10.rd 0 rfl)).1 (by omega) 25 (.tmp 35) (.const zO) .i64 5) ?_
 refine dV 2 (fun W hW=>eEl (SB.rvn hW.1).2 0 0 ([(iV .u8 (ub (gb (L) (0))))]) (bx_get _ _ (by omega)) 5 (.tmp 31) (iV .u8 (ub (gb (L) (0))))) ?_
 refine dV 3 (v:=(iV .u8 (((nb (gb L 0) / 2 ^ 6:Nat):Int)))) (fun W hW=>e_shr8 5 228 (.tmp 32) (.const (iV .u64 6)) (by kernel_rfl) (nb (gb L 0)) .u64 6 (by decide) (by rw [← ub_nb];kernel_rfl) (by kernel_rfl) h256 _) ?_
 refine dV 4 (v:=zO) (fun W hW=>eqI (zD (IntKind.i64.wrap (((nb (gb L 0) / 2 ^ 6:Nat):Int)))) (by rw [hk0];rfl)) ?_
 refine dV 7 (fun W hW=>eEl (SB.rvn hW.1).2 0 0 ([(iV .u8 (ub (gb (L) (0))))]) (bx_get _ _ (by omega)) 5 (.tmp 36) (iV .u8 (ub (gb (L) (0))))) ?_
 refine dV 8 (v:=(iV .u8 (((nb (gb L 0) % 64:Nat):Int)))) (fun W hW=>eqI (iV .u8 (bits .and .u8 (ub (gb L 0)) 63)) (by rw [ub_nb,and63' h256])) ?_
 refine dV 9 (v:=(zD ((t:Int)))) (fun W hW=>eqI (zD (IntKind.i64.wrap (((nb (gb L 0) % 64:Nat):Int)))) (by rw [ht0];exact i64_nat (by omega))) ?_
 refine dP 2 [10] ?_
 refine dT 11 (xN h10 196 ([zO,zO,(iV .u64 0),zN,zN])) ?_
 rintro _ w11 ⟨g11,rfl,h11⟩
 refine ⟨⟨h11.rd 0 rfl,trivial⟩,?_⟩
 refine dE 12 (xSs h11 0 196 (.tmp 10) (.tmp 40) 0 ([zO,(zD ((t:Int))),(iV .u64 0),zN,zN]) ([zO,(zD ((t:Int))),(iV .u64 0),zN,zN])) ?_
 rintro _ w12 h12
 refine dX ?_
 refine ma h12 0 ?_
 refine ma h12 0 ?_
 refine mX 47 (.bool false) (bV (decide ((t:Int)>30))) (by simp;omega) ?_
 refine mW 54 (exec_add _ _ _ _ bO ((H:Int)) ((m:Int)) (by kernel_rfl) (by kernel_rfl) (((H+m:Nat):Int)) (by omega) (by omega) (by omega) _) ?_
 obtain ⟨A16,c16,e16,h16⟩:=h12.roCut 0 rfl H (H+m) (by omega) B hcut
 refine mW 55 (v:=(lV A16 B.length c16)) (e16 ▸ e_cut_lh (h12.rd 0 rfl) (.tmp 50) (.tmp 51) (.tmp 54) (by kernel_rfl) (by kernel_rfl) .i64 .i64 H (H+m) (by kernel_rfl) (by kernel_rfl) (by omega) (by omega) _) ?_
 refine ma h16 0 ?_
 refine mT (x_getD h16 (B) (lV A16 B.length c16) (by kernel_rfl) (h16.rd 0 rfl) (by omega) (by omega) (getN B) rfl) ?_
 rintro _ w21 ⟨rfl,h21⟩
 refine mX 94 (.bool true) (bV (decide ((B.length:Int)>1))) (by simp;omega) ?_
 refine mW 97 (eIx (SB.rvn (h21.rd 0 rfl)).2 0 B.length (SB.rvn (h21.rd 0 rfl)).1 (by omega) 25 (.tmp 96) (.const zO) .i64 5) ?_
 refine mW 98 (eEl (SB.rvn (h21.rd 0 rfl)).2 0 0 ([(iV .u8 (ub (gb (B) (0))))]) (bx_get _ _ (by omega)) 5 (.tmp 97) (iV .u8 (ub (gb (B) (0))))) ?_
 refine mX 99 (.bool true) (bV ((ub (gb (B) (0))) == 0)) (congrArg bV (ub0_eq hz)) ?_
 refine mT (xSs h21 1 196 (.tmp 4) (.tmp 102) 0 ([zO,zO,(iV .u64 0),zN,zN]) ([zO,zO,(iV .u64 0),zN,zN])) fun _ w25 h25=>?_
 refine mF (post_3 (r:=.cell 4 196) (s:=.tmp 5) (t:=.tmp 6) (by kernel_rfl) rfl (rce (h25.at_ 1 rfl)) (rtm zO) (rtm (zD 4)) ?_)
 exact ⟨rfl,h25.below0⟩
theorem rd_num(d:Nat)(L:Bytes)(hL:L.length<=900000)(hd:d<=8)(t m H:Nat)(hsz:szB L=(0,m,H))(h0:nb (gb L 0)=0*64+t)(ht:t<=30)(h2:2<=H)(hlen:H+m<=L.length)(B:Bytes)(hcut:(L.take (H+m)).drop H=B)(hB:B.length=m)(hb:B.length≠0)(hb8:B.length<=8)(hz:1<B.length->gb B 0≠0)(A:Option Addr)(c:Nat)(w:World)(hv:SB w (.slice A L.length c) L):Calls Tryz.prog 104 #[.slice A L.length c,.int .i64 (d:Int)] w (ReadPost w (.mk 0 t (getN B) [] []) (H+m)):=by
 have h256:=nb_lt (gb L 0)
 have hk0:nb (gb L 0) / 2 ^ 6=0:=by omega
 have ht0:nb (gb L 0) % 64=t:=by omega
 have hn:getN B<18446744073709551616:=by have:=getN_lt8 B B.length (Nat.le_refl _) hb8;rwa [List.take_length] at this
 have h0:=Hp.ro1 (rSB (.slice A L.length c) L) hv
 refine mE 114 ?_
 refine mN h0 196 ([zO,zO,(iV .u64 0),zN,zN]) fun g2 w2 h2=>?_
 refine mX 18 (.bool false) (bV (decide ((d:Int)>8))) (by simp;omega) ?_
 refine mD h2 [(lV A L.length c)] (szv hsz (size_all L hL A c _ (h2.rd 0 rfl))) (fun w6 h6=>?_)
 refine dG h6 13 12 (fun W=>(rSB ((lV A L.length c)) L).Φ W/\True) (fun w10 h10=>⟨h10.rd 0 rfl,trivial⟩) ?_
 intro w10 h10
 refine dP 11 [0,5] ?_
 refine dV 1 (fun W hW=>eIx (SB.rvn (h10.rd 0 rfl)).2 0 L.length (SB.rvn (h10.rd 0 rfl)).1 (by omega) 25 (.tmp 30) (.const zO) .i64 5) ?_
 refine dV 6 (fun W hW=>eIx (SB.rvn (h10.rd 0 rfl)).2 0 L.length (SB.rvn (h10.rd 0 rfl)).1 (by omega) 25 (.tmp 35) (.const zO) .i64 5) ?_
 refine dV 2 (fun W hW=>eEl (SB.rvn hW.1).2 0 0 ([(iV .u8 (ub (gb (L) (0))))]) (bx_get _ _ (by omega)) 5 (.tmp 31) (iV .u8 (ub (gb (L) (0))))) ?_
 refine dV 3 (v:=(iV .u8 (((nb (gb L 0) / 2 ^ 6:Nat):Int)))) (fun W hW=>e_shr8 5 228 (.tmp 32) (.const (iV .u64 6)) (by kernel_rfl) (nb (gb L 0)) .u64 6 (by decide) (by rw [← ub_nb];kernel_rfl) (by kernel_rfl) h256 _) ?_
 refine dV 4 (v:=zO) (fun W hW=>eqI (zD (IntKind.i64.wrap (((nb (gb L 0) / 2 ^ 6:Nat):Int)))) (by rw [hk0];rfl)) ?_
 refine dV 7 (fun W hW=>eEl (SB.rvn hW.1).2 0 0 ([(iV .u8 (ub (gb (L) (0))))]) (bx_get _ _ (by omega)) 5 (.tmp 36) (iV .u8 (ub (gb (L) (0))))) ?_
 refine dV 8 (v:=(iV .u8 (((nb (gb L 0) % 64:Nat):Int)))) (fun W hW=>eqI (iV .u8 (bits .and .u8 (ub (gb L 0)) 63)) (by rw [ub_nb,and63' h256])) ?_
 refine dV 9 (v:=(zD ((t:Int)))) (fun W hW=>eqI (zD (IntKind.i64.wrap (((nb (gb L 0) % 64:Nat):Int)))) (by rw [ht0];exact i64_nat (by omega))) ?_
 refine dP 2 [10] ?_
 refine dT 11 (xN h10 196 ([zO,zO,(iV .u64 0),zN,zN])) ?_
 rintro _ w11 ⟨g11,rfl,h11⟩
 refine ⟨⟨h11.rd 0 rfl,trivial⟩,?_⟩
 refine dE 12 (xSs h11 0 196 (.tmp 10) (.tmp 40) 0 ([zO,(zD ((t:Int))),(iV .u64 0),zN,zN]) ([zO,(zD ((t:Int))),(iV .u64 0),zN,zN])) ?_
 rintro _ w12 h12
 refine dX ?_
 refine ma h12 0 ?_
 refine ma h12 0 ?_
 refine mX 47 (.bool false) (bV (decide ((t:Int)>30))) (by simp;omega) ?_
 refine mW 54 (exec_add _ _ _ _ bO ((H:Int)) ((m:Int)) (by kernel_rfl) (by kernel_rfl) (((H+m:Nat):Int)) (by omega) (by omega) (by omega) _) ?_
 obtain ⟨A16,c16,e16,h16⟩:=h12.roCut 0 rfl H (H+m) (by omega) B hcut
 refine mW 55 (v:=(lV A16 B.length c16)) (e16 ▸ e_cut_lh (h12.rd 0 rfl) (.tmp 50) (.tmp 51) (.tmp 54) (by kernel_rfl) (by kernel_rfl) .i64 .i64 H (H+m) (by kernel_rfl) (by kernel_rfl) (by omega) (by omega) _) ?_
 refine ma h16 0 ?_
 refine mT (x_getD h16 (B) (lV A16 B.length c16) (by kernel_rfl) (h16.rd 0 rfl) (by omega) (by omega) (getN B) rfl) ?_
 rintro _ w21 ⟨rfl,h21⟩
 rcases Nat.lt_or_ge 1 B.length with hq|hq
 ·
  refine mX 94 (.bool true) (bV (decide ((B.length:Int)>1))) (by simp;omega) ?_
  refine mW 97 (eIx (SB.rvn (h21.rd 0 rfl)).2 0 B.length (SB.rvn (h21.rd 0 rfl)).1 (by omega) 25 (.tmp 96) (.const zO) .i64 5) ?_
  refine mW 98 (eEl (SB.rvn (h21.rd 0 rfl)).2 0 0 ([(iV .u8 (ub (gb (B) (0))))]) (bx_get _ _ (by omega)) 5 (.tmp 97) (iV .u8 (ub (gb (B) (0))))) ?_
  refine mX 99 (.bool false) (bV ((ub (gb (B) (0))) == 0)) (congrArg bV (ub0_ne (hz hq))) ?_
  refine mT (xSt h21 0 177 (.tmp 104) (.tmp 103) 2 (iV .u64 (((getN B:Nat):Int))) ([zO,(zD ((t:Int))),(iV .u64 (((getN B:Nat):Int))),zN,zN])) fun _ w25 h25=>?_
  refine ma h25 0 ?_
  refine mW 113 (exec_add _ _ _ _ bO ((H:Int)) ((m:Int)) (by kernel_rfl) (by kernel_rfl) (((H+m:Nat):Int)) (by omega) (by omega) (by omega) _) ?_
  refine mT (xSs h25 1 196 (.tmp 4) (.tmp 110) 0 ([zO,(zD ((t:Int))),(iV .u64 (((getN B:Nat):Int))),zN,zN]) ([zO,(zD ((t:Int))),(iV .u64 (((getN B:Nat):Int))),zN,zN])) fun _ w27 h27=>?_
  refine mF (post_3 (r:=.cell 4 196) (s:=.tmp 5) (t:=.tmp 6) (by kernel_rfl) rfl (rce (h27.at_ 1 rfl)) (rtm (zD (((H+m:Nat):Int)))) (rtm zO) ?_)
  exact readpost_0 h27 t (getN B) (H+m) hn
 refine mX 94 (.bool false) (bV (decide ((B.length:Int)>1))) (by simp;omega) ?_
 refine mT (xSt h21 0 177 (.tmp 104) (.tmp 103) 2 (iV .u64 (((getN B:Nat):Int))) ([zO,(zD ((t:Int))),(iV .u64 (((getN B:Nat):Int))),zN,zN])) fun _ w28 h28=>?_
 refine ma h28 0 ?_
 refine mW 113 (exec_add _ _ _ _ bO ((H:Int)) ((m:Int)) (by kernel_rfl) (by kernel_rfl) (((H+m:Nat):Int)) (by omega) (by omega) (by omega) _) ?_
 refine mT (xSs h28 1 196 (.tmp 4) (.tmp 110) 0 ([zO,(zD ((t:Int))),(iV .u64 (((getN B:Nat):Int))),zN,zN]) ([zO,(zD ((t:Int))),(iV .u64 (((getN B:Nat):Int))),zN,zN])) fun _ w30 h30=>?_
 refine mF (post_3 (r:=.cell 4 196) (s:=.tmp 5) (t:=.tmp 6) (by kernel_rfl) rfl (rce (h30.at_ 1 rfl)) (rtm (zD (((H+m:Nat):Int)))) (rtm zO) ?_)
 exact readpost_0 h30 t (getN B) (H+m) hn
theorem rd_seq(d:Nat)(L:Bytes)(hL:L.length<=900000)(hd:d<=8)(t m H:Nat)(hsz:szB L=(0,m,H))(h0:nb (gb L 0)=2*64+t)(ht:t<=30)(h2:2<=H)(hlen:H+m<=L.length)(B:Bytes)(hcut:(L.take (H+m)).drop H=B)(hB:B.length=m)(rd:Bytes->Nat ⊕ (DVal × Nat))(hrd:∀ l v k,rd l=.inr (v,k)->2<=k/\k<=l.length)(hre:∀ l e,rd l=.inl e->e≠0)
   (ih:∀ (l:Bytes) (A:Option Addr) (c:Nat) (w:World),l.length<=900000->SB w (.slice A l.length c) l->Calls Tryz.prog 104 #[.slice A l.length c,.int .i64 ((d+1:Nat):Int)] w (ReadG w (rd l))) (A:Option Addr) (c:Nat) (w:World) (hv:SB w (.slice A L.length c) L):Calls Tryz.prog 104 #[.slice A L.length c,.int .i64 (d:Int)] w (ReadG w (ptB rd 2 t B (H+m))):=by
 have h256:=nb_lt (gb L 0)
 have hk0:nb (gb L 0) / 2 ^ 6=2:=by omega
 have ht0:nb (gb L 0) % 64=t:=by omega
 have h0:=Hp.ro1 (rSB (.slice A L.length c) L) hv
 refine mE 114 ?_
 refine mN h0 196 ([zO,zO,(iV .u64 0),zN,zN]) fun g2 w2 h2=>?_
 refine mX 18 (.bool false) (bV (decide ((d:Int)>8))) (by simp;omega) ?_
 refine mD h2 [(lV A L.length c)] (szv hsz (size_all L hL A c _ (h2.rd 0 rfl))) (fun w6 h6=>?_)
 refine dG h6 13 12 (fun W=>(rSB ((lV A L.length c)) L).Φ W/\True) (fun w10 h10=>⟨h10.rd 0 rfl,trivial⟩) ?_
 intro w10 h10
 refine dP 11 [0,5] ?_
 refine dV 1 (fun W hW=>eIx (SB.rvn (h10.rd 0 rfl)).2 0 L.length (SB.rvn (h10.rd 0 rfl)).1 (by omega) 25 (.tmp 30) (.const zO) .i64 5) ?_
 refine dV 6 (fun W hW=>eIx (SB.rvn (h10.rd 0 rfl)).2 0 L.length (SB.rvn (h10.rd 0 rfl)).1 (by omega) 25 (.tmp 35) (.const zO) .i64 5) ?_
 refine dV 2 (fun W hW=>eEl (SB.rvn hW.1).2 0 0 ([(iV .u8 (ub (gb (L) (0))))]) (bx_get _ _ (by omega)) 5 (.tmp 31) (iV .u8 (ub (gb (L) (0))))) ?_
 refine dV 3 (v:=(iV .u8 (((nb (gb L 0) / 2 ^ 6:Nat):Int)))) (fun W hW=>e_shr8 5 228 (.tmp 32) (.const (iV .u64 6)) (by kernel_rfl) (nb (gb L 0)) .u64 6 (by decide) (by rw [← ub_nb];kernel_rfl) (by kernel_rfl) h256 _) ?_
 refine dV 4 (v:=(zD 2)) (fun W hW=>eqI (zD (IntKind.i64.wrap (((nb (gb L 0) / 2 ^ 6:Nat):Int)))) (by rw [hk0];rfl)) ?_
 refine dV 7 (fun W hW=>eEl (SB.rvn hW.1).2 0 0 ([(iV .u8 (ub (gb (L) (0))))]) (bx_get _ _ (by omega)) 5 (.tmp 36) (iV .u8 (ub (gb (L) (0))))) ?_
 refine dV 8 (v:=(iV .u8 (((nb (gb L 0) % 64:Nat):Int)))) (fun W hW=>eqI (iV .u8 (bits .and .u8 (ub (gb L 0)) 63)) (by rw [ub_nb,and63' h256])) ?_
 refine dV 9 (v:=(zD ((t:Int)))) (fun W hW=>eqI (zD (IntKind.i64.wrap (((nb (gb L 0) % 64:Nat):Int)))) (by rw [ht0];exact i64_nat (by omega))) ?_
 refine dP 2 [10] ?_
 refine dT 11 (xN h10 196 ([zO,zO,(iV .u64 0),zN,zN])) ?_
 rintro _ w11 ⟨g11,rfl,h11⟩
 refine ⟨⟨h11.rd 0 rfl,trivial⟩,?_⟩
 refine dE 12 (xSs h11 0 196 (.tmp 10) (.tmp 40) 0 ([(zD 2),(zD ((t:Int))),(iV .u64 0),zN,zN]) ([(zD 2),(zD ((t:Int))),(iV .u64 0),zN,zN])) ?_
 rintro _ w12 h12
 refine dX ?_
 refine ma h12 0 ?_
 refine ma h12 0 ?_
 refine mX 47 (.bool false) (bV (decide ((t:Int)>30))) (by simp;omega) ?_
 refine mW 54 (exec_add _ _ _ _ bO ((H:Int)) ((m:Int)) (by kernel_rfl) (by kernel_rfl) (((H+m:Nat):Int)) (by omega) (by omega) (by omega) _) ?_
 obtain ⟨A16,c16,e16,h16⟩:=h12.roCut 0 rfl H (H+m) (by omega) B hcut
 refine mW 55 (v:=(lV A16 B.length c16)) (e16 ▸ e_cut_lh (h12.rd 0 rfl) (.tmp 50) (.tmp 51) (.tmp 54) (by kernel_rfl) (by kernel_rfl) .i64 .i64 H (H+m) (by kernel_rfl) (by kernel_rfl) (by omega) (by omega) _) ?_
 refine ma h16 0 ?_
 have h21:=(h16.addS _ (rdl_nil _) (fun _ hf=>hf.elim) (fun _ _ _ _ hf=>hf.elim) (fun _ _ _ _ hf=>hf.elim)).ovNil 196 5
 refine mL (fun mM xX aA wL=>∃ (f:Nat) (ts:List DVal) (xs:List (List Value)) (l:Bytes) (G:Nat->Prop) (A1:Option Addr) (c1:Nat) (A2:Option Addr) (c2:Nat),((l:Bytes).length<=f)/\((ts:List DVal).length+(l:Bytes).length<=B.length)/\(lsB rd B.length B=preL ts (lsB rd f l))/\((xs:List (List Value)).length=(ts:List DVal).length)/\mM=(l:Bytes).length/\aA=patch xX 114 [(1,(zD ((d:Int)))),(4,(pt g2 0)),(7,(zD ((m:Int)))),(8,(zD ((H:Int)))),(10,(pt g11 0)),(11,(lV A2 ((l:Bytes).length) c2))]/\Hp (fun _=>False) w wL [rSB ((lV A2 ((l:Bytes).length) c2)) l] [rOV 196 5 ((lV A1 ((ts:List DVal).length) c1)) xs,rDL G (xs) ts,rBlk g11 196 ([(zD 2),(zD ((t:Int))),(iV .u64 0),zN,(lV A1 ((ts:List DVal).length) c1)]),rBlk g2 196 ([zO,zO,(iV .u64 0),zN,zN])]) ⟨_,_,B.length,([]),([]),B,((fun _=>False)),none,0,A16,c16,(Nat.le_refl _),(by simp),(pre_nil _).symm,rfl,rfl,pM,h21.sel [0,1,2,3] [0] (by kernel_rfl) rfl rfl⟩ ?_
 rintro _ x22 _ w22 ⟨f,ts,xs,l,G,A1,c1,A2,c2,hf,hlB,hinv,hxs,rfl,rfl,h22⟩ KL22 hKL22
 refine mAt ?_
 refine m_if 60 (((l:Bytes).length:Int)>0) (by kernel_rfl) (fun b25=>?_) (fun b25=>?_)
 ·
  rcases hrl:rd l with ee|⟨u,ke2⟩
  ·
   have hl1:l.length≠0:=by omega
   obtain ⟨f,rfl⟩:∃ f2,f=f2+1:=⟨f-1,by omega⟩
   refine mW 64 (exec_add _ _ _ _ bO ((d:Int)) 1 (by kernel_rfl) (by kernel_rfl) (((d+1:Nat):Int)) (by omega) (by omega) (by omega) _) ?_
   refine mD h22 [(lV A2 ((l:Bytes).length) c2),(zD (((d+1:Nat):Int)))] (readG_b hrl (ih l _ _ _ (by omega) (h22.rd 0 rfl))) (fun w28 h28=>?_)
   refine mN h28 196 ([zO,zO,(iV .u64 0),zN,zN]) fun g29 w29 h29=>?_
   refine mT (xSs h29 0 196 (.tmp 14) (.tmp 66) 0 ([zO,zO,(iV .u64 0),zN,zN]) ([zO,zO,(iV .u64 0),zN,zN])) fun _ w30 h30=>?_
   refine mX 70 (.bool true) (bV (((ee:Int)) != 0)) (ine (b:=0) (hre _ _ hrl)) ?_
   refine mT (xSs h30 4 196 (.tmp 4) (.tmp 71) 0 ([zO,zO,(iV .u64 0),zN,zN]) ([zO,zO,(iV .u64 0),zN,zN])) fun _ w34 h34=>?_
   refine mF (post_3 (r:=.cell 4 196) (s:=.tmp 5) (t:=.tmp 6) (by kernel_rfl) rfl (rce (h34.at_ 4 rfl)) (rtm zO) (rtm (zD ((ee:Int)))) ?_)
   exact readG_bad (c:=ee) (pt_bad hinv hl1 hrl) ⟨rfl,h34.below0⟩
  have hl1:l.length≠0:=by omega
  obtain ⟨f,rfl⟩:∃ f2,f=f2+1:=⟨f-1,by omega⟩
  refine mW 64 (exec_add _ _ _ _ bO ((d:Int)) 1 (by kernel_rfl) (by kernel_rfl) (((d+1:Nat):Int)) (by omega) (by omega) (by omega) _) ?_
  refine mT (x_read h22 104 [(lV A2 ((l:Bytes).length) c2),(zD (((d+1:Nat):Int)))] (by kernel_rfl) (readG_o hrl (ih l _ _ _ (by omega) (h22.rd 0 rfl)))) ?_
  rintro _ w35 ⟨F35,cs35,rfl,h35⟩
  have hkk:=hrd _ _ _ hrl
  have hinv2:=hinv.trans (lsB_step hl1 hrl ts)
  obtain ⟨ke,te,ne,be,le⟩:=u
  obtain ⟨Be,de,Ae,ce,xse,rfl,_,_,_,_⟩:=dv_open (h35.at_ 0 rfl)
  simp only [DVal.kind,DVal.tag,DVal.n,DVal.b,DVal.l] at h35 ⊢
  refine mN h35 196 ([zO,zO,(iV .u64 0),zN,zN]) fun g36 w36 h36=>?_
  refine mT (xSs h36 0 196 (.tmp 14) (.tmp 66) 0 ([(zD ((ke:Int))),(zD ((te:Int))),(iV .u64 ((ne:Int))),(lV Be be.length de),(lV Ae le.length ce)]) ([(zD ((ke:Int))),(zD ((te:Int))),(iV .u64 ((ne:Int))),(lV Be be.length de),(lV Ae le.length ce)])) fun _ w37 h37=>?_
  refine ma h37 4 ?_
  refine ma h37 0 ?_
  refine mT (x_bs h37 196 ([(zD ((ke:Int))),(zD ((te:Int))),(iV .u64 ((ne:Int))),(lV Be be.length de),(lV Ae le.length ce)]) 1 (by kernel_rfl)) ?_
  rintro _ w41 ⟨g41,rfl,h41⟩
  refine mT (xPu h41 3 0 rfl rfl (.tmp 74) (.tmp 76) 194 72 (aV ([zO,zO,(iV .u64 0),zN,zN]).toArray) (by omega) (by unfold maxLen;omega) (xs++[[(zD ((ke:Int))),(zD ((te:Int))),(iV .u64 ((ne:Int))),(lV Be be.length de),(lV Ae le.length ce)]]) ((ts++[(DVal.mk ke te ne be le)]).length) (hyn:=(by simp [hxs]))) ?_
  rintro _ w42 ⟨A42,c42,rfl,h42⟩
  refine mT (xSt h42 5 194 (.tmp 78) (.tmp 77) 4 (lV A42 ((ts++[(DVal.mk ke te ne be le)]).length) c42) ([(zD 2),(zD ((t:Int))),(iV .u64 0),zN,(lV A42 ((ts++[(DVal.mk ke te ne be le)]).length) c42)])) fun _ w43 h43=>?_
  obtain ⟨A44,c44,e44,h44⟩:=h43.roCut 0 rfl (ke2) l.length (Nat.le_refl _) (l.drop ke2) (by rw [List.take_length])
  refine mW 81 (v:=(lV A44 ((l.drop ke2).length) c44)) (e44 ▸ e_cut_l (h43.rd 0 rfl) (.tmp 79) (.tmp 80) (by kernel_rfl) (by kernel_rfl) .i64 (ke2) (by kernel_rfl) (by omega) _) ?_
  have h45:=h44.join 2 4 rfl rfl (by decide) _ (rdl_push hxs (h44.at_ 4 rfl) (h44.at_ 2 rfl)) (fun _ hq=>hq)
  exact mK KL22 (hKL22 _ _ ⟨((l.drop ke2):Bytes).length,_,(by rw [List.length_drop];omega),f,((ts++[(DVal.mk ke te ne be le)])),(xs++[[(zD ((ke:Int))),(zD ((te:Int))),(iV .u64 ((ne:Int))),(lV Be be.length de),(lV Ae le.length ce)]]),((l.drop ke2)),((fun q=>F35 q∨G q)),A42,c42,A44,c44,(by rw [List.length_drop];omega),(by rw [List.length_drop,List.length_append,List.length_singleton];omega),hinv2,(by simp [hxs]),rfl,pM,h45.sel [3,0,4,5] [0] (by kernel_rfl) rfl rfl⟩)
 refine ma h22 2 ?_
 refine mW 113 (exec_add _ _ _ _ bO ((H:Int)) ((m:Int)) (by kernel_rfl) (by kernel_rfl) (((H+m:Nat):Int)) (by omega) (by omega) (by omega) _) ?_
 refine mT (xSs h22 3 196 (.tmp 4) (.tmp 110) 0 ([(zD 2),(zD ((t:Int))),(iV .u64 0),zN,(lV A1 ((ts:List DVal).length) c1)]) ([(zD 2),(zD ((t:Int))),(iV .u64 0),zN,(lV A1 ((ts:List DVal).length) c1)])) fun _ w47 h47=>?_
 refine mF (post_3 (r:=.cell 4 196) (s:=.tmp 5) (t:=.tmp 6) (by kernel_rfl) rfl (rce (h47.at_ 3 rfl)) (rtm (zD (((H+m:Nat):Int)))) (rtm zO) ?_)
 exact readG_ok (pt_end hinv (by omega)) (readpost_2 h47 0 1 (by decide) rfl rfl hxs rfl t (H+m))
theorem rd_all(m:Nat):∀ (d:Nat),d+m=9->∀ (L:Bytes) (A:Option Addr) (c:Nat) (w:World),L.length<=900000->SB w (.slice A L.length c) L->Calls Tryz.prog 104 #[.slice A L.length c,.int .i64 (d:Int)] w (ReadG w (rdB m L)):=by
 induction m with
 | zero=>intro d h L A c w hL hv;exact rd_deep d L (by omega) A c w hv
 | succ m ih =>
   intro d h L A c w hL hv
   rw [rdB]
   obtain ⟨e,n,H,hsz⟩:∃ e n H,szB L=(e,n,H):=⟨_,_,_,rfl⟩
   rw [hsz]
   simp only
   split
   · rename_i he
     exact rd_size d L hL (by omega) e n H hsz he A c w hv
   rename_i he
   have he:e=0:=by omega
   subst he
   have h2:=szB_ok (L:=L) (by rw [hsz])
   rw [hsz] at h2
   simp only at h2
   have hm64:nb (gb L 0)=nb (gb L 0) / 64*64+nb (gb L 0) % 64:=by omega
   have hlt:nb (gb L 0) % 64<64:=Nat.mod_lt _ (by omega)
   generalize nb (gb L 0) / 64=k at *
   generalize nb (gb L 0) % 64=t at *
   split
   · rename_i hb
     by_cases hk:2<k
     · exact rd_kind d L hL (by omega) t n H k hsz hm64 hlt h2.1 h2.2 hk A c w hv
     exact rd_tag d L hL (by omega) t n H k hsz hm64 hlt h2.1 h2.2 (by omega) (by omega) A c w hv
   rename_i hb
   have hBl:((L.take (H+n)).drop H).length=n:=by rw [List.length_drop,List.length_take];omega
   generalize hcut:(L.take (H+n)).drop H=B at *
   rcases (by omega:k=0∨k=1∨k=2) with rfl|rfl|rfl
   · unfold ptB
     rw [if_pos rfl]
     by_cases h1:B.length=0∨8<B.length
     · rw [if_pos (by omega)]
       exact rd_numL d L hL (by omega) t n H hsz hm64 (by omega) h2.1 h2.2 B hcut hBl h1 A c w hv
     by_cases h3:1<B.length/\gb B 0=0
     · rw [if_pos (.inr (.inr h3))]
       exact rd_num0 d L hL (by omega) t n H hsz hm64 (by omega) h2.1 h2.2 B hcut hBl h3.1 (by omega) h3.2 A c w hv
     rw [if_neg (fun hh=>hh.elim (fun h=>h1 (.inl h)) (fun hh=>hh.elim (fun h=>h1 (.inr h)) h3))]
     exact rd_num d L hL (by omega) t n H hsz hm64 (by omega) h2.1 h2.2 B hcut hBl (by omega) (by omega) (fun hq hz=>h3 ⟨hq,hz⟩) A c w hv
   · unfold ptB
     rw [if_neg (by decide),if_pos rfl]
     exact read_raw d (by omega) L t n H B (by omega) hm64 hcut hBl h2.1 h2.2 hL A c (fun w hv=>szv hsz (size_all L hL A c w hv)) w hv
   exact rd_seq d L hL (by omega) t n H hsz hm64 (by omega) h2.1 h2.2 B hcut hBl (rdB m) (fun _ _ _ h=>rdB_n h) (rdB_er m) (fun l A c w hl hv=>ih (d+1) (by omega) l A c w hl hv) A c w hv
theorem Rd_long(L:Bytes)(hl:4096<L.length)(A:Option Addr)(c:Nat)(w:World)(hv:SB w (.slice A L.length c) L):Calls Tryz.prog 74 #[.slice A L.length c] w (DPost w (.tuple #[.agg #[.int .i64 0,.int .i64 0,.int .u64 0,.slice none 0 0,.slice none 0 0],.int .i64 20])):=by
 have h0:=Hp.ro1 (rSB (.slice A L.length c) L) hv
 refine mE 29 ?_
 refine mN h0 196 ([zO,zO,(iV .u64 0),zN,zN]) fun g2 w2 h2=>?_
 refine mX 9 (.bool true) (bV (decide ((L.length:Int)>4096))) (by simp;omega) ?_
 refine mT (xSs h2 0 196 (.tmp 2) (.tmp 10) 0 ([zO,zO,(iV .u64 0),zN,zN]) ([zO,zO,(iV .u64 0),zN,zN])) fun _ w6 h6=>?_
 refine mF (post_2 (r:=.cell 2 196) (s:=.tmp 3) (by kernel_rfl) rfl (rce (h6.at_ 0 rfl)) (rtm (zD 20)) ?_)
 exact ⟨rfl,h6.below0⟩
theorem Rd_err(L:Bytes)(hl:L.length<=4096)(ee:Nat)(he:ee≠0)(hr:rdB 8 L=.inl ee)(A:Option Addr)(c:Nat)(w:World)(hv:SB w (.slice A L.length c) L):Calls Tryz.prog 74 #[.slice A L.length c] w (DPost w (.tuple #[.agg #[.int .i64 0,.int .i64 0,.int .u64 0,.slice none 0 0,.slice none 0 0],.int .i64 (ee:Int)])):=by
 have h0:=Hp.ro1 (rSB (.slice A L.length c) L) hv
 refine mE 29 ?_
 refine mN h0 196 ([zO,zO,(iV .u64 0),zN,zN]) fun g2 w2 h2=>?_
 refine mX 9 (.bool false) (bV (decide ((L.length:Int)>4096))) (by simp;omega) ?_
 refine mD h2 [(lV A L.length c),(zD 1)] (readG_b hr (rd_all 8 1 rfl L A c _ (by omega) (h2.rd 0 rfl))) (fun w6 h6=>?_)
 refine mN h6 196 ([zO,zO,(iV .u64 0),zN,zN]) fun g7 w7 h7=>?_
 refine mT (xSs h7 0 196 (.tmp 4) (.tmp 14) 0 ([zO,zO,(iV .u64 0),zN,zN]) ([zO,zO,(iV .u64 0),zN,zN])) fun _ w8 h8=>?_
 refine mX 19 (.bool true) (bV (((ee:Int)) != 0)) (ine (b:=0) he) ?_
 refine mT (xSs h8 1 196 (.tmp 2) (.tmp 20) 0 ([zO,zO,(iV .u64 0),zN,zN]) ([zO,zO,(iV .u64 0),zN,zN])) fun _ w12 h12=>?_
 refine mF (post_2 (r:=.cell 2 196) (s:=.tmp 3) (by kernel_rfl) rfl (rce (h12.at_ 1 rfl)) (rtm (zD ((ee:Int)))) ?_)
 exact ⟨rfl,h12.below0⟩
theorem Rd_more(L:Bytes)(hl:L.length<=4096)(v:DVal)(k:Nat)(hr:rdB 8 L=.inr (v,k))(hk:k<L.length)(A:Option Addr)(c:Nat)(w:World)(hv:SB w (.slice A L.length c) L):Calls Tryz.prog 74 #[.slice A L.length c] w (DPost w (.tuple #[.agg #[.int .i64 0,.int .i64 0,.int .u64 0,.slice none 0 0,.slice none 0 0],.int .i64 5])):=by
 have h0:=Hp.ro1 (rSB (.slice A L.length c) L) hv
 refine mE 29 ?_
 refine mN h0 196 ([zO,zO,(iV .u64 0),zN,zN]) fun g2 w2 h2=>?_
 refine mX 9 (.bool false) (bV (decide ((L.length:Int)>4096))) (by simp;omega) ?_
 refine mT (x_read h2 104 [(lV A L.length c),(zD 1)] (by kernel_rfl) (readG_o hr (rd_all 8 1 rfl L A c _ (by omega) (h2.rd 0 rfl)))) ?_
 rintro _ w6 ⟨F6,cs6,rfl,h6⟩
 obtain ⟨Be,de,Ae,ce,xse,rfl,_,_,_,_⟩:=dv_open (h6.at_ 0 rfl)
 refine mN h6 196 ([zO,zO,(iV .u64 0),zN,zN]) fun g7 w7 h7=>?_
 refine mT (xSs h7 0 196 (.tmp 4) (.tmp 14) 0 ([(zD ((v.kind:Int))),(zD ((v.tag:Int))),(iV .u64 ((v.n:Int))),(lV Be v.b.length de),(lV Ae v.l.length ce)]) ([(zD ((v.kind:Int))),(zD ((v.tag:Int))),(iV .u64 ((v.n:Int))),(lV Be v.b.length de),(lV Ae v.l.length ce)])) fun _ w8 h8=>?_
 refine mX 26 (.bool true) (bV (decide ((k:Int)<(L.length:Int)))) (by simp;omega) ?_
 refine mT (xSs h8 2 196 (.tmp 2) (.tmp 27) 0 ([zO,zO,(iV .u64 0),zN,zN]) ([zO,zO,(iV .u64 0),zN,zN])) fun _ w13 h13=>?_
 refine mF (post_2 (r:=.cell 2 196) (s:=.tmp 3) (by kernel_rfl) rfl (rce (h13.at_ 2 rfl)) (rtm (zD 5)) ?_)
 exact ⟨rfl,h13.below0⟩
theorem Rd_ok(L:Bytes)(hl:L.length<=4096)(v:DVal)(k:Nat)(hr:rdB 8 L=.inr (v,k))(hk:L.length<=k)(A:Option Addr)(c:Nat)(w:World)(hv:SB w (.slice A L.length c) L):Calls Tryz.prog 74 #[.slice A L.length c] w (ReadOk w v):=by
 have h0:=Hp.ro1 (rSB (.slice A L.length c) L) hv
 refine mE 29 ?_
 refine mN h0 196 ([zO,zO,(iV .u64 0),zN,zN]) fun g2 w2 h2=>?_
 refine mX 9 (.bool false) (bV (decide ((L.length:Int)>4096))) (by simp;omega) ?_
 refine mT (x_read h2 104 [(lV A L.length c),(zD 1)] (by kernel_rfl) (readG_o hr (rd_all 8 1 rfl L A c _ (by omega) (h2.rd 0 rfl)))) ?_
 rintro _ w6 ⟨F6,cs6,rfl,h6⟩
 obtain ⟨Be,de,Ae,ce,xse,rfl,_,_,_,_⟩:=dv_open (h6.at_ 0 rfl)
 refine mN h6 196 ([zO,zO,(iV .u64 0),zN,zN]) fun g7 w7 h7=>?_
 refine mT (xSs h7 0 196 (.tmp 4) (.tmp 14) 0 ([(zD ((v.kind:Int))),(zD ((v.tag:Int))),(iV .u64 ((v.n:Int))),(lV Be v.b.length de),(lV Ae v.l.length ce)]) ([(zD ((v.kind:Int))),(zD ((v.tag:Int))),(iV .u64 ((v.n:Int))),(lV Be v.b.length de),(lV Ae v.l.length ce)])) fun _ w8 h8=>?_
 refine mX 26 (.bool false) (bV (decide ((k:Int)<(L.length:Int)))) (by simp;omega) ?_
 refine ma h8 0 ?_
 refine mT (xSs h8 2 196 (.tmp 2) (.tmp 28) 0 ([(zD ((v.kind:Int))),(zD ((v.tag:Int))),(iV .u64 ((v.n:Int))),(lV Be v.b.length de),(lV Ae v.l.length ce)]) ([(zD ((v.kind:Int))),(zD ((v.tag:Int))),(iV .u64 ((v.n:Int))),(lV Be v.b.length de),(lV Ae v.l.length ce)])) fun _ w13 h13=>?_
 refine mF (post_2 (r:=.cell 2 196) (s:=.tmp 3) (by kernel_rfl) rfl (rce (h13.at_ 2 rfl)) (rtm zO) ?_)
 exact ⟨_,_,rfl,h13.sel [1] [] rfl rfl rfl⟩
/-- der.Read, of any bytes. -/
theorem Rd_all(L:Bytes)(x:Value)(w:World)(hv:SB w x L):Calls Tryz.prog 74 #[x] w (ReadGOk w (RdB L)):=by
 obtain ⟨A,c,rfl,_⟩:=id hv
 unfold RdB
 split
 · rename_i h;exact Rd_long L h A c w hv
 rename_i h
 rcases hr:rdB 8 L with e|⟨v,k⟩
 · exact Rd_err L (by omega) e (rdB_er 8 L e hr) hr A c w hv
 simp only
 split
 · rename_i hk;exact Rd_more L (by omega) v k hr hk A c w hv
 rename_i hk;exact Rd_ok L (by omega) v k hr (by omega) A c w hv
end
section
open Go.RowKit Go.QT
theorem wrV_leT(v:DVal):(wrV v).length<=10+(bodyV v).length:=by
 rw [wrV_eq,List.length_append];have:=headB_len v.kind v.tag (bodyV v).length;omega
theorem wr_nD(n:Int):(wrV (nD n)).length<=18:=by
 have h:=wrV_leT (nD n)
 have:=shortB_len n.toNat
 have e:bodyV (nD n)=shortB n.toNat:=rfl
 rw [e] at h;omega
theorem wr_bD(b:Bytes):(wrV (bD b)).length<=10+b.length:=wrV_leT (bD b)
theorem val_len{t:Thing}(h:limTh t):(wrV (valD t)).length<=1000000:=by
 have h0:=wrV_leT (valD t)
 have e:bodyV (valD t)=wrL (valL t):=rfl
 rw [e] at h0
 refine Nat.le_trans h0 ?_
 cases t with
 | ticket s b =>
   have:=wr_bD s.data.toList;have:=wr_bD b
   rw [size_toList] at *
   simp only [valL,wrL,List.length_append,List.length_nil];have:=h.1;have:=h.2;omega
 | inside f K s a u r =>
   have h1:=wr_bD s.data.toList;have h2:=wr_bD (kl K);have:=wr_nD f;have:=wr_nD a;have:=wr_nD u;have:=wr_nD r
   rw [size_toList] at h1;rw [kl_len] at h2
   simp only [valL,wrL,List.length_append,List.length_nil];have h:s.size<=100000:=h;omega
 | reply f K n s a u r =>
   have h1:=wr_bD s.data.toList;have h2:=wr_bD (kl K);have:=wr_nD f;have:=wr_nD a;have:=wr_nD u;have:=wr_nD r;have:=wr_nD n
   rw [size_toList] at h1;rw [kl_len] at h2
   simp only [valL,wrL,List.length_append,List.length_nil];have h:s.size<=100000:=h;omega
 | authent s t q K b =>
   have h1:=wr_bD s.data.toList;have h2:=wr_bD (kl K);have:=wr_nD t;have:=wr_nD q;have:=wr_bD b
   rw [size_toList] at h1;rw [kl_len] at h2
   simp only [valL,wrL,List.length_append,List.length_nil];have:=h.1;have:=h.2;omega
 | stamp t q =>
   have:=wr_nD t;have:=wr_nD q
   simp only [valL,wrL,List.length_append,List.length_nil];omega
 | fact n s b t =>
   have h1:=wr_bD s.data.toList;have:=wr_nD n;have:=wr_nD t;have:=wr_nD (b.toNat:Int)
   rw [size_toList] at h1
   simp only [valL,wrL,List.length_append,List.length_nil];have h:s.size<=100000:=h;omega
 | plain b =>
   have:=wr_bD b
   simp only [valL,wrL,List.length_append,List.length_nil];have h:b.length<=100000:=h;omega
theorem ThR.keep{G:Nat->Prop}{w w':World}{u:Value}{t:Thing}(h:ThR G w u t)(hs:w.heap.size<=w'.heap.size)(hk:∀ q,G q->w'.heap[q]?=w.heap[q]?):ThR G w' u t:=by
 cases t with
 | ticket s b=>obtain ⟨A,c,h1,h2⟩:=h;exact ⟨A,c,h1,(rSG G _ _).keep h2 hs hk⟩
 | authent s t q K b=>obtain ⟨A,c,h1,h2⟩:=h;exact ⟨A,c,h1,(rSG G _ _).keep h2 hs hk⟩
 | plain b=>obtain ⟨A,c,h1,h2⟩:=h;exact ⟨A,c,h1,(rSG G _ _).keep h2 hs hk⟩
 | inside=>exact h
 | reply=>exact h
 | stamp=>exact h
 | fact=>exact h
/-- A thing in memory, all of it in the blocks G. -/
def rTh(G:Nat->Prop)(u:Value)(t:Thing):Res where
 F:=G
 Φ:=fun w=>(∀ q,G q->q<w.heap.size)/\ThR G w u t
 lt:=fun h=>h.1
 keep:=fun h hs hk=>⟨fun q hq=>Nat.lt_of_lt_of_le (h.1 q hq) hs,h.2.keep hs hk⟩
def WrT(w:World)(l:Bytes)(e:Ending)(w':World):Prop:=∃ A c,e=.returned (.tuple #[.slice A l.length c,.int .i64 0])/\Hp (fun _=>False) w w' [] [rOB (.slice A l.length c) l]
/-- What tick.Pack leaves. -/
def PackPost(w:World)(r:Nat ⊕ Bytes)(e:Ending)(w':World):Prop:=
 match r with
 | .inr b=>WrT w b e w'
 | .inl c=>DPost w (.tuple #[.slice none 0 0,.int .i64 (c:Int)]) e w'
/-- What tick.Unpack leaves. -/
def UnpPost(w:World)(r:Nat ⊕ Thing)(e:Ending)(w':World):Prop:=
 match r with
 | .inr t=>∃ G u,e=.returned (.tuple #[u,.int .i64 0])/\Hp (fun _=>False) w w' [] [rTh G u t]
 | .inl c=>DPost w (.tuple #[.nilIface,.int .i64 (c:Int)]) e w'
section
variable{o:Oper}{a:Act}{F0:Nat->Prop}{w0 w w':World}{ro rs:List Res}
theorem x_wrT(h:Hp F0 w0 w ro rs){l:Bytes}(fn:FuncId)(al:List Value)(hp:pureVal Tryz.prog (execOp a.eval o)=some (.enter fn al.toArray))(hc:Calls Tryz.prog fn al.toArray w (WrT w l)) :
   OpTo Tryz.prog o a w (fun u w'=>∃ A c,u=.tuple #[.slice A l.length c,.int .i64 0]/\Hp F0 w0 w' ro (rOB (.slice A l.length c) l::rs)):=
 OpTo.enter fn al hp hc fun e w' hq=>by
   obtain ⟨A,c,he,h2⟩:=hq
   exact ⟨_,he,A,c,rfl,h.call0 h2⟩
theorem x_ReadT(h:Hp F0 w0 w ro rs){v:DVal}(fn:FuncId)(al:List Value)(hp:pureVal Tryz.prog (execOp a.eval o)=some (.enter fn al.toArray))(hc:Calls Tryz.prog fn al.toArray w (ReadOk w v)) :
   OpTo Tryz.prog o a w (fun u w'=>∃ F B d A c,u=.tuple #[.agg #[.int .i64 (v.kind:Int),.int .i64 (v.tag:Int),.int .u64 (v.n:Int),.slice B v.b.length d,.slice A v.l.length c],.int .i64 0] /\
     Hp F0 w0 w' ro (rDV F [.int .i64 (v.kind:Int),.int .i64 (v.tag:Int),.int .u64 (v.n:Int),.slice B v.b.length d,.slice A v.l.length c] v::rs)):=
 OpTo.enter fn al hp hc fun e w' hq=>by
   obtain ⟨F,cs,he,h2⟩:=hq
   obtain ⟨B,d,A,c,rfl,_⟩:=dv_lst (h2.at_ 0 rfl)
   exact ⟨_,he,F,B,d,A,c,rfl,h.call0 h2⟩
theorem x_val(h:Hp F0 w0 w ro rs){t:Thing}(al:List Value)(hp:pureVal Tryz.prog (execOp a.eval o)=some (.enter 99 al.toArray))(hc:Calls Tryz.prog 99 al.toArray w (ValPost w t)) :
   OpTo Tryz.prog o a w (fun u w'=>∃ g n,u=.tuple #[.agg #[.int .i64 2,.int .i64 (tagTh t:Int),.int .u64 0,.slice none 0 0,.slice (some ⟨g,0,none⟩) n n],.bool (rightTh t)] /\
     (rightTh t=true->∃ F,Hp F0 w0 w' (rDV F [.int .i64 2,.int .i64 (tagTh t:Int),.int .u64 0,.slice none 0 0,.slice (some ⟨g,0,none⟩) n n] (valD t)::ro) rs)/\Hp F0 w0 w' ro rs):=
 OpTo.enter 99 al hp hc fun e w' hq=>by
   obtain ⟨hB,g,n,he,hr⟩:=hq
   refine ⟨_,he,g,n,rfl,fun hh=>?_,h.below hB⟩
   obtain ⟨F,hF,hn⟩:=hr hh
   exact ⟨F,h.newR hB _ hF hn⟩
/-- A value that was read, and what it is. -/
theorem x_of(h:Hp F0 w0 w ro rs)(i:Nat){F:Nat->Prop}{cs:List Value}{v:DVal}(hi:rs[i]?=some (rDV F cs v))(hsm:Sm v.l)(al:List Value)(hp:pureVal Tryz.prog (execOp a.eval o)=some (.enter 90 al.toArray))(hal:al.toArray=#[.agg cs.toArray]){r:Option Thing}(hr:ofF v=r) :
   OpTo Tryz.prog o a w (fun u w'=>match r with
     | some t=>∃ x,u=.tuple #[x,.bool true]/\Hp F0 w0 w' ro (rs.set i (rTh F x t))
     | none=>u=.tuple #[.nilIface,.bool false]/\Hp F0 w0 w' ro rs):=by
 have hv:=h.own i _ hi
 refine OpTo.enter 90 al hp (hal ▸ of_any hsm hv) fun e w' hq=>?_
 rw [hr] at hq
 obtain ⟨hB,hq⟩:=hq
 cases r with
 | none=>exact ⟨_,hq,rfl,h.below hB⟩
 | some t =>
   obtain ⟨x,he,hx⟩:=hq
   exact ⟨_,he,x,rfl,(h.below hB).upd i hi (Fr.refl _ _) (rTh F x t) ⟨fun q hq=>Nat.lt_of_lt_of_le (hv.1 q hq) hB.size,hx⟩ (fun q hq=>.inl hq)⟩
theorem pk_b{fn:FuncId}{al:Array Value}{w:World}{r:Nat ⊕ Bytes}{b:Bytes}(h:r=.inr b)(hd:Calls Tryz.prog fn al w (PackPost w r)):Calls Tryz.prog fn al w (WrT w b):=by subst h;exact hd
theorem pk_e{fn:FuncId}{al:Array Value}{w:World}{r:Nat ⊕ Bytes}{c:Nat}(h:r=.inl c)(hd:Calls Tryz.prog fn al w (PackPost w r)):Calls Tryz.prog fn al w (DPost w (.tuple #[.slice none 0 0,.int .i64 (c:Int)])):=by subst h;exact hd
theorem up_e{fn:FuncId}{al:Array Value}{w:World}{r:Nat ⊕ Thing}{c:Nat}(h:r=.inl c)(hd:Calls Tryz.prog fn al w (UnpPost w r)):Calls Tryz.prog fn al w (DPost w (.tuple #[.nilIface,.int .i64 (c:Int)])):=by subst h;exact hd
theorem x_unp(h:Hp F0 w0 w ro rs){r:Nat ⊕ Thing}{t:Thing}(hr:r=.inr t)(al:List Value)(hp:pureVal Tryz.prog (execOp a.eval o)=some (.enter 60 al.toArray))(hc:Calls Tryz.prog 60 al.toArray w (UnpPost w r)) :
   OpTo Tryz.prog o a w (fun u w'=>∃ G x,u=.tuple #[x,.int .i64 0]/\Hp F0 w0 w' ro (rTh G x t::rs)):=by
 subst hr
 exact OpTo.enter 60 al hp hc fun e w' ⟨G,x,he,h2⟩=>⟨_,he,G,x,rfl,h.call0 h2⟩
theorem rg_b{fn:FuncId}{al:Array Value}{w:World}{r:Nat ⊕ DVal}{c:Nat}(h:r=.inl c)(hd:Calls Tryz.prog fn al w (ReadGOk w r)):Calls Tryz.prog fn al w (DPost w (.tuple #[.agg #[.int .i64 0,.int .i64 0,.int .u64 0,.slice none 0 0,.slice none 0 0],.int .i64 (c:Int)])):=by subst h;exact hd
theorem rg_o{fn:FuncId}{al:Array Value}{w:World}{r:Nat ⊕ DVal}{v:DVal}(h:r=.inr v)(hd:Calls Tryz.prog fn al w (ReadGOk w r)):Calls Tryz.prog fn al w (ReadOk w v):=by subst h;exact hd
theorem RdB_er{L:Bytes}{e:Nat}(h:RdB L=.inl e):e≠0:=by
 unfold RdB at h
 split at h
 · injection h with h;omega
 split at h
 · rename_i hr;injection h with h;subst h;exact rdB_er 8 _ _ hr
 split at h
 · injection h with h;omega
 cases h
end
end
section
open Go.RowKit Go.QT
theorem Write_long(F:Nat->Prop)(cs:List Value)(v:DVal)(w:World)(hv:(rDV F cs v).Φ w)(hr:rightV v 1=true)(hn:4096<(wrV v).length)(hn2:(wrV v).length<=1000000):Calls Tryz.prog 73 #[.agg cs.toArray] w (DPost w (.tuple #[.slice none 0 0,.int .i64 20])):=by
 obtain ⟨k,t,n,b,ts⟩:=v
 obtain ⟨B,dd,A,c,xs,rfl,hbb,hxx,hll,hn6,hbF,hLL⟩:=dv_open hv
 simp only [DVal.kind,DVal.tag,DVal.n,DVal.b,DVal.l] at *
 have hcap:ts.length<=9223372036854775807:=by have h1:=hxx.le;have h2:=hxx.cap;unfold maxLen at h2;omega
 have h0:=Hp.ro1 (rDV F _ _) hv
 refine mE 14 ?_
 refine mN h0 196 ([(Value.int .i64 ((k:Int))),(Value.int .i64 ((t:Int))),(Value.int .u64 ((n:Int))),(Value.slice B b.length dd),(Value.slice A ts.length c)]) fun g2 w2 h2=>?_
 refine ma h2 0 ?_
 refine mT (x_dp (v:=.bool true) h2 102 [(Value.agg ([(Value.int .i64 ((k:Int))),(Value.int .i64 ((t:Int))),(Value.int .u64 ((n:Int))),(Value.slice B b.length dd),(Value.slice A ts.length c)]).toArray)] (by kernel_rfl) (by have hz:=Right_any F _ (DVal.mk k t n b ts) _ (h2.rd 0 rfl);rw [hr] at hz;exact hz)) ?_
 rintro _ w5 ⟨rfl,h5⟩
 refine ma h5 0 ?_
 refine mT (x_bytesE h5 103 [(Value.agg ([(Value.int .i64 ((k:Int))),(Value.int .i64 ((t:Int))),(Value.int .u64 ((n:Int))),(Value.slice B b.length dd),(Value.slice A ts.length c)]).toArray)] (by kernel_rfl) (write_any 8 1 (by omega) F _ (DVal.mk k t n b ts) _ (h5.rd 0 rfl) hr (by omega)) (wrV (DVal.mk k t n b ts)) ((wrV (DVal.mk k t n b ts)).length) rfl rfl) ?_
 rintro _ w7 ⟨A7,c7,rfl,h7⟩
 refine mX 12 (.bool true) (Value.bool (decide (((wrV (DVal.mk k t n b ts)).length:Int)>4096))) (by simp;omega) ?_
 exact mQ h7
theorem pack_no{G:Nat->Prop}{u:Value}{t:Thing}{w:World}(hu:(rTh G u t).Φ w)(hl:limTh t)(hr:rightTh t=false):Calls Tryz.prog 79 #[u] w (DPost w (.tuple #[.slice none 0 0,.int .i64 7])):=by
 have h0:=Hp.ro1 (rTh G u t) hu
 refine mE 17 ?_
 refine mT (x_val h0 [u] (by kernel_rfl) (val_any t (h0.rd 0 rfl).2 hl)) ?_
 rintro _ w3 ⟨g3,n3,rfl,hf3,h3⟩
 refine mN h3 196 ([(Value.int .i64 0),(Value.int .i64 0),(Value.int .u64 0),(Value.slice none 0 0),(Value.slice none 0 0)]) fun g4 w4 h4=>?_
 refine mT (xSs h4 0 196 (.tmp 4) (.tmp 9) 0 ([(Value.int .i64 2),(Value.int .i64 ((tagTh t:Int))),(Value.int .u64 0),(Value.slice none 0 0),(Value.slice (some ⟨g3,0,none⟩) n3 n3)]) ([(Value.int .i64 2),(Value.int .i64 ((tagTh t:Int))),(Value.int .u64 0),(Value.slice none 0 0),(Value.slice (some ⟨g3,0,none⟩) n3 n3)])) fun _ w5 h5=>?_
 refine mX 12 (Value.bool true) (Value.bool (!((rightTh t)))) (congrArg Value.bool (by rw [hr];rfl)) ?_
 exact mQ h5
theorem pack_long{G:Nat->Prop}{u:Value}{t:Thing}{w:World}(hu:(rTh G u t).Φ w)(hl:limTh t)(hr:rightTh t=true)(hn:4096<(wrV (valD t)).length):Calls Tryz.prog 79 #[u] w (DPost w (.tuple #[.slice none 0 0,.int .i64 20])):=by
 have h0:=Hp.ro1 (rTh G u t) hu
 refine mE 17 ?_
 refine mT (x_val h0 [u] (by kernel_rfl) (val_any t (h0.rd 0 rfl).2 hl)) ?_
 rintro _ w3 ⟨g3,n3,rfl,hf3,h3⟩
 obtain ⟨F4,h4⟩:=hf3 hr
 refine mN h4 196 ([(Value.int .i64 0),(Value.int .i64 0),(Value.int .u64 0),(Value.slice none 0 0),(Value.slice none 0 0)]) fun g5 w5 h5=>?_
 refine mT (xSs h5 0 196 (.tmp 4) (.tmp 9) 0 ([(Value.int .i64 2),(Value.int .i64 ((tagTh t:Int))),(Value.int .u64 0),(Value.slice none 0 0),(Value.slice (some ⟨g3,0,none⟩) n3 n3)]) ([(Value.int .i64 2),(Value.int .i64 ((tagTh t:Int))),(Value.int .u64 0),(Value.slice none 0 0),(Value.slice (some ⟨g3,0,none⟩) n3 n3)])) fun _ w6 h6=>?_
 refine mX 12 (Value.bool false) (Value.bool (!((rightTh t)))) (congrArg Value.bool (by rw [hr];rfl)) ?_
 refine ma h6 0 ?_
 refine mD h6 [(Value.agg ([(Value.int .i64 2),(Value.int .i64 ((tagTh t:Int))),(Value.int .u64 0),(Value.slice none 0 0),(Value.slice (some ⟨g3,0,none⟩) n3 n3)]).toArray)] (Write_long _ _ _ _ (h6.rd 0 rfl) (rightV_val t) hn (val_len hl)) (fun w10 h10=>?_)
 exact mQ h10
theorem pack_ok{G:Nat->Prop}{u:Value}{t:Thing}{w:World}(hu:(rTh G u t).Φ w)(hl:limTh t)(hr:rightTh t=true)(hn:(wrV (valD t)).length<=4096):Calls Tryz.prog 79 #[u] w (WrT w (wrV (valD t))):=by
 have h0:=Hp.ro1 (rTh G u t) hu
 refine mE 17 ?_
 refine mT (x_val h0 [u] (by kernel_rfl) (val_any t (h0.rd 0 rfl).2 hl)) ?_
 rintro _ w3 ⟨g3,n3,rfl,hf3,h3⟩
 obtain ⟨F4,h4⟩:=hf3 hr
 refine mN h4 196 ([(Value.int .i64 0),(Value.int .i64 0),(Value.int .u64 0),(Value.slice none 0 0),(Value.slice none 0 0)]) fun g5 w5 h5=>?_
 refine mT (xSs h5 0 196 (.tmp 4) (.tmp 9) 0 ([(Value.int .i64 2),(Value.int .i64 ((tagTh t:Int))),(Value.int .u64 0),(Value.slice none 0 0),(Value.slice (some ⟨g3,0,none⟩) n3 n3)]) ([(Value.int .i64 2),(Value.int .i64 ((tagTh t:Int))),(Value.int .u64 0),(Value.slice none 0 0),(Value.slice (some ⟨g3,0,none⟩) n3 n3)])) fun _ w6 h6=>?_
 refine mX 12 (Value.bool false) (Value.bool (!((rightTh t)))) (congrArg Value.bool (by rw [hr];rfl)) ?_
 refine ma h6 0 ?_
 refine mT (x_wrT h6 73 [(Value.agg ([(Value.int .i64 2),(Value.int .i64 ((tagTh t:Int))),(Value.int .u64 0),(Value.slice none 0 0),(Value.slice (some ⟨g3,0,none⟩) n3 n3)]).toArray)] (by kernel_rfl) (Write_any _ _ _ _ (h6.rd 0 rfl) (rightV_val t) hn)) ?_
 rintro _ w10 ⟨A10,c10,rfl,h10⟩
 refine mP (Value.tuple #[(Value.slice A10 ((wrV (valD t)).length) c10),(Value.int .i64 0)]) ?_
 exact ⟨_,_,rfl,h10.sel [0] [] rfl rfl rfl⟩
/-- tick.Pack. -/
theorem pack_any{G:Nat->Prop}{u:Value}{t:Thing}{w:World}(hu:(rTh G u t).Φ w)(hl:limTh t):Calls Tryz.prog 79 #[u] w (PackPost w (packB t)):=by
 unfold packB
 split
 · rename_i hr
   split
   · rename_i hn;exact pack_ok hu hl hr hn
   rename_i hn;exact pack_long hu hl hr (by omega)
 rename_i hr;exact pack_no hu hl (by simpa using hr)
theorem unp_err{L:Bytes}{A:Option Addr}{c:Nat}{w:World}(hv:SB w (.slice A L.length c) L){ee:Nat}(hr:RdB L=.inl ee):Calls Tryz.prog 60 #[.slice A L.length c] w (DPost w (.tuple #[.nilIface,.int .i64 (ee:Int)])):=by
 have h0:=Hp.ro1 (rSB (.slice A L.length c) L) hv
 refine mE 24 ?_
 refine mD h0 [(Value.slice A L.length c)] (rg_b hr (Rd_all L _ _ (h0.rd 0 rfl))) (fun w3 h3=>?_)
 refine mN h3 196 ([(Value.int .i64 0),(Value.int .i64 0),(Value.int .u64 0),(Value.slice none 0 0),(Value.slice none 0 0)]) fun g4 w4 h4=>?_
 refine mT (xSs h4 0 196 (.tmp 4) (.tmp 11) 0 ([(Value.int .i64 0),(Value.int .i64 0),(Value.int .u64 0),(Value.slice none 0 0),(Value.slice none 0 0)]) ([(Value.int .i64 0),(Value.int .i64 0),(Value.int .u64 0),(Value.slice none 0 0),(Value.slice none 0 0)])) fun _ w5 h5=>?_
 refine mX 14 (.bool true) (Value.bool (((ee:Int)) != 0)) (ine (b:=0) (RdB_er hr)) ?_
 exact mQ h5
theorem unp_no{L:Bytes}{A:Option Addr}{c:Nat}{w:World}(hv:SB w (.slice A L.length c) L){v:DVal}(hr:RdB L=.inr v)(ho:ofF v=none):Calls Tryz.prog 60 #[.slice A L.length c] w (DPost w (.tuple #[.nilIface,.int .i64 4])):=by
 have h0:=Hp.ro1 (rSB (.slice A L.length c) L) hv
 refine mE 24 ?_
 refine mT (x_ReadT h0 74 [(Value.slice A L.length c)] (by kernel_rfl) (rg_o hr (Rd_all L _ _ (h0.rd 0 rfl)))) ?_
 rintro _ w3 ⟨F3,B3,d3,A3,c3,rfl,h3⟩
 refine mN h3 196 ([(Value.int .i64 0),(Value.int .i64 0),(Value.int .u64 0),(Value.slice none 0 0),(Value.slice none 0 0)]) fun g4 w4 h4=>?_
 refine mT (xSs h4 0 196 (.tmp 4) (.tmp 11) 0 ([(Value.int .i64 ((v.kind:Int))),(Value.int .i64 ((v.tag:Int))),(Value.int .u64 ((v.n:Int))),(Value.slice B3 v.b.length d3),(Value.slice A3 v.l.length c3)]) ([(Value.int .i64 ((v.kind:Int))),(Value.int .i64 ((v.tag:Int))),(Value.int .u64 ((v.n:Int))),(Value.slice B3 v.b.length d3),(Value.slice A3 v.l.length c3)])) fun _ w5 h5=>?_
 refine ma h5 0 ?_
 refine mT (x_of h5 1 rfl (RdB_sm hr) [(Value.agg ([(Value.int .i64 ((v.kind:Int))),(Value.int .i64 ((v.tag:Int))),(Value.int .u64 ((v.n:Int))),(Value.slice B3 v.b.length d3),(Value.slice A3 v.l.length c3)]).toArray)] (by kernel_rfl) rfl ho) ?_
 rintro _ w9 ⟨rfl,h9⟩
 exact mQ h9
theorem unp_yes{L:Bytes}{A:Option Addr}{c:Nat}{w:World}(hv:SB w (.slice A L.length c) L){v:DVal}{t:Thing}(hr:RdB L=.inr v)(ho:ofF v=some t):Calls Tryz.prog 60 #[.slice A L.length c] w (UnpPost w (.inr t)):=by
 have h0:=Hp.ro1 (rSB (.slice A L.length c) L) hv
 refine mE 24 ?_
 refine mT (x_ReadT h0 74 [(Value.slice A L.length c)] (by kernel_rfl) (rg_o hr (Rd_all L _ _ (h0.rd 0 rfl)))) ?_
 rintro _ w3 ⟨F3,B3,d3,A3,c3,rfl,h3⟩
 refine mN h3 196 ([(Value.int .i64 0),(Value.int .i64 0),(Value.int .u64 0),(Value.slice none 0 0),(Value.slice none 0 0)]) fun g4 w4 h4=>?_
 refine mT (xSs h4 0 196 (.tmp 4) (.tmp 11) 0 ([(Value.int .i64 ((v.kind:Int))),(Value.int .i64 ((v.tag:Int))),(Value.int .u64 ((v.n:Int))),(Value.slice B3 v.b.length d3),(Value.slice A3 v.l.length c3)]) ([(Value.int .i64 ((v.kind:Int))),(Value.int .i64 ((v.tag:Int))),(Value.int .u64 ((v.n:Int))),(Value.slice B3 v.b.length d3),(Value.slice A3 v.l.length c3)])) fun _ w5 h5=>?_
 refine ma h5 0 ?_
 refine mT (x_of h5 1 rfl (RdB_sm hr) [(Value.agg ([(Value.int .i64 ((v.kind:Int))),(Value.int .i64 ((v.tag:Int))),(Value.int .u64 ((v.n:Int))),(Value.slice B3 v.b.length d3),(Value.slice A3 v.l.length c3)]).toArray)] (by kernel_rfl) rfl ho) ?_
 rintro _ w9 ⟨x9,rfl,h9⟩
 refine mP (Value.tuple #[x9,(Value.int .i64 0)]) ?_
 exact ⟨_,_,rfl,h9.sel [1] [] rfl rfl rfl⟩
/-- tick.Unpack. -/
theorem unp_any{L:Bytes}{x:Value}{w:World}(hv:SB w x L):Calls Tryz.prog 60 #[x] w (UnpPost w (unpB L)):=by
 obtain ⟨A,c,rfl,_⟩:=id hv
 unfold unpB
 split
 · rename_i hr;exact unp_err hv hr
 rename_i v hr
 split
 · rename_i ho;exact unp_yes hv hr ho
 rename_i ho;exact unp_no hv hr ho
end
section
open Go.RowKit Go.QT
theorem tab16{w:World}{F:Nat->Prop}{tb:Nat}{s:STab}(h:TabAt w F tb s):∀ b ∈ s.boxes,b.by_.length=16:=by
 obtain ⟨mb,vk,vx,vs,bodies,sums,es,clock,hR⟩:=h
 exact hR.xl
/-- What a box is: tick.Open, ahead of the type. -/
def openTh(s:STab)(k:Bytes)(u:Int)(l:Bytes):Nat ⊕ Thing:=
 match s.open_ k u l with
 | none=>.inl 13
 | some b=>unpB b
/-- Boxes that may be opened. -/
def TabOk(s:STab):Prop:=(∀ b ∈ s.boxes,b.body.length<=1000000)/\s.boxes.length<1000000
def tyTh:Thing->TypeId
 | .ticket ..=>39
 | .inside ..=>187
 | .reply ..=>211
 | .authent ..=>71
 | .stamp ..=>104
 | .fact ..=>49
 | .plain ..=>276
theorem ThR.ty{G:Nat->Prop}{w:World}{u:Value}{t:Thing}(h:ThR G w u t):∃ v,u=.iface (tyTh t) v:=by
 cases t with
 | ticket=>obtain ⟨A,c,rfl,_⟩:=h;exact ⟨_,rfl⟩
 | authent=>obtain ⟨A,c,rfl,_⟩:=h;exact ⟨_,rfl⟩
 | plain=>obtain ⟨A,c,rfl,_⟩:=h;exact ⟨_,rfl⟩
 | inside=>exact ⟨_,h⟩
 | reply=>exact ⟨_,h⟩
 | stamp=>exact ⟨_,h⟩
 | fact=>exact ⟨_,h⟩
def structB(P:Program)(t:TypeId):Bool:=match P.underlying t with
 | some (.struct _)=>true
 | _=>false
section
variable{P:Program}{o:Oper}{a:Act}{F0 F:Nat->Prop}{w0 w w':World}{ro rs:List Res}{tb:Nat}{s:STab}
/-- x.(T), of another type. -/
theorem e_asNo{T' ta xt:TypeId}{v z:Value}(x:Operand)(ho:o.op=.typeAssert x xt ta true)(hx:a.eval x=.iface T' v)(hne:T'≠ta)(hu:structB P ta=true)(hz:pureVal P (zeroValue ta)=some z)(W:World) :
   (execOp a.eval o).run P W=.ok (.value (.tuple #[z,.bool false])) W:=by
 unfold structB at hu
 split at hu
 · rename_i fs hf
   have h1:(Instr.typeAssert (.iface T' v) xt ta true).run P W=.ok (.tuple #[z,.bool false]) W:=by
     simp [Instr.typeAssert,run_underlying hf,hne,pureVal_run hz]
   unfold execOp
   simp only [ho,hx,Sem.run_bind,h1,Result.andThen_ok,Sem.run_pure]
 cases hu
theorem x_openR(h:Hp F0 w0 w ro rs)(k:Nat)(hk:ro[k]?=some (rTab F tb s))(hs:TabOk s)(K:Fin 16->UInt8)(u:Int)(l:Bytes)(bv:Value)(r:Option Bytes)(hp:pureVal Tryz.prog (execOp a.eval o)=some (.enter 162 #[pt tb 0,.agg (vb (kl K)).toArray,.int .i64 u,bv]))(hb:SB w bv l)(hr:s.open_ (kl K) u l=r) :
   OpTo Tryz.prog o a w (fun u' w'=>∃ A cc,u'=.tuple #[.slice A (r.getD []).length cc,.bool r.isSome]/\Hp F0 w0 w' ro (rOB (.slice A (r.getD []).length cc) (r.getD [])::rs)):=
 OpTo.enter 162 [pt tb 0,.agg (vb (kl K)).toArray,.int .i64 u,bv] hp (open_any F tb s (kl K) u l bv w (h.rd k hk) (kl_len K) hb hs.1 (tab16 (h.rd k hk)) hs.2) fun e w' hq=>by
   subst hr
   obtain ⟨v,he,ho,hb⟩:=hq
   obtain ⟨A,cc,rfl,_⟩:=ho.sb
   exact ⟨_,he,A,cc,rfl,h.newS hb _ (ho.mono (Nat.zero_le _)) (fun q hq=>(ho.own q hq).1)⟩
/-- Seal: the box's mark is the call's own. -/
theorem x_sealS(h:Hp F0 w0 w ro rs)(i:Nat)(hi:rs[i]?=some (rTab F tb s))(K:Fin 16->UInt8)(u:Int)(l:Bytes)(bv:Value)(hp:pureVal Tryz.prog (execOp a.eval o)=some (.enter 163 #[pt tb 0,.agg (vb (kl K)).toArray,.int .i64 u,bv]))(hb:SB w bv l)(hl:l.length<=1000000)(hn:s.boxes.length<1000000) :
   OpTo Tryz.prog o a w (fun u' w'=>∃ A cc F',u'=.slice A 16 cc/\Hp F0 w0 w' ro (rSB (.slice A 16 cc) (mkB 98 (s.boxes.length+1))::rs.set i (rTab F' tb (s.seal (kl K) u l)))):=
 OpTo.enter 163 [pt tb 0,.agg (vb (kl K)).toArray,.int .i64 u,bv] hp (seal_any F tb s (kl K) u l bv w (h.own i _ hi) (kl_len K) hb hl hn) fun e w' hq=>by
   obtain ⟨v,F',he,hsb,hT,h1,h2,hf,hn⟩:=hq
   obtain ⟨A,cc,rfl,hc1,hc2,hcell⟩:=hsb
   have hil:i<rs.length:=(List.getElem?_eq_some_iff.1 hi).1
   have hs:SB w' (.slice A (mkB 98 (s.boxes.length+1)).length cc) (mkB 98 (s.boxes.length+1)):=⟨A,cc,rfl,hc1,hc2,hcell⟩
   rw [mkB_len] at hs he hn
   refine ⟨_,he,A,cc,F',rfl,(h.upd i hi hf (rTab F' tb (s.seal (kl K) u l)) hT h1).addS (rSB (.slice A 16 cc) (mkB 98 (s.boxes.length+1))) hs (fun q hq=>.inr (Nat.le_trans h.fr.size (hn q hq.2).1)) (fun j t ht q h3 h4=>?_) (fun j t ht q h3 h4=>?_)⟩
   · by_cases e:j=i
     · subst e
       rw [List.getElem?_set_self hil] at ht
       injection ht with ht
       subst ht
       exact (hn q h3.2).2 h4
     rw [List.getElem?_set_ne (Ne.symm e)] at ht
     exact absurd (t.lt (h.own j t ht) q h4) (Nat.not_lt.2 (hn q h3.2).1)
   exact absurd (t.lt (h.red j t ht) q h4) (Nat.not_lt.2 (hn q h3.2).1)
end
/-- What tick.Seal leaves. -/
def TSealPost(w:World)(F:Nat->Prop)(tb:Nat)(s:STab)(K:Fin 16->UInt8)(u:Int)(r:Nat ⊕ Bytes)(e:Ending)(w':World):Prop:=
 match r with
 | .inr b=>∃ A c F',e=.returned (.tuple #[.slice A 16 c,.int .i64 0])/\Hp F w w' [] [rTab F' tb (s.seal (kl K) u b),rSB (.slice A 16 c) (mkB 98 (s.boxes.length+1))]
 | .inl c=>DPost w (.tuple #[.slice none 0 0,.int .i64 (c:Int)]) e w'
end
section
open Go.RowKit Go.QT
theorem pack_er{t:Thing}{c:Nat}(h:packB t=.inl c):c≠0:=by
 unfold packB at h
 split at h
 · split at h
   · cases h
   injection h with h;omega
 injection h with h;omega
theorem pack_le{t:Thing}{b:Bytes}(h:packB t=.inr b):b.length<=4096:=by
 unfold packB at h
 split at h
 · split at h
   · rename_i hl;injection h with h;subst h;exact hl
   cases h
 cases h
theorem tseal_no{G:Nat->Prop}{x:Value}{t:Thing}{tb:Nat}{K:Fin 16->UInt8}{us:Int}{w:World}(hu:(rTh G x t).Φ w)(hl:limTh t){cc:Nat}(hp:packB t=.inl cc):Calls Tryz.prog 48 #[(Value.iface 30 (pt tb 0)),(Value.agg (vb (kl K)).toArray),.int .i64 us,x] w (DPost w (.tuple #[.slice none 0 0,.int .i64 (cc:Int)])):=by
 have h0:=Hp.ro1 (rTh G x t) hu
 refine mE 25 ?_
 refine mN h0 41 (vb (kl K)) fun g2 w2 h2=>?_
 refine mD h2 [x] (pk_e hp (pack_any (h2.rd 0 rfl) hl)) (fun w4 h4=>?_)
 refine mX 18 (.bool true) (Value.bool (((cc:Int)) != 0)) (ine (b:=0) (pack_er hp)) ?_
 exact mQ h4
theorem tseal_ok{G F:Nat->Prop}{x:Value}{t:Thing}{tb:Nat}{s:STab}{K:Fin 16->UInt8}{us:Int}{w:World}(hT:(rTab F tb s).Φ w)(hs:TabOk s)(hu:(rTh G x t).Φ w)(hd:∀ q,G q->¬ F q)(hl:limTh t){b:Bytes}(hp:packB t=.inr b)(hbl:b.length<=1000000):Calls Tryz.prog 48 #[(Value.iface 30 (pt tb 0)),(Value.agg (vb (kl K)).toArray),.int .i64 us,x] w (TSealPost w F tb s K us (.inr b)):=by
 have h0:=(Hp.one (rTab F tb s) hT).addR (rTh G x t) hu (fun j r hj=>by have:=sel1 hj;injection this with this;subst this;exact hd)
 refine mE 25 ?_
 refine mN h0 41 (vb (kl K)) fun g2 w2 h2=>?_
 refine mT (x_wrT h2 79 [x] (by kernel_rfl) (pk_b hp (pack_any (h2.rd 0 rfl) hl))) ?_
 rintro _ w4 ⟨A4,c4,rfl,h4⟩
 refine ma h4 1 ?_
 refine mT (x_sealS h4 2 rfl K us b (Value.slice A4 b.length c4) (by kernel_rfl) (OB.sb (h4.at_ 0 rfl)) hbl hs.2) ?_
 rintro _ w8 ⟨A8,c8,F8,rfl,h8⟩
 refine mP (Value.tuple #[(Value.slice A8 16 c8),(Value.int .i64 0)]) ?_
 exact ⟨_,_,_,rfl,h8.sel [3,0] [] rfl rfl rfl⟩
/-- tick.Seal. -/
theorem tseal_any{G F:Nat->Prop}{x:Value}{t:Thing}{tb:Nat}{s:STab}{K:Fin 16->UInt8}{us:Int}{w:World}(hT:(rTab F tb s).Φ w)(hs:TabOk s)(hu:(rTh G x t).Φ w)(hd:∀ q,G q->¬ F q)(hl:limTh t):Calls Tryz.prog 48 #[(Value.iface 30 (pt tb 0)),(Value.agg (vb (kl K)).toArray),.int .i64 us,x] w (TSealPost w F tb s K us (packB t)):=by
 rcases hp:packB t with c|b
 · exact tseal_no hu hl hp
 exact tseal_ok hT hs hu hd hl hp (by have:=pack_le hp;omega)
end
end Go.Proofs.YtaoijkhndakppaaGreat
