/- The row of KtgsDirs: for every input the law returns true and what came in reads as it did. -/
import Derived.ChangeMaps5
import Derived.Test.YtdefpmmdpfpipaaGreatCA15
set_option maxRecDepth 100000
set_option maxHeartbeats 4000000
namespace Go.Proofs.YtdefpmmdpfpipaaGreat
section
open Go.RowKit Go.QT
end
section
open Go.RowKit Go.QT
theorem who_e1{F G:Nat->Prop}{sv kb cb bk tb bb most:Nat}{Kk:Fin 16->UInt8}{s:STab}{sl:List Sh}{now:Int}{C D:Option Addr}{c d:Nat}{l au:Bytes}{Rq:Res}{qv:Value}{ts:ByteArray}{ec:Nat}{w:World}
   (h0:Hp (fun q=>F q∨G q) w w [rBlk sv 73 (svC kb cb bk),rBlk kb 78 (kdcC tb bb Kk),rSB (Value.slice C l.length c) l,rSB (Value.slice D au.length d) au,Rq] [rTab F tb s,rCa G cb most sl]) (hO:∀ w',Hp (fun _=>False) w' w' [rBlk sv 73 (svC kb cb bk),rBlk kb 78 (kdcC tb bb Kk),rTab F tb s,rSB (Value.slice C l.length c) l] []->Calls Tryz.prog 47 #[pt sv 0,.int .i64 now,(Value.agg ([(Value.string ts),(Value.slice C l.length c)]).toArray)] w' (DPost w' (.tuple #[(Value.agg ([(Value.int .i64 0)]++vb (List.replicate 16 0)++[(Value.string ByteArray.empty),(Value.int .i64 0),(Value.int .i64 0),(Value.int .i64 0)]).toArray),.int .i64 (ec:Int)]))) (hec:ec≠0) :
   Calls Tryz.prog 29 #[pt sv 0,.int .i64 now,(Value.agg ([(Value.string ts),(Value.slice C l.length c)]).toArray),(Value.slice D au.length d),qv] w (WhPost F G tb cb most (Value.agg ([(Value.int .i64 0)]++vb (kl zK)++[(Value.string ByteArray.empty),(Value.int .i64 0),(Value.int .i64 0),(Value.int .i64 0)]).toArray) s (ec,sl) w):=by
 have h0:=h0
 refine mE 79 ?_
 refine mN h0 35 ([(Value.string ts),(Value.slice C l.length c)]) fun g2 w2 h2=>?_
 refine mN h2 54 ([(Value.int .i64 0)]++vb (List.replicate 16 0)++[(Value.string ByteArray.empty),(Value.int .i64 0),(Value.int .i64 0),(Value.int .i64 0)]) fun g3 w3 h3=>?_
 refine ma h3 1 ?_
 refine mD h3 [(pt sv 0),(Value.int .i64 now),(Value.agg ([(Value.string ts),(Value.slice C l.length c)]).toArray)] (hO _ (h3.carve0 [(false,0),(false,1),(true,2),(false,2)] rfl)) (fun w5 h5=>?_)
 refine mN h5 54 ([(Value.int .i64 0)]++vb (List.replicate 16 0)++[(Value.string ByteArray.empty),(Value.int .i64 0),(Value.int .i64 0),(Value.int .i64 0)]) fun g6 w6 h6=>?_
 refine mT (xR h6 0 ([(Value.int .i64 0)]++vb (List.replicate 16 0)++[(Value.string ByteArray.empty),(Value.int .i64 0),(Value.int .i64 0),(Value.int .i64 0)])) fun _ w7 h7=>?_
 refine mX 23 (.bool true) (Value.bool (((ec:Int)) != 0)) (by simp;omega) ?_
 refine ma h7 0 ?_
 refine mT (xR h7 1 ([(Value.int .i64 0)]++vb (List.replicate 16 0)++[(Value.string ByteArray.empty),(Value.int .i64 0),(Value.int .i64 0),(Value.int .i64 0)])) fun _ w11 h11=>?_
 refine mF (post_2 (r:=.cell 10 54) (s:=.tmp 11) (by kernel_rfl) rfl (rce (h11.at_ 1 rfl)) (rtm (Value.int .i64 ((ec:Int)))) ?_)
 exact ⟨_,_,by kernel_rfl,h11.sel [3,4] [] rfl rfl rfl⟩
end
section
open Go.RowKit Go.QT
/-- What Set leaves. -/
def BookP(G:Nat->Prop)(bk ec:Nat)(o:Option (ByteArray × Int))(w:World)(e:Ending)(w':World):Prop:=e=.returned (.int .i64 (ec:Int))/\∃ G',Hp G w w' [] [rBk G' bk o]
theorem bmfNone{s:ByteArray}:bmF none s=none:=rfl
theorem bmfNe{s a:ByteArray}{t:Int}(h:s≠a):bmF (some (a,t)) s=none:=by exact if_neg h
theorem bmfEq{s a:ByteArray}{t:Int}(h:s=a):bmF (some (a,t)) s=some (0,.int .i64 t):=by exact if_pos h
theorem nright_dp(s:ByteArray)(w:World)(hs:s.size<=1000000000):Calls Tryz.prog 55 #[.string s] w (DPost w (.bool (rightN s))):=nright_any s w hs
theorem bkSet_late{G:Nat->Prop}{bk:Nat}{o:Option (ByteArray × Int)}{s:ByteArray}{now t:Int}{w:World}(hB:(rBk G bk o).Φ w)(hr:rightN s=true)(hsz:s.size<=1000000000)(hs:∀ p,o=some p->p.1=s)(ht:t<=now):Calls Tryz.prog 37 #[pt bk 0,.int .i64 now,.string s,.int .i64 t] w (BookP G bk 12 none w):=by
 obtain ⟨mb,hG,h00⟩:=(Hp.one (rBk G bk o) hB).openBk 0 rfl
 have h0:=(show Hp G w w [] (lBk bk mb o++[]) from h00)
 refine mE 67 ?_
 refine mT (x_dp (v:=.bool true) h0 55 [(Value.string s)] (by kernel_rfl) (hr ▸ nright_dp _ _ hsz)) ?_
 rintro _ w4 ⟨rfl,h4⟩
 refine mX 18 (.bool true) (Value.bool (decide (t<=now))) (by simp;omega) ?_
 refine ma h4 0 ?_
 refine mT (x_bmDel h4 1 rfl (.tmp 22) (.tmp 23) 9 (by kernel_rfl) s (by kernel_rfl) (by kernel_rfl) hs) fun _ w8 h8=>?_
 refine mP (Value.int .i64 12) ?_
 exact ⟨rfl,_,(show Hp _ _ _ _ (lBk bk mb none++[]) from h8.sel [0,1] [] rfl rfl rfl).closeBk⟩
theorem bkSet_0{G:Nat->Prop}{bk:Nat}{s:ByteArray}{now t:Int}{w:World}(hB:(rBk G bk none).Φ w)(hr:rightN s=true)(hsz:s.size<=1000000000)(ht:now<t) :Calls Tryz.prog 37 #[pt bk 0,.int .i64 now,.string s,.int .i64 t] w (BookP G bk 0 (some (s,t)) w):=by
 obtain ⟨mb,hG,h00⟩:=(Hp.one (rBk G bk none) hB).openBk 0 rfl
 have h0:=(show Hp G w w [] (lBk bk mb none++[]) from h00)
 refine mE 67 ?_
 refine mT (x_dp (v:=.bool true) h0 55 [(Value.string s)] (by kernel_rfl) (hr ▸ nright_dp _ _ hsz)) ?_
 rintro _ w4 ⟨rfl,h4⟩
 refine mX 18 (.bool false) (Value.bool (decide (t<=now))) (by simp;omega) ?_
 refine ma h4 0 ?_
 refine mT (x_bmRange h4 1 rfl (.tmp 27) (by kernel_rfl) (by kernel_rfl)) ?_
 rintro _ w9 ⟨r9,rfl,h9⟩
 refine mL (fun mM xX aA wL=>(mM=0/\aA=patch xX 67 [(0,(pt bk 0)),(1,(Value.int .i64 now)),(2,(Value.string s)),(3,(Value.int .i64 t)),(8,(Value.int .i64 0)),(28,(pt r9 0))]/\Hp G w wL [] [rBlk bk 164 ([(Value.map (some mb))]),rBi mb r9 none false])) ⟨_,_,⟨rfl,pM,h9⟩⟩ ?_
 rintro _ x11 _ w11 (⟨rfl,rfl,h11⟩) KL11 hKL11
 refine mAt ?_
 refine mT (x_bmOver h11 1 rfl (.inr rfl) (.tmp 28) (by kernel_rfl) (by kernel_rfl)) ?_
 rintro _ w13 ⟨rfl,h13⟩
 refine ma h13 0 ?_
 refine mW 48 (v:=(Value.tuple #[(Value.int .i64 0),(Value.bool false)])) (e_bmLook (h13.at_ 1 rfl) (.tmp 46) (.tmp 47) (by kernel_rfl) s (by kernel_rfl) (by kernel_rfl) (Value.tuple #[(Value.int .i64 0),(Value.bool false)]) (by rw [bmfNone])) ?_
 refine ma h13 0 ?_
 refine mW 58 (v:=(Value.int .i64 0)) (e_bmLen (h13.at_ 1 rfl) (.tmp 57) (by kernel_rfl) (by kernel_rfl) 0 rfl) ?_
 refine ma h13 0 ?_
 refine mT (x_bmUpd h13 1 rfl (.tmp 64) (.tmp 65) (.tmp 66) (by kernel_rfl) s t (by kernel_rfl) (by kernel_rfl) (by kernel_rfl) (fun _ hh=>by cases hh)) fun _ w19 h19=>?_
 refine mP (Value.int .i64 0) ?_
 exact ⟨rfl,_,(show Hp _ _ _ _ (lBk bk mb (some (s,t))++[]) from h19.sel [0,1] [] rfl rfl rfl).closeBk⟩
theorem bkSet_1{G:Nat->Prop}{bk:Nat}{s:ByteArray}{now t t0:Int}{w:World}(hB:(rBk G bk (some (s,t0))).Φ w)(hr:rightN s=true)(hsz:s.size<=1000000000)(ht:now<t)(hq:t0<=now):Calls Tryz.prog 37 #[pt bk 0,.int .i64 now,.string s,.int .i64 t] w (BookP G bk 0 (some (s,t)) w):=by
 obtain ⟨mb,hG,h00⟩:=(Hp.one (rBk G bk (some (s,t0))) hB).openBk 0 rfl
 have h0:=(show Hp G w w [] (lBk bk mb (some (s,t0))++[]) from h00)
 refine mE 67 ?_
 refine mT (x_dp (v:=.bool true) h0 55 [(Value.string s)] (by kernel_rfl) (hr ▸ nright_dp _ _ hsz)) ?_
 rintro _ w4 ⟨rfl,h4⟩
 refine mX 18 (.bool false) (Value.bool (decide (t<=now))) (by simp;omega) ?_
 refine ma h4 0 ?_
 refine mT (x_bmRange h4 1 rfl (.tmp 27) (by kernel_rfl) (by kernel_rfl)) ?_
 rintro _ w9 ⟨r9,rfl,h9⟩
 refine mL (fun mM xX aA wL=>(mM=1/\aA=patch xX 67 [(0,(pt bk 0)),(1,(Value.int .i64 now)),(2,(Value.string s)),(3,(Value.int .i64 t)),(8,(Value.int .i64 0)),(28,(pt r9 0))]/\Hp G w wL [] [rBlk bk 164 ([(Value.map (some mb))]),rBi mb r9 (some (s,t0)) false])∨(mM=0/\aA=patch xX 67 [(0,(pt bk 0)),(1,(Value.int .i64 now)),(2,(Value.string s)),(3,(Value.int .i64 t)),(8,(Value.int .i64 0)),(9,(Value.string s)),(10,(Value.int .i64 t0)),(28,(pt r9 0)),(30,(Value.bool true)),(36,(Value.bool true))]/\Hp G w wL [] [rBlk bk 164 ([(Value.map (some mb))]),rBi mb r9 none true])) ⟨_,_,.inl ⟨rfl,pM,h9⟩⟩ ?_
 rintro _ x11 _ w11 (⟨rfl,rfl,h11⟩|⟨rfl,rfl,h11⟩) KL11 hKL11
 ·
  refine mAt ?_
  refine mT (x_bmNext h11 1 rfl (.tmp 28) (by kernel_rfl) (by kernel_rfl)) ?_
  rintro _ w13 ⟨rfl,h13,he13⟩
  refine mW 31 (v:=(Value.tuple #[(Value.string s),(Value.int .i64 t0)])) (e_bmEntry (.tmp 28) (by kernel_rfl) (by kernel_rfl) he13) ?_
  refine mX 36 (.bool true) (Value.bool (decide (t0<=now))) (by simp;omega) ?_
  refine ma h13 0 ?_
  refine mT (x_bmDelI h13 1 rfl (.tmp 40) (.tmp 41) 9 (by kernel_rfl) (by kernel_rfl) (by kernel_rfl)) fun _ w17 h17=>?_
  exact mK KL11 (hKL11 _ _ ⟨0,_,(by decide),.inr (⟨rfl,pM,h17.sel [0,1] [] (by kernel_rfl) rfl rfl⟩)⟩)
 refine mAt ?_
 refine mT (x_bmOver h11 1 rfl (.inl rfl) (.tmp 28) (by kernel_rfl) (by kernel_rfl)) ?_
 rintro _ w19 ⟨rfl,h19⟩
 refine ma h19 0 ?_
 refine mW 48 (v:=(Value.tuple #[(Value.int .i64 0),(Value.bool false)])) (e_bmLook (h19.at_ 1 rfl) (.tmp 46) (.tmp 47) (by kernel_rfl) s (by kernel_rfl) (by kernel_rfl) (Value.tuple #[(Value.int .i64 0),(Value.bool false)]) (by rw [bmfNone])) ?_
 refine ma h19 0 ?_
 refine mW 58 (v:=(Value.int .i64 0)) (e_bmLen (h19.at_ 1 rfl) (.tmp 57) (by kernel_rfl) (by kernel_rfl) 0 rfl) ?_
 refine ma h19 0 ?_
 refine mT (x_bmUpd h19 1 rfl (.tmp 64) (.tmp 65) (.tmp 66) (by kernel_rfl) s t (by kernel_rfl) (by kernel_rfl) (by kernel_rfl) (fun _ hh=>by cases hh)) fun _ w25 h25=>?_
 refine mP (Value.int .i64 0) ?_
 exact ⟨rfl,_,(show Hp _ _ _ _ (lBk bk mb (some (s,t))++[]) from h25.sel [0,1] [] rfl rfl rfl).closeBk⟩
theorem bkSet_2{G:Nat->Prop}{bk:Nat}{s:ByteArray}{now t t0:Int}{w:World}(hB:(rBk G bk (some (s,t0))).Φ w)(hr:rightN s=true)(hsz:s.size<=1000000000)(ht:now<t)(hq:now<t0):Calls Tryz.prog 37 #[pt bk 0,.int .i64 now,.string s,.int .i64 t] w (BookP G bk 0 (some (s,t)) w):=by
 obtain ⟨mb,hG,h00⟩:=(Hp.one (rBk G bk (some (s,t0))) hB).openBk 0 rfl
 have h0:=(show Hp G w w [] (lBk bk mb (some (s,t0))++[]) from h00)
 refine mE 67 ?_
 refine mT (x_dp (v:=.bool true) h0 55 [(Value.string s)] (by kernel_rfl) (hr ▸ nright_dp _ _ hsz)) ?_
 rintro _ w4 ⟨rfl,h4⟩
 refine mX 18 (.bool false) (Value.bool (decide (t<=now))) (by simp;omega) ?_
 refine ma h4 0 ?_
 refine mT (x_bmRange h4 1 rfl (.tmp 27) (by kernel_rfl) (by kernel_rfl)) ?_
 rintro _ w9 ⟨r9,rfl,h9⟩
 refine mL (fun mM xX aA wL=>(mM=1/\aA=patch xX 67 [(0,(pt bk 0)),(1,(Value.int .i64 now)),(2,(Value.string s)),(3,(Value.int .i64 t)),(8,(Value.int .i64 0)),(28,(pt r9 0))]/\Hp G w wL [] [rBlk bk 164 ([(Value.map (some mb))]),rBi mb r9 (some (s,t0)) false])∨(mM=0/\aA=patch xX 67 [(0,(pt bk 0)),(1,(Value.int .i64 now)),(2,(Value.string s)),(3,(Value.int .i64 t)),(8,(Value.int .i64 0)),(9,(Value.string s)),(10,(Value.int .i64 t0)),(28,(pt r9 0)),(30,(Value.bool true)),(36,(Value.bool false))]/\Hp G w wL [] [rBlk bk 164 ([(Value.map (some mb))]),rBi mb r9 (some (s,t0)) true])) ⟨_,_,.inl ⟨rfl,pM,h9⟩⟩ ?_
 rintro _ x11 _ w11 (⟨rfl,rfl,h11⟩|⟨rfl,rfl,h11⟩) KL11 hKL11
 ·
  refine mAt ?_
  refine mT (x_bmNext h11 1 rfl (.tmp 28) (by kernel_rfl) (by kernel_rfl)) ?_
  rintro _ w13 ⟨rfl,h13,he13⟩
  refine mW 31 (v:=(Value.tuple #[(Value.string s),(Value.int .i64 t0)])) (e_bmEntry (.tmp 28) (by kernel_rfl) (by kernel_rfl) he13) ?_
  refine mX 36 (.bool false) (Value.bool (decide (t0<=now))) (by simp;omega) ?_
  exact mK KL11 (hKL11 _ _ ⟨0,_,(by decide),.inr (⟨rfl,pM,h13.sel [0,1] [] (by kernel_rfl) rfl rfl⟩)⟩)
 refine mAt ?_
 refine mT (x_bmOver h11 1 rfl (.inl rfl) (.tmp 28) (by kernel_rfl) (by kernel_rfl)) ?_
 rintro _ w18 ⟨rfl,h18⟩
 refine ma h18 0 ?_
 refine mW 48 (v:=(Value.tuple #[(Value.int .i64 t0),(Value.bool true)])) (e_bmLook (h18.at_ 1 rfl) (.tmp 46) (.tmp 47) (by kernel_rfl) s (by kernel_rfl) (by kernel_rfl) (Value.tuple #[(Value.int .i64 t0),(Value.bool true)]) (by rw [bmfEq rfl])) ?_
 refine ma h18 0 ?_
 refine mT (x_bmUpd h18 1 rfl (.tmp 64) (.tmp 65) (.tmp 66) (by kernel_rfl) s t (by kernel_rfl) (by kernel_rfl) (by kernel_rfl) (fun _ hh=>by injection hh with hh;rw [← hh])) fun _ w24 h24=>?_
 refine mP (Value.int .i64 0) ?_
 exact ⟨rfl,_,(show Hp _ _ _ _ (lBk bk mb (some (s,t))++[]) from h24.sel [0,1] [] rfl rfl rfl).closeBk⟩
theorem bkFind_no{bk mb:Nat}{o:Option (ByteArray × Int)}{s:ByteArray}{now:Int}{w:World}(h0:Hp (fun _=>False) w w [rBlk bk 164 [.map (some mb)],rBm mb o] [])(hf:bmF o s=none):Calls Tryz.prog 38 #[pt bk 0,.int .i64 now,.string s] w (DPost w (.tuple #[.int .i64 0,.bool false])):=by
 have h0:=h0
 refine mE 27 ?_
 refine mr h0 0 ?_
 refine mW 16 (v:=(Value.tuple #[(Value.int .i64 0),(Value.bool false)])) (e_bmLook (h0.rd 1 rfl) (.tmp 14) (.tmp 15) (by kernel_rfl) s (by kernel_rfl) (by kernel_rfl) (Value.tuple #[(Value.int .i64 0),(Value.bool false)]) (by rw [hf])) ?_
 exact mQ h0
theorem bkFind_late{bk mb:Nat}{o:Option (ByteArray × Int)}{s:ByteArray}{now t0:Int}{w:World}(h0:Hp (fun _=>False) w w [rBlk bk 164 [.map (some mb)],rBm mb o] [])(hf:bmF o s=some (0,.int .i64 t0))(ht:t0<=now):Calls Tryz.prog 38 #[pt bk 0,.int .i64 now,.string s] w (DPost w (.tuple #[.int .i64 0,.bool false])):=by
 have h0:=h0
 refine mE 27 ?_
 refine mr h0 0 ?_
 refine mW 16 (v:=(Value.tuple #[(Value.int .i64 t0),(Value.bool true)])) (e_bmLook (h0.rd 1 rfl) (.tmp 14) (.tmp 15) (by kernel_rfl) s (by kernel_rfl) (by kernel_rfl) (Value.tuple #[(Value.int .i64 t0),(Value.bool true)]) (by rw [hf])) ?_
 refine mX 24 (.bool true) (Value.bool (decide (t0<=now))) (by simp;omega) ?_
 exact mQ h0
theorem bkFind_yes{bk mb:Nat}{o:Option (ByteArray × Int)}{s:ByteArray}{now t0:Int}{w:World}(h0:Hp (fun _=>False) w w [rBlk bk 164 [.map (some mb)],rBm mb o] [])(hf:bmF o s=some (0,.int .i64 t0))(ht:now<t0):Calls Tryz.prog 38 #[pt bk 0,.int .i64 now,.string s] w (DPost w (.tuple #[.int .i64 t0,.bool true])):=by
 have h0:=h0
 refine mE 27 ?_
 refine mr h0 0 ?_
 refine mW 16 (v:=(Value.tuple #[(Value.int .i64 t0),(Value.bool true)])) (e_bmLook (h0.rd 1 rfl) (.tmp 14) (.tmp 15) (by kernel_rfl) s (by kernel_rfl) (by kernel_rfl) (Value.tuple #[(Value.int .i64 t0),(Value.bool true)]) (by rw [hf])) ?_
 refine mX 24 (.bool false) (Value.bool (decide (t0<=now))) (by simp;omega) ?_
 exact mQ h0
end
section
open Go.Value renaming int->iV,slice->lV,string->sV,bool->bV,agg->aV
open Go.RowKit Go.QT
/-- What the directory is asked, as a value. -/
def dirD(s:ByteArray)(n t:Int)(m:Bool)(tk:Thing)(b:Bytes):DVal:=
 .mk 2 20 0 [] [bD s.data.toList,nD n,nD t,nD m.toNat,valD tk,bD b]
theorem dirD_right{s:ByteArray}{n t:Int}{m:Bool}{tk:Thing}{b:Bytes}:rightV (dirD s n t m tk b) 1=true:=by
 have hv:∀ t d,d<=6->rightV (valD t) d=true:=by
   intro t d hd
   unfold valD
   rw [rightV,rightL_all]
   · have:d<=8:=by omega
     cases t <;> simp [tagTh,this]
   refine valL_all _ (fun n=>?_) (fun b=>?_) t
   · unfold nD;rw [rightV];simp;omega
   unfold bD;rw [rightV];simp;omega
 have hn:∀ n,rightV (nD n) 2=true:=rightV_nD
 unfold dirD
 rw [rightV,rightL_all]
 · rfl
 intro x hx
 simp only [List.mem_cons,List.not_mem_nil,or_false] at hx
 rcases hx with rfl|rfl|rfl|rfl|rfl|rfl
 · exact rightV_bD _
 · exact hn _
 · exact hn _
 · exact hn _
 · exact hv _ _ (by omega)
 exact rightV_bD _
theorem vDir_any{s ts:ByteArray}{n t:Int}{m:Bool}{tb ab:Bytes}{C D:Option Addr}{cc cd:Nat}{w:World}(hb:SB w (.slice C tb.length cc) tb)(ha:SB w (.slice D ab.length cd) ab)
   (hs:rightN s=true) (hsl:s.size<=1000000) (hn:inN n=true) (ht:inN t=true) (hl:limTh (.ticket ts tb)) (hts:rightN ts=true) (hal:ab.length<=1000000) :
   Calls Tryz.prog 56 #[.iface 82 (.agg #[.string s,.int .i64 n,.int .i64 t,.bool m,.string ts,.slice C tb.length cc,.slice D ab.length cd])] w (MvPost w (dirD s n t m (.ticket ts tb) ab)):=by
 have hrt:rightTh (.ticket ts tb)=true:=by show rightM ts []=true;unfold rightM;rw [hts];rfl
 have h0:=(Hp.ro1 (rSB (.slice C tb.length cc) tb) hb).addR (rSB (.slice D ab.length cd) ab) ha (by simp)
 refine mE 397 ?_
 refine mN h0 157 ([zO,zO,(iV .u64 0),zN,zN]) fun g2 w2 h2=>?_
 refine mN h2 82 ([zE,zO,zO,zV,zE,zN,zN]) fun g16 w16 h16=>?_
 refine mT (xR h16 0 ([(sV s),(zD n),(zD t),(bV m),(sV ts),(lV C tb.length cc),(lV D ab.length cd)])) fun _ w17 h17=>?_
 refine ma h17 0 ?_
 refine mT (x_mval h17 (t:=.ticket ts tb) hrt ⟨C,cc,rfl,rsg_of (h17.rd 1 rfl)⟩ hl (by kernel_rfl)) ?_
 rintro _ w19 ⟨F19,g19,n19,rfl,h19⟩
 refine mN h19 157 ([zO,zO,(iV .u64 0),zN,zN]) fun g20 w20 h20=>?_
 refine mT (xR h20 0 ([(zD 2),(zD ((tagTh (.ticket ts tb):Int))),(iV .u64 0),zN,(lV (some ⟨g19,0,none⟩) n19 n19)])) fun _ w21 h21=>?_
 refine dG h21 32 31 (fun W=>(rBlk g16 82 ([(sV s),(zD n),(zD t),(bV m),(sV ts),(lV C tb.length cc),(lV D ab.length cd)])).Φ W/\(rBlk g20 157 ([(zD 2),(zD ((tagTh (.ticket ts tb):Int))),(iV .u64 0),zN,(lV (some ⟨g19,0,none⟩) n19 n19)])).Φ W/\True) (fun w23 h23=>⟨h23.at_ 2 rfl,h23.at_ 0 rfl,trivial⟩) ?_
 intro w23 h23
 refine dP 26 [0,3,6,9,13,18] ?_
 refine dLs 22 [1,4,7,10] (fun W hW=>hW.1) ?_
 refine dL 12 (fun W hW=>hW.2.1) ?_
 refine dL 14 (fun W hW=>hW.1) ?_
 refine dT 2 (x_rawT h23 78 [(sV s)] (by kernel_rfl) (mtext_any s _ (by omega))) ?_
 rintro _ w24 ⟨A24,c24,rfl,h24,_⟩
 refine ⟨⟨h24.at_ 3 rfl,h24.at_ 1 rfl,trivial⟩,?_⟩
 refine dD 5 h24 [(zD n)] (mnum_any n _) (fun w25 h25=>⟨⟨h25.at_ 3 rfl,h25.at_ 1 rfl,trivial⟩,?_⟩)
 refine dD 8 h25 [(zD t)] (mnum_any t _) (fun w26 h26=>⟨⟨h26.at_ 3 rfl,h26.at_ 1 rfl,trivial⟩,?_⟩)
 refine dD 11 h26 [(bV m)] (mtruth_any m _) (fun w27 h27=>⟨⟨h27.at_ 3 rfl,h27.at_ 1 rfl,trivial⟩,?_⟩)
 refine dT 15 (x_rawT h27 80 [(lV D ab.length cd)] (by kernel_rfl) (draw_any (lV D ab.length cd) ab _ (h27.rd 0 rfl) (by omega))) ?_
 rintro _ w28 ⟨A28,c28,rfl,h28,_⟩
 refine ⟨⟨h28.at_ 4 rfl,h28.at_ 2 rfl,trivial⟩,?_⟩
 refine dT 16 (x_bs h28 157 ([(zD 1),zO,(iV .u64 0),(lV A24 s.data.toList.length c24),zN,zO,zO,(iV .u64 ((IntKind.u64.wrap n))),zN,zN,zO,zO,(iV .u64 ((IntKind.u64.wrap t))),zN,zN,zO,zO,(iV .u64 ((IntKind.u64.wrap ((m.toNat:Nat):Int)))),zN,zN,(zD 2),(zD ((tagTh (.ticket ts tb):Int))),(iV .u64 0),zN,(lV (some ⟨g19,0,none⟩) n19 n19),(zD 1),zO,(iV .u64 0),(lV A28 ab.length c28),zN]) 6 (by kernel_rfl)) ?_
 rintro _ w29 ⟨g29,rfl,h29⟩
 refine ⟨⟨h29.at_ 5 rfl,h29.at_ 3 rfl,trivial⟩,?_⟩
 refine dD 17 h29 [(zD 20),(lV (some ⟨g29,0,none⟩) 6 6)] (dseq_any 20 (some ⟨g29,0,none⟩) 6 6 _) (fun w30 h30=>⟨⟨h30.at_ 5 rfl,h30.at_ 3 rfl,trivial⟩,?_⟩)
 refine dP 9 [19,20,23,25] ?_
 refine dLs 6 [21,24,26] (fun W hW=>hW.1) ?_
 refine dO 22 27 ?_ ?_
 ·
  refine oT (x_bs h30 9 ([(sV s)]) 1 (by kernel_rfl)) ?_
  rintro _ w31 ⟨g31,rfl,h31⟩
  refine ⟨⟨h31.at_ 6 rfl,h31.at_ 4 rfl,trivial⟩,?_⟩
  refine dT 27 (x_bs h31 2 ([(zD n),(zD t)]) 2 (by kernel_rfl)) ?_
  rintro _ w32 ⟨g32,rfl,h32⟩
  refine ⟨⟨h32.at_ 7 rfl,h32.at_ 5 rfl,trivial⟩,?_⟩
  refine dT 28 (x_mright h32 1 0 rfl rfl [s] [n,t] 1 2 rfl rfl rfl rfl (by decide) (by decide) (by simp;exact ⟨hs,by omega⟩) (by simp;exact ⟨hn,ht⟩) (by kernel_rfl)) ?_
  rintro _ w33 ⟨rfl,h33⟩
  refine ⟨⟨h33.at_ 7 rfl,h33.at_ 5 rfl,trivial⟩,?_⟩
  refine dP 2 [29] ?_
  refine dT 30 (xR h33 8 ([(zD 2),(zD 20),(iV .u64 0),zN,(lV (some ⟨g29,0,none⟩) 6 6)])) ?_
  rintro _ w34 h34
  refine ⟨⟨h34.at_ 7 rfl,h34.at_ 5 rfl,trivial⟩,?_⟩
  refine dN 31 ?_
  refine dX ?_
  refine mF (post_2 (r:=.cell 2 157) (s:=.tmp 3) (by kernel_rfl) rfl (rce (h34.at_ 8 rfl)) (rtm zI) ?_)
  exact mv_of h34 2 rfl rfl (.cons (dvr_sb h34 4 rfl) (.cons (dvr_num hn) (.cons (dvr_num ht) (.cons (dvr_num (inN_bool m)) (.cons (dvr_dv h34 6 rfl) (.cons (dvr_sb h34 3 rfl) .nil)))))) rfl (by decide)
 refine oT (x_bs h30 2 ([(zD n),(zD t)]) 2 (by kernel_rfl)) ?_
 rintro _ w35 ⟨g35,rfl,h35⟩
 refine ⟨⟨h35.at_ 6 rfl,h35.at_ 4 rfl,trivial⟩,?_⟩
 refine dT 22 (x_bs h35 9 ([(sV s)]) 1 (by kernel_rfl)) ?_
 rintro _ w36 ⟨g36,rfl,h36⟩
 refine ⟨⟨h36.at_ 7 rfl,h36.at_ 5 rfl,trivial⟩,?_⟩
 refine dT 28 (x_mright h36 0 1 rfl rfl [s] [n,t] 1 2 rfl rfl rfl rfl (by decide) (by decide) (by simp;exact ⟨hs,by omega⟩) (by simp;exact ⟨hn,ht⟩) (by kernel_rfl)) ?_
 rintro _ w37 ⟨rfl,h37⟩
 refine ⟨⟨h37.at_ 7 rfl,h37.at_ 5 rfl,trivial⟩,?_⟩
 refine dP 2 [29] ?_
 refine dT 30 (xR h37 8 ([(zD 2),(zD 20),(iV .u64 0),zN,(lV (some ⟨g29,0,none⟩) 6 6)])) ?_
 rintro _ w38 h38
 refine ⟨⟨h38.at_ 7 rfl,h38.at_ 5 rfl,trivial⟩,?_⟩
 refine dN 31 ?_
 refine dX ?_
 refine mF (post_2 (r:=.cell 2 157) (s:=.tmp 3) (by kernel_rfl) rfl (rce (h38.at_ 8 rfl)) (rtm zI) ?_)
 exact mv_of h38 2 rfl rfl (.cons (dvr_sb h38 4 rfl) (.cons (dvr_num hn) (.cons (dvr_num ht) (.cons (dvr_num (inN_bool m)) (.cons (dvr_dv h38 6 rfl) (.cons (dvr_sb h38 3 rfl) .nil)))))) rfl (by decide)
theorem sumDir_any{F:Nat->Prop}{tb:Nat}{st:STab}{s ts:ByteArray}{n t:Int}{m:Bool}{tb_:Bytes}{C D:Option Addr}{cc an ca:Nat}{w:World}(hT:(rTab F tb st).Φ w)(hsm:st.sums.length<1000000)(hb:SB w (.slice C tb_.length cc) tb_)(hdb:(rSB (.slice C tb_.length cc) tb_).dj (rTab F tb st))
   (hs:rightN s=true) (hsl:s.size<=1000000) (hn:inN n=true) (ht:inN t=true) (hl:limTh (.ticket ts tb_)) (hts:rightN ts=true) (hlen:(wrV (dirD s n t m (.ticket ts tb_) [])).length<=4096) :
   Calls Tryz.prog 23 #[(Value.iface 28 (pt tb 0)),.iface 82 (aV ([(sV s),(iV .i64 n),(iV .i64 t),(bV m),(sV ts),(lV C tb_.length cc),(lV D an ca)]).toArray)] w (SumPost F tb st (wrV (dirD s n t m (.ticket ts tb_) [])) w):=by
 have h0:=((Hp.one (rTab F tb st) hT).addR (rSB (.slice C tb_.length cc) tb_) hb (fun j r hj=>by have:=sel1 hj;injection this with this;subst this;exact hdb))
 refine mE 37 ?_
 refine mN h0 82 ([zE,zO,zO,zV,zE,zN,zN]) fun g7 w7 h7=>?_
 refine mT (xR h7 0 ([(sV s),(zD n),(zD t),(bV m),(sV ts),(lV C tb_.length cc),(lV D an ca)])) fun _ w8 h8=>?_
 refine mT (xS h8 0 ([(sV s),(zD n),(zD t),(bV m),(sV ts),(lV C tb_.length cc),zN])) fun _ w10 h10=>?_
 refine ma h10 0 ?_
 refine mT (x_wrT h10 39 [(Value.iface 82 (aV ([(sV s),(zD n),(zD t),(bV m),(sV ts),(lV C tb_.length cc),zN]).toArray))] (by kernel_rfl) (mwrite_any (vDir_any (D:=none) (cd:=0) (ab:=[]) (h10.rd 0 rfl) (SB.nil _ 0 (by unfold maxLen;omega) none) hs hsl hn ht hl hts (by decide)) dirD_right hlen)) ?_
 rintro _ w12 ⟨A12,c12,rfl,h12⟩
 refine mT (x_digestS h12 2 rfl (wrV (dirD s n t m (.ticket ts tb_) [])) (by kernel_rfl) (OB.sb (h12.at_ 0 rfl)) (by omega) hsm) ?_
 rintro _ w14 ⟨A14,c14,F14,rfl,h14⟩
 refine mP (lV A14 16 c14) ?_
 exact ⟨_,_,_,rfl,h14.sel [3,0] [] rfl rfl rfl⟩
theorem oFact_yes{F:Nat->Prop}{tb:Nat}{s:STab}{K:Fin 16->UInt8}{us:Int}{A:Option Addr}{c:Nat}{l:Bytes}{w:World}(hT:(rTab F tb s).Φ w)(hs:TabOk s)(hv:SB w (.slice A l.length c) l)(fn:Int)(s1:ByteArray)(ff:Bool)(ft:Int){body:Bytes}(ho:s.open_ (kl K) us l=some body)(hu:unpB body=.inr (.fact fn s1 ff ft)):Calls Tryz.prog 22 #[(Value.iface 28 (pt tb 0)),(aV (vb (kl K)).toArray),.int .i64 us,.slice A l.length c] w (DPost w (.tuple #[(aV ([(iV .i64 fn),(sV s1),(bV ff),(iV .i64 ft)]).toArray),.int .i64 0])):=by
 have h0:=((Hp.ro1 (rSB (.slice A l.length c) l) hv).addR (rTab F tb s) hT (by simp))
 refine mE 45 ?_
 refine mN h0 31 (vb (kl K)) fun g2 w2 h2=>?_
 refine mN h2 88 ([zO,zE,zV,zO]) fun g3 w3 h3=>?_
 refine mN h3 88 ([zO,zE,zV,zO]) fun g5 w5 h5=>?_
 refine ma h5 2 ?_
 refine mT (x_openR h5 0 rfl hs K us l (lV A l.length c) (some body) (by kernel_rfl) (h5.rd 1 rfl) ho) ?_
 rintro _ w7 ⟨A7,c7,rfl,h7⟩
 refine mT (x_unp h7 hu [(lV A7 body.length c7)] (by kernel_rfl) (unp_any (OB.sb (h7.at_ 0 rfl)))) ?_
 rintro _ w11 ⟨G11,x11,rfl,h11⟩
 obtain rfl:x11=(Value.iface 88 (aV ([(iV .i64 fn),(sV s1),(bV ff),(iV .i64 ft)]).toArray)):=(h11.at_ 0 rfl).2
 refine mN h11 88 ([zO,zE,zV,zO]) fun g16 w16 h16=>?_
 refine mT (xR h16 0 ([(zD fn),(sV s1),(bV ff),(zD ft)])) fun _ w17 h17=>?_
 refine ma h17 0 ?_
 refine mT (xR h17 4 ([(zD fn),(sV s1),(bV ff),(zD ft)])) fun _ w20 h20=>?_
 refine mF (post_2 (r:=.cell 8 88) (s:=.tmp 9) (by kernel_rfl) rfl (rce (h20.at_ 4 rfl)) (rtm zO) ?_)
 exact ⟨rfl,h20.below0⟩
end
section
open Go.Value renaming int->iV,slice->lV,string->sV,bool->bV,agg->aV
open Go.RowKit Go.QT
theorem rTh_fact(w:World)(n:Int)(s:ByteArray)(f:Bool)(t:Int):(rTh (fun _=>False) (.iface 88 (.agg #[.int .i64 n,.string s,.bool f,.int .i64 t])) (.fact n s f t)).Φ w:=⟨fun _ hf=>hf.elim,rfl⟩
/-- The cache and the book. -/
abbrev rCB(G:Nat->Prop)(cb most:Nat)(sl:List Sh)(B:Nat->Prop)(bk:Nat)(o:Option (ByteArray × Int)):Res:=rStar [rCa G cb most sl,rBk B bk o]
def DrNo(F S:Nat->Prop)(tb cb most bk ec:Nat)(s2:STab)(sl:List Sh)(o:Option (ByteArray × Int))(w:World)(e:Ending)(w':World):Prop:=
 ∃ F' G' B',e=.returned (.tuple #[.agg #[.string ByteArray.empty,.slice none 0 0],.int .i64 (ec:Int)])/\Hp (fun q=>F q∨S q) w w' [] [rTab F' tb s2,rCB G' cb most sl B' bk o]
def DrOk(F S:Nat->Prop)(tb cb most bk nb:Nat)(c1:ByteArray)(s3:STab)(sl:List Sh)(o:Option (ByteArray × Int))(w:World)(e:Ending)(w':World):Prop:=
 ∃ A c F' G' B',e=.returned (.tuple #[.agg #[.string c1,.slice A 16 c],.int .i64 0])/\Hp (fun q=>F q∨S q) w w' [] [rTab F' tb s3,rCB G' cb most sl B' bk o,rSB (.slice A 16 c) (mkB 98 (nb+1))]
section
variable{o:Oper}{a:Act}{F0 F S:Nat->Prop}{w0 w:World}{ro rs:List Res}{tb cb most bk nb ec:Nat}{s s3:STab}{sl sl2:List Sh}{c1:ByteArray}{o1 o2:Option (ByteArray × Int)}{r2:Res}
theorem x_drN(h:Hp F0 w0 w ro rs)(i j:Nat)(hi:rs[i]?=some (rTab F tb s))(hj:rs[j]?=some r2)(al:List Value)(hij:decide (i≠j)=true)(hp:pureVal Tryz.prog (execOp a.eval o)=some (.enter 21 al.toArray))(hc:Calls Tryz.prog 21 al.toArray w (DrNo F r2.F tb cb most bk ec s3 sl2 o2 w)) :
   OpTo Tryz.prog o a w (fun u w'=>∃ F' G' B',u=.tuple #[.agg #[.string ByteArray.empty,.slice none 0 0],.int .i64 (ec:Int)]/\Hp F0 w0 w' ro ((rs.set i (rTab F' tb s3)).set j (rCB G' cb most sl2 B' bk o2))):=
 OpTo.enter 21 al hp hc fun e w' hq=>by
   obtain ⟨F',G',B',he,h2⟩:=hq
   exact ⟨_,he,F',G',B',rfl,h.upd2 i j hi hj (of_decide_eq_true hij) h2⟩
theorem x_drY(h:Hp F0 w0 w ro rs)(i j:Nat)(hi:rs[i]?=some (rTab F tb s))(hj:rs[j]?=some r2)(al:List Value)(hij:decide (i≠j)=true)(hp:pureVal Tryz.prog (execOp a.eval o)=some (.enter 21 al.toArray))(hc:Calls Tryz.prog 21 al.toArray w (DrOk F r2.F tb cb most bk nb c1 s3 sl2 o2 w)) :
   OpTo Tryz.prog o a w (fun u w'=>∃ A c F' G' B',u=.tuple #[.agg #[.string c1,.slice A 16 c],.int .i64 0]/\Hp F0 w0 w' ro ([rTab F' tb s3,rCB G' cb most sl2 B' bk o2,rSB (.slice A 16 c) (mkB 98 (nb+1))]++(rs.eraseIdx (max i j)).eraseIdx (min i j))):=
 OpTo.enter 21 al hp hc fun e w' hq=>by
   obtain ⟨A,c,F',G',B',he,h2⟩:=hq
   exact ⟨_,he,A,c,F',G',B',rfl,h.call2 i j hi hj (of_decide_eq_true hij) h2⟩
/-- Set, at a caller. -/
theorem x_bkset{G:Nat->Prop}(h:Hp F0 w0 w ro rs)(i:Nat)(hi:rs[i]?=some (rBk G bk o1))(al:List Value)(hp:pureVal Tryz.prog (execOp a.eval o)=some (.enter 37 al.toArray))(hc:Calls Tryz.prog 37 al.toArray w (BookP G bk ec o2 w)) :
   OpTo Tryz.prog o a w (fun u w'=>∃ G',u=.int .i64 (ec:Int)/\Hp F0 w0 w' ro (rBk G' bk o2::rs.eraseIdx i)):=
 OpTo.enter 37 al hp hc fun e w' hq=>by
   obtain ⟨he,G',h2⟩:=hq
   exact ⟨_,he,G',rfl,h.call1 i hi h2⟩
end
theorem dir_err{F G B:Nat->Prop}{sv kb cb bk tb bb most:Nat}{Kk Ki:Fin 16->UInt8}{s s2:STab}{sl sl2:List Sh}{o:Option (ByteArray × Int)}{nm ts c1:ByteArray}{now nn till f a u r:Int}{m:Bool}{ec:Nat}{C D:Option Addr}{c d:Nat}{l au:Bytes}{Rq:Res}{w:World}
   (h0:Hp (fun q=>F q∨(rCB G cb most sl B bk o).F q) w w [rBlk sv 73 (svC kb cb bk),rBlk kb 78 (kdcC tb bb Kk),rSB (lV C l.length c) l,rSB (lV D au.length d) au,Rq] [rTab F tb s,rCB G cb most sl B bk o])
   (hWho:∀ w',Hp (fun q=>F q∨G q) w' w' [rBlk sv 73 (svC kb cb bk),rBlk kb 78 (kdcC tb bb Kk),rSB (lV C l.length c) l,rSB (lV D au.length d) au,Rq] [rTab F tb s,rCa G cb most sl]->Calls Tryz.prog 29 #[pt sv 0,.int .i64 now,(aV ([(sV ts),(lV C l.length c)]).toArray),(lV D au.length d),(Value.iface 82 (aV ([(sV nm),(iV .i64 nn),(iV .i64 till),(bV m),(sV ts),(lV C l.length c),(lV D au.length d)]).toArray))] w' (WhPost F G tb cb most (aV ([(iV .i64 f)]++vb (kl Ki)++[(sV c1),(iV .i64 a),(iV .i64 u),(iV .i64 r)]).toArray) s2 (ec,sl2) w'))
   (hec:ec≠0):Calls Tryz.prog 21 #[pt sv 0,.int .i64 now,(aV ([(sV nm),(iV .i64 nn),(iV .i64 till),(bV m),(sV ts),(lV C l.length c),(lV D au.length d)]).toArray)] w (DrNo F (rCB G cb most sl B bk o).F tb cb most bk ec s2 sl2 o w):=by
 have h0:=(show Hp _ _ _ _ [rCa G cb most sl,rBk B bk o,rTab F tb s] from h0.openStar 1 rfl)
 refine mE 95 ?_
 refine mN h0 82 ([(sV nm),(zD nn),(zD till),(bV m),(sV ts),(lV C l.length c),(lV D au.length d)]) fun g2 w2 h2=>?_
 refine mN h2 84 ([zE,zN]) fun g3 w3 h3=>?_
 refine ma h3 1 ?_
 refine ma h3 1 ?_
 refine ma h3 1 ?_
 refine mT (x_who h3 4 2 rfl rfl [(pt sv 0),(zD now),(aV ([(sV ts),(lV C l.length c)]).toArray),(lV D au.length d),(Value.iface 82 (aV ([(sV nm),(zD nn),(zD till),(bV m),(sV ts),(lV C l.length c),(lV D au.length d)]).toArray))] (by decide) (by kernel_rfl) (hWho _ (h3.carve2 4 2 rfl rfl [(false,0),(false,1),(false,2),(false,3),(false,4)] rfl rfl))) ?_
 rintro _ w5 ⟨F5,G5,rfl,h5⟩
 refine mN h5 54 ([zO]++vb (List.replicate 16 0)++[zE,zO,zO,zO]) fun g6 w6 h6=>?_
 refine mT (xR h6 0 ([(zD f)]++vb (kl Ki)++[(sV c1),(zD a),(zD u),(zD r)])) fun _ w7 h7=>?_
 refine mX 27 (.bool true) (bV (((ec:Int)) != 0)) (by simp;omega) ?_
 refine mT (xR h7 1 ([zE,zN])) fun _ w11 h11=>?_
 refine mF (post_2 (r:=.cell 6 84) (s:=.tmp 7) (by kernel_rfl) rfl (rce (h11.at_ 1 rfl)) (rtm (zD ((ec:Int)))) ?_)
 have h12:=(show Hp _ _ _ _ ([rCa _ cb most sl2,rBk _ bk o]++[_]) from h11.sel [3,4,5] [] rfl rfl rfl).closeStar
 exact ⟨_,_,_,rfl,h12.sel [1,0] [] rfl rfl rfl⟩
theorem dir_wrong{F G B:Nat->Prop}{sv kb cb bk tb bb most:Nat}{Kk Ki:Fin 16->UInt8}{s s2:STab}{sl sl2:List Sh}{o:Option (ByteArray × Int)}{nm ts c1:ByteArray}{now nn till f a u r:Int}{C D:Option Addr}{c d:Nat}{l au:Bytes}{Rq:Res}{w:World}
   (h0:Hp (fun q=>F q∨(rCB G cb most sl B bk o).F q) w w [rBlk sv 73 (svC kb cb bk),rBlk kb 78 (kdcC tb bb Kk),rSB (lV C l.length c) l,rSB (lV D au.length d) au,Rq] [rTab F tb s,rCB G cb most sl B bk o])
   (hWho:∀ w',Hp (fun q=>F q∨G q) w' w' [rBlk sv 73 (svC kb cb bk),rBlk kb 78 (kdcC tb bb Kk),rSB (lV C l.length c) l,rSB (lV D au.length d) au,Rq] [rTab F tb s,rCa G cb most sl]->Calls Tryz.prog 29 #[pt sv 0,.int .i64 now,(aV ([(sV ts),(lV C l.length c)]).toArray),(lV D au.length d),(Value.iface 82 (aV ([(sV nm),(iV .i64 nn),(iV .i64 till),(bV true),(sV ts),(lV C l.length c),(lV D au.length d)]).toArray))] w' (WhPost F G tb cb most (aV ([(iV .i64 f)]++vb (kl Ki)++[(sV c1),(iV .i64 a),(iV .i64 u),(iV .i64 r)]).toArray) s2 (0,sl2) w'))
   (hne:nm.toList≠c1.toList):Calls Tryz.prog 21 #[pt sv 0,.int .i64 now,(aV ([(sV nm),(iV .i64 nn),(iV .i64 till),(bV true),(sV ts),(lV C l.length c),(lV D au.length d)]).toArray)] w (DrNo F (rCB G cb most sl B bk o).F tb cb most bk 17 s2 sl2 o w):=by
 have h0:=(show Hp _ _ _ _ [rCa G cb most sl,rBk B bk o,rTab F tb s] from h0.openStar 1 rfl)
 refine mE 95 ?_
 refine mN h0 82 ([(sV nm),(zD nn),(zD till),zI,(sV ts),(lV C l.length c),(lV D au.length d)]) fun g2 w2 h2=>?_
 refine mN h2 84 ([zE,zN]) fun g3 w3 h3=>?_
 refine ma h3 1 ?_
 refine ma h3 1 ?_
 refine ma h3 1 ?_
 refine mT (x_who h3 4 2 rfl rfl [(pt sv 0),(zD now),(aV ([(sV ts),(lV C l.length c)]).toArray),(lV D au.length d),(Value.iface 82 (aV ([(sV nm),(zD nn),(zD till),zI,(sV ts),(lV C l.length c),(lV D au.length d)]).toArray))] (by decide) (by kernel_rfl) (hWho _ (h3.carve2 4 2 rfl rfl [(false,0),(false,1),(false,2),(false,3),(false,4)] rfl rfl))) ?_
 rintro _ w5 ⟨F5,G5,rfl,h5⟩
 refine mN h5 54 ([zO]++vb (List.replicate 16 0)++[zE,zO,zO,zO]) fun g6 w6 h6=>?_
 refine mT (xR h6 0 ([(zD f)]++vb (kl Ki)++[(sV c1),(zD a),(zD u),(zD r)])) fun _ w7 h7=>?_
 refine ma h7 2 ?_
 refine ma h7 2 ?_
 refine ma h7 0 ?_
 refine mX 36 (.bool true) (bV (!((nm).toList == (c1).toList))) (by simpa using hne) ?_
 refine mT (xR h7 1 ([zE,zN])) fun _ w15 h15=>?_
 refine mF (post_2 (r:=.cell 6 84) (s:=.tmp 7) (by kernel_rfl) rfl (rce (h15.at_ 1 rfl)) (rtm (zD 17)) ?_)
 have h16:=(show Hp _ _ _ _ ([rCa _ cb most sl2,rBk _ bk o]++[_]) from h15.sel [3,4,5] [] rfl rfl rfl).closeStar
 exact ⟨_,_,_,rfl,h16.sel [1,0] [] rfl rfl rfl⟩
theorem dir_over{F G B:Nat->Prop}{sv kb cb bk tb bb most:Nat}{Kk Ki:Fin 16->UInt8}{s s2:STab}{sl sl2:List Sh}{o:Option (ByteArray × Int)}{nm ts c1:ByteArray}{now nn till f a u r:Int}{C D:Option Addr}{c d:Nat}{l au:Bytes}{Rq:Res}{w:World}
   (h0:Hp (fun q=>F q∨(rCB G cb most sl B bk o).F q) w w [rBlk sv 73 (svC kb cb bk),rBlk kb 78 (kdcC tb bb Kk),rSB (lV C l.length c) l,rSB (lV D au.length d) au,Rq] [rTab F tb s,rCB G cb most sl B bk o])
   (hWho:∀ w',Hp (fun q=>F q∨G q) w' w' [rBlk sv 73 (svC kb cb bk),rBlk kb 78 (kdcC tb bb Kk),rSB (lV C l.length c) l,rSB (lV D au.length d) au,Rq] [rTab F tb s,rCa G cb most sl]->Calls Tryz.prog 29 #[pt sv 0,.int .i64 now,(aV ([(sV ts),(lV C l.length c)]).toArray),(lV D au.length d),(Value.iface 82 (aV ([(sV nm),(iV .i64 nn),(iV .i64 till),(bV true),(sV ts),(lV C l.length c),(lV D au.length d)]).toArray))] w' (WhPost F G tb cb most (aV ([(iV .i64 f)]++vb (kl Ki)++[(sV c1),(iV .i64 a),(iV .i64 u),(iV .i64 r)]).toArray) s2 (0,sl2) w'))
   (hnm:nm.toList=c1.toList) (hSet:∀ w',(rBk B bk o).Φ w'->Calls Tryz.prog 37 #[pt bk 0,.int .i64 now,.string nm,.int .i64 (min till u)] w' (BookP B bk 12 none w')):Calls Tryz.prog 21 #[pt sv 0,.int .i64 now,(aV ([(sV nm),(iV .i64 nn),(iV .i64 till),(bV true),(sV ts),(lV C l.length c),(lV D au.length d)]).toArray)] w (DrNo F (rCB G cb most sl B bk o).F tb cb most bk 12 s2 sl2 none w):=by
 have h0:=(show Hp _ _ _ _ [rCa G cb most sl,rBk B bk o,rTab F tb s] from h0.openStar 1 rfl)
 refine mE 95 ?_
 refine mN h0 82 ([(sV nm),(zD nn),(zD till),zI,(sV ts),(lV C l.length c),(lV D au.length d)]) fun g2 w2 h2=>?_
 refine mN h2 84 ([zE,zN]) fun g3 w3 h3=>?_
 refine ma h3 1 ?_
 refine ma h3 1 ?_
 refine ma h3 1 ?_
 refine mT (x_who h3 4 2 rfl rfl [(pt sv 0),(zD now),(aV ([(sV ts),(lV C l.length c)]).toArray),(lV D au.length d),(Value.iface 82 (aV ([(sV nm),(zD nn),(zD till),zI,(sV ts),(lV C l.length c),(lV D au.length d)]).toArray))] (by decide) (by kernel_rfl) (hWho _ (h3.carve2 4 2 rfl rfl [(false,0),(false,1),(false,2),(false,3),(false,4)] rfl rfl))) ?_
 rintro _ w5 ⟨F5,G5,rfl,h5⟩
 refine mN h5 54 ([zO]++vb (List.replicate 16 0)++[zE,zO,zO,zO]) fun g6 w6 h6=>?_
 refine mT (xR h6 0 ([(zD f)]++vb (kl Ki)++[(sV c1),(zD a),(zD u),(zD r)])) fun _ w7 h7=>?_
 refine ma h7 2 ?_
 refine ma h7 2 ?_
 refine ma h7 0 ?_
 refine mX 36 (.bool false) (bV (!((nm).toList == (c1).toList))) (by simpa using hnm) ?_
 refine mJ 2000007 (fun aJ wJ16=>∃ (GJ15_0:Nat->Prop) (xJ16:Nat->Value),aJ=patch xJ16 95 [(0,(pt sv 0)),(1,(zD now)),(5,(pt g2 0)),(6,(pt g3 0)),(7,zO),(8,(pt g6 0)),(9,zO),(10,(zD 12))]/\Hp (fun q=>F q∨(rCB G cb most sl B bk o).F q) w wJ16 [rBlk sv 73 ([(pt kb 0),(pt cb 0),(pt bk 0)]),rBlk kb 78 ([(Value.iface 28 (pt tb 0)),(pt bb 0)]++vb (kl Kk)),rSB ((lV C l.length c)) l,rSB ((lV D au.length d)) au,Rq] [rBk GJ15_0 bk none,rBlk g6 54 ([(zD f)]++vb (kl Ki)++[(sV c1),(zD a),(zD u),(zD r)]),rBlk g3 84 ([zE,zN]),rBlk g2 82 ([(sV nm),(zD nn),(zD till),zI,(sV ts),(lV C l.length c),(lV D au.length d)]),rCa G5 cb most sl2,rTab F5 tb s2]) ?_ (fun hJ16 hhJ16=>?_)
 ·
  rintro _ wJ16 ⟨GJ15_0,xJ16,rfl,hJh16⟩
  refine mAt ?_
  refine mT (xR hJh16 2 ([zE,zN])) fun _ w19 h19=>?_
  refine mF (post_2 (r:=.cell 6 84) (s:=.tmp 7) (by kernel_rfl) rfl (rce (h19.at_ 2 rfl)) (rtm (zD 12)) ?_)
  have h20:=(show Hp _ _ _ _ ([rCa _ cb most sl2,rBk _ bk none]++[_]) from h19.sel [4,0,5] [] rfl rfl rfl).closeStar
  exact ⟨_,_,_,rfl,h20.sel [1,0] [] rfl rfl rfl⟩
 refine dG h7 14 13 (fun W=>(rBlk sv 73 ([(pt kb 0),(pt cb 0),(pt bk 0)])).Φ W/\(rBlk g2 82 ([(sV nm),(zD nn),(zD till),zI,(sV ts),(lV C l.length c),(lV D au.length d)])).Φ W/\(rBlk g6 54 ([(zD f)]++vb (kl Ki)++[(sV c1),(zD a),(zD u),(zD r)])).Φ W/\True) (fun w22 h22=>⟨h22.rd 0 rfl,h22.at_ 2 rfl,h22.at_ 0 rfl,trivial⟩) ?_
 intro w22 h22
 refine dP 7 [0,1,2,4,5,7,9] ?_
 refine dL 3 (fun W hW=>hW.1) ?_
 refine dLs 4 [6,8] (fun W hW=>hW.2.1) ?_
 refine dL 10 (fun W hW=>hW.2.2.1) ?_
 refine dV 11 (v:=(zD (min till u))) (fun W hW=>e_min (.tmp 46) (.tmp 48) #[2,2] (by kernel_rfl) .i64 .i64 till u (by kernel_rfl) (by kernel_rfl) (min till u) (by split <;> omega) _) ?_
 refine dT 12 (x_bkset (ec:=12) (o2:=none) h22 4 rfl [(pt bk 0),(zD now),(sV nm),(zD (min till u))] (by kernel_rfl) (hSet _ (h22.at_ 4 rfl))) ?_
 rintro _ w23 ⟨G23,rfl,h23⟩
 refine ⟨⟨h23.rd 0 rfl,h23.at_ 3 rfl,h23.at_ 1 rfl,trivial⟩,?_⟩
 refine dN 13 ?_
 refine dX ?_
 exact mK hJ16 (hhJ16 _ _ ⟨G23,_,pM,h23.sel [0,1,2,3,4,5] [0,1,2,3,4] (by kernel_rfl) rfl rfl⟩)
theorem dir_set{F G B:Nat->Prop}{sv kb cb bk tb bb most:Nat}{Kk Ki:Fin 16->UInt8}{s s2:STab}{sl sl2:List Sh}{o:Option (ByteArray × Int)}{nm ts c1:ByteArray}{now nn till f a u r:Int}{C D:Option Addr}{c d:Nat}{l au:Bytes}{Rq:Res}{w:World}
   (h0:Hp (fun q=>F q∨(rCB G cb most sl B bk o).F q) w w [rBlk sv 73 (svC kb cb bk),rBlk kb 78 (kdcC tb bb Kk),rSB (lV C l.length c) l,rSB (lV D au.length d) au,Rq] [rTab F tb s,rCB G cb most sl B bk o])
   (hWho:∀ w',Hp (fun q=>F q∨G q) w' w' [rBlk sv 73 (svC kb cb bk),rBlk kb 78 (kdcC tb bb Kk),rSB (lV C l.length c) l,rSB (lV D au.length d) au,Rq] [rTab F tb s,rCa G cb most sl]->Calls Tryz.prog 29 #[pt sv 0,.int .i64 now,(aV ([(sV ts),(lV C l.length c)]).toArray),(lV D au.length d),(Value.iface 82 (aV ([(sV nm),(iV .i64 nn),(iV .i64 till),(bV true),(sV ts),(lV C l.length c),(lV D au.length d)]).toArray))] w' (WhPost F G tb cb most (aV ([(iV .i64 f)]++vb (kl Ki)++[(sV c1),(iV .i64 a),(iV .i64 u),(iV .i64 r)]).toArray) s2 (0,sl2) w'))
   (hnm:nm.toList=c1.toList) (hSet:∀ w',(rBk B bk o).Φ w'->Calls Tryz.prog 37 #[pt bk 0,.int .i64 now,.string nm,.int .i64 (min till u)] w' (BookP B bk 0 (some (nm,min till u)) w')) {ff:Bool} {ft:Int} {b:Bytes} (hFind:∀ mb w',Hp (fun _=>False) w' w' [rBlk bk 164 [.map (some mb)],rBm mb (some (nm,min till u))] []->Calls Tryz.prog 38 #[pt bk 0,.int .i64 now,.string nm] w' (DPost w' (.tuple #[.int .i64 ft,.bool ff]))) (hp:packB (.fact nn nm ff ft)=.inr b) (hs2:TabOk s2) (hl:nm.size<=100000):Calls Tryz.prog 21 #[pt sv 0,.int .i64 now,(aV ([(sV nm),(iV .i64 nn),(iV .i64 till),(bV true),(sV ts),(lV C l.length c),(lV D au.length d)]).toArray)] w (DrOk F (rCB G cb most sl B bk o).F tb cb most bk s2.boxes.length c1 (s2.seal (kl Ki) 13 b) sl2 (some (nm,min till u)) w):=by
 have h0:=(show Hp _ _ _ _ [rCa G cb most sl,rBk B bk o,rTab F tb s] from h0.openStar 1 rfl)
 refine mE 95 ?_
 refine mN h0 82 ([(sV nm),(zD nn),(zD till),zI,(sV ts),(lV C l.length c),(lV D au.length d)]) fun g2 w2 h2=>?_
 refine mN h2 84 ([zE,zN]) fun g3 w3 h3=>?_
 refine ma h3 1 ?_
 refine ma h3 1 ?_
 refine ma h3 1 ?_
 refine mT (x_who h3 4 2 rfl rfl [(pt sv 0),(zD now),(aV ([(sV ts),(lV C l.length c)]).toArray),(lV D au.length d),(Value.iface 82 (aV ([(sV nm),(zD nn),(zD till),zI,(sV ts),(lV C l.length c),(lV D au.length d)]).toArray))] (by decide) (by kernel_rfl) (hWho _ (h3.carve2 4 2 rfl rfl [(false,0),(false,1),(false,2),(false,3),(false,4)] rfl rfl))) ?_
 rintro _ w5 ⟨F5,G5,rfl,h5⟩
 refine mN h5 54 ([zO]++vb (List.replicate 16 0)++[zE,zO,zO,zO]) fun g6 w6 h6=>?_
 refine mT (xR h6 0 ([(zD f)]++vb (kl Ki)++[(sV c1),(zD a),(zD u),(zD r)])) fun _ w7 h7=>?_
 refine ma h7 2 ?_
 refine ma h7 2 ?_
 refine ma h7 0 ?_
 refine mX 36 (.bool false) (bV (!((nm).toList == (c1).toList))) (by simpa using hnm) ?_
 refine mJ 2000007 (fun aJ wJ16=>∃ (GJ15_0:Nat->Prop) (xJ16:Nat->Value),aJ=patch xJ16 95 [(0,(pt sv 0)),(1,(zD now)),(5,(pt g2 0)),(6,(pt g3 0)),(7,zO),(8,(pt g6 0)),(9,zO),(10,zO)]/\Hp (fun q=>F q∨(rCB G cb most sl B bk o).F q) w wJ16 [rBlk sv 73 ([(pt kb 0),(pt cb 0),(pt bk 0)]),rBlk kb 78 ([(Value.iface 28 (pt tb 0)),(pt bb 0)]++vb (kl Kk)),rSB ((lV C l.length c)) l,rSB ((lV D au.length d)) au,Rq] [rBk GJ15_0 bk (some (nm,min till u)),rBlk g6 54 ([(zD f)]++vb (kl Ki)++[(sV c1),(zD a),(zD u),(zD r)]),rBlk g3 84 ([zE,zN]),rBlk g2 82 ([(sV nm),(zD nn),(zD till),zI,(sV ts),(lV C l.length c),(lV D au.length d)]),rCa G5 cb most sl2,rTab F5 tb s2]) ?_ (fun hJ16 hhJ16=>?_)
 ·
  rintro _ wJ16 ⟨GJ15_0,xJ16,rfl,hJh16⟩
  refine mAt ?_
  obtain ⟨mb,hG19,h19⟩:=hJh16.openBk 0 rfl
  refine mJ 2000010 (fun aJ wJ21=>∃ (xJ21:Nat->Value),aJ=patch xJ21 95 [(0,(pt sv 0)),(1,(zD now)),(5,(pt g2 0)),(6,(pt g3 0)),(7,zO),(8,(pt g6 0)),(9,zO),(11,(zD ft)),(12,(bV ff))]/\Hp (fun q=>F q∨(rCB G cb most sl B bk o).F q) w wJ21 [rBlk sv 73 ([(pt kb 0),(pt cb 0),(pt bk 0)]),rBlk kb 78 ([(Value.iface 28 (pt tb 0)),(pt bb 0)]++vb (kl Kk)),rSB ((lV C l.length c)) l,rSB ((lV D au.length d)) au,Rq] [rBlk bk 164 ([(Value.map (some mb))]),rBm mb (some (nm,min till u)),rBlk g6 54 ([(zD f)]++vb (kl Ki)++[(sV c1),(zD a),(zD u),(zD r)]),rBlk g3 84 ([zE,zN]),rBlk g2 82 ([(sV nm),(zD nn),(zD till),zI,(sV ts),(lV C l.length c),(lV D au.length d)]),rCa G5 cb most sl2,rTab F5 tb s2]) ?_ (fun hJ21 hhJ21=>?_)
  ·
   rintro _ wJ21 ⟨xJ21,rfl,hJh21⟩
   refine mAt ?_
   refine mJ 2000011 (fun aJ wJ24=>∃ (AJ23_0:Option Addr) (cJ23_1:Nat) (FJ23_2:Nat->Prop) (xJ24:Nat->Value),aJ=patch xJ24 95 [(0,(pt sv 0)),(5,(pt g2 0)),(6,(pt g3 0)),(7,zO),(8,(pt g6 0)),(9,zO),(11,(zD ft)),(12,(bV ff)),(13,(lV AJ23_0 16 cJ23_1))]/\Hp (fun q=>F q∨(rCB G cb most sl B bk o).F q) w wJ24 [rBlk sv 73 ([(pt kb 0),(pt cb 0),(pt bk 0)]),rBlk kb 78 ([(Value.iface 28 (pt tb 0)),(pt bb 0)]++vb (kl Kk)),rSB ((lV C l.length c)) l,rSB ((lV D au.length d)) au,Rq] [rTab FJ23_2 tb ((s2.seal (kl Ki) 13 b)),rSB ((lV AJ23_0 16 cJ23_1)) (mkB 98 (s2.boxes.length+1)),rBlk bk 164 ([(Value.map (some mb))]),rBm mb (some (nm,min till u)),rBlk g6 54 ([(zD f)]++vb (kl Ki)++[(sV c1),(zD a),(zD u),(zD r)]),rBlk g3 84 ([zE,zN]),rBlk g2 82 ([(sV nm),(zD nn),(zD till),zI,(sV ts),(lV C l.length c),(lV D au.length d)]),rCa G5 cb most sl2]) ?_ (fun hJ24 hhJ24=>?_)
   ·
    rintro _ wJ24 ⟨AJ23_0,cJ23_1,FJ23_2,xJ24,rfl,hJh24⟩
    refine mAt ?_
    refine ma hJh24 4 ?_
    refine mT (xR hJh24 5 ([(sV c1),(lV AJ23_0 16 cJ23_1)])) fun _ w28 h28=>?_
    refine mF (post_2 (r:=.cell 6 84) (s:=.tmp 7) (by kernel_rfl) rfl (rce (h28.at_ 5 rfl)) (rtm zO) ?_)
    have h29:=(show Hp _ _ _ _ (lBk bk mb (some (nm,min till u))++[_,_,_]) from h28.sel [2,3,0,7,1] [] rfl rfl rfl).closeBk
    have h29b:=(show Hp _ _ _ _ ([rCa _ cb most sl2,rBk _ bk (some (nm,min till u))]++[_,_]) from h29.sel [2,0,1,3] [] rfl rfl rfl).closeStar
    exact ⟨_,_,_,_,_,rfl,h29b.sel [1,0,2] [] rfl rfl rfl⟩
   refine dG hJh21 23 22 (fun W=>(rBlk sv 73 ([(pt kb 0),(pt cb 0),(pt bk 0)])).Φ W/\(rBlk kb 78 ([(Value.iface 28 (pt tb 0)),(pt bb 0)]++vb (kl Kk))).Φ W/\(rBlk g6 54 ([(zD f)]++vb (kl Ki)++[(sV c1),(zD a),(zD u),(zD r)])).Φ W/\(rBlk g2 82 ([(sV nm),(zD nn),(zD till),zI,(sV ts),(lV C l.length c),(lV D au.length d)])).Φ W/\True) (fun w32 h32=>⟨h32.rd 0 rfl,h32.rd 1 rfl,h32.at_ 2 rfl,h32.at_ 4 rfl,trivial⟩) ?_
   intro w32 h32
   refine dP 15 [0,1,2,7,9,11,13,14] ?_
   refine dL 3 (fun W hW=>hW.1) ?_
   refine dP 12 [4,5] ?_
   refine dL 6 (fun W hW=>hW.2.1) ?_
   refine dL 8 (fun W hW=>hW.2.2.1) ?_
   refine dLs 8 [10,12] (fun W hW=>hW.2.2.2.1) ?_
   refine dP 6 [15,16] ?_
   refine dT 17 (x_tsX (G:=fun _=>False) h32 6 rfl Ki 13 hp (by kernel_rfl) hs2 (rTh_fact _ nn nm ff ft) (fun _ hf=>hf.elim) hl) ?_
   rintro _ w33 ⟨A33,c33,F33,rfl,h33⟩
   refine ⟨⟨h33.rd 0 rfl,h33.rd 1 rfl,h33.at_ 4 rfl,h33.at_ 6 rfl,trivial⟩,?_⟩
   refine dP 1 [18,19,20,21] ?_
   refine dN 22 ?_
   refine dX ?_
   exact mK hJ24 (hhJ24 _ _ ⟨A33,c33,F33,_,pM,h33.sel [0,1,2,3,4,5,6,7] [0,1,2,3,4] (by kernel_rfl) rfl rfl⟩)
  refine dG h19 13 12 (fun W=>(rBlk sv 73 ([(pt kb 0),(pt cb 0),(pt bk 0)])).Φ W/\(rBlk g2 82 ([(sV nm),(zD nn),(zD till),zI,(sV ts),(lV C l.length c),(lV D au.length d)])).Φ W/\True) (fun w34 h34=>⟨h34.rd 0 rfl,h34.at_ 4 rfl,trivial⟩) ?_
  intro w34 h34
  refine dP 8 [0,1,2,4,5] ?_
  refine dL 3 (fun W hW=>hW.1) ?_
  refine dL 6 (fun W hW=>hW.2.1) ?_
  refine dD 7 h34 [(pt bk 0),(zD now),(sV nm)] (hFind _ _ (h34.carve0 [(true,0),(true,1)] rfl)) (fun w35 h35=>⟨⟨h35.rd 0 rfl,h35.at_ 4 rfl,trivial⟩,?_⟩)
  refine dP 1 [8,9,10,11] ?_
  refine dN 12 ?_
  refine dX ?_
  exact mK hJ21 (hhJ21 _ _ ⟨_,pM,h35.sel [0,1,2,3,4,5,6] [0,1,2,3,4] (by kernel_rfl) rfl rfl⟩)
 refine dG h7 14 13 (fun W=>(rBlk sv 73 ([(pt kb 0),(pt cb 0),(pt bk 0)])).Φ W/\(rBlk g2 82 ([(sV nm),(zD nn),(zD till),zI,(sV ts),(lV C l.length c),(lV D au.length d)])).Φ W/\(rBlk g6 54 ([(zD f)]++vb (kl Ki)++[(sV c1),(zD a),(zD u),(zD r)])).Φ W/\True) (fun w36 h36=>⟨h36.rd 0 rfl,h36.at_ 2 rfl,h36.at_ 0 rfl,trivial⟩) ?_
 intro w36 h36
 refine dP 7 [0,1,2,4,5,7,9] ?_
 refine dL 3 (fun W hW=>hW.1) ?_
 refine dLs 4 [6,8] (fun W hW=>hW.2.1) ?_
 refine dL 10 (fun W hW=>hW.2.2.1) ?_
 refine dV 11 (v:=(zD (min till u))) (fun W hW=>e_min (.tmp 46) (.tmp 48) #[2,2] (by kernel_rfl) .i64 .i64 till u (by kernel_rfl) (by kernel_rfl) (min till u) (by split <;> omega) _) ?_
 refine dT 12 (x_bkset (ec:=0) (o2:=(some (nm,min till u))) h36 4 rfl [(pt bk 0),(zD now),(sV nm),(zD (min till u))] (by kernel_rfl) (hSet _ (h36.at_ 4 rfl))) ?_
 rintro _ w37 ⟨G37,rfl,h37⟩
 refine ⟨⟨h37.rd 0 rfl,h37.at_ 3 rfl,h37.at_ 1 rfl,trivial⟩,?_⟩
 refine dN 13 ?_
 refine dX ?_
 exact mK hJ16 (hhJ16 _ _ ⟨G37,_,pM,h37.sel [0,1,2,3,4,5] [0,1,2,3,4] (by kernel_rfl) rfl rfl⟩)
theorem dir_ask{F G B:Nat->Prop}{sv kb cb bk tb bb most:Nat}{Kk Ki:Fin 16->UInt8}{s s2:STab}{sl sl2:List Sh}{o:Option (ByteArray × Int)}{nm ts c1:ByteArray}{now nn till f a u r:Int}{C D:Option Addr}{c d:Nat}{l au:Bytes}{Rq:Res}{w:World}
   (h0:Hp (fun q=>F q∨(rCB G cb most sl B bk o).F q) w w [rBlk sv 73 (svC kb cb bk),rBlk kb 78 (kdcC tb bb Kk),rSB (lV C l.length c) l,rSB (lV D au.length d) au,Rq] [rTab F tb s,rCB G cb most sl B bk o])
   (hWho:∀ w',Hp (fun q=>F q∨G q) w' w' [rBlk sv 73 (svC kb cb bk),rBlk kb 78 (kdcC tb bb Kk),rSB (lV C l.length c) l,rSB (lV D au.length d) au,Rq] [rTab F tb s,rCa G cb most sl]->Calls Tryz.prog 29 #[pt sv 0,.int .i64 now,(aV ([(sV ts),(lV C l.length c)]).toArray),(lV D au.length d),(Value.iface 82 (aV ([(sV nm),(iV .i64 nn),(iV .i64 till),(bV false),(sV ts),(lV C l.length c),(lV D au.length d)]).toArray))] w' (WhPost F G tb cb most (aV ([(iV .i64 f)]++vb (kl Ki)++[(sV c1),(iV .i64 a),(iV .i64 u),(iV .i64 r)]).toArray) s2 (0,sl2) w'))
   {ff:Bool} {ft:Int} {b:Bytes} (hFind:∀ mb w',Hp (fun _=>False) w' w' [rBlk bk 164 [.map (some mb)],rBm mb o] []->Calls Tryz.prog 38 #[pt bk 0,.int .i64 now,.string nm] w' (DPost w' (.tuple #[.int .i64 ft,.bool ff]))) (hp:packB (.fact nn nm ff ft)=.inr b) (hs2:TabOk s2) (hl:nm.size<=100000):Calls Tryz.prog 21 #[pt sv 0,.int .i64 now,(aV ([(sV nm),(iV .i64 nn),(iV .i64 till),(bV false),(sV ts),(lV C l.length c),(lV D au.length d)]).toArray)] w (DrOk F (rCB G cb most sl B bk o).F tb cb most bk s2.boxes.length c1 (s2.seal (kl Ki) 13 b) sl2 o w):=by
 have h0:=(show Hp _ _ _ _ [rCa G cb most sl,rBk B bk o,rTab F tb s] from h0.openStar 1 rfl)
 refine mE 95 ?_
 refine mN h0 82 ([(sV nm),(zD nn),(zD till),zV,(sV ts),(lV C l.length c),(lV D au.length d)]) fun g2 w2 h2=>?_
 refine mN h2 84 ([zE,zN]) fun g3 w3 h3=>?_
 refine ma h3 1 ?_
 refine ma h3 1 ?_
 refine ma h3 1 ?_
 refine mT (x_who h3 4 2 rfl rfl [(pt sv 0),(zD now),(aV ([(sV ts),(lV C l.length c)]).toArray),(lV D au.length d),(Value.iface 82 (aV ([(sV nm),(zD nn),(zD till),zV,(sV ts),(lV C l.length c),(lV D au.length d)]).toArray))] (by decide) (by kernel_rfl) (hWho _ (h3.carve2 4 2 rfl rfl [(false,0),(false,1),(false,2),(false,3),(false,4)] rfl rfl))) ?_
 rintro _ w5 ⟨F5,G5,rfl,h5⟩
 refine mN h5 54 ([zO]++vb (List.replicate 16 0)++[zE,zO,zO,zO]) fun g6 w6 h6=>?_
 refine mT (xR h6 0 ([(zD f)]++vb (kl Ki)++[(sV c1),(zD a),(zD u),(zD r)])) fun _ w7 h7=>?_
 refine ma h7 2 ?_
 obtain ⟨mb,hG13,h13⟩:=h7.openBk 4 rfl
 refine mJ 2000010 (fun aJ wJ15=>∃ (xJ15:Nat->Value),aJ=patch xJ15 95 [(0,(pt sv 0)),(1,(zD now)),(5,(pt g2 0)),(6,(pt g3 0)),(7,zO),(8,(pt g6 0)),(9,zO),(11,(zD ft)),(12,(bV ff))]/\Hp (fun q=>F q∨(rCB G cb most sl B bk o).F q) w wJ15 [rBlk sv 73 ([(pt kb 0),(pt cb 0),(pt bk 0)]),rBlk kb 78 ([(Value.iface 28 (pt tb 0)),(pt bb 0)]++vb (kl Kk)),rSB ((lV C l.length c)) l,rSB ((lV D au.length d)) au,Rq] [rBlk bk 164 ([(Value.map (some mb))]),rBm mb o,rBlk g6 54 ([(zD f)]++vb (kl Ki)++[(sV c1),(zD a),(zD u),(zD r)]),rBlk g3 84 ([zE,zN]),rBlk g2 82 ([(sV nm),(zD nn),(zD till),zV,(sV ts),(lV C l.length c),(lV D au.length d)]),rCa G5 cb most sl2,rTab F5 tb s2]) ?_ (fun hJ15 hhJ15=>?_)
 ·
  rintro _ wJ15 ⟨xJ15,rfl,hJh15⟩
  refine mAt ?_
  refine mJ 2000011 (fun aJ wJ18=>∃ (AJ17_0:Option Addr) (cJ17_1:Nat) (FJ17_2:Nat->Prop) (xJ18:Nat->Value),aJ=patch xJ18 95 [(0,(pt sv 0)),(5,(pt g2 0)),(6,(pt g3 0)),(7,zO),(8,(pt g6 0)),(9,zO),(11,(zD ft)),(12,(bV ff)),(13,(lV AJ17_0 16 cJ17_1))]/\Hp (fun q=>F q∨(rCB G cb most sl B bk o).F q) w wJ18 [rBlk sv 73 ([(pt kb 0),(pt cb 0),(pt bk 0)]),rBlk kb 78 ([(Value.iface 28 (pt tb 0)),(pt bb 0)]++vb (kl Kk)),rSB ((lV C l.length c)) l,rSB ((lV D au.length d)) au,Rq] [rTab FJ17_2 tb ((s2.seal (kl Ki) 13 b)),rSB ((lV AJ17_0 16 cJ17_1)) (mkB 98 (s2.boxes.length+1)),rBlk bk 164 ([(Value.map (some mb))]),rBm mb o,rBlk g6 54 ([(zD f)]++vb (kl Ki)++[(sV c1),(zD a),(zD u),(zD r)]),rBlk g3 84 ([zE,zN]),rBlk g2 82 ([(sV nm),(zD nn),(zD till),zV,(sV ts),(lV C l.length c),(lV D au.length d)]),rCa G5 cb most sl2]) ?_ (fun hJ18 hhJ18=>?_)
  ·
   rintro _ wJ18 ⟨AJ17_0,cJ17_1,FJ17_2,xJ18,rfl,hJh18⟩
   refine mAt ?_
   refine ma hJh18 4 ?_
   refine mT (xR hJh18 5 ([(sV c1),(lV AJ17_0 16 cJ17_1)])) fun _ w22 h22=>?_
   refine mF (post_2 (r:=.cell 6 84) (s:=.tmp 7) (by kernel_rfl) rfl (rce (h22.at_ 5 rfl)) (rtm zO) ?_)
   have h23:=(show Hp _ _ _ _ (lBk bk mb o++[_,_,_]) from h22.sel [2,3,0,7,1] [] rfl rfl rfl).closeBk
   have h23b:=(show Hp _ _ _ _ ([rCa _ cb most sl2,rBk _ bk o]++[_,_]) from h23.sel [2,0,1,3] [] rfl rfl rfl).closeStar
   exact ⟨_,_,_,_,_,rfl,h23b.sel [1,0,2] [] rfl rfl rfl⟩
  refine dG hJh15 23 22 (fun W=>(rBlk sv 73 ([(pt kb 0),(pt cb 0),(pt bk 0)])).Φ W/\(rBlk kb 78 ([(Value.iface 28 (pt tb 0)),(pt bb 0)]++vb (kl Kk))).Φ W/\(rBlk g6 54 ([(zD f)]++vb (kl Ki)++[(sV c1),(zD a),(zD u),(zD r)])).Φ W/\(rBlk g2 82 ([(sV nm),(zD nn),(zD till),zV,(sV ts),(lV C l.length c),(lV D au.length d)])).Φ W/\True) (fun w26 h26=>⟨h26.rd 0 rfl,h26.rd 1 rfl,h26.at_ 2 rfl,h26.at_ 4 rfl,trivial⟩) ?_
  intro w26 h26
  refine dP 15 [0,1,2,7,9,11,13,14] ?_
  refine dL 3 (fun W hW=>hW.1) ?_
  refine dP 12 [4,5] ?_
  refine dL 6 (fun W hW=>hW.2.1) ?_
  refine dL 8 (fun W hW=>hW.2.2.1) ?_
  refine dLs 8 [10,12] (fun W hW=>hW.2.2.2.1) ?_
  refine dP 6 [15,16] ?_
  refine dT 17 (x_tsX (G:=fun _=>False) h26 6 rfl Ki 13 hp (by kernel_rfl) hs2 (rTh_fact _ nn nm ff ft) (fun _ hf=>hf.elim) hl) ?_
  rintro _ w27 ⟨A27,c27,F27,rfl,h27⟩
  refine ⟨⟨h27.rd 0 rfl,h27.rd 1 rfl,h27.at_ 4 rfl,h27.at_ 6 rfl,trivial⟩,?_⟩
  refine dP 1 [18,19,20,21] ?_
  refine dN 22 ?_
  refine dX ?_
  exact mK hJ18 (hhJ18 _ _ ⟨A27,c27,F27,_,pM,h27.sel [0,1,2,3,4,5,6,7] [0,1,2,3,4] (by kernel_rfl) rfl rfl⟩)
 refine dG h13 13 12 (fun W=>(rBlk sv 73 ([(pt kb 0),(pt cb 0),(pt bk 0)])).Φ W/\(rBlk g2 82 ([(sV nm),(zD nn),(zD till),zV,(sV ts),(lV C l.length c),(lV D au.length d)])).Φ W/\True) (fun w28 h28=>⟨h28.rd 0 rfl,h28.at_ 4 rfl,trivial⟩) ?_
 intro w28 h28
 refine dP 8 [0,1,2,4,5] ?_
 refine dL 3 (fun W hW=>hW.1) ?_
 refine dL 6 (fun W hW=>hW.2.1) ?_
 refine dD 7 h28 [(pt bk 0),(zD now),(sV nm)] (hFind _ _ (h28.carve0 [(true,0),(true,1)] rfl)) (fun w29 h29=>⟨⟨h29.rd 0 rfl,h29.at_ 4 rfl,trivial⟩,?_⟩)
 refine dP 1 [8,9,10,11] ?_
 refine dN 12 ?_
 refine dX ?_
 exact mK hJ15 (hhJ15 _ _ ⟨_,pM,h29.sel [0,1,2,3,4,5,6] [0,1,2,3,4] (by kernel_rfl) rfl rfl⟩)
end
section
open Go.RowKit Go.QT
section
variable{F G Gb:Nat->Prop}{sv kb cb bk tb bb most ce:Nat}{Kk Ki Kx K K2:Fin 16->UInt8}{s:STab}{sl:List Sh}{us:List User}{us_:User}{srv:ByteArray}{now nn till f fo a u r pf pa pu pr t q:Int}{C D E B:Option Addr}{c d e n:Nat}{l au pb b1 b2:Bytes}{w:World}{qr qm:Bool}{xs:List Xt}
end
end
section
open Go.RowKit Go.QT
section
variable{kk ka kb_:Fin 16->UInt8}{at_ Ri:Int}{s:STab}{sl:List Sh}{ks:List Bytes}{Kc K:Fin 16->UInt8}{fl e R:Int}{m i:Nat}{now k:Int}{ba b1 b2:Bytes}
theorem pack_authent'{t q:Int}{n:Nat}(h1:0<=t/\t<=1099511627776)(h2:0<=q/\q<=1099511627776):∃ b,packB (.authent bANN t q zK (mkB 100 n))=.inr b:=
 pack_authent (rightM_is right_ann (by intro x hx;simp only [List.mem_cons,List.not_mem_nil,or_false] at hx;rcases hx with rfl|rfl <;> exact inN_is (by omega) (by omega))) (by decide) (by rw [mkB_len];decide)
end
section
variable{F G Gb:Nat->Prop}{sv kb cb bk tb bb ce:Nat}{kk ka kb_ Kc K:Fin 16->UInt8}{at_ Ri Oi:Int}{mesh:Bool}{s:STab}{sl:List Sh}{ks:List Bytes}{fl e R:Int}{m i:Nat}{now k:Int}{ba b1 b2:Bytes}{C D:Option Addr}{c d n1 n2:Nat}{w:World}
-- It is refused from then on.
-- .. and till then it is renewed.
end
section
variable{F0:Nat->Prop}{w0 w:World}{ro rs:List Res}
end
end
section
open Go.RowKit Go.QT
theorem toList_inj''{s t:ByteArray}(h:s.toList=t.toList):s=t:=by
 obtain ⟨a⟩:=s;obtain ⟨b⟩:=t
 rw [ByteArray.toList_eq,ByteArray.toList_eq] at h
 congr 1
 exact Array.toList_inj.1 h
/-- The bytes of what is asked. -/
def qD(nm:ByteArray)(nn till:Int)(m:Bool)(l:Bytes):Bytes:=wrV (dirD nm nn till m (.ticket bKDC l) [])
theorem qD_len{nm:ByteArray}{nn till:Int}{m:Bool}{n:Nat}(hs:nm.size<=300):(qD nm nn till m (mkB 98 n)).length<=4096:=by
 have a6:=tkD_len (s:=bKDC) (b:=mkB 98 n) (show (3:Nat)<=300 by decide) (by rw [mkB_len];decide)
 have h0:=wrV_leT (dirD nm nn till m (.ticket bKDC (mkB 98 n)) [])
 have e:bodyV (dirD nm nn till m (.ticket bKDC (mkB 98 n)) [])=wrL [bD nm.data.toList,nD nn,nD till,nD m.toNat,valD (.ticket bKDC (mkB 98 n)),bD []]:=rfl
 rw [e] at h0
 have a1:=wr_bD nm.data.toList
 have a2:=wr_nD nn
 have a3:=wr_nD till
 have a4:=wr_nD (m.toNat:Int)
 have a7:=wr_bD []
 rw [size_toList] at a1
 simp only [wrL,List.length_append,List.length_nil] at h0 a7
 unfold qD
 refine Nat.le_trans h0 ?_
 omega
theorem pack_fact{n t:Int}{s:ByteArray}{f:Bool}(hr:rightM s [n,t]=true)(hs:s.size<=300):∃ b,packB (.fact n s f t)=.inr b:=by
 refine ⟨_,pack_is hr ?_⟩
 refine Nat.le_trans (val_small (n:=310) ?_ (by simp [valL])) (by decide)
 intro v hv
 simp only [valL,List.mem_cons,List.not_mem_nil,or_false] at hv
 have h2:=wr_bD s.data.toList
 rw [size_toList] at h2
 rcases hv with rfl|rfl|rfl|rfl
 · have:=wr_nD n;omega
 · omega
 · have:=wr_nD (f.toNat:Int);omega
 have:=wr_nD t;omega
section
variable{F:Nat->Prop}{tb n0 cc an ca:Nat}{st:STab}{nm:ByteArray}{nn till:Int}{m:Bool}{l:Bytes}{C D:Option Addr}
theorem sumD(hn0:n0=l.length)(hsm:st.sums.length<=1000)(hs:rightN nm=true)(hsl:nm.size<=300)(hn:inN nn=true)(ht:inN till=true)(hll:l.length<=300)(hlen:(qD nm nn till m l).length<=4096)
   (w':World) (hT:(rTab F tb st).Φ w') (hq:(rSB (.slice C n0 cc) l).Φ w') (hd:(rSB (.slice C n0 cc) l).dj (rTab F tb st)) :
   Calls Tryz.prog 23 #[.iface 28 (pt tb 0),.iface 82 (.agg #[.string nm,.int .i64 nn,.int .i64 till,.bool m,.string bKDC,.slice C n0 cc,.slice D an ca])] w' (SumPost F tb st (qD nm nn till m l) w'):=by
 subst hn0
 exact sumDir_any hT (by omega) hq hd hs (by omega) hn ht ⟨by decide,by omega⟩ right_kdc hlen
end
/-- Behind i rounds. -/
structure DrS(kk K1:Fin 16->UInt8)(at_ fl e1 R:Int)(s:STab)(sl:List Sh)(o:Option (ByteArray × Int))(till:Int)(i:Nat)(now:Int):Prop where
 nk:s.keys.length<=5
 nb:s.boxes.length<=6+2*i
 ns:s.sums.length<=i
 bd:∀ b ∈ s.boxes,b.body.length<=4096
 b2:∃ b,s.box (mkB 98 2)=some ⟨kl kk,2,b⟩/\packB (.inside fl K1 bANN at_ e1 R)=.inr b
 sh:∀ y ∈ sl,0<=y.t/\y.t<=1099511627776/\y.q<(i:Int)
 nl:sl.length<=i
 at0:0<=at_/\at_<=1023
 e0:0<=e1/\e1<=5000
 tm:at_<=now/\now<=at_+31*(i:Int)
 tl:0<=till/\till<=5000
 bo:(o=none/\till<=now)∨o=some (bANN,till)
section
variable{kk K1:Fin 16->UInt8}{at_ fl e1 R:Int}{s s':STab}{sl:List Sh}{o:Option (ByteArray × Int)}{till:Int}{i:Nat}{now k nn tv:Int}{ba b:Bytes}{m:Bool}{nm:ByteArray}
theorem DrS.skip(h:DrS kk K1 at_ fl e1 R s sl o till i now):DrS kk K1 at_ fl e1 R s sl o till (i+1) now:=
 ⟨h.nk,by have:=h.nb;omega,by have:=h.ns;omega,h.bd,h.b2,fun y hy=>⟨(h.sh y hy).1,(h.sh y hy).2.1,by have:=(h.sh y hy).2.2;omega⟩,by have:=h.nl;omega,h.at0,h.e0,⟨h.tm.1,by have:=h.tm;omega⟩,h.tl,h.bo⟩
theorem DrS.room(h:DrS kk K1 at_ fl e1 R s sl o till i now)(hi:i<=20)(r:Nat)(hr:r<=1000):Room r s:=
 ⟨fun b hb=>Nat.le_trans (h.bd b hb) (by decide),by have:=h.nb;omega,by have:=h.nk;omega⟩
/-- The table goes on. -/
theorem DrS.next(h:DrS kk K1 at_ fl e1 R s sl o till i now)(hi:i<20)(hk:0<=k/\k<=31)(h1:s'.keys.length<=5)(h2:s'.boxes.length<=8+2*i)(h3:s'.sums.length<=i+1)(h4:∀ b ∈ s'.boxes,b.body.length<=4096)(h5:∀ {x},s.box (mkB 98 2)=some x->s'.box (mkB 98 2)=some x){sl':List Sh}(h6:sl'=sl∨sl'=keptF (now+k) sl++[⟨bANN,now+k,(i:Int)⟩]){o':Option (ByteArray × Int)}{till':Int}(h7:0<=till'/\till'<=5000)(h8:(o'=none/\till'<=now+k)∨o'=some (bANN,till')) :
   DrS kk K1 at_ fl e1 R s' sl' o' till' (i+1) (now+k):=by
 obtain ⟨b,hb,hp⟩:=h.b2
 have tm:=h.tm
 have a0:=h.at0
 refine ⟨h1,by omega,h3,h4,⟨b,h5 hb,hp⟩,fun y hy=>?_,?_,h.at0,h.e0,⟨by omega,by omega⟩,h7,h8⟩
 · rcases h6 with rfl|rfl
   · have:=h.sh y hy;exact ⟨this.1,this.2.1,by omega⟩
   rcases List.mem_append.1 hy with hy|hy
   · have:=h.sh y (List.mem_filter.1 hy).1;exact ⟨this.1,this.2.1,by omega⟩
   rw [List.mem_singleton.1 hy];exact ⟨by show 0<=now+k;omega,by show now+k<=_;omega,by show (i:Int)<_;omega⟩
 have:=h.nl
 rcases h6 with rfl|rfl
 · omega
 rw [List.length_append];have:=kept_len (now+k) sl;simp;omega
/-- As the law asks. -/
abbrev DrH(F G B:Nat->Prop)(sv kb cb bk tb bb:Nat)(kk:Fin 16->UInt8)(s:STab)(sl:List Sh)(o:Option (ByteArray × Int))(nb:Nat)(C D:Option Addr)(n1 c n2 d:Nat)(w:World):Prop:=
 Hp (fun q=>F q∨(rCB G cb 64 sl B bk o).F q) w w [rBlk sv 73 (svC kb cb bk),rBlk kb 78 (kdcC tb bb kk),rSB (.slice C n1 c) (mkB 98 2),rSB (.slice D n2 d) (mkB 98 nb),rSB (.slice C n1 c) (mkB 98 2)] [rTab F tb s,rCB G cb 64 sl B bk o]
abbrev DrC(sv:Nat)(now:Int)(nm:ByteArray)(nn tv:Int)(m:Bool)(C:Option Addr)(n1 c:Nat)(D:Option Addr)(n2 d:Nat)(w:World)(Q:Ending->World->Prop):Prop:=
 Calls Tryz.prog 21 #[pt sv 0,.int .i64 now,.agg #[.string nm,.int .i64 nn,.int .i64 tv,.bool m,.string bKDC,.slice C n1 c,.slice D n2 d]] w Q
/-- It is refused, for a reason; or a fact is told. -/
theorem DrS.ask(h:DrS kk K1 at_ fl e1 R s sl o till i now)(hi:i<20)(hk:0<=k/\k<=31)(hnn:0<=nn/\nn<=1023)(htv:now+k<=tv/\tv<=now+k+255)(hr:rightN nm=true)(hsz:nm.size<=60)
   (hpa:packB (.authent bANN (now+k) (i:Int) zK (mkB 100 (s.sumAt (qD nm nn tv m (mkB 98 2))+1)))=.inr ba) :
   (∃ (ec:Nat) (sl3:List Sh) (o3:Option (ByteArray × Int)) (till3:Int),ec≠0/\((e1<=now+k/\ec=12/\till3=till)∨(now+k<e1/\m=true/\nm≠bANN/\ec=17/\till3=till)∨(now+k<e1/\m=true/\nm=bANN/\min tv e1<=now+k/\ec=12/\till3=min tv e1)) /\
     DrS kk K1 at_ fl e1 R ((s.digest (qD nm nn tv m (mkB 98 2))).seal (kl K1) 7 ba) sl3 o3 till3 (i+1) (now+k) /\
     ∀ {F G B:Nat->Prop} {sv kb cb bk tb bb:Nat} {C D:Option Addr} {c d n1 n2:Nat} {w:World} (_hn1:n1=(mkB 98 2).length) (_hn2:n2=(mkB 98 (s.boxes.length+1)).length),DrH F G B sv kb cb bk tb bb kk ((s.digest (qD nm nn tv m (mkB 98 2))).seal (kl K1) 7 ba) sl o (s.boxes.length+1) C D n1 c n2 d w ->
       DrC sv (now+k) nm nn tv m C n1 c D n2 d w (DrNo F (rCB G cb 64 sl B bk o).F tb cb 64 bk ec ((s.digest (qD nm nn tv m (mkB 98 2))).seal (kl K1) 7 ba) sl3 o3 w)) ∨
   (∃ (sl3:List Sh) (o3:Option (ByteArray × Int)) (till3:Int) (ff:Bool) (ft:Int) (b:Bytes),now+k<e1/\((m=true/\nm=bANN/\now+k<min tv e1/\till3=min tv e1/\ff=true/\ft=min tv e1)∨(m=false/\till3=till/\((nm=bANN/\now+k<till/\ff=true/\ft=till)∨((nm≠bANN∨till<=now+k)/\ff=false/\ft=0))))/\packB (.fact nn nm ff ft)=.inr b /\
     DrS kk K1 at_ fl e1 R (((s.digest (qD nm nn tv m (mkB 98 2))).seal (kl K1) 7 ba).seal (kl K1) 13 b) sl3 o3 till3 (i+1) (now+k) /\
     ∀ {F G B:Nat->Prop} {sv kb cb bk tb bb:Nat} {C D:Option Addr} {c d n1 n2:Nat} {w:World} (_hn1:n1=(mkB 98 2).length) (_hn2:n2=(mkB 98 (s.boxes.length+1)).length),DrH F G B sv kb cb bk tb bb kk ((s.digest (qD nm nn tv m (mkB 98 2))).seal (kl K1) 7 ba) sl o (s.boxes.length+1) C D n1 c n2 d w ->
       DrC sv (now+k) nm nn tv m C n1 c D n2 d w (DrOk F (rCB G cb 64 sl B bk o).F tb cb 64 bk (s.boxes.length+1) bANN (((s.digest (qD nm nn tv m (mkB 98 2))).seal (kl K1) 7 ba).seal (kl K1) 13 b) sl3 o3 w)):=by
 have tm:=h.tm
 have a0:=h.at0
 have nb:=h.nb
 have nl:=h.nl
 have ee:=h.e0
 have tl:=h.tl
 generalize hβ:qD nm nn tv m (mkB 98 2)=β at *
 have u1:((s.digest β).seal (kl K1) 7 ba).keys.length<=5:=by show (s.digest β).keys.length<=_;rw [dig_keys];exact h.nk
 have u2:((s.digest β).seal (kl K1) 7 ba).boxes.length=s.boxes.length+1:=by rw [seal_len,dig_boxes]
 have u3:((s.digest β).seal (kl K1) 7 ba).sums.length<=i+1:=au_sums h.ns
 have u4:∀ b ∈ ((s.digest β).seal (kl K1) 7 ba).boxes,b.body.length<=4096:=fun b hb=>by
   have hb:b ∈ (s.digest β).boxes++[⟨kl K1,7,ba⟩]:=hb
   rw [dig_boxes] at hb
   simp only [List.mem_append,List.mem_singleton] at hb
   rcases hb with hb|rfl
   · exact h.bd b hb
   exact pack_le hpa
 have u5:∀ {x},s.box (mkB 98 2)=some x->((s.digest β).seal (kl K1) 7 ba).box (mkB 98 2)=some x:=fun hh=>au_old hh
 have hsk:SK ((s.digest β).seal (kl K1) 7 ba) β (s.sumAt β):=au_sk
 have hbx:((s.digest β).seal (kl K1) 7 ba).box (mkB 98 (s.boxes.length+1))=some ⟨kl K1,7,ba⟩:=au_box rfl (by omega)
 obtain ⟨p2,hb2,hp2⟩:=h.b2
 have hb2':=u5 hb2
 have hdig:((s.digest β).seal (kl K1) 7 ba).digest β=(s.digest β).seal (kl K1) 7 ba:=dig_old hsk
 have hnear:nearF (now+k) (now+k)=true:=by unfold nearF;exact decide_eq_true ⟨by omega,by omega,by omega,by omega,by omega,by omega⟩
 have hrm:Room 800 ((s.digest β).seal (kl K1) 7 ba):=⟨fun b hb=>Nat.le_trans (u4 b hb) (by decide),by omega,by omega⟩
 have hsn:(⟨bANN,now+k,(i:Int)⟩:Sh) ∉ sl:=fun hy=>absurd (h.sh _ hy).2.2 (by simp)
 generalize hs2:(s.digest β).seal (kl K1) 7 ba=s2 at *
 have hnext:=fun {sl':List Sh} {o':Option (ByteArray × Int)} {till':Int} h6 h7 h8=>h.next (s':=s2) hi hk u1 (by omega) u3 u4 u5 (sl':=sl') h6 (o':=o') (till':=till') h7 h8
 have hsame:(o=none/\till<=now+k)∨o=some (bANN,till):=by
   rcases h.bo with ⟨h1,h2⟩|h1
   · exact .inl ⟨h1,by omega⟩
   exact .inr h1
 rcases (by omega:e1<=now+k∨now+k<e1) with hu|hu
 · refine .inl ⟨12,sl,o,till,by decide,.inl ⟨hu,rfl,rfl⟩,hnext (.inl rfl) tl hsame,?_⟩
   intro F G B sv kb cb bk tb bb C D c d n1 n2 w hn1 hn2 h0
   subst hn1 hn2
   exact dir_err (Ki:=zK) h0 (fun w' h=>who_e1 h (fun w'' h'=>opened_late (h'.rd 0 rfl) (h'.rd 1 rfl) (h'.rd 2 rfl) hrm.ok (h'.rd 3 rfl) (by rw [op_bx hb2' hp2];rfl) hu) (by decide)) (by decide)
 have hwho:∀ {F G:Nat->Prop} {sv kb cb bk tb bb:Nat} {C D:Option Addr} {c d:Nat} (w':World),Hp (fun q=>F q∨G q) w' w' [rBlk sv 73 (svC kb cb bk),rBlk kb 78 (kdcC tb bb kk),rSB (.slice C (mkB 98 2).length c) (mkB 98 2),rSB (.slice D (mkB 98 (s.boxes.length+1)).length d) (mkB 98 (s.boxes.length+1)),rSB (.slice C (mkB 98 2).length c) (mkB 98 2)] [rTab F tb s2,rCa G cb 64 sl] ->
     Calls Tryz.prog 29 #[pt sv 0,.int .i64 (now+k),.agg #[.string bKDC,.slice C (mkB 98 2).length c],.slice D (mkB 98 (s.boxes.length+1)).length d,.iface 82 (.agg #[.string nm,.int .i64 nn,.int .i64 tv,.bool m,.string bKDC,.slice C (mkB 98 2).length c,.slice D (mkB 98 (s.boxes.length+1)).length d])] w' (WhPost F G tb cb 64 (.agg ([Value.int .i64 fl]++vb (kl K1)++[Value.string bANN,.int .i64 at_,.int .i64 e1,.int .i64 R]).toArray) s2 (0,keptF (now+k) sl++[⟨bANN,now+k,(i:Int)⟩]) w'):=by
   intro F G sv kb cb bk tb bb C D c d w' hw
   have:=who_any (β:=β) (rr:=(0,keptF (now+k) sl++[⟨bANN,now+k,(i:Int)⟩])) hw hrm.ok (by omega) (op_bx hb2' hp2) hu (op_bx hbx hpa) (by rw [hsk.1])
     (fun w'' h1 h2 h3=>hβ ▸ sumD (D:=D) (an:=(mkB 98 (s.boxes.length+1)).length) (ca:=d) rfl (by omega) hr (by omega) (inN_is hnn.1 (by omega)) (inN_is (by omega) (by omega)) (by rw [mkB_len];decide) (qD_len (by omega)) w'' h1 h2 h3)
     (fun w'' hC=>show_ok (x:=⟨bANN,now+k,(i:Int)⟩) hC hnear (fun y hy=>⟨(h.sh y hy).1,(h.sh y hy).2.1⟩) (by omega) hsn (by omega) (by decide))
   rwa [hdig] at this
 have hE:∀ t:Int,0<=t->t<=5000->rightM nm [nn,t]=true:=fun t h1 h2=>rightM_is hr (by intro x hx;simp only [List.mem_cons,List.not_mem_nil,or_false] at hx;rcases hx with rfl|rfl <;> exact inN_is (by omega) (by omega))
 have hok:∀ (ff:Bool) (ft:Int) (b:Bytes),packB (.fact nn nm ff ft)=.inr b->∀ {o':Option (ByteArray × Int)} {till':Int},(0<=till'/\till'<=5000)->((o'=none/\till'<=now+k)∨o'=some (bANN,till'))->DrS kk K1 at_ fl e1 R (s2.seal (kl K1) 13 b) (keptF (now+k) sl++[⟨bANN,now+k,(i:Int)⟩]) o' till' (i+1) (now+k):=by
   intro ff ft b hp o' till' h7 h8
   refine h.next (s':=s2.seal (kl K1) 13 b) hi hk u1 (by rw [seal_len];omega) u3 (fun x hx=>?_) (fun hh=>bx_seal (u5 hh)) (.inr rfl) h7 h8
   have hx:x ∈ s2.boxes++[⟨kl K1,13,b⟩]:=hx
   simp only [List.mem_append,List.mem_singleton] at hx
   rcases hx with hx|rfl
   · exact u4 x hx
   exact pack_le hp
 cases m
 · -- asked
   by_cases hf:nm=bANN/\now+k<till
   · obtain ⟨b,hp⟩:=pack_fact (f:=true) (hE till tl.1 tl.2) (by omega)
     have ho:o=some (bANN,till):=by
       rcases h.bo with ⟨_,h2⟩|h1
       · omega
       exact h1
     refine .inr ⟨_,o,till,true,till,b,hu,.inr ⟨rfl,rfl,.inl ⟨hf.1,hf.2,rfl,rfl⟩⟩,hp,hok _ _ _ hp tl hsame,?_⟩
     intro F G B sv kb cb bk tb bb C D c d n1 n2 w hn1 hn2 h0
     subst hn1 hn2
     rw [← u2]
     exact dir_ask h0 hwho (fun mb w' hw=>bkFind_yes hw (by rw [ho];exact bmfEq hf.1) hf.2) hp hrm.ok (by omega)
   obtain ⟨b,hp⟩:=pack_fact (f:=false) (hE 0 (by decide) (by decide)) (by omega)
   have hf':nm≠bANN∨till<=now+k:=by
     by_cases e:nm=bANN
     · exact .inr (by have:¬ now+k<till:=fun hh=>hf ⟨e,hh⟩;omega)
     exact .inl e
   refine .inr ⟨_,o,till,false,0,b,hu,.inr ⟨rfl,rfl,.inr ⟨hf',rfl,rfl⟩⟩,hp,hok _ _ _ hp tl hsame,?_⟩
   intro F G B sv kb cb bk tb bb C D c d n1 n2 w hn1 hn2 h0
   subst hn1 hn2
   rw [← u2]
   refine dir_ask h0 hwho (fun mb w' hw=>?_) hp hrm.ok (by omega)
   rcases hsame with ⟨ho,_⟩|ho
   · exact bkFind_no hw (by rw [ho];rfl)
   by_cases e:nm=bANN
   · exact bkFind_late hw (by rw [ho];exact bmfEq e) (by rcases hf' with h1|h1;exact absurd e h1;exact h1)
   exact bkFind_no hw (by rw [ho];exact bmfNe e)
 -- told
 by_cases e:nm=bANN
 · have hs:∀ p,o=some p->p.1=nm:=by
     intro p hp
     rcases hsame with ⟨ho,_⟩|ho
     · rw [ho] at hp;cases hp
     rw [ho] at hp;injection hp with hp;rw [← hp];exact e.symm
   rcases (by omega:min tv e1<=now+k∨now+k<min tv e1) with hq|hq
   · refine .inl ⟨12,_,none,min tv e1,by decide,.inr (.inr ⟨hu,rfl,e,hq,rfl,rfl⟩),hnext (.inr rfl) ⟨by omega,by omega⟩ (.inl ⟨rfl,hq⟩),?_⟩
     intro F G B sv kb cb bk tb bb C D c d n1 n2 w hn1 hn2 h0
     subst hn1 hn2
     exact dir_over h0 hwho (congrArg ByteArray.toList e) (fun w' hB=>bkSet_late hB hr (by omega) hs hq)
   obtain ⟨b,hp⟩:=pack_fact (f:=true) (hE (min tv e1) (by omega) (by omega)) (by omega)
   refine .inr ⟨_,some (bANN,min tv e1),min tv e1,true,min tv e1,b,hu,.inl ⟨rfl,e,hq,rfl,rfl,rfl⟩,hp,hok _ _ _ hp ⟨by omega,by omega⟩ (.inr rfl),?_⟩
   intro F G B sv kb cb bk tb bb C D c d n1 n2 w hn1 hn2 h0
   subst hn1 hn2
   rw [← u2]
   have:=dir_set (ff:=true) (ft:=min tv e1) (b:=b) h0 hwho (congrArg ByteArray.toList e) (fun w' hB=>?_) (fun mb w' hw=>bkFind_yes hw (bmfEq rfl) hq) hp hrm.ok (by omega)
   · rw [show some (nm,min tv e1)=some (bANN,min tv e1) from by rw [e]] at this
     exact this
   rcases hsame with ⟨ho,_⟩|ho
   · subst ho;exact bkSet_0 hB hr (by omega) hq
   rw [ho,← e] at hB
   rcases (by omega:till<=now+k∨now+k<till) with h9|h9
   · exact bkSet_1 hB hr (by omega) hq h9
   exact bkSet_2 hB hr (by omega) hq h9
 refine .inl ⟨17,_,o,till,by decide,.inr (.inl ⟨hu,rfl,e,rfl,rfl⟩),hnext (.inr rfl) tl hsame,?_⟩
 intro F G B sv kb cb bk tb bb C D c d n1 n2 w hn1 hn2 h0
 subst hn1 hn2
 exact dir_wrong h0 hwho (fun hh=>e (toList_inj'' hh))
end
end
section
open Go.RowKit Go.QT
theorem self_fact(n:Int)(s:ByteArray)(f:Bool)(t:Int)(W:World):(Op.equalIn 10000 88 (.agg ([Value.int .i64 n,.string s,.bool f,.int .i64 t]).toArray) (.agg ([Value.int .i64 n,.string s,.bool f,.int .i64 t]).toArray)).run Tryz.prog W=.ok true W:=by
 refine self_struct 9999 88 _ [(2,0),(9,1),(4,2),(2,3)] (by kernel_rfl) (by kernel_rfl) (by kernel_rfl) ?_ W
 intro p hp
 simp only [List.mem_cons,List.not_mem_nil,or_false] at hp
 rcases hp with rfl|rfl|rfl|rfl
 · exact ⟨_,part_at _ _ _ (.int .i64 n) (by intro W;kernel_rfl) (by kernel_rfl),seq_int _ (by kernel_rfl) _⟩
 · exact ⟨_,part_at _ _ _ (.string s) (by intro W;kernel_rfl) (by kernel_rfl),seq_str _⟩
 · refine ⟨_,part_at _ _ _ (.bool f) (by intro W;kernel_rfl) (by kernel_rfl),fun W=>?_⟩
   cases f <;> kernel_rfl
 exact ⟨_,part_at _ _ _ (.int .i64 t) (by intro W;kernel_rfl) (by kernel_rfl),seq_int _ (by kernel_rfl) _⟩
theorem e_selfN{P:Program}{o:Oper}{a:Act}(t:TypeId)(cs:List Value)(x y:Operand)(t':TypeId)(ho:o.op=.binOp .neq t x y t')(hx:a.eval x=.agg cs.toArray)(hy:a.eval y=.agg cs.toArray)(hg:P.eqGuardType P.depth t=false)(hs:∀ W,(Op.equalIn 10000 t (.agg cs.toArray) (.agg cs.toArray)).run P W=.ok true W)(W:World) :
   (execOp a.eval o).run P W=.ok (.value (.bool false)) W:=by
 unfold execOp
 simp only [ho,hx,hy,Sem.run_bind,run_eqGuard_agg W _ t _ _ _ _ hg,Result.andThen_ok,run_neq_struct,hs,Sem.run_pure]
 rfl
theorem oFact_ok{F:Nat->Prop}{tb:Nat}{s:STab}{K:Fin 16->UInt8}{us:Int}{bv:Value}{l:Bytes}{w:World}(hT:(rTab F tb s).Φ w)(hs:TabOk s)(hv:SB w bv l)(fn:Int)(s1:ByteArray)(ff:Bool)(ft:Int){body:Bytes}(ho:s.open_ (kl K) us l=some body)(hu:unpB body=.inr (.fact fn s1 ff ft)):Calls Tryz.prog 22 #[.iface 28 (pt tb 0),.agg (vb (kl K)).toArray,.int .i64 us,bv] w (DPost w (.tuple #[.agg #[.int .i64 fn,.string s1,.bool ff,.int .i64 ft],.int .i64 0])):=by
 obtain ⟨A,c,rfl,_⟩:=id hv
 exact oFact_yes hT hs hv fn s1 ff ft ho hu
theorem open_bx{s:STab}{l k b:Bytes}{u:Int}(h:s.box l=some ⟨k,u,b⟩):s.open_ k u l=some b:=by
 unfold STab.open_;rw [h];simp
theorem dr_way0(s:ByteArray):60<s.size∨(s.size<=60/\rightN s=false)∨(s.size<=60/\rightN s=true):=by
 rcases (by omega:60<s.size∨s.size<=60) with h|h
 · exact .inl h
 cases hb:rightN s
 · exact .inr (.inl ⟨h,rfl⟩)
 exact .inr (.inr ⟨h,rfl⟩)
theorem dr_ne{s t:ByteArray}(h:s≠t):Value.bool (!(s.toList == t.toList))=.bool true:=by
 have:(s.toList == t.toList)=false:=by simpa using fun e=>h (toList_inj'' e)
 rw [this];rfl
theorem dr_neq{s t:ByteArray}(h:s≠t):Value.bool (s.toList == t.toList)=.bool false:=by
 have:(s.toList == t.toList)=false:=by simpa using fun e=>h (toList_inj'' e)
 rw [this]
theorem getA'{L:List Ask}{i:Nat}{x:Ask}(h:L[i]?=some x):(L.map askC)[i]?=some [.string x.srv,.int .i64 x.nn,.int .i64 x.till,.bool x.r,.bool x.m,.int .i64 x.ex,.int .i64 x.la,.int .i64 x.tm,.int .i64 x.sq,.int .i64 x.tn]:=by rw [List.getElem?_map,h];rfl
theorem DrS.init{kk ka kb_ K1:Fin 16->UInt8}{at_ fl R L Rn Ot:Int}{b0 b1 b2 b3 b4 b5:Bytes}{t0 t2 t3 t4 t5:Thing}(hT:Tim at_ L Rn Ot fl R)(h0:packB t0=.inr b0)(h1:packB (.inside fl K1 bANN at_ (min (at_+600) (at_+L)) R)=.inr b1)(h2:packB t2=.inr b2)(h3:packB t3=.inr b3)(h4:packB t4=.inr b4)(h5:packB t5=.inr b5) :
   DrS kk K1 at_ fl (min (at_+600) (at_+L)) R (sO kk ka kb_ b0 b1 b2 b3 b4 b5) [] none 0 0 at_:=by
 have z1:=hT.at0
 have z2:=hT.l
 refine ⟨by show 5<=5;decide,by show 6<=6;decide,Nat.le_refl _,fun b hb=>?_,⟨b1,bxOx,h1⟩,fun y hy=>absurd hy List.not_mem_nil,Nat.le_refl _,z1,⟨by omega,by omega⟩,⟨Int.le_refl _,by omega⟩,⟨by decide,by decide⟩,.inl ⟨rfl,by omega⟩⟩
 simp only [sO,List.mem_cons,List.not_mem_nil,or_false] at hb
 rcases hb with rfl|rfl|rfl|rfl|rfl|rfl
 · exact pack_le h0
 · exact pack_le h1
 · exact pack_le h2
 · exact pack_le h3
 · exact pack_le h4
 exact pack_le h5
end
section
open Go.Value renaming int->iV,slice->lV,string->sV,bool->bV,agg->aV
open Go.RowKit Go.QT
theorem dr_way2{s:ByteArray}{t n:Int}(h:s≠bANN∨t<=n):s≠bANN∨(s=bANN/\t<=n):=by
 by_cases e:s=bANN
 · exact .inr ⟨e,h.resolve_left fun hh=>hh e⟩
 exact .inl e
theorem ktgsDirs_any{w:World}{P:Option Addr}{pc:Nat}{L:List Ask}(hv:RV w 10 P pc (L.map askC))(La Rn_ Ot_ At_ Lt:Int)(mesh:Bool):Calls Tryz.prog 8 #[.agg #[.int .i64 La,.int .i64 Rn_,.int .i64 Ot_,.bool mesh,.int .i64 At_,.int .i64 Lt],.slice P L.length pc] w (DPost w (.bool true)):=by
 obtain ⟨at_,hat⟩:∃ x,x=bits .and .i64 At_ 1023:=⟨_,rfl⟩
 obtain ⟨Li,hLi⟩:∃ x,x=1+bits .and .i64 La 511:=⟨_,rfl⟩
 obtain ⟨Ri,hRi⟩:∃ x,x=bits .and .i64 Rn_ 4095:=⟨_,rfl⟩
 obtain ⟨Oi,hOi⟩:∃ x,x=1+bits .and .i64 Ot_ 511:=⟨_,rfl⟩
 have hopn:∀ w,Calls Tryz.prog 10 #[.agg #[.int .i64 La,.int .i64 Rn_,.int .i64 Ot_,.bool mesh,.int .i64 At_,.int .i64 Lt]] w (OpnPost at_ Li Ri Oi mesh w):=by
   intro w
   have h:=open15_any La Rn_ Ot_ At_ Lt mesh w
   rwa [← hat,← hLi,← hRi,← hOi] at h
 have h0:=Hp.ro1 (rRV 10 P pc (L.map askC)) hv
 refine mE 176 ?_
 refine mN h0 23 ([(zD La),(zD Rn_),(zD Ot_),(bV mesh),(zD At_),(zD Lt)]) fun g2 w2 h2=>?_
 refine mD h2 [] (alive15_any _) (fun w5 h5=>?_)
 rcases (by omega:20<L.length∨L.length<=20) with hq|hq
 ·
  refine mX 22 (.bool true) (bV (decide ((L.length:Int)>20))) (by simp;omega) ?_
  exact mQ h5
 refine mX 22 (.bool false) (bV (decide ((L.length:Int)>20))) (by simp;omega) ?_
 refine ma h5 0 ?_
 refine mT (x_open15 (at_:=at_) (L:=Li) (Rn:=Ri) (Ot:=Oi) (mesh:=mesh) h5 [(aV ([(zD La),(zD Rn_),(zD Ot_),(bV mesh),(zD At_),(zD Lt)]).toArray)] (by kernel_rfl) (hopn _)) ?_
 rintro _ w11 ⟨d,sv,kb,cb,bk,tb,bb,G,Gc,F,kk,ka,kb_,K1,K2,b0,b1,b2,b3,b4,b5,fl,R,A,B,c,c',mv,rfl,hT,⟨hkk,hka,hkb,hK1,hK2⟩,⟨hp0,hp1,hp2,hp3,hp4,hp5⟩,h11⟩
 have h12:=h11.share 7 rfl
 have h13:=h12.share 7 rfl
 have z1:=hT.at0
 have z2:=hT.l
 refine ma h13 7 ?_
 refine mX 29 (zD at_) (zD (bits .and .i64 At_ 1023)) (congrArg (iV .i64) hat.symm) ?_
 refine mL (fun mM xX aA wL=>∃ (i:Nat) (now:Int) (till:Int) (F:Nat->Prop) (Gl:Nat->Prop) (Bl:Nat->Prop) (s:STab) (sl_:List Sh) (ob:Option (ByteArray × Int)),(i<=L.length)/\(DrS kk K1 at_ fl (min (at_+600) (at_+Li)) R s sl_ ob till i now)/\mM=L.length-i/\aA=patch xX 176 [(5,(pt d 0)),(7,(zD now)),(8,(zD till)),(31,(lV P L.length pc)),(32,(zD ((L.length:Int)))),(33,(zD ((i:Int))))]/\Hp (fun _=>False) w wL [rSB ((lV A 16 c)) (mkB 98 2),rRV 10 P pc ((L.map askC))] [rTab F tb s,rCa Gl cb 64 sl_,rBk Bl bk ob,rBlk d 37 (dkC tb sv (rpC fl K1 1 bKDC at_ (min (at_+600) (at_+Li)) R) (rpC 4 K2 1 bKDC at_ (min (at_+600) (at_+Oi)) 0) (lV A 16 c) (lV B 16 c')),rBlk sv 73 ([(pt kb 0),(pt cb 0),(pt bk 0)]),rBlk kb 78 ([(Value.iface 28 (pt tb 0)),(pt bb 0)]++vb (kl kk))]) ⟨_,_,0,at_,0,F,Gc,mv,((sO kk ka kb_ b0 b1 b2 b3 b4 b5)),([]),none,(Nat.zero_le _),(DrS.init hT hp0 hp1 hp2 hp3 hp4 hp5),rfl,pM,h13.sel [6,4,5,0,1,2] [1,2] (by kernel_rfl) rfl rfl⟩ ?_
 rintro _ x20 _ w20 ⟨i,now,till,F,Gl,Bl,s,sl_,ob,hi,hS,rfl,rfl,h20⟩ KL20 hKL20
 refine mAt ?_
 have htm:=hS.tm
 have hat0:=hS.at0
 have hns:=hS.ns
 have hnb:=hS.nb
 have htl:=hS.tl
 by_cases b22:i<L.length
 ·
  refine mX 34 (.bool true) (bV (decide ((i:Int)<(L.length:Int)))) (by simp;omega) ?_
  obtain ⟨x,hx⟩:∃ x,L[i]?=some x:=⟨_,List.getElem?_eq_getElem (by omega)⟩
  refine mW 36 (eIx (RV.lenIs (n:=L.length) (h20.rd 1 rfl) (List.length_map _)).2 i L.length (RV.lenIs (n:=L.length) (h20.rd 1 rfl) (List.length_map _)).1 (by omega) 60 (.tmp 31) (.tmp 33) .i64 63) ?_
  refine mW 37 (e_elemsN (RV.lenIs (n:=L.length) (h20.rd 1 rfl) (List.length_map _)).2 i 0 ([(sV x.srv),(zD x.nn),(zD x.till),(bV x.r),(bV x.m),(zD x.ex),(zD x.la),(zD x.tm),(zD x.sq),(zD x.tn)]) (getA' hx) 63 (.tmp 36) (by kernel_rfl) ([(sV x.srv),(zD x.nn),(zD x.till),(bV x.r),(bV x.m),(zD x.ex),(zD x.la),(zD x.tm),(zD x.sq),(zD x.tn)]) (by kernel_rfl) (by kernel_rfl) (by kernel_rfl)) ?_
  refine mN h20 63 ([zE,zO,zO,zV,zV,zO,zO,zO,zO,zO]) fun g26 w26 h26=>?_
  refine mT (xR h26 0 ([(sV x.srv),(zD x.nn),(zD x.till),(bV x.r),(bV x.m),(zD x.ex),(zD x.la),(zD x.tm),(zD x.sq),(zD x.tn)])) fun _ w27 h27=>?_
  rcases dr_way0 x.srv with hz|⟨hz,hr⟩|⟨hz,hr⟩
  ·
   refine ma h27 0 ?_
   refine mX 41 (.bool true) (bV (decide (((x.srv).size:Int)>60))) (by simp;omega) ?_
   refine mW 175 (exec_add _ _ _ _ bO ((i:Int)) 1 (by kernel_rfl) (by kernel_rfl) ((i:Int)+1) rfl (by omega) (by omega) _) ?_
   exact mK KL20 (hKL20 _ _ ⟨L.length-(i+1),_,(by omega),(i+1),now,till,F,Gl,Bl,s,sl_,ob,(by omega),hS.skip,rfl,pM,h27.sel [1,2,3,4,5,6] [0,1] (by kernel_rfl) rfl rfl⟩)
  ·
   refine ma h27 0 ?_
   refine mX 41 (.bool false) (bV (decide (((x.srv).size:Int)>60))) (by simp;omega) ?_
   refine ma h27 0 ?_
   refine mT (x_dp (v:=.bool false) h27 19 [(sV x.srv)] (by kernel_rfl) (hr ▸ rright_any x.srv (by omega) _)) ?_
   rintro _ w31 ⟨rfl,h31⟩
   refine mW 175 (exec_add _ _ _ _ bO ((i:Int)) 1 (by kernel_rfl) (by kernel_rfl) ((i:Int)+1) rfl (by omega) (by omega) _) ?_
   exact mK KL20 (hKL20 _ _ ⟨L.length-(i+1),_,(by omega),(i+1),now,till,F,Gl,Bl,s,sl_,ob,(by omega),hS.skip,rfl,pM,h31.sel [1,2,3,4,5,6] [0,1] (by kernel_rfl) rfl rfl⟩)
  refine ma h27 0 ?_
  refine mX 41 (.bool false) (bV (decide (((x.srv).size:Int)>60))) (by simp;omega) ?_
  refine ma h27 0 ?_
  refine mT (x_dp (v:=.bool true) h27 19 [(sV x.srv)] (by kernel_rfl) (hr ▸ rright_any x.srv (by omega) _)) ?_
  rintro _ w32 ⟨rfl,h32⟩
  refine ma h32 0 ?_
  obtain ⟨M34,hM34,hb34⟩:=and_mask x.la 31 (by decide)
  refine mX 51 (zD ((M34:Int))) (zD (bits .and .i64 x.la 31)) (congrArg (iV .i64) hM34) ?_
  refine mW 52 (exec_add _ _ _ _ bO now ((M34:Int)) (by kernel_rfl) (by kernel_rfl) (now+(M34:Int)) rfl (by omega) (by omega) _) ?_
  obtain ⟨M36,hM36,hb36⟩:=and_mask x.nn 1023 (by decide)
  obtain ⟨M37,hM37,hb37⟩:=and_mask x.till 255 (by decide)
  refine mJ 2000015 (fun aJ wJ39=>∃ (gJ38_0:Nat) (xJ39:Nat->Value),aJ=patch xJ39 176 [(5,(pt d 0)),(7,(zD (now+(M34:Int)))),(8,(zD till)),(9,(zD ((i:Int)))),(10,(pt g26 0)),(11,(pt gJ38_0 0)),(31,(lV P L.length pc)),(32,(zD ((L.length:Int)))),(33,(zD ((i:Int)))),(34,zI),(47,zV)]/\Hp (fun _=>False) w wJ39 [rSB ((lV A 16 c)) (mkB 98 2),rRV 10 P pc ((L.map askC))] [rBlk gJ38_0 82 ([(sV x.srv),(zD ((M36:Int))),(zD (now+(M34:Int)+(M37:Int))),(bV x.m),(sV (⟨#[107,100,99]⟩)),(lV A 16 c),zN]),rBlk g26 63 ([(sV x.srv),(zD x.nn),(zD x.till),(bV x.r),(bV x.m),(zD x.ex),(zD x.la),(zD x.tm),(zD x.sq),(zD x.tn)]),rTab F tb s,rCa Gl cb 64 sl_,rBk Bl bk ob,rBlk d 37 (dkC tb sv (rpC fl K1 1 bKDC at_ (min (at_+600) (at_+Li)) R) (rpC 4 K2 1 bKDC at_ (min (at_+600) (at_+Oi)) 0) (lV A 16 c) (lV B 16 c')),rBlk sv 73 ([(pt kb 0),(pt cb 0),(pt bk 0)]),rBlk kb 78 ([(Value.iface 28 (pt tb 0)),(pt bb 0)]++vb (kl kk))]) ?_ (fun hJ39 hhJ39=>?_)
  ·
   rintro _ wJ39 ⟨gJ38_0,xJ39,rfl,hJh39⟩
   refine mAt ?_
   obtain ⟨ba,hpa⟩:=pack_authent' (t:=now+(M34:Int)) (q:=(i:Int)) (n:=s.sumAt (qD x.srv (M36:Int) (now+(M34:Int)+(M37:Int)) x.m (mkB 98 2))+1) (by omega) (by omega)
   refine ma hJh39 0 ?_
   refine mT (x_auth (nb:=s.boxes.length) (s2:=((s.digest (qD x.srv (M36:Int) (now+(M34:Int)+(M37:Int)) x.m (mkB 98 2))).seal (kl K1) 7 ba)) hJh39 2 rfl [(pt d 0),(Value.iface 82 (aV ([(sV x.srv),(zD ((M36:Int))),(zD (now+(M34:Int)+(M37:Int))),(bV x.m),(sV (⟨#[107,100,99]⟩)),(lV A 16 c),zN]).toArray)),(zD (now+(M34:Int))),(zD ((i:Int)))] (by kernel_rfl) (auth15_any (s:=s) (hJh39.carve1 2 rfl [(true,5),(false,0)] rfl rfl) (hS.room (by omega) 2 (by omega)) (sumD (D:=none) (an:=0) (ca:=0) (mkB_len _ _).symm (by omega) hr (by omega) (inN_is (by omega) (by omega)) (inN_is (by omega) (by omega)) (by rw [mkB_len];decide) (qD_len (by omega))) hpa)) ?_
   rintro _ w41 ⟨A41,c41,F41,rfl,h41⟩
   refine mT (xS h41 2 ([(sV x.srv),(zD ((M36:Int))),(zD (now+(M34:Int)+(M37:Int))),(bV x.m),(sV (⟨#[107,100,99]⟩)),(lV A 16 c),(lV A41 16 c41)])) fun _ w42 h42=>?_
   obtain ⟨ec,sl3,o3,till3,hec,hwhy,hS3,hcl⟩|⟨sl3,o3,till3,ff,ft,fb,hu,hwhy,hpf,hS3,hcl⟩:=hS.ask (nn:=(M36:Int)) (k:=(M34:Int)) (tv:=now+(M34:Int)+(M37:Int)) (by omega) (by omega) (by omega) (by omega) hr hz hpa
   ·
    have h45:=(show Hp _ _ _ _ ([rCa Gl cb 64 sl_,rBk Bl bk ob]++[_,_,_,_,_,_,_]) from h42.sel [4,5,0,1,2,3,6,7,8] [0,1] rfl rfl rfl).closeStar
    refine mJ 2000017 (fun aJ wJ47=>∃ (gJ46_0:Nat) (GJ46_1:Nat->Prop) (BJ46_2:Nat->Prop) (FJ46_3:Nat->Prop) (xJ47:Nat->Value),aJ=patch xJ47 176 [(5,(pt d 0)),(7,(zD (now+(M34:Int)))),(8,(zD till)),(9,(zD ((i:Int)))),(10,(pt g26 0)),(11,(pt gJ38_0 0)),(12,(pt gJ46_0 0)),(13,(zD ((ec:Int)))),(31,(lV P L.length pc)),(32,(zD ((L.length:Int)))),(33,(zD ((i:Int)))),(34,zI),(47,zV)]/\Hp (fun _=>False) w wJ47 [rSB ((lV A 16 c)) (mkB 98 2),rRV 10 P pc ((L.map askC))] [rBlk gJ46_0 84 ([zE,zN]),rCB GJ46_1 cb 64 sl3 BJ46_2 bk o3,rTab FJ46_3 tb (((s.digest (qD x.srv (M36:Int) (now+(M34:Int)+(M37:Int)) x.m (mkB 98 2))).seal (kl K1) 7 ba)),rSB ((lV A41 16 c41)) (mkB 98 (s.boxes.length+1)),rBlk gJ38_0 82 ([(sV x.srv),(zD ((M36:Int))),(zD (now+(M34:Int)+(M37:Int))),(bV x.m),(sV (⟨#[107,100,99]⟩)),(lV A 16 c),(lV A41 16 c41)]),rBlk g26 63 ([(sV x.srv),(zD x.nn),(zD x.till),(bV x.r),(bV x.m),(zD x.ex),(zD x.la),(zD x.tm),(zD x.sq),(zD x.tn)]),rBlk d 37 (dkC tb sv (rpC fl K1 1 bKDC at_ (min (at_+600) (at_+Li)) R) (rpC 4 K2 1 bKDC at_ (min (at_+600) (at_+Oi)) 0) (lV A 16 c) (lV B 16 c')),rBlk sv 73 ([(pt kb 0),(pt cb 0),(pt bk 0)]),rBlk kb 78 ([(Value.iface 28 (pt tb 0)),(pt bb 0)]++vb (kl kk))]) ?_ (fun hJ47 hhJ47=>?_)
    ·
     rintro _ wJ47 ⟨gJ46_0,GJ46_1,BJ46_2,FJ46_3,xJ47,rfl,hJh47⟩
     refine mAt ?_
     have h49:=hJh47.openStar 1 rfl
     obtain ⟨s3,hs3⟩:∃ t,t=((s.digest (qD x.srv (M36:Int) (now+(M34:Int)+(M37:Int)) x.m (mkB 98 2))).seal (kl K1) 7 ba):=⟨_,rfl⟩
     rw [← hs3] at hS3
     have h50:=h49
     rw [← hs3] at h50
     rcases hwhy with ⟨hu,he,hti⟩|⟨hu,hm,hne,he,hti⟩|⟨hu,hm,hnm,hq2,he,hti⟩
     ·
      refine ma h50 7 ?_
      refine mX 94 (.bool true) (bV (decide ((min (at_+600) (at_+Li))<=now+(M34:Int)))) (by simp;omega) ?_
      refine mX 119 (.bool false) (bV (((ec:Int)) != 12)) (by simp;omega) ?_
      refine mX 121 (.bool true) (bV (((ec:Int)) != 0)) (by simp;omega) ?_
      refine ma h50 2 ?_
      refine mX 124 (.bool false) (bV (!((ByteArray.empty).toList == (⟨#[]⟩:ByteArray).toList))) (by kernel_rfl) ?_
      refine ma h50 2 ?_
      refine mW 175 (exec_add _ _ _ _ bO ((i:Int)) 1 (by kernel_rfl) (by kernel_rfl) ((i:Int)+1) rfl (by omega) (by omega) _) ?_
      exact mK KL20 (hKL20 _ _ ⟨L.length-(i+1),_,(by omega),(i+1),(now+(M34:Int)),till,FJ46_3,GJ46_1,BJ46_2,s3,sl3,o3,(by omega),(by rw [← hti];exact hS3),rfl,pM,h50.sel [3,0,1,7,8,9] [0,1] (by kernel_rfl) rfl rfl⟩)
     ·
      refine ma h50 7 ?_
      refine mX 94 (.bool false) (bV (decide ((min (at_+600) (at_+Li))<=now+(M34:Int)))) (by simp;omega) ?_
      refine ma h50 5 ?_
      refine mX 98 (.bool true) (bV x.m) (by rw [hm]) ?_
      refine ma h50 6 ?_
      refine mX 101 (.bool true) (bV (!((x.srv).toList == (⟨#[97,110,110]⟩:ByteArray).toList))) (dr_ne hne) ?_
      refine mX 119 (.bool false) (bV (((ec:Int)) != 17)) (by simp;omega) ?_
      refine mX 121 (.bool true) (bV (((ec:Int)) != 0)) (by simp;omega) ?_
      refine ma h50 2 ?_
      refine mX 124 (.bool false) (bV (!((ByteArray.empty).toList == (⟨#[]⟩:ByteArray).toList))) (by kernel_rfl) ?_
      refine ma h50 2 ?_
      refine mW 175 (exec_add _ _ _ _ bO ((i:Int)) 1 (by kernel_rfl) (by kernel_rfl) ((i:Int)+1) rfl (by omega) (by omega) _) ?_
      exact mK KL20 (hKL20 _ _ ⟨L.length-(i+1),_,(by omega),(i+1),(now+(M34:Int)),till,FJ46_3,GJ46_1,BJ46_2,s3,sl3,o3,(by omega),(by rw [← hti];exact hS3),rfl,pM,h50.sel [3,0,1,7,8,9] [0,1] (by kernel_rfl) rfl rfl⟩)
     refine ma h50 7 ?_
     refine mX 94 (.bool false) (bV (decide ((min (at_+600) (at_+Li))<=now+(M34:Int)))) (by simp;omega) ?_
     refine ma h50 5 ?_
     refine mX 98 (.bool true) (bV x.m) (by rw [hm]) ?_
     refine ma h50 6 ?_
     refine mX 101 (.bool false) (bV (!((x.srv).toList == (⟨#[97,110,110]⟩:ByteArray).toList))) (by rw [hnm];kernel_rfl) ?_
     refine ma h50 5 ?_
     refine mX 103 (.bool true) (bV x.m) (by rw [hm]) ?_
     refine dG h50 9 8 (fun W=>(rBlk gJ38_0 82 ([(sV x.srv),(zD ((M36:Int))),(zD (now+(M34:Int)+(M37:Int))),(bV x.m),(sV (⟨#[107,100,99]⟩)),(lV A 16 c),(lV A41 16 c41)])).Φ W/\(rBlk d 37 (dkC tb sv (rpC fl K1 1 bKDC at_ (min (at_+600) (at_+Li)) R) (rpC 4 K2 1 bKDC at_ (min (at_+600) (at_+Oi)) 0) (lV A 16 c) (lV B 16 c'))).Φ W/\True) (fun w70 h70=>⟨h70.at_ 5 rfl,h70.at_ 7 rfl,trivial⟩) ?_
     intro w70 h70
     refine dP 4 [0,2,3,4,5] ?_
     refine dL 1 (fun W hW=>hW.1) ?_
     refine dL 6 (fun W hW=>hW.2.1) ?_
     refine dV 7 (v:=(zD (min (now+(M34:Int)+(M37:Int)) ((min (at_+600) (at_+Li)))))) (fun W hW=>e_min (.tmp 107) (.tmp 112) #[2,2] (by kernel_rfl) .i64 .i64 (now+(M34:Int)+(M37:Int)) ((min (at_+600) (at_+Li))) (by kernel_rfl) (by kernel_rfl) (min (now+(M34:Int)+(M37:Int)) ((min (at_+600) (at_+Li)))) (by split <;> omega) _) ?_
     refine dN 8 ?_
     refine dX ?_
     refine mX 116 (.bool true) (bV (decide (min (now+(M34:Int)+(M37:Int)) ((min (at_+600) (at_+Li)))<=now+(M34:Int)))) (by simp;omega) ?_
     refine mX 119 (.bool false) (bV (((ec:Int)) != 12)) (by simp;omega) ?_
     refine mX 121 (.bool true) (bV (((ec:Int)) != 0)) (by simp;omega) ?_
     refine ma h70 2 ?_
     refine mX 124 (.bool false) (bV (!((ByteArray.empty).toList == (⟨#[]⟩:ByteArray).toList))) (by kernel_rfl) ?_
     refine ma h70 2 ?_
     refine mW 175 (exec_add _ _ _ _ bO ((i:Int)) 1 (by kernel_rfl) (by kernel_rfl) ((i:Int)+1) rfl (by omega) (by omega) _) ?_
     exact mK KL20 (hKL20 _ _ ⟨L.length-(i+1),_,(by omega),(i+1),(now+(M34:Int)),(min (now+(M34:Int)+(M37:Int)) ((min (at_+600) (at_+Li)))),FJ46_3,GJ46_1,BJ46_2,s3,sl3,o3,(by omega),(by rw [← hti];exact hS3),rfl,pM,h70.sel [3,0,1,7,8,9] [0,1] (by kernel_rfl) rfl rfl⟩)
    refine dG h45 13 12 (fun W=>(rBlk d 37 (dkC tb sv (rpC fl K1 1 bKDC at_ (min (at_+600) (at_+Li)) R) (rpC 4 K2 1 bKDC at_ (min (at_+600) (at_+Oi)) 0) (lV A 16 c) (lV B 16 c'))).Φ W/\(rBlk gJ38_0 82 ([(sV x.srv),(zD ((M36:Int))),(zD (now+(M34:Int)+(M37:Int))),(bV x.m),(sV (⟨#[107,100,99]⟩)),(lV A 16 c),(lV A41 16 c41)])).Φ W/\True) (fun w78 h78=>⟨h78.at_ 5 rfl,h78.at_ 3 rfl,trivial⟩) ?_
    intro w78 h78
    refine dP 9 [0,1,2,4] ?_
    refine dL 3 (fun W hW=>hW.1) ?_
    refine dL 5 (fun W hW=>hW.2.1) ?_
    refine dO 6 10 ?_ ?_
    ·
     refine oT (x_drN (ec:=ec) h78 1 0 rfl rfl [(pt sv 0),(zD (now+(M34:Int))),(aV ([(sV x.srv),(zD ((M36:Int))),(zD (now+(M34:Int)+(M37:Int))),(bV x.m),(sV (⟨#[107,100,99]⟩)),(lV A 16 c),(lV A41 16 c41)]).toArray)] rfl (by kernel_rfl) (hcl (mkB_len _ _).symm (mkB_len _ _).symm (h78.carve2 1 0 rfl rfl [(true,6),(true,7),(false,0),(true,2),(false,0)] rfl rfl))) ?_
     rintro _ w79 ⟨F79,G79,B79,rfl,h79⟩
     refine ⟨⟨h79.at_ 5 rfl,h79.at_ 3 rfl,trivial⟩,?_⟩
     refine dP 3 [7,8,9] ?_
     refine dT 10 (xN h79 84 ([zE,zN])) ?_
     rintro _ w80 ⟨g80,rfl,h80⟩
     refine ⟨⟨h80.at_ 6 rfl,h80.at_ 4 rfl,trivial⟩,?_⟩
     refine dT 11 (xR h80 0 ([zE,zN])) ?_
     rintro _ w81 h81
     refine ⟨⟨h81.at_ 6 rfl,h81.at_ 4 rfl,trivial⟩,?_⟩
     refine dN 12 ?_
     refine dX ?_
     exact mK hJ47 (hhJ47 _ _ ⟨g80,G79,B79,F79,_,pM,h81.sel [0,1,2,3,4,5,6,7,8] [0,1] (by kernel_rfl) rfl rfl⟩)
    refine oT (xN h78 84 ([zE,zN])) ?_
    rintro _ w82 ⟨g82,rfl,h82⟩
    refine ⟨⟨h82.at_ 6 rfl,h82.at_ 4 rfl,trivial⟩,?_⟩
    refine dT 6 (x_drN (ec:=ec) h82 2 1 rfl rfl [(pt sv 0),(zD (now+(M34:Int))),(aV ([(sV x.srv),(zD ((M36:Int))),(zD (now+(M34:Int)+(M37:Int))),(bV x.m),(sV (⟨#[107,100,99]⟩)),(lV A 16 c),(lV A41 16 c41)]).toArray)] rfl (by kernel_rfl) (hcl (mkB_len _ _).symm (mkB_len _ _).symm (h82.carve2 2 1 rfl rfl [(true,7),(true,8),(false,0),(true,3),(false,0)] rfl rfl))) ?_
    rintro _ w83 ⟨F83,G83,B83,rfl,h83⟩
    refine ⟨⟨h83.at_ 6 rfl,h83.at_ 4 rfl,trivial⟩,?_⟩
    refine dP 2 [7,8,9] ?_
    refine dT 11 (xR h83 0 ([zE,zN])) ?_
    rintro _ w84 h84
    refine ⟨⟨h84.at_ 6 rfl,h84.at_ 4 rfl,trivial⟩,?_⟩
    refine dN 12 ?_
    refine dX ?_
    exact mK hJ47 (hhJ47 _ _ ⟨g82,G83,B83,F83,_,pM,h84.sel [0,1,2,3,4,5,6,7,8] [0,1] (by kernel_rfl) rfl rfl⟩)
   have h85:=(show Hp _ _ _ _ ([rCa Gl cb 64 sl_,rBk Bl bk ob]++[_,_,_,_,_,_,_]) from h42.sel [4,5,0,1,2,3,6,7,8] [0,1] rfl rfl rfl).closeStar
   refine mJ 2000017 (fun aJ wJ87=>∃ (gJ86_0:Nat) (AJ86_1:Option Addr) (cJ86_2:Nat) (FJ86_3:Nat->Prop) (GJ86_4:Nat->Prop) (BJ86_5:Nat->Prop) (xJ87:Nat->Value),aJ=patch xJ87 176 [(5,(pt d 0)),(7,(zD (now+(M34:Int)))),(8,(zD till)),(9,(zD ((i:Int)))),(10,(pt g26 0)),(11,(pt gJ38_0 0)),(12,(pt gJ86_0 0)),(13,zO),(31,(lV P L.length pc)),(32,(zD ((L.length:Int)))),(33,(zD ((i:Int)))),(34,zI),(47,zV)]/\Hp (fun _=>False) w wJ87 [rSB ((lV A 16 c)) (mkB 98 2),rRV 10 P pc ((L.map askC))] [rBlk gJ86_0 84 ([(sV (⟨#[97,110,110]⟩)),(lV AJ86_1 16 cJ86_2)]),rTab FJ86_3 tb ((((s.digest (qD x.srv (M36:Int) (now+(M34:Int)+(M37:Int)) x.m (mkB 98 2))).seal (kl K1) 7 ba).seal (kl K1) 13 fb)),rCB GJ86_4 cb 64 sl3 BJ86_5 bk o3,rSB ((lV AJ86_1 16 cJ86_2)) (mkB 98 (s.boxes.length+1+1)),rSB ((lV A41 16 c41)) (mkB 98 (s.boxes.length+1)),rBlk gJ38_0 82 ([(sV x.srv),(zD ((M36:Int))),(zD (now+(M34:Int)+(M37:Int))),(bV x.m),(sV (⟨#[107,100,99]⟩)),(lV A 16 c),(lV A41 16 c41)]),rBlk g26 63 ([(sV x.srv),(zD x.nn),(zD x.till),(bV x.r),(bV x.m),(zD x.ex),(zD x.la),(zD x.tm),(zD x.sq),(zD x.tn)]),rBlk d 37 (dkC tb sv (rpC fl K1 1 bKDC at_ (min (at_+600) (at_+Li)) R) (rpC 4 K2 1 bKDC at_ (min (at_+600) (at_+Oi)) 0) (lV A 16 c) (lV B 16 c')),rBlk sv 73 ([(pt kb 0),(pt cb 0),(pt bk 0)]),rBlk kb 78 ([(Value.iface 28 (pt tb 0)),(pt bb 0)]++vb (kl kk))]) ?_ (fun hJ87 hhJ87=>?_)
   ·
    rintro _ wJ87 ⟨gJ86_0,AJ86_1,cJ86_2,FJ86_3,GJ86_4,BJ86_5,xJ87,rfl,hJh87⟩
    refine mAt ?_
    have h89:=hJh87.openStar 2 rfl
    have hop:=open_bx (bx_newN (s:=((s.digest (qD x.srv (M36:Int) (now+(M34:Int)+(M37:Int)) x.m (mkB 98 2))).seal (kl K1) 7 ba)) (k:=kl K1) (u:=13) (b:=fb) (au_len rfl) (by omega))
    obtain ⟨s3,hs3⟩:∃ t,t=(((s.digest (qD x.srv (M36:Int) (now+(M34:Int)+(M37:Int)) x.m (mkB 98 2))).seal (kl K1) 7 ba).seal (kl K1) 13 fb):=⟨_,rfl⟩
    rw [← hs3] at hS3 hop
    have h90:=h89
    rw [← hs3] at h90
    rcases hwhy with ⟨hm,hnm,hq2,hti,hff,hft⟩|⟨hm,hti,⟨hnm,hq2,hff,hft⟩|⟨hno,hff,hft⟩⟩
    ·
     refine ma h90 8 ?_
     refine mX 94 (.bool false) (bV (decide ((min (at_+600) (at_+Li))<=now+(M34:Int)))) (by simp;omega) ?_
     refine ma h90 6 ?_
     refine mX 98 (.bool true) (bV x.m) (by rw [hm]) ?_
     refine ma h90 7 ?_
     refine mX 101 (.bool false) (bV (!((x.srv).toList == (⟨#[97,110,110]⟩:ByteArray).toList))) (by rw [hnm];kernel_rfl) ?_
     refine ma h90 6 ?_
     refine mX 103 (.bool true) (bV x.m) (by rw [hm]) ?_
     refine dG h90 9 8 (fun W=>(rBlk gJ38_0 82 ([(sV x.srv),(zD ((M36:Int))),(zD (now+(M34:Int)+(M37:Int))),(bV x.m),(sV (⟨#[107,100,99]⟩)),(lV A 16 c),(lV A41 16 c41)])).Φ W/\(rBlk d 37 (dkC tb sv (rpC fl K1 1 bKDC at_ (min (at_+600) (at_+Li)) R) (rpC 4 K2 1 bKDC at_ (min (at_+600) (at_+Oi)) 0) (lV A 16 c) (lV B 16 c'))).Φ W/\True) (fun w97 h97=>⟨h97.at_ 6 rfl,h97.at_ 8 rfl,trivial⟩) ?_
     intro w97 h97
     refine dP 4 [0,2,3,4,5] ?_
     refine dL 1 (fun W hW=>hW.1) ?_
     refine dL 6 (fun W hW=>hW.2.1) ?_
     refine dV 7 (v:=(zD (min (now+(M34:Int)+(M37:Int)) ((min (at_+600) (at_+Li)))))) (fun W hW=>e_min (.tmp 107) (.tmp 112) #[2,2] (by kernel_rfl) .i64 .i64 (now+(M34:Int)+(M37:Int)) ((min (at_+600) (at_+Li))) (by kernel_rfl) (by kernel_rfl) (min (now+(M34:Int)+(M37:Int)) ((min (at_+600) (at_+Li)))) (by split <;> omega) _) ?_
     refine dN 8 ?_
     refine dX ?_
     refine mX 116 (.bool false) (bV (decide (min (now+(M34:Int)+(M37:Int)) ((min (at_+600) (at_+Li)))<=now+(M34:Int)))) (by simp;omega) ?_
     refine mJ 2000032 (fun aJ wJ105=>∃ (gJ104_0:Nat) (xJ105:Nat->Value),aJ=patch xJ105 176 [(5,(pt d 0)),(7,(zD (now+(M34:Int)))),(8,(zD (min (now+(M34:Int)+(M37:Int)) ((min (at_+600) (at_+Li)))))),(9,(zD ((i:Int)))),(10,(pt g26 0)),(11,(pt gJ38_0 0)),(12,(pt gJ86_0 0)),(13,zO),(14,zO),(15,(pt gJ104_0 0)),(16,zO),(31,(lV P L.length pc)),(32,(zD ((L.length:Int)))),(33,(zD ((i:Int)))),(34,zI),(47,zV),(87,zV),(95,zV),(103,zI),(116,zV),(119,zV),(121,zV)]/\Hp (fun _=>False) w wJ105 [rSB ((lV A 16 c)) (mkB 98 2),rRV 10 P pc ((L.map askC))] [rBlk gJ104_0 88 ([(zD ((M36:Int))),(sV x.srv),(bV ff),(zD ft)]),rCa GJ86_4 cb 64 sl3,rBk BJ86_5 bk o3,rBlk gJ86_0 84 ([(sV (⟨#[97,110,110]⟩)),(lV AJ86_1 16 cJ86_2)]),rTab FJ86_3 tb s3,rSB ((lV AJ86_1 16 cJ86_2)) (mkB 98 (s.boxes.length+1+1)),rSB ((lV A41 16 c41)) (mkB 98 (s.boxes.length+1)),rBlk gJ38_0 82 ([(sV x.srv),(zD ((M36:Int))),(zD (now+(M34:Int)+(M37:Int))),(bV x.m),(sV (⟨#[107,100,99]⟩)),(lV A 16 c),(lV A41 16 c41)]),rBlk g26 63 ([(sV x.srv),(zD x.nn),(zD x.till),(bV x.r),(bV x.m),(zD x.ex),(zD x.la),(zD x.tm),(zD x.sq),(zD x.tn)]),rBlk d 37 (dkC tb sv (rpC fl K1 1 bKDC at_ (min (at_+600) (at_+Li)) R) (rpC 4 K2 1 bKDC at_ (min (at_+600) (at_+Oi)) 0) (lV A 16 c) (lV B 16 c')),rBlk sv 73 ([(pt kb 0),(pt cb 0),(pt bk 0)]),rBlk kb 78 ([(Value.iface 28 (pt tb 0)),(pt bb 0)]++vb (kl kk))]) ?_ (fun hJ105 hhJ105=>?_)
     ·
      rintro _ wJ105 ⟨gJ104_0,xJ105,rfl,hJh105⟩
      refine mAt ?_
      refine ma hJh105 7 ?_
      refine ma hJh105 8 ?_
      refine mN hJh105 88 ([zO,zE,zV,zO]) fun g107 w107 h107=>?_
      refine mT (xR h107 0 ([(zD ((M36:Int))),(sV x.srv),zV,zO])) fun _ w108 h108=>?_
      skip
      refine ma h108 9 ?_
      refine mX 154 (.bool true) (bV ((x.srv).toList == (⟨#[97,110,110]⟩:ByteArray).toList)) (by rw [hnm];kernel_rfl) ?_
      refine mX 158 (.bool true) (bV (decide (min (now+(M34:Int)+(M37:Int)) ((min (at_+600) (at_+Li)))>now+(M34:Int)))) (by simp;omega) ?_
      refine mT (xS h108 0 ([(zD ((M36:Int))),(sV x.srv),zI,zO])) fun _ w112 h112=>?_
      refine mT (xS h112 0 ([(zD ((M36:Int))),(sV x.srv),zI,(zD (min (now+(M34:Int)+(M37:Int)) ((min (at_+600) (at_+Li)))))])) fun _ w113 h113=>?_
      refine ma h113 1 ?_
      refine ma h113 0 ?_
      refine mW 168 (v:=zV) (e_selfN 88 [.int .i64 (M36:Int),.string x.srv,.bool ff,.int .i64 ft] (.tmp 166) (.tmp 167) 88 (by kernel_rfl) (by kernel_rfl) (by rw [hff,hft];kernel_rfl) (by kernel_rfl) (self_fact (M36:Int) x.srv ff ft) _) ?_
      refine ma h113 4 ?_
      refine mX 173 (.bool false) (bV (!((⟨#[97,110,110]⟩:ByteArray).toList == (⟨#[97,110,110]⟩:ByteArray).toList))) (by kernel_rfl) ?_
      refine mW 175 (exec_add _ _ _ _ bO ((i:Int)) 1 (by kernel_rfl) (by kernel_rfl) ((i:Int)+1) rfl (by omega) (by omega) _) ?_
      exact mK KL20 (hKL20 _ _ ⟨L.length-(i+1),_,(by omega),(i+1),(now+(M34:Int)),(min (now+(M34:Int)+(M37:Int)) ((min (at_+600) (at_+Li)))),FJ86_3,GJ86_4,BJ86_5,s3,sl3,o3,(by omega),(by rw [← hti];exact hS3),rfl,pM,h113.sel [5,2,3,10,11,12] [0,1] (by kernel_rfl) rfl rfl⟩)
     refine dG h97 19 18 (fun W=>(rBlk d 37 (dkC tb sv (rpC fl K1 1 bKDC at_ (min (at_+600) (at_+Li)) R) (rpC 4 K2 1 bKDC at_ (min (at_+600) (at_+Oi)) 0) (lV A 16 c) (lV B 16 c'))).Φ W/\(rBlk gJ86_0 84 ([(sV (⟨#[97,110,110]⟩)),(lV AJ86_1 16 cJ86_2)])).Φ W/\True) (fun w115 h115=>⟨h115.at_ 8 rfl,h115.at_ 2 rfl,trivial⟩) ?_
     intro w115 h115
     refine dP 11 [0,1,2,5,6,7,8,10] ?_
     refine dL 3 (fun W hW=>hW.1) ?_
     refine dP 9 [4] ?_
     refine dL 9 (fun W hW=>hW.1) ?_
     refine dL 11 (fun W hW=>hW.2.1) ?_
     refine dO 12 16 ?_ ?_
     ·
      refine oD h115 [(Value.iface 28 (pt tb 0)),(aV (vb (kl K1)).toArray),(zD 13),(lV AJ86_1 16 cJ86_2)] (oFact_ok (h115.at_ 3 rfl) (hS3.room (by omega) 2 (by omega)).ok (h115.at_ 4 rfl) (M36:Int) x.srv ff ft hop (unp_pack hpf)) (fun w116 h116=>⟨⟨h116.at_ 8 rfl,h116.at_ 2 rfl,trivial⟩,?_⟩)
      refine dP 3 [13,14,15] ?_
      refine dT 16 (xN h116 88 ([zO,zE,zV,zO])) ?_
      rintro _ w117 ⟨g117,rfl,h117⟩
      refine ⟨⟨h117.at_ 9 rfl,h117.at_ 3 rfl,trivial⟩,?_⟩
      refine dT 17 (xR h117 0 ([(zD ((M36:Int))),(sV x.srv),(bV ff),(zD ft)])) ?_
      rintro _ w118 h118
      refine ⟨⟨h118.at_ 9 rfl,h118.at_ 3 rfl,trivial⟩,?_⟩
      refine dN 18 ?_
      refine dX ?_
      exact mK hJ105 (hhJ105 _ _ ⟨g117,_,pM,h118.sel [0,1,2,3,4,5,6,7,8,9,10,11] [0,1] (by kernel_rfl) rfl rfl⟩)
     refine oT (xN h115 88 ([zO,zE,zV,zO])) ?_
     rintro _ w119 ⟨g119,rfl,h119⟩
     refine ⟨⟨h119.at_ 9 rfl,h119.at_ 3 rfl,trivial⟩,?_⟩
     refine dD 12 h119 [(Value.iface 28 (pt tb 0)),(aV (vb (kl K1)).toArray),(zD 13),(lV AJ86_1 16 cJ86_2)] (oFact_ok (h119.at_ 4 rfl) (hS3.room (by omega) 2 (by omega)).ok (h119.at_ 5 rfl) (M36:Int) x.srv ff ft hop (unp_pack hpf)) (fun w120 h120=>⟨⟨h120.at_ 9 rfl,h120.at_ 3 rfl,trivial⟩,?_⟩)
     refine dP 2 [13,14,15] ?_
     refine dT 17 (xR h120 0 ([(zD ((M36:Int))),(sV x.srv),(bV ff),(zD ft)])) ?_
     rintro _ w121 h121
     refine ⟨⟨h121.at_ 9 rfl,h121.at_ 3 rfl,trivial⟩,?_⟩
     refine dN 18 ?_
     refine dX ?_
     exact mK hJ105 (hhJ105 _ _ ⟨g119,_,pM,h121.sel [0,1,2,3,4,5,6,7,8,9,10,11] [0,1] (by kernel_rfl) rfl rfl⟩)
    ·
     refine ma h90 8 ?_
     refine mX 94 (.bool false) (bV (decide ((min (at_+600) (at_+Li))<=now+(M34:Int)))) (by simp;omega) ?_
     refine ma h90 6 ?_
     refine mX 98 (.bool false) (bV x.m) (by rw [hm]) ?_
     refine ma h90 6 ?_
     refine mX 103 (.bool false) (bV x.m) (by rw [hm]) ?_
     refine mJ 2000032 (fun aJ wJ130=>∃ (gJ129_0:Nat) (xJ130:Nat->Value),aJ=patch xJ130 176 [(5,(pt d 0)),(7,(zD (now+(M34:Int)))),(8,(zD till)),(9,(zD ((i:Int)))),(10,(pt g26 0)),(11,(pt gJ38_0 0)),(12,(pt gJ86_0 0)),(13,zO),(14,zO),(15,(pt gJ129_0 0)),(16,zO),(31,(lV P L.length pc)),(32,(zD ((L.length:Int)))),(33,(zD ((i:Int)))),(34,zI),(47,zV),(87,zV),(95,zV),(103,zV),(119,zV),(121,zV)]/\Hp (fun _=>False) w wJ130 [rSB ((lV A 16 c)) (mkB 98 2),rRV 10 P pc ((L.map askC))] [rBlk gJ129_0 88 ([(zD ((M36:Int))),(sV x.srv),(bV ff),(zD ft)]),rCa GJ86_4 cb 64 sl3,rBk BJ86_5 bk o3,rBlk gJ86_0 84 ([(sV (⟨#[97,110,110]⟩)),(lV AJ86_1 16 cJ86_2)]),rTab FJ86_3 tb s3,rSB ((lV AJ86_1 16 cJ86_2)) (mkB 98 (s.boxes.length+1+1)),rSB ((lV A41 16 c41)) (mkB 98 (s.boxes.length+1)),rBlk gJ38_0 82 ([(sV x.srv),(zD ((M36:Int))),(zD (now+(M34:Int)+(M37:Int))),(bV x.m),(sV (⟨#[107,100,99]⟩)),(lV A 16 c),(lV A41 16 c41)]),rBlk g26 63 ([(sV x.srv),(zD x.nn),(zD x.till),(bV x.r),(bV x.m),(zD x.ex),(zD x.la),(zD x.tm),(zD x.sq),(zD x.tn)]),rBlk d 37 (dkC tb sv (rpC fl K1 1 bKDC at_ (min (at_+600) (at_+Li)) R) (rpC 4 K2 1 bKDC at_ (min (at_+600) (at_+Oi)) 0) (lV A 16 c) (lV B 16 c')),rBlk sv 73 ([(pt kb 0),(pt cb 0),(pt bk 0)]),rBlk kb 78 ([(Value.iface 28 (pt tb 0)),(pt bb 0)]++vb (kl kk))]) ?_ (fun hJ130 hhJ130=>?_)
     ·
      rintro _ wJ130 ⟨gJ129_0,xJ130,rfl,hJh130⟩
      refine mAt ?_
      refine ma hJh130 7 ?_
      refine ma hJh130 8 ?_
      refine mN hJh130 88 ([zO,zE,zV,zO]) fun g132 w132 h132=>?_
      refine mT (xR h132 0 ([(zD ((M36:Int))),(sV x.srv),zV,zO])) fun _ w133 h133=>?_
      skip
      refine ma h133 9 ?_
      refine mX 154 (.bool true) (bV ((x.srv).toList == (⟨#[97,110,110]⟩:ByteArray).toList)) (by rw [hnm];kernel_rfl) ?_
      refine mX 158 (.bool true) (bV (decide (till>now+(M34:Int)))) (by simp;omega) ?_
      refine mT (xS h133 0 ([(zD ((M36:Int))),(sV x.srv),zI,zO])) fun _ w137 h137=>?_
      refine mT (xS h137 0 ([(zD ((M36:Int))),(sV x.srv),zI,(zD till)])) fun _ w138 h138=>?_
      refine ma h138 1 ?_
      refine ma h138 0 ?_
      refine mW 168 (v:=zV) (e_selfN 88 [.int .i64 (M36:Int),.string x.srv,.bool ff,.int .i64 ft] (.tmp 166) (.tmp 167) 88 (by kernel_rfl) (by kernel_rfl) (by rw [hff,hft];kernel_rfl) (by kernel_rfl) (self_fact (M36:Int) x.srv ff ft) _) ?_
      refine ma h138 4 ?_
      refine mX 173 (.bool false) (bV (!((⟨#[97,110,110]⟩:ByteArray).toList == (⟨#[97,110,110]⟩:ByteArray).toList))) (by kernel_rfl) ?_
      refine mW 175 (exec_add _ _ _ _ bO ((i:Int)) 1 (by kernel_rfl) (by kernel_rfl) ((i:Int)+1) rfl (by omega) (by omega) _) ?_
      exact mK KL20 (hKL20 _ _ ⟨L.length-(i+1),_,(by omega),(i+1),(now+(M34:Int)),till,FJ86_3,GJ86_4,BJ86_5,s3,sl3,o3,(by omega),(by rw [← hti];exact hS3),rfl,pM,h138.sel [5,2,3,10,11,12] [0,1] (by kernel_rfl) rfl rfl⟩)
     refine dG h90 19 18 (fun W=>(rBlk d 37 (dkC tb sv (rpC fl K1 1 bKDC at_ (min (at_+600) (at_+Li)) R) (rpC 4 K2 1 bKDC at_ (min (at_+600) (at_+Oi)) 0) (lV A 16 c) (lV B 16 c'))).Φ W/\(rBlk gJ86_0 84 ([(sV (⟨#[97,110,110]⟩)),(lV AJ86_1 16 cJ86_2)])).Φ W/\True) (fun w140 h140=>⟨h140.at_ 8 rfl,h140.at_ 2 rfl,trivial⟩) ?_
     intro w140 h140
     refine dP 11 [0,1,2,5,6,7,8,10] ?_
     refine dL 3 (fun W hW=>hW.1) ?_
     refine dP 9 [4] ?_
     refine dL 9 (fun W hW=>hW.1) ?_
     refine dL 11 (fun W hW=>hW.2.1) ?_
     refine dO 12 16 ?_ ?_
     ·
      refine oD h140 [(Value.iface 28 (pt tb 0)),(aV (vb (kl K1)).toArray),(zD 13),(lV AJ86_1 16 cJ86_2)] (oFact_ok (h140.at_ 3 rfl) (hS3.room (by omega) 2 (by omega)).ok (h140.at_ 4 rfl) (M36:Int) x.srv ff ft hop (unp_pack hpf)) (fun w141 h141=>⟨⟨h141.at_ 8 rfl,h141.at_ 2 rfl,trivial⟩,?_⟩)
      refine dP 3 [13,14,15] ?_
      refine dT 16 (xN h141 88 ([zO,zE,zV,zO])) ?_
      rintro _ w142 ⟨g142,rfl,h142⟩
      refine ⟨⟨h142.at_ 9 rfl,h142.at_ 3 rfl,trivial⟩,?_⟩
      refine dT 17 (xR h142 0 ([(zD ((M36:Int))),(sV x.srv),(bV ff),(zD ft)])) ?_
      rintro _ w143 h143
      refine ⟨⟨h143.at_ 9 rfl,h143.at_ 3 rfl,trivial⟩,?_⟩
      refine dN 18 ?_
      refine dX ?_
      exact mK hJ130 (hhJ130 _ _ ⟨g142,_,pM,h143.sel [0,1,2,3,4,5,6,7,8,9,10,11] [0,1] (by kernel_rfl) rfl rfl⟩)
     refine oT (xN h140 88 ([zO,zE,zV,zO])) ?_
     rintro _ w144 ⟨g144,rfl,h144⟩
     refine ⟨⟨h144.at_ 9 rfl,h144.at_ 3 rfl,trivial⟩,?_⟩
     refine dD 12 h144 [(Value.iface 28 (pt tb 0)),(aV (vb (kl K1)).toArray),(zD 13),(lV AJ86_1 16 cJ86_2)] (oFact_ok (h144.at_ 4 rfl) (hS3.room (by omega) 2 (by omega)).ok (h144.at_ 5 rfl) (M36:Int) x.srv ff ft hop (unp_pack hpf)) (fun w145 h145=>⟨⟨h145.at_ 9 rfl,h145.at_ 3 rfl,trivial⟩,?_⟩)
     refine dP 2 [13,14,15] ?_
     refine dT 17 (xR h145 0 ([(zD ((M36:Int))),(sV x.srv),(bV ff),(zD ft)])) ?_
     rintro _ w146 h146
     refine ⟨⟨h146.at_ 9 rfl,h146.at_ 3 rfl,trivial⟩,?_⟩
     refine dN 18 ?_
     refine dX ?_
     exact mK hJ130 (hhJ130 _ _ ⟨g144,_,pM,h146.sel [0,1,2,3,4,5,6,7,8,9,10,11] [0,1] (by kernel_rfl) rfl rfl⟩)
    refine ma h90 8 ?_
    refine mX 94 (.bool false) (bV (decide ((min (at_+600) (at_+Li))<=now+(M34:Int)))) (by simp;omega) ?_
    refine ma h90 6 ?_
    refine mX 98 (.bool false) (bV x.m) (by rw [hm]) ?_
    refine ma h90 6 ?_
    refine mX 103 (.bool false) (bV x.m) (by rw [hm]) ?_
    refine mJ 2000032 (fun aJ wJ155=>∃ (gJ154_0:Nat) (xJ155:Nat->Value),aJ=patch xJ155 176 [(5,(pt d 0)),(7,(zD (now+(M34:Int)))),(8,(zD till)),(9,(zD ((i:Int)))),(10,(pt g26 0)),(11,(pt gJ38_0 0)),(12,(pt gJ86_0 0)),(13,zO),(14,zO),(15,(pt gJ154_0 0)),(16,zO),(31,(lV P L.length pc)),(32,(zD ((L.length:Int)))),(33,(zD ((i:Int)))),(34,zI),(47,zV),(87,zV),(95,zV),(103,zV),(119,zV),(121,zV)]/\Hp (fun _=>False) w wJ155 [rSB ((lV A 16 c)) (mkB 98 2),rRV 10 P pc ((L.map askC))] [rBlk gJ154_0 88 ([(zD ((M36:Int))),(sV x.srv),(bV ff),(zD ft)]),rCa GJ86_4 cb 64 sl3,rBk BJ86_5 bk o3,rBlk gJ86_0 84 ([(sV (⟨#[97,110,110]⟩)),(lV AJ86_1 16 cJ86_2)]),rTab FJ86_3 tb s3,rSB ((lV AJ86_1 16 cJ86_2)) (mkB 98 (s.boxes.length+1+1)),rSB ((lV A41 16 c41)) (mkB 98 (s.boxes.length+1)),rBlk gJ38_0 82 ([(sV x.srv),(zD ((M36:Int))),(zD (now+(M34:Int)+(M37:Int))),(bV x.m),(sV (⟨#[107,100,99]⟩)),(lV A 16 c),(lV A41 16 c41)]),rBlk g26 63 ([(sV x.srv),(zD x.nn),(zD x.till),(bV x.r),(bV x.m),(zD x.ex),(zD x.la),(zD x.tm),(zD x.sq),(zD x.tn)]),rBlk d 37 (dkC tb sv (rpC fl K1 1 bKDC at_ (min (at_+600) (at_+Li)) R) (rpC 4 K2 1 bKDC at_ (min (at_+600) (at_+Oi)) 0) (lV A 16 c) (lV B 16 c')),rBlk sv 73 ([(pt kb 0),(pt cb 0),(pt bk 0)]),rBlk kb 78 ([(Value.iface 28 (pt tb 0)),(pt bb 0)]++vb (kl kk))]) ?_ (fun hJ155 hhJ155=>?_)
    ·
     rintro _ wJ155 ⟨gJ154_0,xJ155,rfl,hJh155⟩
     refine mAt ?_
     refine ma hJh155 7 ?_
     refine ma hJh155 8 ?_
     refine mN hJh155 88 ([zO,zE,zV,zO]) fun g157 w157 h157=>?_
     refine mT (xR h157 0 ([(zD ((M36:Int))),(sV x.srv),zV,zO])) fun _ w158 h158=>?_
     rcases dr_way2 hno with hn1|⟨hn1,hn2⟩
     ·
      refine ma h158 9 ?_
      refine mX 154 (.bool false) (bV ((x.srv).toList == (⟨#[97,110,110]⟩:ByteArray).toList)) (dr_neq hn1) ?_
      refine ma h158 1 ?_
      refine ma h158 0 ?_
      refine mW 168 (v:=zV) (e_selfN 88 [.int .i64 (M36:Int),.string x.srv,.bool ff,.int .i64 ft] (.tmp 166) (.tmp 167) 88 (by kernel_rfl) (by kernel_rfl) (by rw [hff,hft];kernel_rfl) (by kernel_rfl) (self_fact (M36:Int) x.srv ff ft) _) ?_
      refine ma h158 4 ?_
      refine mX 173 (.bool false) (bV (!((⟨#[97,110,110]⟩:ByteArray).toList == (⟨#[97,110,110]⟩:ByteArray).toList))) (by kernel_rfl) ?_
      refine mW 175 (exec_add _ _ _ _ bO ((i:Int)) 1 (by kernel_rfl) (by kernel_rfl) ((i:Int)+1) rfl (by omega) (by omega) _) ?_
      exact mK KL20 (hKL20 _ _ ⟨L.length-(i+1),_,(by omega),(i+1),(now+(M34:Int)),till,FJ86_3,GJ86_4,BJ86_5,s3,sl3,o3,(by omega),(by rw [← hti];exact hS3),rfl,pM,h158.sel [5,2,3,10,11,12] [0,1] (by kernel_rfl) rfl rfl⟩)
     refine ma h158 9 ?_
     refine mX 154 (.bool true) (bV ((x.srv).toList == (⟨#[97,110,110]⟩:ByteArray).toList)) (by rw [hn1];kernel_rfl) ?_
     refine mX 158 (.bool false) (bV (decide (till>now+(M34:Int)))) (by simp;omega) ?_
     refine ma h158 1 ?_
     refine ma h158 0 ?_
     refine mW 168 (v:=zV) (e_selfN 88 [.int .i64 (M36:Int),.string x.srv,.bool ff,.int .i64 ft] (.tmp 166) (.tmp 167) 88 (by kernel_rfl) (by kernel_rfl) (by rw [hff,hft];kernel_rfl) (by kernel_rfl) (self_fact (M36:Int) x.srv ff ft) _) ?_
     refine ma h158 4 ?_
     refine mX 173 (.bool false) (bV (!((⟨#[97,110,110]⟩:ByteArray).toList == (⟨#[97,110,110]⟩:ByteArray).toList))) (by kernel_rfl) ?_
     refine mW 175 (exec_add _ _ _ _ bO ((i:Int)) 1 (by kernel_rfl) (by kernel_rfl) ((i:Int)+1) rfl (by omega) (by omega) _) ?_
     exact mK KL20 (hKL20 _ _ ⟨L.length-(i+1),_,(by omega),(i+1),(now+(M34:Int)),till,FJ86_3,GJ86_4,BJ86_5,s3,sl3,o3,(by omega),(by rw [← hti];exact hS3),rfl,pM,h158.sel [5,2,3,10,11,12] [0,1] (by kernel_rfl) rfl rfl⟩)
    refine dG h90 19 18 (fun W=>(rBlk d 37 (dkC tb sv (rpC fl K1 1 bKDC at_ (min (at_+600) (at_+Li)) R) (rpC 4 K2 1 bKDC at_ (min (at_+600) (at_+Oi)) 0) (lV A 16 c) (lV B 16 c'))).Φ W/\(rBlk gJ86_0 84 ([(sV (⟨#[97,110,110]⟩)),(lV AJ86_1 16 cJ86_2)])).Φ W/\True) (fun w164 h164=>⟨h164.at_ 8 rfl,h164.at_ 2 rfl,trivial⟩) ?_
    intro w164 h164
    refine dP 11 [0,1,2,5,6,7,8,10] ?_
    refine dL 3 (fun W hW=>hW.1) ?_
    refine dP 9 [4] ?_
    refine dL 9 (fun W hW=>hW.1) ?_
    refine dL 11 (fun W hW=>hW.2.1) ?_
    refine dO 12 16 ?_ ?_
    ·
     refine oD h164 [(Value.iface 28 (pt tb 0)),(aV (vb (kl K1)).toArray),(zD 13),(lV AJ86_1 16 cJ86_2)] (oFact_ok (h164.at_ 3 rfl) (hS3.room (by omega) 2 (by omega)).ok (h164.at_ 4 rfl) (M36:Int) x.srv ff ft hop (unp_pack hpf)) (fun w165 h165=>⟨⟨h165.at_ 8 rfl,h165.at_ 2 rfl,trivial⟩,?_⟩)
     refine dP 3 [13,14,15] ?_
     refine dT 16 (xN h165 88 ([zO,zE,zV,zO])) ?_
     rintro _ w166 ⟨g166,rfl,h166⟩
     refine ⟨⟨h166.at_ 9 rfl,h166.at_ 3 rfl,trivial⟩,?_⟩
     refine dT 17 (xR h166 0 ([(zD ((M36:Int))),(sV x.srv),(bV ff),(zD ft)])) ?_
     rintro _ w167 h167
     refine ⟨⟨h167.at_ 9 rfl,h167.at_ 3 rfl,trivial⟩,?_⟩
     refine dN 18 ?_
     refine dX ?_
     exact mK hJ155 (hhJ155 _ _ ⟨g166,_,pM,h167.sel [0,1,2,3,4,5,6,7,8,9,10,11] [0,1] (by kernel_rfl) rfl rfl⟩)
    refine oT (xN h164 88 ([zO,zE,zV,zO])) ?_
    rintro _ w168 ⟨g168,rfl,h168⟩
    refine ⟨⟨h168.at_ 9 rfl,h168.at_ 3 rfl,trivial⟩,?_⟩
    refine dD 12 h168 [(Value.iface 28 (pt tb 0)),(aV (vb (kl K1)).toArray),(zD 13),(lV AJ86_1 16 cJ86_2)] (oFact_ok (h168.at_ 4 rfl) (hS3.room (by omega) 2 (by omega)).ok (h168.at_ 5 rfl) (M36:Int) x.srv ff ft hop (unp_pack hpf)) (fun w169 h169=>⟨⟨h169.at_ 9 rfl,h169.at_ 3 rfl,trivial⟩,?_⟩)
    refine dP 2 [13,14,15] ?_
    refine dT 17 (xR h169 0 ([(zD ((M36:Int))),(sV x.srv),(bV ff),(zD ft)])) ?_
    rintro _ w170 h170
    refine ⟨⟨h170.at_ 9 rfl,h170.at_ 3 rfl,trivial⟩,?_⟩
    refine dN 18 ?_
    refine dX ?_
    exact mK hJ155 (hhJ155 _ _ ⟨g168,_,pM,h170.sel [0,1,2,3,4,5,6,7,8,9,10,11] [0,1] (by kernel_rfl) rfl rfl⟩)
   refine dG h85 13 12 (fun W=>(rBlk d 37 (dkC tb sv (rpC fl K1 1 bKDC at_ (min (at_+600) (at_+Li)) R) (rpC 4 K2 1 bKDC at_ (min (at_+600) (at_+Oi)) 0) (lV A 16 c) (lV B 16 c'))).Φ W/\(rBlk gJ38_0 82 ([(sV x.srv),(zD ((M36:Int))),(zD (now+(M34:Int)+(M37:Int))),(bV x.m),(sV (⟨#[107,100,99]⟩)),(lV A 16 c),(lV A41 16 c41)])).Φ W/\True) (fun w171 h171=>⟨h171.at_ 5 rfl,h171.at_ 3 rfl,trivial⟩) ?_
   intro w171 h171
   refine dP 9 [0,1,2,4] ?_
   refine dL 3 (fun W hW=>hW.1) ?_
   refine dL 5 (fun W hW=>hW.2.1) ?_
   refine dO 6 10 ?_ ?_
   ·
    refine oT (x_drY (nb:=s.boxes.length+1) (c1:=bANN) h171 1 0 rfl rfl [(pt sv 0),(zD (now+(M34:Int))),(aV ([(sV x.srv),(zD ((M36:Int))),(zD (now+(M34:Int)+(M37:Int))),(bV x.m),(sV (⟨#[107,100,99]⟩)),(lV A 16 c),(lV A41 16 c41)]).toArray)] rfl (by kernel_rfl) (hcl (mkB_len _ _).symm (mkB_len _ _).symm (h171.carve2 1 0 rfl rfl [(true,6),(true,7),(false,0),(true,2),(false,0)] rfl rfl))) ?_
    rintro _ w172 ⟨A172,c172,F172,G172,B172,rfl,h172⟩
    refine ⟨⟨h172.at_ 6 rfl,h172.at_ 4 rfl,trivial⟩,?_⟩
    refine dP 3 [7,8,9] ?_
    refine dT 10 (xN h172 84 ([zE,zN])) ?_
    rintro _ w173 ⟨g173,rfl,h173⟩
    refine ⟨⟨h173.at_ 7 rfl,h173.at_ 5 rfl,trivial⟩,?_⟩
    refine dT 11 (xR h173 0 ([(sV (⟨#[97,110,110]⟩)),(lV A172 16 c172)])) ?_
    rintro _ w174 h174
    refine ⟨⟨h174.at_ 7 rfl,h174.at_ 5 rfl,trivial⟩,?_⟩
    refine dN 12 ?_
    refine dX ?_
    exact mK hJ87 (hhJ87 _ _ ⟨g173,A172,c172,F172,G172,B172,_,pM,h174.sel [0,1,2,3,4,5,6,7,8,9] [0,1] (by kernel_rfl) rfl rfl⟩)
   refine oT (xN h171 84 ([zE,zN])) ?_
   rintro _ w175 ⟨g175,rfl,h175⟩
   refine ⟨⟨h175.at_ 6 rfl,h175.at_ 4 rfl,trivial⟩,?_⟩
   refine dT 6 (x_drY (nb:=s.boxes.length+1) (c1:=bANN) h175 2 1 rfl rfl [(pt sv 0),(zD (now+(M34:Int))),(aV ([(sV x.srv),(zD ((M36:Int))),(zD (now+(M34:Int)+(M37:Int))),(bV x.m),(sV (⟨#[107,100,99]⟩)),(lV A 16 c),(lV A41 16 c41)]).toArray)] rfl (by kernel_rfl) (hcl (mkB_len _ _).symm (mkB_len _ _).symm (h175.carve2 2 1 rfl rfl [(true,7),(true,8),(false,0),(true,3),(false,0)] rfl rfl))) ?_
   rintro _ w176 ⟨A176,c176,F176,G176,B176,rfl,h176⟩
   refine ⟨⟨h176.at_ 7 rfl,h176.at_ 5 rfl,trivial⟩,?_⟩
   refine dP 2 [7,8,9] ?_
   refine dT 11 (xR h176 3 ([(sV (⟨#[97,110,110]⟩)),(lV A176 16 c176)])) ?_
   rintro _ w177 h177
   refine ⟨⟨h177.at_ 7 rfl,h177.at_ 5 rfl,trivial⟩,?_⟩
   refine dN 12 ?_
   refine dX ?_
   exact mK hJ87 (hhJ87 _ _ ⟨g175,A176,c176,F176,G176,B176,_,pM,h177.sel [3,0,1,2,4,5,6,7,8,9] [0,1] (by kernel_rfl) rfl rfl⟩)
  refine dG h32 19 18 (fun W=>(rBlk g26 63 ([(sV x.srv),(zD x.nn),(zD x.till),(bV x.r),(bV x.m),(zD x.ex),(zD x.la),(zD x.tm),(zD x.sq),(zD x.tn)])).Φ W/\(rBlk d 37 (dkC tb sv (rpC fl K1 1 bKDC at_ (min (at_+600) (at_+Li)) R) (rpC 4 K2 1 bKDC at_ (min (at_+600) (at_+Oi)) 0) (lV A 16 c) (lV B 16 c'))).Φ W/\True) (fun w178 h178=>⟨h178.at_ 0 rfl,h178.at_ 4 rfl,trivial⟩) ?_
  intro w178 h178
  refine dP 11 [0,2,5,6,10,12,13,14] ?_
  refine dLs 9 [1,3] (fun W hW=>hW.1) ?_
  refine dV 4 (v:=(zD ((M36:Int)))) (fun W hW=>eqI (zD (bits .and .i64 x.nn 1023)) (congrArg (iV .i64) hM36)) ?_
  refine dL 7 (fun W hW=>hW.1) ?_
  refine dV 8 (v:=(zD ((M37:Int)))) (fun W hW=>eqI (zD (bits .and .i64 x.till 255)) (congrArg (iV .i64) hM37)) ?_
  refine dV 9 (fun W hW=>exec_add _ _ _ _ bO (now+(M34:Int)) ((M37:Int)) (by kernel_rfl) (by kernel_rfl) (now+(M34:Int)+(M37:Int)) rfl (by omega) (by omega) _) ?_
  refine dL 11 (fun W hW=>hW.1) ?_
  refine dL 15 (fun W hW=>hW.2.1) ?_
  refine dP 2 [16] ?_
  refine dT 17 (xN h178 82 ([zE,zO,zO,zV,zE,zN,zN])) ?_
  rintro _ w179 ⟨g179,rfl,h179⟩
  refine ⟨⟨h179.at_ 1 rfl,h179.at_ 5 rfl,trivial⟩,?_⟩
  refine dE 18 (xR h179 0 ([(sV x.srv),(zD ((M36:Int))),(zD (now+(M34:Int)+(M37:Int))),(bV x.m),(sV (⟨#[107,100,99]⟩)),(lV A 16 c),zN])) ?_
  rintro _ w180 h180
  refine dX ?_
  exact mK hJ39 (hhJ39 _ _ ⟨g179,_,pM,h180.sel [0,1,2,3,4,5,6,7] [0,1] (by kernel_rfl) rfl rfl⟩)
 refine mX 34 (.bool false) (bV (decide ((i:Int)<(L.length:Int)))) (by simp;omega) ?_
 exact mQ h20
end
section
open Go.ChangeShapes Go.WideShapes Go.ChangeAt Go.RowKit
theorem ktgsDirs_lifted(os:Os)(started:os.Started)(H:Type)(enc:TypeId × Value->H) :
   ReturnsInHanded {} Tryz.checked os 8 .any (Rows.ktgsDirsSpec.pre6 enc Tryz.prog Tryz.f8 Rows.ktgsDirsRow.domain false) (Rows.ktgsDirsSpec.post enc Tryz.prog Tryz.f8 false true false false):=by
 refine returnsInHanded_of_change (C:=Tryz.checked) Tryz.own started (by kernel_rfl) Tryz.func8
   (ChangeSpec.witness6 (enc:=enc) (C:=Tryz.checked) false ⟨#[],#[.agg #[.int .i64 0,.int .i64 0,.int .i64 0,.bool false,.int .i64 0,.int .i64 0],.slice none 0 0],[]⟩ 8 (by kernel_rfl) (by kernel_rfl) (by kernel_rfl) (by kernel_rfl)) ?_
 intro W base args ds gs before hval0 hW hcnd _
 have hval:∀ (j:Nat) t v,Tryz.f8.params[j]?=some t->args[j]?=some v->Value.okWide Tryz.prog W .any base t v:=hval0
 have hpost:∀ W',Below W.heap.size W W'->Rows.ktgsDirsSpec.post enc Tryz.prog Tryz.f8 false true false false W args (.bool true) W':=fun W' hb =>
   law_post Tryz.laidOut (by kernel_rfl) Tryz.underlying4 rfl rfl (fun ds hds=>by
     have hn:ds.length=2:=hds
     match ds,hn with
     | [_,_],_=>rfl) hW hb
 obtain ⟨p,q,hA0,hV,rfl,hfz,hnd⟩:=hW
 have hA:DataW.TrodAll enc Tryz.prog W 0 (fun _=>true) true Tryz.f8.params.toList args.toList ds p:=hA0
 rw [Tryz.params8] at hA hval
 clear hA0 hval0
 obtain ⟨v0,v1,d0,d1,p0,p1,rfl,rfl,rfl,h0,h1⟩:=trodAll_two hA
 obtain ⟨n00,n01,n02,m03,n04,n05,rfl⟩:=open_rules (hval 0 23 v0 rfl rfl) h0
 obtain ⟨A1,c1,L1,rfl,hr1⟩:=open_asks (hval 1 60 v1 rfl rfl) h1
 refine (ktgsDirs_any hr1 n00 n01 n02 n04 n05 m03).mono fun e W' ⟨he,hw⟩=>?_
 subst he
 exact ⟨_,rfl,hpost W' hw⟩
theorem ktgsDirs_holds:Rows.KtgsDirsSaid:=
 OpenClaim.holds_of_wide 8 Tryz.f8 rfl rfl rfl rfl rfl rfl rfl ⟨rfl,rfl,rfl,rfl,rfl⟩ rfl rfl rfl rfl rfl (by kernel_rfl) Tryz.func8 (by kernel_rfl)
   (of_decide_eq_true (by kernel_rfl)) (by unfold Func.isWrapper;first|(rw [if_pos (by decide +kernel)];kernel_rfl)|(rw [if_neg (by decide +kernel)];exact ⟨rfl,rfl⟩))
   (fun os started H enc _=>ktgsDirs_lifted os started H enc)
end
end Go.Proofs.YtdefpmmdpfpipaaGreat
