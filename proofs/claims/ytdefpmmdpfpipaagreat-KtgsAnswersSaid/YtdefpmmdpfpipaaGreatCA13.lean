/- compeerref09: runes by bytes;that names are the same: plain. Strings,byte by byte. -/
import Derived.Laws.Cover1
import Derived.Test.YtdefpmmdpfpipaaGreatCA12
set_option maxRecDepth 100000
set_option maxHeartbeats 4000000
namespace Go.Proofs.YtdefpmmdpfpipaaGreat
section
open Go.RowKit Go.QT
/-- What Show leaves. -/
def ShPost(G:Nat->Prop)(cb most:Nat)(w:World)(r:Nat × List Sh)(e:Ending)(w':World):Prop:=e=.returned (.int .i64 (r.1:Int))/\∃ G',Hp G w w' [] [rCa G' cb most r.2]
theorem show_skew{G:Nat->Prop}{cb most:Nat}{l:List Sh}{w:World}(hC:(rCa G cb most l).Φ w){now:Int}{x:Sh}(hnear:nearF now x.t=false):Calls Tryz.prog 50 #[pt cb 0,.int .i64 now,.string x.c,.int .i64 x.t,.int .i64 x.q] w (ShPost G cb most w (11,l)):=by
 obtain ⟨A,c,hG,h00⟩:=(Hp.one (rCa G cb most l) hC).openC 0 rfl
 have h0:=(show Hp G w w [] (lCa cb A c most l++[]) from h00)
 refine mE 74 ?_
 refine mT (x_dp (v:=.bool false) h0 64 [(Value.int .i64 now),(Value.int .i64 x.t)] (by kernel_rfl) (hnear ▸ near_any now x.t _)) ?_
 rintro _ w4 ⟨rfl,h4⟩
 refine mP (Value.int .i64 11) ?_
 exact ⟨rfl,_,h4.closeC⟩
theorem show_twice{G:Nat->Prop}{cb most:Nat}{l:List Sh}{w:World}(hC:(rCa G cb most l).Φ w){now:Int}{x:Sh}(hnear:nearF now x.t=true)(hl:∀ y ∈ l,0<=y.t/\y.t<=1099511627776)(hm:l.length<=1000000)(hx2:x ∈ l):Calls Tryz.prog 50 #[pt cb 0,.int .i64 now,.string x.c,.int .i64 x.t,.int .i64 x.q] w (ShPost G cb most w (14,l)):=by
 obtain ⟨A,c,hG,h00⟩:=(Hp.one (rCa G cb most l) hC).openC 0 rfl
 have hin:=near_in hnear
 have h0:=(show Hp G w w [] (lCa cb A c most l++[]) from h00)
 refine mE 74 ?_
 refine mT (x_dp (v:=.bool true) h0 64 [(Value.int .i64 now),(Value.int .i64 x.t)] (by kernel_rfl) (hnear ▸ near_any now x.t _)) ?_
 rintro _ w4 ⟨rfl,h4⟩
 refine mN h4 187 ([(Value.string ByteArray.empty),(Value.int .i64 0),(Value.int .i64 0)]) fun g6 w6 h6=>?_
 refine mT (xR h6 0 ([(Value.string x.c),(Value.int .i64 x.t),(Value.int .i64 x.q)])) fun _ w7 h7=>?_
 refine ma h7 1 ?_
 refine mW 27 (v:=(Value.slice A 0 0)) (e_cut00 (sz:=3) (A:=A) (n:=l.length) (c:=c) 169 (.tmp 26) (.const (Value.int .i64 0)) (.const (Value.int .i64 0)) (by kernel_rfl) (by kernel_rfl) .i64 .i64 (by kernel_rfl) (by kernel_rfl) (by kernel_rfl) (by kernel_rfl) _) ?_
 have h9:=h7.owNil 187 3 A
 refine ma h9 2 ?_
 refine mL (fun mM xX aA wL=>∃ (k:Nat) (A1:Option Addr) (c1:Nat) (ys:List Sh),(k<=l.length)/\(x ∉ l.take k)/\(keptF now (l.take k)=ys)/\mM=l.length-k/\aA=patch xX 74 [(0,(pt cb 0)),(1,(Value.int .i64 now)),(11,(pt g6 0)),(12,(Value.slice A1 ys.length c1)),(31,(Value.slice A l.length c)),(32,(Value.int .i64 ((l.length:Int)))),(33,(Value.int .i64 ((k:Int))))]/\Hp G w wL [] [rOW 187 3 ((Value.slice A1 ys.length c1)) (ys.map Sh.cs),rBlk g6 187 ([(Value.string x.c),(Value.int .i64 x.t),(Value.int .i64 x.q)]),rBlk cb 171 ([(Value.slice A l.length c),(Value.int .i64 ((most:Int)))]),rOW 187 3 ((Value.slice A l.length c)) (l.map Sh.cs)]) ⟨_,_,0,A,0,(([]:List Sh)),(Nat.zero_le _),(by simp),rfl,rfl,pM,h9.sel [0,1,2,3] [] (by kernel_rfl) rfl rfl⟩ ?_
 rintro _ x12 _ w12 ⟨k,A1,c1,ys,hk,hx,hys,rfl,rfl,h12⟩ KL12 hKL12
 refine mAt ?_
 by_cases b14:k<l.length
 ·
  refine mX 34 (.bool true) (Value.bool (decide ((k:Int)<(l.length:Int)))) (by simp;omega) ?_
  have hyl:ys.length<=k:=by rw [← hys];have:=kept_len now (l.take k);rw [List.length_take] at this;omega
  obtain ⟨y,hy⟩:∃ y,l[k]?=some y:=⟨_,List.getElem?_eq_getElem (by omega)⟩
  have hyt:=hl y (List.mem_of_getElem? hy)
  refine mW 35 (eIx (OW.rvn (h12.at_ 3 rfl)).2 k l.length (OW.rvn (h12.at_ 3 rfl)).1 (by omega) 169 (.tmp 31) (.tmp 33) .i64 187) ?_
  refine mW 36 (e_elemsN (OW.rvn (h12.at_ 3 rfl)).2 k 0 ([(Value.string y.c),(Value.int .i64 y.t),(Value.int .i64 y.q)]) (sh_get hy) 187 (.tmp 35) (by kernel_rfl) ([(Value.string y.c),(Value.int .i64 y.t),(Value.int .i64 y.q)]) (by kernel_rfl) (by kernel_rfl) (by kernel_rfl)) ?_
  refine mN h12 187 ([(Value.string ByteArray.empty),(Value.int .i64 0),(Value.int .i64 0)]) fun g18 w18 h18=>?_
  refine mT (xR h18 0 ([(Value.string y.c),(Value.int .i64 y.t),(Value.int .i64 y.q)])) fun _ w19 h19=>?_
  rcases hne:decide (y=x) with _|_
  ·
   refine ma h19 0 ?_
   refine ma h19 2 ?_
   refine mW 39 (v:=(Value.bool false)) (e_eqS [Fq.str y.c x.c,Fq.num .i64 y.t x.t,Fq.num .i64 y.q x.q] false ((sh_eqb x y).trans hne)) ?_
   rcases (show now-y.t<=30∨¬ now-y.t<=30 by omega) with h30|h30
   ·
    refine ma h19 0 ?_
    refine mW 43 (exec_sub _ _ _ _ bO now y.t (by kernel_rfl) (by kernel_rfl) (now-y.t) rfl (by omega) (by omega) _) ?_
    refine mX 44 (.bool true) (Value.bool (decide (now-y.t<=30))) (by simp;omega) ?_
    refine ma h19 0 ?_
    refine mT (x_bs h19 187 ([(Value.string y.c),(Value.int .i64 y.t),(Value.int .i64 y.q)]) 1 (by kernel_rfl)) ?_
    rintro _ w25 ⟨g25,rfl,h25⟩
    refine mT (x_pushW h25 2 0 rfl rfl (.tmp 45) (.tmp 47) 169 (by kernel_rfl) 32 (Value.agg ([(Value.string ByteArray.empty),(Value.int .i64 0),(Value.int .i64 0)]).toArray) (by kernel_rfl) (by kernel_rfl) (by kernel_rfl) (by kernel_rfl) (by kernel_rfl) (by kernel_rfl) (by kernel_rfl) (by kernel_rfl) (by rw [List.length_map];omega) (by rw [List.length_map];unfold maxLen;omega) ((ys++[y]).map Sh.cs) ((ys++[y]).length) (by rw [List.map_append];rfl) (List.length_map _)) ?_
    rintro _ w26 ⟨A26,c26,rfl,h26⟩
    refine mW 49 (exec_add _ _ _ _ bO ((k:Int)) 1 (by kernel_rfl) (by kernel_rfl) ((k:Int)+1) rfl (by omega) (by omega) _) ?_
    exact mK KL12 (hKL12 _ _ ⟨l.length-(k+1),_,(by omega),(k+1),A26,c26,((ys++[y])),(by omega),(not_in_step hy hne hx),(by rw [kept_yes hy h30,hys]),rfl,pM,h26.sel [2,3,4,5] [] (by kernel_rfl) rfl rfl⟩)
   refine ma h19 0 ?_
   refine mW 43 (exec_sub _ _ _ _ bO now y.t (by kernel_rfl) (by kernel_rfl) (now-y.t) rfl (by omega) (by omega) _) ?_
   refine mX 44 (.bool false) (Value.bool (decide (now-y.t<=30))) (by simp;omega) ?_
   refine mW 49 (exec_add _ _ _ _ bO ((k:Int)) 1 (by kernel_rfl) (by kernel_rfl) ((k:Int)+1) rfl (by omega) (by omega) _) ?_
   exact mK KL12 (hKL12 _ _ ⟨l.length-(k+1),_,(by omega),(k+1),A1,c1,ys,(by omega),(not_in_step hy hne hx),(by rw [kept_no hy h30,hys]),rfl,pM,h19.sel [1,2,3,4] [] (by kernel_rfl) rfl rfl⟩)
  refine ma h19 0 ?_
  refine ma h19 2 ?_
  refine mW 39 (v:=(Value.bool true)) (e_eqS [Fq.str y.c x.c,Fq.num .i64 y.t x.t,Fq.num .i64 y.q x.q] true ((sh_eqb x y).trans hne)) ?_
  refine mP (Value.int .i64 14) ?_
  exact ⟨rfl,_,(show Hp _ _ _ _ (lCa cb A c most l++[]) from h19.sel [3,4] [] rfl rfl rfl).closeC⟩
 refine mX 34 (.bool false) (Value.bool (decide ((k:Int)<(l.length:Int)))) (by simp;omega) ?_
 rw [List.take_of_length_le (by omega)] at hys
 have hyl:ys.length<=l.length:=by rw [← hys];exact kept_len now l
 refine mT (xS h12 2 ([(Value.slice A1 ys.length c1),(Value.int .i64 ((most:Int)))])) fun _ w30 h30=>?_
 refine dG h30 10 10 (fun W=>(rBlk cb 171 ([(Value.slice A1 ys.length c1),(Value.int .i64 ((most:Int)))])).Φ W/\True) (fun w33 h33=>⟨h33.at_ 2 rfl,trivial⟩) ?_
 intro w33 h33
 refine dP 4 [0,1,2,5,6,7] ?_
 refine dL 3 (fun W hW=>hW.1) ?_
 refine dP 2 [4] ?_
 refine dL 8 (fun W hW=>hW.1) ?_
 refine dP 0 [9] ?_
 refine dX ?_
 refine m_if 63 ((ys.length:Int) ≥ (most:Int)) (by kernel_rfl) (fun b34=>?_) (fun b34=>?_)
 ·
  refine mP (Value.int .i64 8) ?_
  exact absurd hx2 (by rw [List.take_of_length_le (by omega)] at hx;exact hx)
 refine dG h33 11 8 (fun W=>(rBlk cb 171 ([(Value.slice A1 ys.length c1),(Value.int .i64 ((most:Int)))])).Φ W/\(rBlk g6 187 ([(Value.string x.c),(Value.int .i64 x.t),(Value.int .i64 x.q)])).Φ W/\True) (fun w37 h37=>⟨h37.at_ 2 rfl,h37.at_ 1 rfl,trivial⟩) ?_
 intro w37 h37
 refine dP 7 [0,1,2,3] ?_
 refine dL 4 (fun W hW=>hW.1) ?_
 refine dL 5 (fun W hW=>hW.2.1) ?_
 refine dT 6 (x_bs h37 187 ([(Value.string x.c),(Value.int .i64 x.t),(Value.int .i64 x.q)]) 1 (by kernel_rfl)) ?_
 rintro _ w38 ⟨g38,rfl,h38⟩
 refine ⟨⟨h38.at_ 3 rfl,h38.at_ 2 rfl,trivial⟩,?_⟩
 refine dT 7 (x_pushW h38 1 0 rfl rfl (.tmp 68) (.tmp 70) 169 (by kernel_rfl) 32 (Value.agg ([(Value.string ByteArray.empty),(Value.int .i64 0),(Value.int .i64 0)]).toArray) (by kernel_rfl) (by kernel_rfl) (by kernel_rfl) (by kernel_rfl) (by kernel_rfl) (by kernel_rfl) (by kernel_rfl) (by kernel_rfl) (by rw [List.length_map];omega) (by rw [List.length_map];unfold maxLen;omega) ((ys++[x]).map Sh.cs) ((ys++[x]).length) (by rw [List.map_append];rfl) (List.length_map _)) ?_
 rintro _ w39 ⟨A39,c39,rfl,h39⟩
 refine ⟨⟨h39.at_ 3 rfl,h39.at_ 2 rfl,trivial⟩,?_⟩
 refine dN 8 ?_
 refine dN 9 ?_
 refine dE 10 (xS h39 3 ([(Value.slice A39 ((ys++[x]).length) c39),(Value.int .i64 ((most:Int)))])) ?_
 rintro _ w40 h40
 refine dX ?_
 refine mP (Value.int .i64 0) ?_
 exact absurd hx2 (by rw [List.take_of_length_le (by omega)] at hx;exact hx)
theorem show_ok{G:Nat->Prop}{cb most:Nat}{l:List Sh}{w:World}(hC:(rCa G cb most l).Φ w){now:Int}{x:Sh}(hnear:nearF now x.t=true)(hl:∀ y ∈ l,0<=y.t/\y.t<=1099511627776)(_hm:l.length<=1000000)(hx0:x ∉ l)(hmost:l.length<most)(hmm:most<=1000000):Calls Tryz.prog 50 #[pt cb 0,.int .i64 now,.string x.c,.int .i64 x.t,.int .i64 x.q] w (ShPost G cb most w (0,keptF now l++[x])):=by
 obtain ⟨A,c,hG,h00⟩:=(Hp.one (rCa G cb most l) hC).openC 0 rfl
 have hin:=near_in hnear
 have h0:=(show Hp G w w [] (lCa cb A c most l++[]) from h00)
 refine mE 74 ?_
 refine mT (x_dp (v:=.bool true) h0 64 [(Value.int .i64 now),(Value.int .i64 x.t)] (by kernel_rfl) (hnear ▸ near_any now x.t _)) ?_
 rintro _ w4 ⟨rfl,h4⟩
 refine mN h4 187 ([(Value.string ByteArray.empty),(Value.int .i64 0),(Value.int .i64 0)]) fun g6 w6 h6=>?_
 refine mT (xR h6 0 ([(Value.string x.c),(Value.int .i64 x.t),(Value.int .i64 x.q)])) fun _ w7 h7=>?_
 refine ma h7 1 ?_
 refine mW 27 (v:=(Value.slice A 0 0)) (e_cut00 (sz:=3) (A:=A) (n:=l.length) (c:=c) 169 (.tmp 26) (.const (Value.int .i64 0)) (.const (Value.int .i64 0)) (by kernel_rfl) (by kernel_rfl) .i64 .i64 (by kernel_rfl) (by kernel_rfl) (by kernel_rfl) (by kernel_rfl) _) ?_
 have h9:=h7.owNil 187 3 A
 refine ma h9 2 ?_
 refine mL (fun mM xX aA wL=>∃ (k:Nat) (A1:Option Addr) (c1:Nat) (ys:List Sh),(k<=l.length)/\(x ∉ l.take k)/\(keptF now (l.take k)=ys)/\mM=l.length-k/\aA=patch xX 74 [(0,(pt cb 0)),(1,(Value.int .i64 now)),(11,(pt g6 0)),(12,(Value.slice A1 ys.length c1)),(31,(Value.slice A l.length c)),(32,(Value.int .i64 ((l.length:Int)))),(33,(Value.int .i64 ((k:Int))))]/\Hp G w wL [] [rOW 187 3 ((Value.slice A1 ys.length c1)) (ys.map Sh.cs),rBlk g6 187 ([(Value.string x.c),(Value.int .i64 x.t),(Value.int .i64 x.q)]),rBlk cb 171 ([(Value.slice A l.length c),(Value.int .i64 ((most:Int)))]),rOW 187 3 ((Value.slice A l.length c)) (l.map Sh.cs)]) ⟨_,_,0,A,0,(([]:List Sh)),(Nat.zero_le _),(by simp),rfl,rfl,pM,h9.sel [0,1,2,3] [] (by kernel_rfl) rfl rfl⟩ ?_
 rintro _ x12 _ w12 ⟨k,A1,c1,ys,hk,hx,hys,rfl,rfl,h12⟩ KL12 hKL12
 refine mAt ?_
 by_cases b14:k<l.length
 ·
  refine mX 34 (.bool true) (Value.bool (decide ((k:Int)<(l.length:Int)))) (by simp;omega) ?_
  have hyl:ys.length<=k:=by rw [← hys];have:=kept_len now (l.take k);rw [List.length_take] at this;omega
  obtain ⟨y,hy⟩:∃ y,l[k]?=some y:=⟨_,List.getElem?_eq_getElem (by omega)⟩
  have hyt:=hl y (List.mem_of_getElem? hy)
  refine mW 35 (eIx (OW.rvn (h12.at_ 3 rfl)).2 k l.length (OW.rvn (h12.at_ 3 rfl)).1 (by omega) 169 (.tmp 31) (.tmp 33) .i64 187) ?_
  refine mW 36 (e_elemsN (OW.rvn (h12.at_ 3 rfl)).2 k 0 ([(Value.string y.c),(Value.int .i64 y.t),(Value.int .i64 y.q)]) (sh_get hy) 187 (.tmp 35) (by kernel_rfl) ([(Value.string y.c),(Value.int .i64 y.t),(Value.int .i64 y.q)]) (by kernel_rfl) (by kernel_rfl) (by kernel_rfl)) ?_
  refine mN h12 187 ([(Value.string ByteArray.empty),(Value.int .i64 0),(Value.int .i64 0)]) fun g18 w18 h18=>?_
  refine mT (xR h18 0 ([(Value.string y.c),(Value.int .i64 y.t),(Value.int .i64 y.q)])) fun _ w19 h19=>?_
  have hne:decide (y=x)=false:=decide_eq_false fun e=>hx0 (e ▸ List.mem_of_getElem? hy)
  refine ma h19 0 ?_
  refine ma h19 2 ?_
  refine mW 39 (v:=(Value.bool false)) (e_eqS [Fq.str y.c x.c,Fq.num .i64 y.t x.t,Fq.num .i64 y.q x.q] false ((sh_eqb x y).trans hne)) ?_
  rcases (show now-y.t<=30∨¬ now-y.t<=30 by omega) with h30|h30
  ·
   refine ma h19 0 ?_
   refine mW 43 (exec_sub _ _ _ _ bO now y.t (by kernel_rfl) (by kernel_rfl) (now-y.t) rfl (by omega) (by omega) _) ?_
   refine mX 44 (.bool true) (Value.bool (decide (now-y.t<=30))) (by simp;omega) ?_
   refine ma h19 0 ?_
   refine mT (x_bs h19 187 ([(Value.string y.c),(Value.int .i64 y.t),(Value.int .i64 y.q)]) 1 (by kernel_rfl)) ?_
   rintro _ w24 ⟨g24,rfl,h24⟩
   refine mT (x_pushW h24 2 0 rfl rfl (.tmp 45) (.tmp 47) 169 (by kernel_rfl) 32 (Value.agg ([(Value.string ByteArray.empty),(Value.int .i64 0),(Value.int .i64 0)]).toArray) (by kernel_rfl) (by kernel_rfl) (by kernel_rfl) (by kernel_rfl) (by kernel_rfl) (by kernel_rfl) (by kernel_rfl) (by kernel_rfl) (by rw [List.length_map];omega) (by rw [List.length_map];unfold maxLen;omega) ((ys++[y]).map Sh.cs) ((ys++[y]).length) (by rw [List.map_append];rfl) (List.length_map _)) ?_
   rintro _ w25 ⟨A25,c25,rfl,h25⟩
   refine mW 49 (exec_add _ _ _ _ bO ((k:Int)) 1 (by kernel_rfl) (by kernel_rfl) ((k:Int)+1) rfl (by omega) (by omega) _) ?_
   exact mK KL12 (hKL12 _ _ ⟨l.length-(k+1),_,(by omega),(k+1),A25,c25,((ys++[y])),(by omega),(not_in_step hy hne hx),(by rw [kept_yes hy h30,hys]),rfl,pM,h25.sel [2,3,4,5] [] (by kernel_rfl) rfl rfl⟩)
  refine ma h19 0 ?_
  refine mW 43 (exec_sub _ _ _ _ bO now y.t (by kernel_rfl) (by kernel_rfl) (now-y.t) rfl (by omega) (by omega) _) ?_
  refine mX 44 (.bool false) (Value.bool (decide (now-y.t<=30))) (by simp;omega) ?_
  refine mW 49 (exec_add _ _ _ _ bO ((k:Int)) 1 (by kernel_rfl) (by kernel_rfl) ((k:Int)+1) rfl (by omega) (by omega) _) ?_
  exact mK KL12 (hKL12 _ _ ⟨l.length-(k+1),_,(by omega),(k+1),A1,c1,ys,(by omega),(not_in_step hy hne hx),(by rw [kept_no hy h30,hys]),rfl,pM,h19.sel [1,2,3,4] [] (by kernel_rfl) rfl rfl⟩)
 refine mX 34 (.bool false) (Value.bool (decide ((k:Int)<(l.length:Int)))) (by simp;omega) ?_
 rw [List.take_of_length_le (by omega)] at hys
 have hyl:ys.length<=l.length:=by rw [← hys];exact kept_len now l
 refine mT (xS h12 2 ([(Value.slice A1 ys.length c1),(Value.int .i64 ((most:Int)))])) fun _ w28 h28=>?_
 refine dG h28 10 10 (fun W=>(rBlk cb 171 ([(Value.slice A1 ys.length c1),(Value.int .i64 ((most:Int)))])).Φ W/\True) (fun w31 h31=>⟨h31.at_ 2 rfl,trivial⟩) ?_
 intro w31 h31
 refine dP 4 [0,1,2,5,6,7] ?_
 refine dL 3 (fun W hW=>hW.1) ?_
 refine dP 2 [4] ?_
 refine dL 8 (fun W hW=>hW.1) ?_
 refine dP 0 [9] ?_
 refine dX ?_
 refine m_if 63 ((ys.length:Int) ≥ (most:Int)) (by kernel_rfl) (fun b32=>?_) (fun b32=>?_)
 ·
  refine mP (Value.int .i64 8) ?_
  exact absurd b32 (by omega)
 refine dG h31 11 8 (fun W=>(rBlk cb 171 ([(Value.slice A1 ys.length c1),(Value.int .i64 ((most:Int)))])).Φ W/\(rBlk g6 187 ([(Value.string x.c),(Value.int .i64 x.t),(Value.int .i64 x.q)])).Φ W/\True) (fun w35 h35=>⟨h35.at_ 2 rfl,h35.at_ 1 rfl,trivial⟩) ?_
 intro w35 h35
 refine dP 7 [0,1,2,3] ?_
 refine dL 4 (fun W hW=>hW.1) ?_
 refine dL 5 (fun W hW=>hW.2.1) ?_
 refine dT 6 (x_bs h35 187 ([(Value.string x.c),(Value.int .i64 x.t),(Value.int .i64 x.q)]) 1 (by kernel_rfl)) ?_
 rintro _ w36 ⟨g36,rfl,h36⟩
 refine ⟨⟨h36.at_ 3 rfl,h36.at_ 2 rfl,trivial⟩,?_⟩
 refine dT 7 (x_pushW h36 1 0 rfl rfl (.tmp 68) (.tmp 70) 169 (by kernel_rfl) 32 (Value.agg ([(Value.string ByteArray.empty),(Value.int .i64 0),(Value.int .i64 0)]).toArray) (by kernel_rfl) (by kernel_rfl) (by kernel_rfl) (by kernel_rfl) (by kernel_rfl) (by kernel_rfl) (by kernel_rfl) (by kernel_rfl) (by rw [List.length_map];omega) (by rw [List.length_map];unfold maxLen;omega) ((ys++[x]).map Sh.cs) ((ys++[x]).length) (by rw [List.map_append];rfl) (List.length_map _)) ?_
 rintro _ w37 ⟨A37,c37,rfl,h37⟩
 refine ⟨⟨h37.at_ 3 rfl,h37.at_ 2 rfl,trivial⟩,?_⟩
 refine dN 8 ?_
 refine dN 9 ?_
 refine dE 10 (xS h37 3 ([(Value.slice A37 ((ys++[x]).length) c37),(Value.int .i64 ((most:Int)))])) ?_
 rintro _ w38 h38
 refine dX ?_
 refine mP (Value.int .i64 0) ?_
 rw [hys]
 exact ⟨rfl,_,(show Hp _ _ _ _ (lCa cb A37 c37 most (ys++[x])++[]) from h38.sel [3,1] [] rfl rfl rfl).closeC⟩
end
section
open Go.RowKit Go.QT
/-- Two things, as one that is only read. -/
def rBoth(r s:Res):Res where
 F:=fun q=>r.F q∨s.F q
 Φ:=fun w=>r.Φ w/\s.Φ w
 lt:=fun h q hq=>hq.elim (r.lt h.1 q) (s.lt h.2 q)
 keep:=fun h hs hk=>⟨r.keep h.1 hs fun q hq=>hk q (.inl hq),s.keep h.2 hs fun q hq=>hk q (.inr hq)⟩
section
variable{F0:Nat->Prop}{w0 w w':World}{ro rs:List Res}
def pickR(ro rs:List Res)(k:Bool × Nat):Option Res:=bif k.1 then rs[k.2]? else ro[k.2]?
theorem Hp.carve1(h:Hp F0 w0 w ro rs)(i:Nat){r:Res}(hi:rs[i]?=some r)(ks:List (Bool × Nat)){ro':List Res}(hk:ks.map (pickR ro rs)=ro'.map some)(hn:ks.all (fun k=>!(k.1 && Nat.beq k.2 i))=true):Hp r.F w w ro' [r]:=by
 have key:∀ (j:Nat) (t:Res),ro'[j]?=some t->t.Φ w/\t.dj r:=by
   intro j t ht
   have h1:(ks.map (pickR ro rs))[j]?=some (some t):=by rw [hk,List.getElem?_map,ht];rfl
   rw [List.getElem?_map] at h1
   cases hj:ks[j]? with
   | none=>rw [hj] at h1;cases h1
   | some k =>
     rw [hj] at h1
     have h1:pickR ro rs k=some t:=Option.some.inj h1
     have h2:=List.all_eq_true.1 hn k (List.mem_of_getElem? hj)
     obtain ⟨b,k⟩:=k
     cases b with
     | true =>
       have h1:rs[k]?=some t:=h1
       have h3:k≠i:=fun e=>by subst e;simp at h2
       exact ⟨h.own k t h1,h.dis k i t r h1 hi h3⟩
     | false =>
       have h1:ro[k]?=some t:=h1
       exact ⟨h.red k t h1,h.rdis k i t r h1 hi⟩
 refine ⟨Fr.refl _ _,?_,?_,?_,fun j t ht=>(key j t ht).1,?_⟩
 · intro j t ht
   cases j with
   | zero=>injection ht with ht;subst ht;exact h.own i _ hi
   | succ j=>simp at ht
 · intro j t ht q hq
   cases j with
   | zero=>injection ht with ht;subst ht;exact .inl hq
   | succ j=>simp at ht
 · intro j k t u ht hu hne
   cases j <;> cases k <;> simp at ht hu hne
 intro j k t u ht hu
 cases k with
 | zero=>injection hu with hu;subst hu;exact (key j t ht).2
 | succ k=>simp at hu
theorem Hp.carve2(h:Hp F0 w0 w ro rs)(i j:Nat){r s:Res}(hi:rs[i]?=some r)(hj:rs[j]?=some s)(ks:List (Bool × Nat)){ro':List Res}(hk:ks.map (pickR ro rs)=ro'.map some)(hn:(!Nat.beq i j && ks.all (fun k=>!(k.1 && (Nat.beq k.2 i || Nat.beq k.2 j))))=true):Hp (fun q=>r.F q∨s.F q) w w ro' [r,s]:=by
 rw [Bool.and_eq_true] at hn
 have hij:i≠j:=fun e=>by subst e;simp at hn
 have h1:=h.carve1 i hi ks hk (List.all_eq_true.2 fun k hm=>by have:=List.all_eq_true.1 hn.2 k hm;obtain ⟨b,k⟩:=k;cases b <;> simp at this ⊢;exact this.1)
 have h2:=h.carve1 j hj ks hk (List.all_eq_true.2 fun k hm=>by have:=List.all_eq_true.1 hn.2 k hm;obtain ⟨b,k⟩:=k;cases b <;> simp at this ⊢;exact this.2)
 refine ⟨Fr.refl _ _,?_,?_,?_,h1.red,?_⟩
 · intro k t ht
   match k,ht with
   | 0,ht=>injection ht with ht;subst ht;exact h.own i _ hi
   | 1,ht=>injection ht with ht;subst ht;exact h.own j _ hj
 · intro k t ht q hq
   match k,ht with
   | 0,ht=>injection ht with ht;subst ht;exact .inl (.inl hq)
   | 1,ht=>injection ht with ht;subst ht;exact .inl (.inr hq)
 · intro k m t u ht hu hne
   match k,m,ht,hu with
   | 0,0,_,_=>exact absurd rfl hne
   | 1,1,_,_=>exact absurd rfl hne
   | 0,1,ht,hu=>injection ht with ht;injection hu with hu;subst ht;subst hu;exact h.dis i j _ _ hi hj hij
   | 1,0,ht,hu=>injection ht with ht;injection hu with hu;subst ht;subst hu;exact h.dis j i _ _ hj hi (Ne.symm hij)
 intro k m t u ht hu
 match m,hu with
 | 0,hu=>injection hu with hu;subst hu;exact h1.rdis k 0 t _ ht rfl
 | 1,hu=>injection hu with hu;subst hu;exact h2.rdis k 0 t _ ht rfl
/-- What is only read. -/
theorem Hp.carve0(h:Hp F0 w0 w ro rs)(ks:List (Bool × Nat)){ro':List Res}(hk:ks.map (pickR ro rs)=ro'.map some):Hp (fun _=>False) w w ro' []:=by
 refine ⟨Fr.refl _ _,by simp,by simp,by simp,?_,by simp⟩
 intro j t ht
 have h1:(ks.map (pickR ro rs))[j]?=some (some t):=by rw [hk,List.getElem?_map,ht];rfl
 rw [List.getElem?_map] at h1
 cases hj:ks[j]? with
 | none=>rw [hj] at h1;cases h1
 | some k =>
   rw [hj] at h1
   have h1:pickR ro rs k=some t:=Option.some.inj h1
   obtain ⟨b,k⟩:=k
   cases b with
   | true=>exact h.own k t h1
   | false=>exact h.red k t h1
/-- A call that is handed two, and leaves more. -/
theorem Hp.call2{rs':List Res}(h:Hp F0 w0 w ro rs)(i j:Nat){r s:Res}(hi:rs[i]?=some r)(hj:rs[j]?=some s)(hij:i≠j)(hc:Hp (fun q=>r.F q∨s.F q) w w' [] rs'):Hp F0 w0 w' ro (rs'++(rs.eraseIdx (max i j)).eraseIdx (min i j)):=by
 have go:∀ (i j:Nat) (r s:Res),rs[i]?=some r->rs[j]?=some s->i<j->Hp (fun q=>r.F q∨s.F q) w w' [] rs'->Hp F0 w0 w' ro (rs'++(rs.eraseIdx j).eraseIdx i):=by
   intro i j r s hi hj hij hc
   have h1:=h.join i j hi hj hij (rBoth r s) ⟨h.own i r hi,h.own j s hj⟩ (fun q hq=>hq)
   exact h1.call1 0 rfl hc
 rcases Nat.lt_or_ge i j with hlt|hge
 · rw [Nat.max_eq_right (by omega),Nat.min_eq_left (by omega)]
   exact go i j r s hi hj hlt hc
 rw [Nat.max_eq_left (by omega),Nat.min_eq_right (by omega)]
 exact go j i s r hj hi (by omega) (hc.weaken fun q hq=>hq.symm)
end
end
section
open Go.RowKit Go.QT
section
variable{o:Oper}{a:Act}{F0:Nat->Prop}{w0 w:World}{ro rs:List Res}
theorem x_equalT(h:Hp F0 w0 w ro rs){l m:Bytes}{u v:Value}(b:Bool)(hp:pureVal Tryz.prog (execOp a.eval o)=some (.enter 49 #[u,v]))(hu:SB w u l)(hv:SB w v m)(hb:decide (l=m)=b):OpTo Tryz.prog o a w (fun x w'=>x=.bool b/\Hp F0 w0 w' ro rs):=by
 subst hb
 exact OpTo.enter 49 [u,v] hp (equal_any u v l m w hu hv) fun e w' hq=>⟨_,hq.1,rfl,hq.2 ▸ h⟩
/-- Show, at a caller. -/
theorem x_show(h:Hp F0 w0 w ro rs)(i:Nat){G:Nat->Prop}{cb most:Nat}{l:List Sh}(hi:rs[i]?=some (rCa G cb most l))(rr:Nat × List Sh)(al:List Value)(hp:pureVal Tryz.prog (execOp a.eval o)=some (.enter 50 al.toArray))(hc:Calls Tryz.prog 50 al.toArray w (ShPost G cb most w rr)) :
   OpTo Tryz.prog o a w (fun u w'=>∃ G',u=.int .i64 (rr.1:Int)/\Hp F0 w0 w' ro (rCa G' cb most rr.2::rs.eraseIdx i)):=
 OpTo.enter 50 al hp hc fun e w' hq=>by
   obtain ⟨he,G',h2⟩:=hq
   exact ⟨_,he,G',rfl,h.call1 i hi h2⟩
end
/-- What who leaves. -/
def WhPost(F G:Nat->Prop)(tb cb most:Nat)(v:Value)(s2:STab)(rr:Nat × List Sh)(w:World)(e:Ending)(w':World):Prop:=
 ∃ F' G',e=.returned (.tuple #[v,.int .i64 (rr.1:Int)])/\Hp (fun q=>F q∨G q) w w' [] [rTab F' tb s2,rCa G' cb most rr.2]
theorem x_who{o:Oper}{a:Act}{F0 F G:Nat->Prop}{w0 w:World}{ro rs:List Res}{tb cb most:Nat}{s s2:STab}{l:List Sh}{v:Value}{rr:Nat × List Sh}(h:Hp F0 w0 w ro rs)(i j:Nat)(hi:rs[i]?=some (rTab F tb s))(hj:rs[j]?=some (rCa G cb most l))(al:List Value)(hij:decide (i≠j)=true)(hp:pureVal Tryz.prog (execOp a.eval o)=some (.enter 29 al.toArray))(hc:Calls Tryz.prog 29 al.toArray w (WhPost F G tb cb most v s2 rr w)) :
   OpTo Tryz.prog o a w (fun u w'=>∃ F' G',u=.tuple #[v,.int .i64 (rr.1:Int)]/\Hp F0 w0 w' ro ((rs.set i (rTab F' tb s2)).set j (rCa G' cb most rr.2))):=
 OpTo.enter 29 al hp hc fun e w' hq=>by
   obtain ⟨F',G',he,h2⟩:=hq
   exact ⟨_,he,F',G',rfl,h.upd2 i j hi hj (of_decide_eq_true hij) h2⟩
/-- What a server's memory is. -/
def svC(kb cb bk:Nat):List Value:=[pt kb 0,pt cb 0,pt bk 0]
theorem who_any{F G:Nat->Prop}{sv kb cb bk tb bb most:Nat}{Kk Ky K2:Fin 16->UInt8}{s:STab}{sl:List Sh}{now:Int}{C D:Option Addr}{c d:Nat}{l au b β:Bytes}{Rq:Res}{qv:Value}{rr:Nat × List Sh}{f a u r t q:Int}{c1:ByteArray}{w:World}
   (h0:Hp (fun q=>F q∨G q) w w [rBlk sv 73 (svC kb cb bk),rBlk kb 78 (kdcC tb bb Kk),rSB (Value.slice C l.length c) l,rSB (Value.slice D au.length d) au,Rq] [rTab F tb s,rCa G cb most sl]) (hs:TabOk s) (_hm:s.sums.length<1000000)
   (ho:openTh s (kl Kk) 2 l=.inr (.inside f Ky c1 a u r)) (hu:now<u) (hau:openTh s (kl Ky) 7 au=.inr (.authent c1 t q K2 b)) (hb:b=mkB 100 (s.sumAt β+1))
   (hSum:∀ w',(rTab F tb s).Φ w'->Rq.Φ w'->Rq.dj (rTab F tb s)->Calls Tryz.prog 23 #[(Value.iface 28 (pt tb 0)),qv] w' (SumPost F tb s β w'))
   (hSh:∀ w',(rCa G cb most sl).Φ w'->Calls Tryz.prog 50 #[pt cb 0,.int .i64 now,.string c1,.int .i64 t,.int .i64 q] w' (ShPost G cb most w' rr)) :
   Calls Tryz.prog 29 #[pt sv 0,.int .i64 now,(Value.agg ([(Value.string (⟨#[107,100,99]⟩)),(Value.slice C l.length c)]).toArray),(Value.slice D au.length d),qv] w (WhPost F G tb cb most ((Value.agg ([(Value.int .i64 f)]++vb (kl Ky)++[(Value.string c1),(Value.int .i64 a),(Value.int .i64 u),(Value.int .i64 r)]).toArray)) (s.digest β) rr w):=by
 have h0:=h0
 refine mE 79 ?_
 refine mN h0 35 ([(Value.string (⟨#[107,100,99]⟩)),(Value.slice C l.length c)]) fun g2 w2 h2=>?_
 refine mN h2 54 ([(Value.int .i64 0)]++vb (List.replicate 16 0)++[(Value.string ByteArray.empty),(Value.int .i64 0),(Value.int .i64 0),(Value.int .i64 0)]) fun g3 w3 h3=>?_
 refine ma h3 1 ?_
 refine mD h3 [(pt sv 0),(Value.int .i64 now),(Value.agg ([(Value.string (⟨#[107,100,99]⟩)),(Value.slice C l.length c)]).toArray)] (opened_ok (h3.rd 0 rfl) (h3.rd 1 rfl) (h3.at_ 2 rfl) hs (h3.rd 2 rfl) (by rw [ho];rfl) hu) (fun w5 h5=>?_)
 refine mN h5 54 ([(Value.int .i64 0)]++vb (List.replicate 16 0)++[(Value.string ByteArray.empty),(Value.int .i64 0),(Value.int .i64 0),(Value.int .i64 0)]) fun g6 w6 h6=>?_
 refine mT (xR h6 0 ([(Value.int .i64 f)]++vb (kl Ky)++[(Value.string c1),(Value.int .i64 a),(Value.int .i64 u),(Value.int .i64 r)])) fun _ w7 h7=>?_
 refine dG h7 17 16 (fun W=>(rBlk sv 73 ([(pt kb 0),(pt cb 0),(pt bk 0)])).Φ W/\(rBlk kb 78 ([(Value.iface 28 (pt tb 0)),(pt bb 0)]++vb (kl Kk))).Φ W/\(rBlk g6 54 ([(Value.int .i64 f)]++vb (kl Ky)++[(Value.string c1),(Value.int .i64 a),(Value.int .i64 u),(Value.int .i64 r)])).Φ W/\True) (fun w11 h11=>⟨h11.rd 0 rfl,h11.rd 1 rfl,h11.at_ 0 rfl,trivial⟩) ?_
 intro w11 h11
 refine dP 12 [0,1,2,7,9] ?_
 refine dL 3 (fun W hW=>hW.1) ?_
 refine dP 9 [4,5] ?_
 refine dL 6 (fun W hW=>hW.2.1) ?_
 refine dL 8 (fun W hW=>hW.2.2.1) ?_
 refine dO 10 14 ?_ ?_
 ·
  refine oT (x_au h11 [(Value.iface 28 (pt tb 0)),(Value.agg (vb (kl Ky)).toArray),(Value.int .i64 7),(Value.slice D au.length d)] (by kernel_rfl) (auth_any (h11.at_ 3 rfl) hs (h11.rd 3 rfl) hau)) ?_
  rintro _ w12 ⟨A12,c12,rfl,h12⟩
  refine ⟨⟨h12.rd 0 rfl,h12.rd 1 rfl,h12.at_ 1 rfl,trivial⟩,?_⟩
  refine dP 3 [11,12,13] ?_
  refine dT 14 (xN h12 100 ([(Value.string ByteArray.empty),(Value.int .i64 0),(Value.int .i64 0)]++vb (List.replicate 16 0)++[(Value.slice none 0 0)])) ?_
  rintro _ w13 ⟨g13,rfl,h13⟩
  refine ⟨⟨h13.rd 0 rfl,h13.rd 1 rfl,h13.at_ 2 rfl,trivial⟩,?_⟩
  refine dT 15 (xR h13 0 ([(Value.string c1),(Value.int .i64 t),(Value.int .i64 q)]++vb (kl K2)++[(Value.slice A12 b.length c12)])) ?_
  rintro _ w14 h14
  refine ⟨⟨h14.rd 0 rfl,h14.rd 1 rfl,h14.at_ 2 rfl,trivial⟩,?_⟩
  refine dN 16 ?_
  refine dX ?_
  refine dG h14 21 21 (fun W=>(rBlk g13 100 ([(Value.string c1),(Value.int .i64 t),(Value.int .i64 q)]++vb (kl K2)++[(Value.slice A12 b.length c12)])).Φ W/\(rBlk g6 54 ([(Value.int .i64 f)]++vb (kl Ky)++[(Value.string c1),(Value.int .i64 a),(Value.int .i64 u),(Value.int .i64 r)])).Φ W/\(rBlk sv 73 ([(pt kb 0),(pt cb 0),(pt bk 0)])).Φ W/\(rBlk kb 78 ([(Value.iface 28 (pt tb 0)),(pt bb 0)]++vb (kl Kk))).Φ W/\True) (fun w18 h18=>⟨h18.at_ 0 rfl,h18.at_ 2 rfl,h18.rd 0 rfl,h18.rd 1 rfl,trivial⟩) ?_
  intro w18 h18
  refine dP 19 [0,2] ?_
  refine dL 1 (fun W hW=>hW.1) ?_
  refine dL 3 (fun W hW=>hW.2.1) ?_
  refine dV 4 (v:=(Value.bool false)) (fun W hW=>eqI (Value.bool (!((c1).toList == (c1).toList))) (by simp)) ?_
  refine dP 10 [5,6,8,9,10,15] ?_
  refine dL 7 (fun W hW=>hW.1) ?_
  refine dL 11 (fun W hW=>hW.2.2.1) ?_
  refine dP 6 [12,13] ?_
  refine dL 14 (fun W hW=>hW.2.2.2.1) ?_
  refine dT 16 (x_sum h18 5 rfl β [(Value.iface 28 (pt tb 0)),qv] _ (by kernel_rfl) (fun hT=>hSum _ hT (h18.rd 4 rfl) (h18.rdis 4 5 _ _ rfl rfl))) ?_
  rintro _ w19 ⟨A19,c19,F19,s19,rfl,hs19,h19⟩
  refine ⟨⟨h19.at_ 2 rfl,h19.at_ 4 rfl,h19.rd 0 rfl,h19.rd 1 rfl,trivial⟩,?_⟩
  refine dT 17 (x_equalT h19 true (by kernel_rfl) (h19.at_ 3 rfl) (h19.at_ 1 rfl) (decide_eq_true hb)) ?_
  rintro _ w20 ⟨rfl,h20⟩
  refine ⟨⟨h20.at_ 2 rfl,h20.at_ 4 rfl,h20.rd 0 rfl,h20.rd 1 rfl,trivial⟩,?_⟩
  refine dP 0 [18,19,20] ?_
  refine dX ?_
  refine dG h20 15 14 (fun W=>(rBlk g6 54 ([(Value.int .i64 f)]++vb (kl Ky)++[(Value.string c1),(Value.int .i64 a),(Value.int .i64 u),(Value.int .i64 r)])).Φ W/\(rBlk sv 73 ([(pt kb 0),(pt cb 0),(pt bk 0)])).Φ W/\(rBlk g13 100 ([(Value.string c1),(Value.int .i64 t),(Value.int .i64 q)]++vb (kl K2)++[(Value.slice A12 b.length c12)])).Φ W/\True) (fun w22 h22=>⟨h22.at_ 4 rfl,h22.rd 0 rfl,h22.at_ 2 rfl,trivial⟩) ?_
  intro w22 h22
  refine dP 8 [1,2,3,5,6,8,10] ?_
  refine dL 0 (fun W hW=>hW.1) ?_
  refine dL 4 (fun W hW=>hW.2.1) ?_
  refine dLs 3 [7,9,11] (fun W hW=>hW.2.2.1) ?_
  refine dT 12 (x_show h22 7 rfl rr [(pt cb 0),(Value.int .i64 now),(Value.string c1),(Value.int .i64 t),(Value.int .i64 q)] (by kernel_rfl) (hSh _ (h22.at_ 7 rfl))) ?_
  rintro _ w23 ⟨G23,rfl,h23⟩
  refine ⟨⟨h23.at_ 5 rfl,h23.rd 0 rfl,h23.at_ 3 rfl,trivial⟩,?_⟩
  refine dT 13 (xR h23 6 ([(Value.int .i64 f)]++vb (kl Ky)++[(Value.string c1),(Value.int .i64 a),(Value.int .i64 u),(Value.int .i64 r)])) ?_
  rintro _ w24 h24
  refine ⟨⟨h24.at_ 5 rfl,h24.rd 0 rfl,h24.at_ 3 rfl,trivial⟩,?_⟩
  refine dN 14 ?_
  refine dX ?_
  refine mF (post_2 (r:=.cell 10 54) (s:=.tmp 11) (by kernel_rfl) rfl (rce (h24.at_ 6 rfl)) (rtm (Value.int .i64 ((rr.1:Int)))) ?_)
  rw [hs19] at h24
  exact ⟨_,_,rfl,h24.sel [1,0] [] rfl rfl rfl⟩
 refine oT (xN h11 100 ([(Value.string ByteArray.empty),(Value.int .i64 0),(Value.int .i64 0)]++vb (List.replicate 16 0)++[(Value.slice none 0 0)])) ?_
 rintro _ w25 ⟨g25,rfl,h25⟩
 refine ⟨⟨h25.rd 0 rfl,h25.rd 1 rfl,h25.at_ 1 rfl,trivial⟩,?_⟩
 refine dT 10 (x_au h25 [(Value.iface 28 (pt tb 0)),(Value.agg (vb (kl Ky)).toArray),(Value.int .i64 7),(Value.slice D au.length d)] (by kernel_rfl) (auth_any (h25.at_ 4 rfl) hs (h25.rd 3 rfl) hau)) ?_
 rintro _ w26 ⟨A26,c26,rfl,h26⟩
 refine ⟨⟨h26.rd 0 rfl,h26.rd 1 rfl,h26.at_ 2 rfl,trivial⟩,?_⟩
 refine dP 2 [11,12,13] ?_
 refine dT 15 (xR h26 1 ([(Value.string c1),(Value.int .i64 t),(Value.int .i64 q)]++vb (kl K2)++[(Value.slice A26 b.length c26)])) ?_
 rintro _ w27 h27
 refine ⟨⟨h27.rd 0 rfl,h27.rd 1 rfl,h27.at_ 2 rfl,trivial⟩,?_⟩
 refine dN 16 ?_
 refine dX ?_
 refine dG h27 21 21 (fun W=>(rBlk g25 100 ([(Value.string c1),(Value.int .i64 t),(Value.int .i64 q)]++vb (kl K2)++[(Value.slice A26 b.length c26)])).Φ W/\(rBlk g6 54 ([(Value.int .i64 f)]++vb (kl Ky)++[(Value.string c1),(Value.int .i64 a),(Value.int .i64 u),(Value.int .i64 r)])).Φ W/\(rBlk sv 73 ([(pt kb 0),(pt cb 0),(pt bk 0)])).Φ W/\(rBlk kb 78 ([(Value.iface 28 (pt tb 0)),(pt bb 0)]++vb (kl Kk))).Φ W/\True) (fun w31 h31=>⟨h31.at_ 1 rfl,h31.at_ 2 rfl,h31.rd 0 rfl,h31.rd 1 rfl,trivial⟩) ?_
 intro w31 h31
 refine dP 19 [0,2] ?_
 refine dL 1 (fun W hW=>hW.1) ?_
 refine dL 3 (fun W hW=>hW.2.1) ?_
 refine dV 4 (v:=(Value.bool false)) (fun W hW=>eqI (Value.bool (!((c1).toList == (c1).toList))) (by simp)) ?_
 refine dP 10 [5,6,8,9,10,15] ?_
 refine dL 7 (fun W hW=>hW.1) ?_
 refine dL 11 (fun W hW=>hW.2.2.1) ?_
 refine dP 6 [12,13] ?_
 refine dL 14 (fun W hW=>hW.2.2.2.1) ?_
 refine dT 16 (x_sum h31 5 rfl β [(Value.iface 28 (pt tb 0)),qv] _ (by kernel_rfl) (fun hT=>hSum _ hT (h31.rd 4 rfl) (h31.rdis 4 5 _ _ rfl rfl))) ?_
 rintro _ w32 ⟨A32,c32,F32,s32,rfl,hs32,h32⟩
 refine ⟨⟨h32.at_ 3 rfl,h32.at_ 4 rfl,h32.rd 0 rfl,h32.rd 1 rfl,trivial⟩,?_⟩
 refine dT 17 (x_equalT h32 true (by kernel_rfl) (h32.at_ 2 rfl) (h32.at_ 1 rfl) (decide_eq_true hb)) ?_
 rintro _ w33 ⟨rfl,h33⟩
 refine ⟨⟨h33.at_ 3 rfl,h33.at_ 4 rfl,h33.rd 0 rfl,h33.rd 1 rfl,trivial⟩,?_⟩
 refine dP 0 [18,19,20] ?_
 refine dX ?_
 refine dG h33 15 14 (fun W=>(rBlk g6 54 ([(Value.int .i64 f)]++vb (kl Ky)++[(Value.string c1),(Value.int .i64 a),(Value.int .i64 u),(Value.int .i64 r)])).Φ W/\(rBlk sv 73 ([(pt kb 0),(pt cb 0),(pt bk 0)])).Φ W/\(rBlk g25 100 ([(Value.string c1),(Value.int .i64 t),(Value.int .i64 q)]++vb (kl K2)++[(Value.slice A26 b.length c26)])).Φ W/\True) (fun w35 h35=>⟨h35.at_ 4 rfl,h35.rd 0 rfl,h35.at_ 3 rfl,trivial⟩) ?_
 intro w35 h35
 refine dP 8 [1,2,3,5,6,8,10] ?_
 refine dL 0 (fun W hW=>hW.1) ?_
 refine dL 4 (fun W hW=>hW.2.1) ?_
 refine dLs 3 [7,9,11] (fun W hW=>hW.2.2.1) ?_
 refine dT 12 (x_show h35 7 rfl rr [(pt cb 0),(Value.int .i64 now),(Value.string c1),(Value.int .i64 t),(Value.int .i64 q)] (by kernel_rfl) (hSh _ (h35.at_ 7 rfl))) ?_
 rintro _ w36 ⟨G36,rfl,h36⟩
 refine ⟨⟨h36.at_ 5 rfl,h36.rd 0 rfl,h36.at_ 4 rfl,trivial⟩,?_⟩
 refine dT 13 (xR h36 6 ([(Value.int .i64 f)]++vb (kl Ky)++[(Value.string c1),(Value.int .i64 a),(Value.int .i64 u),(Value.int .i64 r)])) ?_
 rintro _ w37 h37
 refine ⟨⟨h37.at_ 5 rfl,h37.rd 0 rfl,h37.at_ 4 rfl,trivial⟩,?_⟩
 refine dN 14 ?_
 refine dX ?_
 refine mF (post_2 (r:=.cell 10 54) (s:=.tmp 11) (by kernel_rfl) rfl (rce (h37.at_ 6 rfl)) (rtm (Value.int .i64 ((rr.1:Int)))) ?_)
 rw [hs32] at h37
 exact ⟨_,_,rfl,h37.sel [1,0] [] rfl rfl rfl⟩
end
section
open Go.Value renaming int->iV,slice->lV,string->sV,bool->bV,agg->aV
open Go.RowKit Go.QT
theorem e_min3{o:Oper}{a:Act}(x y z:Operand)(ts:Array TypeId)(ho:o.op=.call { callee:=.builtin .min,args:=#[x,y,z],argTypes:=ts })(k k' k'':IntKind)(m n p:Int)(hx:a.eval x=.int k m)(hy:a.eval y=.int k' n)(hz:a.eval z=.int k'' p)(W:World) :
   (execOp a.eval o).run Tryz.prog W=.ok (.value (.int k (min (min m n) p))) W:=by
 unfold execOp
 simp only [ho,resolve,invoke,builtin,Sem.run_bind,Sem.run_pure,Result.andThen_ok,List.map_toArray,List.map_cons,List.map_nil,hx,hy,hz,run_min_int3]
 have e1:(if n<m then n else m)=min m n:=by split <;> omega
 have e2:(if p<min m n then p else min m n)=min (min m n) p:=by split <;> omega
 rw [e1,e2]
theorem met_ok{F Gb:Nat->Prop}{sv kb cb bk tb bb ln c dn d ce e:Nat}{Kk Ki K2:Fin 16->UInt8}{s:STab}{us:List User}{us_:User}{now till nn f a u r pf pa pu pr:Int}{qr qm:Bool}{qt srv c1:ByteArray}{C D E B:Option Addr}{pb:Bytes}{w:World}
   (h0:Hp (fun _=>False) w w [rBlk sv 73 (svC kb cb bk),rBlk kb 78 (kdcC tb bb Kk),rTab F tb s,rBs Gb bb us,rRV 2 E ce [[.string ⟨#[107,100,99]⟩,.slice B pb.length e]],rSB (.slice B pb.length e) pb] []) (hs:TabOk s) (h32:us.length<=1000000)
   (ho:openTh s (kl Kk) 2 pb=.inr (.inside pf K2 srv pa pu pr)) (hpu:now<pu) (hb2:placeB us srv=true) (hu2:us[placeI us srv]?=some us_) (hmesh:us_.mesh=true) (hne:srv.toList≠c1.toList) :
   Calls Tryz.prog 31 #[pt sv 0,.int .i64 now,(aV ([(iV .i64 f)]++vb (kl Ki)++[(sV c1),(iV .i64 a),(iV .i64 u),(iV .i64 r)]).toArray),(aV ([(sV srv),(iV .i64 nn),(iV .i64 till),(bV qr),(bV qm),(sV qt),(lV C ln c),(lV D dn d),(lV E 1 ce)]).toArray)] w (DPost w (.tuple #[(aV ([(iV .i64 2)]++vb (List.replicate 16 0)++[(sV c1),(iV .i64 a),(iV .i64 (min (min till u) pu)),(iV .i64 0)]).toArray),(aV (vb (kl K2)).toArray),.int .i64 0])):=by
 have h0:=h0
 refine mE 91 ?_
 refine mN h0 54 ([(zD f)]++vb (kl Ki)++[(sV c1),(zD a),(zD u),(zD r)]) fun g2 w2 h2=>?_
 refine mN h2 40 ([(sV srv),(zD nn),(zD till),(bV qr),(bV qm),(sV qt),(lV C ln c),(lV D dn d),(lV E 1 ce)]) fun g3 w3 h3=>?_
 refine mN h3 54 ([zO]++vb (List.replicate 16 0)++[zE,zO,zO,zO]) fun g4 w4 h4=>?_
 refine mN h4 31 (vb (List.replicate 16 0)) fun g5 w5 h5=>?_
 refine ma h5 2 ?_
 refine ma h5 2 ?_
 refine mW 26 (eIx (RV.lenIs (n:=1) (h5.rd 4 rfl) rfl).2 0 1 (RV.lenIs (n:=1) (h5.rd 4 rfl) rfl).1 (by decide) 38 (.tmp 25) (.const zO) .i64 35) ?_
 refine mW 27 (e_elemsN (RV.lenIs (n:=1) (h5.rd 4 rfl) rfl).2 0 0 ([(sV (⟨#[107,100,99]⟩)),(lV B pb.length e)]) rfl 35 (.tmp 26) (by kernel_rfl) ([(sV (⟨#[107,100,99]⟩)),(lV B pb.length e)]) (by kernel_rfl) (by kernel_rfl) (by kernel_rfl)) ?_
 refine mD h5 [(pt sv 0),(zD now),(aV ([(sV (⟨#[107,100,99]⟩)),(lV B pb.length e)]).toArray)] (opened_ok (h5.rd 0 rfl) (h5.rd 1 rfl) (h5.rd 2 rfl) hs (h5.rd 5 rfl) (by rw [ho];rfl) hpu) (fun w9 h9=>?_)
 refine mN h9 54 ([zO]++vb (List.replicate 16 0)++[zE,zO,zO,zO]) fun g10 w10 h10=>?_
 refine mT (xR h10 0 ([(zD pf)]++vb (kl K2)++[(sV srv),(zD pa),(zD pu),(zD pr)])) fun _ w11 h11=>?_
 refine dG h11 16 15 (fun W=>(rBlk sv 73 ([(pt kb 0),(pt cb 0),(pt bk 0)])).Φ W/\(rBlk kb 78 ([(Value.iface 28 (pt tb 0)),(pt bb 0)]++vb (kl Kk))).Φ W/\(rBlk g3 40 ([(sV srv),(zD nn),(zD till),(bV qr),(bV qm),(sV qt),(lV C ln c),(lV D dn d),(lV E 1 ce)])).Φ W/\True) (fun w15 h15=>⟨h15.rd 0 rfl,h15.rd 1 rfl,h15.at_ 3 rfl,trivial⟩) ?_
 intro w15 h15
 refine dP 12 [0,1,2,7] ?_
 refine dL 3 (fun W hW=>hW.1) ?_
 refine dP 9 [4,5] ?_
 refine dL 6 (fun W hW=>hW.2.1) ?_
 refine dL 8 (fun W hW=>hW.2.2.1) ?_
 refine dO 9 13 ?_ ?_
 ·
  refine oD h15 [(pt bb 0),(sV srv)] (get_yes (h15.rd 3 rfl) h32 hb2 hu2) (fun w16 h16=>⟨⟨h16.rd 0 rfl,h16.rd 1 rfl,h16.at_ 3 rfl,trivial⟩,?_⟩)
  refine dP 3 [10,11,12] ?_
  refine dT 13 (xN h16 138 ([zE]++vb (List.replicate 16 0)++[zO,zO,zV])) ?_
  rintro _ w17 ⟨g17,rfl,h17⟩
  refine ⟨⟨h17.rd 0 rfl,h17.rd 1 rfl,h17.at_ 4 rfl,trivial⟩,?_⟩
  refine dT 14 (xR h17 0 ([(sV us_.name)]++vb (kl us_.key)++[(zD us_.life),(zD us_.renew),(bV us_.mesh)])) ?_
  rintro _ w18 h18
  refine ⟨⟨h18.rd 0 rfl,h18.rd 1 rfl,h18.at_ 4 rfl,trivial⟩,?_⟩
  refine dN 15 ?_
  refine dX ?_
  refine ma h18 1 ?_
  refine ma h18 4 ?_
  refine mX 60 zV (bV (!((srv).toList == (srv).toList))) (by simp) ?_
  refine ma h18 4 ?_
  refine ma h18 5 ?_
  refine mX 66 (.bool false) (bV ((srv).toList == (c1).toList)) (by simpa using hne) ?_
  refine ma h18 0 ?_
  refine mX 73 (.bool false) (bV (!us_.mesh)) (by rw [hmesh];rfl) ?_
  refine ma h18 5 ?_
  refine ma h18 5 ?_
  refine ma h18 4 ?_
  refine ma h18 5 ?_
  refine ma h18 1 ?_
  refine mW 86 (v:=(zD (min (min till u) pu))) (e_min3 (.tmp 81) (.tmp 83) (.tmp 85) #[2,2,2] (by kernel_rfl) .i64 .i64 .i64 till u pu (by kernel_rfl) (by kernel_rfl) (by kernel_rfl) _) ?_
  refine mN h18 54 ([zO]++vb (List.replicate 16 0)++[zE,zO,zO,zO]) fun g24 w24 h24=>?_
  refine mT (xR h24 0 ([(zD 2)]++vb (List.replicate 16 0)++[(sV c1),(zD a),(zD (min (min till u) pu)),zO])) fun _ w25 h25=>?_
  refine dG h25 6 4 (fun W=>(rBlk g24 54 ([(zD 2)]++vb (List.replicate 16 0)++[(sV c1),(zD a),(zD (min (min till u) pu)),zO])).Φ W/\(rBlk g10 54 ([(zD pf)]++vb (kl K2)++[(sV srv),(zD pa),(zD pu),(zD pr)])).Φ W/\True) (fun w27 h27=>⟨h27.at_ 0 rfl,h27.at_ 2 rfl,trivial⟩) ?_
  intro w27 h27
  refine dP 5 [1] ?_
  refine dL 0 (fun W hW=>hW.1) ?_
  refine dL 2 (fun W hW=>hW.2.1) ?_
  refine dT 3 (xR h27 4 ([(zD 2)]++vb (List.replicate 16 0)++[(sV c1),(zD a),(zD (min (min till u) pu)),zO])) ?_
  rintro _ w28 h28
  refine ⟨⟨h28.at_ 0 rfl,h28.at_ 2 rfl,trivial⟩,?_⟩
  refine dE 4 (xR h28 3 (vb (kl K2))) ?_
  rintro _ w29 h29
  refine dN 5 ?_
  refine dX ?_
  refine mF (post_3 (r:=.cell 8 54) (s:=.cell 9 31) (t:=.tmp 10) (by kernel_rfl) rfl (rce (h29.at_ 4 rfl)) (rce (h29.at_ 3 rfl)) (rtm zO) ?_)
  exact ⟨rfl,h29.below0⟩
 refine oT (xN h15 138 ([zE]++vb (List.replicate 16 0)++[zO,zO,zV])) ?_
 rintro _ w30 ⟨g30,rfl,h30⟩
 refine ⟨⟨h30.rd 0 rfl,h30.rd 1 rfl,h30.at_ 4 rfl,trivial⟩,?_⟩
 refine dD 9 h30 [(pt bb 0),(sV srv)] (get_yes (h30.rd 3 rfl) h32 hb2 hu2) (fun w31 h31=>⟨⟨h31.rd 0 rfl,h31.rd 1 rfl,h31.at_ 4 rfl,trivial⟩,?_⟩)
 refine dP 2 [10,11,12] ?_
 refine dT 14 (xR h31 0 ([(sV us_.name)]++vb (kl us_.key)++[(zD us_.life),(zD us_.renew),(bV us_.mesh)])) ?_
 rintro _ w32 h32
 refine ⟨⟨h32.rd 0 rfl,h32.rd 1 rfl,h32.at_ 4 rfl,trivial⟩,?_⟩
 refine dN 15 ?_
 refine dX ?_
 refine ma h32 1 ?_
 refine ma h32 4 ?_
 refine mX 60 zV (bV (!((srv).toList == (srv).toList))) (by simp) ?_
 refine ma h32 4 ?_
 refine ma h32 5 ?_
 refine mX 66 (.bool false) (bV ((srv).toList == (c1).toList)) (by simpa using hne) ?_
 refine ma h32 0 ?_
 refine mX 73 (.bool false) (bV (!us_.mesh)) (by rw [hmesh];rfl) ?_
 refine ma h32 5 ?_
 refine ma h32 5 ?_
 refine ma h32 4 ?_
 refine ma h32 5 ?_
 refine ma h32 1 ?_
 refine mW 86 (v:=(zD (min (min till u) pu))) (e_min3 (.tmp 81) (.tmp 83) (.tmp 85) #[2,2,2] (by kernel_rfl) .i64 .i64 .i64 till u pu (by kernel_rfl) (by kernel_rfl) (by kernel_rfl) _) ?_
 refine mN h32 54 ([zO]++vb (List.replicate 16 0)++[zE,zO,zO,zO]) fun g38 w38 h38=>?_
 refine mT (xR h38 0 ([(zD 2)]++vb (List.replicate 16 0)++[(sV c1),(zD a),(zD (min (min till u) pu)),zO])) fun _ w39 h39=>?_
 refine dG h39 6 4 (fun W=>(rBlk g38 54 ([(zD 2)]++vb (List.replicate 16 0)++[(sV c1),(zD a),(zD (min (min till u) pu)),zO])).Φ W/\(rBlk g10 54 ([(zD pf)]++vb (kl K2)++[(sV srv),(zD pa),(zD pu),(zD pr)])).Φ W/\True) (fun w41 h41=>⟨h41.at_ 0 rfl,h41.at_ 2 rfl,trivial⟩) ?_
 intro w41 h41
 refine dP 5 [1] ?_
 refine dL 0 (fun W hW=>hW.1) ?_
 refine dL 2 (fun W hW=>hW.2.1) ?_
 refine dT 3 (xR h41 4 ([(zD 2)]++vb (List.replicate 16 0)++[(sV c1),(zD a),(zD (min (min till u) pu)),zO])) ?_
 rintro _ w42 h42
 refine ⟨⟨h42.at_ 0 rfl,h42.at_ 2 rfl,trivial⟩,?_⟩
 refine dE 4 (xR h42 3 (vb (kl K2))) ?_
 rintro _ w43 h43
 refine dN 5 ?_
 refine dX ?_
 refine mF (post_3 (r:=.cell 8 54) (s:=.cell 9 31) (t:=.tmp 10) (by kernel_rfl) rfl (rce (h43.at_ 4 rfl)) (rce (h43.at_ 3 rfl)) (rtm zO) ?_)
 exact ⟨rfl,h43.below0⟩
theorem renew_ok{Gb:Nat->Prop}{sv kb cb bk tb bb ln c dn d en ce:Nat}{Kk Ki:Fin 16->UInt8}{us:List User}{us_:User}{now till nn f fo a u r:Int}{qr qm:Bool}{qt c1:ByteArray}{C D E:Option Addr}{w:World}
   (h0:Hp (fun _=>False) w w [rBlk sv 73 (svC kb cb bk),rBlk kb 78 (kdcC tb bb Kk),rBs Gb bb us] []) (h32:us.length<=1000000) (hb2:placeB us c1=true) (hu2:us[placeI us c1]?=some us_) (hf1:bits .and .i64 f 1=1) (hf4:bits .andNot .i64 f 4=fo) (hr:now<r) (hnow:0<=now/\now<=1099511627776) (hlife:0<=us_.life/\us_.life<=1000000) :
   Calls Tryz.prog 30 #[pt sv 0,.int .i64 now,(aV ([(iV .i64 f)]++vb (kl Ki)++[(sV c1),(iV .i64 a),(iV .i64 u),(iV .i64 r)]).toArray),(aV ([(sV (⟨#[107,100,99]⟩)),(iV .i64 nn),(iV .i64 till),(bV qr),(bV qm),(sV qt),(lV C ln c),(lV D dn d),(lV E en ce)]).toArray)] w (DPost w (.tuple #[(aV ([(iV .i64 fo)]++vb (kl Ki)++[(sV c1),(iV .i64 a),(iV .i64 (min (min till (now+us_.life)) r)),(iV .i64 r)]).toArray),.int .i64 0])):=by
 have h0:=h0
 refine mE 62 ?_
 refine mN h0 54 ([(zD f)]++vb (kl Ki)++[(sV c1),(zD a),(zD u),(zD r)]) fun g2 w2 h2=>?_
 refine mN h2 40 ([(sV (⟨#[107,100,99]⟩)),(zD nn),(zD till),(bV qr),(bV qm),(sV qt),(lV C ln c),(lV D dn d),(lV E en ce)]) fun g3 w3 h3=>?_
 refine mN h3 54 ([zO]++vb (List.replicate 16 0)++[zE,zO,zO,zO]) fun g4 w4 h4=>?_
 refine dG h4 16 15 (fun W=>(rBlk sv 73 ([(pt kb 0),(pt cb 0),(pt bk 0)])).Φ W/\(rBlk kb 78 ([(Value.iface 28 (pt tb 0)),(pt bb 0)]++vb (kl Kk))).Φ W/\(rBlk g2 54 ([(zD f)]++vb (kl Ki)++[(sV c1),(zD a),(zD u),(zD r)])).Φ W/\True) (fun w6 h6=>⟨h6.rd 0 rfl,h6.rd 1 rfl,h6.at_ 2 rfl,trivial⟩) ?_
 intro w6 h6
 refine dP 12 [0,1,2,7] ?_
 refine dL 3 (fun W hW=>hW.1) ?_
 refine dP 9 [4,5] ?_
 refine dL 6 (fun W hW=>hW.2.1) ?_
 refine dL 8 (fun W hW=>hW.2.2.1) ?_
 refine dO 9 13 ?_ ?_
 ·
  refine oD h6 [(pt bb 0),(sV c1)] (get_yes (h6.rd 2 rfl) h32 hb2 hu2) (fun w7 h7=>⟨⟨h7.rd 0 rfl,h7.rd 1 rfl,h7.at_ 2 rfl,trivial⟩,?_⟩)
  refine dP 3 [10,11,12] ?_
  refine dT 13 (xN h7 138 ([zE]++vb (List.replicate 16 0)++[zO,zO,zV])) ?_
  rintro _ w8 ⟨g8,rfl,h8⟩
  refine ⟨⟨h8.rd 0 rfl,h8.rd 1 rfl,h8.at_ 3 rfl,trivial⟩,?_⟩
  refine dT 14 (xR h8 0 ([(sV us_.name)]++vb (kl us_.key)++[(zD us_.life),(zD us_.renew),(bV us_.mesh)])) ?_
  rintro _ w9 h9
  refine ⟨⟨h9.rd 0 rfl,h9.rd 1 rfl,h9.at_ 3 rfl,trivial⟩,?_⟩
  refine dN 15 ?_
  refine dX ?_
  refine ma h9 2 ?_
  refine mX 33 zV (bV (!((⟨#[107,100,99]⟩:ByteArray).toList == (⟨#[107,100,99]⟩:ByteArray).toList))) (by simp) ?_
  refine ma h9 3 ?_
  refine mX 37 (zD 1) (zD (bits .and .i64 f 1)) (by rw [hf1]) ?_
  refine ma h9 3 ?_
  refine mX 45 (.bool false) (bV (decide (r<=now))) (by simp;omega) ?_
  refine ma h9 3 ?_
  refine mX 49 (zD fo) (zD (bits .andNot .i64 f 4)) (by rw [hf4]) ?_
  refine mT (xS h9 3 ([(zD fo)]++vb (kl Ki)++[(sV c1),(zD a),(zD u),(zD r)])) fun _ w15 h15=>?_
  refine ma h15 2 ?_
  refine ma h15 0 ?_
  refine mW 56 (exec_add _ _ _ _ bO now us_.life (by kernel_rfl) (by kernel_rfl) (now+us_.life) rfl (by omega) (by omega) _) ?_
  refine ma h15 3 ?_
  refine mW 59 (v:=(zD (min (min till (now+us_.life)) r))) (e_min3 (.tmp 52) (.tmp 56) (.tmp 58) #[2,2,2] (by kernel_rfl) .i64 .i64 .i64 till (now+us_.life) r (by kernel_rfl) (by kernel_rfl) (by kernel_rfl) _) ?_
  refine mT (xS h15 3 ([(zD fo)]++vb (kl Ki)++[(sV c1),(zD a),(zD (min (min till (now+us_.life)) r)),(zD r)])) fun _ w17 h17=>?_
  refine ma h17 3 ?_
  refine mT (xR h17 1 ([(zD fo)]++vb (kl Ki)++[(sV c1),(zD a),(zD (min (min till (now+us_.life)) r)),(zD r)])) fun _ w19 h19=>?_
  refine mF (post_2 (r:=.cell 8 54) (s:=.tmp 9) (by kernel_rfl) rfl (rce (h19.at_ 1 rfl)) (rtm zO) ?_)
  exact ⟨rfl,h19.below0⟩
 refine oT (xN h6 138 ([zE]++vb (List.replicate 16 0)++[zO,zO,zV])) ?_
 rintro _ w20 ⟨g20,rfl,h20⟩
 refine ⟨⟨h20.rd 0 rfl,h20.rd 1 rfl,h20.at_ 3 rfl,trivial⟩,?_⟩
 refine dD 9 h20 [(pt bb 0),(sV c1)] (get_yes (h20.rd 2 rfl) h32 hb2 hu2) (fun w21 h21=>⟨⟨h21.rd 0 rfl,h21.rd 1 rfl,h21.at_ 3 rfl,trivial⟩,?_⟩)
 refine dP 2 [10,11,12] ?_
 refine dT 14 (xR h21 0 ([(sV us_.name)]++vb (kl us_.key)++[(zD us_.life),(zD us_.renew),(bV us_.mesh)])) ?_
 rintro _ w22 h22
 refine ⟨⟨h22.rd 0 rfl,h22.rd 1 rfl,h22.at_ 3 rfl,trivial⟩,?_⟩
 refine dN 15 ?_
 refine dX ?_
 refine ma h22 2 ?_
 refine mX 33 zV (bV (!((⟨#[107,100,99]⟩:ByteArray).toList == (⟨#[107,100,99]⟩:ByteArray).toList))) (by simp) ?_
 refine ma h22 3 ?_
 refine mX 37 (zD 1) (zD (bits .and .i64 f 1)) (by rw [hf1]) ?_
 refine ma h22 3 ?_
 refine mX 45 (.bool false) (bV (decide (r<=now))) (by simp;omega) ?_
 refine ma h22 3 ?_
 refine mX 49 (zD fo) (zD (bits .andNot .i64 f 4)) (by rw [hf4]) ?_
 refine mT (xS h22 3 ([(zD fo)]++vb (kl Ki)++[(sV c1),(zD a),(zD u),(zD r)])) fun _ w28 h28=>?_
 refine ma h28 2 ?_
 refine ma h28 0 ?_
 refine mW 56 (exec_add _ _ _ _ bO now us_.life (by kernel_rfl) (by kernel_rfl) (now+us_.life) rfl (by omega) (by omega) _) ?_
 refine ma h28 3 ?_
 refine mW 59 (v:=(zD (min (min till (now+us_.life)) r))) (e_min3 (.tmp 52) (.tmp 56) (.tmp 58) #[2,2,2] (by kernel_rfl) .i64 .i64 .i64 till (now+us_.life) r (by kernel_rfl) (by kernel_rfl) (by kernel_rfl) _) ?_
 refine mT (xS h28 3 ([(zD fo)]++vb (kl Ki)++[(sV c1),(zD a),(zD (min (min till (now+us_.life)) r)),(zD r)])) fun _ w30 h30=>?_
 refine ma h30 3 ?_
 refine mT (xR h30 1 ([(zD fo)]++vb (kl Ki)++[(sV c1),(zD a),(zD (min (min till (now+us_.life)) r)),(zD r)])) fun _ w32 h32=>?_
 refine mF (post_2 (r:=.cell 8 54) (s:=.tmp 9) (by kernel_rfl) rfl (rce (h32.at_ 1 rfl)) (rtm zO) ?_)
 exact ⟨rfl,h32.below0⟩
end
section
open Go.Value renaming int->iV,slice->lV,string->sV,bool->bV,agg->aV
open Go.RowKit Go.QT
/-- What Tgs leaves, where it gives. -/
def TgPost(F G:Nat->Prop)(tb cb most nb:Nat)(c1 srv:ByteArray)(s3:STab)(sl:List Sh)(w:World)(e:Ending)(w':World):Prop:=
 ∃ A c B d F' G',e=.returned (.tuple #[.agg #[.string c1,.string srv,.slice A 16 c,.slice B 16 d],.int .i64 0])/\Hp (fun q=>F q∨G q) w w' [] [rTab F' tb s3,rCa G' cb most sl,rSB (.slice A 16 c) (mkB 98 (nb+1)),rSB (.slice B 16 d) (mkB 98 (nb+2))]
/-- .. where it does not. -/
def TgNo(F G:Nat->Prop)(tb cb most ec:Nat)(s2:STab)(sl:List Sh)(w:World)(e:Ending)(w':World):Prop:=
 ∃ F' G',e=.returned (.tuple #[.agg #[.string ByteArray.empty,.string ByteArray.empty,.slice none 0 0,.slice none 0 0],.int .i64 (ec:Int)])/\Hp (fun q=>F q∨G q) w w' [] [rTab F' tb s2,rCa G' cb most sl]
section
variable{o:Oper}{a:Act}{F0 F G:Nat->Prop}{w0 w:World}{ro rs:List Res}{tb cb most nb ec:Nat}{s s3:STab}{sl sl2:List Sh}{c1 srv:ByteArray}
theorem x_tgs(h:Hp F0 w0 w ro rs)(i j:Nat)(hi:rs[i]?=some (rTab F tb s))(hj:rs[j]?=some (rCa G cb most sl))(al:List Value)(hij:decide (i≠j)=true)(hp:pureVal Tryz.prog (execOp a.eval o)=some (.enter 12 al.toArray))(hc:Calls Tryz.prog 12 al.toArray w (TgPost F G tb cb most nb c1 srv s3 sl2 w)) :
   OpTo Tryz.prog o a w (fun u w'=>∃ A c B d F' G' s',u=.tuple #[.agg #[.string c1,.string srv,.slice A 16 c,.slice B 16 d],.int .i64 0]/\s'=s3/\Hp F0 w0 w' ro ([rTab F' tb s',rCa G' cb most sl2,rSB (.slice A 16 c) (mkB 98 (nb+1)),rSB (.slice B 16 d) (mkB 98 (nb+2))]++(rs.eraseIdx (max i j)).eraseIdx (min i j))):=
 OpTo.enter 12 al hp hc fun e w' hq=>by
   obtain ⟨A,c,B,d,F',G',he,h2⟩:=hq
   exact ⟨_,he,A,c,B,d,F',G',_,rfl,rfl,h.call2 i j hi hj (of_decide_eq_true hij) h2⟩
theorem x_tgsN(h:Hp F0 w0 w ro rs)(i j:Nat)(hi:rs[i]?=some (rTab F tb s))(hj:rs[j]?=some (rCa G cb most sl))(al:List Value)(hij:decide (i≠j)=true)(hp:pureVal Tryz.prog (execOp a.eval o)=some (.enter 12 al.toArray))(hc:Calls Tryz.prog 12 al.toArray w (TgNo F G tb cb most ec s3 sl2 w)) :
   OpTo Tryz.prog o a w (fun u w'=>∃ F' G',u=.tuple #[.agg #[.string ByteArray.empty,.string ByteArray.empty,.slice none 0 0,.slice none 0 0],.int .i64 (ec:Int)]/\Hp F0 w0 w' ro ((rs.set i (rTab F' tb s3)).set j (rCa G' cb most sl2))):=
 OpTo.enter 12 al hp hc fun e w' hq=>by
   obtain ⟨F',G',he,h2⟩:=hq
   exact ⟨_,he,F',G',rfl,h.upd2 i j hi hj (of_decide_eq_true hij) h2⟩
/-- Fresh, its key told. -/
theorem x_freshK{F:Nat->Prop}(h:Hp F0 w0 w ro rs)(i:Nat)(hi:rs[i]?=some (rTab F tb s))(K:Fin 16->UInt8)(hK:kl K=mkB 107 (s.keys.length+1))(hp:pureVal Tryz.prog (execOp a.eval o)=some (.enter 127 #[pt tb 0]))(hn:s.keys.length<1000000) :
   OpTo Tryz.prog o a w (fun u w'=>∃ F',u=.agg (vb (kl K)).toArray/\Hp F0 w0 w' ro (rs.set i (rTab F' tb (s.add SFrom.fresh)))):=
 (x_fresh h i hi hp hn).mono fun u w' ⟨K',F',s',e,hK',es,h'⟩=>by
   obtain rfl:K=K':=kl_inj (hK.trans hK'.symm)
   subst es
   exact ⟨F',e,h'⟩
end
theorem tgs_err{F G Gb:Nat->Prop}{sv kb cb bk tb bb most en ce:Nat}{Kk Ki:Fin 16->UInt8}{s s2:STab}{sl sl2:List Sh}{us:List User}{srv:ByteArray}{ec:Nat}{ts c1:ByteArray}{now nn till f a u r:Int}{qr qm:Bool}{C D E:Option Addr}{c d:Nat}{l au:Bytes}{Rq:Res}{w:World}
   (h0:Hp (fun q=>F q∨G q) w w [rBlk sv 73 (svC kb cb bk),rBlk kb 78 (kdcC tb bb Kk),rSB (lV C l.length c) l,rSB (lV D au.length d) au,Rq,rBs Gb bb us] [rTab F tb s,rCa G cb most sl])
   (hWho:∀ w',Hp (fun q=>F q∨G q) w' w' [rBlk sv 73 (svC kb cb bk),rBlk kb 78 (kdcC tb bb Kk),rSB (lV C l.length c) l,rSB (lV D au.length d) au,Rq] [rTab F tb s,rCa G cb most sl]->Calls Tryz.prog 29 #[pt sv 0,.int .i64 now,(aV ([(sV ts),(lV C l.length c)]).toArray),(lV D au.length d),(Value.iface 40 (aV ([(sV srv),(iV .i64 nn),(iV .i64 till),(bV qr),(bV qm),(sV ts),(lV C l.length c),(lV D au.length d),(lV E en ce)]).toArray))] w' (WhPost F G tb cb most (aV ([(iV .i64 f)]++vb (kl Ki)++[(sV c1),(iV .i64 a),(iV .i64 u),(iV .i64 r)]).toArray) s2 (ec,sl2) w'))
   (hec:ec≠0):Calls Tryz.prog 12 #[pt sv 0,.int .i64 now,(aV ([(sV srv),(iV .i64 nn),(iV .i64 till),(bV qr),(bV qm),(sV ts),(lV C l.length c),(lV D au.length d),(lV E en ce)]).toArray)] w (TgNo F G tb cb most ec s2 sl2 w):=by
 have h0:=h0
 refine mE 108 ?_
 refine mN h0 40 ([(sV srv),(zD nn),(zD till),(bV qr),(bV qm),(sV ts),(lV C l.length c),(lV D au.length d),(lV E en ce)]) fun g2 w2 h2=>?_
 refine mN h2 43 ([zE,zE,zN,zN]) fun g3 w3 h3=>?_
 refine ma h3 1 ?_
 refine ma h3 1 ?_
 refine ma h3 1 ?_
 refine mT (x_who h3 2 3 rfl rfl [(pt sv 0),(zD now),(aV ([(sV ts),(lV C l.length c)]).toArray),(lV D au.length d),(Value.iface 40 (aV ([(sV srv),(zD nn),(zD till),(bV qr),(bV qm),(sV ts),(lV C l.length c),(lV D au.length d),(lV E en ce)]).toArray))] (by decide) (by kernel_rfl) (hWho _ (h3.carve2 2 3 rfl rfl [(false,0),(false,1),(false,2),(false,3),(false,4)] rfl rfl))) ?_
 rintro _ w5 ⟨F5,G5,rfl,h5⟩
 refine mN h5 54 ([zO]++vb (List.replicate 16 0)++[zE,zO,zO,zO]) fun g6 w6 h6=>?_
 refine mT (xR h6 0 ([(zD f)]++vb (kl Ki)++[(sV c1),(zD a),(zD u),(zD r)])) fun _ w7 h7=>?_
 refine mX 27 (.bool true) (bV (((ec:Int)) != 0)) (by simp;omega) ?_
 refine mT (xR h7 1 ([zE,zE,zN,zN])) fun _ w11 h11=>?_
 refine mF (post_2 (r:=.cell 6 43) (s:=.tmp 7) (by kernel_rfl) rfl (rce (h11.at_ 1 rfl)) (rtm (zD ((ec:Int)))) ?_)
 exact ⟨_,_,rfl,h11.sel [3,4] [] rfl rfl rfl⟩
theorem tgs_met{F G Gb:Nat->Prop}{sv kb cb bk tb bb most en ce:Nat}{Kk Ki:Fin 16->UInt8}{s s2:STab}{sl sl2:List Sh}{us:List User}{srv:ByteArray}{ts c1:ByteArray}{now nn till f a u r:Int}{C D E:Option Addr}{c d:Nat}{l au:Bytes}{Rq:Res}{w:World}
   (h0:Hp (fun q=>F q∨G q) w w [rBlk sv 73 (svC kb cb bk),rBlk kb 78 (kdcC tb bb Kk),rSB (lV C l.length c) l,rSB (lV D au.length d) au,Rq,rBs Gb bb us] [rTab F tb s,rCa G cb most sl])
   (hWho:∀ w',Hp (fun q=>F q∨G q) w' w' [rBlk sv 73 (svC kb cb bk),rBlk kb 78 (kdcC tb bb Kk),rSB (lV C l.length c) l,rSB (lV D au.length d) au,Rq] [rTab F tb s,rCa G cb most sl]->Calls Tryz.prog 29 #[pt sv 0,.int .i64 now,(aV ([(sV ts),(lV C l.length c)]).toArray),(lV D au.length d),(Value.iface 40 (aV ([(sV srv),(iV .i64 nn),(iV .i64 till),(bV false),(bV true),(sV ts),(lV C l.length c),(lV D au.length d),(lV E en ce)]).toArray))] w' (WhPost F G tb cb most (aV ([(iV .i64 f)]++vb (kl Ki)++[(sV c1),(iV .i64 a),(iV .i64 u),(iV .i64 r)]).toArray) s2 (0,sl2) w'))
   {Kx K:Fin 16->UInt8} {eo:Int} {b1 b2:Bytes} (hrm:Room 8 s2) (hK:kl K=mkB 107 (s2.keys.length+1)) (hlt:now<till) (hl1:c1.size<=1000) (hl2:srv.size<=1000) (hMet:∀ F' w',Hp (fun _=>False) w' w' [rBlk sv 73 (svC kb cb bk),rBlk kb 78 (kdcC tb bb Kk),rTab F' tb s2,rBs Gb bb us,Rq] []->Calls Tryz.prog 31 #[pt sv 0,.int .i64 now,(aV ([(iV .i64 f)]++vb (kl Ki)++[(sV c1),(iV .i64 a),(iV .i64 u),(iV .i64 r)]).toArray),(aV ([(sV srv),(iV .i64 nn),(iV .i64 till),(bV false),(bV true),(sV ts),(lV C l.length c),(lV D au.length d),(lV E en ce)]).toArray)] w' (DPost w' (.tuple #[(aV ([(iV .i64 2)]++vb (List.replicate 16 0)++[(sV c1),(iV .i64 a),(iV .i64 eo),(iV .i64 0)]).toArray),(aV (vb (kl Kx)).toArray),.int .i64 0])))
   (hp1:packB (.inside 2 K c1 a eo 0)=.inr b1) (hp2:packB (.reply 2 K nn srv a eo 0)=.inr b2):Calls Tryz.prog 12 #[pt sv 0,.int .i64 now,(aV ([(sV srv),(iV .i64 nn),(iV .i64 till),(bV false),(bV true),(sV ts),(lV C l.length c),(lV D au.length d),(lV E en ce)]).toArray)] w (TgPost F G tb cb most s2.boxes.length c1 srv (((s2.add SFrom.fresh).seal (kl Kx) 2 b1).seal (kl Ki) 8 b2) sl2 w):=by
 have h0:=h0
 refine mE 108 ?_
 refine mN h0 40 ([(sV srv),(zD nn),(zD till),zV,zI,(sV ts),(lV C l.length c),(lV D au.length d),(lV E en ce)]) fun g2 w2 h2=>?_
 refine mN h2 43 ([zE,zE,zN,zN]) fun g3 w3 h3=>?_
 refine ma h3 1 ?_
 refine ma h3 1 ?_
 refine ma h3 1 ?_
 refine mT (x_who h3 2 3 rfl rfl [(pt sv 0),(zD now),(aV ([(sV ts),(lV C l.length c)]).toArray),(lV D au.length d),(Value.iface 40 (aV ([(sV srv),(zD nn),(zD till),zV,zI,(sV ts),(lV C l.length c),(lV D au.length d),(lV E en ce)]).toArray))] (by decide) (by kernel_rfl) (hWho _ (h3.carve2 2 3 rfl rfl [(false,0),(false,1),(false,2),(false,3),(false,4)] rfl rfl))) ?_
 rintro _ w5 ⟨F5,G5,rfl,h5⟩
 refine mN h5 54 ([zO]++vb (List.replicate 16 0)++[zE,zO,zO,zO]) fun g6 w6 h6=>?_
 refine mT (xR h6 0 ([(zD f)]++vb (kl Ki)++[(sV c1),(zD a),(zD u),(zD r)])) fun _ w7 h7=>?_
 refine mJ 2000004 (fun aJ wJ12=>∃ (gJ11_0:Nat) (gJ11_1:Nat) (xJ12:Nat->Value),aJ=patch xJ12 108 [(0,(pt sv 0)),(1,(zD now)),(5,(pt g2 0)),(6,(pt g3 0)),(7,zO),(8,(pt g6 0)),(9,zO),(10,(pt gJ11_0 0)),(11,(pt gJ11_1 0))]/\Hp (fun q=>F q∨G q) w wJ12 [rBlk sv 73 ([(pt kb 0),(pt cb 0),(pt bk 0)]),rBlk kb 78 ([(Value.iface 28 (pt tb 0)),(pt bb 0)]++vb (kl Kk)),rSB ((lV C l.length c)) l,rSB ((lV D au.length d)) au,Rq,rBs Gb bb us] [rBlk gJ11_1 31 (vb (kl Kk)),rBlk gJ11_0 54 ([(zD f)]++vb (kl Ki)++[(sV c1),(zD a),(zD u),(zD r)]),rBlk g6 54 ([(zD f)]++vb (kl Ki)++[(sV c1),(zD a),(zD u),(zD r)]),rBlk g3 43 ([zE,zE,zN,zN]),rBlk g2 40 ([(sV srv),(zD nn),(zD till),zV,zI,(sV ts),(lV C l.length c),(lV D au.length d),(lV E en ce)]),rTab F5 tb s2,rCa G5 cb most sl2]) ?_ (fun hJ12 hhJ12=>?_)
 ·
  rintro _ wJ12 ⟨gJ11_0,gJ11_1,xJ12,rfl,hJh12⟩
  refine mAt ?_
  refine ma hJh12 4 ?_
  refine mX 51 (.bool false) (bV (decide (till<=now))) (by simp;omega) ?_
  refine ma hJh12 4 ?_
  refine ma hJh12 4 ?_
  refine ma hJh12 4 ?_
  refine ma hJh12 2 ?_
  refine ma hJh12 4 ?_
  refine mD hJh12 [(pt sv 0),(zD now),(aV ([(zD f)]++vb (kl Ki)++[(sV c1),(zD a),(zD u),(zD r)]).toArray),(aV ([(sV srv),(zD nn),(zD till),zV,zI,(sV ts),(lV C l.length c),(lV D au.length d),(lV E en ce)]).toArray)] (hMet _ _ (hJh12.carve0 [(false,0),(false,1),(true,5),(false,5),(false,4)] rfl)) (fun w17 h17=>?_)
  refine mT (xR h17 1 ([(zD 2)]++vb (List.replicate 16 0)++[(sV c1),(zD a),(zD eo),zO])) fun _ w18 h18=>?_
  refine mT (xR h18 0 (vb (kl Kx))) fun _ w19 h19=>?_
  refine mr h19 0 ?_
  refine mr h19 1 ?_
  refine mT (x_freshK h19 5 rfl K hK (by kernel_rfl) hrm.keys) ?_
  rintro _ w23 ⟨F23,rfl,h23⟩
  refine mT (xR h23 1 ([(zD 2)]++vb (kl K)++[(sV c1),(zD a),(zD eo),zO])) fun _ w24 h24=>?_
  refine dG h24 21 20 (fun W=>(rBlk sv 73 ([(pt kb 0),(pt cb 0),(pt bk 0)])).Φ W/\(rBlk g2 40 ([(sV srv),(zD nn),(zD till),zV,zI,(sV ts),(lV C l.length c),(lV D au.length d),(lV E en ce)])).Φ W/\(rBlk gJ11_1 31 (vb (kl Kx))).Φ W/\(rBlk gJ11_0 54 ([(zD 2)]++vb (kl K)++[(sV c1),(zD a),(zD eo),zO])).Φ W/\(rBlk g6 54 ([(zD f)]++vb (kl Ki)++[(sV c1),(zD a),(zD u),(zD r)])).Φ W/\True) (fun w26 h26=>⟨h26.rd 0 rfl,h26.at_ 4 rfl,h26.at_ 0 rfl,h26.at_ 1 rfl,h26.at_ 2 rfl,trivial⟩) ?_
  intro w26 h26
  refine dP 15 [0,1,2,4,8,10] ?_
  refine dL 3 (fun W hW=>hW.1) ?_
  refine dL 5 (fun W hW=>hW.2.1) ?_
  refine dL 6 (fun W hW=>hW.2.2.1) ?_
  refine dL 7 (fun W hW=>hW.2.2.2.1) ?_
  refine dL 9 (fun W hW=>hW.2.1) ?_
  refine dL 11 (fun W hW=>hW.2.2.2.2.1) ?_
  refine dO 12 17 ?_ ?_
  ·
   refine oT (x_give (s':=(((s2.add SFrom.fresh).seal (kl Kx) 2 b1).seal (kl Ki) 8 b2)) h26 5 rfl [(pt kb 0),(sV srv),(aV (vb (kl Kx)).toArray),(aV ([(zD 2)]++vb (kl K)++[(sV c1),(zD a),(zD eo),zO]).toArray),(zD nn),(aV (vb (kl Ki)).toArray),(zD 8)] (by kernel_rfl) (give_ok (h26.at_ 5 rfl) ((hrm.add _).less (by decide)) (h26.rd 1 rfl) (fun hq=>h26.rdis 1 5 _ _ rfl rfl kb rfl hq) hl1 hl2 hp1 hp2)) ?_
   rintro _ w27 ⟨A27,c27,B27,d27,F27,rfl,h27⟩
   refine ⟨⟨h27.rd 0 rfl,h27.at_ 7 rfl,h27.at_ 3 rfl,h27.at_ 4 rfl,h27.at_ 5 rfl,trivial⟩,?_⟩
   refine dP 4 [13,14,15,16] ?_
   refine dT 17 (xN h27 35 ([zE,zN])) ?_
   rintro _ w28 ⟨g28,rfl,h28⟩
   refine ⟨⟨h28.rd 0 rfl,h28.at_ 8 rfl,h28.at_ 4 rfl,h28.at_ 5 rfl,h28.at_ 6 rfl,trivial⟩,?_⟩
   refine dT 18 (xR h28 0 ([(sV srv),(lV A27 16 c27)])) ?_
   rintro _ w29 h29
   refine ⟨⟨h29.rd 0 rfl,h29.at_ 8 rfl,h29.at_ 4 rfl,h29.at_ 5 rfl,h29.at_ 6 rfl,trivial⟩,?_⟩
   refine dP 1 [19] ?_
   refine dN 20 ?_
   refine dX ?_
   refine ma h29 6 ?_
   refine ma h29 0 ?_
   refine mT (xR h29 7 ([(sV c1),(sV srv),(lV A27 16 c27),(lV B27 16 d27)])) fun _ w33 h33=>?_
   refine mF (post_2 (r:=.cell 6 43) (s:=.tmp 7) (by kernel_rfl) rfl (rce (h33.at_ 7 rfl)) (rtm zO) ?_)
   exact ⟨_,_,_,_,_,_,rfl,h33.sel [1,9,2,3] [] rfl rfl rfl⟩
  refine oT (xN h26 35 ([zE,zN])) ?_
  rintro _ w34 ⟨g34,rfl,h34⟩
  refine ⟨⟨h34.rd 0 rfl,h34.at_ 5 rfl,h34.at_ 1 rfl,h34.at_ 2 rfl,h34.at_ 3 rfl,trivial⟩,?_⟩
  refine dT 12 (x_give (s':=(((s2.add SFrom.fresh).seal (kl Kx) 2 b1).seal (kl Ki) 8 b2)) h34 6 rfl [(pt kb 0),(sV srv),(aV (vb (kl Kx)).toArray),(aV ([(zD 2)]++vb (kl K)++[(sV c1),(zD a),(zD eo),zO]).toArray),(zD nn),(aV (vb (kl Ki)).toArray),(zD 8)] (by kernel_rfl) (give_ok (h34.at_ 6 rfl) ((hrm.add _).less (by decide)) (h34.rd 1 rfl) (fun hq=>h34.rdis 1 6 _ _ rfl rfl kb rfl hq) hl1 hl2 hp1 hp2)) ?_
  rintro _ w35 ⟨A35,c35,B35,d35,F35,rfl,h35⟩
  refine ⟨⟨h35.rd 0 rfl,h35.at_ 8 rfl,h35.at_ 4 rfl,h35.at_ 5 rfl,h35.at_ 6 rfl,trivial⟩,?_⟩
  refine dP 3 [13,14,15,16] ?_
  refine dT 18 (xR h35 3 ([(sV srv),(lV A35 16 c35)])) ?_
  rintro _ w36 h36
  refine ⟨⟨h36.rd 0 rfl,h36.at_ 8 rfl,h36.at_ 4 rfl,h36.at_ 5 rfl,h36.at_ 6 rfl,trivial⟩,?_⟩
  refine dP 1 [19] ?_
  refine dN 20 ?_
  refine dX ?_
  refine ma h36 6 ?_
  refine ma h36 3 ?_
  refine mT (xR h36 7 ([(sV c1),(sV srv),(lV A35 16 c35),(lV B35 16 d35)])) fun _ w40 h40=>?_
  refine mF (post_2 (r:=.cell 6 43) (s:=.tmp 7) (by kernel_rfl) rfl (rce (h40.at_ 7 rfl)) (rtm zO) ?_)
  exact ⟨_,_,_,_,_,_,rfl,h40.sel [0,9,1,2] [] rfl rfl rfl⟩
 refine dG h7 12 11 (fun W=>(rBlk g6 54 ([(zD f)]++vb (kl Ki)++[(sV c1),(zD a),(zD u),(zD r)])).Φ W/\(rBlk sv 73 ([(pt kb 0),(pt cb 0),(pt bk 0)])).Φ W/\(rBlk kb 78 ([(Value.iface 28 (pt tb 0)),(pt bb 0)]++vb (kl Kk))).Φ W/\True) (fun w41 h41=>⟨h41.at_ 0 rfl,h41.rd 0 rfl,h41.rd 1 rfl,trivial⟩) ?_
 intro w41 h41
 refine dP 9 [1,2,3] ?_
 refine dL 0 (fun W hW=>hW.1) ?_
 refine dL 4 (fun W hW=>hW.2.1) ?_
 refine dP 5 [5,6] ?_
 refine dL 7 (fun W hW=>hW.2.2.1) ?_
 refine dO 8 9 ?_ ?_
 ·
  refine oT (xN h41 54 ([zO]++vb (List.replicate 16 0)++[zE,zO,zO,zO])) ?_
  rintro _ w42 ⟨g42,rfl,h42⟩
  refine ⟨⟨h42.at_ 1 rfl,h42.rd 0 rfl,h42.rd 1 rfl,trivial⟩,?_⟩
  refine dT 9 (xN h42 31 (vb (List.replicate 16 0))) ?_
  rintro _ w43 ⟨g43,rfl,h43⟩
  refine ⟨⟨h43.at_ 2 rfl,h43.rd 0 rfl,h43.rd 1 rfl,trivial⟩,?_⟩
  refine dT 10 (xR h43 1 ([(zD f)]++vb (kl Ki)++[(sV c1),(zD a),(zD u),(zD r)])) ?_
  rintro _ w44 h44
  refine ⟨⟨h44.at_ 2 rfl,h44.rd 0 rfl,h44.rd 1 rfl,trivial⟩,?_⟩
  refine dE 11 (xR h44 0 (vb (kl Kk))) ?_
  rintro _ w45 h45
  refine dX ?_
  exact mK hJ12 (hhJ12 _ _ ⟨g42,g43,_,pM,h45.sel [0,1,2,3,4,5,6] [0,1,2,3,4,5] (by kernel_rfl) rfl rfl⟩)
 refine oT (xN h41 31 (vb (List.replicate 16 0))) ?_
 rintro _ w46 ⟨g46,rfl,h46⟩
 refine ⟨⟨h46.at_ 1 rfl,h46.rd 0 rfl,h46.rd 1 rfl,trivial⟩,?_⟩
 refine dT 8 (xN h46 54 ([zO]++vb (List.replicate 16 0)++[zE,zO,zO,zO])) ?_
 rintro _ w47 ⟨g47,rfl,h47⟩
 refine ⟨⟨h47.at_ 2 rfl,h47.rd 0 rfl,h47.rd 1 rfl,trivial⟩,?_⟩
 refine dT 10 (xR h47 0 ([(zD f)]++vb (kl Ki)++[(sV c1),(zD a),(zD u),(zD r)])) ?_
 rintro _ w48 h48
 refine ⟨⟨h48.at_ 2 rfl,h48.rd 0 rfl,h48.rd 1 rfl,trivial⟩,?_⟩
 refine dE 11 (xR h48 1 (vb (kl Kk))) ?_
 rintro _ w49 h49
 refine dX ?_
 exact mK hJ12 (hhJ12 _ _ ⟨g47,g46,_,pM,h49.sel [1,0,2,3,4,5,6] [0,1,2,3,4,5] (by kernel_rfl) rfl rfl⟩)
theorem tgs_ren{F G Gb:Nat->Prop}{sv kb cb bk tb bb most en ce:Nat}{Kk Ki:Fin 16->UInt8}{s s2:STab}{sl sl2:List Sh}{us:List User}{ts c1:ByteArray}{now nn till f a u r:Int}{C D E:Option Addr}{c d:Nat}{l au:Bytes}{Rq:Res}{w:World}
   (h0:Hp (fun q=>F q∨G q) w w [rBlk sv 73 (svC kb cb bk),rBlk kb 78 (kdcC tb bb Kk),rSB (lV C l.length c) l,rSB (lV D au.length d) au,Rq,rBs Gb bb us] [rTab F tb s,rCa G cb most sl])
   (hWho:∀ w',Hp (fun q=>F q∨G q) w' w' [rBlk sv 73 (svC kb cb bk),rBlk kb 78 (kdcC tb bb Kk),rSB (lV C l.length c) l,rSB (lV D au.length d) au,Rq] [rTab F tb s,rCa G cb most sl]->Calls Tryz.prog 29 #[pt sv 0,.int .i64 now,(aV ([(sV ts),(lV C l.length c)]).toArray),(lV D au.length d),(Value.iface 40 (aV ([(sV (⟨#[107,100,99]⟩)),(iV .i64 nn),(iV .i64 till),(bV true),(bV false),(sV ts),(lV C l.length c),(lV D au.length d),(lV E en ce)]).toArray))] w' (WhPost F G tb cb most (aV ([(iV .i64 f)]++vb (kl Ki)++[(sV c1),(iV .i64 a),(iV .i64 u),(iV .i64 r)]).toArray) s2 (0,sl2) w'))
   {K:Fin 16->UInt8} {fo eo:Int} {b1 b2:Bytes} (hrm:Room 8 s2) (hK:kl K=mkB 107 (s2.keys.length+1)) (hlt:now<till) (hl1:c1.size<=1000) (hl2:(⟨#[107,100,99]⟩:ByteArray).size<=1000) (hRen:∀ w',Hp (fun _=>False) w' w' [rBlk sv 73 (svC kb cb bk),rBlk kb 78 (kdcC tb bb Kk),rBs Gb bb us] []->Calls Tryz.prog 30 #[pt sv 0,.int .i64 now,(aV ([(iV .i64 f)]++vb (kl Ki)++[(sV c1),(iV .i64 a),(iV .i64 u),(iV .i64 r)]).toArray),(aV ([(sV (⟨#[107,100,99]⟩)),(iV .i64 nn),(iV .i64 till),(bV true),(bV false),(sV ts),(lV C l.length c),(lV D au.length d),(lV E en ce)]).toArray)] w' (DPost w' (.tuple #[(aV ([(iV .i64 fo)]++vb (kl Ki)++[(sV c1),(iV .i64 a),(iV .i64 eo),(iV .i64 r)]).toArray),.int .i64 0])))
   (hp1:packB (.inside fo K c1 a eo r)=.inr b1) (hp2:packB (.reply fo K nn ⟨#[107,100,99]⟩ a eo r)=.inr b2):Calls Tryz.prog 12 #[pt sv 0,.int .i64 now,(aV ([(sV (⟨#[107,100,99]⟩)),(iV .i64 nn),(iV .i64 till),(bV true),(bV false),(sV ts),(lV C l.length c),(lV D au.length d),(lV E en ce)]).toArray)] w (TgPost F G tb cb most s2.boxes.length c1 ⟨#[107,100,99]⟩ (((s2.add SFrom.fresh).seal (kl Kk) 2 b1).seal (kl Ki) 8 b2) sl2 w):=by
 have h0:=h0
 refine mE 108 ?_
 refine mN h0 40 ([(sV (⟨#[107,100,99]⟩)),(zD nn),(zD till),zI,zV,(sV ts),(lV C l.length c),(lV D au.length d),(lV E en ce)]) fun g2 w2 h2=>?_
 refine mN h2 43 ([zE,zE,zN,zN]) fun g3 w3 h3=>?_
 refine ma h3 1 ?_
 refine ma h3 1 ?_
 refine ma h3 1 ?_
 refine mT (x_who h3 2 3 rfl rfl [(pt sv 0),(zD now),(aV ([(sV ts),(lV C l.length c)]).toArray),(lV D au.length d),(Value.iface 40 (aV ([(sV (⟨#[107,100,99]⟩)),(zD nn),(zD till),zI,zV,(sV ts),(lV C l.length c),(lV D au.length d),(lV E en ce)]).toArray))] (by decide) (by kernel_rfl) (hWho _ (h3.carve2 2 3 rfl rfl [(false,0),(false,1),(false,2),(false,3),(false,4)] rfl rfl))) ?_
 rintro _ w5 ⟨F5,G5,rfl,h5⟩
 refine mN h5 54 ([zO]++vb (List.replicate 16 0)++[zE,zO,zO,zO]) fun g6 w6 h6=>?_
 refine mT (xR h6 0 ([(zD f)]++vb (kl Ki)++[(sV c1),(zD a),(zD u),(zD r)])) fun _ w7 h7=>?_
 refine mJ 2000004 (fun aJ wJ12=>∃ (gJ11_0:Nat) (gJ11_1:Nat) (xJ12:Nat->Value),aJ=patch xJ12 108 [(0,(pt sv 0)),(1,(zD now)),(5,(pt g2 0)),(6,(pt g3 0)),(7,zO),(8,(pt g6 0)),(9,zO),(10,(pt gJ11_0 0)),(11,(pt gJ11_1 0))]/\Hp (fun q=>F q∨G q) w wJ12 [rBlk sv 73 ([(pt kb 0),(pt cb 0),(pt bk 0)]),rBlk kb 78 ([(Value.iface 28 (pt tb 0)),(pt bb 0)]++vb (kl Kk)),rSB ((lV C l.length c)) l,rSB ((lV D au.length d)) au,Rq,rBs Gb bb us] [rBlk gJ11_1 31 (vb (kl Kk)),rBlk gJ11_0 54 ([(zD f)]++vb (kl Ki)++[(sV c1),(zD a),(zD u),(zD r)]),rBlk g6 54 ([(zD f)]++vb (kl Ki)++[(sV c1),(zD a),(zD u),(zD r)]),rBlk g3 43 ([zE,zE,zN,zN]),rBlk g2 40 ([(sV (⟨#[107,100,99]⟩)),(zD nn),(zD till),zI,zV,(sV ts),(lV C l.length c),(lV D au.length d),(lV E en ce)]),rTab F5 tb s2,rCa G5 cb most sl2]) ?_ (fun hJ12 hhJ12=>?_)
 ·
  rintro _ wJ12 ⟨gJ11_0,gJ11_1,xJ12,rfl,hJh12⟩
  refine mAt ?_
  refine ma hJh12 4 ?_
  refine mX 51 (.bool false) (bV (decide (till<=now))) (by simp;omega) ?_
  refine ma hJh12 4 ?_
  refine ma hJh12 4 ?_
  refine ma hJh12 4 ?_
  refine ma hJh12 2 ?_
  refine ma hJh12 4 ?_
  refine mD hJh12 [(pt sv 0),(zD now),(aV ([(zD f)]++vb (kl Ki)++[(sV c1),(zD a),(zD u),(zD r)]).toArray),(aV ([(sV (⟨#[107,100,99]⟩)),(zD nn),(zD till),zI,zV,(sV ts),(lV C l.length c),(lV D au.length d),(lV E en ce)]).toArray)] (hRen _ (hJh12.carve0 [(false,0),(false,1),(false,5)] rfl)) (fun w17 h17=>?_)
  refine mT (xR h17 1 ([(zD fo)]++vb (kl Ki)++[(sV c1),(zD a),(zD eo),(zD r)])) fun _ w18 h18=>?_
  refine mr h18 0 ?_
  refine mr h18 1 ?_
  refine mT (x_freshK h18 5 rfl K hK (by kernel_rfl) hrm.keys) ?_
  rintro _ w22 ⟨F22,rfl,h22⟩
  refine mT (xR h22 1 ([(zD fo)]++vb (kl K)++[(sV c1),(zD a),(zD eo),(zD r)])) fun _ w23 h23=>?_
  refine dG h23 21 20 (fun W=>(rBlk sv 73 ([(pt kb 0),(pt cb 0),(pt bk 0)])).Φ W/\(rBlk g2 40 ([(sV (⟨#[107,100,99]⟩)),(zD nn),(zD till),zI,zV,(sV ts),(lV C l.length c),(lV D au.length d),(lV E en ce)])).Φ W/\(rBlk gJ11_1 31 (vb (kl Kk))).Φ W/\(rBlk gJ11_0 54 ([(zD fo)]++vb (kl K)++[(sV c1),(zD a),(zD eo),(zD r)])).Φ W/\(rBlk g6 54 ([(zD f)]++vb (kl Ki)++[(sV c1),(zD a),(zD u),(zD r)])).Φ W/\True) (fun w25 h25=>⟨h25.rd 0 rfl,h25.at_ 4 rfl,h25.at_ 0 rfl,h25.at_ 1 rfl,h25.at_ 2 rfl,trivial⟩) ?_
  intro w25 h25
  refine dP 15 [0,1,2,4,8,10] ?_
  refine dL 3 (fun W hW=>hW.1) ?_
  refine dL 5 (fun W hW=>hW.2.1) ?_
  refine dL 6 (fun W hW=>hW.2.2.1) ?_
  refine dL 7 (fun W hW=>hW.2.2.2.1) ?_
  refine dL 9 (fun W hW=>hW.2.1) ?_
  refine dL 11 (fun W hW=>hW.2.2.2.2.1) ?_
  refine dO 12 17 ?_ ?_
  ·
   refine oT (x_give (s':=(((s2.add SFrom.fresh).seal (kl Kk) 2 b1).seal (kl Ki) 8 b2)) h25 5 rfl [(pt kb 0),(sV (⟨#[107,100,99]⟩)),(aV (vb (kl Kk)).toArray),(aV ([(zD fo)]++vb (kl K)++[(sV c1),(zD a),(zD eo),(zD r)]).toArray),(zD nn),(aV (vb (kl Ki)).toArray),(zD 8)] (by kernel_rfl) (give_ok (h25.at_ 5 rfl) ((hrm.add _).less (by decide)) (h25.rd 1 rfl) (fun hq=>h25.rdis 1 5 _ _ rfl rfl kb rfl hq) hl1 hl2 hp1 hp2)) ?_
   rintro _ w26 ⟨A26,c26,B26,d26,F26,rfl,h26⟩
   refine ⟨⟨h26.rd 0 rfl,h26.at_ 7 rfl,h26.at_ 3 rfl,h26.at_ 4 rfl,h26.at_ 5 rfl,trivial⟩,?_⟩
   refine dP 4 [13,14,15,16] ?_
   refine dT 17 (xN h26 35 ([zE,zN])) ?_
   rintro _ w27 ⟨g27,rfl,h27⟩
   refine ⟨⟨h27.rd 0 rfl,h27.at_ 8 rfl,h27.at_ 4 rfl,h27.at_ 5 rfl,h27.at_ 6 rfl,trivial⟩,?_⟩
   refine dT 18 (xR h27 0 ([(sV (⟨#[107,100,99]⟩)),(lV A26 16 c26)])) ?_
   rintro _ w28 h28
   refine ⟨⟨h28.rd 0 rfl,h28.at_ 8 rfl,h28.at_ 4 rfl,h28.at_ 5 rfl,h28.at_ 6 rfl,trivial⟩,?_⟩
   refine dP 1 [19] ?_
   refine dN 20 ?_
   refine dX ?_
   refine ma h28 6 ?_
   refine ma h28 0 ?_
   refine mT (xR h28 7 ([(sV c1),(sV (⟨#[107,100,99]⟩)),(lV A26 16 c26),(lV B26 16 d26)])) fun _ w32 h32=>?_
   refine mF (post_2 (r:=.cell 6 43) (s:=.tmp 7) (by kernel_rfl) rfl (rce (h32.at_ 7 rfl)) (rtm zO) ?_)
   exact ⟨_,_,_,_,_,_,rfl,h32.sel [1,9,2,3] [] rfl rfl rfl⟩
  refine oT (xN h25 35 ([zE,zN])) ?_
  rintro _ w33 ⟨g33,rfl,h33⟩
  refine ⟨⟨h33.rd 0 rfl,h33.at_ 5 rfl,h33.at_ 1 rfl,h33.at_ 2 rfl,h33.at_ 3 rfl,trivial⟩,?_⟩
  refine dT 12 (x_give (s':=(((s2.add SFrom.fresh).seal (kl Kk) 2 b1).seal (kl Ki) 8 b2)) h33 6 rfl [(pt kb 0),(sV (⟨#[107,100,99]⟩)),(aV (vb (kl Kk)).toArray),(aV ([(zD fo)]++vb (kl K)++[(sV c1),(zD a),(zD eo),(zD r)]).toArray),(zD nn),(aV (vb (kl Ki)).toArray),(zD 8)] (by kernel_rfl) (give_ok (h33.at_ 6 rfl) ((hrm.add _).less (by decide)) (h33.rd 1 rfl) (fun hq=>h33.rdis 1 6 _ _ rfl rfl kb rfl hq) hl1 hl2 hp1 hp2)) ?_
  rintro _ w34 ⟨A34,c34,B34,d34,F34,rfl,h34⟩
  refine ⟨⟨h34.rd 0 rfl,h34.at_ 8 rfl,h34.at_ 4 rfl,h34.at_ 5 rfl,h34.at_ 6 rfl,trivial⟩,?_⟩
  refine dP 3 [13,14,15,16] ?_
  refine dT 18 (xR h34 3 ([(sV (⟨#[107,100,99]⟩)),(lV A34 16 c34)])) ?_
  rintro _ w35 h35
  refine ⟨⟨h35.rd 0 rfl,h35.at_ 8 rfl,h35.at_ 4 rfl,h35.at_ 5 rfl,h35.at_ 6 rfl,trivial⟩,?_⟩
  refine dP 1 [19] ?_
  refine dN 20 ?_
  refine dX ?_
  refine ma h35 6 ?_
  refine ma h35 3 ?_
  refine mT (xR h35 7 ([(sV c1),(sV (⟨#[107,100,99]⟩)),(lV A34 16 c34),(lV B34 16 d34)])) fun _ w39 h39=>?_
  refine mF (post_2 (r:=.cell 6 43) (s:=.tmp 7) (by kernel_rfl) rfl (rce (h39.at_ 7 rfl)) (rtm zO) ?_)
  exact ⟨_,_,_,_,_,_,rfl,h39.sel [0,9,1,2] [] rfl rfl rfl⟩
 refine dG h7 12 11 (fun W=>(rBlk g6 54 ([(zD f)]++vb (kl Ki)++[(sV c1),(zD a),(zD u),(zD r)])).Φ W/\(rBlk sv 73 ([(pt kb 0),(pt cb 0),(pt bk 0)])).Φ W/\(rBlk kb 78 ([(Value.iface 28 (pt tb 0)),(pt bb 0)]++vb (kl Kk))).Φ W/\True) (fun w40 h40=>⟨h40.at_ 0 rfl,h40.rd 0 rfl,h40.rd 1 rfl,trivial⟩) ?_
 intro w40 h40
 refine dP 9 [1,2,3] ?_
 refine dL 0 (fun W hW=>hW.1) ?_
 refine dL 4 (fun W hW=>hW.2.1) ?_
 refine dP 5 [5,6] ?_
 refine dL 7 (fun W hW=>hW.2.2.1) ?_
 refine dO 8 9 ?_ ?_
 ·
  refine oT (xN h40 54 ([zO]++vb (List.replicate 16 0)++[zE,zO,zO,zO])) ?_
  rintro _ w41 ⟨g41,rfl,h41⟩
  refine ⟨⟨h41.at_ 1 rfl,h41.rd 0 rfl,h41.rd 1 rfl,trivial⟩,?_⟩
  refine dT 9 (xN h41 31 (vb (List.replicate 16 0))) ?_
  rintro _ w42 ⟨g42,rfl,h42⟩
  refine ⟨⟨h42.at_ 2 rfl,h42.rd 0 rfl,h42.rd 1 rfl,trivial⟩,?_⟩
  refine dT 10 (xR h42 1 ([(zD f)]++vb (kl Ki)++[(sV c1),(zD a),(zD u),(zD r)])) ?_
  rintro _ w43 h43
  refine ⟨⟨h43.at_ 2 rfl,h43.rd 0 rfl,h43.rd 1 rfl,trivial⟩,?_⟩
  refine dE 11 (xR h43 0 (vb (kl Kk))) ?_
  rintro _ w44 h44
  refine dX ?_
  exact mK hJ12 (hhJ12 _ _ ⟨g41,g42,_,pM,h44.sel [0,1,2,3,4,5,6] [0,1,2,3,4,5] (by kernel_rfl) rfl rfl⟩)
 refine oT (xN h40 31 (vb (List.replicate 16 0))) ?_
 rintro _ w45 ⟨g45,rfl,h45⟩
 refine ⟨⟨h45.at_ 1 rfl,h45.rd 0 rfl,h45.rd 1 rfl,trivial⟩,?_⟩
 refine dT 8 (xN h45 54 ([zO]++vb (List.replicate 16 0)++[zE,zO,zO,zO])) ?_
 rintro _ w46 ⟨g46,rfl,h46⟩
 refine ⟨⟨h46.at_ 2 rfl,h46.rd 0 rfl,h46.rd 1 rfl,trivial⟩,?_⟩
 refine dT 10 (xR h46 0 ([(zD f)]++vb (kl Ki)++[(sV c1),(zD a),(zD u),(zD r)])) ?_
 rintro _ w47 h47
 refine ⟨⟨h47.at_ 2 rfl,h47.rd 0 rfl,h47.rd 1 rfl,trivial⟩,?_⟩
 refine dE 11 (xR h47 1 (vb (kl Kk))) ?_
 rintro _ w48 h48
 refine dX ?_
 exact mK hJ12 (hhJ12 _ _ ⟨g46,g45,_,pM,h48.sel [1,0,2,3,4,5,6] [0,1,2,3,4,5] (by kernel_rfl) rfl rfl⟩)
end
section
theorem mkB_inj{k:UInt8}{m n:Nat}(hm:m<18446744073709551616)(hn:n<18446744073709551616)(h:mkB k m=mkB k n):m=n:=by
 have h1:(mkB k m).drop 8=(mkB k n).drop 8:=by rw [h]
 have h2:put8 m=put8 n:=h1
 rw [← getN_put8 m hm,← getN_put8 n hn,h2]
section
variable{s s':STab}{f g:SFrom}{n:Nat}
end
end
section
open Go.RowKit
theorem markOf_mkB{k:UInt8}{n:Nat}(hk:k=107∨k=98∨k=100)(hn:n<=1099511627776):markOf (mkB k n)=some (k,n):=by
 have h2:gb (mkB k n) 2=k:=rfl
 have h8:getN ((mkB k n).drop 8)=n:=getN_put8 n (by omega)
 unfold markOf
 rw [h2,h8,if_pos ⟨rfl,hk,hn,rfl⟩]
/-! ### Tables -/
section
variable{s s':STab}{f g:SFrom}{n:Nat}{k l:Bytes}{u:Int}{b:Bytes}
theorem box_at{x:SSealed}(h:s.boxes[n]?=some x)(hn:n<1000000):s.box (mkB 98 (n+1))=some x:=by
 unfold STab.box
 rw [markOf_mkB (by decide) (by omega)]
 simp [h]
end
end
section
open Go.RowKit Go.QT
section
variable{s s':STab}{n m:Nat}{bx:List SSealed}{kn:List (SFrom × Nat)}{f:SFrom}{k:Bytes}{u:Int}{b:Bytes}
theorem openTh_nomark(s:STab)(k:Bytes)(u:Int){l:Bytes}(hl:markOf l=none):openTh s k u l=.inl 13:=by
 unfold openTh STab.open_ STab.box
 rw [hl];rfl
theorem markOf_short{l:Bytes}(h:l.length≠16):markOf l=none:=by
 unfold markOf;rw [if_neg (fun hh=>h hh.1)]
end
/-- What is right, and not long, is packed. -/
theorem pack_is{t:Thing}(hr:rightTh t=true)(hl:(wrV (valD t)).length<=4096):packB t=.inr (wrV (valD t)):=by
 unfold packB;rw [if_pos hr,if_pos hl]
theorem val_small{t:Thing}{n:Nat}(h:∀ v ∈ valL t,(wrV v).length<=n)(hn:(valL t).length<=7):(wrV (valD t)).length<=10+7*n:=by
 have h0:=wrV_leT (valD t)
 have e:bodyV (valD t)=wrL (valL t):=rfl
 rw [e] at h0
 have key:∀ (l:List DVal),(∀ v ∈ l,(wrV v).length<=n)->(wrL l).length<=l.length*n:=by
   intro l
   induction l with
   | nil=>intro _;rw [wrL];simp
   | cons v l ih =>
     intro hh
     rw [wrL,List.length_append,List.length_cons,Nat.add_mul]
     have:=hh v (by simp)
     have:=ih (fun x hx=>hh x (by simp [hx]))
     omega
 have:=key _ h
 have:(valL t).length*n<=7*n:=Nat.mul_le_mul_right _ hn
 omega
theorem pack_stamp{t q:Int}(h1:inN t=true)(h2:inN q=true):∃ b,packB (.stamp t q)=.inr b:=by
 refine ⟨_,pack_is ?_ ?_⟩
 · show rightM _ _=true
   unfold rightM
   rw [List.all_cons,List.all_cons,List.all_nil,h1,h2]
   decide
 refine Nat.le_trans (val_small (n:=18) ?_ (by simp [valL])) (by decide)
 intro v hv
 simp only [valL,List.mem_cons,List.not_mem_nil,or_false] at hv
 rcases hv with rfl|rfl <;> exact wr_nD _
theorem pack_inside{f a u r:Int}{K:Fin 16->UInt8}{s:ByteArray}(hr:rightM s [f,a,u,r]=true)(hs:s.size<=300):∃ b,packB (.inside f K s a u r)=.inr b:=by
 refine ⟨_,pack_is hr ?_⟩
 refine Nat.le_trans (val_small (n:=310) ?_ (by simp [valL])) (by decide)
 intro v hv
 simp only [valL,List.mem_cons,List.not_mem_nil,or_false] at hv
 have h1:=wr_bD (kl K)
 have h2:=wr_bD s.data.toList
 rw [kl_len] at h1
 rw [size_toList] at h2
 rcases hv with rfl|rfl|rfl|rfl|rfl|rfl
 · have:=wr_nD f;omega
 · omega
 · omega
 · have:=wr_nD a;omega
 · have:=wr_nD u;omega
 have:=wr_nD r;omega
theorem pack_reply{f n a u r:Int}{K:Fin 16->UInt8}{s:ByteArray}(hr:rightM s [f,n,a,u,r]=true)(hs:s.size<=300):∃ b,packB (.reply f K n s a u r)=.inr b:=by
 refine ⟨_,pack_is hr ?_⟩
 refine Nat.le_trans (val_small (n:=310) ?_ (by simp [valL])) (by decide)
 intro v hv
 simp only [valL,List.mem_cons,List.not_mem_nil,or_false] at hv
 have h1:=wr_bD (kl K)
 have h2:=wr_bD s.data.toList
 rw [kl_len] at h1
 rw [size_toList] at h2
 rcases hv with rfl|rfl|rfl|rfl|rfl|rfl|rfl
 · have:=wr_nD f;omega
 · omega
 · have:=wr_nD n;omega
 · omega
 · have:=wr_nD a;omega
 · have:=wr_nD u;omega
 have:=wr_nD r;omega
theorem rightM_is{s:ByteArray}{l:List Int}(h:rightN s=true)(hl:∀ x ∈ l,inN x=true):rightM s l=true:=by
 unfold rightM;rw [h,List.all_eq_true.2 hl];rfl
theorem inN_is{x:Int}(h1:0<=x)(h2:x<=1099511627776):inN x=true:=inN_in (by omega) (by omega)
theorem ex_key(n:Nat):∃ K,kl K=mkB 107 n:=by
 obtain ⟨K,hK⟩:=kl_of (mkB 107 n) (mkB_len _ _)
 exact ⟨K,hK.symm⟩
theorem pack_le6{t:Thing}{b:Bytes}(h:packB t=.inr b):b.length<=1000000:=Nat.le_trans (pack_le h) (by decide)
/-- Marks of other numbers are other keys. -/
theorem key_ne{K L:Fin 16->UInt8}{i j:Nat}(hK:kl K=mkB 107 i)(hL:kl L=mkB 107 j)(hij:i≠j)(hi:i<1000000)(hj:j<1000000):kl K≠kl L:=by
 rw [hK,hL];exact fun e=>hij (mkB_inj (by omega) (by omega) e)
end
section
open Go.RowKit Go.QT
section
variable{P:Program}{o:Oper}{a:Act}
theorem gb_str(s:ByteArray)(i:Nat)(h:i<s.size):(s[i]'h)=gb s.data.toList i:=by
 have h2:i<s.data.toList.length:=by simpa using h
 unfold gb
 rw [List.getD_eq_getElem?_getD,List.getElem?_eq_getElem h2]
 simp
 rfl
theorem e_sidx(t:TypeId)(x y:Operand)(ho:o.op=.index t x y)(s:ByteArray)(k:IntKind)(i:Nat)(hx:a.eval x=.string s)(hy:a.eval y=.int k (i:Int))(ht:P.underlying t=some .string)(hi:i<s.size)(W:World) :
   (execOp a.eval o).run P W=.ok (.value (.int .u8 (ub (gb s.data.toList i)))) W:=by
 have h1:(Instr.index t (.string s) (.int k (i:Int))).run P W=.ok (.int .u8 (ub (gb s.data.toList i))) W:=by
   rw [run_index_string W t s k i ht,dif_pos ⟨by omega,by omega⟩]
   have:=gb_str s i hi
   unfold ub
   rw [← this]
   rfl
 unfold execOp
 simp only [ho,hx,hy,Sem.run_bind,h1,Result.andThen_ok,Sem.run_pure]
/-- A string from a byte on. -/
def tlS(s:ByteArray)(i:Nat):ByteArray:=s.extract i s.size
theorem tlS_list(s:ByteArray)(i:Nat):(tlS s i).data.toList=s.data.toList.drop i:=by
 unfold tlS
 rw [ByteArray.data_extract]
 simp
 apply List.take_of_length_le
 simp
theorem tlS_size(s:ByteArray)(i:Nat):(tlS s i).size=s.size-i:=by
 have:=congrArg List.length (tlS_list s i)
 simpa using this
theorem tlS_gb(s:ByteArray)(i j:Nat):gb (tlS s i).data.toList j=gb s.data.toList (i+j):=by
 rw [tlS_list]
 unfold gb
 rw [List.getD_eq_getElem?_getD,List.getD_eq_getElem?_getD,List.getElem?_drop]
theorem e_scut(t:TypeId)(x lo:Operand)(ho:o.op=.slice t x (some lo) none none)(s:ByteArray)(k:IntKind)(i:Nat)(hx:a.eval x=.string s)(hlo:a.eval lo=.int k (i:Int))(ht:P.underlying t=some .string)(hi:i<=s.size)(W:World) :
   (execOp a.eval o).run P W=.ok (.value (.string (tlS s i))) W:=by
 have hr:(Instr.sliceAt t (.string s) (some (.int k (i:Int))) none none).run P W=.ok (.string (tlS s i)) W:=by
   rw [run_sliceAt_string W t _ _ _ _ ht,run_slice_string_l W t s ht k i (by omega) (by omega)]
   rfl
 unfold execOp
 simp only [ho,hx,hlo,Option.map_some,Option.map_none,Sem.run_bind,hr,Result.andThen_ok,Sem.run_pure]
end
/-- The rune at the beginning, where it is one of one or of two bytes. -/
def runeL(l:Bytes):Option (Nat × Nat):=
 if nb (gb l 0)<128 then some (nb (gb l 0),1)
 else if 194<=nb (gb l 0)/\nb (gb l 0)<=223/\2<=l.length/\128<=nb (gb l 1)/\nb (gb l 1)<=191 then some ((nb (gb l 0)-192)*64+(nb (gb l 1)-128),2) else none
/-- What Rune answers. -/
def RnP(l:Bytes)(r k:Int):Prop:=
 match runeL l with
 | some (c,m)=>r=c/\k=m
 | none=>(r = -1∨2048<=r)/\r<=5000000/\1<=k/\k<=4
def RnPost(w:World)(l:Bytes)(e:Ending)(w':World):Prop:=∃ r k,e=.returned (.tuple #[.int .i64 r,.int .i64 k])/\RnP l r k/\Below w.heap.size w w'
theorem get_bang(s:ByteArray)(i:Nat):s.get! i=s[i]!:=by
 obtain ⟨bs⟩:=s
 show bs[i]! = _
 by_cases h:i<bs.size
 · rw [getElem!_pos (ByteArray.mk bs) i h,getElem!_pos bs i h];rfl
 rw [getElem!_neg (ByteArray.mk bs) i h,getElem!_neg bs i h]
theorem get_nb(s:ByteArray)(i:Nat):(s.get! i).toNat=nb (gb s.data.toList i):=by
 unfold nb
 rw [get_bang]
 congr 1
 by_cases h:i<s.size
 · rw [← gb_str s i h]
   exact getElem!_pos s i h
 have h2:gb s.data.toList i=0:=by
   unfold gb
   rw [List.getD_eq_getElem?_getD,List.getElem?_eq_none (by simp;exact Nat.le_of_not_lt h)];rfl
 rw [h2]
 exact getElem!_neg s i h
/-- The model's decoding, by it. -/
theorem decode_is(s:ByteArray)(i:Nat)(hi:i<s.size):match runeL (s.data.toList.drop i) with
   | some p=>Utf8.decode s i=p
   | none=>2048<=(Utf8.decode s i).1:=by
 have h0:nb (gb (s.data.toList.drop i) 0)=nb (gb s.data.toList i):=by rw [← tlS_list,tlS_gb];rfl
 have h1:nb (gb (s.data.toList.drop i) 1)=nb (gb s.data.toList (i+1)):=by rw [← tlS_list,tlS_gb]
 have hl:(s.data.toList.drop i).length=s.size-i:=by simp
 have hb0:=nb_lt (gb s.data.toList i)
 have hb1:=nb_lt (gb s.data.toList (i+1))
 unfold runeL Utf8.decode
 simp only [get_nb,h0,h1,hl,Nat.add_zero]
 generalize nb (gb s.data.toList i)=x at *
 generalize nb (gb s.data.toList (i+1))=y at *
 generalize nb (gb s.data.toList (i+2))=z at *
 generalize nb (gb s.data.toList (i+3))=u at *
 by_cases hx:x<128
 · simp [hx]
 simp only [hx,if_false]
 by_cases h2:194<=x/\x<=223/\2<=s.size-i/\128<=y/\y<=191
 · rw [if_pos h2]
   have e1:(x / 32 == 6 && (decide (i+1<s.size) && y / 64 == 2))=true:=by simp;omega
   simp only [e1,if_true]
   rw [if_pos (by omega)]
   have:x % 32*64+y % 64=(x-192)*64+(y-128):=by omega
   rw [this]
 rw [if_neg h2]
 show 2048<=_
 repeat' split
 all_goals first|(show 2048<=Utf8.runeError;decide)|skip
 all_goals simp_all
 all_goals omega
end
end Go.Proofs.YtdefpmmdpfpipaaGreat
