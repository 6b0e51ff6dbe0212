/- Tickets that somebody has. -/
import Derived.Laws.StructEq
import Derived.Deep.AppendSrc
import Derived.Laws.Cover1
import Derived.Laws.IdiomRangeMap
import Derived.Test.YtaoijkhndakppaaGreatCA13
set_option maxRecDepth 100000
set_option maxHeartbeats 4000000
namespace Go.Proofs.YtaoijkhndakppaaGreat
section
open Go.RowKit Go.QT
/-- cache.Near. -/
def nearF(now t:Int):Bool:=decide (0<=t/\t<=1099511627776/\0<=now/\now<=1099511627776/\now-t<=30/\t-now<=30)
theorem place_any{G:Nat->Prop}{bb:Nat}{us:List User}{w:World}(hB:(rBs G bb us).Φ w)(h32:us.length<=1000000)(s:ByteArray):Calls Tryz.prog 114 #[(pt bb 0),(Value.string s)] w (DPost w (.tuple #[.int .i64 (placeI us s:Int),.bool (placeB us s)])):=by
 obtain ⟨A,c,hb,hov,_,_⟩:=bs_open hB
 have hx:=(OV.rvn (n:=us.length) hov).2
 have h0:=(Hp.ro1 (rRV 20 A c (us.map uC)) hx).addR (rBlk bb 271 _) hb (by simp)
 refine mE 14 ?_
 refine mr h0 0 ?_
 refine mD h0 [(Value.slice A us.length c),(Value.string s),(Value.func (.func 133) #[] #[])] (search_any (h0.rd 1 rfl) h32) (fun w3 h3=>?_)
 exact mQ h3
theorem x_place{o:Oper}{a:Act}{F0:Nat->Prop}{w0 w:World}{ro rs:List Res}{G:Nat->Prop}{bb:Nat}{us:List User}(h:Hp F0 w0 w ro rs)(hB:(rBs G bb us).Φ w)(h32:us.length<=1000000)(s:ByteArray)(hp:pureVal Tryz.prog (execOp a.eval o)=some (.enter 114 #[pt bb 0,.string s])){i:Nat}{b:Bool}(hi:placeI us s=i)(hb:placeB us s=b) :
   OpTo Tryz.prog o a w (fun u w'=>u=.tuple #[.int .i64 (i:Int),.bool b]/\Hp F0 w0 w' ro rs):=by
 subst hi;subst hb
 exact x_dp h 114 [pt bb 0,.string s] hp (place_any hB h32 s)
theorem get_yes{G:Nat->Prop}{bb:Nat}{us:List User}{w:World}(hB:(rBs G bb us).Φ w)(h32:us.length<=1000000){s:ByteArray}{u:User}(hb2:placeB us s=true)(hu:us[placeI us s]?=some u):Calls Tryz.prog 82 #[(pt bb 0),(Value.string s)] w (DPost w (.tuple #[(Value.agg ([(Value.string u.name)]++vb (kl u.key)++[(Value.int .i64 u.life),(Value.int .i64 u.renew),(Value.bool u.mesh)]).toArray),.int .i64 0])):=by
 obtain ⟨A,c,hb,hov,_,_⟩:=bs_open hB
 have hx:=(OV.rvn (n:=us.length) hov).2
 have hlt:=(List.getElem?_eq_some_iff.1 hu).1
 have h0:=((Hp.ro1 (rRV 20 A c (us.map uC)) hx).addR (rBlk bb 271 _) hb (by simp)).addR (rBs G bb us) hB (by simp)
 refine mE 24 ?_
 refine mN h0 208 ([(Value.string ByteArray.empty)]++vb (List.replicate 16 0)++[(Value.int .i64 0),(Value.int .i64 0),(Value.bool false)]) fun g2 w2 h2=>?_
 refine mT (x_place h2 (h2.rd 0 rfl) h32 s (by kernel_rfl) rfl hb2) ?_
 rintro _ w4 ⟨rfl,h4⟩
 refine mr h4 1 ?_
 refine mW 22 (eIx (RV.lenIs (n:=us.length) (h4.rd 2 rfl) (List.length_map _)).2 ((placeI us s)) us.length (RV.lenIs (n:=us.length) (h4.rd 2 rfl) (List.length_map _)).1 hlt 269 (.tmp 20) (.tmp 21) .i64 208) ?_
 refine mW 23 (e_elemsN (RV.lenIs (n:=us.length) (h4.rd 2 rfl) (List.length_map _)).2 ((placeI us s)) 0 ([(Value.string u.name)]++vb (kl u.key)++[(Value.int .i64 u.life),(Value.int .i64 u.renew),(Value.bool u.mesh)]) (us_at hu) 208 (.tmp 22) (by kernel_rfl) ([(Value.string u.name)]++vb (kl u.key)++[(Value.int .i64 u.life),(Value.int .i64 u.renew),(Value.bool u.mesh)]) (by kernel_rfl) (by kernel_rfl) (by kernel_rfl)) ?_
 refine mT (xSs h4 0 208 (.tmp 4) (.tmp 23) 0 ([(Value.string u.name)]++vb (kl u.key)++[(Value.int .i64 u.life),(Value.int .i64 u.renew),(Value.bool u.mesh)]) ([(Value.string u.name)]++vb (kl u.key)++[(Value.int .i64 u.life),(Value.int .i64 u.renew),(Value.bool u.mesh)])) fun _ w8 h8=>?_
 refine mF (post_2 (r:=.cell 4 208) (s:=.tmp 5) (by kernel_rfl) rfl (rce (h8.at_ 0 rfl)) (rtm (Value.int .i64 0)) ?_)
 exact ⟨rfl,h8.below0⟩
theorem near_ways(now t:Int):t<0∨(0<=t/\1099511627776<t)∨(0<=t/\t<=1099511627776/\now<0)∨(0<=t/\t<=1099511627776/\0<=now/\1099511627776<now)∨(0<=t/\t<=1099511627776/\0<=now/\now<=1099511627776):=by omega
theorem near_any(now t:Int)(w:World):Calls Tryz.prog 83 #[(Value.int .i64 now),(Value.int .i64 t)] w (DPost w (.bool (nearF now t))):=by
 have h0:=Hp.nil (fun _=>False) w
 refine mE 29 ?_
 rcases near_ways now t with hq|⟨q1,hq⟩|⟨q1,q2,hq⟩|⟨q1,q2,q3,hq⟩|⟨q1,q2,q3,q4⟩
 ·
  refine mX 6 (.bool true) (Value.bool (decide (t<0))) (by simp;omega) ?_
  exact mQe (Value.bool false) h0 (by rw [show nearF now t=false from decide_eq_false (by omega)])
 ·
  refine mX 6 (.bool false) (Value.bool (decide (t<0))) (by simp;omega) ?_
  refine mX 9 (.bool true) (Value.bool (decide (t>1099511627776))) (by simp;omega) ?_
  exact mQe (Value.bool false) h0 (by rw [show nearF now t=false from decide_eq_false (by omega)])
 ·
  refine mX 6 (.bool false) (Value.bool (decide (t<0))) (by simp;omega) ?_
  refine mX 9 (.bool false) (Value.bool (decide (t>1099511627776))) (by simp;omega) ?_
  refine mX 13 (.bool true) (Value.bool (decide (now<0))) (by simp;omega) ?_
  exact mQe (Value.bool false) h0 (by rw [show nearF now t=false from decide_eq_false (by omega)])
 ·
  refine mX 6 (.bool false) (Value.bool (decide (t<0))) (by simp;omega) ?_
  refine mX 9 (.bool false) (Value.bool (decide (t>1099511627776))) (by simp;omega) ?_
  refine mX 13 (.bool false) (Value.bool (decide (now<0))) (by simp;omega) ?_
  refine mX 17 (.bool true) (Value.bool (decide (now>1099511627776))) (by simp;omega) ?_
  exact mQe (Value.bool false) h0 (by rw [show nearF now t=false from decide_eq_false (by omega)])
 refine mX 6 (.bool false) (Value.bool (decide (t<0))) (by simp;omega) ?_
 refine mX 9 (.bool false) (Value.bool (decide (t>1099511627776))) (by simp;omega) ?_
 refine mX 13 (.bool false) (Value.bool (decide (now<0))) (by simp;omega) ?_
 refine mX 17 (.bool false) (Value.bool (decide (now>1099511627776))) (by simp;omega) ?_
 rcases (by omega:now-t<=30∨30<now-t) with q5|q5
 ·
  refine mW 21 (exec_sub _ _ _ _ bO now t (by kernel_rfl) (by kernel_rfl) (now-t) rfl (by omega) (by omega) _) ?_
  refine mX 22 (.bool true) (Value.bool (decide (now-t<=30))) (by simp;omega) ?_
  refine mW 26 (exec_sub _ _ _ _ bO t now (by kernel_rfl) (by kernel_rfl) (t-now) rfl (by omega) (by omega) _) ?_
  exact mQe (Value.bool (decide (t-now<=30))) h0 (by rw [show nearF now t=decide (t-now<=30) from by unfold nearF;by_cases h:t-now<=30 <;> simp [h] <;> omega])
 refine mW 21 (exec_sub _ _ _ _ bO now t (by kernel_rfl) (by kernel_rfl) (now-t) rfl (by omega) (by omega) _) ?_
 refine mX 22 (.bool false) (Value.bool (decide (now-t<=30))) (by simp;omega) ?_
 exact mQe (Value.bool false) h0 (by rw [show nearF now t=false from decide_eq_false (by omega)])
theorem bnew_any(w:World):Calls Tryz.prog 113 #[] w (fun e w'=>∃ G bb,e=.returned (pt bb 0)/\Hp (fun _=>False) w w' [] [rBs G bb []]):=by
 have h0:=Hp.nil (fun _=>False) w
 refine mE 3 ?_
 refine mN h0 271 ([(Value.slice none 0 0)]) fun g3 w3 h3=>?_
 refine mP (pt g3 0) ?_
 have h4:=h3.ovNil 208 20
 exact ⟨_,_,rfl,(show Hp _ _ _ _ (lBs _ none 0 []++[]) from h4.sel [1,0] [] rfl rfl rfl).closeB⟩
end
section
open Go.RowKit Go.QT
section
variable{P:Program}{o:Oper}{a:Act}
/-- v[i:]. -/
theorem e_cutA{A:Option Addr}{sz n c i:Nat}(hi:i<=n)(t:TypeId)(x lo:Operand)(ho:o.op=.slice t x (some lo) none none)(hx:a.eval x=.slice A n c)(k:IntKind)(hlo:a.eval lo=.int k (i:Int))(ht:P.underlying t=some (.slice (P.elem t)))(hE:pureVal P (sizeOf (P.elem t))=some sz)(W:World) :
   (execOp a.eval o).run P W=.ok (.value (sliced A i n c sz)) W:=by
 have hsz:=pureVal_run hE W
 have hr:(Instr.sliceAt t (.slice A n c) (some (.int k (i:Int))) none none).run P W=.ok (sliced A i n c sz) W:=by
   rw [run_sliceAt_slice W t _ _ _ _ ht,run_slice_l W t A _ c ht k i (by omega) (by omega),hsz]
   rfl
 unfold execOp
 simp only [ho,hx,hlo,Option.map_some,Option.map_none,Sem.run_bind,hr,Result.andThen_ok,Sem.run_pure]
/-- append of one element that is only read. -/
theorem x_pushR{F0:Nat->Prop}{w0 w:World}{ro rs:List Res}{sz:Nat}{xs:List (List Value)}(h:Hp F0 w0 w ro rs)(i j:Nat){E:TypeId}{v:Value}{g:Nat}{T:TypeId}{news:List Value}(hi:rs[i]?=some (rOV E sz v xs))(hj:ro[j]?=some (rBlk g T news))
   (s x:Operand) (t:TypeId) (ho:o.op=.call { callee:=.builtin .append,args:=#[s,x],argTypes:=#[t,t] }) (bytes:Nat) (z:Value) (ht:P.underlying t=some (.slice E)) (hinf:(P.info? E).map (fun i=>(i.zero,i.size,i.bytes))=some (some z,sz,bytes))
   (hzs:z.cells.size=sz) (hsz:decide (0<sz)=true) (hs:a.eval s=v) (c:Nat) (hx:a.eval x=.slice (some ⟨g,0,none⟩) 1 c) (hn:news.length=sz) (h1:news.all (·.oneCell')=true)
   (hlen:(xs.length+1)*bytes<=140737488355328) (hlen2:xs.length<maxLen) (ys:List (List Value)) (n:Nat) (hys:ys=xs++[news]) (hyn:ys.length=n) :
   OpTo P o a w (fun u w'=>∃ A cc,u=.slice A n cc/\Hp F0 w0 w' ro (rs.set i (rOV E sz (.slice A n cc) ys))):=by
 subst hys;subst hyn
 have hv:OV w 0 E sz v xs:=h.own i _ hi
 have hb:Blk w g T news:=h.red j _ hj
 obtain ⟨v',w',hrun,h2,h3,h4⟩:=OV.push (P:=P) s x t ho 0 E sz bytes z ht hinf hzs (of_decide_eq_true hsz) v xs hs hv g T news c hx hb hn (by simpa using h1) hlen hlen2 (Nat.zero_le _)
 obtain ⟨A,cc,e,_,_⟩:=h2.form
 refine OpTo.run v' hrun ⟨A,cc,e,?_⟩
 rw [← e]
 refine h.upd i hi (Fr.of_grown h3 (fun q hq=>.inl hq)) (rOV E sz v' (xs++[news])) h2 (fun q hq=>?_)
 rcases h4 with h4|h4
 · left;show v.ownBlock=some q;rw [← h4];exact hq
 right
 have:v'.ownBlock=some q:=hq
 rw [h4] at this
 injection this with this
 omega
end
def InsPost(w:World)(v:Value)(xs:List (List Value))(e:Ending)(w':World):Prop:=∃ A c,e=.returned (.slice A xs.length c)/\Hp (rOV 208 20 v []).F w w' [] [rOV 208 20 (.slice A xs.length c) xs]
theorem x_ins{o:Oper}{a:Act}{F0:Nat->Prop}{w0 w:World}{ro rs:List Res}{v:Value}{xs ys:List (List Value)}(h:Hp F0 w0 w ro rs)(i:Nat)(hi:rs[i]?=some (rOV 208 20 v xs))(fn:FuncId)(al:List Value)(hp:pureVal Tryz.prog (execOp a.eval o)=some (.enter fn al.toArray))(n:Nat)(hn:ys.length=n)(hc:Calls Tryz.prog fn al.toArray w (InsPost w v ys)) :
   OpTo Tryz.prog o a w (fun u w'=>∃ A c,u=.slice A n c/\Hp F0 w0 w' ro (rOV 208 20 (.slice A n c) ys::rs.eraseIdx i)):=by
 subst hn
 exact OpTo.enter fn al hp hc fun e w' ⟨A,c,he,hh⟩=>⟨_,he,A,c,rfl,h.call1 i hi hh⟩
theorem ins_end{A:Option Addr}{n c g:Nat}{xs:List (List Value)}{u:User}{w:World}(hv:(rOV 208 20 (.slice A n c) xs).Φ w)(hb:Blk w g 208 ([(Value.string u.name)]++vb (kl u.key)++[(Value.int .i64 u.life),(Value.int .i64 u.renew),(Value.bool u.mesh)]))(hd:¬ (rOV 208 20 (.slice A n c) xs).F g)(hn:xs.length=n)(h32:n<=1000000):Calls Tryz.prog 116 #[.slice A n c,.int .i64 (n:Int),.slice (some ⟨g,0,none⟩) 1 1] w (InsPost w (.slice A n c) (xs++[uC u])):=by
 have h0:=((Hp.one (rOV 208 20 (.slice A n c) xs) hv).weaken (F:=(rOV 208 20 (.slice A n c) []).F) (fun q hq=>hq)).addR (rBlk g 208 _) hb (fun j s hj q h1 h2=>by have h3:=sel1 hj;injection h3 with h3;subst h3;exact hd (by rw [show q=g from h1] at h2;exact h2))
 refine mE 95 ?_
 refine mW 12 (v:=(sliced A n n c 20)) (e_cutA (A:=A) (n:=n) (c:=c) (i:=n) (by omega) 269 (.tmp 10) (.tmp 11) (by kernel_rfl) (by kernel_rfl) .i64 (by kernel_rfl) (by kernel_rfl) (by kernel_rfl) _) ?_
 refine mX 22 (.bool true) (Value.bool (((n:Int)) == ((n:Int)))) (by simp) ?_
 refine mT (x_pushR h0 0 0 rfl rfl (.tmp 23) (.tmp 24) 269 (by kernel_rfl) 56 (Value.agg ([(Value.string ByteArray.empty)]++vb (List.replicate 16 0)++[(Value.int .i64 0),(Value.int .i64 0),(Value.bool false)]).toArray) (by kernel_rfl) (by kernel_rfl) (by kernel_rfl) (by kernel_rfl) (by kernel_rfl) 1 (by kernel_rfl) (by kernel_rfl) (by kernel_rfl) (by omega) (by unfold maxLen;omega) (xs++[uC u]) ((xs++[uC u]).length) rfl rfl) ?_
 rintro _ w10 ⟨A10,c10,rfl,h10⟩
 refine mP (Value.slice A10 ((xs++[uC u]).length) c10) ?_
 exact ⟨_,_,rfl,h10.sel [0] [] rfl rfl rfl⟩
theorem add_twice{G:Nat->Prop}{bb:Nat}{us:List User}{u:User}{w:World}(hB:(rBs G bb us).Φ w)(h32:us.length<=1000000)(hsz:u.name.size<=1000000000)(hr:rightN u.name=true)(ha:1<=u.life/\u.life<=600/\0<=u.renew/\u.renew<=6000)(ht:placeB us u.name=true):Calls Tryz.prog 78 #[(pt bb 0),(Value.agg ([(Value.string u.name)]++vb (kl u.key)++[(Value.int .i64 u.life),(Value.int .i64 u.renew),(Value.bool u.mesh)]).toArray)] w (DPost w (.int .i64 10)):=by
 obtain ⟨A,c,hb,hov,_,_⟩:=bs_open hB
 have h0:=(Hp.ro1 (rBlk bb 271 _) hb).addR (rBs G bb us) hB (by simp)
 refine mE 58 ?_
 refine mN h0 208 ([(Value.string u.name)]++vb (kl u.key)++[(Value.int .i64 u.life),(Value.int .i64 u.renew),(Value.bool u.mesh)]) fun g2 w2 h2=>?_
 refine ma h2 0 ?_
 refine mT (x_place h2 (h2.rd 0 rfl) h32 u.name (by kernel_rfl) rfl rfl) ?_
 rintro _ w4 ⟨rfl,h4⟩
 refine ma h4 0 ?_
 refine mT (x_nright h4 u.name hsz (by kernel_rfl)) ?_
 rintro _ w7 ⟨rfl,h7⟩
 refine mX 18 (Value.bool false) (Value.bool (!(rightN u.name))) (congrArg Value.bool (by rw [hr];rfl)) ?_
 refine ma h7 0 ?_
 refine mX 22 (.bool false) (Value.bool (decide (u.life<1))) (by simp;omega) ?_
 refine ma h7 0 ?_
 refine mX 26 (.bool false) (Value.bool (decide (u.life>600))) (by simp;omega) ?_
 refine ma h7 0 ?_
 refine mX 31 (.bool false) (Value.bool (decide (u.renew<0))) (by simp;omega) ?_
 refine ma h7 0 ?_
 refine mX 36 (.bool false) (Value.bool (decide (u.renew>6000))) (by simp;omega) ?_
 refine mX 38 (Value.bool true) (Value.bool (placeB us u.name)) (congrArg Value.bool ht) ?_
 exact mQ h7
theorem bs_of{bb:Nat}{A:Option Addr}{c:Nat}{us:List User}{w:World}(hb:Blk w bb 271 [.slice A us.length c])(ho:(rOV 208 20 (.slice A us.length c) (us.map uC)).Φ w)(hd:(rBlk bb 271 [.slice A us.length c]).dj (rOV 208 20 (.slice A us.length c) (us.map uC))):(rBs (rStar (lBs bb A c us)).F bb us).Φ w:=by
 refine ⟨A,c,rfl,fun i r hi=>?_,fun i j r s hi hj hij=>?_⟩
 · match i,hi with
   | 0,hi=>injection hi with hi;subst hi;exact hb
   | 1,hi=>injection hi with hi;subst hi;exact ho
   | n+2,hi=>simp [lBs] at hi
 match i,j,hi,hj with
 | 0,0,_,_=>exact absurd rfl hij
 | 0,1,hi,hj=>injection hi with hi;injection hj with hj;subst hi;subst hj;exact hd
 | 1,0,hi,hj=>injection hi with hi;injection hj with hj;subst hi;subst hj;exact hd.symm
 | 1,1,_,_=>exact absurd rfl hij
 | n+2,_,hi,_=>simp [lBs] at hi
 | 0,n+2,_,hj=>simp [lBs] at hj
 | 1,n+2,_,hj=>simp [lBs] at hj
theorem lBs_snoc(bb:Nat)(A:Option Addr)(c:Nat)(us:List User)(u:User):lBs bb A c (us++[u])=[rBlk bb 271 [.slice A (us++[u]).length c],rOV 208 20 (.slice A (us++[u]).length c) (us.map uC++[uC u])]:=by
 rw [lBs,List.map_append];rfl
theorem ins_len(us:List User)(u:User):(us.map uC++[uC u]).length=(us++[u]).length:=by simp
theorem add_ok{G:Nat->Prop}{bb:Nat}{us:List User}{u:User}{w:World}(hB:(rBs G bb us).Φ w)(h32:us.length<=1000000)(hsz:u.name.size<=1000000000)(hr:rightN u.name=true)(ha:1<=u.life/\u.life<=600/\0<=u.renew/\u.renew<=6000)(ht:placeB us u.name=false)(hf:us.length<32)(hi:placeI us u.name=us.length):Calls Tryz.prog 78 #[(pt bb 0),(Value.agg ([(Value.string u.name)]++vb (kl u.key)++[(Value.int .i64 u.life),(Value.int .i64 u.renew),(Value.bool u.mesh)]).toArray)] w (fun e w'=>e=.returned (.int .i64 0)/\∃ G',Hp G w w' [] [rBs G' bb (us++[u])]):=by
 obtain ⟨A,c,rfl,h2⟩:=hB
 have h0:=Hp.oneStar h2
 refine mE 58 ?_
 refine mN h0 208 ([(Value.string u.name)]++vb (kl u.key)++[(Value.int .i64 u.life),(Value.int .i64 u.renew),(Value.bool u.mesh)]) fun g2 w2 h2=>?_
 refine ma h2 0 ?_
 refine mT (x_place h2 (bs_of (h2.at_ 1 rfl) (h2.at_ 2 rfl) (h2.dis 1 2 _ _ rfl rfl (by decide))) h32 u.name (by kernel_rfl) hi ht) ?_
 rintro _ w5 ⟨rfl,h5⟩
 refine ma h5 0 ?_
 refine mT (x_nright h5 u.name hsz (by kernel_rfl)) ?_
 rintro _ w8 ⟨rfl,h8⟩
 refine mX 18 (Value.bool false) (Value.bool (!(rightN u.name))) (congrArg Value.bool (by rw [hr];rfl)) ?_
 refine ma h8 0 ?_
 refine mX 22 (.bool false) (Value.bool (decide (u.life<1))) (by simp;omega) ?_
 refine ma h8 0 ?_
 refine mX 26 (.bool false) (Value.bool (decide (u.life>600))) (by simp;omega) ?_
 refine ma h8 0 ?_
 refine mX 31 (.bool false) (Value.bool (decide (u.renew<0))) (by simp;omega) ?_
 refine ma h8 0 ?_
 refine mX 36 (.bool false) (Value.bool (decide (u.renew>6000))) (by simp;omega) ?_
 refine ma h8 1 ?_
 refine mX 46 (.bool false) (Value.bool (((us.length:Int)) == 32)) (by simp;omega) ?_
 refine dG h8 12 9 (fun W=>(rBlk bb 271 ([(Value.slice A us.length c)])).Φ W/\(rBlk g2 208 ([(Value.string u.name)]++vb (kl u.key)++[(Value.int .i64 u.life),(Value.int .i64 u.renew),(Value.bool u.mesh)])).Φ W/\True) (fun w13 h13=>⟨h13.at_ 1 rfl,h13.at_ 0 rfl,trivial⟩) ?_
 intro w13 h13
 refine dP 7 [0,1,2,3,5] ?_
 refine dL 4 (fun W hW=>hW.1) ?_
 refine dL 6 (fun W hW=>hW.2.1) ?_
 refine dT 7 (x_bs h13 208 ([(Value.string u.name)]++vb (kl u.key)++[(Value.int .i64 u.life),(Value.int .i64 u.renew),(Value.bool u.mesh)]) 1 (by kernel_rfl)) ?_
 rintro _ w14 ⟨g14,rfl,h14⟩
 refine ⟨⟨h14.at_ 2 rfl,h14.at_ 1 rfl,trivial⟩,?_⟩
 refine dT 8 (x_ins h14 3 rfl 116 [(Value.slice A us.length c),(Value.int .i64 ((us.length:Int))),(Value.slice (some ⟨g14,0,none⟩) 1 1)] (by kernel_rfl) ((us++[u]).length) (ins_len us u) (ins_end (h14.at_ 3 rfl) (h14.at_ 0 rfl) (fun hq=>h14.dis 3 0 _ _ rfl rfl (by decide) _ hq rfl) (List.length_map _) h32)) ?_
 rintro _ w15 ⟨A15,c15,rfl,h15⟩
 refine ⟨⟨h15.at_ 3 rfl,h15.at_ 2 rfl,trivial⟩,?_⟩
 refine dN 9 ?_
 refine dN 10 ?_
 refine dE 11 (xSt h15 3 269 (.tmp 57) (.tmp 55) 0 (Value.slice A15 ((us++[u]).length) c15) ([(Value.slice A15 ((us++[u]).length) c15)])) ?_
 rintro _ w16 h16
 refine dX ?_
 refine mP (Value.int .i64 0) ?_
 exact ⟨rfl,_,(show Hp _ _ _ _ (lBs bb A15 c15 (us++[u])++[]) from by rw [lBs_snoc];exact h16.sel [3,0] [] rfl rfl rfl).closeB⟩
end
section
open Go.RowKit Go.QT
/-- A table that has room for n more keys and boxes. -/
structure Room(n:Nat)(s:STab):Prop where
 body:∀ b ∈ s.boxes,b.body.length<=1000000
 box:s.boxes.length+n<1000000
 key:s.keys.length+n<1000000
theorem Room.ok{n:Nat}{s:STab}(h:Room n s):TabOk s:=⟨h.body,by have:=h.box;omega⟩
theorem Room.less{n m:Nat}{s:STab}(h:Room n s)(hm:m<=n):Room m s:=⟨h.body,by have:=h.box;omega,by have:=h.key;omega⟩
theorem Room.keys{n:Nat}{s:STab}(h:Room n s):s.keys.length<1000000:=by have:=h.key;omega
theorem Room.seal{n:Nat}{s:STab}(h:Room (n+1) s)(k:Bytes)(u:Int){b:Bytes}(hb:b.length<=1000000):Room n (s.seal k u b):=by
 refine ⟨fun x hx=>?_,?_,?_⟩
 · rcases List.mem_append.1 hx with hx|hx
   · exact h.body x hx
   rw [List.mem_singleton.1 hx];exact hb
 · have:=h.box
   show (s.boxes++_).length+n<_
   rw [List.length_append,List.length_singleton];omega
 have:=h.key
 show s.keys.length+n<_
 omega
theorem Room.add{n:Nat}{s:STab}(h:Room (n+1) s)(f:SFrom):Room n (s.add f):=by
 refine ⟨h.body,?_,?_⟩
 · have:=h.box
   show s.boxes.length+n<_
   omega
 have:=h.key
 show (s.keys++[f]).length+n<_
 rw [List.length_append,List.length_singleton];omega
theorem made_bx(s:STab)(f:SFrom):(s.made f).boxes=s.boxes:=by unfold STab.made;split <;> rfl
theorem made_ky(s:STab)(f:SFrom):(s.made f).keys.length<=s.keys.length+1:=by
 unfold STab.made
 split
 · omega
 show (s.keys++[f]).length<=_
 simp
theorem Room.made{n:Nat}{s:STab}(h:Room (n+1) s)(f:SFrom):Room n (s.made f):=by
 refine ⟨?_,?_,?_⟩
 · rw [made_bx];exact h.body
 · rw [made_bx];have:=h.box;omega
 have:=h.key;have:=made_ky s f;omega
theorem rTh_inside(w:World)(f:Int)(K:Fin 16->UInt8)(s:ByteArray)(a u r:Int):(rTh (fun _=>False) (.iface 187 (.agg ([Value.int .i64 f]++vb (kl K)++[Value.string s,.int .i64 a,.int .i64 u,.int .i64 r]).toArray)) (.inside f K s a u r)).Φ w:=⟨fun _ hf=>hf.elim,rfl⟩
theorem rTh_reply(w:World)(f:Int)(K:Fin 16->UInt8)(n:Int)(s:ByteArray)(a u r:Int):(rTh (fun _=>False) (.iface 211 (.agg ([Value.int .i64 f]++vb (kl K)++[Value.int .i64 n,.string s,.int .i64 a,.int .i64 u,.int .i64 r]).toArray)) (.reply f K n s a u r)).Φ w:=⟨fun _ hf=>hf.elim,rfl⟩
theorem rTh_stamp(w:World)(t q:Int):(rTh (fun _=>False) (.iface 104 (.agg #[.int .i64 t,.int .i64 q])) (.stamp t q)).Φ w:=⟨fun _ hf=>hf.elim,rfl⟩
end
section
open Go.RowKit Go.QT
end
section
open Go.RowKit Go.QT
end
section
open Go.RowKit Go.QT
end
section
open Go.RowKit Go.QT
def auC(s1:ByteArray)(a q:Int)(Ky:Fin 16->UInt8)(v:Value):List Value:=[Value.string s1,.int .i64 a,.int .i64 q]++vb (kl Ky)++[v]
/-- What is left of what shows. -/
def AuPost(w:World)(s1:ByteArray)(a q:Int)(Ky:Fin 16->UInt8)(b:Bytes)(e:Ending)(w':World):Prop:=
 ∃ A c,e=.returned (.tuple #[.agg (auC s1 a q Ky (.slice A b.length c)).toArray,.int .i64 0])/\Hp (fun _=>False) w w' [] [rSB (.slice A b.length c) b]
theorem au_end{w w':World}{ro rs:List Res}{G:Nat->Prop}{s1:ByteArray}{a q:Int}{Ky:Fin 16->UInt8}{b:Bytes}{A:Option Addr}{c:Nat}(h:Hp (fun _=>False) w w' ro rs)(i:Nat)(hi:rs[i]?=some (rTh G (.iface 71 (.agg (auC s1 a q Ky (.slice A b.length c)).toArray)) (.authent s1 a q Ky b))):Hp (fun _=>False) w w' [] [rSB (.slice A b.length c) b]:=by
 obtain ⟨A',c',e,hsg⟩:=(h.own i _ hi).2
 injection e with _ e;injection e with e
 have e:=congrArg Array.toList e
 have e:=List.append_cancel_left e
 injection e with e _
 rw [← e] at hsg
 exact (Hp.nil _ w).newS h.below0 _ hsg.2.1 (fun q hq=>(h.fresh i hi q (hsg.2.2 hq.1 q hq.2)).1)
theorem au_yes{F:Nat->Prop}{tb:Nat}{s:STab}{K:Fin 16->UInt8}{us:Int}{A:Option Addr}{c:Nat}{l:Bytes}{w:World}(hT:(rTab F tb s).Φ w)(hs:TabOk s)(hv:SB w (.slice A l.length c) l){s1:ByteArray}{ta q:Int}{Ky:Fin 16->UInt8}{b body:Bytes}(ho:s.open_ (kl K) us l=some body)(hu:unpB body=.inr (.authent s1 ta q Ky b)):Calls Tryz.prog 23 #[(Value.iface 30 (pt tb 0)),(Value.agg (vb (kl K)).toArray),.int .i64 us,.slice A l.length c] w (AuPost w s1 ta q Ky b):=by
 have h0:=((Hp.ro1 (rSB (.slice A l.length c) l) hv).addR (rTab F tb s) hT (by simp))
 refine mE 45 ?_
 refine mN h0 41 (vb (kl K)) fun g2 w2 h2=>?_
 refine mN h2 71 ([(Value.string ByteArray.empty),(Value.int .i64 0),(Value.int .i64 0)]++vb (List.replicate 16 0)++[(Value.slice none 0 0)]) fun g3 w3 h3=>?_
 refine mN h3 71 ([(Value.string ByteArray.empty),(Value.int .i64 0),(Value.int .i64 0)]++vb (List.replicate 16 0)++[(Value.slice none 0 0)]) fun g5 w5 h5=>?_
 refine ma h5 2 ?_
 refine mT (x_openR h5 0 rfl hs K us l (Value.slice A l.length c) (some body) (by kernel_rfl) (h5.rd 1 rfl) ho) ?_
 rintro _ w7 ⟨A7,c7,rfl,h7⟩
 refine mT (x_unp h7 hu [(Value.slice A7 body.length c7)] (by kernel_rfl) (unp_any (OB.sb (h7.at_ 0 rfl)))) ?_
 rintro _ w11 ⟨G11,x11,rfl,h11⟩
 obtain ⟨A11,c11,rfl,_⟩:=(h11.at_ 0 rfl).2
 refine mN h11 71 ([(Value.string ByteArray.empty),(Value.int .i64 0),(Value.int .i64 0)]++vb (List.replicate 16 0)++[(Value.slice none 0 0)]) fun g16 w16 h16=>?_
 refine mT (xR h16 0 ([(Value.string s1),(Value.int .i64 ta),(Value.int .i64 q)]++vb (kl Ky)++[(Value.slice A11 b.length c11)])) fun _ w17 h17=>?_
 refine ma h17 0 ?_
 refine mT (xR h17 4 ([(Value.string s1),(Value.int .i64 ta),(Value.int .i64 q)]++vb (kl Ky)++[(Value.slice A11 b.length c11)])) fun _ w20 h20=>?_
 refine mF (post_2 (r:=.cell 8 71) (s:=.tmp 9) (by kernel_rfl) rfl (rce (h20.at_ 4 rfl)) (rtm (Value.int .i64 0)) ?_)
 exact ⟨_,_,rfl,au_end h20 1 rfl⟩
theorem opth_yes{s:STab}{K:Bytes}{us:Int}{l:Bytes}{t:Thing}(h:openTh s K us l=.inr t):∃ body,s.open_ K us l=some body/\unpB body=.inr t:=by
 unfold openTh at h
 split at h
 · cases h
 rename_i body ho;exact ⟨body,ho,h⟩
theorem auth_any{F:Nat->Prop}{tb:Nat}{s:STab}{K:Fin 16->UInt8}{us:Int}{bv:Value}{l:Bytes}{w:World}(hT:(rTab F tb s).Φ w)(hs:TabOk s)(hv:SB w bv l){s1:ByteArray}{ta q:Int}{Ky:Fin 16->UInt8}{b:Bytes}(h:openTh s (kl K) us l=.inr (.authent s1 ta q Ky b)):Calls Tryz.prog 23 #[(Value.iface 30 (pt tb 0)),(Value.agg (vb (kl K)).toArray),.int .i64 us,bv] w (AuPost w s1 ta q Ky b):=by
 obtain ⟨A,c,rfl,_⟩:=id hv
 obtain ⟨body,ho,hu⟩:=opth_yes h
 exact au_yes hT hs hv ho hu
end
section
open Go.RowKit Go.QT
theorem eqFields_self{P:Program}(d:Nat)(xs:Array Value)(w:World):∀ (fs:List Field),(∀ f ∈ fs,∃ x,(∀ W,(part f.type xs f.offset).run P W=.ok x W)/\∀ W,(Op.equalIn d f.type x x).run P W=.ok true W)->(Op.eqFields d xs xs fs).run P w=.ok true w
 | [],_=>by simp [Op.eqFields]
 | f::fs,h=>by
   obtain ⟨x,h1,h2⟩:=h f (by simp)
   have ih:=eqFields_self d xs w fs (fun g hg=>h g (by simp [hg]))
   unfold Op.eqFields
   split
   · simp only [Sem.run_bind,h1,h2,Result.andThen_ok,ih,Bool.not_true,Bool.false_eq_true,if_false]
   exact ih
theorem part_at{P:Program}(t:TypeId)(cs:List Value)(k:Nat)(v:Value)(ht:∀ W,(isAgg t).run P W=.ok false W)(hv:cs[k]?=some v)(W:World):(part t cs.toArray k).run P W=.ok v W:=by
 have e:cs.toArray[k]?=some v:=by simpa using hv
 simp only [part,Sem.run_bind,ht,Result.andThen_ok,Bool.false_eq_true,if_false,e,Sem.run_pure]
theorem part_ar{P:Program}(t:TypeId)(n:Nat)(cs:List Value)(k:Nat)(m:List Value)(ht:∀ W,(isAgg t).run P W=.ok true W)(hs:∀ W,(sizeOf t).run P W=.ok n W)(hm:(cs.drop k).take n=m)(W:World):(part t cs.toArray k).run P W=.ok (.agg m.toArray) W:=by
 have e:cs.toArray.extract k (k+n)=m.toArray:=by
   apply Array.ext'
   rw [Array.toList_extract,← hm]
   simp [List.extract_eq_take_drop]
 simp only [part,Sem.run_bind,ht,hs,Result.andThen_ok,if_true,Sem.run_pure]
 rw [e]
theorem self_struct{P:Program}(d:Nat)(t:TypeId)(cs:List Value)(tl:List (TypeId × Nat))(ht:P.underlying t=some (.struct (P.fieldsOf t)))(hp:P.stoodInHeld t=false)(hf:(P.fieldsOf t).toList.map (fun f=>(f.type,f.offset))=tl)
   (h:∀ p ∈ tl,∃ x,(∀ W,(part p.1 cs.toArray p.2).run P W=.ok x W)/\∀ W,(Op.equalIn d p.1 x x).run P W=.ok true W) (w:World):(Op.equalIn (d+1) t (.agg cs.toArray) (.agg cs.toArray)).run P w=.ok true w:=by
 rw [run_equalIn_struct w d t _ _ ht hp]
 refine eqFields_self d _ w _ fun f hm=>?_
 exact h (f.type,f.offset) (by rw [← hf];exact List.mem_map_of_mem hm)
section
theorem seq_int(t:TypeId)(ht:Tryz.prog.underlying t=some (.int .i64))(n:Int)(W:World):(Op.equalIn 9999 t (.int .i64 n) (.int .i64 n)).run Tryz.prog W=.ok true W:=by
 rw [run_equalIn_int W 9998 t .i64 .i64 _ _ ht];simp
theorem seq_str(s:ByteArray)(W:World):(Op.equalIn 9999 9 (.string s) (.string s)).run Tryz.prog W=.ok true W:=by
 rw [run_equalIn_string W 9998 9 _ _ (by kernel_rfl)];simp
theorem seq_key(K:Bytes)(hK:K.length=16)(W:World):(Op.equalIn 9999 41 (.agg (vb K).toArray) (.agg (vb K).toArray)).run Tryz.prog W=.ok true W:=by
 rw [run_equalIn16 9997 41 K K W (by kernel_rfl) hK hK];simp
end
end
section
open Go.RowKit Go.QT
/-- A field of two structs. -/
inductive Fq
 | num (k:IntKind) (m n:Int)
 | str (s t:ByteArray)
 | tru (a b:Bool)
 | key (K L:Fin 16->UInt8)
def Fq.l:Fq->List Value
 | .num k m _=>[.int k m]
 | .str s _=>[.string s]
 | .tru a _=>[.bool a]
 | .key K _=>vb (kl K)
def Fq.r:Fq->List Value
 | .num k _ n=>[.int k n]
 | .str _ t=>[.string t]
 | .tru _ b=>[.bool b]
 | .key _ L=>vb (kl L)
def Fq.eqb:Fq->Bool
 | .num _ m n=>m == n
 | .str s t=>decide (s=t)
 | .tru a b=>a == b
 | .key K L=>decide (kl K=kl L)
noncomputable def Fq.ok (P:Program) (t:TypeId):Fq->Bool
 | .num ..=>(match P.underlying t,pureVal P (isAgg t) with|some (.int _),some false=>true|_,_=>false)
 | .str ..=>(match P.underlying t,pureVal P (isAgg t) with|some .string,some false=>true|_,_=>false)
 | .tru ..=>(match P.underlying t,pureVal P (isAgg t) with|some .bool,some false=>true|_,_=>false)
 | .key ..=>(match P.underlying t,pureVal P (isAgg t),pureVal P (sizeOf t) with|some (.array 16 e),some true,some 16=>Nat.beq e 5|_,_,_=>false)
section
variable{P:Program}{t:TypeId}
theorem ok_num{k:IntKind}{m n:Int}(h:(Fq.num k m n).ok P t=true):∃ k',P.underlying t=some (.int k')/\pureVal P (isAgg t)=some false:=by
 simp only [Fq.ok] at h
 split at h
 · rename_i kd' hu ha;exact ⟨_,hu,ha⟩
 cases h
theorem ok_str{s u:ByteArray}(h:(Fq.str s u).ok P t=true):P.underlying t=some .string/\pureVal P (isAgg t)=some false:=by
 simp only [Fq.ok] at h
 split at h
 · rename_i hu ha;exact ⟨hu,ha⟩
 cases h
theorem ok_tru{a b:Bool}(h:(Fq.tru a b).ok P t=true):P.underlying t=some .bool/\pureVal P (isAgg t)=some false:=by
 simp only [Fq.ok] at h
 split at h
 · rename_i hu ha;exact ⟨hu,ha⟩
 cases h
theorem ok_key{K L:Fin 16->UInt8}(h:(Fq.key K L).ok P t=true):P.underlying t=some (.array 16 5)/\pureVal P (isAgg t)=some true/\pureVal P (sizeOf t)=some 16:=by
 simp only [Fq.ok] at h
 split at h
 · rename_i e hu ha hs
   have he:=Nat.eq_of_beq_eq_true h
   subst he;exact ⟨hu,ha,hs⟩
 cases h
end
theorem beq_str(s t:ByteArray):(s.toList == t.toList)=decide (s=t):=by
 rw [ByteArray.toList_eq,ByteArray.toList_eq,Bool.eq_iff_iff,beq_iff_eq,decide_eq_true_eq]
 constructor
 · intro h;cases s;cases t;simp only [ByteArray.mk.injEq];exact Array.ext' h
 rintro rfl;rfl
theorem fq_one(q:Fq)(t:TypeId)(k:Nat)(xs ys:List Value)(ok:q.ok Tryz.prog t=true)(hl:(xs.drop k).take q.l.length=q.l)(hr:(ys.drop k).take q.r.length=q.r) :
   ∃ x y,(∀ W,(part t xs.toArray k).run Tryz.prog W=.ok x W)/\(∀ W,(part t ys.toArray k).run Tryz.prog W=.ok y W)/\∀ W,(Op.equalIn 9999 t x y).run Tryz.prog W=.ok q.eqb W:=by
 have one:∀ (zs:List Value) (v:Value),(zs.drop k).take 1=[v]->zs[k]?=some v:=by
   intro zs v h
   have:=congrArg (·[0]?) h
   simpa [List.getElem?_take,List.getElem?_drop] using this
 cases q with
 | num kd m n =>
   obtain ⟨kd',hu,ha⟩:=ok_num ok
   exact ⟨_,_,part_at t xs k _ (pureVal_run ha) (one xs _ hl),part_at t ys k _ (pureVal_run ha) (one ys _ hr),fun W=>run_equalIn_int W 9998 t kd kd' m n hu⟩
 | str s u =>
   obtain ⟨hu,ha⟩:=ok_str ok
   exact ⟨_,_,part_at t xs k _ (pureVal_run ha) (one xs _ hl),part_at t ys k _ (pureVal_run ha) (one ys _ hr),fun W=>(run_equalIn_string W 9998 t s u hu).trans (by rw [beq_str];rfl)⟩
 | tru a b =>
   obtain ⟨hu,ha⟩:=ok_tru ok
   exact ⟨_,_,part_at t xs k _ (pureVal_run ha) (one xs _ hl),part_at t ys k _ (pureVal_run ha) (one ys _ hr),fun W=>run_equalIn_bool W 9998 t a b hu⟩
 | key K L =>
   obtain ⟨hu,ha,hs⟩:=ok_key ok
   have hK:(vb (kl K)).length=16:=by simp [vb,kl]
   have hL:(vb (kl L)).length=16:=by simp [vb,kl]
   have hl:(xs.drop k).take (vb (kl K)).length=vb (kl K):=hl
   have hr:(ys.drop k).take (vb (kl L)).length=vb (kl L):=hr
   rw [hK] at hl;rw [hL] at hr
   exact ⟨_,_,part_ar t 16 xs k _ (pureVal_run ha) (pureVal_run hs) hl,part_ar t 16 ys k _ (pureVal_run ha) (pureVal_run hs) hr,fun W=>run_equalIn16 9997 t _ _ W hu (kl_len K) (kl_len L)⟩
theorem fq_all (xs ys : List Value) (w : World) : ∀ (fs : List Field) (qs : List Fq), fs.length = qs.length -> fs.all (fun f => f.name != "_") = true -> ((fs.zip qs).all fun p => p.2.ok Tryz.prog p.1.type) = true -> (fs.zip qs).map (fun p => (xs.drop p.1.offset).take p.2.l.length) = (fs.zip qs).map (·.2.l) -> (fs.zip qs).map (fun p => (ys.drop p.1.offset).take p.2.r.length) = (fs.zip qs).map (·.2.r) ->
   (Op.eqFields 9999 xs.toArray ys.toArray fs).run Tryz.prog w=.ok (qs.all Fq.eqb) w
 | [],[],_,_,_,_,_=>by simp [Op.eqFields]
 | f::fs,q::qs,hn,hb,ho,hl,hr=>by
   simp only [List.zip_cons_cons,List.all_cons,List.map_cons,Bool.and_eq_true,List.cons.injEq] at hb ho hl hr
   obtain ⟨x,y,h1,h2,h3⟩:=fq_one q f.type f.offset xs ys ho.1 hl.1 hr.1
   have ih:=fq_all xs ys w fs qs (by simpa using hn) hb.2 ho.2 hl.2 hr.2
   unfold Op.eqFields
   have hne : f.name ≠ "_" := by simpa using hb.1
   rw [if_pos hne]
   simp only [Sem.run_bind,h1,h2,h3,Result.andThen_ok,List.all_cons]
   cases q.eqb
   · simp
   simp [ih]
/-- == of two structs. -/
theorem e_eqS{o:Oper}{a:Act}(qs:List Fq)(b:Bool)(hb:qs.all Fq.eqb=b){W:World}(ho:o.op=.binOp .eql (bT o) (bX o) (bY o) (bU o):=by kernel_rfl)(hx:a.eval (bX o)=.agg (qs.map Fq.l).flatten.toArray:=by kernel_rfl)(hy:a.eval (bY o)=.agg (qs.map Fq.r).flatten.toArray:=by kernel_rfl)
   (hg : Tryz.prog.eqGuardType Tryz.prog.depth (bT o) = false := by kernel_rfl) (ht : Tryz.prog.underlying (bT o) = some (.struct (Tryz.prog.fieldsOf (bT o))) := by kernel_rfl) (hp : Tryz.prog.stoodInHeld (bT o) = false := by kernel_rfl) (hn : (Tryz.prog.fieldsOf (bT o)).toList.length = qs.length := by kernel_rfl) (hu : (Tryz.prog.fieldsOf (bT o)).toList.all (fun f => f.name != "_") = true := by kernel_rfl)
   (hk:(((Tryz.prog.fieldsOf (bT o)).toList.zip qs).all fun p=>p.2.ok Tryz.prog p.1.type)=true:=by kernel_rfl) (hl:((Tryz.prog.fieldsOf (bT o)).toList.zip qs).map (fun p=>((qs.map Fq.l).flatten.drop p.1.offset).take p.2.l.length)=((Tryz.prog.fieldsOf (bT o)).toList.zip qs).map (·.2.l):=by kernel_rfl) (hr:((Tryz.prog.fieldsOf (bT o)).toList.zip qs).map (fun p=>((qs.map Fq.r).flatten.drop p.1.offset).take p.2.r.length)=((Tryz.prog.fieldsOf (bT o)).toList.zip qs).map (·.2.r):=by kernel_rfl) :
   (execOp a.eval o).run Tryz.prog W=.ok (.value (.bool b)) W:=by
 subst hb
 have h:=fq_all _ _ W _ qs hn hu hk hl hr
 unfold execOp
 rw [ho]
 simp only [hx,hy,Sem.run_bind,run_eqGuard_agg W _ (bT o) _ _ _ _ hg,Result.andThen_ok,run_eql_struct]
 rw [show (10000:Nat)=9999+1 from rfl,run_equalIn_struct W 9999 (bT o) _ _ ht hp,h]
 rfl
end
section
open Go.RowKit Go.QT
/-- A row of the call's own; without elements it may stand anywhere, without room. -/
def rOW(E:TypeId)(sz:Nat)(v:Value)(xs:List (List Value)):Res where
 F:=fun q=>xs≠[]/\v.ownBlock=some q
 Φ:=fun w=>(xs=[]/\∃ A,v=.slice A 0 0)∨(xs≠[]/\OV w 0 E sz v xs)
 lt:=fun h q hq=>h.elim (fun h=>absurd h.1 hq.1) fun h=>(rOV E sz v xs).lt h.2 q hq.2
 keep:=fun h hs hk=>h.imp id fun h=>⟨h.1,(rOV E sz v xs).keep h.2 hs fun q hq=>hk q ⟨h.1,hq⟩⟩
section
variable{P:Program}{o:Oper}{a:Act}{w w' w0:World}{sz:Nat}{E:TypeId}{v:Value}{xs:List (List Value)}{F0:Nat->Prop}{ro rs:List Res}
theorem OW.form(h:(rOW E sz v xs).Φ w):∃ A c,v=.slice A xs.length c/\RV w sz A c xs:=by
 rcases h with ⟨rfl,A,rfl⟩|⟨_,h⟩
 · exact ⟨A,0,rfl,Nat.le_refl _,by unfold maxLen;omega,by simp,fun h=>absurd rfl h⟩
 obtain ⟨A,c,rfl,_⟩:=h.form
 exact ⟨A,c,rfl,(OV.rvn h).2⟩
theorem OW.rvn{A:Option Addr}{n c:Nat}(h:(rOW E sz (.slice A n c) xs).Φ w):xs.length=n/\RV w sz A c xs:=by
 obtain ⟨A',c',e,h⟩:=OW.form h
 injection e with h1 h2 h3
 subst h1;subst h3
 exact ⟨h2.symm,h⟩
theorem append_alias(t e ty:TypeId)(i:TypeInfo)(z:Value)(ht:P.underlying t=some (.slice e))(hi:P.info? e=some i)(hz:i.zero=some z)(A:Option Addr)(x:Value)(news:List Value)(hs:Src P i.size t x 1 news w)(hfit:Builtin.nextslicecap 1 0*i.bytes<=281474976710656) :
   (Builtin.append_ #[t,t] ty #[.slice A 0 0,x]).run P w=(Builtin.append_ #[t,t] ty #[.slice none 0 0,x]).run P w:=by
 have hold:∀ A:Option Addr,(Builtin.firstCells i.size 0 (.slice A 0 0)).run P w.drew=.ok ([]:List Value).toArray w.drew:=by
   intro A
   cases A with
   | none=>exact run_firstCells_none w.drew i.size 0 0 0
   | some A=>exact run_firstCells_some w.drew i.size 0 A 0 0 [] (by simp) (by simp)
 rw [run_append_grow_src w t t ty e i z ht hi hz A 0 0 [] (hold A) x 1 news hs (by omega) (by decide) (by simpa using hfit),run_append_grow_src w t t ty e i z ht hi hz none 0 0 [] (hold none) x 1 news hs (by omega) (by decide) (by simpa using hfit)]
/-- append(v, x). -/
theorem x_pushW(h:Hp F0 w0 w ro rs)(i j:Nat){g:Nat}{T:TypeId}{news:List Value}(hi:rs[i]?=some (rOW E sz v xs))(hj:rs[j]?=some (rBlk g T news))(s x:Operand)(t:TypeId)(ho:o.op=.call { callee:=.builtin .append,args:=#[s,x],argTypes:=#[t,t] })(bytes:Nat)(z:Value)(ht:P.underlying t=some (.slice E))(hinf:(P.info? E).map (fun i=>(i.zero,i.size,i.bytes))=some (some z,sz,bytes))
   (hzs:z.cells.size=sz) (hsz:decide (0<sz)=true) (hs:a.eval s=v) (hx:a.eval x=.slice (some ⟨g,0,none⟩) 1 1) (hn:news.length=sz) (h1:news.all (·.oneCell')=true) (hlen:(xs.length+1)*bytes<=140737488355328) (hlen2:xs.length<maxLen) (ys:List (List Value)) (n:Nat) (hys:ys=xs++[news]) (hyn:ys.length=n) :
   OpTo P o a w (fun u w'=>∃ A cc,u=.slice A n cc/\Hp F0 w0 w' ro (rs.set i (rOW E sz (.slice A n cc) ys))):=by
 subst hys;subst hyn
 have hsz:=of_decide_eq_true hsz
 have h1:∀ u ∈ news,u.oneCell'=true:=by simpa using h1
 have hb:Blk w g T news:=h.own j _ hj
 have hne:xs++[news]≠[]:=by simp
 rcases h.own i _ hi with ⟨rfl,A,rfl⟩|⟨hx0,hv⟩
 · let o':Oper:={ o with op:=.call { callee:=.builtin .append,args:=#[.const (.slice none 0 0),x],argTypes:=#[t,t] } }
   obtain ⟨v',w',hrun,h2,h3,h4⟩:=OV.push (P:=P) (o:=o') (a:=a) (.const (.slice none 0 0)) x t rfl 0 E sz bytes z ht hinf hzs hsz (.slice none 0 0) [] rfl (OV.nil w 0 E sz) g T news 1 hx hb hn h1 hlen hlen2 (Nat.zero_le _)
   obtain ⟨A',cc,e,_,_⟩:=h2.form
   obtain ⟨i0,hi0,hz0,hz1,hz2⟩:=info_parts hinf
   have hsrc:Src P i0.size t (.slice (some ⟨g,0,none⟩) 1 1) 1 news w:=Src.ofSlice w ht ⟨g,0,none⟩ 1 1 news (by rw [hz1];omega) (fun j u hu=>by rw [Addr.add_mid,Nat.zero_add,hb.cell,hu]) h1
   have hrun2:(execOp a.eval o).run P w=.ok (.value v') w':=by
     unfold execOp at hrun ⊢
     simp only [o',resolve,invoke,builtin,Sem.run_bind,Sem.run_pure,Result.andThen_ok,List.map_toArray,List.map_cons,List.map_nil,hx,show a.eval (.const (.slice none 0 0))=.slice none 0 0 from rfl] at hrun
     simp only [ho,resolve,invoke,builtin,Sem.run_bind,Sem.run_pure,Result.andThen_ok,List.map_toArray,List.map_cons,List.map_nil,hs,hx]
     rw [append_alias t E _ i0 z ht hi0 hz0 A _ news hsrc (by rw [hz2];exact growslice_fits (need:=1) (old:=0) (by omega) (by simpa using hlen))]
     exact hrun
   refine OpTo.run v' hrun2 ⟨A',cc,e,h.upd i hi (Fr.of_grown h3 (fun q hq=>by cases hq)) (rOW E sz _ ([]++[news])) (.inr ⟨hne,e ▸ h2⟩) (fun q hq=>?_)⟩
   rcases h4 with h4|h4
   · have:v'.ownBlock=some q:=by rw [e];exact hq.2
     rw [h4] at this;cases this
   right
   have:v'.ownBlock=some q:=by rw [e];exact hq.2
   rw [h4] at this
   injection this with this
   omega
 obtain ⟨v',w',hrun,h2,h3,h4⟩:=OV.push (P:=P) s x t ho 0 E sz bytes z ht hinf hzs hsz v xs hs hv g T news 1 hx hb hn h1 hlen hlen2 (Nat.zero_le _)
 obtain ⟨A,cc,e,_,_⟩:=h2.form
 refine OpTo.run v' hrun ⟨A,cc,e,h.upd i hi (Fr.of_grown h3 (fun q hq=>.inl ⟨hx0,hq⟩)) (rOW E sz _ (xs++[news])) (.inr ⟨hne,e ▸ h2⟩) (fun q hq=>?_)⟩
 have hq2:v'.ownBlock=some q:=by rw [e];exact hq.2
 rcases h4 with h4|h4
 · left;exact ⟨hx0,by rw [← h4];exact hq2⟩
 right
 rw [h4] at hq2
 injection hq2 with hq2
 omega
/-- v[:0:0], as an own row. -/
theorem Hp.owNil(h:Hp F0 w0 w ro rs)(E sz:Nat)(A:Option Addr):Hp F0 w0 w ro (rOW E sz (.slice A 0 0) []::rs):=
 h.newS (Below.refl _ _) _ (.inl ⟨rfl,A,rfl⟩) (fun _q hq=>absurd rfl hq.1)
theorem e_cut00{A:Option Addr}{n c:Nat}(t:TypeId)(x hi mx:Operand)(ho:o.op=.slice t x none (some hi) (some mx))(hx:a.eval x=.slice A n c)(kh km:IntKind)(hh:a.eval hi=.int kh 0)(hm:a.eval mx=.int km 0)(ht:P.underlying t=some (.slice (P.elem t)))(hE:pureVal P (sizeOf (P.elem t))=some sz)(W:World) :
   (execOp a.eval o).run P W=.ok (.value (.slice A 0 0)) W:=by
 have hsz:=pureVal_run hE W
 have hr:(Instr.sliceAt t (.slice A n c) none (some (.int kh 0)) (some (.int km 0))).run P W=.ok (.slice A 0 0) W:=by
   rw [run_sliceAt_slice W t _ _ _ _ ht,run_slice_hm W t A n c ht kh km 0 0 (by omega) (by omega) (by omega),hsz];rfl
 unfold execOp
 simp only [ho,hx,hh,hm,Option.map_some,Option.map_none,Sem.run_bind,hr,Result.andThen_ok,Sem.run_pure]
end
theorem near_in{now t:Int}(h:nearF now t=true):0<=t/\t<=1099511627776/\0<=now/\now<=1099511627776:=by unfold nearF at h;have:=of_decide_eq_true h;omega
/-- Something that was shown. -/
structure Sh where
 c:ByteArray
 t:Int
 q:Int
deriving DecidableEq
def Sh.cs(x:Sh):List Value:=[.string x.c,.int .i64 x.t,.int .i64 x.q]
def keptF(now:Int)(l:List Sh):List Sh:=l.filter fun y=>decide (now-y.t<=30)
theorem sh_eqb(x y:Sh):[Fq.str y.c x.c,Fq.num .i64 y.t x.t,Fq.num .i64 y.q x.q].all Fq.eqb=decide (y=x):=by
 obtain ⟨a,b,c⟩:=x
 obtain ⟨a',b',c'⟩:=y
 rw [Bool.eq_iff_iff]
 simp [Fq.eqb]
theorem kept_yes{now:Int}{l:List Sh}{k:Nat}{y:Sh}(h:l[k]?=some y)(ht:now-y.t<=30):keptF now (l.take (k+1))=keptF now (l.take k)++[y]:=by
 unfold keptF
 rw [List.take_add_one,h,Option.toList_some,List.filter_append]
 simp [ht]
theorem kept_no{now:Int}{l:List Sh}{k:Nat}{y:Sh}(h:l[k]?=some y)(ht:¬ now-y.t<=30):keptF now (l.take (k+1))=keptF now (l.take k):=by
 unfold keptF
 rw [List.take_add_one,h,Option.toList_some,List.filter_append]
 simp;omega
theorem not_in_step{l:List Sh}{k:Nat}{x y:Sh}(h:l[k]?=some y)(hne:decide (y=x)=false)(hn:x ∉ l.take k):x ∉ l.take (k+1):=by
 rw [List.take_add_one,h]
 intro hm
 rcases List.mem_append.1 hm with hm|hm
 · exact hn hm
 have:x=y:=by simpa using hm
 exact (of_decide_eq_false hne) this.symm
theorem sh_get{l:List Sh}{k:Nat}{y:Sh}(h:l[k]?=some y):(l.map Sh.cs)[k]?=some [.string y.c,.int .i64 y.t,.int .i64 y.q]:=by rw [List.getElem?_map,h];rfl
theorem kept_len(now:Int)(l:List Sh):(keptF now l).length<=l.length:=List.length_filter_le _ _
/-- The cache's parts. -/
def lCa(cb:Nat)(A:Option Addr)(c most:Nat)(l:List Sh):List Res:=[rBlk cb 232 [.slice A l.length c,.int .i64 (most:Int)],rOW 236 3 (.slice A l.length c) (l.map Sh.cs)]
/-- A cache. -/
def rCa(G:Nat->Prop)(cb most:Nat)(l:List Sh):Res where
 F:=G
 Φ:=fun w=>∃ A c,G=(rStar (lCa cb A c most l)).F/\(rStar (lCa cb A c most l)).Φ w
 lt:=fun ⟨_,_,hG,h⟩ q hq=>(rStar _).lt h q (hG ▸ hq)
 keep:=fun ⟨A,c,hG,h⟩ hs hk=>⟨A,c,hG,(rStar _).keep h hs fun q hq=>hk q (hG ▸ hq)⟩
section
variable{F0:Nat->Prop}{w0 w w':World}{ro rs:List Res}{G:Nat->Prop}{cb most:Nat}{l:List Sh}
theorem Hp.openC(h:Hp F0 w0 w ro rs)(i:Nat)(hi:rs[i]?=some (rCa G cb most l)):∃ A c,G=(rStar (lCa cb A c most l)).F/\Hp F0 w0 w ro (lCa cb A c most l++rs.eraseIdx i):=by
 obtain ⟨A,c,hG,h2⟩:=h.own i _ hi
 refine ⟨A,c,hG,?_⟩
 exact h.call1 i hi ⟨Fr.refl _ _,h2.1,fun j r hr q hq=>.inl (hG ▸ ⟨j,r,hr,hq⟩),h2.2,by simp,by simp⟩
theorem Hp.closeC{A:Option Addr}{c:Nat}(h:Hp F0 w0 w ro (lCa cb A c most l++rs)):Hp F0 w0 w ro (rCa (rStar (lCa cb A c most l)).F cb most l::rs):=by
 have h1:=h.closeStar
 have h2:=h1.upd 0 rfl (Fr.refl _ _) (rCa (rStar (lCa cb A c most l)).F cb most l) ⟨A,c,rfl,h1.own 0 _ rfl⟩ (fun q hq=>.inl hq)
 exact h2
end
end
section
open Go.RowKit Go.QT
/-- What Show leaves. -/
def ShPost(G:Nat->Prop)(cb most:Nat)(w:World)(r:Nat × List Sh)(e:Ending)(w':World):Prop:=e=.returned (.int .i64 (r.1:Int))/\∃ G',Hp G w w' [] [rCa G' cb most r.2]
theorem show_twice{G:Nat->Prop}{cb most:Nat}{l:List Sh}{w:World}(hC:(rCa G cb most l).Φ w){now:Int}{x:Sh}(hnear:nearF now x.t=true)(hl:∀ y ∈ l,0<=y.t/\y.t<=1099511627776)(hm:l.length<=1000000)(hx2:x ∈ l):Calls Tryz.prog 70 #[pt cb 0,.int .i64 now,.string x.c,.int .i64 x.t,.int .i64 x.q] w (ShPost G cb most w (14,l)):=by
 obtain ⟨A,c,hG,h00⟩:=(Hp.one (rCa G cb most l) hC).openC 0 rfl
 have hin:=near_in hnear
 have h0:=(show Hp G w w [] (lCa cb A c most l++[]) from h00)
 refine mE 74 ?_
 refine mT (x_dp (v:=.bool true) h0 83 [(Value.int .i64 now),(Value.int .i64 x.t)] (by kernel_rfl) (hnear ▸ near_any now x.t _)) ?_
 rintro _ w4 ⟨rfl,h4⟩
 refine mN h4 236 ([(Value.string ByteArray.empty),(Value.int .i64 0),(Value.int .i64 0)]) fun g6 w6 h6=>?_
 refine mT (xR h6 0 ([(Value.string x.c),(Value.int .i64 x.t),(Value.int .i64 x.q)])) fun _ w7 h7=>?_
 refine ma h7 1 ?_
 refine mW 27 (v:=(Value.slice A 0 0)) (e_cut00 (sz:=3) (A:=A) (n:=l.length) (c:=c) 230 (.tmp 26) (.const (Value.int .i64 0)) (.const (Value.int .i64 0)) (by kernel_rfl) (by kernel_rfl) .i64 .i64 (by kernel_rfl) (by kernel_rfl) (by kernel_rfl) (by kernel_rfl) _) ?_
 have h9:=h7.owNil 236 3 A
 refine ma h9 2 ?_
 refine mL (fun mM xX aA wL=>∃ (k:Nat) (A1:Option Addr) (c1:Nat) (ys:List Sh),(k<=l.length)/\(x ∉ l.take k)/\(keptF now (l.take k)=ys)/\mM=l.length-k/\aA=patch xX 74 [(0,(pt cb 0)),(1,(Value.int .i64 now)),(11,(pt g6 0)),(12,(Value.slice A1 ys.length c1)),(31,(Value.slice A l.length c)),(32,(Value.int .i64 ((l.length:Int)))),(33,(Value.int .i64 ((k:Int))))]/\Hp G w wL [] [rOW 236 3 ((Value.slice A1 ys.length c1)) (ys.map Sh.cs),rBlk g6 236 ([(Value.string x.c),(Value.int .i64 x.t),(Value.int .i64 x.q)]),rBlk cb 232 ([(Value.slice A l.length c),(Value.int .i64 ((most:Int)))]),rOW 236 3 ((Value.slice A l.length c)) (l.map Sh.cs)]) ⟨_,_,0,A,0,(([]:List Sh)),(Nat.zero_le _),(by simp),rfl,rfl,pM,h9.sel [0,1,2,3] [] (by kernel_rfl) rfl rfl⟩ ?_
 rintro _ x12 _ w12 ⟨k,A1,c1,ys,hk,hx,hys,rfl,rfl,h12⟩ KL12 hKL12
 refine mAt ?_
 by_cases b14:k<l.length
 ·
  refine mX 34 (.bool true) (Value.bool (decide ((k:Int)<(l.length:Int)))) (by simp;omega) ?_
  have hyl:ys.length<=k:=by rw [← hys];have:=kept_len now (l.take k);rw [List.length_take] at this;omega
  obtain ⟨y,hy⟩:∃ y,l[k]?=some y:=⟨_,List.getElem?_eq_getElem (by omega)⟩
  have hyt:=hl y (List.mem_of_getElem? hy)
  refine mW 35 (eIx (OW.rvn (h12.at_ 3 rfl)).2 k l.length (OW.rvn (h12.at_ 3 rfl)).1 (by omega) 230 (.tmp 31) (.tmp 33) .i64 236) ?_
  refine mW 36 (e_elemsN (OW.rvn (h12.at_ 3 rfl)).2 k 0 ([(Value.string y.c),(Value.int .i64 y.t),(Value.int .i64 y.q)]) (sh_get hy) 236 (.tmp 35) (by kernel_rfl) ([(Value.string y.c),(Value.int .i64 y.t),(Value.int .i64 y.q)]) (by kernel_rfl) (by kernel_rfl) (by kernel_rfl)) ?_
  refine mN h12 236 ([(Value.string ByteArray.empty),(Value.int .i64 0),(Value.int .i64 0)]) fun g18 w18 h18=>?_
  refine mT (xR h18 0 ([(Value.string y.c),(Value.int .i64 y.t),(Value.int .i64 y.q)])) fun _ w19 h19=>?_
  rcases hne:decide (y=x) with _|_
  ·
   refine ma h19 0 ?_
   refine ma h19 2 ?_
   refine mW 39 (v:=(Value.bool false)) (e_eqS [Fq.str y.c x.c,Fq.num .i64 y.t x.t,Fq.num .i64 y.q x.q] false ((sh_eqb x y).trans hne)) ?_
   rcases (show now-y.t<=30∨¬ now-y.t<=30 by omega) with h30|h30
   ·
    refine ma h19 0 ?_
    refine mW 43 (exec_sub _ _ _ _ bO now y.t (by kernel_rfl) (by kernel_rfl) (now-y.t) rfl (by omega) (by omega) _) ?_
    refine mX 44 (.bool true) (Value.bool (decide (now-y.t<=30))) (by simp;omega) ?_
    refine ma h19 0 ?_
    refine mT (x_bs h19 236 ([(Value.string y.c),(Value.int .i64 y.t),(Value.int .i64 y.q)]) 1 (by kernel_rfl)) ?_
    rintro _ w25 ⟨g25,rfl,h25⟩
    refine mT (x_pushW h25 2 0 rfl rfl (.tmp 45) (.tmp 47) 230 (by kernel_rfl) 32 (Value.agg ([(Value.string ByteArray.empty),(Value.int .i64 0),(Value.int .i64 0)]).toArray) (by kernel_rfl) (by kernel_rfl) (by kernel_rfl) (by kernel_rfl) (by kernel_rfl) (by kernel_rfl) (by kernel_rfl) (by kernel_rfl) (by rw [List.length_map];omega) (by rw [List.length_map];unfold maxLen;omega) ((ys++[y]).map Sh.cs) ((ys++[y]).length) (by rw [List.map_append];rfl) (List.length_map _)) ?_
    rintro _ w26 ⟨A26,c26,rfl,h26⟩
    refine mW 49 (exec_add _ _ _ _ bO ((k:Int)) 1 (by kernel_rfl) (by kernel_rfl) ((k:Int)+1) rfl (by omega) (by omega) _) ?_
    exact mK KL12 (hKL12 _ _ ⟨l.length-(k+1),_,(by omega),(k+1),A26,c26,((ys++[y])),(by omega),(not_in_step hy hne hx),(by rw [kept_yes hy h30,hys]),rfl,pM,h26.sel [2,3,4,5] [] (by kernel_rfl) rfl rfl⟩)
   refine ma h19 0 ?_
   refine mW 43 (exec_sub _ _ _ _ bO now y.t (by kernel_rfl) (by kernel_rfl) (now-y.t) rfl (by omega) (by omega) _) ?_
   refine mX 44 (.bool false) (Value.bool (decide (now-y.t<=30))) (by simp;omega) ?_
   refine mW 49 (exec_add _ _ _ _ bO ((k:Int)) 1 (by kernel_rfl) (by kernel_rfl) ((k:Int)+1) rfl (by omega) (by omega) _) ?_
   exact mK KL12 (hKL12 _ _ ⟨l.length-(k+1),_,(by omega),(k+1),A1,c1,ys,(by omega),(not_in_step hy hne hx),(by rw [kept_no hy h30,hys]),rfl,pM,h19.sel [1,2,3,4] [] (by kernel_rfl) rfl rfl⟩)
  refine ma h19 0 ?_
  refine ma h19 2 ?_
  refine mW 39 (v:=(Value.bool true)) (e_eqS [Fq.str y.c x.c,Fq.num .i64 y.t x.t,Fq.num .i64 y.q x.q] true ((sh_eqb x y).trans hne)) ?_
  refine mP (Value.int .i64 14) ?_
  exact ⟨rfl,_,(show Hp _ _ _ _ (lCa cb A c most l++[]) from h19.sel [3,4] [] rfl rfl rfl).closeC⟩
 refine mX 34 (.bool false) (Value.bool (decide ((k:Int)<(l.length:Int)))) (by simp;omega) ?_
 rw [List.take_of_length_le (by omega)] at hys
 have hyl:ys.length<=l.length:=by rw [← hys];exact kept_len now l
 refine mT (xS h12 2 ([(Value.slice A1 ys.length c1),(Value.int .i64 ((most:Int)))])) fun _ w30 h30=>?_
 refine dG h30 10 10 (fun W=>(rBlk cb 232 ([(Value.slice A1 ys.length c1),(Value.int .i64 ((most:Int)))])).Φ W/\True) (fun w33 h33=>⟨h33.at_ 2 rfl,trivial⟩) ?_
 intro w33 h33
 refine dP 4 [0,1,2,5,6,7] ?_
 refine dL 3 (fun W hW=>hW.1) ?_
 refine dP 2 [4] ?_
 refine dL 8 (fun W hW=>hW.1) ?_
 refine dP 0 [9] ?_
 refine dX ?_
 refine m_if 63 ((ys.length:Int) ≥ (most:Int)) (by kernel_rfl) (fun b34=>?_) (fun b34=>?_)
 ·
  refine mP (Value.int .i64 8) ?_
  exact absurd hx2 (by rw [List.take_of_length_le (by omega)] at hx;exact hx)
 refine dG h33 11 8 (fun W=>(rBlk cb 232 ([(Value.slice A1 ys.length c1),(Value.int .i64 ((most:Int)))])).Φ W/\(rBlk g6 236 ([(Value.string x.c),(Value.int .i64 x.t),(Value.int .i64 x.q)])).Φ W/\True) (fun w37 h37=>⟨h37.at_ 2 rfl,h37.at_ 1 rfl,trivial⟩) ?_
 intro w37 h37
 refine dP 7 [0,1,2,3] ?_
 refine dL 4 (fun W hW=>hW.1) ?_
 refine dL 5 (fun W hW=>hW.2.1) ?_
 refine dT 6 (x_bs h37 236 ([(Value.string x.c),(Value.int .i64 x.t),(Value.int .i64 x.q)]) 1 (by kernel_rfl)) ?_
 rintro _ w38 ⟨g38,rfl,h38⟩
 refine ⟨⟨h38.at_ 3 rfl,h38.at_ 2 rfl,trivial⟩,?_⟩
 refine dT 7 (x_pushW h38 1 0 rfl rfl (.tmp 68) (.tmp 70) 230 (by kernel_rfl) 32 (Value.agg ([(Value.string ByteArray.empty),(Value.int .i64 0),(Value.int .i64 0)]).toArray) (by kernel_rfl) (by kernel_rfl) (by kernel_rfl) (by kernel_rfl) (by kernel_rfl) (by kernel_rfl) (by kernel_rfl) (by kernel_rfl) (by rw [List.length_map];omega) (by rw [List.length_map];unfold maxLen;omega) ((ys++[x]).map Sh.cs) ((ys++[x]).length) (by rw [List.map_append];rfl) (List.length_map _)) ?_
 rintro _ w39 ⟨A39,c39,rfl,h39⟩
 refine ⟨⟨h39.at_ 3 rfl,h39.at_ 2 rfl,trivial⟩,?_⟩
 refine dN 8 ?_
 refine dN 9 ?_
 refine dE 10 (xS h39 3 ([(Value.slice A39 ((ys++[x]).length) c39),(Value.int .i64 ((most:Int)))])) ?_
 rintro _ w40 h40
 refine dX ?_
 refine mP (Value.int .i64 0) ?_
 exact absurd hx2 (by rw [List.take_of_length_le (by omega)] at hx;exact hx)
theorem show_ok{G:Nat->Prop}{cb most:Nat}{l:List Sh}{w:World}(hC:(rCa G cb most l).Φ w){now:Int}{x:Sh}(hnear:nearF now x.t=true)(hl:∀ y ∈ l,0<=y.t/\y.t<=1099511627776)(_hm:l.length<=1000000)(hx0:x ∉ l)(hmost:l.length<most)(hmm:most<=1000000):Calls Tryz.prog 70 #[pt cb 0,.int .i64 now,.string x.c,.int .i64 x.t,.int .i64 x.q] w (ShPost G cb most w (0,keptF now l++[x])):=by
 obtain ⟨A,c,hG,h00⟩:=(Hp.one (rCa G cb most l) hC).openC 0 rfl
 have hin:=near_in hnear
 have h0:=(show Hp G w w [] (lCa cb A c most l++[]) from h00)
 refine mE 74 ?_
 refine mT (x_dp (v:=.bool true) h0 83 [(Value.int .i64 now),(Value.int .i64 x.t)] (by kernel_rfl) (hnear ▸ near_any now x.t _)) ?_
 rintro _ w4 ⟨rfl,h4⟩
 refine mN h4 236 ([(Value.string ByteArray.empty),(Value.int .i64 0),(Value.int .i64 0)]) fun g6 w6 h6=>?_
 refine mT (xR h6 0 ([(Value.string x.c),(Value.int .i64 x.t),(Value.int .i64 x.q)])) fun _ w7 h7=>?_
 refine ma h7 1 ?_
 refine mW 27 (v:=(Value.slice A 0 0)) (e_cut00 (sz:=3) (A:=A) (n:=l.length) (c:=c) 230 (.tmp 26) (.const (Value.int .i64 0)) (.const (Value.int .i64 0)) (by kernel_rfl) (by kernel_rfl) .i64 .i64 (by kernel_rfl) (by kernel_rfl) (by kernel_rfl) (by kernel_rfl) _) ?_
 have h9:=h7.owNil 236 3 A
 refine ma h9 2 ?_
 refine mL (fun mM xX aA wL=>∃ (k:Nat) (A1:Option Addr) (c1:Nat) (ys:List Sh),(k<=l.length)/\(x ∉ l.take k)/\(keptF now (l.take k)=ys)/\mM=l.length-k/\aA=patch xX 74 [(0,(pt cb 0)),(1,(Value.int .i64 now)),(11,(pt g6 0)),(12,(Value.slice A1 ys.length c1)),(31,(Value.slice A l.length c)),(32,(Value.int .i64 ((l.length:Int)))),(33,(Value.int .i64 ((k:Int))))]/\Hp G w wL [] [rOW 236 3 ((Value.slice A1 ys.length c1)) (ys.map Sh.cs),rBlk g6 236 ([(Value.string x.c),(Value.int .i64 x.t),(Value.int .i64 x.q)]),rBlk cb 232 ([(Value.slice A l.length c),(Value.int .i64 ((most:Int)))]),rOW 236 3 ((Value.slice A l.length c)) (l.map Sh.cs)]) ⟨_,_,0,A,0,(([]:List Sh)),(Nat.zero_le _),(by simp),rfl,rfl,pM,h9.sel [0,1,2,3] [] (by kernel_rfl) rfl rfl⟩ ?_
 rintro _ x12 _ w12 ⟨k,A1,c1,ys,hk,hx,hys,rfl,rfl,h12⟩ KL12 hKL12
 refine mAt ?_
 by_cases b14:k<l.length
 ·
  refine mX 34 (.bool true) (Value.bool (decide ((k:Int)<(l.length:Int)))) (by simp;omega) ?_
  have hyl:ys.length<=k:=by rw [← hys];have:=kept_len now (l.take k);rw [List.length_take] at this;omega
  obtain ⟨y,hy⟩:∃ y,l[k]?=some y:=⟨_,List.getElem?_eq_getElem (by omega)⟩
  have hyt:=hl y (List.mem_of_getElem? hy)
  refine mW 35 (eIx (OW.rvn (h12.at_ 3 rfl)).2 k l.length (OW.rvn (h12.at_ 3 rfl)).1 (by omega) 230 (.tmp 31) (.tmp 33) .i64 236) ?_
  refine mW 36 (e_elemsN (OW.rvn (h12.at_ 3 rfl)).2 k 0 ([(Value.string y.c),(Value.int .i64 y.t),(Value.int .i64 y.q)]) (sh_get hy) 236 (.tmp 35) (by kernel_rfl) ([(Value.string y.c),(Value.int .i64 y.t),(Value.int .i64 y.q)]) (by kernel_rfl) (by kernel_rfl) (by kernel_rfl)) ?_
  refine mN h12 236 ([(Value.string ByteArray.empty),(Value.int .i64 0),(Value.int .i64 0)]) fun g18 w18 h18=>?_
  refine mT (xR h18 0 ([(Value.string y.c),(Value.int .i64 y.t),(Value.int .i64 y.q)])) fun _ w19 h19=>?_
  have hne:decide (y=x)=false:=decide_eq_false fun e=>hx0 (e ▸ List.mem_of_getElem? hy)
  refine ma h19 0 ?_
  refine ma h19 2 ?_
  refine mW 39 (v:=(Value.bool false)) (e_eqS [Fq.str y.c x.c,Fq.num .i64 y.t x.t,Fq.num .i64 y.q x.q] false ((sh_eqb x y).trans hne)) ?_
  rcases (show now-y.t<=30∨¬ now-y.t<=30 by omega) with h30|h30
  ·
   refine ma h19 0 ?_
   refine mW 43 (exec_sub _ _ _ _ bO now y.t (by kernel_rfl) (by kernel_rfl) (now-y.t) rfl (by omega) (by omega) _) ?_
   refine mX 44 (.bool true) (Value.bool (decide (now-y.t<=30))) (by simp;omega) ?_
   refine ma h19 0 ?_
   refine mT (x_bs h19 236 ([(Value.string y.c),(Value.int .i64 y.t),(Value.int .i64 y.q)]) 1 (by kernel_rfl)) ?_
   rintro _ w24 ⟨g24,rfl,h24⟩
   refine mT (x_pushW h24 2 0 rfl rfl (.tmp 45) (.tmp 47) 230 (by kernel_rfl) 32 (Value.agg ([(Value.string ByteArray.empty),(Value.int .i64 0),(Value.int .i64 0)]).toArray) (by kernel_rfl) (by kernel_rfl) (by kernel_rfl) (by kernel_rfl) (by kernel_rfl) (by kernel_rfl) (by kernel_rfl) (by kernel_rfl) (by rw [List.length_map];omega) (by rw [List.length_map];unfold maxLen;omega) ((ys++[y]).map Sh.cs) ((ys++[y]).length) (by rw [List.map_append];rfl) (List.length_map _)) ?_
   rintro _ w25 ⟨A25,c25,rfl,h25⟩
   refine mW 49 (exec_add _ _ _ _ bO ((k:Int)) 1 (by kernel_rfl) (by kernel_rfl) ((k:Int)+1) rfl (by omega) (by omega) _) ?_
   exact mK KL12 (hKL12 _ _ ⟨l.length-(k+1),_,(by omega),(k+1),A25,c25,((ys++[y])),(by omega),(not_in_step hy hne hx),(by rw [kept_yes hy h30,hys]),rfl,pM,h25.sel [2,3,4,5] [] (by kernel_rfl) rfl rfl⟩)
  refine ma h19 0 ?_
  refine mW 43 (exec_sub _ _ _ _ bO now y.t (by kernel_rfl) (by kernel_rfl) (now-y.t) rfl (by omega) (by omega) _) ?_
  refine mX 44 (.bool false) (Value.bool (decide (now-y.t<=30))) (by simp;omega) ?_
  refine mW 49 (exec_add _ _ _ _ bO ((k:Int)) 1 (by kernel_rfl) (by kernel_rfl) ((k:Int)+1) rfl (by omega) (by omega) _) ?_
  exact mK KL12 (hKL12 _ _ ⟨l.length-(k+1),_,(by omega),(k+1),A1,c1,ys,(by omega),(not_in_step hy hne hx),(by rw [kept_no hy h30,hys]),rfl,pM,h19.sel [1,2,3,4] [] (by kernel_rfl) rfl rfl⟩)
 refine mX 34 (.bool false) (Value.bool (decide ((k:Int)<(l.length:Int)))) (by simp;omega) ?_
 rw [List.take_of_length_le (by omega)] at hys
 have hyl:ys.length<=l.length:=by rw [← hys];exact kept_len now l
 refine mT (xS h12 2 ([(Value.slice A1 ys.length c1),(Value.int .i64 ((most:Int)))])) fun _ w28 h28=>?_
 refine dG h28 10 10 (fun W=>(rBlk cb 232 ([(Value.slice A1 ys.length c1),(Value.int .i64 ((most:Int)))])).Φ W/\True) (fun w31 h31=>⟨h31.at_ 2 rfl,trivial⟩) ?_
 intro w31 h31
 refine dP 4 [0,1,2,5,6,7] ?_
 refine dL 3 (fun W hW=>hW.1) ?_
 refine dP 2 [4] ?_
 refine dL 8 (fun W hW=>hW.1) ?_
 refine dP 0 [9] ?_
 refine dX ?_
 refine m_if 63 ((ys.length:Int) ≥ (most:Int)) (by kernel_rfl) (fun b32=>?_) (fun b32=>?_)
 ·
  refine mP (Value.int .i64 8) ?_
  exact absurd b32 (by omega)
 refine dG h31 11 8 (fun W=>(rBlk cb 232 ([(Value.slice A1 ys.length c1),(Value.int .i64 ((most:Int)))])).Φ W/\(rBlk g6 236 ([(Value.string x.c),(Value.int .i64 x.t),(Value.int .i64 x.q)])).Φ W/\True) (fun w35 h35=>⟨h35.at_ 2 rfl,h35.at_ 1 rfl,trivial⟩) ?_
 intro w35 h35
 refine dP 7 [0,1,2,3] ?_
 refine dL 4 (fun W hW=>hW.1) ?_
 refine dL 5 (fun W hW=>hW.2.1) ?_
 refine dT 6 (x_bs h35 236 ([(Value.string x.c),(Value.int .i64 x.t),(Value.int .i64 x.q)]) 1 (by kernel_rfl)) ?_
 rintro _ w36 ⟨g36,rfl,h36⟩
 refine ⟨⟨h36.at_ 3 rfl,h36.at_ 2 rfl,trivial⟩,?_⟩
 refine dT 7 (x_pushW h36 1 0 rfl rfl (.tmp 68) (.tmp 70) 230 (by kernel_rfl) 32 (Value.agg ([(Value.string ByteArray.empty),(Value.int .i64 0),(Value.int .i64 0)]).toArray) (by kernel_rfl) (by kernel_rfl) (by kernel_rfl) (by kernel_rfl) (by kernel_rfl) (by kernel_rfl) (by kernel_rfl) (by kernel_rfl) (by rw [List.length_map];omega) (by rw [List.length_map];unfold maxLen;omega) ((ys++[x]).map Sh.cs) ((ys++[x]).length) (by rw [List.map_append];rfl) (List.length_map _)) ?_
 rintro _ w37 ⟨A37,c37,rfl,h37⟩
 refine ⟨⟨h37.at_ 3 rfl,h37.at_ 2 rfl,trivial⟩,?_⟩
 refine dN 8 ?_
 refine dN 9 ?_
 refine dE 10 (xS h37 3 ([(Value.slice A37 ((ys++[x]).length) c37),(Value.int .i64 ((most:Int)))])) ?_
 rintro _ w38 h38
 refine dX ?_
 refine mP (Value.int .i64 0) ?_
 rw [hys]
 exact ⟨rfl,_,(show Hp _ _ _ _ (lCa cb A37 c37 most (ys++[x])++[]) from h38.sel [3,1] [] rfl rfl rfl).closeC⟩
end
section
open Go.RowKit Go.QT
section
variable{o:Oper}{a:Act}{F0:Nat->Prop}{w0 w:World}{ro rs:List Res}
end
end
section
open Go.RowKit Go.QT
end
section
open Go.RowKit Go.QT
section
variable{o:Oper}{a:Act}{F0 F G:Nat->Prop}{w0 w:World}{ro rs:List Res}{tb cb most nb ec:Nat}{s s3:STab}{sl sl2:List Sh}{c1 srv:ByteArray}
end
end
section
theorem mkB_inj{k:UInt8}{m n:Nat}(hm:m<18446744073709551616)(hn:n<18446744073709551616)(h:mkB k m=mkB k n):m=n:=by
 have h1:(mkB k m).drop 8=(mkB k n).drop 8:=by rw [h]
 have h2:put8 m=put8 n:=h1
 rw [← getN_put8 m hm,← getN_put8 n hn,h2]
section
variable{s s':STab}{f g:SFrom}{n:Nat}
end
end
section
open Go.RowKit
theorem markOf_mkB{k:UInt8}{n:Nat}(hk:k=107∨k=98∨k=100)(hn:n<=1099511627776):markOf (mkB k n)=some (k,n):=by
 have h2:gb (mkB k n) 2=k:=rfl
 have h8:getN ((mkB k n).drop 8)=n:=getN_put8 n (by omega)
 unfold markOf
 rw [h2,h8,if_pos ⟨rfl,hk,hn,rfl⟩]
/-! ### Tables -/
section
variable{s s':STab}{f g:SFrom}{n:Nat}{k l:Bytes}{u:Int}{b:Bytes}
theorem box_at{x:SSealed}(h:s.boxes[n]?=some x)(hn:n<1000000):s.box (mkB 98 (n+1))=some x:=by
 unfold STab.box
 rw [markOf_mkB (by decide) (by omega)]
 simp [h]
theorem open_at(h:s.boxes[n]?=some ⟨k,u,b⟩)(hn:n<1000000):s.open_ k u (mkB 98 (n+1))=some b:=by
 unfold STab.open_
 rw [box_at h hn]
 simp
theorem made_boxes(h:s'=s.made f):s'.boxes=s.boxes/\s'.sums=s.sums:=by
 subst h;unfold STab.made;split <;> exact ⟨rfl,rfl⟩
end
end
section
open Go.RowKit Go.QT
/-- A table: how many keys, which boxes, which keys are known to come how. -/
structure TS(s:STab)(n:Nat)(bx:List SSealed)(kn:List (SFrom × Nat)):Prop where
 keys:s.keys.length=n
 boxes:s.boxes=bx
 known:s.known=kn
 body:∀ x ∈ bx,x.body.length<=1000000
section
variable{s s':STab}{n m:Nat}{bx:List SSealed}{kn:List (SFrom × Nat)}{f:SFrom}{k:Bytes}{u:Int}{b:Bytes}
theorem TS.empty:TS STab.empty 0 [] []:=⟨rfl,rfl,rfl,fun _ hx=>absurd hx List.not_mem_nil⟩
theorem TS.add(h:TS s n bx kn)(e:s'=s.add f):TS s' (n+1) bx kn:=by
 subst e
 exact ⟨by show (s.keys++[f]).length=_;rw [List.length_append,h.keys];rfl,h.boxes,h.known,h.body⟩
theorem TS.seal(h:TS s n bx kn)(e:s'=s.seal k u b)(hb:b.length<=1000000):TS s' n (bx++[⟨k,u,b⟩]) kn:=by
 subst e
 exact ⟨h.keys,by show s.boxes++_=_;rw [h.boxes],h.known,fun x hx=>(List.mem_append.1 hx).elim (fun hx=>h.body x hx) (fun hx=>by rw [List.mem_singleton.1 hx];exact hb)⟩
theorem TS.at_none(h:TS s n bx kn)(hf:∀ p ∈ kn,p.1≠f):s.at_ f=none:=by
 unfold STab.at_
 rw [h.known,List.find?_eq_none.2 (fun p hp=>by simpa using hf p hp)];rfl
theorem TS.made_new(h:TS s n bx kn)(e:s'=s.made f)(hf:∀ p ∈ kn,p.1≠f):TS s' (n+1) bx (kn++[(f,n+1)])/\s.num f=n+1:=by
 subst e
 have h0:=h.at_none hf
 unfold STab.made STab.num
 rw [h0]
 refine ⟨⟨?_,h.boxes,?_,h.body⟩,?_⟩
 · show (s.keys++[f]).length=_;rw [List.length_append,h.keys];rfl
 · show s.known++_=_;rw [h.known,h.keys]
 show s.keys.length+1=_;rw [h.keys]
theorem TS.made_old(h:TS s n bx kn)(e:s'=s.made f)(hf:kn.find? (fun p=>decide (p.1=f))=some (f,m)):TS s' n bx kn/\s.num f=m:=by
 subst e
 have h0:s.at_ f=some m:=by unfold STab.at_;rw [h.known,hf];rfl
 unfold STab.made STab.num
 rw [h0]
 exact ⟨h,rfl⟩
theorem TS.room(h:TS s n bx kn)(r:Nat)(hn:n+r<1000000)(hb:bx.length+r<1000000):Room r s:=
 ⟨by rw [h.boxes];exact h.body,by rw [h.boxes];exact hb,by rw [h.keys];exact hn⟩
theorem TS.opn(h:TS s n bx kn){i:Nat}{t:Thing}(hi:bx[i]?=some ⟨k,u,b⟩)(hp:packB t=.inr b)(hl:i<1000000):openTh s k u (mkB 98 (i+1))=.inr t:=by
 unfold openTh
 rw [open_at (by rw [h.boxes];exact hi) hl]
 exact unp_pack hp
theorem TS.opnNo(h:TS s n bx kn){i:Nat}{k':Bytes}{u':Int}(hi:bx[i]?=some ⟨k',u',b⟩)(hne:¬ (k'=k/\u'=u))(hl:i<1000000):openTh s k u (mkB 98 (i+1))=.inl 13:=by
 unfold openTh STab.open_
 rw [box_at (by rw [h.boxes];exact hi) hl]
 simp only [Option.bind_some]
 rw [if_neg hne]
end
theorem placeI_one(u:User)(s:ByteArray):placeI [u] s=if cmpS u.name s<0 then 1 else 0:=by
 show bsGo [u] s 1 0 1=_
 unfold bsGo
 rw [if_pos (by decide),bsGo_done _ _ (by decide),bsGo_done _ _ (by decide)]
 rfl
theorem place_other{u:User}{s:ByteArray}(h:u.name≠s):placeB [u] s=false:=by
 unfold placeB
 rw [placeI_one]
 split
 · rfl
 show (decide (0<1) && decide (cmpS u.name s=0))=false
 rw [decide_eq_false (fun hh=>h (cmpS_eq hh))];rfl
/-- What is right, and not long, is packed. -/
theorem pack_is{t:Thing}(hr:rightTh t=true)(hl:(wrV (valD t)).length<=4096):packB t=.inr (wrV (valD t)):=by
 unfold packB;rw [if_pos hr,if_pos hl]
theorem val_small{t:Thing}{n:Nat}(h:∀ v ∈ valL t,(wrV v).length<=n)(hn:(valL t).length<=7):(wrV (valD t)).length<=10+7*n:=by
 have h0:=wrV_leT (valD t)
 have e:bodyV (valD t)=wrL (valL t):=rfl
 rw [e] at h0
 have key:∀ (l:List DVal),(∀ v ∈ l,(wrV v).length<=n)->(wrL l).length<=l.length*n:=by
   intro l
   induction l with
   | nil=>intro _;rw [wrL];simp
   | cons v l ih =>
     intro hh
     rw [wrL,List.length_append,List.length_cons,Nat.add_mul]
     have:=hh v (by simp)
     have:=ih (fun x hx=>hh x (by simp [hx]))
     omega
 have:=key _ h
 have:(valL t).length*n<=7*n:=Nat.mul_le_mul_right _ hn
 omega
theorem pack_stamp{t q:Int}(h1:inN t=true)(h2:inN q=true):∃ b,packB (.stamp t q)=.inr b:=by
 refine ⟨_,pack_is ?_ ?_⟩
 · show rightM _ _=true
   unfold rightM
   rw [List.all_cons,List.all_cons,List.all_nil,h1,h2]
   decide
 refine Nat.le_trans (val_small (n:=18) ?_ (by simp [valL])) (by decide)
 intro v hv
 simp only [valL,List.mem_cons,List.not_mem_nil,or_false] at hv
 rcases hv with rfl|rfl <;> exact wr_nD _
theorem pack_inside{f a u r:Int}{K:Fin 16->UInt8}{s:ByteArray}(hr:rightM s [f,a,u,r]=true)(hs:s.size<=300):∃ b,packB (.inside f K s a u r)=.inr b:=by
 refine ⟨_,pack_is hr ?_⟩
 refine Nat.le_trans (val_small (n:=310) ?_ (by simp [valL])) (by decide)
 intro v hv
 simp only [valL,List.mem_cons,List.not_mem_nil,or_false] at hv
 have h1:=wr_bD (kl K)
 have h2:=wr_bD s.data.toList
 rw [kl_len] at h1
 rw [size_toList] at h2
 rcases hv with rfl|rfl|rfl|rfl|rfl|rfl
 · have:=wr_nD f;omega
 · omega
 · omega
 · have:=wr_nD a;omega
 · have:=wr_nD u;omega
 have:=wr_nD r;omega
theorem pack_reply{f n a u r:Int}{K:Fin 16->UInt8}{s:ByteArray}(hr:rightM s [f,n,a,u,r]=true)(hs:s.size<=300):∃ b,packB (.reply f K n s a u r)=.inr b:=by
 refine ⟨_,pack_is hr ?_⟩
 refine Nat.le_trans (val_small (n:=310) ?_ (by simp [valL])) (by decide)
 intro v hv
 simp only [valL,List.mem_cons,List.not_mem_nil,or_false] at hv
 have h1:=wr_bD (kl K)
 have h2:=wr_bD s.data.toList
 rw [kl_len] at h1
 rw [size_toList] at h2
 rcases hv with rfl|rfl|rfl|rfl|rfl|rfl|rfl
 · have:=wr_nD f;omega
 · omega
 · have:=wr_nD n;omega
 · omega
 · have:=wr_nD a;omega
 · have:=wr_nD u;omega
 have:=wr_nD r;omega
theorem rightM_is{s:ByteArray}{l:List Int}(h:rightN s=true)(hl:∀ x ∈ l,inN x=true):rightM s l=true:=by
 unfold rightM;rw [h,List.all_eq_true.2 hl];rfl
theorem inN_is{x:Int}(h1:0<=x)(h2:x<=1099511627776):inN x=true:=inN_in (by omega) (by omega)
theorem ex_key(n:Nat):∃ K,kl K=mkB 107 n:=by
 obtain ⟨K,hK⟩:=kl_of (mkB 107 n) (mkB_len _ _)
 exact ⟨K,hK.symm⟩
theorem pack_le6{t:Thing}{b:Bytes}(h:packB t=.inr b):b.length<=1000000:=Nat.le_trans (pack_le h) (by decide)
/-- Marks of other numbers are other keys. -/
theorem key_ne{K L:Fin 16->UInt8}{i j:Nat}(hK:kl K=mkB 107 i)(hL:kl L=mkB 107 j)(hij:i≠j)(hi:i<1000000)(hj:j<1000000):kl K≠kl L:=by
 rw [hK,hL];exact fun e=>hij (mkB_inj (by omega) (by omega) e)
end
section
open Go.RowKit Go.QT
section
variable{P:Program}{o:Oper}{a:Act}
end
end
section
open Go.RowKit Go.QT
end
section
open Go.RowKit Go.QT
section
variable{s:ByteArray}{f i n:Nat}(hinv:runesN s (s.size+1) 0 0=runesN s (f+1) i n)(hi:i<s.size)
include hinv hi
end
end
section
open Go.RowKit Go.QT
section
variable{o:Oper}{a:Act}{F0 F:Nat->Prop}{w0 w w':World}{ro rs:List Res}{tb:Nat}{s:STab}
end
end
section
open Go.RowKit Go.QT
/-- What it holds, and since when. -/
def bmE(o:Option (ByteArray × Int))(b:Nat):Array MapEntry:=match o with
 | none=>#[]
 | some p=>#[{ key:=.string p.1,val:=.int .i64 p.2,born:=b }]
def rBm(mb:Nat)(o:Option (ByteArray × Int)):Res where
 F:=fun q=>q=mb
 Φ:=fun w=>∃ b clock,w.heap[mb]?=some (.map (bmE o b) clock)/\b<clock+1/\(o≠none->b<clock)
 lt:=fun h q hq=>by
   obtain ⟨b,clock,hm,_⟩:=h
   rw [show q=mb from hq];exact (Array.getElem?_eq_some_iff.1 hm).1
 keep:=fun h _ hk=>by
   obtain ⟨b,clock,hm,h2⟩:=h
   exact ⟨b,clock,(hk mb rfl).trans hm,h2⟩
section
variable{F0:Nat->Prop}{w0 w w':World}{ro rs:List Res}{mb r:Nat}{o':Option (ByteArray × Int)}{o:Oper}{a:Act}{s:ByteArray}{t:Int}{ph:Bool}
end
/-- A book's parts. -/
def lBk(bk mb:Nat)(o:Option (ByteArray × Int)):List Res:=[rBlk bk 266 [.map (some mb)],rBm mb o]
/-- A book. -/
def rBk(G:Nat->Prop)(bk:Nat)(o:Option (ByteArray × Int)):Res where
 F:=G
 Φ:=fun w=>∃ mb,G=(rStar (lBk bk mb o)).F/\(rStar (lBk bk mb o)).Φ w
 lt:=fun ⟨_,hG,h⟩ q hq=>(rStar _).lt h q (hG ▸ hq)
 keep:=fun ⟨mb,hG,h⟩ hs hk=>⟨mb,hG,(rStar _).keep h hs fun q hq=>hk q (hG ▸ hq)⟩
section
variable{F0:Nat->Prop}{w0 w w':World}{ro rs:List Res}{G:Nat->Prop}{bk:Nat}{o:Option (ByteArray × Int)}
theorem Hp.closeBk{mb:Nat}(h:Hp F0 w0 w ro (lBk bk mb o++rs)):Hp F0 w0 w ro (rBk (rStar (lBk bk mb o)).F bk o::rs):=by
 have h1:=h.closeStar
 exact h1.upd 0 rfl (Fr.refl _ _) (rBk (rStar (lBk bk mb o)).F bk o) ⟨mb,rfl,h1.own 0 _ rfl⟩ (fun q hq=>.inl hq)
end
end
section
open Go.RowKit Go.QT
section
variable{o:Oper}{a:Act}{F0 F:Nat->Prop}{w0 w:World}{ro rs:List Res}
theorem e_maxI(x y:Operand)(ts:Array TypeId)(ho:o.op=.call { callee:=.builtin .max,args:=#[x,y],argTypes:=ts })(k k':IntKind)(m n:Int)(hx:a.eval x=.int k m)(hy:a.eval y=.int k' n)(r:Int)(hr:(if n>m then n else m)=r)(W:World) :
   (execOp a.eval o).run Tryz.prog W=.ok (.value (.int k r)) W:=by
 subst hr
 unfold execOp
 simp only [ho,resolve,invoke,builtin,Sem.run_bind,Sem.run_pure,Result.andThen_ok,List.map_toArray,List.map_cons,List.map_nil,hx,hy,run_max_int2]
theorem x_makeBk(h:Hp F0 w0 w ro rs)(ho:o.op=.makeMap 264 none) :
   OpTo Tryz.prog o a w (fun v w'=>∃ mb,v=.map (some mb)/\Hp F0 w0 w' ro (rBm mb none::rs)):=by
 refine OpTo.run (.map (some w.heap.size)) (w':=w.alloc (.map #[] 0)) ?_ ⟨_,rfl,h.newS ((Below.refl _ _).alloc (Nat.le_refl _) _) (rBm w.heap.size none) ⟨0,0,heap_alloc_new w _,by omega,fun hh=>absurd rfl hh⟩ (fun q hq=>by rw [show q=_ from hq];exact Nat.le_refl _)⟩
 have h1:(Instr.makeMap 264 none).run Tryz.prog w=.ok (.map (some w.heap.size)) (w.alloc (.map #[] 0)):=rfl
 unfold execOp
 simp only [ho,Option.map_none,Sem.run_bind,h1,Result.andThen_ok,Sem.run_pure]
end
theorem cnew_any(w:World):Calls Tryz.prog 66 #[.int .i64 64] w (fun e w'=>∃ G cb,e=.returned (pt cb 0)/\Hp (fun _=>False) w w' [] [rCa G cb 64 []]):=by
 have h0:=Hp.nil (fun _=>False) w
 refine mE 8 ?_
 refine mW 4 (v:=(Value.int .i64 64)) (e_min (.tmp 3) (.const (Value.int .i64 64)) #[3,3] (by kernel_rfl) .i64 .i64 64 64 (by kernel_rfl) (by kernel_rfl) 64 rfl _) ?_
 refine mW 5 (v:=(Value.int .i64 64)) (e_maxI (.const (Value.int .i64 1)) (.tmp 4) #[3,3] (by kernel_rfl) .i64 .i64 1 64 (by kernel_rfl) (by kernel_rfl) 64 rfl _) ?_
 refine mN h0 232 ([(Value.slice none 0 0),(Value.int .i64 64)]) fun g3 w3 h3=>?_
 refine mP (pt g3 0) ?_
 have h4:=h3.owNil 236 3 none
 exact ⟨_,_,rfl,(show Hp _ _ _ _ (lCa g3 none 0 64 []++[]) from h4.sel [1,0] [] rfl rfl rfl).closeC⟩
theorem bknew_any(w:World):Calls Tryz.prog 77 #[] w (fun e w'=>∃ bk mv,e=.returned (pt bk 0)/\Hp (fun _=>False) w w' [] [rBk mv bk none]):=by
 have h0:=Hp.nil (fun _=>False) w
 refine mE 4 ?_
 refine mT (x_makeBk h0 (by kernel_rfl)) ?_
 rintro _ w3 ⟨m3,rfl,h3⟩
 refine mN h3 266 ([(Value.map (some m3))]) fun g4 w4 h4=>?_
 refine mP (pt g4 0) ?_
 exact ⟨_,_,rfl,(show Hp _ _ _ _ (lBk _ m3 none++[]) from h4.sel [0,1] [] rfl rfl rfl).closeBk⟩
end
section
open Go.RowKit Go.QT
end
section
open Go.RowKit Go.QT
section
variable{s:STab}{k k':Bytes}{u u':Int}{b b' l β γ:Bytes}{x:SSealed}{t:Thing}{f:SFrom}{i n:Nat}
theorem bx_new(hl:s.boxes.length<1000000):(s.seal k u b).box (mkB 98 (s.boxes.length+1))=some ⟨k,u,b⟩:=
 box_at (s:=s.seal k u b) (n:=s.boxes.length) (by show (s.boxes++[_])[s.boxes.length]?=_;simp) hl
theorem seal_len:(s.seal k u b).boxes.length=s.boxes.length+1:=by show (s.boxes++[_]).length=_;simp
theorem bx_add:(s.add f).box l=s.box l:=rfl
theorem dig_boxes:(s.digest β).boxes=s.boxes:=by unfold STab.digest;split <;> rfl
theorem dig_keys:(s.digest β).keys=s.keys:=by unfold STab.digest;split <;> rfl
theorem op_bx(h:s.box l=some ⟨k,u,b⟩)(hp:packB t=.inr b):openTh s k u l=.inr t:=by
 unfold openTh STab.open_
 rw [h]
 simp only [Option.bind_some,and_self,if_true]
 exact unp_pack hp
/-- Where a sum stands. -/
def SK(s:STab)(β:Bytes)(n:Nat):Prop:=s.sumAt β=n/\n<s.sums.length
theorem sk_new:SK (s.digest β) β (s.sumAt β):=by
 unfold SK STab.digest
 split
 · rename_i h;exact ⟨rfl,h⟩
 rename_i h
 have h0:s.sumAt β=s.sums.length:=by
   have:s.sumAt β<=s.sums.length:=List.findIdx_le_length
   omega
 refine ⟨?_,by show s.sumAt β<(s.sums++[β]).length;rw [h0];simp⟩
 show (s.sums++[β]).findIdx (· = β)=s.sumAt β
 rw [List.findIdx_append]
 have e:s.sums.findIdx (· = β)=s.sums.length:=h0
 rw [if_neg (by omega)]
 simp [STab.sumAt,e]
theorem sk_dig(h:SK s β n):SK (s.digest γ) β n:=by
 obtain ⟨h1,h2⟩:=h
 unfold STab.digest
 split
 · exact ⟨h1,h2⟩
 refine ⟨?_,by show n<(s.sums++[γ]).length;rw [List.length_append];omega⟩
 show (s.sums++[γ]).findIdx (· = β)=n
 have e:s.sums.findIdx (· = β)=n:=h1
 rw [List.findIdx_append,if_pos (by omega),e]
theorem dig_old(h:SK s β n):s.digest β=s:=by
 unfold STab.digest
 rw [if_pos (by rw [h.1];exact h.2)]
theorem dig_len(h:s.sums.length<=n):(s.digest β).sums.length<=n+1:=by
 unfold STab.digest
 split
 · omega
 show (s.sums++[β]).length<=_;rw [List.length_append];simp;omega
theorem Room.digest{m:Nat}(h:Room m s):Room m (s.digest β):=⟨by rw [dig_boxes];exact h.body,by rw [dig_boxes];exact h.box,by rw [dig_keys];exact h.key⟩
end
section
variable{o:Oper}{a:Act}{F0 F:Nat->Prop}{w0 w:World}{ro rs:List Res}{tb:Nat}{s:STab}
end
abbrev bANN:ByteArray:=⟨#[97,110,110]⟩
abbrev bBOB:ByteArray:=⟨#[98,111,98]⟩
abbrev bKDC:ByteArray:=⟨#[107,100,99]⟩
theorem rTh_authent{w:World}{A:Option Addr}{c:Nat}{b:Bytes}(s1:ByteArray)(t q:Int)(K:Fin 16->UInt8)(h:SB w (.slice A b.length c) b):(rTh (rSB (.slice A b.length c) b).F (.iface 71 (.agg (auC s1 t q K (.slice A b.length c)).toArray)) (.authent s1 t q K b)).Φ w:=⟨(rSB _ _).lt h,A,c,rfl,rsg_of h⟩
theorem right_ann:rightN ⟨#[97,110,110]⟩=true:=by decide +kernel
theorem right_bob:rightN ⟨#[98,111,98]⟩=true:=by decide +kernel
theorem right_kdc:rightN ⟨#[107,100,99]⟩=true:=by decide +kernel
theorem pack_authent{s:ByteArray}{t q:Int}{K:Fin 16->UInt8}{c:Bytes}(hr:rightM s [t,q]=true)(hs:s.size<=300)(hc:c.length<=300):∃ b,packB (.authent s t q K c)=.inr b:=by
 refine ⟨_,pack_is hr ?_⟩
 refine Nat.le_trans (val_small (n:=310) ?_ (by simp [valL])) (by decide)
 intro v hv
 simp only [valL,List.mem_cons,List.not_mem_nil,or_false] at hv
 have h1:=wr_bD (kl K)
 have h2:=wr_bD s.data.toList
 have h3:=wr_bD c
 rw [kl_len] at h1
 rw [size_toList] at h2
 rcases hv with rfl|rfl|rfl|rfl|rfl
 · omega
 · have:=wr_nD t;omega
 · have:=wr_nD q;omega
 · omega
 omega
end
section
open Go.RowKit Go.QT
noncomputable abbrev cTb {P:Program} {s:Sp} (key:Nat) (hs:Spec P s):Pl P:=cA key hs [(0,0)]
abbrev tI:AV:=.i 30 (.p 0 0)
section
variable{κ:Kp}{nx:Nat}{s s2:STab}{F F':Nat->Prop}{w w':World}{A:Option Addr}{c:Nat}{l:Bytes}
theorem mkT0(hp:Hp F w w' [] [rTab F' (κ 0).n s2]):∃ κ':Kp,Agr (· < nx) κ κ'/\Hp F w w' [] ([eT 0 s2].map (Ent.res κ'))/\∀ e ∈ [eT 0 s2],e.holds κ':=by
 refine ⟨upT κ (rTab F' (κ 0).n s2),upT_agr _ _ _,?_,fun e he=>?_⟩
 · show Hp F w w' [] [(upT κ (rTab F' (κ 0).n s2) 0).r]
   unfold upT;rw [upK_at];exact hp
 rw [List.mem_singleton.1 he]
 show ∃ F,(upT κ (rTab F' (κ 0).n s2) 0).r=rTab F (upT κ (rTab F' (κ 0).n s2) 0).n s2
 unfold upT;rw [upK_at];exact ⟨F',rfl⟩
theorem mkT1(h0:0<nx)(hp:Hp F w w' [] [rTab F' (κ 0).n s2,rSB (.slice A l.length c) l]):∃ κ':Kp,Agr (· < nx) κ κ'/\(κ' nx).a=A/\(κ' nx).n=c/\Hp F w w' [] ([eT 0 s2,eB nx l].map (Ent.res κ'))/\∀ e ∈ [eT 0 s2,eB nx l],e.holds κ':=by
 have hp:=hp.upd 1 rfl (Fr.refl _ _) (rFB (.slice A l.length c) l) (show (rSB (.slice A l.length c) l).Φ w' from hp.own 1 _ rfl) (fun q hq=>.inl hq)
 have e0:upK (upT κ (rTab F' (κ 0).n s2)) nx ⟨c,A,rFB (.slice A l.length c) l⟩ 0=⟨(κ 0).n,(κ 0).a,rTab F' (κ 0).n s2⟩:=by
   rw [upK_ne _ _ (by omega)];unfold upT;rw [upK_at]
 have e1:upK (upT κ (rTab F' (κ 0).n s2)) nx ⟨c,A,rFB (.slice A l.length c) l⟩ nx=⟨c,A,rFB (.slice A l.length c) l⟩:=upK_at _ _ _
 refine ⟨upK (upT κ (rTab F' (κ 0).n s2)) nx ⟨c,A,rFB (.slice A l.length c) l⟩,fun k hk=>?_,by rw [e1],by rw [e1],?_,fun e he=>?_⟩
 · rw [upK_ne _ _ (Nat.ne_of_lt hk)];exact upT_agr κ _ (· < nx) k hk
 · show Hp F w w' [] [(upK (upT κ (rTab F' (κ 0).n s2)) nx ⟨c,A,rFB (.slice A l.length c) l⟩ 0).r,(upK (upT κ (rTab F' (κ 0).n s2)) nx ⟨c,A,rFB (.slice A l.length c) l⟩ nx).r]
   rw [e0,e1];exact hp
 rcases List.mem_cons.1 he with rfl|he
 · show ∃ F,(upK (upT κ (rTab F' (κ 0).n s2)) nx ⟨c,A,rFB (.slice A l.length c) l⟩ 0).r=rTab F (upK (upT κ (rTab F' (κ 0).n s2)) nx ⟨c,A,rFB (.slice A l.length c) l⟩ 0).n s2
   rw [e0];exact ⟨F',rfl⟩
 rw [List.mem_singleton.1 he]
 show sbC l _
 rw [e1];rfl
/-- What is only read: a table and bytes. -/
theorem ro2_s{f:FuncId}{al:List AV}{u:Value}{v:AV}(hv:∀ κ:Kp,v.den κ=u)(h:∀ (κ:Kp) (w:World) (F:Nat->Prop),(rTab F (κ 0).n s).Φ w->SB w (.slice (κ 1).a l.length (κ 1).n) l->Calls Tryz.prog f (AV.denL κ al).toArray w (DPost w u)):Spec Tryz.prog ⟨f,2,al,[eT 0 s,eB 1 l],[],v,[]⟩:=⟨fun κ w hh=>by
 have h0:=hh.ent (e:=eT 0 s) (by simp)
 obtain ⟨F,hF⟩:=h0.2
 have h1:(rTab F (κ 0).n s).Φ w:=by rw [← hF];exact h0.1
 have h2:=sb_ent (j:=1) (l:=l) hh (by simp)
 refine (h κ w F h1 h2).mono fun e w' ⟨e1,hb⟩=>⟨⟨κ,fun _ _=>⟨rfl,rfl⟩,by rw [e1,hv],⟨?_,fun e he=>absurd he List.not_mem_nil,fun e he=>absurd he List.not_mem_nil⟩⟩⟩
 rw [foot_nil]
 exact ((Hp.nil _ w).below hb).ha⟩
end
section
variable{n:Nat}{s:STab}{K Ky:Fin 16->UInt8}{us t q a u r f nn:Int}{b l m:Bytes}{s1:ByteArray}{ff:Bool}
theorem seal_post{p:Thing}{F:Nat->Prop}{w w':World}{e:Ending}{κ:Kp}{nx:Nat}(h0:0<nx)(hp:packB p=.inr b)(hn:s.boxes.length=n)(h:TSealPost w F (κ 0).n s K us (packB p) e w'):∃ κ':Kp,Agr (· < nx) κ κ'/\e=.returned ((AV.t [.o nx 16,aI 0]).den κ')/\Hp F w w' [] ([eT 0 (s.seal (kl K) us b),eB nx (mkB 98 (n+1))].map (Ent.res κ'))/\∀ e ∈ [eT 0 (s.seal (kl K) us b),eB nx (mkB 98 (n+1))],e.holds κ':=by
 rw [hp] at h
 obtain ⟨A,c,F',e1,h1⟩:=h
 rw [hn] at h1
 rw [show (Value.slice A 16 c)=.slice A (mkB 98 (n+1)).length c from by rw [mkB_len]] at h1
 obtain ⟨κ',k1,k2,k3,k4,k5⟩:=mkT1 (κ:=κ) h0 h1
 refine ⟨κ',k1,?_,k4,k5⟩
 rw [e1]
 show _=Ending.returned (.tuple #[.slice (κ' nx).a 16 (κ' nx).n,.int .i64 0])
 rw [k2,k3]
theorem sealStamp_s(hp:packB (.stamp t q)=.inr b)(hn:s.boxes.length=n)(hs:TabOk s):Spec Tryz.prog ⟨48,1,[tI,.c (aK K),aI us,.v (.iface 104 (.agg #[.int .i64 t,.int .i64 q]))],[],[eT 0 s],.t [.o 1 16,aI 0],[eT 0 (s.seal (kl K) us b),eB 1 (mkB 98 (n+1))]⟩:=
 tab_s fun κ w F hh hF hT=>(tseal_any hT hs (rTh_stamp w t q) (fun _ hf=>hf.elim) True.intro).mono fun e w' h=>seal_post (by omega) hp hn h
theorem sealAuth_s(hp:packB (.authent s1 t q Ky m)=.inr b)(hn:s.boxes.length=n)(hs:TabOk s)(hl:s1.size<=100000)(hm:m.length<=100000):Spec Tryz.prog ⟨48,2,[tI,.c (aK K),aI us,.i 71 (.c ([aS s1,aI t,aI q]++aK Ky++[.o 1 m.length]))],[eB 1 m],[eT 0 s],.t [.o 2 16,aI 0],[eT 0 (s.seal (kl K) us b),eB 2 (mkB 98 (n+1))]⟩:=
 tab_s fun κ w F hh hF hT=>by
   have h1:=sb_ent (j:=1) (l:=m) hh (by simp)
   have hd:∀ q,(rSB (.slice (κ 1).a m.length (κ 1).n) m).F q->¬ F q:=by
     have h2:=hh.ha.rdis ((eB 1 m).res κ) (by simp) ((eT 0 s).res κ) (by simp)
     intro q hq hf
     have h3:=hh.hr (eB 1 m) (by simp)
     have h3:(κ 1).r=rFB (.slice (κ 1).a m.length (κ 1).n) m:=h3
     exact h2 q (show ((κ 0).r).W q from by rw [hF];exact hf) (show ((κ 1).r).F q from by rw [h3];exact hq)
   have h4:=tseal_any (K:=K) (us:=us) hT hs (rTh_authent (A:=(κ 1).a) (c:=(κ 1).n) (b:=m) s1 t q Ky h1) hd ⟨hl,hm⟩
   have e:(AV.denL κ [tI,.c (aK K),aI us,.i 71 (.c ([aS s1,aI t,aI q]++aK Ky++[.o 1 m.length]))]).toArray=#[(Value.iface 30 (pt (κ 0).n 0)),(Value.agg (vb (kl K)).toArray),.int .i64 us,(.iface 71 (.agg ([Value.string s1,.int .i64 t,.int .i64 q]++vb (kl Ky)++[Value.slice (κ 1).a m.length (κ 1).n]).toArray))]:=by
     simp only [AV.denL,AV.den,denL_app,denL_rg]
   rw [e]
   exact h4.mono fun e w' h=>seal_post (by omega) hp hn h
theorem openReply_s(ho:openTh s (kl K) us l=.inr (.reply f Ky nn s1 a u r))(hs:TabOk s):Spec Tryz.prog ⟨80,2,[tI,.c (aK K),aI us,.o 1 l.length],[eT 0 s,eB 1 l],[],.t [.c ([aI f]++aK Ky++[aI nn,aS s1,aI a,aI u,aI r]),aI 0],[]⟩:=
 ro2_s (u:=outReply (.inr (.reply f Ky nn s1 a u r))) (fun κ=>by simp only [AV.den,AV.denL,denL_app,denL_rg];rfl) fun κ w F hT hb=>by
   have h:=oReply_any (K:=K) (us:=us) hT hs hb
   rw [ho] at h
   simp only [AV.denL,AV.den,denL_rg];exact h
theorem openInside_s(ho:openTh s (kl K) us l=.inr (.inside f Ky s1 a u r))(hs:TabOk s):Spec Tryz.prog ⟨68,2,[tI,.c (aK K),aI us,.o 1 l.length],[eT 0 s,eB 1 l],[],.t [.c ([aI f]++aK Ky++[aS s1,aI a,aI u,aI r]),aI 0],[]⟩:=
 ro2_s (u:=outInside (.inr (.inside f Ky s1 a u r))) (fun κ=>by simp only [AV.den,AV.denL,denL_app,denL_rg];rfl) fun κ w F hT hb=>by
   have h:=oInside_any (K:=K) (us:=us) hT hs hb
   rw [ho] at h
   simp only [AV.denL,AV.den,denL_rg];exact h
theorem openStamp_s(ho:openTh s (kl K) us l=.inr (.stamp t q))(hs:TabOk s):Spec Tryz.prog ⟨42,2,[tI,.c (aK K),aI us,.o 1 l.length],[eT 0 s,eB 1 l],[],.t [.c [aI t,aI q],aI 0],[]⟩:=
 ro2_s (u:=outStamp (.inr (.stamp t q))) (fun κ=>by simp only [AV.den,AV.denL];rfl) fun κ w F hT hb=>by
   have h:=oStamp_any (K:=K) (us:=us) hT hs hb
   rw [ho] at h
   simp only [AV.denL,AV.den,denL_rg];exact h
theorem ThI{F:Nat->Prop}{w w':World}{e:Ending}{κ:Kp}{nx:Nat}{s2:STab}{v:Value}(h:TPost w F (κ 0).n s2 v e w'):∃ κ':Kp,Agr (· < nx) κ κ'/\e=.returned v/\Hp F w w' [] ([eT 0 s2].map (Ent.res κ'))/\∀ e ∈ [eT 0 s2],e.holds κ':=by
 obtain ⟨e1,F',hT,hF,_,hfr⟩:=h
 have hp:Hp F w w' [] [rTab F' (κ 0).n s2]:=⟨hfr,fun i r hi=>by match i,hi with|0,hi=>(injection hi with hi;subst hi;exact hT),fun i r hi q hq=>by match i,hi with|0,hi=>(injection hi with hi;subst hi;exact hF q hq),fun i j a b hi hj hij=>by match i,j,hi,hj with|0,0,_,_=>exact absurd rfl hij,by simp,by simp⟩
 obtain ⟨κ',k1,k2,k3⟩:=mkT0 (κ:=κ) (nx:=nx) hp
 exact ⟨κ',k1,e1,k2,k3⟩
theorem fresh_s(hK:kl K=mkB 107 (s.keys.length+1))(hn:s.keys.length<1000000):Spec Tryz.prog ⟨21,1,[.p 0 0],[],[eT 0 s],.c (aK K),[eT 0 (s.add SFrom.fresh)]⟩:=
 tab_s fun κ w F hh hF hT=>(fresh_any F (κ 0).n s w hT hn).mono fun e w' h=>by
   have:=ThI (κ:=κ) (nx:=1) h
   rw [← hK] at this
   simp only [AV.den,denL_rg];exact this
theorem text_s{p q:ByteArray}(hK:kl K=mkB 107 (s.num (textF p q)))(hp:p.size<=1000000)(hq:q.size<=1000000)(hn:s.keys.length<1000000):Spec Tryz.prog ⟨164,1,[.p 0 0,aS p,aS q],[],[eT 0 s],.c (aK K),[eT 0 (s.made (textF p q))]⟩:=
 tab_s fun κ w F hh hF hT=>(text_any F (κ 0).n s p q w hT hp hq hn).mono fun e w' h=>by
   have:=ThI (κ:=κ) (nx:=1) h
   rw [← hK] at this
   simp only [AV.den,denL_rg];exact this
end
end
section
open Go.RowKit Go.QT
/-- A call that leaves nothing. -/
theorem pu_s{f:FuncId}{nx:Nat}{al:List AV}{ro:List Ent}{u:Value}{v:AV}(hv:∀ κ:Kp,v.den κ=u)(h:∀ (κ:Kp) (w:World),HE fN w w κ ro []->Calls Tryz.prog f (AV.denL κ al).toArray w (DPost w u)):Spec Tryz.prog ⟨f,nx,al,ro,[],v,[]⟩:=⟨fun κ w hh=>by
 have hh:HE fN w w κ ro []:=by rw [← foot_nil κ];exact hh
 refine (h κ w hh).mono fun e w' ⟨e1,hb⟩=>⟨⟨κ,fun _ _=>⟨rfl,rfl⟩,by rw [e1,hv],⟨?_,fun e he=>absurd he List.not_mem_nil,fun e he=>absurd he List.not_mem_nil⟩⟩⟩
 rw [foot_nil]
 exact ((Hp.nil _ w).below hb).ha⟩
/-- Things of a kind that a place and a footprint tell. -/
def reC(R:(Nat->Prop)->Nat->Res)(kv:Kv):Prop:=∃ G,kv.r=R G kv.n
abbrev eR(k:Nat)(R:(Nat->Prop)->Nat->Res):Ent:=.opq k (reC R)
theorem re_ent{F0:Ft}{w0 w:World}{κ:Kp}{ro H:List Ent}{j:Nat}{R:(Nat->Prop)->Nat->Res}(h:HE F0 w0 w κ ro H)(he:eR j R ∈ H++ro):∃ G,(R G (κ j).n).Φ w/\(κ j).r=R G (κ j).n:=by
 obtain ⟨h1,G,h2⟩:=h.ent he
 exact ⟨G,h2 ▸ h1,h2⟩
/-- A call that holds one such thing and nothing else. -/
theorem own_s{f:FuncId}{nx:Nat}{al:List AV}{ro:List Ent}{u:Value}{v:AV}{R R2:(Nat->Prop)->Nat->Res}(hR:∀ G n,(⟨(R G n).W,(R G n).F⟩:Ft)=ft G)(hv:∀ κ:Kp,v.den κ=u)
   (h:∀ (κ:Kp) (w:World) (G:Nat->Prop),HE (foot κ [eR 0 R]) w w κ ro [eR 0 R]->(R G (κ 0).n).Φ w->Calls Tryz.prog f (AV.denL κ al).toArray w (fun e w'=>e=.returned u/\∃ G',Hp G w w' [] [R2 G' (κ 0).n])):Spec Tryz.prog ⟨f,nx,al,ro,[eR 0 R],v,[eR 0 R2]⟩:=⟨fun κ w hh=>by
 obtain ⟨G,hG⟩:=hh.hh (eR 0 R) (List.mem_singleton.2 rfl)
 have h1:(R G (κ 0).n).Φ w:=by rw [← hG];exact hh.ha.own _ (List.mem_singleton.2 rfl)
 refine (h κ w G hh h1).mono fun e w' ⟨e1,G',hp⟩=>⟨⟨upT κ (R2 G' (κ 0).n),upT_agr _ _ _,by rw [e1,hv],⟨?_,fun e he=>absurd he List.not_mem_nil,fun e he=>?_⟩⟩⟩
 · rw [show foot κ (Sp.pre ⟨f,nx,al,ro,[eR 0 R],v,[eR 0 R2]⟩)=ft G from by rw [foot_one];show (⟨((κ 0).r).W,((κ 0).r).F⟩:Ft)=ft G;rw [hG,hR]]
   show HA _ _ _ _ [(upT κ (R2 G' (κ 0).n) 0).r]
   unfold upT;rw [upK_at];exact hp.ha
 rw [List.mem_singleton.1 he]
 show ∃ G,(upT κ (R2 G' (κ 0).n) 0).r=R2 G (upT κ (R2 G' (κ 0).n) 0).n
 unfold upT;rw [upK_at];exact ⟨G',rfl⟩⟩
/-- A call that makes one such thing. -/
theorem make_s{f:FuncId}{al:List AV}{R:(Nat->Prop)->Nat->Res}(h:∀ (κ:Kp) (w:World),Calls Tryz.prog f (AV.denL κ al).toArray w (fun e w'=>∃ G n,e=.returned (pt n 0)/\Hp (fun _=>False) w w' [] [R G n])):Spec Tryz.prog ⟨f,0,al,[],[],.p 0 0,[eR 0 R]⟩:=⟨fun κ w hh=>by
 refine (h κ w).mono fun e w' ⟨G,n,e1,hp⟩=>⟨⟨upK κ 0 ⟨n,(κ 0).a,R G n⟩,fun k hk=>absurd hk (Nat.not_lt_zero k),?_,⟨?_,fun e he=>absurd he List.not_mem_nil,fun e he=>?_⟩⟩⟩
 · rw [e1];show _=Ending.returned (pt (upK κ 0 ⟨n,(κ 0).a,R G n⟩ 0).n 0)
   rw [upK_at]
 · rw [show foot κ (Sp.pre ⟨f,0,al,[],[],.p 0 0,[eR 0 R]⟩)=fN from foot_nil κ]
   show HA _ _ _ _ [(upK κ 0 ⟨n,(κ 0).a,R G n⟩ 0).r]
   rw [upK_at];exact hp.ha
 rw [List.mem_singleton.1 he]
 show ∃ G',(upK κ 0 ⟨n,(κ 0).a,R G n⟩ 0).r=R G' (upK κ 0 ⟨n,(κ 0).a,R G n⟩ 0).n
 rw [upK_at];exact ⟨G,rfl⟩⟩
/-- Users. -/
abbrev eU(k:Nat)(us:List User):Ent:=eR k fun G n=>rBs G n us
abbrev uA(u:User):AV:=.c ([aS u.name]++aK u.key++[aI u.life,aI u.renew,aB u.mesh])
section
variable{us:List User}{u:User}{s:ByteArray}{now t:Int}
theorem uA_den(κ:Kp):(uA u).den κ=Value.agg ([(Value.string u.name)]++vb (kl u.key)++[(Value.int .i64 u.life),(Value.int .i64 u.renew),(Value.bool u.mesh)]).toArray:=by
 simp only [AV.den,AV.denL,denL_app,denL_rg]
theorem near_s(h:nearF now t=true):Spec Tryz.prog ⟨83,0,[aI now,aI t],[],[],aB true,[]⟩:=
 pu_s (fun κ=>rfl) fun κ w _=>by rw [← h];exact near_any now t w
theorem bsNew_s:Spec Tryz.prog ⟨113,0,[],[],[],.p 0 0,[eU 0 []]⟩:=
 make_s fun _ w=>(bnew_any w).mono fun _ _ ⟨G,bb,e1,h⟩=>⟨G,bb,e1,h⟩
theorem bsGet_s(h32:us.length<=1000000)(hb:placeB us s=true)(hu:us[placeI us s]?=some u):Spec Tryz.prog ⟨82,1,[.p 0 0,aS s],[eU 0 us],[],.t [uA u,aI 0],[]⟩:=
 pu_s (u:=.tuple #[(Value.agg ([(Value.string u.name)]++vb (kl u.key)++[(Value.int .i64 u.life),(Value.int .i64 u.renew),(Value.bool u.mesh)]).toArray),.int .i64 0]) (fun κ=>by show Value.tuple #[(uA u).den κ,.int .i64 0]=_;rw [uA_den]) fun κ w hh=>by
   obtain ⟨G,h1,_⟩:=re_ent (j:=0) (R:=fun G n=>rBs G n us) hh (by simp)
   exact get_yes h1 h32 hb hu
theorem bsAdd_s(u:User)(h32:us.length<=1000000)(hsz:u.name.size<=1000000000)(hr:rightN u.name=true)(ha:1<=u.life/\u.life<=600/\0<=u.renew/\u.renew<=6000)(ht:placeB us u.name=false)(hf:us.length<32)(hi:placeI us u.name=us.length):Spec Tryz.prog ⟨78,1,[.p 0 0,uA u],[],[eU 0 us],aI 0,[eU 0 (us++[u])]⟩:=
 own_s (fun _ _=>rfl) (fun _=>rfl) fun κ w G hh h1=>by
   rw [show (AV.denL κ [.p 0 0,uA u]).toArray=#[pt (κ 0).n 0,(uA u).den κ] from rfl,uA_den]
   exact add_ok h1 h32 hsz hr ha ht hf hi
theorem sealInside_s{t:STab}{K Ky:Fin 16->UInt8}{us f a e r:Int}{n:Nat}{b:Bytes}{s1:ByteArray}(hp:packB (.inside f Ky s1 a e r)=.inr b)(hn:t.boxes.length=n)(hs:TabOk t)(hl:s1.size<=100000):Spec Tryz.prog ⟨48,1,[tI,.c (aK K),aI us,.i 187 (.c ([aI f]++aK Ky++[aS s1,aI a,aI e,aI r]))],[],[eT 0 t],.t [.o 1 16,aI 0],[eT 0 (t.seal (kl K) us b),eB 1 (mkB 98 (n+1))]⟩:=
 tab_s fun κ w F hh hF hT=>by
   have h4:=tseal_any (K:=K) (us:=us) hT hs (rTh_inside w f Ky s1 a e r) (fun _ hf=>hf.elim) hl
   rw [show (AV.denL κ [tI,.c (aK K),aI us,.i 187 (.c ([aI f]++aK Ky++[aS s1,aI a,aI e,aI r]))]).toArray=#[(Value.iface 30 (pt (κ 0).n 0)),(Value.agg (vb (kl K)).toArray),.int .i64 us,(.iface 187 (.agg ([Value.int .i64 f]++vb (kl Ky)++[Value.string s1,.int .i64 a,.int .i64 e,.int .i64 r]).toArray))] from by simp only [AV.denL,AV.den,denL_app,denL_rg]]
   exact h4.mono fun e w' h=>seal_post (by omega) hp hn h
theorem sealReply_s{t:STab}{K Ky:Fin 16->UInt8}{us f nn a e r:Int}{n:Nat}{b:Bytes}{s1:ByteArray}(hp:packB (.reply f Ky nn s1 a e r)=.inr b)(hn:t.boxes.length=n)(hs:TabOk t)(hl:s1.size<=100000):Spec Tryz.prog ⟨48,1,[tI,.c (aK K),aI us,.i 211 (.c ([aI f]++aK Ky++[aI nn,aS s1,aI a,aI e,aI r]))],[],[eT 0 t],.t [.o 1 16,aI 0],[eT 0 (t.seal (kl K) us b),eB 1 (mkB 98 (n+1))]⟩:=
 tab_s fun κ w F hh hF hT=>by
   have h4:=tseal_any (K:=K) (us:=us) hT hs (rTh_reply w f Ky nn s1 a e r) (fun _ hf=>hf.elim) hl
   rw [show (AV.denL κ [tI,.c (aK K),aI us,.i 211 (.c ([aI f]++aK Ky++[aI nn,aS s1,aI a,aI e,aI r]))]).toArray=#[(Value.iface 30 (pt (κ 0).n 0)),(Value.agg (vb (kl K)).toArray),.int .i64 us,(.iface 211 (.agg ([Value.int .i64 f]++vb (kl Ky)++[Value.int .i64 nn,Value.string s1,.int .i64 a,.int .i64 e,.int .i64 r]).toArray))] from by simp only [AV.denL,AV.den,denL_app,denL_rg]]
   exact h4.mono fun e w' h=>seal_post (by omega) hp hn h
theorem imin(a b:Int):Value.int .i64 (if b<a then b else a)=.int .i64 (min a b):=by
 congr 1;rw [Int.min_def];split <;> split <;> omega
/-- Who gives tickets: a block of what is only read. -/
abbrev eK(k u:Nat)(Kk:Fin 16->UInt8):Ent:=.blk k 127 ([tI,.p u 0]++aK Kk)
section
variable{t:STab}{K Kk Kx Ky Ki:Fin 16->UInt8}{nb:Nat}{sv s0 pw nm:ByteArray}{f a e r nn now till life renew:Int}{b1 b2 pre:Bytes}{mesh:Bool}
set_option maxRecDepth 100000
set_option maxHeartbeats 4000000
theorem kasNew_s(hK:kl Kk=mkB 107 (t.keys.length+1))(hn:t.keys.length<1000000):Spec Tryz.prog ⟨76,1,[tI],[],[eT 0 t],.p 1 0,[eT 0 (t.add SFrom.fresh),eK 1 2 Kk,eU 2 []]⟩:=
 s1 [cA 1001 bsNew_s [],cTb 1003 (fresh_s hK hn)]
theorem enrol_s(hK:kl K=mkB 107 (t.num (textF pw nm)))(hp:pw.size<=1000000)(hnm:nm.size<=1000000)(hk:t.keys.length<1000000)(h32:us.length<=1000000)(hr:rightN nm=true)(ha:1<=life/\life<=600/\0<=renew/\renew<=6000)(ht:placeB us nm=false)(hf:us.length<32)(hi:placeI us nm=us.length) :
   Spec Tryz.prog ⟨47,3,[.p 1 0,aS nm,aS pw,aI life,aI renew,aB mesh],[eK 1 2 Kk],[eT 0 t,eU 2 us],aI 0,[eT 0 (t.made (textF pw nm)),eU 2 (us++[⟨nm,K,life,renew,mesh⟩])]⟩:=
 s1 [cTb 1011 (text_s hK hp hnm hk),cA 1016 (bsAdd_s ⟨nm,K,life,renew,mesh⟩ h32 (show nm.size<=_ by omega) hr ha ht hf hi) []]
/-- The table behind a ticket that was given. -/
abbrev gvS(t:STab)(Kx Ky:Fin 16->UInt8)(us:Int)(b1 b2:Bytes):STab:=(t.seal (kl Kx) 2 b1).seal (kl Ky) us b2
theorem give_s{ug:Int}(hr:Room 8 t)(hnb:t.boxes.length=nb)(h1:packB (.inside f Ki s0 a e r)=.inr b1)(h2:packB (.reply f Ki nn sv a e r)=.inr b2)(hl:s0.size<=100000)(hl2:sv.size<=100000) :
   Spec Tryz.prog ⟨84,3,[.p 1 0,aS sv,.c (aK Kx),.c ([aI f]++aK Ki++[aS s0,aI a,aI e,aI r]),aI nn,.c (aK Ky),aI ug],[eK 1 2 Kk],[eT 0 t],.t [.c [aS sv,.o 3 16],.o 4 16,aI 0],[eT 0 (gvS t Kx Ky ug b1 b2),eB 3 (mkB 98 (nb+1)),eB 4 (mkB 98 (nb+2))]⟩:=
 s1 [cTb 1007 (sealInside_s (K:=Kx) (us:=2) h1 hnb hr.ok hl),cTb 5008 (sealReply_s (t:=t.seal (kl Kx) 2 b1) (K:=Ky) (us:=ug) (n:=nb+1) h2 (by rw [← hnb];simp [STab.seal]) (hr.seal _ _ (by have:=pack_le h1;omega)).ok hl2)]
end
end
end
section
open Go.RowKit Go.QT
section
variable{t:STab}{K Kk:Fin 16->UInt8}{nb:Nat}{nm:ByteArray}{now till nn st sq:Int}{b1 b2 pre:Bytes}{us:List User}
set_option maxRecDepth 100000
set_option maxHeartbeats 4000000
end
end
section
open Go.RowKit Go.QT
/-- A ticket, and what is known of it. -/
abbrev crC(sv:ByteArray)(bx:AV)(K:List AV)(fl en rn:Int):List AV:=[aS sv,bx]++K++[aI fl,aI en,aI rn]
abbrev cr0:List AV:=crC ByteArray.empty aN aZ 0 0 0
def crs0:Nat->List AV:=fun n=>Nat.rec [] (fun _ l=>cr0++l) n
/-- A store in which nothing is; one ticket; two. -/
def st0:List AV:=crs0 16++rg (List.replicate 16 (.bool false))
def st1(c:List AV):List AV:=c++crs0 15++rg (.bool true::List.replicate 15 (.bool false))
def st2(c d:List AV):List AV:=c++d++crs0 14++rg (.bool true::.bool true::List.replicate 14 (.bool false))
/-- A ticket's box, key, marks and times. -/
structure Ck where
 m:Bytes
 K:Fin 16->UInt8
 fl:Int
 en:Int
 rn:Int
 hm:m.length<=1000000
abbrev Ck.at(c:Ck)(sv:ByteArray)(k:Nat):List AV:=crC sv (.o k c.m.length) (aK c.K) c.fl c.en c.rn
abbrev Ck.s1(c:Ck)(k:Nat):Ent:=.blk 0 162 (st1 (c.at bKDC k))
abbrev Ck.s2(c d:Ck)(k i:Nat):Ent:=.blk 0 162 (st2 (c.at bKDC k) (d.at bBOB i))
section
variable(sv:ByteArray)(now:Int)(c d:Ck)
set_option maxRecDepth 100000
set_option maxHeartbeats 4000000
theorem crPl0_s:Spec Tryz.prog ⟨56,1,[.p 0 0,aS sv],[],[.blk 0 162 st0],aI 0,[.blk 0 162 st0]⟩:=s1 []
theorem crPl1_s:Spec Tryz.prog ⟨56,2,[.p 0 0,aS bKDC],[],[c.s1 1],aI 0,[c.s1 1]⟩:=s1 []
theorem crPl1n_s:Spec Tryz.prog ⟨56,2,[.p 0 0,aS bBOB],[],[c.s1 1],aI 1,[c.s1 1]⟩:=s1 []
theorem crPl2_s:Spec Tryz.prog ⟨56,3,[.p 0 0,aS bBOB],[],[c.s2 d 1 2],aI 1,[c.s2 d 1 2]⟩:=s1 []
theorem crWi0_s:Spec Tryz.prog ⟨91,1,[.p 0 0,aI 0],[],[.blk 0 162 st0],.t [],[.blk 0 162 st0]⟩:=s1 []
theorem crWi1n_s:Spec Tryz.prog ⟨91,2,[.p 0 0,aI 1],[],[c.s1 1],.t [],[c.s1 1]⟩:=s1 []
theorem crGet1_s(hk:¬ c.en<=now):Spec Tryz.prog ⟨15,2,[.p 0 0,aI now,aS bKDC],[eB 1 c.m],[c.s1 1],.t [.c (c.at bKDC 2),aI 0],[c.s1 1,eB 2 c.m]⟩:=
 s1 [cA 1002 (crPl1_s c) [],fA 4008 (isF hk),appA 7003 c.m c.hm]
theorem crGet2_s(hk:¬ d.en<=now):Spec Tryz.prog ⟨15,3,[.p 0 0,aI now,aS bBOB],[eB 2 d.m],[c.s2 d 1 2],.t [.c (d.at bBOB 3),aI 0],[c.s2 d 1 2,eB 3 d.m]⟩:=
 s1 [cA 1002 (crPl2_s c d) [],fA 4008 (isF hk),appA 7003 d.m d.hm]
theorem crPut0_s:Spec Tryz.prog ⟨81,2,[.p 0 0,.c (c.at bKDC 1)],[eB 1 c.m],[.blk 0 162 st0],aI 0,[c.s1 2,eB 2 c.m]⟩:=
 s1 [cA 1004 (crPl0_s bKDC) [],cA 4002 crWi0_s [],appA 5003 c.m c.hm]
theorem crPut2_s:Spec Tryz.prog ⟨81,3,[.p 0 0,.c (d.at bBOB 2)],[eB 2 d.m],[c.s1 1],aI 0,[c.s2 d 1 3,eB 3 d.m]⟩:=
 s1 [cA 1004 (crPl1n_s c) [],cA 4002 (crWi1n_s c) [],appA 5003 d.m d.hm]
end
end
end Go.Proofs.YtaoijkhndakppaaGreat
