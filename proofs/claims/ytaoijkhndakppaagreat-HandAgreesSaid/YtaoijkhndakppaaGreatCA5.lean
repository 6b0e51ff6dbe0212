/- Values of which only names say where they point;what is held,under such names. Over any program. -/
import Derived.Test.YtaoijkhndakppaaGreatCA4
set_option maxRecDepth 100000
set_option maxHeartbeats 4000000
namespace Go.Proofs.YtaoijkhndakppaaGreat
section
open Go.RowKit Go.QT
attribute [local go_sem] bits_xor8 bits_or8 bits_and8
theorem gb_out(l:Bytes)(i:Nat)(h:l.length<=i):gb l i=0:=by simp [gb,h]
set_option maxHeartbeats 400000 in
theorem at_any(v:Value)(l:Bytes)(i:Nat)(x:Int)(hx:x=(i:Int))(_hi:i<9223372036854775808)(w:World)(hv:SB w v l):Calls Tryz.prog 92 #[v,.int .i64 x] w (VPost w (.int .u8 (ub (gb l i)))):=by
 subst hx
 obtain ⟨A,c,hve,hc1,hc2⟩:=sb_form hv
 by_cases h:i<l.length
 · obtain ⟨b,o,c',e,_,_,hb,hcell⟩:=hv.open_ (by rintro rfl;simp at h)
   subst hve
   injection e with e1 e2 e3
   subst e1
   have hd:decide ((i:Int)<l.length)=true:=by simp;omega
   have x0:=hcell i h
   clear hcell hv e2 e3
   go_enter Tryz.func92,Tryz.ntmps92
   go_wp2
   go_ret
   exact ⟨rfl,rfl⟩
 have hz:=Hd.mk (gb_out l i (by omega))
 subst hve
 have hd:decide ((i:Int)<l.length)=false:=by simp;omega
 clear hv
 go_enter Tryz.func92,Tryz.ntmps92
 go_wp2
 go_ret
 refine ⟨?_,rfl⟩
 rw [hz.out];simp [ub]
def eqTo(a b:Bytes):Nat->UInt8
 | 0=>0
 | k+1=>eqTo a b k ||| (gb a k ^^^ gb b k)
theorem or0(x y:UInt8):x ||| y=0↔x=0/\y=0:=by
 constructor
 · intro h
   have h1:x.toNat ||| y.toNat=0:=by have:=congrArg UInt8.toNat h;simpa using this
   have h2:=Nat.or_eq_zero_iff.1 h1
   exact ⟨UInt8.toNat_inj.1 (by simpa using h2.1),UInt8.toNat_inj.1 (by simpa using h2.2)⟩
 rintro ⟨rfl,rfl⟩;rfl
theorem xor0(x y:UInt8):x ^^^ y=0↔x=y:=by
 constructor
 · intro h
   have:(x ^^^ y) ^^^ y=0 ^^^ y:=by rw [h]
   rwa [UInt8.xor_assoc,UInt8.xor_self,UInt8.xor_zero,UInt8.zero_xor] at this
 rintro rfl;exact UInt8.xor_self
theorem eqTo_zero(a b:Bytes)(k:Nat):eqTo a b k=0↔∀ j,j<k->gb a j=gb b j:=by
 induction k with
 | zero=>simp [eqTo]
 | succ k ih =>
   rw [eqTo,or0,xor0,ih]
   constructor
   · rintro ⟨h1,h2⟩ j hj
     by_cases e:j=k
     · subst e;exact h2
     exact h1 j (by omega)
   intro h
   exact ⟨fun j hj=>h j (by omega),h k (by omega)⟩
theorem equal_fin(a b:Bytes)(k:Nat)(hk:k=max a.length b.length):(decide (eqTo a b k=0) && decide (a.length=b.length))=decide (a=b):=by
 rw [Bool.eq_iff_iff]
 simp only [Bool.and_eq_true,decide_eq_true_eq,eqTo_zero]
 constructor
 · rintro ⟨h1,h2⟩
   exact same_eq a b h2 fun j hj=>h1 j (by omega)
 rintro rfl;exact ⟨fun _ _=>rfl,rfl⟩
theorem equal_any(va vb':Value)(a b:Bytes)(w:World)(ha:SB w va a)(hb:SB w vb' b):Calls Tryz.prog 69 #[va,vb'] w (VPost w (.bool (decide (a=b)))):=by
 obtain ⟨A,c,rfl,hc1,hc2⟩:=sb_form ha
 obtain ⟨B,d,rfl,hd1,hd2⟩:=sb_form hb
 have Ha:=Hd.mk ha
 have Hb:=Hd.mk hb
 clear ha hb
 obtain ⟨M,hM,hM2⟩:∃ M:Nat,M=max a.length b.length/\(max (a.length:Int) (b.length:Int))=(M:Int):=⟨_,rfl,by omega⟩
 have Hfin:=Hd.mk (equal_fin a b M hM)
 have HM:a.length<=M/\b.length<=M/\M<=9223372036854775807:=by omega
 clear hM
 obtain ⟨hM1,hM3,hM4⟩:=HM
 have hmax:∀ (O:Oper) (Ac:Act),O.op=.call { callee:=.builtin .max,args:=#[.tmp 8,.tmp 10],argTypes:=#[3,3] }->Ac.eval (.tmp 8)=.int .i64 (a.length:Int)->Ac.eval (.tmp 10)=.int .i64 (b.length:Int)->∀ W,(execOp Ac.eval O).run Tryz.prog W=.ok (.value (.int .i64 (M:Int))) W:=fun O Ac h1 h2 h3 W=>by
   rw [← hM2]
   unfold execOp
   simp only [h1,resolve,invoke,builtin,Sem.run_bind,Sem.run_pure,Result.andThen_ok,List.map_toArray,List.map_cons,List.map_nil,h2,h3]
   have e:(if (b.length:Int)>(a.length:Int) then (b.length:Int) else (a.length:Int))=max (a.length:Int) (b.length:Int):=by
     split <;> omega
   have hm:(Builtin.max_ #[3,3] O.type #[.int .i64 (a.length:Int),.int .i64 (b.length:Int)]).run Tryz.prog W=.ok (.int .i64 (max (a.length:Int) (b.length:Int))) W:=by
     rw [← e];simp [Builtin.max_,Builtin.max2]
   simp only [hm,Result.andThen_ok]
 have Hmax:=Hd.mk hmax
 clear hmax
 go_enter Tryz.func69,Tryz.ntmps69
 go_upto_region 2 with (fail)
 refine wp_region_lit ?_
 refine wl_val rfl (.slice A a.length c) (rfl) ?_
 simp only [Act.put,u1,u2,u3]
 refine wl_val rfl (.int .i64 (a.length:Int)) (by simp [go_sem]) ?_
 simp only [Act.put,u1,u2,u3]
 refine wl_val rfl (.slice B b.length d) (rfl) ?_
 simp only [Act.put,u1,u2,u3]
 refine wl_val rfl (.int .i64 (b.length:Int)) (by simp [go_sem]) ?_
 simp only [Act.put,u1,u2,u3]
 refine wl_val rfl (.int .i64 (M:Int)) (Hmax.out _ _ rfl rfl rfl _) ?_
 simp only [Act.put,u1,u2,u3]
 go_wp2
 go_loop [5,12] (fun x i=>∃ k:Nat,k<=M/\i=.int .i64 (k:Int)/\x=.int .u8 (ub (eqTo a b k))) (fun _ i=>M-(intOf i).toNat)
 case atStart=>exact ⟨0,by omega,rfl,by simp [eqTo,ub]⟩
 case round =>
   obtain ⟨k,hk,rfl,rfl⟩:=hrel
   by_cases hlt:k<M
   · have hd:decide ((k:Int)<M)=true:=by simp;omega
     have Hs:Hd (eqTo a b (k+1)=eqTo a b k ||| (gb a k ^^^ gb b k)):=⟨rfl⟩
     have A1:=Hd.mk (at_any _ a k (k:Int) rfl (by omega) w Ha.out)
     have A2:=Hd.mk (at_any _ b k (k:Int) rfl (by omega) w Hb.out)
     generalize eqTo a b k=D at *
     go_wp2_with (go_at_call 92;(first|(with_reducible refine A1.out.mono ?_)|(with_reducible refine A2.out.mono ?_));rintro e w' ⟨rfl,rfl⟩)
     refine ⟨⟨k+1,by omega,by go_num,by rw [Hs.out]⟩,by simp [intOf];omega⟩
   have hkM:k=M:=by omega
   have hd:decide ((k:Int)<M)=false:=by simp;omega
   subst hkM
   have hz:(ub (eqTo a b k) == 0)=decide (eqTo a b k=0):=by
     have:ub 0=0:=by simp [ub]
     rw [← this,ub_beq];rfl
   have hl:(((a.length:Nat):Int) == ((b.length:Nat):Int))=decide (a.length=b.length):=by
     rw [Bool.eq_iff_iff,beq_iff_eq,decide_eq_true_eq];omega
   generalize hD:decide (eqTo a b k=0)=D at *
   cases D with
   | true =>
     generalize hL:decide (a.length=b.length)=L at *
     have HL:=Hd.mk hL
     have HD:=Hd.mk hD
     clear hL hD
     go_wp2
     go_ret
     refine ⟨?_,rfl⟩
     rw [← Hfin.out];simp
   | false =>
     have HD:=Hd.mk hD
     clear hD hl
     go_wp2
     go_ret
     refine ⟨?_,rfl⟩
     rw [← Hfin.out];simp
end
section
open Go.RowKit Go.QT
theorem digest1_any(u:Value)(m:Bytes)(cb:Nat)(bv:Value)(b:Bytes)(w:World)(hu:SB w u m)(hc:w.cell? ⟨cb,0,none⟩=some bv)(hb:SB w bv b):Calls Tryz.prog 166 #[u,.pointer (some ⟨cb,0,none⟩)] w (VPost w (.bool (decide (m=b)))):=by
 have HE:=Hd.mk (equal_any u bv m b w hu hb)
 clear hu hb
 go_enter Tryz.func166,Tryz.ntmps166
 go_wp2_with (go_at_call 69;refine HE.out.mono ?_;rintro e w' ⟨rfl,rfl⟩)
 go_ret
 exact ⟨rfl,rfl⟩
/-- Where a row stands first; -1: nowhere. -/
def idxR(b:Bytes)(ls:List Bytes):Int:=if ls.findIdx (· = b)<ls.length then (ls.findIdx (· = b):Nat) else -1
theorem idxR_hit(b:Bytes)(ls:List Bytes)(k:Nat)(hk:k<ls.length)(hn:∀ j,j<k->ls.getD j []≠b)(he:ls.getD k []=b):idxR b ls=(k:Nat):=by
 have hg:∀ j (hj:j<ls.length),ls.getD j []=ls[j]:=fun j hj=>by simp [List.getD,List.getElem?_eq_getElem hj]
 have h:ls.findIdx (· = b)=k:=by
   rw [List.findIdx_eq hk]
   have he':=he
   rw [hg k hk] at he'
   refine ⟨by simpa using he',fun j hj=>?_⟩
   have:=hn j hj
   rw [hg j (by omega)] at this
   simpa using this
 rw [idxR,h,if_pos hk]
theorem idxR_miss(b:Bytes)(ls:List Bytes)(hn:∀ j,j<ls.length->ls.getD j []≠b):idxR b ls = -1:=by
 have hg:∀ j (hj:j<ls.length),ls.getD j []=ls[j]:=fun j hj=>by simp [List.getD,List.getElem?_eq_getElem hj]
 have h:ls.findIdx (· = b)=ls.length:=by
   rw [List.findIdx_eq_length]
   intro x hx
   obtain ⟨j,hj,rfl⟩:=List.getElem_of_mem hx
   have:=hn j hj
   rw [hg j hj] at this
   simpa using this
 rw [idxR,h,if_neg (by omega)]
theorem indexfunc_any(v:Value)(ls:List Bytes)(cb:Nat)(bv:Value)(b:Bytes)(w:World)(hv:SS w v ls)(hc:w.cell? ⟨cb,0,none⟩=some bv)(hb:SB w bv b) :
   Calls Tryz.prog 165 #[v,.func (.func 166) #[] #[.pointer (some ⟨cb,0,none⟩)]] w (VPost w (.int .i64 (idxR b ls))):=by
 obtain ⟨A,c,rfl,hc1,hc2,hcell⟩:=hv
 unfold maxLen at hc2
 have Hcell:=Hd.mk hcell
 have Hhit:=Hd.mk (idxR_hit b ls)
 have Hmiss:=Hd.mk (idxR_miss b ls)
 have HD:=Hd.mk (fun u m (hu:SB w u m)=>digest1_any u m cb bv b w hu hc hb)
 clear hcell hc hb
 go_enter Tryz.func165,Tryz.ntmps165
 go_wp2
 go_loop [8] (fun i=>∃ k:Nat,k<=ls.length/\i=.int .i64 (k:Int)/\Hd (∀ j,j<k->ls.getD j []≠b)) (fun i=>ls.length-(intOf i).toNat)
 case atStart=>exact ⟨0,by omega,rfl,⟨fun i hi=>absurd hi (by omega)⟩⟩
 case round =>
   obtain ⟨k,hk,rfl,hno⟩:=hrel
   by_cases hlt:k<ls.length
   · obtain ⟨bb,o,u,hA,hbl,hx,hs⟩:=Hcell.out k hlt
     subst hA
     have HC:=Hd.mk (HD.out u _ hs)
     clear hs hbl
     by_cases he:ls.getD k []=b
     · have Hr:=Hd.mk (Hhit.out k hlt hno.out he)
       rw [decide_eq_true he] at HC
       clear he Hcell Hhit Hmiss
       go_wp2_with (go_at_call 166;refine HC.out.mono ?_;rintro e w' ⟨rfl,rfl⟩)
       go_ret
       exact ⟨by rw [Hr.out];rfl,rfl⟩
     have hno2:Hd (∀ j,j<k+1->ls.getD j []≠b):=⟨fun j hj=>by
       by_cases hjk:j=k
       · subst hjk;exact he
       exact hno.out j (by omega)⟩
     rw [decide_eq_false he] at HC
     clear he
     go_wp2_with (go_at_call 166;refine HC.out.mono ?_;rintro e w' ⟨rfl,rfl⟩)
     refine ⟨⟨k+1,by omega,by go_num,hno2⟩,by simp [intOf];omega⟩
   have hk2:k=ls.length:=by omega
   rw [hk2] at hno
   have Hr:=Hd.mk (Hmiss.out hno.out)
   clear hk2
   go_wp2
   go_ret
   exact ⟨by rw [Hr.out];rfl,rfl⟩
end
section
open Go.RowKit Go.QT
theorem SB.isSlice'{w:World}{v:Value}{l:Bytes}(h:SB w v l):v.cells=#[v]:=by
 obtain ⟨A,c,rfl,_⟩:=h;rfl
theorem tybss:Tryz.prog.underlying 167=some (.slice 25):=by kernel_rfl
theorem ibs3:(Tryz.prog.info? 25).map (fun i=>(i.zero,i.size,i.bytes))=some (some (.slice none 0 0),1,24):=by kernel_rfl
theorem ibs1:(Tryz.prog.info? 25).map (·.size)=some 1:=by kernel_rfl
theorem zbs(W:World):(zeroValue 25).run Tryz.prog W=.ok (.slice none 0 0) W:=by kernel_rfl
theorem agg63(W:World):(isAgg 167).run Tryz.prog W=.ok false W:=by kernel_rfl
theorem i63:(Tryz.prog.info? 167).map (·.size)=some 1:=by kernel_rfl
theorem exec_box{P:Program}{o:Oper}{a:Act}(t:TypeId)(x:Operand)(ho:o.op=.box t x)(v:Value)(hx:a.eval x=v)(hv:v.cells=#[v])(W:World):(execOp a.eval o).run P W=.ok (.value (.pointer (some ⟨W.heap.size,0,none⟩))) (W.alloc (.cells #[v] t)):=by
 have h:(Instr.box t v).run P W=.ok (.pointer (some ⟨W.heap.size,0,none⟩)) (W.alloc (.cells #[v] t)):=by simp [Instr.box,newVar,newRow,hv]
 unfold execOp
 simp only [ho,hx,Sem.run_bind,h,Result.andThen_ok,Sem.run_pure]
/-- The table behind a new sum. -/
theorem TabR.summed{w w':World}{F:Nat->Prop}{tb mb:Nat}{vk vx vs v' body:Value}{bodies sums:List Value}{es:Array MapEntry}{clock:Nat}{s:STab}{l:Bytes}(h:TabR w F tb mb vk vx vs bodies sums es clock s)
   (hv:OV w' 0 25 1 v' (sums.map (fun v=>[v])++[[body]])) (hg:w.grownBy w' vs.ownBlock) (hb:OB w 0 body l) (hbx:Disj body vs) :
   TabR (w'.setCell ⟨tb,2,none⟩ v') (fun q=>F q∨v'.ownBlock=some q∨body.ownBlock=some q) tb mb vk vx v' bodies (sums++[body]) es clock { s with sums:=s.sums++[l] }:=by
 have hs:w.heap.size<=w'.heap.size:=hg.size
 have e0:∀ q,some q≠vs.ownBlock->q≠tb->q<w.heap.size->(w'.setCell ⟨tb,2,none⟩ v').heap[q]?=w.heap[q]?:=fun q h1 h2 h3 =>
   (Below.heap_setCell w' ⟨tb,2,none⟩ v' q h2).trans (hg.block q h3 h1)
 have hvl:∀ q,v'.ownBlock=some q->q<w'.heap.size:=fun q hq=>(hv.block q hq).2
 have h1:Blk w' tb 169 [vk,vx,vs,.map (some mb)]:=h.t.grown hg (fun e=>own_ne h.u.own h.t (by decide) tb e.symm rfl)
 have hkeep:∀ {v:Value} {m:Bytes},OB w 0 v m->Disj v vs->OB (w'.setCell ⟨tb,2,none⟩ v') 0 v m:=fun ho hd=>OB.keep ho fun q hq=>e0 q (fun e=>hd q hq e.symm) (own_ne ho h.t (by decide) q hq) (OB.own ho q hq).2
 refine { t:=h1.set 2 v',k:=?_,kl:=h.kl,x:=?_,xn:=h.xn,xl:=h.xl,xb:=?_,u:=?_,un:=by simp [h.un],ub:=?_,m:=?_,me:=h.me,ml:=h.ml,ft:=.inl h.ft,fm:=.inl h.fm,fk:=fun q hq=>.inl (h.fk q hq),fx:=fun q hq=>.inl (h.fx q hq),fu:=fun q hq=>.inr (.inl hq),fl:=?_ }
 · exact h.k.keep fun q hq=>e0 q (fun e=>own_disj h.k.own h.u.own (by decide) q hq e.symm) (own_ne h.k.own h.t (by decide) q hq) (h.k.block q hq).2
 · exact h.x.keep fun q hq=>e0 q (fun e=>own_disj h.x.own h.u.own (by decide) q hq e.symm) (own_ne h.x.own h.t (by decide) q hq) (h.x.block q hq).2
 · intro i b v hb1 hb2
   obtain ⟨a1,a2,a3⟩:=h.xb i b v hb1 hb2
   exact ⟨hkeep a1 (own_disj a1 h.u.own (by decide)),fun q hq=>.inl (a2 q hq),a3⟩
 · have h2:OV w' 0 25 1 v' ((sums++[body]).map fun v=>[v]):=by rw [List.map_append];exact hv
   exact h2.far (fun q hq e=>own_ne hv.own h1 (by decide) q hq e) _
 · intro i b v hb1 hb2
   by_cases hi:i<s.sums.length
   · have e1:s.sums[i]?=some b:=by simpa [List.getElem?_append_left hi] using hb1
     have e2:sums[i]?=some v:=by rw [List.getElem?_append_left (by rw [h.un];exact hi)] at hb2;exact hb2
     obtain ⟨a1,a2,a3⟩:=h.ub i b v e1 e2
     exact ⟨hkeep a1 (own_disj a1 h.u.own (by decide)),fun q hq=>.inl (a2 q hq),a3⟩
   have e1:(s.sums++[l])[i]?=some b:=hb1
   have hi2:i=s.sums.length:=by
     have:=(List.getElem?_eq_some_iff.1 e1).1
     simp at this;omega
   subst hi2
   have e3:b=l:=by simpa using e1.symm
   have e4:v=body:=by
     rw [← h.un] at hb2
     simpa using hb2.symm
   subst e3;subst e4
   exact ⟨hkeep hb hbx,fun q hq=>.inr (.inr hq),hb.one⟩
 · have hml:mb<w.heap.size:=h.fl mb h.fm
   exact (e0 mb (fun e=>own_ne_map h.u.own h.m mb e.symm rfl) (fun e=>blk_ne_map h.t h.m e.symm) hml).trans h.m
 intro q hq
 have:(w'.setCell ⟨tb,2,none⟩ v').heap.size=w'.heap.size:=by simp [World.setCell]
 rcases hq with hq|hq|hq
 · have:=h.fl q hq;omega
 · have:=hvl q hq;omega
 have:=(OB.own hb q hq).2;omega
/-- The table's sums as rows. -/
theorem TabR.ss{w:World}{F:Nat->Prop}{tb mb:Nat}{vk vx vs:Value}{bodies sums:List Value}{es:Array MapEntry}{clock:Nat}{s:STab}(h:TabR w F tb mb vk vx vs bodies sums es clock s):SS w vs s.sums:=by
 have hl:(sums.map fun v=>[v]).length=s.sums.length:=by rw [List.length_map,h.un]
 obtain ⟨A,cap,hv,h1,h2⟩:=h.u.form
 rw [hl] at hv h1
 refine ⟨A,cap,hv,h1,h2,fun i hi=>?_⟩
 obtain ⟨g,cap',hv',_,hg,_,_,cur,hB,hcur⟩:=h.u.at_ (i:=i) (by rw [hl];exact hi)
 rw [hl,hv] at hv'
 injection hv' with hA _ _
 have hsi:i<sums.length:=by rw [h.un];exact hi
 have hc:=hcur 0 (by omega)
 rw [List.getElem_map] at hc
 obtain ⟨a1,_,_⟩:=h.ub i s.sums[i] sums[i] (List.getElem?_eq_getElem hi) (List.getElem?_eq_getElem hsi)
 refine ⟨g,0,sums[i],hA,hg,?_,?_⟩
 · rw [Nat.zero_add,hB.cell]
   simpa using hc
 have e:s.sums.getD i []=s.sums[i]:=by simp [List.getD,List.getElem?_eq_getElem hi]
 rw [e];exact a1.sb
theorem digest_any(F:Nat->Prop)(tb:Nat)(s:STab)(l:Bytes)(bv:Value)(w:World)(hT:TabAt w F tb s)(hbv:SB w bv l)(hl:l.length<=1000000)(hn:s.sums.length<1000000) :
   Calls Tryz.prog 161 #[.pointer (some ⟨tb,0,none⟩),bv] w (SPost w F tb (s.digest l) (mkB 100 (s.sumAt l+1))):=by
 obtain ⟨mb,vk,vx,vs,bodies,sums,es,clock,hR⟩:=hT
 have HR:=Hd.mk hR
 have Hbv:=Hd.mk hbv
 have htb:=hR.fl tb hR.ft
 have hul:(sums.map fun v=>[v]).length=s.sums.length:=by rw [List.length_map,hR.un]
 have Hul:=Hd.mk hul
 have hb1:bv.cells=#[bv]:=hbv.isSlice'
 have Hb1:=Hd.mk hb1
 clear hR hbv hul hb1
 go_enter Tryz.func161,Tryz.ntmps161
 refine wp_seq_k fun K hK=>?_
 refine wp_region_lit ?_
 refine wl_run rfl (.pointer (some ⟨w.heap.size,0,none⟩)) (show _=Result.ok _ (w.alloc (.cells #[bv] 25)) from exec_box 25 (.tmp 1) rfl bv rfl Hb1.out _) ?_
 simp only [Act.put,u1,u2,u3]
 have hb:Below w.heap.size w (w.alloc (.cells #[bv] 25)):=(Below.refl _ _).alloc (Nat.le_refl _) _
 have hKk:Blk (w.alloc (.cells #[bv] 25)) w.heap.size 25 [bv]:=Blk.new w 25 [bv]
 generalize w.alloc (.cells #[bv] 25)=w1 at *
 have HT1:=Hd.mk (HR.out.keep hb.size (fun q hq=>hb.block q (HR.out.fl q hq)))
 have x0:w1.cell? ⟨tb,2,none⟩=some vs:=by have:=HT1.out.t.cell 2;exact this
 have xb:w1.cell? ⟨w.heap.size,0,none⟩=some bv:=by rw [hKk.cell];rfl
 have HI:=Hd.mk (indexfunc_any vs s.sums w.heap.size bv l w1 HT1.out.ss xb (Hbv.out.below hb))
 have HB:=Hd.mk hb
 have HKk:=Hd.mk hKk
 have hkl:=hKk.lt
 clear hb hKk
 go_upto_region 1 with (fail)
 refine wp_region_lit ?_
 refine wl_val rfl (.pointer (some ⟨tb,0,none⟩)) (rfl) ?_
 simp only [Act.put,u1,u2,u3]
 refine wl_val rfl (.pointer (some ⟨tb,0,none⟩)) (by simp [go_sem]) ?_
 simp only [Act.put,u1,u2,u3]
 refine wl_val rfl (.pointer (some ⟨tb,2,none⟩)) (by simp [go_sem]) ?_
 simp only [Act.put,u1,u2,u3]
 refine wl_val rfl (vs) (exec_cell _ _ (by rfl) ⟨tb,2,none⟩ _ (by rfl) (agg63 _) x0) ?_
 simp only [Act.put,u1,u2,u3]
 refine wl_val rfl (.func (.func 166) #[] #[.pointer (some ⟨w.heap.size,0,none⟩)]) (by simp [go_sem]) ?_
 simp only [Act.put,u1,u2,u3]
 refine wl_call rfl 165 _ _ rfl [vs,.func (.func 166) #[] #[.pointer (some ⟨w.heap.size,0,none⟩)]] rfl (by kernel_rfl) (HI.out) ?_
 rintro e w2 ⟨rfl,rfl⟩
 refine ⟨_,rfl,?_⟩
 simp only [Act.put,u1,u2,u3]
 by_cases hhit:s.sumAt l<s.sums.length
 · have hi:idxR l s.sums=((s.sumAt l:Nat):Int):=if_pos hhit
   have Hd1:Hd (s.digest l=s):=⟨if_pos hhit⟩
   rw [hi]
   have hlo:decide (((s.sumAt l:Nat):Int)<0)=false:=decide_eq_false (by omega)
   have Hn:Hd (s.sumAt l<1000000):=⟨by omega⟩
   clear hi hhit xb
   generalize hN:s.sumAt l=N at *
   have HN:=Hd.mk hN
   clear hN
   have ub100:ub 100=100:=by simp [ub]
   have H69:=Hd.mk (smark_any 100 (N+1) (by have:=Hn.out;omega) w1)
   rw [ub100] at H69
   clear ub100
   have hN2:(N:Int)<1000000:=by have:=Hn.out;omega
   have hN0:(0:Int)<=N:=by omega
   have eN:((N:Int)+1)=((N+1:Nat):Int):=by omega
   have EN:=Hd.mk eN
   clear eN
   go_upto_region 5 with (fail)
   refine wp_region_lit ?_
   refine wl_val rfl (.int .i64 (N:Int)) (rfl) ?_
   simp only [Act.put,u1,u2,u3]
   refine wl_val rfl (.int .i64 ((N+1:Nat):Int)) (exec_add 3 _ (.tmp 32) _ (by rfl) N 1 (by rfl) (by rfl) _ (by omega) (by omega) (by omega) _) ?_
   simp only [Act.put,u1,u2,u3]
   refine wl_call rfl 71 _ _ rfl [.int .u8 100,.int .i64 ((N+1:Nat):Int)] rfl (by kernel_rfl) (H69.out) ?_
   rintro e w7 ⟨rfl,hb7⟩
   refine ⟨_,rfl,?_⟩
   have HT7:=Hd.mk (TabR.keep HT1.out hb7.size (fun q hq=>hb7.block q (HT1.out.fl q hq)))
   have HF7:=Hd.mk ((Fr.of_below F HB.out).then_below hb7)
   clear hb7
   simp only [Act.put,u1,u2,u3]
   go_upto_region 6 with (refine wl_storeW rfl 41 _ _ rfl w7.heap.size 0 (vb (mkB 100 (N+1))) rfl rfl 41 _ (vb (mkB 100 (N+1))) (Blk.new w7 41 (List.replicate 16 (.int .u8 0))) (by simp [mkB_len]) i42 (vb_ones _) (by simp [mkB_len]) ?_;intro w8 hr8 hg8 hs8)
   have hRow:Row w8 w7.heap.size 41 (mkB 100 (N+1)):=hr8
   have HT8:=Hd.mk (HT7.out.keep (w':=w8) (by have:=hg8.size;simp at this;omega) (fun q hq=>(hg8.block q (by have:=HT7.out.fl q hq;simp;omega) (fun e=>by injection e with e;have:=HT7.out.fl q hq;omega)).trans (Below.heap_alloc w7 _ q (HT7.out.fl q hq))))
   have HF8:=Hd.mk ((HF7.out.then_below ((Below.refl _ _).alloc (Nat.le_refl _) (.cells (List.replicate 16 (Value.int .u8 0)).toArray 41))).then_grown hg8 (fun q hq=>.inr (by injection hq with hq;have:=HF7.out.size;omega)))
   have hsb:=SB.row hRow (by simp [mkB_len,maxLen])
   have Hsb:=Hd.mk hsb
   have hlF:=HF7.out.size
   clear hr8 hg8 hs8 hsb HF7 hRow
   go_wp2
   go_ret
   rw [Hd1.out]
   refine ⟨_,_,rfl,Hsb.out,⟨_,_,_,_,_,_,_,_,HT8.out⟩,fun q hq=>.inl hq,fun q hq=>hq,HF8.out,fun q hq=>?_⟩
   have hq2:q=w7.heap.size:=by simpa [Value.ownBlock] using hq.symm
   subst hq2
   exact ⟨hlF,fun hq3=>by have:=HT7.out.fl _ hq3;omega⟩
 have hi:idxR l s.sums = -1:=if_neg hhit
 have hsn:s.sumAt l=s.sums.length:=by have h1:s.sumAt l<=s.sums.length:=List.findIdx_le_length;omega
 have Hd1:Hd (s.digest l={ s with sums:=s.sums++[l] }):=⟨if_neg hhit⟩
 rw [hi,hsn]
 clear hi hhit xb
 have Hsn:=Hd.mk hsn
 clear hsn
 go_upto_region 3 with (fail)
 refine pH_begin (n:=12) 9 (fun W=>W.cell? ⟨tb,2,none⟩=some vs/\W.cell? ⟨w.heap.size,0,none⟩=some bv) (by kernel_rfl) rfl ?_
 have HT2:=Hd.mk (HT1.out.keep (w':=w1.drewN 1) (Nat.le_refl _) (fun _ _=>rfl))
 have hS:(w1.drewN 1).cell? ⟨tb,2,none⟩=some vs/\(w1.drewN 1).cell? ⟨w.heap.size,0,none⟩=some bv:=⟨x0,by show w1.cell? _=_;rw [HKk.out.cell];rfl⟩
 have HB2:Hd (Below w.heap.size w (w1.drewN 1)):=⟨below_drewN HB.out 1⟩
 have hlt1:w.heap.size<(w1.drewN 1).heap.size:=hkl
 clear HT1 HB x0 HI
 generalize w1.drewN 1=w2 at *
 refine pV (i:=0) (some 15) (.pointer (some ⟨tb,0,none⟩)) rfl rfl hS (fun _ _=>rfl) ?_
 simp only [Act.put,u1,u2,u3]
 refine pV (i:=1) (some 16) (.pointer (some ⟨tb,0,none⟩)) rfl rfl hS (fun _ _=>rfl) ?_
 simp only [Act.put,u1,u2,u3]
 refine pV (i:=2) (some 17) (.pointer (some ⟨tb,0,none⟩)) rfl rfl hS (by intro W _;simp [go_sem]) ?_
 simp only [Act.put,u1,u2,u3]
 refine pV (i:=3) (some 18) (.pointer (some ⟨tb,2,none⟩)) rfl rfl hS (by intro W _;simp [go_sem]) ?_
 simp only [Act.put,u1,u2,u3]
 refine pV (i:=4) (some 19) (vs) rfl rfl hS (fun W h=>exec_cell _ _ (by rfl) ⟨tb,2,none⟩ _ (by rfl) (agg63 W) h.1) ?_
 simp only [Act.put,u1,u2,u3]
 refine pV (i:=5) (some 20) (bv) rfl rfl hS (fun W h=>exec_cell _ _ (by rfl) ⟨w.heap.size,0,none⟩ _ (by rfl) (agg28 W) h.2) ?_
 simp only [Act.put,u1,u2,u3]
 refine pH_call (i:=6) (some 21) rfl rfl (by kernel_rfl) (by kernel_rfl) 167 _ _ rfl [bv] rfl (by kernel_rfl) (clone_any bv l _ (Hbv.out.below HB2.out) (by omega)) ?_
 rintro e w3 ⟨body,rfl,hob,hb3⟩
 have HT3:=Hd.mk (HT2.out.keep hb3.size (fun q hq=>hb3.block q (HT2.out.fl q hq)))
 have HB3:=Hd.mk (HB2.out.trans (hb3.mono HB2.out.size))
 have hS3:w3.cell? ⟨tb,2,none⟩=some vs/\w3.cell? ⟨w.heap.size,0,none⟩=some bv:=⟨(hb3.cell (p:=⟨tb,2,none⟩) (by show tb<_;omega)).trans hS.1,(hb3.cell (p:=⟨w.heap.size,0,none⟩) hlt1).trans hS.2⟩
 have hs3:=hb3.size
 clear HT2 HB2 hb3 hS
 refine ⟨_,rfl,(fun _=>hS3),?_⟩
 simp only [Act.put,u1,u2,u3]
 have hS4:(w3.alloc (.cells #[body] 25)).cell? ⟨tb,2,none⟩=some vs/\(w3.alloc (.cells #[body] 25)).cell? ⟨w.heap.size,0,none⟩=some bv:=⟨(World.cell?_alloc_lt w3 _ ⟨tb,2,none⟩ (by show tb<_;omega)).trans hS3.1,(World.cell?_alloc_lt w3 _ ⟨w.heap.size,0,none⟩ (by show w.heap.size<_;omega)).trans hS3.2⟩
 refine pH_run (i:=7) (some 22) (.slice (some ⟨w3.heap.size,0,none⟩) 1 1) rfl rfl (by kernel_rfl) (by kernel_rfl) ((exec_bs1 167 25 _ (by rfl) body (.slice none 0 0) 1 (by rfl) tybss ibs1 zbs (by omega) (by omega) rfl (by rw [hob.cells1];rfl) w3).trans (show _=Result.ok _ (w3.alloc (.cells #[body] 25)) by rw [hob.cells1])) (fun _=>hS4) ?_
 simp only [Act.put,u1,u2,u3]
 have HT4:=Hd.mk (HT3.out.keep (w':=w3.alloc (.cells #[body] 25)) (by simp) (fun q hq=>Below.heap_alloc w3 _ q (HT3.out.fl q hq)))
 have hob4:OB (w3.alloc (.cells #[body] 25)) 0 body l:=(OB.mono hob (Nat.zero_le _)).alloc _
 have HB4:=Hd.mk (HB3.out.alloc HB3.out.size (.cells #[body] 25))
 have hbd:∀ q,body.ownBlock=some q->w2.heap.size<=q:=fun q hq=>(hob.own q hq).1
 have hBk:Blk (w3.alloc (.cells #[body] 25)) w3.heap.size 25 [body]:=Blk.new w3 25 [body]
 have hs4:(w3.alloc (.cells #[body] 25)).heap.size=w3.heap.size+1:=by simp
 generalize hg3:w3.heap.size=g3 at *
 generalize w3.alloc (.cells #[body] 25)=w4 at *
 clear hob HT3 HB3 hS3
 refine pH_pushV (i:=8) (some 23) rfl rfl (by kernel_rfl) (by kernel_rfl) (.tmp 19) (.tmp 22) 167 rfl 0 25 1 24 (.slice none 0 0) tybss ibs3 rfl (by omega) vs (sums.map fun v=>[v]) rfl HT4.out.u g3 25 [body] 1 rfl hBk rfl (by intro z hz;simp at hz;subst hz;exact hob4.one) (by rw [Hul.out];omega) (by rw [Hul.out];unfold maxLen;omega) (by omega) ?_
 intro v' w5 hv5 hg5 hat5
 have hxb:∀ q,vs.ownBlock=some q->q<w.heap.size:=fun q hq=>HR.out.fl q (HR.out.fu q hq)
 have hdj:Disj body vs:=own_disj hob4 HT4.out.u.own (by decide)
 have HT5:=Hd.mk (TabR.summed (l:=l) HT4.out hv5 hg5 hob4 hdj)
 have ht5:=HT4.out.t.grown hg5 (fun e=>own_ne HT4.out.u.own HT4.out.t (by decide) tb e.symm rfl)
 have hS5:w5.cell? ⟨tb,2,none⟩=some vs/\w5.cell? ⟨w.heap.size,0,none⟩=some bv:=⟨by have:=ht5.cell 2;exact this,(World.cell?_of_block (a:=⟨w.heap.size,0,none⟩) (hg5.block _ (by show w.heap.size<_;omega) (fun e=>by have:=hxb _ e.symm;simp at this))).trans hS4.2⟩
 have HF5:Hd (Fr F w w5):=⟨(Fr.of_below F HB4.out).then_grown hg5 (fun q hq=>.inl (HR.out.fu q hq))⟩
 have Ht5:=Hd.mk ht5
 have hs5:=hg5.size
 have hat:∀ q,v'.ownBlock=some q->F q∨w.heap.size<=q:=by
   intro q hq
   rcases hat5 with e|e
   · rw [e] at hq;exact .inl (HR.out.fu q hq)
   rw [e] at hq;injection hq with hq;right;omega
 have hv1:v'.oneCell'=true/\v'.cells=#[v']:=by obtain ⟨A,c,e,_⟩:=hv5.form;rw [e];exact ⟨rfl,rfl⟩
 have Hat:=Hd.mk hat
 clear hat hat5 hg5 hS4 ht5 HT4 hv5 hob4 HB4 hBk
 refine ⟨(fun _=>hS5),?_⟩
 simp only [Act.put,u1,u2,u3]
 refine pH_run (i:=9) (some 24) (.pointer (some ⟨tb,0,none⟩)) rfl rfl (by kernel_rfl) (by kernel_rfl) (show _=Result.ok _ w5 by simp [go_sem]) (fun h=>absurd h (by omega)) ?_
 simp only [Act.put,u1,u2,u3]
 refine pH_run (i:=10) (some 25) (.pointer (some ⟨tb,2,none⟩)) rfl rfl (by kernel_rfl) (by kernel_rfl) (show _=Result.ok _ w5 by simp [go_sem]) (fun h=>absurd h (by omega)) ?_
 simp only [Act.put,u1,u2,u3]
 refine pH_runs (i:=11) none rfl rfl (by kernel_rfl) (by kernel_rfl) (exec_storeCell 167 _ _ (by rfl) tb 2 v' (by rfl) (by rfl) 169 _ Ht5.out (by simp) i63 hv1.1 hv1.2) (fun h=>absurd h (by omega)) ?_
 simp only [Act.put]
 refine pH_done (by kernel_rfl) ?_ _
 go_upto_region 4 with (fail)
 have HF6:Hd (Fr F w (w5.setCell ⟨tb,2,none⟩ v')):=⟨⟨HF5.out.os,HF5.out.tape,HF5.out.output,by simpa [World.setCell] using HF5.out.size,fun q hq hF=>(Below.heap_setCell w5 ⟨tb,2,none⟩ v' q (fun e=>hF (e ▸ HR.out.ft))).trans (HF5.out.block q hq hF)⟩⟩
 have hs6:(w5.setCell ⟨tb,2,none⟩ v').heap.size=w5.heap.size:=by simp [World.setCell]
 generalize w5.setCell ⟨tb,2,none⟩ v'=w6 at *
 clear HF5 Ht5 hS5 hv1
 obtain ⟨A,cp,hve,hcp,hcp2⟩:=HT5.out.u.form
 have hkl2:((sums++[body]).map fun v=>[v]).length=s.sums.length+1:=by rw [List.length_map,List.length_append,HR.out.un];rfl
 rw [hkl2] at hve hcp
 unfold maxLen at hcp2
 have x0:=HT5.out.t.cell 2
 rw [hve] at x0
 have x1:w6.cell? ⟨tb,2,none⟩=some (.slice A (s.sums.length+1) cp):=x0
 clear x0 hkl2
 have ub100:ub 100=100:=by simp [ub]
 have H69:=Hd.mk (smark_any 100 (s.sums.length+1) (by omega) w6)
 rw [ub100] at H69
 clear ub100
 refine wp_region_lit ?_
 refine wl_val rfl (.pointer (some ⟨tb,0,none⟩)) (rfl) ?_
 simp only [Act.put,u1,u2,u3]
 refine wl_val rfl (.pointer (some ⟨tb,0,none⟩)) (by simp [go_sem]) ?_
 simp only [Act.put,u1,u2,u3]
 refine wl_val rfl (.pointer (some ⟨tb,2,none⟩)) (by simp [go_sem]) ?_
 simp only [Act.put,u1,u2,u3]
 refine wl_val rfl (.slice A (s.sums.length+1) cp) (exec_cell _ _ (by rfl) ⟨tb,2,none⟩ _ (by rfl) (agg63 _) x1) ?_
 simp only [Act.put,u1,u2,u3]
 refine wl_val rfl (.int .i64 ((s.sums.length+1:Nat):Int)) (by simp [go_sem]) ?_
 simp only [Act.put,u1,u2,u3]
 refine wl_val rfl (.int .i64 (s.sums.length:Int)) (exec_sub 3 _ (.tmp 30) _ (by rfl) ((s.sums.length+1:Nat):Int) 1 (by rfl) (by rfl) _ (by omega) (by omega) (by omega) _) ?_
 simp only [Act.put,u1,u2,u3]
 go_upto_region 5 with (fail)
 refine wp_region_lit ?_
 refine wl_val rfl (.int .i64 (s.sums.length:Int)) (rfl) ?_
 simp only [Act.put,u1,u2,u3]
 refine wl_val rfl (.int .i64 ((s.sums.length+1:Nat):Int)) (exec_add 3 _ (.tmp 32) _ (by rfl) s.sums.length 1 (by rfl) (by rfl) _ (by omega) (by omega) (by omega) _) ?_
 simp only [Act.put,u1,u2,u3]
 refine wl_call rfl 71 _ _ rfl [.int .u8 100,.int .i64 ((s.sums.length+1:Nat):Int)] rfl (by kernel_rfl) (H69.out) ?_
 rintro e w7 ⟨rfl,hb7⟩
 refine ⟨_,rfl,?_⟩
 have HT7:=Hd.mk (TabR.keep HT5.out hb7.size (fun q hq=>hb7.block q (HT5.out.fl q hq)))
 have HF7:=Hd.mk (HF6.out.then_below hb7)
 have hs7:=hb7.size
 have hF5:∀ q,(F q∨v'.ownBlock=some q∨body.ownBlock=some q)->F q∨w.heap.size<=q:=fun q hq=>by
   rcases hq with hq|hq|hq
   · exact .inl hq
   · exact Hat.out q hq
   exact .inr (by have:=hbd q hq;omega)
 clear HF6 hb7 x1
 simp only [Act.put,u1,u2,u3]
 go_upto_region 6 with (refine wl_storeW rfl 41 _ _ rfl w7.heap.size 0 (vb (mkB 100 (s.sums.length+1))) rfl rfl 41 _ (vb (mkB 100 (s.sums.length+1))) (Blk.new w7 41 (List.replicate 16 (.int .u8 0))) (by simp [mkB_len]) i42 (vb_ones _) (by simp [mkB_len]) ?_;intro w8 hr8 hg8 hs8)
 have hRow:Row w8 w7.heap.size 41 (mkB 100 (s.sums.length+1)):=hr8
 have HT8:=Hd.mk (HT7.out.keep (w':=w8) (by have:=hg8.size;simp at this;omega) (fun q hq=>(hg8.block q (by have:=HT7.out.fl q hq;simp;omega) (fun e=>by injection e with e;have:=HT7.out.fl q hq;omega)).trans (Below.heap_alloc w7 _ q (HT7.out.fl q hq))))
 have HF8:=Hd.mk ((HF7.out.then_below ((Below.refl _ _).alloc (Nat.le_refl _) (.cells (List.replicate 16 (Value.int .u8 0)).toArray 41))).then_grown hg8 (fun q hq=>.inr (by injection hq with hq;have:=HF7.out.size;omega)))
 have hsb:=SB.row hRow (by simp [mkB_len,maxLen])
 have Hsb:=Hd.mk hsb
 have hlF:=HF7.out.size
 clear hr8 hg8 hs8 hsb HF7 hRow
 go_wp2
 go_ret
 rw [Hd1.out,Hsn.out]
 refine ⟨_,_,rfl,Hsb.out,⟨_,_,_,_,_,_,_,_,HT8.out⟩,hF5,fun q hq=>.inl hq,HF8.out,fun q hq=>?_⟩
 have hq2:q=w7.heap.size:=by simpa [Value.ownBlock] using hq.symm
 subst hq2
 exact ⟨hlF,fun hq3=>by have:=HT7.out.fl _ hq3;omega⟩
end
section
open Go.RowKit Go.QT
def NPost(w:World)(e:Ending)(w':World):Prop:=
 ∃ tb F,e=.returned (.pointer (some ⟨tb,0,none⟩))/\TabAt w' F tb STab.empty/\(∀ q,F q->w.heap.size<=q)/\Below w.heap.size w w'
theorem empty_tab(w:World):TabAt ((w.alloc (.map #[] 0)).alloc (.cells #[.slice none 0 0,.slice none 0 0,.slice none 0 0,.map (some w.heap.size)] 169)) (fun q=>q=w.heap.size∨q=w.heap.size+1) (w.heap.size+1) STab.empty:=by
 refine ⟨w.heap.size,.slice none 0 0,.slice none 0 0,.slice none 0 0,[],[],#[],0,?_⟩
 refine { t:=new2 w _ 169 _,k:=OV.nil _ _ _ _,kl:=by simp [STab.empty],x:=OV.nil _ _ _ _,xn:=rfl,xl:=by simp [STab.empty],xb:=by simp [STab.empty],u:=OV.nil _ _ _ _,un:=rfl,ub:=by simp [STab.empty],m:=?_,me:=by simp [STab.empty],ml:=by simp [STab.empty],ft:=.inr rfl,fm:=.inl rfl,fk:=by simp [Value.ownBlock],fx:=by simp [Value.ownBlock],fu:=by simp [Value.ownBlock],fl:=?_ }
 · rw [Below.heap_alloc _ _ _ (by simp)]
   exact heap_alloc_new w _
 intro q hq
 rcases hq with rfl|rfl <;> simp <;> omega
theorem snew_any(w:World):Calls Tryz.prog 19 #[] w (NPost w):=by
 have hmm:=@run_makeMap Tryz.prog
 have h1:∀ W,(Instr.makeMap 164 none).run Tryz.prog W=.ok (.map (some W.heap.size)) (W.alloc (.map #[] 0)):=fun W=>rfl
 have H1:=Hd.mk h1
 have hb:∀ (g:Nat) W,(Instr.build 169 #[(3,.map (some g))]).run Tryz.prog W=.ok (.agg #[.slice none 0 0,.slice none 0 0,.slice none 0 0,.map (some g)]) W:=fun g W=>by kernel_rfl
 have Hb:=Hd.mk hb
 clear hmm h1 hb
 go_enter Tryz.func19,Tryz.ntmps19
 go_upto_region 1 with (fail)
 refine wp_region_lit ?_
 refine wl_run rfl (.map (some w.heap.size)) (show _=Result.ok _ (w.alloc (.map #[] 0)) by kernel_rfl) ?_
 simp only [Act.put,u1,u2,u3]
 refine wl_val rfl (.agg #[.slice none 0 0,.slice none 0 0,.slice none 0 0,.map (some w.heap.size)]) (by kernel_rfl) ?_
 simp only [Act.put,u1,u2,u3]
 refine wl_run rfl (.pointer (some ⟨w.heap.size+1,0,none⟩)) (show _=Result.ok _ ((w.alloc (.map #[] 0)).alloc (.cells #[.slice none 0 0,.slice none 0 0,.slice none 0 0,.map (some w.heap.size)] 169)) by simp [go_sem]) ?_
 simp only [Act.put,u1,u2,u3]
 go_wp2
 go_ret
 exact ⟨_,_,rfl,empty_tab w,fun q hq=>by rcases hq with rfl|rfl <;> omega,((Below.refl _ _).alloc (Nat.le_refl _) _).alloc (by simp) _⟩
end
section
open Go.RowKit Go.QT
def rTab(F:Nat->Prop)(tb:Nat)(s:STab):Res where
 F:=F
 Φ:=fun w=>TabAt w F tb s
 lt:=fun h=>h.lt
 keep:=fun h hs hk=>h.keep hs hk
section
variable{F0 F:Nat->Prop}{w0 w w':World}{ro rs:List Res}{tb:Nat}{s s':STab}{P:Program}{o:Oper}{a:Act}{v:Value}{e:Ending}
end
end
section
open Go.RowKit Go.QT
/-- A slice reads as elements of sz cells. -/
structure RV(w:World)(sz:Nat)(A:Option Addr)(c:Nat)(xs:List (List Value)):Prop where
 le:xs.length<=c
 cap:c<=maxLen
 len:∀ x ∈ xs,x.length=sz
 at_:xs≠[]->∃ b o,A=some ⟨b,o,none⟩/\b<w.heap.size/\∀ i x,xs[i]?=some x->∀ j u,x[j]?=some u->w.cell? ⟨b,o+i*sz+j,none⟩=some u
def ownA:Option Addr->Option Nat:=fun A=>A.map (·.block)
def rRV(sz:Nat)(A:Option Addr)(c:Nat)(xs:List (List Value)):Res where
 F:=fun q=>xs≠[]/\ownA A=some q
 Φ:=fun w=>RV w sz A c xs
 lt:=fun h q hq=>by
   obtain ⟨b,o,rfl,hb,_⟩:=h.at_ hq.1
   have:b=q:=by simpa [ownA] using hq.2
   omega
 keep:=fun h hs hk=>⟨h.le,h.cap,h.len,fun hne=>by
   obtain ⟨b,o,rfl,hb,hc⟩:=h.at_ hne
   exact ⟨b,o,rfl,by omega,fun i x hx j u hu=>(World.cell?_of_block (hk b ⟨hne,rfl⟩)).trans (hc i x hx j u hu)⟩⟩
/-- The bytes as elements. -/
def bx(l:Bytes):List (List Value):=l.map fun x=>[.int .u8 (ub x)]
@[simp] theorem bx_len (l:Bytes):(bx l).length=l.length:=by simp [bx]
theorem bx_get(l:Bytes)(i:Nat)(hi:i<l.length):(bx l)[i]?=some [.int .u8 (ub (gb l i))]:=by simp [bx,gb,hi]
theorem SB.rv{w:World}{A:Option Addr}{n c:Nat}{l:Bytes}(h:SB w (.slice A n c) l):RV w 1 A c (bx l):=by
 obtain ⟨A',c',e,hc,hm,hcell⟩:=h
 injection e with e1 e2 e3
 subst e1;subst e3
 refine ⟨by simpa using hc,hm,by simp [bx],fun hne=>?_⟩
 obtain ⟨b,o,rfl,hb,hcl⟩:=hcell (by rintro rfl;exact hne rfl)
 refine ⟨b,o,rfl,hb,fun i x hx j u hu=>?_⟩
 have hi:i<l.length:=by have:=(List.getElem?_eq_some_iff.1 hx).1;simpa using this
 rw [bx_get l i hi] at hx
 injection hx with hx
 subst hx
 have hj:j=0:=by have:=(List.getElem?_eq_some_iff.1 hu).1;simpa using this
 subst hj
 injection hu with hu
 subst hu
 simpa using hcl i hi
/-- Where an element lies. -/
def eAt(A:Option Addr)(k:Nat):Value:=match A with|some a=>.pointer (some (a.add k))|none=>undef
section
variable{P:Program}{o:Oper}{a:Act}{w w':World}{sz c:Nat}{A:Option Addr}{xs:List (List Value)}
/-- The place of an element. -/
theorem e_idx(h:RV w sz A c xs)(i:Nat)(hi:i<xs.length)(t:TypeId)(x y:Operand)(ho:o.op=.indexAddr t x y)(k:IntKind)(hx:a.eval x=.slice A xs.length c)(hy:a.eval y=.int k (i:Int))(E:TypeId)(ht:P.underlying t=some (.slice E))(hE:pureVal P (sizeOf E)=some sz)(W:World) :
   (execOp a.eval o).run P W=.ok (.value (eAt A (i*sz))) W:=by
 obtain ⟨b,o',rfl,hb,hc⟩:=h.at_ (by rintro rfl;simp at hi)
 have h0:(0:Int)<=i/\(i:Int)<xs.length:=⟨by omega,by omega⟩
 have h1:(Instr.indexAt t (.slice (some ⟨b,o',none⟩) xs.length c) (.int k (i:Int))).run P W=.ok (eAt (some ⟨b,o',none⟩) (i*sz)) W:=by
   simp [Instr.indexAt,asIntOf,run_underlying ht,hi,pureVal_run hE,eAt]
 unfold execOp
 simp only [ho,hx,hy,Sem.run_bind,h1,Result.andThen_ok,Sem.run_pure]
theorem eAt_some(h:RV w sz A c xs)(i:Nat)(hi:i<xs.length):∃ b k,A=some ⟨b,k,none⟩/\eAt A (i*sz)=pt b (k+i*sz)/\∀ j u,(xs[i]'hi)[j]?=some u->w.cell? ⟨b,k+i*sz+j,none⟩=some u:=by
 obtain ⟨b,o',rfl,hb,hc⟩:=h.at_ (by rintro rfl;simp at hi)
 refine ⟨b,o',rfl,?_,fun j u hu=>hc i _ (List.getElem?_eq_getElem hi) j u hu⟩
 unfold eAt pt
 by_cases h0:i*sz=0
 · rw [h0];simp [Addr.add]
 simp [Addr.add,h0]
/-- An element of more cells. -/
theorem e_elems(h:RV w sz A c xs)(i:Nat)(hi:i<xs.length)(t:TypeId)(x:Operand)(ho:o.op=.load t x)(ds:List Value)(hx:a.eval x=eAt A (i*sz))(hv:xs[i]'hi=ds)(hB:rowB P t ds.length=true) :
   (execOp a.eval o).run P w=.ok (.value (.agg ds.toArray)) w:=by
 obtain ⟨b,k,rfl,e,hc⟩:=eAt_some h i hi
 obtain ⟨d,hu,hr,hs⟩:=rowB_spec hB
 have hl:=run_loadVar_mid (P:=P) w b (k+i*sz) t ds d (fun j v hj=>hc j v (by rw [hv];exact hj)) hu hr hs
 unfold execOp
 rw [e] at hx
 simp only [ho,hx,pt,Instr.loadAt,Instr.sureAddr,Sem.run_bind,Sem.run_pure,Result.andThen_ok,hl]
theorem OV.rv{base E:Nat}{A:Option Addr}{n:Nat}(h:OV w base E sz (.slice A n c) xs):n=xs.length/\RV w sz A c xs:=by
 have hf:=h.form
 obtain ⟨A',c',e,h1,h2⟩:=hf
 injection e with e1 e2 e3
 subst e1;subst e2;subst e3
 refine ⟨rfl,h1,h2,h.len,fun hne=>?_⟩
 have hpos:0<xs.length:=by
   rcases Nat.eq_zero_or_pos xs.length with h0|h0
   · exact absurd (List.eq_nil_of_length_eq_zero h0) hne
   exact h0
 obtain ⟨g,cap,e,hb,hlt,_⟩:=h.at_ (i:=0) hpos
 injection e with e1 _ _
 subst e1
 refine ⟨g,0,rfl,hlt,fun i x hx j u hu=>?_⟩
 have hi:i<xs.length:=(List.getElem?_eq_some_iff.1 hx).1
 obtain ⟨g',cap',e',_,_,_,_,cur,hB,hcur⟩:=h.at_ hi
 injection e' with e1' _ _
 injection e1' with e1'
 injection e1' with e2'
 subst e2'
 have hxe:xs[i]=x:=by rw [List.getElem?_eq_getElem hi] at hx;injection hx
 subst hxe
 have hj:j<sz:=by rw [← h.len _ (List.getElem_mem hi)];exact (List.getElem?_eq_some_iff.1 hu).1
 rw [Nat.zero_add,hB.cell,hcur j hj]
 exact hu
/-- append of one element, that lies in a block of its own, to a row of the call's own. -/
theorem x_push{F0:Nat->Prop}{w0:World}{ro rs:List Res}(h:Hp F0 w0 w ro rs)(i j:Nat){E:TypeId}{v:Value}{g:Nat}{T:TypeId}{news:List Value}(hi:rs[i]?=some (rOV E sz v xs))(hj:rs[j]?=some (rBlk g T news))(_hij:i≠j)
   (s x:Operand) (t:TypeId) (ho:o.op=.call { callee:=.builtin .append,args:=#[s,x],argTypes:=#[t,t] }) (bytes:Nat) (z:Value) (ht:P.underlying t=some (.slice E)) (hinf:(P.info? E).map (fun i=>(i.zero,i.size,i.bytes))=some (some z,sz,bytes))
   (hzs:z.cells.size=sz) (hsz:0<sz) (hs:a.eval s=v) (c:Nat) (hx:a.eval x=.slice (some ⟨g,0,none⟩) 1 c) (hn:news.length=sz) (h1:∀ u ∈ news,u.oneCell'=true)
   (hlen:(xs.length+1)*bytes<=140737488355328) (hlen2:xs.length<maxLen) :
   OpTo P o a w (fun u w'=>∃ A cc,u=.slice A (xs++[news]).length cc/\Hp F0 w0 w' ro (rs.set i (rOV E sz u (xs++[news])))):=by
 have hv:OV w 0 E sz v xs:=h.own i _ hi
 have hb:Blk w g T news:=h.own j _ hj
 obtain ⟨v',w',hrun,h2,h3,h4⟩:=OV.push (P:=P) s x t ho 0 E sz bytes z ht hinf hzs hsz v xs hs hv g T news c hx hb hn h1 hlen hlen2 (Nat.zero_le _)
 obtain ⟨A,cc,e,_,_⟩:=h2.form
 refine OpTo.run v' hrun ⟨A,cc,e,h.upd i hi (Fr.of_grown h3 (fun q hq=>.inl hq)) (rOV E sz v' (xs++[news])) h2 (fun q hq=>?_)⟩
 rcases h4 with h4|h4
 · left;show v.ownBlock=some q;rw [← h4];exact hq
 right
 have:v'.ownBlock=some q:=hq
 rw [h4] at this
 injection this with this
 omega
/-- A row of the call's own without elements. -/
theorem Hp.ovNil{F0:Nat->Prop}{w0:World}{ro rs:List Res}(h:Hp F0 w0 w ro rs)(E sz:Nat):Hp F0 w0 w ro (rOV E sz (.slice none 0 0) []::rs):=
 h.newS (Below.refl _ _) _ (OV.nil w 0 E sz) (fun q hq=>by simp [rOV,Value.ownBlock] at hq)
theorem Hp.obNil{F0:Nat->Prop}{w0:World}{ro rs:List Res}(h:Hp F0 w0 w ro rs):Hp F0 w0 w ro (rOB (.slice none 0 0) []::rs):=
 h.newS (Below.refl _ _) _ (OB.nil w 0) (fun q hq=>by simp [rOB,Value.ownBlock] at hq)
/-- A block of bytes becomes a row of the call's own. -/
theorem Hp.blkOB{F0:Nat->Prop}{w0:World}{ro rs:List Res}(h:Hp F0 w0 w ro rs)(i:Nat){g:Nat}(l:Bytes)(hi:rs[i]?=some (rBlk g 5 (vb l)))(hl:l.length<=maxLen):Hp F0 w0 w ro (rs.set i (rOB (.slice (some ⟨g,0,none⟩) l.length l.length) l)):=by
 have hb:Row w g 5 l:=h.own i _ hi
 refine h.upd i hi (Fr.refl _ _) _ (OB.new w g l hl hb (Nat.zero_le _)) (fun q hq=>.inl ?_)
 have:g=q:=by simpa [rOB,Value.ownBlock] using hq
 exact this.symm
/-- append of bytes that are read to a row of the call's own. -/
theorem x_appB{F0:Nat->Prop}{w0:World}{ro rs:List Res}(h:Hp F0 w0 w ro rs)(i:Nat){v:Value}{l m:Bytes}(hi:rs[i]?=some (rOB v l))(s x:Operand)(ho:o.op=.call { callee:=.builtin .append,args:=#[s,x],argTypes:=#[25,25] })
   (u:Value) (hs:a.eval s=v) (hx:a.eval x=u) (hu:SB w u m) (hlen:l.length+m.length<=140737488355328) :
   OpTo Tryz.prog o a w (fun u w'=>∃ A cc,u=.slice A (l++m).length cc/\Hp F0 w0 w' ro (rs.set i (rOB u (l++m)))):=by
 have hv:OB w 0 v l:=h.own i _ hi
 obtain ⟨i0,hi0,hz0,hz1,hz2⟩:=info_parts i5
 obtain ⟨A,c,rfl,hc,hm,hcell⟩:=hu
 have hr:=(SB.reads (w:=w) (A:=A) (n:=m.length) (c:=c) ⟨A,c,rfl,hc,hm,hcell⟩).2
 obtain ⟨v',w',hrun,h2,h3,h4⟩:=run_append_any (P:=Tryz.prog) w 0 25 o.type 5 i0 _ 1 1 ty28 hi0 hz0 hz1 hz2 rfl (by omega) v l.length (vb l) hv w.heap.size A m.length c (vb m) hr (vb_ones m) (by unfold maxLen;omega) (by omega) (Nat.zero_le _)
 have h2':OB w' 0 v' (l++m):=by
   unfold OB
   rw [List.length_append,vb_append]
   exact h2
 have hsb:=SB.own h2'
 obtain ⟨A',c',e,_,_⟩:=hsb
 have hrun':(execOp a.eval o).run Tryz.prog w=.ok (.value v') w':=by
   unfold execOp
   simp only [ho,resolve,invoke,builtin,Sem.run_bind,Sem.run_pure,Result.andThen_ok,List.map_toArray,List.map_cons,List.map_nil,hs,hx,hrun]
 refine OpTo.run v' hrun' ⟨A',c',e,h.upd i hi (Fr.of_grown h3 (fun q hq=>.inl hq)) (rOB v' (l++m)) h2' (fun q hq=>?_)⟩
 rcases h4 with h4|h4
 · left;show v.ownBlock=some q;rw [← h4];exact hq
 right
 have:v'.ownBlock=some q:=hq
 rw [h4] at this
 injection this with this
 omega
/-- A call that leaves new bytes. -/
theorem x_bytes{F0:Nat->Prop}{w0:World}{ro rs:List Res}(h:Hp F0 w0 w ro rs){l:Bytes}(fn:FuncId)(al:List Value)(hp:pureVal P (execOp a.eval o)=some (.enter fn al.toArray))(hc:Calls P fn al.toArray w (BPost w l)) :
   OpTo P o a w (fun u w'=>∃ A cc,u=.slice A l.length cc/\Hp F0 w0 w' ro (rOB u l::rs)):=
 OpTo.enter fn al hp hc fun e w' hq=>by
   obtain ⟨v,he,ho,hb⟩:=hq
   obtain ⟨A,cc,e2,_⟩:=ho.sb
   exact ⟨v,he,A,cc,e2,h.newS hb _ (ho.mono (Nat.zero_le _)) (fun q hq=>(ho.own q hq).1)⟩
/-- []byte(s). -/
theorem x_conv{F0:Nat->Prop}{w0:World}{ro rs:List Res}(h:Hp F0 w0 w ro rs)(x:Operand)(ho:o.op=.convert 9 25 x)(s:ByteArray)(hx:a.eval x=.string s)(hs:s.size<=maxLen) :
   OpTo Tryz.prog o a w (fun u w'=>∃ A cc,u=.slice A s.data.toList.length cc/\Hp F0 w0 w' (rSB u s.data.toList::ro) rs):=by
 obtain ⟨v,w',hrun,hsb,hb,g,c,hg,hf⟩:=conv_sb s w hs
 have hr:(execOp a.eval o).run Tryz.prog w=.ok (.value v) w':=by
   unfold execOp
   simp only [ho,hx,Sem.run_bind,hrun,Result.andThen_ok,Sem.run_pure]
 refine OpTo.run v hr ⟨some ⟨g,0,none⟩,c,by rw [hf];simp,h.newR hb _ hsb (fun q hq=>?_)⟩
 have h2:v.ownBlock=some q:=hq.2
 rw [hf] at h2
 have:g=q:=by simpa [Value.ownBlock] using h2
 omega
end
end
section
open Go.RowKit Go.QT
end
section
open Go.RowKit Go.QT
section
variable{F0 F:Nat->Prop}{w0 w w':World}{ro rs:List Res}{tb:Nat}{s s2:STab}{o:Oper}{a:Act}{v:Value}{e:Ending}
theorem e_min(x y:Operand)(ts:Array TypeId)(ho:o.op=.call { callee:=.builtin .min,args:=#[x,y],argTypes:=ts })(k k':IntKind)(m n:Int)(hx:a.eval x=.int k m)(hy:a.eval y=.int k' n)(r:Int)(hr:(if n<m then n else m)=r)(W:World) :
   (execOp a.eval o).run Tryz.prog W=.ok (.value (.int k r)) W:=by
 subst hr
 unfold execOp
 simp only [ho,resolve,invoke,builtin,Sem.run_bind,Sem.run_pure,Result.andThen_ok,List.map_toArray,List.map_cons,List.map_nil,hx,hy,run_min_int2]
/-- Keys of one text are one. -/
theorem kl_inj{K L:Fin 16->UInt8}(h:kl K=kl L):K=L:=by
 funext i
 have h2:(kl K)[i.val]?=(kl L)[i.val]?:=by rw [h]
 unfold kl at h2
 rw [List.getElem?_ofFn,List.getElem?_ofFn,dif_pos i.isLt,dif_pos i.isLt] at h2
 exact Option.some.inj h2
/-- Bytes that stand in the program. -/
theorem x_bsl(h:Hp F0 w0 w ro rs)(l:Bytes)(hn:newVal Tryz.prog (execOp a.eval o)=some (.cells (vb l).toArray 5,fun r=>some (.value (.slice (some ⟨r,0,none⟩) l.length l.length)))) :
   OpTo Tryz.prog o a w (fun v w'=>∃ g,v=.slice (some ⟨g,0,none⟩) l.length l.length/\w'=w.alloc (.cells (vb l).toArray 5)/\g=w.heap.size/\Hp F0 w0 w ro rs/\Hp F0 w0 w' ro (rBlk g 5 (vb l)::rs)):=
 OpTo.run (.slice (some ⟨w.heap.size,0,none⟩) l.length l.length) (newVal_run hn w rfl) ⟨_,rfl,rfl,rfl,h,h.alloc 5 (vb l)⟩
/-- A block of bytes, read. -/
theorem SB.blk{g:Nat}{T:TypeId}{l:Bytes}{n c:Nat}(hb:Blk w g T (vb l))(hn:n=l.length)(hc:decide (n<=c)=true)(hm:decide (c<=maxLen)=true):SB w (.slice (some ⟨g,0,none⟩) n c) l:=by
 subst hn
 refine ⟨_,_,rfl,of_decide_eq_true hc,of_decide_eq_true hm,fun _=>⟨g,0,rfl,hb.lt,fun i hi=>?_⟩⟩
 rw [hb.cell,Nat.zero_add]
 exact vb_get l i hi
theorem SB.blk16{g:Nat}{T:TypeId}{K:Fin 16->UInt8}(hb:Blk w g T (vb (kl K))):SB w (.slice (some ⟨g,0,none⟩) 16 16) (kl K):=
 SB.blk hb (kl_len K).symm (by decide) (by decide)
end
end
section
theorem and_mask(x:Int)(m:Nat)(hm:m<4611686018427387904):∃ n:Nat,bits .and .i64 x (m:Int)=(n:Int)/\n<=m:=by
 refine ⟨((BitVec.ofInt 64 x) &&& (BitVec.ofInt 64 (m:Int))).toNat,?_,?_⟩
 · show IntKind.i64.wrap ((((BitVec.ofInt 64 x) &&& (BitVec.ofInt 64 (m:Int))).toNat:Nat):Int)=_
   have h:((BitVec.ofInt 64 x) &&& (BitVec.ofInt 64 (m:Int))).toNat<=m:=by
     rw [BitVec.toNat_and,BitVec.ofInt_natCast,BitVec.toNat_ofNat]
     exact Nat.le_trans Nat.and_le_right (Nat.mod_le _ _)
   rw [IntKind.wrap_i64]
   omega
 rw [BitVec.toNat_and,BitVec.ofInt_natCast,BitVec.toNat_ofNat]
 exact Nat.le_trans Nat.and_le_right (Nat.mod_le _ _)
end
section
open Go.RowKit Go.QT
section
variable{P:Program}{o:Oper}{a:Act}{w w' w0:World}{sz c:Nat}{A:Option Addr}{xs:List (List Value)}{F0:Nat → Prop}{ro rs:List Res}
theorem RV.lenIs{n:Nat}(h:RV w sz A c xs)(hn:xs.length=n):xs.length=n ∧ RV w sz A c xs:=⟨hn,h⟩
theorem e_cut_lh{v:Value}{l:Bytes}(h:SB w v l)(x lo hi:Operand)(ho:o.op=.slice 25 x (some lo) (some hi) none)(hx:a.eval x=v)(k k':IntKind)(i j:Nat)(hlo:a.eval lo=.int k (i:Int))(hhi:a.eval hi=.int k' (j:Int))(h1:i ≤ j)(h2:j ≤ l.length)(W:World) :
   (execOp a.eval o).run Tryz.prog W=.ok (.value (cutS v i j)) W:=
 exec_cut_lh x lo hi ho v l hx h k k' (i:Int) (j:Int) hlo hhi (by omega) (by omega) (by omega) W
theorem e_cut_h{v:Value}{l:Bytes}(h:SB w v l)(x hi:Operand)(ho:o.op=.slice 25 x none (some hi) none)(hx:a.eval x=v)(k':IntKind)(j:Nat)(hhi:a.eval hi=.int k' (j:Int))(h2:j ≤ l.length)(W:World) :
   (execOp a.eval o).run Tryz.prog W=.ok (.value (cutS v 0 j)) W:=
 exec_cut_h x hi ho v l hx h k' (j:Int) hhi (by omega) (by omega) W
theorem e_cut_l{v:Value}{l:Bytes}(h:SB w v l)(x lo:Operand)(ho:o.op=.slice 25 x (some lo) none none)(hx:a.eval x=v)(k:IntKind)(i:Nat)(hlo:a.eval lo=.int k (i:Int))(h2:i ≤ l.length)(W:World) :
   (execOp a.eval o).run Tryz.prog W=.ok (.value (cutS v i l.length)) W:=
 exec_cut_l x lo ho v l hx h k (i:Int) hlo (by omega) (by omega) W
theorem e_idxN(h:RV w sz A c xs)(i n:Nat)(hn:xs.length=n)(hi:i<n)(t:TypeId)(x y:Operand)(ho:o.op=.indexAddr t x y)(k:IntKind)(hx:a.eval x=.slice A n c)(hy:a.eval y=.int k (i:Int))(E:TypeId)(ht:P.underlying t=some (.slice E))(hE:pureVal P (sizeOf E)=some sz)(W:World) :
   (execOp a.eval o).run P W=.ok (.value (eAt A (i*sz))) W:=by
 subst hn
 exact e_idx h i hi t x y ho k hx hy E ht hE W
theorem eAt_at(h:RV w sz A c xs)(i:Nat)(x:List Value)(hxi:xs[i]?=some x)(j:Nat):∃ b k,A=some ⟨b,k,none⟩ ∧ eAt A (i*sz+j)=pt b (k+(i*sz+j)) ∧ ∀ m u,x[j+m]?=some u → w.cell? ⟨b,k+(i*sz+j)+m,none⟩=some u:=by
 have hi:i<xs.length:=(List.getElem?_eq_some_iff.1 hxi).1
 obtain ⟨b,o',rfl,hb,hc⟩:=h.at_ (by rintro rfl;simp at hi)
 refine ⟨b,o',rfl,?_,fun m u hu=>?_⟩
 · unfold eAt pt
   by_cases h0:i*sz+j=0
   · rw [h0];simp [Addr.add]
   simp only [Addr.add]
   simp
   intro h2 h3;exact h0 (by omega)
 have:=hc i x hxi (j+m) u hu
 rw [show o'+(i*sz+j)+m=o'+i*sz+(j+m) by omega]
 exact this
/-- A cell of an element: its j-th. -/
theorem e_elemN(h:RV w sz A c xs)(i j:Nat)(x:List Value)(hxi:xs[i]?=some x)(t:TypeId)(p:Operand)(ho:o.op=.load t p)(v:Value)(hx:a.eval p=eAt A (i*sz+j))(hv:x[j]?=some v)(ht:pureVal P (isAgg t)=some false) :
   (execOp a.eval o).run P w=.ok (.value v) w:=by
 obtain ⟨b,k,rfl,e,hc⟩:=eAt_at h i x hxi j
 have hcell:w.cell? ⟨b,k+(i*sz+j),none⟩=some v:=by simpa using hc 0 v hv
 have hl:(loadVar t ⟨b,k+(i*sz+j),none⟩).run P w=.ok v w:=by simp [loadVar,pureVal_run ht,hcell]
 unfold execOp
 rw [e] at hx
 simp only [ho,hx,pt,Instr.loadAt,Instr.sureAddr,Sem.run_bind,Sem.run_pure,Result.andThen_ok,hl]
/-- Cells of an element, from the j-th on. -/
theorem e_elemsN(h:RV w sz A c xs)(i j:Nat)(x:List Value)(hxi:xs[i]?=some x)(t:TypeId)(p:Operand)(ho:o.op=.load t p)(ds:List Value)(hx:a.eval p=eAt A (i*sz+j))(hv:(x.drop j).take ds.length=ds)(hB:rowB P t ds.length=true) :
   (execOp a.eval o).run P w=.ok (.value (.agg ds.toArray)) w:=by
 obtain ⟨b,k,rfl,e,hc⟩:=eAt_at h i x hxi j
 obtain ⟨d,hu,hr,hs⟩:=rowB_spec hB
 have hl:=run_loadVar_mid (P:=P) w b (k+(i*sz+j)) t ds d (fun m v hm=>hc m v (slice_get x j ds.length m v (by rw [hv];exact hm))) hu hr hs
 unfold execOp
 rw [e] at hx
 simp only [ho,hx,pt,Instr.loadAt,Instr.sureAddr,Sem.run_bind,Sem.run_pure,Result.andThen_ok,hl]
/-- The place of an element's field. -/
theorem e_fldN(h:RV w sz A c xs)(i j k:Nat)(x:List Value)(hxi:xs[i]?=some x)(p:Operand)(hx:a.eval p=eAt A (i*sz+j))(hf:∀ b n,pureVal P (execOp (fun _=>pt b n) o)=some (.value (pt b (n+k))))(hE:∀ ev:Operand → Value,execOp ev o=execOp (fun _=>ev p) o)(W:World) :
   (execOp a.eval o).run P W=.ok (.value (eAt A (i*sz+(j+k)))) W:=by
 obtain ⟨b,n,rfl,e,_⟩:=eAt_at h i x hxi j
 have e2:eAt (some ⟨b,n,none⟩) (i*sz+(j+k))=pt b (n+(i*sz+(j+k))):=by
   unfold eAt pt
   by_cases h0:i*sz+(j+k)=0
   · rw [h0];simp [Addr.add]
   simp only [Addr.add]
   simp
   intro h2 h3 h4;exact absurd (show i*sz+(j+k)=0 by omega) h0
 rw [hE,hx,e,e2,show n+(i*sz+(j+k))=n+(i*sz+j)+k by omega]
 exact pureVal_run (hf _ _) W
/-- A new slice of values. -/
theorem x_bs(h:Hp F0 w0 w ro rs)(T:TypeId)(cs:List Value)(n:Nat)(hn:newVal P (execOp a.eval o)=some (.cells cs.toArray T,fun r=>some (.value (.slice (some ⟨r,0,none⟩) n n)))) :
   OpTo P o a w (fun v w'=>∃ g,v=.slice (some ⟨g,0,none⟩) n n ∧ Hp F0 w0 w' ro (rBlk g T cs::rs)):=
 OpTo.run (.slice (some ⟨w.heap.size,0,none⟩) n n) (newVal_run hn w rfl) ⟨_,rfl,h.alloc T cs⟩
theorem SB.rvn{l:Bytes}{n:Nat}(h:SB w (.slice A n c) l):(bx l).length=n ∧ RV w 1 A c (bx l):=by
 obtain ⟨A',c',e,h1,h2,h3⟩:=id h
 injection e with e1 e2 e3
 subst e2
 exact ⟨bx_len l,SB.rv h⟩
theorem OV.rvn{base E:Nat}{n:Nat}(h:OV w base E sz (.slice A n c) xs):xs.length=n ∧ RV w sz A c xs:=⟨(OV.rv h).1.symm,(OV.rv h).2⟩
/-- append of one element, its answer as one likes to spell it. -/
theorem x_pushG(h:Hp F0 w0 w ro rs)(i j:Nat){E:TypeId}{v:Value}{g:Nat}{T:TypeId}{news:List Value}(hi:rs[i]?=some (rOV E sz v xs))(hj:rs[j]?=some (rBlk g T news))(hij:decide (i≠j)=true)
   (s x:Operand) (t:TypeId) (ho:o.op=.call { callee:=.builtin .append,args:=#[s,x],argTypes:=#[t,t] }) (bytes:Nat) (z:Value) (ht:P.underlying t=some (.slice E)) (hinf:(P.info? E).map (fun i=>(i.zero,i.size,i.bytes))=some (some z,sz,bytes))
   (hzs:z.cells.size=sz) (hsz:decide (0<sz)=true) (hs:a.eval s=v) (c:Nat) (hx:a.eval x=.slice (some ⟨g,0,none⟩) 1 c) (hn:news.length=sz) (h1:news.all (·.oneCell')=true)
   (hlen:(xs.length+1)*bytes ≤ 140737488355328) (hlen2:xs.length<maxLen) (ys:List (List Value)) (n:Nat) (hys:ys=xs++[news]) (hyn:ys.length=n) :
   OpTo P o a w (fun u w'=>∃ A cc,u=.slice A n cc ∧ Hp F0 w0 w' ro (rs.set i (rOV E sz (.slice A n cc) ys))):=by
 subst hys;subst hyn
 refine (x_push h i j hi hj (of_decide_eq_true hij) s x t ho bytes z ht hinf hzs (of_decide_eq_true hsz) hs c hx hn (by simpa using h1) hlen hlen2).mono fun u w' hr=>?_
 obtain ⟨A,cc,rfl,h'⟩:=hr
 exact ⟨A,cc,rfl,h'⟩
theorem x_appG(h:Hp F0 w0 w ro rs)(i:Nat){v:Value}{l m:Bytes}(hi:rs[i]?=some (rOB v l))(s x:Operand)(ho:o.op=.call { callee:=.builtin .append,args:=#[s,x],argTypes:=#[25,25] })
   (u:Value) (hs:a.eval s=v) (hx:a.eval x=u) (hu:SB w u m) (hlen:l.length+m.length ≤ 140737488355328) (r:Bytes) (n:Nat) (hr:r=l++m) (hn:r.length=n) :
   OpTo Tryz.prog o a w (fun u w'=>∃ A cc,u=.slice A n cc ∧ Hp F0 w0 w' ro (rs.set i (rOB (.slice A n cc) r))):=by
 subst hr;subst hn
 refine (x_appB h i hi s x ho u hs hx hu hlen).mono fun u w' hr=>?_
 obtain ⟨A,cc,rfl,h'⟩:=hr
 exact ⟨A,cc,rfl,h'⟩
theorem e_rem(x y:Operand)(t t':TypeId)(ho:o.op=.binOp .rem t x y t')(m n:Nat)(hx:a.eval x=.int .i64 (m:Int))(hy:a.eval y=.int .i64 (n:Int))(hn:0<n)(W:World) :
   (execOp a.eval o).run P W=.ok (.value (.int .i64 ((m % n:Nat):Int))) W:=by
 have h0:¬ ((n:Int)=0):=by omega
 unfold execOp
 simp only [ho,hx,hy,eqGuard_rem,binOp_rem,Op.intDiv,Sem.run_bind,Sem.run_pure,Result.andThen_ok,if_neg h0,Int.ofNat_tmod]
end
theorem xPu{P:Program}{F0:Nat → Prop}{w0 w:World}{ro rs:List Res}{sz:Nat}{xs:List (List Value)}{a:Act}{o:Oper}(h:Hp F0 w0 w ro rs)(i j:Nat){E:TypeId}{v:Value}{g:Nat}{T:TypeId}{news:List Value}(hi:rs[i]?=some (rOV E sz v xs))(hj:rs[j]?=some (rBlk g T news))(s x:Operand)(t:TypeId)(bytes:Nat)(z:Value)(hlen:(xs.length+1)*bytes ≤ 140737488355328)(hlen2:xs.length<maxLen)(ys:List (List Value))(n:Nat)(hij:decide (i≠j)=true:=by kernel_rfl)
    (ho:o.op=.call { callee:=.builtin .append,args:=#[s,x],argTypes:=#[t,t] }:=by kernel_rfl) (ht:P.underlying t=some (.slice E):=by kernel_rfl) (hinf:(P.info? E).map (fun i=>(i.zero,i.size,i.bytes))=some (some z,sz,bytes):=by kernel_rfl) (hzs:z.cells.size=sz:=by kernel_rfl) (hsz:decide (0<sz)=true:=by kernel_rfl) (hs:a.eval s=v:=by kernel_rfl) (hx:a.eval x=.slice (some ⟨g,0,none⟩) 1 1:=by kernel_rfl) (hn:news.length=sz:=by kernel_rfl) (h1:news.all (·.oneCell')=true:=by kernel_rfl) (hys:ys=xs++[news]:=by rfl) (hyn:ys.length=n:=by rfl) :
    OpTo P o a w (fun u w'=>∃ A cc,u=.slice A n cc ∧ Hp F0 w0 w' ro (rs.set i (rOV E sz (.slice A n cc) ys))):=x_pushG h i j hi hj hij s x t ho bytes z ht hinf hzs hsz hs 1 hx hn h1 hlen hlen2 ys n hys hyn
theorem eIx{P:Program}{o:Oper}{a:Act}{w:World}{sz c:Nat}{A:Option Addr}{xs:List (List Value)}(h:RV w sz A c xs)(i n:Nat)(hn:xs.length=n)(hi:i<n)(t:TypeId)(x y:Operand)(k:IntKind)(E:TypeId){W:World}(ho:o.op=.indexAddr t x y:=by kernel_rfl)(hx:a.eval x=.slice A n c:=by kernel_rfl)(hy:a.eval y=.int k (i:Int):=by kernel_rfl)(ht:P.underlying t=some (.slice E):=by kernel_rfl)(hE:pureVal P (sizeOf E)=some sz:=by kernel_rfl) :
    (execOp a.eval o).run P W=.ok (.value (eAt A (i*sz))) W:=e_idxN h i n hn hi t x y ho k hx hy E ht hE W
theorem eEl{P:Program}{o:Oper}{a:Act}{w:World}{sz c:Nat}{A:Option Addr}{xs:List (List Value)}(h:RV w sz A c xs)(i j:Nat)(x:List Value)(hxi:xs[i]?=some x)(t:TypeId)(p:Operand)(v:Value)(ho:o.op=.load t p:=by kernel_rfl)(hx:a.eval p=eAt A (i*sz+j):=by kernel_rfl)(hv:x[j]?=some v:=by kernel_rfl)(ht:pureVal P (isAgg t)=some false:=by kernel_rfl) :
    (execOp a.eval o).run P w=.ok (.value v) w:=e_elemN h i j x hxi t p ho v hx hv ht
end
section
open Go.RowKit Go.QT
section
variable{P:Program}{o:Oper}{a:Act}{w w':World}{F0:Nat->Prop}{w0:World}{ro rs:List Res}
/-- What a call leaves that answers new bytes, a part of a row of its own. -/
def SbPost(w:World)(l:Bytes)(e:Ending)(w':World):Prop:=∃ v,e=.returned v/\SB w' v l/\Below w.heap.size w w'/\∀ q,v.ownBlock=some q->w.heap.size<=q
theorem x_sb(h:Hp F0 w0 w ro rs){l:Bytes}(fn:FuncId)(al:List Value)(hp:pureVal P (execOp a.eval o)=some (.enter fn al.toArray))(hc:Calls P fn al.toArray w (SbPost w l))(r:Bytes)(n:Nat)(hr:r=l)(hn:n=r.length) :
   OpTo P o a w (fun u w'=>∃ A cc,u=.slice A n cc/\Hp F0 w0 w' (rSB (.slice A n cc) r::ro) rs):=
 OpTo.enter fn al hp hc fun e w' hq=>by
   subst hr;subst hn
   obtain ⟨v,he,hs,hb,hF⟩:=hq
   obtain ⟨A,cc,rfl,_⟩:=id hs
   exact ⟨_,he,A,cc,rfl,h.newR hb (rSB _ r) hs (fun q hq=>hF q hq.2)⟩
end
section
variable{F0:Nat->Prop}{w0 w:World}{ro rs:List Res}{v:Value}{l:Bytes}
/-- Own bytes, of which a part is read from here on. -/
theorem Hp.obSB(h:Hp F0 w0 w ro rs)(i:Nat)(hi:rs[i]?=some (rOB v l)):Hp F0 w0 w ro (rs.set i (rSB v l)):=
 h.upd i hi (Fr.refl _ _) (rSB v l) (OB.sb (h.own i _ hi)) (fun _ hq=>.inl hq.2)
theorem Hp.sbCut(h:Hp F0 w0 w ro rs)(i:Nat)(hi:rs[i]?=some (rSB v l))(k:Nat)(hk:k<=l.length):∃ A c,cutS v k l.length=.slice A (l.drop k).length c/\Hp F0 w0 w ro (rs.set i (rSB (.slice A (l.drop k).length c) (l.drop k))):=by
 have hs:=SB.cut (h.own i _ hi) k l.length (Nat.le_refl _)
 rw [List.take_length] at hs
 obtain ⟨A,c,e,_⟩:=id hs
 refine ⟨A,c,e,?_⟩
 rw [← e]
 refine h.upd i hi (Fr.refl _ _) (rSB _ _) hs (fun q hq=>.inl ⟨?_,?_⟩)
 · rintro rfl;exact hq.1 (by simp)
 have h2:(cutS v k l.length).ownBlock=some q:=hq.2
 rw [cutS_block] at h2;exact h2
theorem sbpost_sb{L:Bytes}(h:Hp (fun _=>False) w0 w ro rs)(i:Nat)(hi:rs[i]?=some (rSB v l))(hne:l≠[])(e:l=L):SbPost w0 L (.returned v) w:=by
 subst e
 refine ⟨v,rfl,h.own i _ hi,h.below0,fun q hq=>?_⟩
 rcases h.mine i _ hi q ⟨hne,hq⟩ with h3|h3
 · exact h3.elim
 exact h3
end
end
section
open Go.RowKit Go.QT
section
variable{P:Program}{o:Oper}{a:Act}{w w':World}{F0:Nat->Prop}{w0:World}{ro rs:List Res}
/-- A call that leaves new bytes. -/
theorem x_bytesE(h:Hp F0 w0 w ro rs){l:Bytes}(fn:FuncId)(al:List Value)(hp:pureVal P (execOp a.eval o)=some (.enter fn al.toArray))(hc:Calls P fn al.toArray w (BPost w l))(r:Bytes)(n:Nat)(hr:r=l)(hn:n=r.length) :
   OpTo P o a w (fun u w'=>∃ A cc,u=.slice A n cc/\Hp F0 w0 w' ro (rOB (.slice A n cc) r::rs)):=by
 subst hr;subst hn
 refine (x_bytes h fn al hp hc).mono fun u w' hq=>?_
 obtain ⟨A,cc,rfl,h'⟩:=hq
 exact ⟨A,cc,rfl,h'⟩
theorem bpost_of{L r:Bytes}{v:Value}(h:Hp (fun _=>False) w0 w ro rs)(i:Nat)(hi:rs[i]?=some (rOB v r))(e:r=L):BPost w0 L (.returned v) w:=by
 subst e
 have ho:OB w 0 v r:=h.own i _ hi
 refine ⟨v,rfl,⟨ho.1,?_⟩,h.below0⟩
 rcases ho.2 with h2|⟨g,cap,cur,rfl,_,rest⟩
 · exact .inl h2
 refine .inr ⟨g,cap,cur,rfl,?_,rest⟩
 rcases h.mine i _ hi g rfl with h3|h3
 · exact h3.elim
 exact h3
theorem bs2{g:Nat}{u1 u2:Value}{l1 l2:Bytes}(hb:Blk w g 25 [u1,u2])(h1:SB w u1 l1)(h2:SB w u2 l2):SS w (.slice (some ⟨g,0,none⟩) 2 2) [l1,l2]:=
 ⟨_,2,rfl,Nat.le_refl _,by decide,fun i hi=>by
   match i,hi with
   | 0,_=>exact ⟨g,0,u1,rfl,hb.lt,hb.cell 0,h1⟩
   | 1,_=>exact ⟨g,0,u2,rfl,hb.lt,hb.cell 1,h2⟩⟩
end
end
section
open Go.RowKit Go.QT
theorem wrap_u64_is{x:Int}(h0:0 ≤ x)(h1:x<18446744073709551616):Value.int .u64 (IntKind.u64.wrap x)=Value.int .u64 x:=by
 congr 1;rw [IntKind.wrap_u64];omega
section
variable{P:Program}{o:Oper}{a:Act}{w w':World}
/-- The place of an element of an array. -/
theorem e_idxA(t:TypeId)(x y:Operand)(ho:o.op=.indexAddr t x y)(k:IntKind)(g off i n:Nat)(hx:a.eval x=pt g off)(hy:a.eval y=.int k (i:Int))(hi:i<n)(E:TypeId)(ht:P.underlying t=some (.array n E))(hE:pureVal P (sizeOf E)=some 1)(r:Nat)(hr:off+i=r)(W:World) :
   (execOp a.eval o).run P W=.ok (.value (pt g r)) W:=by
 subst hr
 have h0:(0:Int) ≤ i ∧ (i:Int)<n:=⟨by omega,by omega⟩
 have h1:(Instr.indexAt t (pt g off) (.int k (i:Int))).run P W=.ok (pt g (off+i)) W:=by
   by_cases hz:i=0
   · subst hz;simp [Instr.indexAt,asIntOf,run_underlying ht,hi,pureVal_run hE,pt,Addr.add,Instr.sureAddr]
   simp [Instr.indexAt,asIntOf,run_underlying ht,hi,pureVal_run hE,pt,Addr.add,Instr.sureAddr,hz]
 unfold execOp
 simp only [ho,hx,hy,Sem.run_bind,h1,Result.andThen_ok,Sem.run_pure]
end
theorem eIa{P:Program}{o:Oper}{a:Act}(t:TypeId)(x y:Operand)(k:IntKind)(g off i n:Nat)(E:TypeId)(r:Nat){W:World}(ho:o.op=.indexAddr t x y:=by kernel_rfl)(hx:a.eval x=pt g off:=by kernel_rfl)(hy:a.eval y=.int k (i:Int):=by kernel_rfl)(hi:i<n:=by omega)(ht:P.underlying t=some (.array n E):=by kernel_rfl)(hE:pureVal P (sizeOf E)=some 1:=by kernel_rfl)(hr:off+i=r:=by omega) :
    (execOp a.eval o).run P W=.ok (.value (pt g r)) W:=e_idxA t x y ho k g off i n hx hy hi E ht hE r hr W
end
section
open Go.RowKit Go.QT
theorem ub0_eq{x:UInt8}(h:x=0):(ub x == 0)=true:=by subst h;unfold ub;rfl
theorem ub0_ne{x:UInt8}(h:x≠0):(ub x == 0)=false:=by
 have:ub x≠ub 0:=fun e=>h (by unfold ub at e;exact UInt8.toNat_inj.1 (by simpa using e))
 have h0:ub 0=0:=by unfold ub;rfl
 rw [h0] at this
 simpa using this
section
variable{P:Program}{o:Oper}{a:Act}{w w':World}{F0:Nat->Prop}{w0:World}{ro rs:List Res}
/-- A call that leaves nothing. -/
def DPost(w:World)(v:Value)(e:Ending)(w':World):Prop:=e=.returned v/\Below w.heap.size w w'
theorem x_dp(h:Hp F0 w0 w ro rs){v:Value}(fn:FuncId)(al:List Value)(hp:pureVal P (execOp a.eval o)=some (.enter fn al.toArray))(hc:Calls P fn al.toArray w (DPost w v)) :
   OpTo P o a w (fun u w'=>u=v/\Hp F0 w0 w' ro rs):=
 OpTo.enter fn al hp hc fun _e _w' hq=>⟨_,hq.1,rfl,h.below hq.2⟩
end
theorem bz_eq{n:Nat}(h:n=0):Value.bool (((n:Nat):Int) == 0)=Value.bool true:=by subst h;rfl
theorem bz_ne{n:Nat}(h:n≠0):Value.bool (((n:Nat):Int) == 0)=Value.bool false:=by
 congr 1
 have:¬ ((n:Int)=0):=by omega
 simpa using this
theorem rightL_all:∀ (l:List DVal) (d:Nat),(∀ x ∈ l,rightV x d=true)->rightL l d=true
 | [],_,_=>by simp [rightL]
 | x::r,d,h=>by
   rw [rightL,h x (by simp),rightL_all r d fun y hy=>h y (by simp [hy])];rfl
theorem rightL_no:∀ (l:List DVal) (d:Nat) (x:DVal),x ∈ l->rightV x d=false->rightL l d=false
 | [],_,_,h,_=>by cases h
 | y::r,d,x,h,h0=>by
   rw [rightL]
   rcases List.mem_cons.1 h with rfl|h
   · rw [h0];rfl
   rw [rightL_no r d x h h0];simp
section
variable{k t n d:Nat}{b:Bytes}{ts:List DVal}
theorem rv_bad(h:30<t∨8<d):rightV (.mk k t n b ts) d=false:=by
 rw [rightV]
 rcases h with h|h
 · rw [decide_eq_false (by omega:¬ t<=30)];rfl
 rw [decide_eq_false (by omega:¬ d<=8),Bool.and_false];rfl
theorem rv_in(ht:t<=30)(hd:d<=8):rightV (.mk k t n b ts) d=(if k=0 then b.isEmpty && ts.isEmpty else if k=1 then decide (n=0) && ts.isEmpty else if k=2 then rightL ts (d+1) && decide (n=0) && b.isEmpty else false):=by
 rw [rightV,decide_eq_true ht,decide_eq_true hd,Bool.true_and,Bool.true_and]
theorem emp_t{α:Type}{l:List α}(h:l.length=0):l.isEmpty=true:=by rw [List.eq_nil_of_length_eq_zero h];rfl
theorem emp_f{α:Type}{l:List α}(h:l.length≠0):l.isEmpty=false:=by cases l with|nil=>exact absurd rfl h|cons x r=>rfl
theorem rv0_t(ht:t<=30)(hd:d<=8)(h1:b.length=0)(h2:ts.length=0)(hk:k=0):rightV (.mk k t n b ts) d=true:=by subst hk;rw [rv_in ht hd,if_pos rfl,emp_t h1,emp_t h2];rfl
theorem rv0_f(ht:t<=30)(hd:d<=8)(h:b.length≠0∨ts.length≠0)(hk:k=0):rightV (.mk k t n b ts) d=false:=by
 subst hk;rw [rv_in ht hd,if_pos rfl];rcases h with h|h <;> simp only [emp_f h,Bool.false_and,Bool.and_false]
theorem rv1_t(ht:t<=30)(hd:d<=8)(h1:n=0)(h2:ts.length=0)(hk:k=1):rightV (.mk k t n b ts) d=true:=by subst hk;rw [rv_in ht hd,if_neg (by decide),if_pos rfl,decide_eq_true h1,emp_t h2];rfl
theorem rv1_f(ht:t<=30)(hd:d<=8)(h:n≠0∨ts.length≠0)(hk:k=1):rightV (.mk k t n b ts) d=false:=by
 subst hk;rw [rv_in ht hd,if_neg (by decide),if_pos rfl]
 rcases h with h|h
 · simp only [decide_eq_false h,Bool.false_and]
 simp only [emp_f h,Bool.and_false]
theorem rv2_t(ht:t<=30)(hd:d<=8)(hL:rightL ts (d+1)=true)(h1:n=0)(h2:b.length=0)(hk:k=2):rightV (.mk k t n b ts) d=true:=by subst hk;rw [rv_in ht hd,if_neg (by decide),if_neg (by decide),if_pos rfl,hL,decide_eq_true h1,emp_t h2];rfl
theorem rv2_f(ht:t<=30)(hd:d<=8)(h:n≠0∨b.length≠0)(hk:k=2):rightV (.mk k t n b ts) d=false:=by
 subst hk;rw [rv_in ht hd,if_neg (by decide),if_neg (by decide),if_pos rfl]
 rcases h with h|h
 · simp only [decide_eq_false h,Bool.and_false,Bool.false_and]
 simp only [emp_f h,Bool.and_false]
theorem rv2_no(ht:t<=30)(hd:d<=8)(hL:rightL ts (d+1)=false)(hk:k=2):rightV (.mk k t n b ts) d=false:=by subst hk;rw [rv_in ht hd,if_neg (by decide),if_neg (by decide),if_pos rfl,hL];rfl
theorem rv_k(ht:t<=30)(hd:d<=8)(h0:k≠0)(h1:k≠1)(h2:k≠2):rightV (.mk k t n b ts) d=false:=by
 rw [rv_in ht hd,if_neg h0,if_neg h1,if_neg h2]
theorem rightL_upto{i d:Nat}(h:i=ts.length)(hr:∀ (j:Nat) (x:DVal),j<i->ts[j]?=some x->rightV x d=true):rightL ts d=true:=
 rightL_all ts d fun x hx=>by
   obtain ⟨j,hj⟩:=List.getElem?_of_mem hx
   exact hr j x (by have:=(List.getElem?_eq_some_iff.1 hj).1;omega) hj
end
end
section
open Go.RowKit Go.QT
section
variable{P:Program}{fn:Func}{R:Ending->World->Prop}{x:Nat->Value}{n:Nat}{w w0:World}{F0:Nat->Prop}{ro rs:List Res}
/-- A call that leaves nothing. -/
theorem mD{s:St}{f:FuncId}{v:Value}(h:Hp F0 w0 w ro rs)(al:List Value)(hc:Calls P f al.toArray w (DPost w v))(k:∀ w',Hp F0 w0 w' ro rs->M P fn R x n (putS (go P x n n s) v) w')(hp:pureVal P (execOp (evP x n (go P x n n s).e) (hdO (go P x n n s)))=some (.enter f al.toArray):=by kernel_rfl)(ok:opOk x n (go P x n n s)=true:=by kernel_rfl):M P fn R x n s w:=by
 rw [← eval_patch] at hp
 exact mT (x_dp h f al hp hc) (fun _ _ ⟨e,h⟩=>by subst e;exact k _ h) ok
/-- An end that leaves nothing. -/
theorem mQ{s:St}{v:Value}(h:Hp (fun _=>False) w0 w ro rs)(hv:rv fn x n (go P x n n s).e=some v:=by kernel_rfl)(ok:isE (go P x n n s)=true:=by kernel_rfl):M P fn (DPost w0 v) x n s w:=mP v ⟨rfl,h.below0⟩ hv ok
theorem mQe{s:St}{v:Value}(u:Value)(h:Hp (fun _=>False) w0 w ro rs)(he:u=v)(hv:rv fn x n (go P x n n s).e=some u:=by kernel_rfl)(ok:isE (go P x n n s)=true:=by kernel_rfl):M P fn (DPost w0 v) x n s w:=mP u ⟨by rw [he],h.below0⟩ hv ok
section
variable{ops:Array Oper}{ks:List Kn}{S:World->Prop}{p N f m:Nat}{e:List (Nat × Value)}
/-- Calls that leave nothing, in regions that draw. -/
theorem dD{g:FuncId}{v:Value}(i:Nat)(h:Hp F0 w0 w ro rs)(al:List Value)(hc:Calls P g al.toArray w (DPost w v))(k:∀ w',Hp F0 w0 w' ro rs->S w'/\Dd P fn R x n ops ks S p N f (m ||| (1 <<< i)) (putL (opD ops i).dst v e) w')(hp:pureVal P (execOp (evP x n e) (opD ops i))=some (.enter g al.toArray):=by kernel_rfl)(ok:tOk x n p N ops m e i=true:=by kernel_rfl):Dd P fn R x n ops ks S p N (f+1) m e w:=by
 rw [← eval_patch] at hp
 exact dT i (x_dp h g al hp hc) (fun _ _ ⟨e,h⟩=>by subst e;exact k _ h) ok
theorem oD{g:FuncId}{v:Value}{i:Nat}(h:Hp F0 w0 w ro rs)(al:List Value)(hc:Calls P g al.toArray w (DPost w v))(k:∀ w',Hp F0 w0 w' ro rs->S w'/\Dd P fn R x n ops ks S p N f (m ||| (1 <<< i)) (putL (opD ops i).dst v e) w')(hp:pureVal P (execOp (evP x n e) (opD ops i))=some (.enter g al.toArray):=by kernel_rfl)(ok:dOk x n p N ops m e i=true:=by kernel_rfl):Do P fn R x n ops ks S p N f m e w i:=by
 rw [← eval_patch] at hp
 exact oT (x_dp h g al hp hc) (fun _ _ ⟨e,h⟩=>by subst e;exact k _ h) ok
end
end
end
section
open Go.RowKit Go.QT
/-- What a name stands for: a number, an address, a thing. -/
structure Kv where
 n:Nat
 a:Option Addr
 r:Res
abbrev Kp:=Nat->Kv
inductive AV where
 | v (x:Value)
 | p (k off:Nat)
 | s (k off l c:Nat)
 | o (k l:Nat)
 | m (k:Nat)
 | w (k off l d:Nat)
 | c (cs:List AV)
 | t (cs:List AV)
 | i (T:TypeId) (x:AV)
/-- The capacity of a row whose block has more cells than are told. -/
def capK(kv:Kv):Nat:=match kv.a with|some ad=>ad.block|none=>0
mutual
def AV.den(κ:Kp):AV->Value
 | .v x=>x
 | .p k off=>pt (κ k).n off
 | .s k off l q=>.slice (some ⟨(κ k).n,off,none⟩) l q
 | .o k l=>.slice (κ k).a l (κ k).n
 | .m k=>.map (some (κ k).n)
 | .w k off l d=>.slice (some ⟨(κ k).n,off,none⟩) l (capK (κ k)-d)
 | .c cs=>.agg (AV.denL κ cs).toArray
 | .t cs=>.tuple (AV.denL κ cs).toArray
 | .i T x=>.iface T (AV.den κ x)
def AV.denL(κ:Kp):List AV->List Value
 | []=>[]
 | x::r=>AV.den κ x::AV.denL κ r
end
mutual
def AV.ren(σ:Nat->Nat):AV->AV
 | .v x=>.v x
 | .p k off=>.p (σ k) off
 | .s k off l q=>.s (σ k) off l q
 | .o k l=>.o (σ k) l
 | .m k=>.m (σ k)
 | .w k off l d=>.w (σ k) off l d
 | .c cs=>.c (AV.renL σ cs)
 | .t cs=>.t (AV.renL σ cs)
 | .i T x=>.i T (AV.ren σ x)
def AV.renL(σ:Nat->Nat):List AV->List AV
 | []=>[]
 | x::r=>AV.ren σ x::AV.renL σ r
end
mutual
/-- All its names are such. -/
def AV.ok(A:Nat->Prop):AV->Prop
 | .v _=>True
 | .p k _=>A k
 | .s k _ _ _=>A k
 | .o k _=>A k
 | .m k=>A k
 | .w k _ _ _=>A k
 | .c cs=>AV.okL A cs
 | .t cs=>AV.okL A cs
 | .i _ x=>AV.ok A x
def AV.okL(A:Nat->Prop):List AV->Prop
 | []=>True
 | x::r=>AV.ok A x/\AV.okL A r
end
mutual
def AV.lt(b:Nat):AV->Bool
 | .v _=>true
 | .p k _=>Nat.blt k b
 | .s k _ _ _=>Nat.blt k b
 | .o k _=>Nat.blt k b
 | .m k=>Nat.blt k b
 | .w k _ _ _=>Nat.blt k b
 | .c cs=>AV.ltL b cs
 | .t cs=>AV.ltL b cs
 | .i _ x=>AV.lt b x
def AV.ltL(b:Nat):List AV->Bool
 | []=>true
 | x::r=>AV.lt b x && AV.ltL b r
end
/-- Cells that hold no name. -/
abbrev rg(l:List Value):List AV:=l.map .v
theorem denL_map(κ:Kp):∀ l:List AV,AV.denL κ l=l.map (AV.den κ)
 | []=>rfl
 | x::r=>by show AV.den κ x::AV.denL κ r=_;rw [denL_map κ r];rfl
theorem okL_all(A:Nat->Prop):∀ l:List AV,AV.okL A l↔∀ x ∈ l,x.ok A
 | []=>by simp [AV.okL]
 | x::r=>by simp [AV.okL,okL_all A r]
theorem denL_rg(κ:Kp)(l:List Value):AV.denL κ (rg l)=l:=by rw [denL_map,List.map_map];exact (List.map_congr_left fun _ _=>rfl).trans (List.map_id l)
/-- Names that stand for the same numbers and addresses. -/
def Agr(A:Nat->Prop)(κ κ':Kp):Prop:=∀ k,A k->(κ' k).n=(κ k).n/\(κ' k).a=(κ k).a
mutual
theorem den_agr{A:Nat->Prop}{κ κ':Kp}(h:Agr A κ κ'):∀ x:AV,x.ok A->x.den κ'=x.den κ
 | .v _,_=>rfl
 | .p k _,hk=>by simp only [AV.den];rw [(h k hk).1]
 | .s k _ _ _,hk=>by simp only [AV.den];rw [(h k hk).1]
 | .o k _,hk=>by simp only [AV.den];rw [(h k hk).1,(h k hk).2]
 | .m k,hk=>by simp only [AV.den];rw [(h k hk).1]
 | .w k _ _ _,hk=>by simp only [AV.den,capK];rw [(h k hk).1,(h k hk).2]
 | .c cs,hk=>by simp only [AV.den];rw [denL_agr h cs hk]
 | .t cs,hk=>by simp only [AV.den];rw [denL_agr h cs hk]
 | .i _ x,hk=>by simp only [AV.den];rw [den_agr h x hk]
theorem denL_agr{A:Nat->Prop}{κ κ':Kp}(h:Agr A κ κ'):∀ l:List AV,AV.okL A l->AV.denL κ' l=AV.denL κ l
 | [],_=>rfl
 | x::r,hk=>by simp only [AV.denL];rw [den_agr h x hk.1,denL_agr h r hk.2]
end
mutual
theorem ren_den(κ:Kp)(σ:Nat->Nat):∀ x:AV,(x.ren σ).den κ=x.den (fun k=>κ (σ k))
 | .v _=>rfl
 | .p _ _=>rfl
 | .s _ _ _ _=>rfl
 | .o _ _=>rfl
 | .m _=>rfl
 | .w _ _ _ _=>rfl
 | .c cs=>by simp only [AV.den,AV.ren];rw [renL_den κ σ cs]
 | .t cs=>by simp only [AV.den,AV.ren];rw [renL_den κ σ cs]
 | .i _ x=>by simp only [AV.den,AV.ren];rw [ren_den κ σ x]
theorem renL_den(κ:Kp)(σ:Nat->Nat):∀ l:List AV,AV.denL κ (AV.renL σ l)=AV.denL (fun k=>κ (σ k)) l
 | []=>rfl
 | x::r=>by simp only [AV.denL,AV.renL];rw [ren_den κ σ x,renL_den κ σ r]
end
mutual
theorem ren_ok{A B:Nat->Prop}{σ:Nat->Nat}(h:∀ k,A k->B (σ k)):∀ x:AV,x.ok A->(x.ren σ).ok B
 | .v _,_=>trivial
 | .p k _,hk=>h k hk
 | .s k _ _ _,hk=>h k hk
 | .o k _,hk=>h k hk
 | .m k,hk=>h k hk
 | .w k _ _ _,hk=>h k hk
 | .c cs,hk=>renL_ok h cs hk
 | .t cs,hk=>renL_ok h cs hk
 | .i _ x,hk=>ren_ok h x hk
theorem renL_ok{A B:Nat->Prop}{σ:Nat->Nat}(h:∀ k,A k->B (σ k)):∀ l:List AV,AV.okL A l->AV.okL B (AV.renL σ l)
 | [],_=>trivial
 | x::r,hk=>⟨ren_ok h x hk.1,renL_ok h r hk.2⟩
end
mutual
theorem lt_ok{b:Nat}:∀ x:AV,x.lt b=true->x.ok (· < b)
 | .v _,_=>trivial
 | .p k _,h=>by rw [AV.lt,Nat.blt_eq] at h;exact h
 | .s k _ _ _,h=>by rw [AV.lt,Nat.blt_eq] at h;exact h
 | .o k _,h=>by rw [AV.lt,Nat.blt_eq] at h;exact h
 | .m k,h=>by rw [AV.lt,Nat.blt_eq] at h;exact h
 | .w k _ _ _,h=>by rw [AV.lt,Nat.blt_eq] at h;exact h
 | .c cs,h=>ltL_ok cs h
 | .t cs,h=>ltL_ok cs h
 | .i _ x,h=>lt_ok x h
theorem ltL_ok{b:Nat}:∀ l:List AV,AV.ltL b l=true->AV.okL (· < b) l
 | [],_=>trivial
 | x::r,h=>by rw [AV.ltL,Bool.and_eq_true] at h;exact ⟨lt_ok x h.1,ltL_ok r h.2⟩
end
theorem ok_mono{A B:Nat->Prop}(h:∀ k,A k->B k)(x:AV)(hx:x.ok A):x.ok B:=by
 have h2:=ren_ok (σ:=fun k=>k) h x hx
 rwa [ren_id] at h2
where
 ren_id:∀ x:AV,x.ren (fun k=>k)=x
   | .v _=>rfl
   | .p _ _=>rfl
   | .s _ _ _ _=>rfl
   | .o _ _=>rfl
   | .m _=>rfl
   | .w _ _ _ _=>rfl
   | .c cs=>by simp only [AV.ren];rw [renL_id cs]
   | .t cs=>by simp only [AV.ren];rw [renL_id cs]
   | .i _ x=>by simp only [AV.ren];rw [ren_id x]
 renL_id:∀ l:List AV,AV.renL (fun k=>k) l=l
   | []=>rfl
   | x::r=>by simp only [AV.renL];rw [ren_id x,renL_id r]
/-! ### What is held,without an order -/
/-- Blocks that may be turned, and such as are looked at. -/
structure Ft where
 W:Nat->Prop
 F:Nat->Prop
abbrev ft(F:Nat->Prop):Ft:=⟨F,F⟩
/-- Apart, but for what both only look at. -/
def Res.da(r s:Res):Prop:=(∀ q,r.W q->¬ s.F q)/\∀ q,s.W q->¬ r.F q
theorem Res.da.symm{r s:Res}(h:r.da s):s.da r:=⟨h.2,h.1⟩
theorem Res.dj.da{r s:Res}(h:r.dj s):r.da s:=⟨fun q h1 h2=>h q (r.hW q h1) h2,fun q h1 h2=>h q h2 (s.hW q h1)⟩
/-- All its blocks are its own. -/
def Res.Ow(r:Res):Prop:=∀ q,r.F q->r.W q
structure HA(F0:Ft)(w0 w:World)(ro rs:List Res):Prop where
 fr:Fr F0.W w0 w
 own:∀ r ∈ rs,r.Φ w
 mine:∀ r ∈ rs,∀ q,r.W q->F0.W q∨w0.heap.size<=q
 look:∀ r ∈ rs,∀ q,r.F q->F0.F q∨w0.heap.size<=q
 dis:rs.Pairwise Res.da
 red:∀ r ∈ ro,r.Φ w
 rdis:∀ r ∈ ro,∀ s ∈ rs,∀ q,s.W q->¬ r.F q
theorem Hp.ha{F0:Nat->Prop}{w0 w:World}{ro rs:List Res}(h:Hp F0 w0 w ro rs):HA (ft F0) w0 w ro rs where
 fr:=h.fr
 own:=fun r hr=>by obtain ⟨i,hi⟩:=List.mem_iff_getElem?.1 hr;exact h.own i r hi
 mine:=fun r hr q hq=>by obtain ⟨i,hi⟩:=List.mem_iff_getElem?.1 hr;exact h.mine i r hi q (r.hW q hq)
 look:=fun r hr=>by obtain ⟨i,hi⟩:=List.mem_iff_getElem?.1 hr;exact h.mine i r hi
 dis:=by
   rw [List.pairwise_iff_getElem]
   intro i j hi hj hij
   exact (h.dis i j _ _ (List.getElem?_eq_getElem hi) (List.getElem?_eq_getElem hj) (by omega)).da
 red:=fun r hr=>by obtain ⟨i,hi⟩:=List.mem_iff_getElem?.1 hr;exact h.red i r hi
 rdis:=fun r hr s hs q h1 h2=>by
   obtain ⟨i,hi⟩:=List.mem_iff_getElem?.1 hr
   obtain ⟨j,hj⟩:=List.mem_iff_getElem?.1 hs
   exact h.rdis i j r s hi hj q h2 (s.hW q h1)
section
variable{F0:Ft}{w0 w w':World}{ro ro' rs rs' pre rest post:List Res}
theorem HA.perm(h:HA F0 w0 w ro rs)(hp:rs.Perm rs'):HA F0 w0 w ro rs':=
 ⟨h.fr,fun r hr=>h.own r (hp.mem_iff.2 hr),fun r hr=>h.mine r (hp.mem_iff.2 hr),fun r hr=>h.look r (hp.mem_iff.2 hr),(hp.pairwise_iff fun h=>h.symm).1 h.dis,h.red,fun r hr s hs=>h.rdis r hr s (hp.mem_iff.2 hs)⟩
theorem HA.reRo(h:HA F0 w0 w ro rs)(hr:∀ r ∈ ro',r ∈ ro):HA F0 w0 w ro' rs:=
 ⟨h.fr,h.own,h.mine,h.look,h.dis,fun r hr'=>h.red r (hr r hr'),fun r hr'=>h.rdis r (hr r hr')⟩
theorem HA.dropL(h:HA F0 w0 w ro (pre++rest)):HA F0 w0 w ro rest:=
 ⟨h.fr,fun r hr=>h.own r (List.mem_append_right _ hr),fun r hr=>h.mine r (List.mem_append_right _ hr),fun r hr=>h.look r (List.mem_append_right _ hr),(List.pairwise_append.1 h.dis).2.1,h.red,fun r hr s hs=>h.rdis r hr s (List.mem_append_right _ hs)⟩
/-- New blocks change nothing. -/
theorem HA.below(h:HA F0 w0 w ro rs)(hb:Below w.heap.size w w'):HA F0 w0 w' ro rs:=
 ⟨h.fr.then_below hb,fun r hr=>r.keep (h.own r hr) hb.size fun q hq=>hb.block q (r.lt (h.own r hr) q hq),h.mine,h.look,h.dis,fun r hr=>r.keep (h.red r hr) hb.size fun q hq=>hb.block q (r.lt (h.red r hr) q hq),h.rdis⟩
/-- A new thing. -/
theorem HA.newS(h:HA F0 w0 w ro rs)(hb:Below w.heap.size w w')(r:Res)(hr:r.Φ w')(hF:∀ q,r.F q->w.heap.size<=q):HA F0 w0 w' ro (r::rs):=by
 have h2:=h.below hb
 refine ⟨h2.fr,fun s hs=>?_,fun s hs q hq=>?_,fun s hs q hq=>?_,List.pairwise_cons.2 ⟨fun s hs=>⟨fun q h1 h3=>?_,fun q h1 h3=>?_⟩,h2.dis⟩,h2.red,fun s hs u hu q h1 h3=>?_⟩
 · rcases List.mem_cons.1 hs with rfl|hs
   · exact hr
   exact h2.own s hs
 · rcases List.mem_cons.1 hs with rfl|hs
   · exact .inr (Nat.le_trans h.fr.size (hF q (s.hW q hq)))
   exact h2.mine s hs q hq
 · rcases List.mem_cons.1 hs with rfl|hs
   · exact .inr (Nat.le_trans h.fr.size (hF q hq))
   exact h2.look s hs q hq
 · exact absurd (s.lt (h.own s hs) q h3) (Nat.not_lt.2 (hF q (r.hW q h1)))
 · exact absurd (s.lt (h.own s hs) q (s.hW q h1)) (Nat.not_lt.2 (hF q h3))
 rcases List.mem_cons.1 hu with rfl|hu
 · exact absurd (s.lt (h.red s hs) q h3) (Nat.not_lt.2 (hF q (u.hW q h1)))
 exact h2.rdis s hs u hu q h1 h3
theorem HA.alloc(h:HA F0 w0 w ro rs)(T:TypeId)(cs:List Value):HA F0 w0 (w.alloc (.cells cs.toArray T)) ro (rBlk w.heap.size T cs::rs):=
 h.newS ((Below.refl _ _).alloc (Nat.le_refl _) _) _ (Hp.alloc (Hp.nil (fun _=>False) w) T cs |>.own 0 _ rfl) (fun _q hq=>Nat.le_of_eq hq.symm)
/-- What a call is handed: pre to turn; to read: ro', out of what is only read, and of the rest. -/
theorem HA.carve(h:HA F0 w0 w ro (pre++rest))(hr:∀ r ∈ ro',r ∈ ro∨r ∈ rest):HA ⟨fun q=>∃ r ∈ pre,r.W q,fun q=>∃ r ∈ pre,r.F q⟩ w w ro' pre where
 fr:=Fr.refl _ _
 own:=fun r hr=>h.own r (List.mem_append_left _ hr)
 mine:=fun r hr _ hq=>.inl ⟨r,hr,hq⟩
 look:=fun r hr _ hq=>.inl ⟨r,hr,hq⟩
 dis:=(List.pairwise_append.1 h.dis).1
 red:=fun r hr'=>(hr r hr').elim (h.red r) fun h2=>h.own r (List.mem_append_right _ h2)
 rdis:=fun r hr' s hs=>(hr r hr').elim (fun h2=>h.rdis r h2 s (List.mem_append_left _ hs)) fun h2=>((List.pairwise_append.1 h.dis).2.2 s hs r h2).1
/-- What it leaves. -/
theorem HA.call(h:HA F0 w0 w ro (pre++rest))(hc:HA ⟨fun q=>∃ r ∈ pre,r.W q,fun q=>∃ r ∈ pre,r.F q⟩ w w' [] post):HA F0 w0 w' ro (post++rest):=by
 have hpw:=List.pairwise_append.1 h.dis
 have keepS:∀ s ∈ rest,s.Φ w':=fun s hs=>s.keep (h.own s (List.mem_append_right _ hs)) hc.fr.size fun q hq=>hc.fr.block q (s.lt (h.own s (List.mem_append_right _ hs)) q hq) (fun ⟨r,hr,hq2⟩=>(hpw.2.2 r hr s hs).1 q hq2 hq)
 refine ⟨h.fr.trans hc.fr (fun q ⟨r,hr,hq⟩=>h.mine r (List.mem_append_left _ hr) q hq),fun r hr=>?_,fun r hr q hq=>?_,fun r hr q hq=>?_,?_,fun r hr=>?_,fun r hr s hs=>?_⟩
 · rcases List.mem_append.1 hr with hr|hr
   · exact hc.own r hr
   exact keepS r hr
 · rcases List.mem_append.1 hr with hr|hr
   · rcases hc.mine r hr q hq with ⟨r2,hr2,hq2⟩|h3
     · exact h.mine r2 (List.mem_append_left _ hr2) q hq2
     exact .inr (Nat.le_trans h.fr.size h3)
   exact h.mine r (List.mem_append_right _ hr) q hq
 · rcases List.mem_append.1 hr with hr|hr
   · rcases hc.look r hr q hq with ⟨r2,hr2,hq2⟩|h3
     · exact h.look r2 (List.mem_append_left _ hr2) q hq2
     exact .inr (Nat.le_trans h.fr.size h3)
   exact h.look r (List.mem_append_right _ hr) q hq
 · refine List.pairwise_append.2 ⟨hc.dis,hpw.2.1,fun r hr s hs=>⟨fun q h1 h2=>?_,fun q h1 h2=>?_⟩⟩
   · rcases hc.mine r hr q h1 with ⟨r2,hr2,hq2⟩|h3
     · exact (hpw.2.2 r2 hr2 s hs).1 q hq2 h2
     exact absurd (s.lt (h.own s (List.mem_append_right _ hs)) q h2) (Nat.not_lt.2 h3)
   rcases hc.look r hr q h2 with ⟨r2,hr2,hq2⟩|h3
   · exact (hpw.2.2 r2 hr2 s hs).2 q h1 hq2
   exact absurd (s.lt (h.own s (List.mem_append_right _ hs)) q (s.hW q h1)) (Nat.not_lt.2 h3)
 · exact r.keep (h.red r hr) hc.fr.size fun q hq=>hc.fr.block q (r.lt (h.red r hr) q hq) (fun ⟨r2,hr2,hq2⟩=>h.rdis r hr r2 (List.mem_append_left _ hr2) q hq2 hq)
 rcases List.mem_append.1 hs with hs|hs
 · intro q h1 h2
   rcases hc.mine s hs q h1 with ⟨r2,hr2,hq2⟩|h3
   · exact h.rdis r hr r2 (List.mem_append_left _ hr2) q hq2 h2
   exact absurd (r.lt (h.red r hr) q h2) (Nat.not_lt.2 h3)
 exact h.rdis r hr s (List.mem_append_right _ hs)
/-- Things that are one's own altogether, held alone. -/
theorem HA.only(h:HA F0 w0 w ro (pre++rest))(ho:∀ r ∈ pre,r.Ow)(hr:∀ r ∈ ro',r ∈ ro∨r ∈ rest):Hp (fun q=>∃ r ∈ pre,r.F q) w w ro' pre where
 fr:=Fr.refl _ _
 own:=fun i r hi=>h.own r (List.mem_append_left _ (List.mem_of_getElem? hi))
 mine:=fun i r hi q hq=>.inl ⟨r,List.mem_of_getElem? hi,hq⟩
 dis:=fun i j r s hi hj hij=>by
   have hd:=List.pairwise_iff_getElem.1 (List.pairwise_append.1 h.dis).1
   obtain ⟨hi',rfl⟩:=List.getElem?_eq_some_iff.1 hi
   obtain ⟨hj',rfl⟩:=List.getElem?_eq_some_iff.1 hj
   rcases Nat.lt_or_gt_of_ne hij with hlt|hgt
   · exact fun q h1 h2=>(hd i j hi' hj' hlt).1 q (ho _ (List.mem_of_getElem? hi) q h1) h2
   exact fun q h1 h2=>(hd j i hj' hi' hgt).2 q (ho _ (List.mem_of_getElem? hi) q h1) h2
 red:=fun i r hi=>(hr r (List.mem_of_getElem? hi)).elim (h.red r) fun h2=>h.own r (List.mem_append_right _ h2)
 rdis:=fun i j r s hi hj q h1 h2=>by
   have hs:=List.mem_of_getElem? hj
   exact (hr r (List.mem_of_getElem? hi)).elim (fun h3=>h.rdis r h3 s (List.mem_append_left _ hs) q (ho s hs q h2) h1) fun h3=>((List.pairwise_append.1 h.dis).2.2 s hs r h3).1 q (ho s hs q h2) h1
theorem HA.one{r:Res}(h:HA F0 w0 w ro (r::rest))(ho:r.Ow)(hr:∀ s ∈ ro',s ∈ ro∨s ∈ rest):Hp r.F w w ro' [r]:=by
 have h1:=HA.only (pre:=[r]) (ro':=ro') h (fun s hs=>by rw [List.mem_singleton.1 hs];exact ho) hr
 have e:(fun q=>∃ s ∈ [r],s.F q)=r.F:=by funext q;simp
 rw [← e];exact h1
theorem HA.back(h:HA F0 w0 w ro (pre++rest))(ho:∀ r ∈ pre,r.Ow)(hc:Hp (fun q=>∃ r ∈ pre,r.F q) w w' ro' post):HA F0 w0 w' ro (post++rest):=by
 have h1:=hc.ha
 have key:∀ q,(∃ r ∈ pre,r.F q)->∃ r ∈ pre,r.W q:=fun q ⟨r,hr,hq⟩=>⟨r,hr,ho r hr q hq⟩
 exact h.call ⟨⟨h1.fr.os,h1.fr.tape,h1.fr.output,h1.fr.size,fun k hk hn=>h1.fr.block k hk fun h=>hn (key k h)⟩,h1.own,fun r hr q hq=>(h1.mine r hr q hq).imp (key q) id,h1.look,h1.dis,fun r hr=>absurd hr List.not_mem_nil,fun r hr=>absurd hr List.not_mem_nil⟩
theorem HA.oneB{r:Res}(h:HA F0 w0 w ro (r::rest))(ho:r.Ow)(hc:Hp r.F w w' ro' post):HA F0 w0 w' ro (post++rest):=by
 have e:(fun q=>∃ s ∈ [r],s.F q)=r.F:=by funext q;simp
 rw [← e] at hc
 exact HA.back (pre:=[r]) h (fun s hs=>by rw [List.mem_singleton.1 hs];exact ho) hc
/-- One thing is turned. -/
theorem HA.upd1{r:Res}(h:HA F0 w0 w ro (r::rest))(ho:r.Ow)(hf:Fr r.F w w')(r':Res)(hr:r'.Φ w')(hF:∀ q,r'.F q->r.F q∨w.heap.size<=q):HA F0 w0 w' ro (r'::rest):=
 h.oneB ho (post:=[r']) ((h.one (ro':=[]) ho (fun _s hs=>absurd hs List.not_mem_nil)).upd 0 rfl hf r' hr hF)
/-- One of the things, as it was told before. -/
theorem HA.sel{G:Nat->Prop}{r:Res}(h:HA (ft G) w0 w ro rs)(hr:r ∈ rs):Hp G w0 w [] [r]:=
 ⟨h.fr,fun i s hi=>by match i,hi with|0,hi=>(injection hi with hi;subst hi;exact h.own _ hr),fun i s hi q hq=>by match i,hi with|0,hi=>(injection hi with hi;subst hi;exact h.look _ hr q hq),fun i j s u hi hj hij=>by match i,j,hi,hj with|0,0,_,_=>exact absurd rfl hij,by simp,by simp⟩
/-- New things beside what is held. -/
theorem HA.newH(h:HA F0 w0 w ro rest)(hc:Hp (fun _=>False) w w' ro' post):HA F0 w0 w' ro (post++rest):=by
 refine HA.back (pre:=[]) h (fun s hs=>absurd hs List.not_mem_nil) (ro':=ro') ?_
 have e:(fun q=>∃ s ∈ ([]:List Res),s.F q)=fun _=>False:=by funext q;simp
 rw [e];exact hc
end
/-! ### Things,under names -/
/-- A row that has a block of its own, of more cells perhaps. -/
def rRow(g:Nat)(T:TypeId)(sz n cap:Nat)(cs:List Value):Res where
 F:=fun q=>q=g
 Φ:=fun w=>w.ownsRow 0 T sz (.slice (some ⟨g,0,none⟩) n cap) n cs
 lt:=fun {w} h q hq=>by
   subst hq
   rcases h.2 with ⟨h1,_⟩|⟨g',cap',cur,h1,_,hg,_⟩
   · cases h1
   injection h1 with h1 h2 h3;injection h1 with h1;injection h1 with h1 h4 h5;subst h1
   rcases Nat.lt_or_ge q w.heap.size with h' | h'
   · exact h'
   rw [Array.getElem?_eq_none h'] at hg;cases hg
 keep:=fun h _ hk=>by
   refine ⟨h.1,?_⟩
   rcases h.2 with ⟨h1,_⟩|⟨g',cap',cur,h1,hb,hg,r⟩
   · cases h1
   injection h1 with h1 h2 h3;injection h1 with h1;injection h1 with h1 h4 h5;subst h1
   exact .inr ⟨_,cap',cur,by rw [h3],hb,(hk _ rfl).trans hg,r⟩
theorem rRow.blk{g:Nat}{T:TypeId}{sz n cap:Nat}{cs:List Value}{w:World}(h:(rRow g T sz n cap cs).Φ w):∃ rest,Blk w g T (cs++rest):=by
 rcases h.2 with ⟨h1,_⟩|⟨g',cap',cur,h1,_,hg,_,_,_,ht⟩
 · cases h1
 injection h1 with h1 h2 h3;injection h1 with h1;injection h1 with h1 h4 h5;subst h1
 refine ⟨cur.toList.drop (n*sz),?_⟩
 rw [← ht,List.take_append_drop]
 unfold Blk
 simpa using hg
inductive Ent where
 | blk (k:Nat) (T:TypeId) (cs:List AV)
 | opq (k:Nat) (C:Kv->Prop)
 | row (k:Nat) (T:TypeId) (sz n:Nat) (cs:List AV)
 | rel (k:Nat) (vs:List AV) (C:Kv->List Value->Prop)
def Ent.key:Ent->Nat | .blk k _ _=>k | .opq k _=>k | .row k _ _ _ _=>k | .rel k _ _=>k
def Ent.res(κ:Kp):Ent->Res | .blk k T cs=>rBlk (κ k).n T (AV.denL κ cs) | .opq k _=>(κ k).r | .row k T sz n cs=>rRow (κ k).n T sz n (capK (κ k)) (AV.denL κ cs) | .rel k _ _=>(κ k).r
def Ent.holds(κ:Kp):Ent->Prop | .blk ..=>True | .opq k C=>C (κ k) | .row ..=>True | .rel k vs C=>C (κ k) (AV.denL κ vs)
def Ent.ren(σ:Nat->Nat):Ent->Ent | .blk k T cs=>.blk (σ k) T (AV.renL σ cs) | .opq k C=>.opq (σ k) C | .row k T sz n cs=>.row (σ k) T sz n (AV.renL σ cs) | .rel k vs C=>.rel (σ k) (AV.renL σ vs) C
def Ent.ok(A:Nat->Prop):Ent->Prop | .blk k _ cs=>A k/\AV.okL A cs | .opq k _=>A k | .row k _ _ _ cs=>A k/\AV.okL A cs | .rel k vs _=>A k/\AV.okL A vs
def Ent.lt(b:Nat):Ent->Bool | .blk k _ cs=>Nat.blt k b && AV.ltL b cs | .opq k _=>Nat.blt k b | .row k _ _ _ cs=>Nat.blt k b && AV.ltL b cs | .rel k vs _=>Nat.blt k b && AV.ltL b vs
theorem Ent.ok_key{A:Nat->Prop}{e:Ent}(h:e.ok A):A e.key:=by cases e with|blk k T cs=>exact h.1|opq k C=>exact h|row k T sz n cs=>exact h.1|rel k vs C=>exact h.1
theorem Ent.lt_ok{b:Nat}{e:Ent}(h:e.lt b=true):e.ok (· < b):=by
 cases e with
 | opq k C=>rw [Ent.lt,Nat.blt_eq] at h;exact h
 | _=>rw [Ent.lt,Bool.and_eq_true,Nat.blt_eq] at h;exact ⟨h.1,ltL_ok _ h.2⟩
theorem okL_mono{A B:Nat->Prop}(h:∀ k,A k->B k)(l:List AV)(hl:AV.okL A l):AV.okL B l:=(okL_all B l).2 fun x hx=>ok_mono h x ((okL_all A l).1 hl x hx)
theorem Ent.ok_mono{A B:Nat->Prop}(h:∀ k,A k->B k){e:Ent}(he:e.ok A):e.ok B:=by
 cases e with
 | opq k C=>exact h k he
 | _=>exact ⟨h _ he.1,okL_mono h _ he.2⟩
theorem Ent.ren_ok{A B:Nat->Prop}{σ:Nat->Nat}(h:∀ k,A k->B (σ k)){e:Ent}(he:e.ok A):(e.ren σ).ok B:=by
 cases e with
 | opq k C=>exact h k he
 | _=>exact ⟨h _ he.1,renL_ok h _ he.2⟩
theorem Ent.ren_res(κ:Kp)(σ:Nat->Nat)(e:Ent):(e.ren σ).res κ=e.res (fun k=>κ (σ k)):=by
 cases e with
 | blk k T cs=>simp only [Ent.ren,Ent.res];rw [renL_den]
 | row k T sz n cs=>simp only [Ent.ren,Ent.res];rw [renL_den]
 | _=>rfl
theorem Ent.ren_holds(κ:Kp)(σ:Nat->Nat)(e:Ent):(e.ren σ).holds κ↔e.holds (fun k=>κ (σ k)):=by
 cases e with
 | rel k vs C=>simp only [Ent.ren,Ent.holds];rw [renL_den]
 | _=>exact Iff.rfl
/-- The same, of what is not turned. -/
def AgR(A:Nat->Prop)(md:List Nat)(κ κ':Kp):Prop:=∀ k,A k->(κ' k).n=(κ k).n/\(κ' k).a=(κ k).a/\(k ∉ md->(κ' k).r=(κ k).r)
theorem AgR.agr{A:Nat->Prop}{md:List Nat}{κ κ':Kp}(h:AgR A md κ κ'):Agr A κ κ':=fun k hk=>⟨(h k hk).1,(h k hk).2.1⟩
theorem AgR.eq{A:Nat->Prop}{md:List Nat}{κ κ':Kp}(h:AgR A md κ κ'){k:Nat}(hk:A k)(hm:k ∉ md):κ' k=κ k:=by
 obtain ⟨h1,h2,h3⟩:=h k hk
 have h3:=h3 hm
 cases h4:κ' k;cases h5:κ k
 rw [h4,h5] at h1 h2 h3
 simp only at h1 h2 h3
 subst h1;subst h2;subst h3;rfl
theorem AgR.refl(A:Nat->Prop)(md:List Nat)(κ:Kp):AgR A md κ κ:=fun _ _=>⟨rfl,rfl,fun _=>rfl⟩
theorem Ent.res_agr{A:Nat->Prop}{md:List Nat}{κ κ':Kp}(h:AgR A md κ κ'){e:Ent}(he:e.ok A)(hm:e.key ∉ md):e.res κ'=e.res κ:=by
 cases e with
 | blk k T cs=>simp only [Ent.res];rw [(h k he.1).1,denL_agr h.agr cs he.2]
 | opq k C=>simp only [Ent.res];rw [h.eq he hm]
 | row k T sz n cs=>simp only [Ent.res,capK];rw [(h k he.1).1,(h k he.1).2.1,denL_agr h.agr cs he.2]
 | rel k vs C=>simp only [Ent.res];rw [h.eq he.1 hm]
theorem Ent.holds_agr{A:Nat->Prop}{md:List Nat}{κ κ':Kp}(h:AgR A md κ κ'){e:Ent}(he:e.ok A)(hm:e.key ∉ md)(hh:e.holds κ):e.holds κ':=by
 cases e with
 | opq k C=>show C (κ' k);rw [h.eq he hm];exact hh
 | rel k vs C=>show C (κ' k) (AV.denL κ' vs);rw [h.eq he.1 hm,denL_agr h.agr vs he.2];exact hh
 | _=>trivial
/-- What is held, under names. -/
structure HE(F0:Ft)(w0 w:World)(κ:Kp)(ro H:List Ent):Prop where
 ha:HA F0 w0 w (ro.map (Ent.res κ)) (H.map (Ent.res κ))
 hr:∀ e ∈ ro,e.holds κ
 hh:∀ e ∈ H,e.holds κ
section
variable{F0:Ft}{w0 w w':World}{κ κ':Kp}{ro H H' pre rest:List Ent}{A:Nat->Prop}{md:List Nat}
theorem HE.perm(h:HE F0 w0 w κ ro H)(hp:H.Perm H'):HE F0 w0 w κ ro H':=
 ⟨h.ha.perm (hp.map _),h.hr,fun e he=>h.hh e (hp.mem_iff.2 he)⟩
theorem map_agr(h:AgR A md κ κ')(l:List Ent)(hl:∀ e ∈ l,e.ok A)(hm:∀ e ∈ l,e.key ∉ md):l.map (Ent.res κ')=l.map (Ent.res κ):=
 List.map_congr_left fun e he=>Ent.res_agr h (hl e he) (hm e he)
end
/-- By falling names. -/
def insK(e:Ent):List Ent->List Ent
 | []=>[e]
 | f::l=>bif Nat.blt e.key f.key then f::insK e l else e::f::l
theorem insK_perm(e:Ent):∀ l:List Ent,(e::l).Perm (insK e l)
 | []=>List.Perm.refl _
 | f::l=>by
   show (e::f::l).Perm (bif Nat.blt e.key f.key then f::insK e l else e::f::l)
   cases Nat.blt e.key f.key with
   | true=>exact (List.Perm.swap f e l).trans ((insK_perm e l).cons f)
   | false=>exact List.Perm.refl _
def insKs:List Ent->List Ent->List Ent
 | [],l=>l
 | e::r,l=>insK e (insKs r l)
theorem insKs_perm:∀ (a l:List Ent),(a++l).Perm (insKs a l)
 | [],_=>List.Perm.refl _
 | e::r,l=>((insKs_perm r l).cons e).trans (insK_perm e _)
def findK(k:Nat):List Ent->Option Ent
 | []=>none
 | e::l=>bif Nat.beq e.key k then some e else findK k l
theorem findK_mem{k:Nat}{e:Ent}:∀ {l:List Ent},findK k l=some e->e ∈ l/\e.key=k
 | [],h=>by cases h
 | f::l,h=>by
   have h:(bif Nat.beq f.key k then some f else findK k l)=some e:=h
   cases hb:Nat.beq f.key k with
   | true=>rw [hb] at h;injection h with h;subst h;exact ⟨List.mem_cons_self ..,Nat.eq_of_beq_eq_true hb⟩
   | false=>rw [hb] at h;exact ⟨List.mem_cons_of_mem _ (findK_mem h).1,(findK_mem h).2⟩
def takeK1(k:Nat):List Ent->Option (Ent × List Ent)
 | []=>none
 | e::l=>bif Nat.beq e.key k then some (e,l) else match takeK1 k l with|some (f,r)=>some (f,e::r)|none=>none
theorem takeK1_perm{k:Nat}{f:Ent}:∀ {l r:List Ent},takeK1 k l=some (f,r)->l.Perm (f::r)/\f.key=k
 | [],_,h=>by cases h
 | e::l,r,h=>by
   have h:(bif Nat.beq e.key k then some (e,l) else match takeK1 k l with|some (f,r)=>some (f,e::r)|none=>none)=some (f,r):=h
   cases hb:Nat.beq e.key k with
   | true =>
     rw [hb] at h;injection h with h;injection h with h1 h2;subst h1;subst h2
     exact ⟨List.Perm.refl _,Nat.eq_of_beq_eq_true hb⟩
   | false =>
     rw [hb] at h
     simp only [cond_false] at h
     cases ht:takeK1 k l with
     | none=>rw [ht] at h;cases h
     | some p =>
       obtain ⟨g,s⟩:=p
       rw [ht] at h
       injection h with h;injection h with h1 h2;subst h1;subst h2
       obtain ⟨h3,h4⟩:=takeK1_perm ht
       exact ⟨(h3.cons e).trans (List.Perm.swap g e s),h4⟩
def takeK:List Nat->List Ent->Option (List Ent × List Ent)
 | [],l=>some ([],l)
 | k::ks,l=>match takeK1 k l with
   | some (e,r)=>match takeK ks r with|some (es,r2)=>some (e::es,r2)|none=>none
   | none=>none
theorem takeK_perm:∀ {ks:List Nat} {l es r:List Ent},takeK ks l=some (es,r)->l.Perm (es++r)/\es.map Ent.key=ks
 | [],l,es,r,h=>by injection h with h;injection h with h1 h2;subst h1;subst h2;exact ⟨List.Perm.refl _,rfl⟩
 | k::ks,l,es,r,h=>by
   have h:(match takeK1 k l with
     | some (e,r)=>(match takeK ks r with|some (es,r2)=>some (e::es,r2)|none=>none)
     | none=>none)=some (es,r):=h
   cases h1:takeK1 k l with
   | none=>rw [h1] at h;cases h
   | some p =>
     obtain ⟨e,r1⟩:=p
     rw [h1] at h
     simp only at h
     cases h2:takeK ks r1 with
     | none=>rw [h2] at h;cases h
     | some q =>
       obtain ⟨es',r2⟩:=q
       rw [h2] at h
       injection h with h;injection h with h3 h4;subst h3;subst h4
       obtain ⟨h5,h6⟩:=takeK1_perm h1
       obtain ⟨h7,h8⟩:=takeK_perm h2
       exact ⟨h5.trans (h7.cons e),by rw [List.map_cons,h6,h8]⟩
end
end Go.Proofs.YtaoijkhndakppaaGreat
