/- Letters of a name: plain. -/
import Derived.Test.YtdefpmmdpfpipaaGreatCA3
set_option maxRecDepth 100000
set_option maxHeartbeats 4000000
namespace Go.Proofs.YtdefpmmdpfpipaaGreat
section
open Go.RowKit Go.QT
/-- Three rows of bytes, side by side. -/
theorem SS.three(w:World)(va vb' vc:Value)(a b c:Bytes)(ha:SB w va a)(hb:SB w vb' b)(hc:SB w vc c):SS (w.alloc (.cells #[va,vb',vc] 24)) (.slice (some ⟨w.heap.size,0,none⟩) 3 3) [a,b,c]:=by
 have hB:Below w.heap.size w (w.alloc (.cells #[va,vb',vc] 24)):=(Below.refl _ _).alloc (Nat.le_refl _) _
 have hk:Blk (w.alloc (.cells #[va,vb',vc] 24)) w.heap.size 24 [va,vb',vc]:=Blk.new w 24 [va,vb',vc]
 refine ⟨_,3,rfl,by simp,by unfold maxLen;omega,fun i hi=>?_⟩
 have hc':=hk.cell
 match i,hi with
 | 0,_=>exact ⟨w.heap.size,0,va,rfl,hk.lt,hc' 0,ha.below hB⟩
 | 1,_=>exact ⟨w.heap.size,0,vb',rfl,hk.lt,hc' 1,hb.below hB⟩
 | 2,_=>exact ⟨w.heap.size,0,vc,rfl,hk.lt,hc' 2,hc.below hB⟩
theorem SB.isSlice{w:World}{v:Value}{l:Bytes}(h:SB w v l):v.cells=#[v]:=by
 obtain ⟨A,c,rfl,_⟩:=h;rfl
theorem run_bs3(va vb' vc:Value)(ha:va.cells=#[va])(hb:vb'.cells=#[vb'])(hc:vc.cells=#[vc])(w:World) :
   (Instr.buildSlice 110 3 #[(0,va),(1,vb'),(2,vc)]).run Tryz.prog w=.ok (.slice (some ⟨w.heap.size,0,none⟩) 3 3) (w.alloc (.cells #[va,vb',vc] 24)):=by
 have ht:Tryz.prog.underlying 110=some (.slice 24):=by kernel_rfl
 have hs:(sizeOf 24).run Tryz.prog w=.ok 1 w:=by kernel_rfl
 have hz:(zeroValue 24).run Tryz.prog w=.ok (.slice none 0 0) w:=by kernel_rfl
 have hzz:((Array.range (3*1)).map fun x=>(Value.slice none 0 0).cells[x % (Value.slice none 0 0).cells.size]!)=#[.slice none 0 0,.slice none 0 0,.slice none 0 0]:=by kernel_rfl
 have hf:Instr.fill (fun i=>some (i*1,1)) #[.slice none 0 0,.slice none 0 0,.slice none 0 0] [(0,va),(1,vb'),(2,vc)]=some #[va,vb',vc]:=by
   simp [Instr.fill,ha,hb,hc]
 have h0:¬ (3*1>2 ^ 24):=by omega
 have h1:¬ (3*1=0):=by omega
 simp only [Instr.buildSlice,Sem.run_bind,run_underlying ht,Result.andThen_ok,hs]
 rw [if_neg h0,if_neg h1]
 simp only [Sem.run_bind,hz,Result.andThen_ok,Sem.run_pure,hzz,hf]
 simp [newRow]
theorem exec_bs3{o:Oper}{a:Act}(x y z:Operand)(ho:o.op=.buildSlice 110 3 #[(0,x),(1,y),(2,z)])(va vb' vc:Value)(hx:a.eval x=va)(hy:a.eval y=vb')(hz:a.eval z=vc)(ha:va.cells=#[va])(hb:vb'.cells=#[vb'])(hc:vc.cells=#[vc])(w:World) :
   (execOp a.eval o).run Tryz.prog w=.ok (.value (.slice (some ⟨w.heap.size,0,none⟩) 3 3)) (w.alloc (.cells #[va,vb',vc] 24)):=by
 have h:=run_bs3 va vb' vc ha hb hc w
 unfold execOp
 simp [ho,hx,hy,hz,h]
theorem text_any(F:Nat->Prop)(tb:Nat)(s:STab)(p q:ByteArray)(w:World)(hT:TabAt w F tb s)(hp:p.size<=1000000)(hq:q.size<=1000000)(hn:s.keys.length<1000000) :
   Calls Tryz.prog 44 #[.pointer (some ⟨tb,0,none⟩),.string p,.string q] w (TPost w F tb (s.made (textF p q)) (.agg (vb (mkB 107 (s.num (textF p q)))).toArray)):=by
 have HT:=Hd.mk hT
 have HM:=Hd.mk (fun W (h:TabAt W F tb s)=>made_any F tb s (textF p q) W h rfl hn)
 have Hlt:=Hd.mk hT.lt
 have Hn:=Hd.mk hn
 clear hT hn
 go_enter Tryz.func44,Tryz.ntmps44
 go_upto_region 1 with (fail)
 rw [z16_eq]
 have hb:Below w.heap.size w (w.alloc (.cells (vb zKey).toArray 31)):=(Below.refl _ _).alloc (Nat.le_refl _) _
 have hKr:Row (w.alloc (.cells (vb zKey).toArray 31)) w.heap.size 31 zKey:=Row.new w 31 zKey
 generalize w.alloc (.cells (vb zKey).toArray 31)=w1 at *
 refine wp_region_lit ?_
 refine wl_val rfl (.pointer (some ⟨tb,0,none⟩)) (rfl) ?_
 simp only [Act.put,u1,u2,u3]
 refine wl_val rfl (.string p) (rfl) ?_
 simp only [Act.put,u1,u2,u3]
 refine wl_val rfl (.int .i64 (p.size:Int)) (by simp [go_sem]) ?_
 simp only [Act.put,u1,u2,u3]
 refine wl_val rfl (.int .u64 (p.size:Int)) (by have e:=u64_of p.size (by omega);simp [go_sem,e]) ?_
 simp only [Act.put,u1,u2,u3]
 refine wl_call rfl 52 _ _ rfl [.int .u64 (p.size:Int)] rfl (by kernel_rfl) (put_any p.size _) ?_
 rintro e w2 ⟨v1,rfl,ho1,hb2⟩
 refine ⟨_,rfl,?_⟩
 have c2:=hb2
 simp only [Act.put,u1,u2,u3]
 refine wl_val rfl (.string p) (rfl) ?_
 simp only [Act.put,u1,u2,u3]
 refine wl_conv_sb rfl (.tmp 12) rfl p rfl (by unfold maxLen;omega) ?_
 intro v2 w3 hs2 hb3
 have c3:=c2.trans (hb3.mono c2.size)
 simp only [Act.put,u1,u2,u3]
 refine wl_val rfl (.string q) (rfl) ?_
 simp only [Act.put,u1,u2,u3]
 refine wl_conv_sb rfl (.tmp 14) rfl q rfl (by unfold maxLen;omega) ?_
 intro v3 w4 hs3 hb4
 have c4:=c3.trans (hb4.mono c3.size)
 have hsa:=(ho1.sb.below hb3).below hb4
 have hsb:=hs2.below hb4
 simp only [Act.put,u1,u2,u3]
 refine wl_run rfl (.slice (some ⟨w4.heap.size,0,none⟩) 3 3) (show _=Result.ok _ (w4.alloc (.cells #[v1,v2,v3] 24)) from exec_bs3 (.tmp 11) (.tmp 13) (.tmp 15) (by rfl) v1 v2 v3 (by rfl) (by rfl) (by rfl) hsa.isSlice hsb.isSlice hs3.isSlice _) ?_
 simp only [Act.put,u1,u2,u3]
 have hSS:=SS.three w4 v1 v2 v3 _ _ _ hsa hsb hs3
 have c5:=c4.alloc c4.size (.cells #[v1,v2,v3] 24)
 have hfl:([put8 p.size,p.data.toList,q.data.toList]:List Bytes).flatten=put8 p.size++p.data.toList++q.data.toList:=by simp
 have hll:(put8 p.size++p.data.toList++q.data.toList).length<=140737488355328:=by
   rw [List.length_append,List.length_append,put8_len]
   have e1:p.data.toList.length=p.size:=by simp
   have e2:q.data.toList.length=q.size:=by simp
   omega
 have hj:=joined_any _ _ _ hSS (by rw [hfl];exact hll)
 rw [hfl] at hj
 generalize w4.alloc (.cells #[v1,v2,v3] 24)=w5 at *
 refine wl_call rfl 62 _ _ rfl [.slice (some ⟨w4.heap.size,0,none⟩) 3 3] rfl (by kernel_rfl) (hj) ?_
 rintro e w6 ⟨v6,rfl,ho6,hb6⟩
 refine ⟨_,rfl,?_⟩
 have c6:=c5.trans (hb6.mono c5.size)
 have hB6:=hb.trans (c6.mono hb.size)
 simp only [Act.put,u1,u2,u3]
 refine wl_val rfl (.string ⟨(put8 p.size++p.data.toList++q.data.toList).toArray⟩) (exec_sb_conv (.tmp 17) (by rfl) v6 _ (by rfl) ho6.sb) ?_
 simp only [Act.put,u1,u2,u3]
 refine wl_val rfl (.agg (fromCells (textF p q)).toArray) (exec_build_text (.tmp 18) _ (by rfl) ⟨(put8 p.size++p.data.toList++q.data.toList).toArray⟩ (by rfl) (by rfl) _) ?_
 simp only [Act.put,u1,u2,u3]
 refine wl_call rfl 61 _ _ rfl [.pointer (some ⟨tb,0,none⟩),.agg (fromCells (textF p q)).toArray] rfl (by kernel_rfl) (HM.out _ (HT.out.below hB6)) ?_
 rintro e w7 ⟨rfl,F2,hT2,hF1,hF2,hf2⟩
 refine ⟨_,rfl,?_⟩
 have hK6:Row w6 w.heap.size 31 zKey:=hKr.below c6 hKr.lt
 have hK7:Row w7 w.heap.size 31 zKey:=(hf2.block _ hK6.lt (fun h=>by have:=Hlt.out _ h;omega)).trans hK6
 have hKl:=hK6.lt
 have HK7:=Hd.mk hK7
 clear hK7 hK6 hKr
 simp only [Act.put,u1,u2,u3]
 go_wp2_with (refine wl_storeW rfl 31 _ _ rfl w.heap.size 0 (vb (mkB 107 (s.num (textF p q)))) rfl rfl 31 _ (vb (mkB 107 (s.num (textF p q)))) HK7.out (by simp [zKey,mkB_len]) i42 (vb_ones _) (by simp [zKey,mkB_len]) ?_;intro w8 hr8 hg8 hs8)
 refine bodyPost_ret (results_cell_row (p:=6) (ty:=31) rfl _ _ w.heap.size 31 (vb (mkB 107 (s.num (textF p q)))).toArray (0,0) _ rfl hr8 ty42 rfl (by rw [i42];rfl)) rfl ?_
 exact ⟨rfl,TPost.key (_l:=[]) hB6 Hlt.out (Nat.le_refl _) hKl hT2 hF1 hF2 hf2 hg8 ⟨_,_,hr8⟩⟩
end
section
open Go.RowKit Go.QT
attribute [local go_sem] bits_xor8 bits_or8 bits_and8
theorem gb_out(l:Bytes)(i:Nat)(h:l.length<=i):gb l i=0:=by simp [gb,h]
set_option maxHeartbeats 400000 in
theorem at_any(v:Value)(l:Bytes)(i:Nat)(x:Int)(hx:x=(i:Int))(_hi:i<9223372036854775808)(w:World)(hv:SB w v l):Calls Tryz.prog 66 #[v,.int .i64 x] w (VPost w (.int .u8 (ub (gb l i)))):=by
 subst hx
 obtain ⟨A,c,hve,hc1,hc2⟩:=sb_form hv
 by_cases h:i<l.length
 · obtain ⟨b,o,c',e,_,_,hb,hcell⟩:=hv.open_ (by rintro rfl;simp at h)
   subst hve
   injection e with e1 e2 e3
   subst e1
   have hd:decide ((i:Int)<l.length)=true:=by simp;omega
   have x0:=hcell i h
   clear hcell hv e2 e3
   go_enter Tryz.func66,Tryz.ntmps66
   go_wp2
   go_ret
   exact ⟨rfl,rfl⟩
 have hz:=Hd.mk (gb_out l i (by omega))
 subst hve
 have hd:decide ((i:Int)<l.length)=false:=by simp;omega
 clear hv
 go_enter Tryz.func66,Tryz.ntmps66
 go_wp2
 go_ret
 refine ⟨?_,rfl⟩
 rw [hz.out];simp [ub]
def eqTo(a b:Bytes):Nat->UInt8
 | 0=>0
 | k+1=>eqTo a b k ||| (gb a k ^^^ gb b k)
theorem or0(x y:UInt8):x ||| y=0↔x=0/\y=0:=by
 constructor
 · intro h
   have h1:x.toNat ||| y.toNat=0:=by have:=congrArg UInt8.toNat h;simpa using this
   have h2:=Nat.or_eq_zero_iff.1 h1
   exact ⟨UInt8.toNat_inj.1 (by simpa using h2.1),UInt8.toNat_inj.1 (by simpa using h2.2)⟩
 rintro ⟨rfl,rfl⟩;rfl
theorem xor0(x y:UInt8):x ^^^ y=0↔x=y:=by
 constructor
 · intro h
   have:(x ^^^ y) ^^^ y=0 ^^^ y:=by rw [h]
   rwa [UInt8.xor_assoc,UInt8.xor_self,UInt8.xor_zero,UInt8.zero_xor] at this
 rintro rfl;exact UInt8.xor_self
theorem eqTo_zero(a b:Bytes)(k:Nat):eqTo a b k=0↔∀ j,j<k->gb a j=gb b j:=by
 induction k with
 | zero=>simp [eqTo]
 | succ k ih =>
   rw [eqTo,or0,xor0,ih]
   constructor
   · rintro ⟨h1,h2⟩ j hj
     by_cases e:j=k
     · subst e;exact h2
     exact h1 j (by omega)
   intro h
   exact ⟨fun j hj=>h j (by omega),h k (by omega)⟩
theorem equal_fin(a b:Bytes)(k:Nat)(hk:k=max a.length b.length):(decide (eqTo a b k=0) && decide (a.length=b.length))=decide (a=b):=by
 rw [Bool.eq_iff_iff]
 simp only [Bool.and_eq_true,decide_eq_true_eq,eqTo_zero]
 constructor
 · rintro ⟨h1,h2⟩
   exact same_eq a b h2 fun j hj=>h1 j (by omega)
 rintro rfl;exact ⟨fun _ _=>rfl,rfl⟩
theorem equal_any(va vb':Value)(a b:Bytes)(w:World)(ha:SB w va a)(hb:SB w vb' b):Calls Tryz.prog 49 #[va,vb'] w (VPost w (.bool (decide (a=b)))):=by
 obtain ⟨A,c,rfl,hc1,hc2⟩:=sb_form ha
 obtain ⟨B,d,rfl,hd1,hd2⟩:=sb_form hb
 have Ha:=Hd.mk ha
 have Hb:=Hd.mk hb
 clear ha hb
 obtain ⟨M,hM,hM2⟩:∃ M:Nat,M=max a.length b.length/\(max (a.length:Int) (b.length:Int))=(M:Int):=⟨_,rfl,by omega⟩
 have Hfin:=Hd.mk (equal_fin a b M hM)
 have HM:a.length<=M/\b.length<=M/\M<=9223372036854775807:=by omega
 clear hM
 obtain ⟨hM1,hM3,hM4⟩:=HM
 have hmax:∀ (O:Oper) (Ac:Act),O.op=.call { callee:=.builtin .max,args:=#[.tmp 8,.tmp 10],argTypes:=#[3,3] }->Ac.eval (.tmp 8)=.int .i64 (a.length:Int)->Ac.eval (.tmp 10)=.int .i64 (b.length:Int)->∀ W,(execOp Ac.eval O).run Tryz.prog W=.ok (.value (.int .i64 (M:Int))) W:=fun O Ac h1 h2 h3 W=>by
   rw [← hM2]
   unfold execOp
   simp only [h1,resolve,invoke,builtin,Sem.run_bind,Sem.run_pure,Result.andThen_ok,List.map_toArray,List.map_cons,List.map_nil,h2,h3]
   have e:(if (b.length:Int)>(a.length:Int) then (b.length:Int) else (a.length:Int))=max (a.length:Int) (b.length:Int):=by
     split <;> omega
   have hm:(Builtin.max_ #[3,3] O.type #[.int .i64 (a.length:Int),.int .i64 (b.length:Int)]).run Tryz.prog W=.ok (.int .i64 (max (a.length:Int) (b.length:Int))) W:=by
     rw [← e];simp [Builtin.max_,Builtin.max2]
   simp only [hm,Result.andThen_ok]
 have Hmax:=Hd.mk hmax
 clear hmax
 go_enter Tryz.func49,Tryz.ntmps49
 go_upto_region 2 with (fail)
 refine wp_region_lit ?_
 refine wl_val rfl (.slice A a.length c) (rfl) ?_
 simp only [Act.put,u1,u2,u3]
 refine wl_val rfl (.int .i64 (a.length:Int)) (by simp [go_sem]) ?_
 simp only [Act.put,u1,u2,u3]
 refine wl_val rfl (.slice B b.length d) (rfl) ?_
 simp only [Act.put,u1,u2,u3]
 refine wl_val rfl (.int .i64 (b.length:Int)) (by simp [go_sem]) ?_
 simp only [Act.put,u1,u2,u3]
 refine wl_val rfl (.int .i64 (M:Int)) (Hmax.out _ _ rfl rfl rfl _) ?_
 simp only [Act.put,u1,u2,u3]
 go_wp2
 go_loop [5,12] (fun x i=>∃ k:Nat,k<=M/\i=.int .i64 (k:Int)/\x=.int .u8 (ub (eqTo a b k))) (fun _ i=>M-(intOf i).toNat)
 case atStart=>exact ⟨0,by omega,rfl,by simp [eqTo,ub]⟩
 case round =>
   obtain ⟨k,hk,rfl,rfl⟩:=hrel
   by_cases hlt:k<M
   · have hd:decide ((k:Int)<M)=true:=by simp;omega
     have Hs:Hd (eqTo a b (k+1)=eqTo a b k ||| (gb a k ^^^ gb b k)):=⟨rfl⟩
     have A1:=Hd.mk (at_any _ a k (k:Int) rfl (by omega) w Ha.out)
     have A2:=Hd.mk (at_any _ b k (k:Int) rfl (by omega) w Hb.out)
     generalize eqTo a b k=D at *
     go_wp2_with (go_at_call 66;(first|(with_reducible refine A1.out.mono ?_)|(with_reducible refine A2.out.mono ?_));rintro e w' ⟨rfl,rfl⟩)
     refine ⟨⟨k+1,by omega,by go_num,by rw [Hs.out]⟩,by simp [intOf];omega⟩
   have hkM:k=M:=by omega
   have hd:decide ((k:Int)<M)=false:=by simp;omega
   subst hkM
   have hz:(ub (eqTo a b k) == 0)=decide (eqTo a b k=0):=by
     have:ub 0=0:=by simp [ub]
     rw [← this,ub_beq];rfl
   have hl:(((a.length:Nat):Int) == ((b.length:Nat):Int))=decide (a.length=b.length):=by
     rw [Bool.eq_iff_iff,beq_iff_eq,decide_eq_true_eq];omega
   generalize hD:decide (eqTo a b k=0)=D at *
   cases D with
   | true =>
     generalize hL:decide (a.length=b.length)=L at *
     have HL:=Hd.mk hL
     have HD:=Hd.mk hD
     clear hL hD
     go_wp2
     go_ret
     refine ⟨?_,rfl⟩
     rw [← Hfin.out];simp
   | false =>
     have HD:=Hd.mk hD
     clear hD hl
     go_wp2
     go_ret
     refine ⟨?_,rfl⟩
     rw [← Hfin.out];simp
end
section
open Go.RowKit Go.QT
theorem digest1_any(u:Value)(m:Bytes)(cb:Nat)(bv:Value)(b:Bytes)(w:World)(hu:SB w u m)(hc:w.cell? ⟨cb,0,none⟩=some bv)(hb:SB w bv b):Calls Tryz.prog 131 #[u,.pointer (some ⟨cb,0,none⟩)] w (VPost w (.bool (decide (m=b)))):=by
 have HE:=Hd.mk (equal_any u bv m b w hu hb)
 clear hu hb
 go_enter Tryz.func131,Tryz.ntmps131
 go_wp2_with (go_at_call 49;refine HE.out.mono ?_;rintro e w' ⟨rfl,rfl⟩)
 go_ret
 exact ⟨rfl,rfl⟩
/-- Where a row stands first; -1: nowhere. -/
def idxR(b:Bytes)(ls:List Bytes):Int:=if ls.findIdx (· = b)<ls.length then (ls.findIdx (· = b):Nat) else -1
theorem idxR_hit(b:Bytes)(ls:List Bytes)(k:Nat)(hk:k<ls.length)(hn:∀ j,j<k->ls.getD j []≠b)(he:ls.getD k []=b):idxR b ls=(k:Nat):=by
 have hg:∀ j (hj:j<ls.length),ls.getD j []=ls[j]:=fun j hj=>by simp [List.getD,List.getElem?_eq_getElem hj]
 have h:ls.findIdx (· = b)=k:=by
   rw [List.findIdx_eq hk]
   have he':=he
   rw [hg k hk] at he'
   refine ⟨by simpa using he',fun j hj=>?_⟩
   have:=hn j hj
   rw [hg j (by omega)] at this
   simpa using this
 rw [idxR,h,if_pos hk]
theorem idxR_miss(b:Bytes)(ls:List Bytes)(hn:∀ j,j<ls.length->ls.getD j []≠b):idxR b ls = -1:=by
 have hg:∀ j (hj:j<ls.length),ls.getD j []=ls[j]:=fun j hj=>by simp [List.getD,List.getElem?_eq_getElem hj]
 have h:ls.findIdx (· = b)=ls.length:=by
   rw [List.findIdx_eq_length]
   intro x hx
   obtain ⟨j,hj,rfl⟩:=List.getElem_of_mem hx
   have:=hn j hj
   rw [hg j hj] at this
   simpa using this
 rw [idxR,h,if_neg (by omega)]
theorem indexfunc_any(v:Value)(ls:List Bytes)(cb:Nat)(bv:Value)(b:Bytes)(w:World)(hv:SS w v ls)(hc:w.cell? ⟨cb,0,none⟩=some bv)(hb:SB w bv b) :
   Calls Tryz.prog 130 #[v,.func (.func 131) #[] #[.pointer (some ⟨cb,0,none⟩)]] w (VPost w (.int .i64 (idxR b ls))):=by
 obtain ⟨A,c,rfl,hc1,hc2,hcell⟩:=hv
 unfold maxLen at hc2
 have Hcell:=Hd.mk hcell
 have Hhit:=Hd.mk (idxR_hit b ls)
 have Hmiss:=Hd.mk (idxR_miss b ls)
 have HD:=Hd.mk (fun u m (hu:SB w u m)=>digest1_any u m cb bv b w hu hc hb)
 clear hcell hc hb
 go_enter Tryz.func130,Tryz.ntmps130
 go_wp2
 go_loop [8] (fun i=>∃ k:Nat,k<=ls.length/\i=.int .i64 (k:Int)/\Hd (∀ j,j<k->ls.getD j []≠b)) (fun i=>ls.length-(intOf i).toNat)
 case atStart=>exact ⟨0,by omega,rfl,⟨fun i hi=>absurd hi (by omega)⟩⟩
 case round =>
   obtain ⟨k,hk,rfl,hno⟩:=hrel
   by_cases hlt:k<ls.length
   · obtain ⟨bb,o,u,hA,hbl,hx,hs⟩:=Hcell.out k hlt
     subst hA
     have HC:=Hd.mk (HD.out u _ hs)
     clear hs hbl
     by_cases he:ls.getD k []=b
     · have Hr:=Hd.mk (Hhit.out k hlt hno.out he)
       rw [decide_eq_true he] at HC
       clear he Hcell Hhit Hmiss
       go_wp2_with (go_at_call 131;refine HC.out.mono ?_;rintro e w' ⟨rfl,rfl⟩)
       go_ret
       exact ⟨by rw [Hr.out];rfl,rfl⟩
     have hno2:Hd (∀ j,j<k+1->ls.getD j []≠b):=⟨fun j hj=>by
       by_cases hjk:j=k
       · subst hjk;exact he
       exact hno.out j (by omega)⟩
     rw [decide_eq_false he] at HC
     clear he
     go_wp2_with (go_at_call 131;refine HC.out.mono ?_;rintro e w' ⟨rfl,rfl⟩)
     refine ⟨⟨k+1,by omega,by go_num,hno2⟩,by simp [intOf];omega⟩
   have hk2:k=ls.length:=by omega
   rw [hk2] at hno
   have Hr:=Hd.mk (Hmiss.out hno.out)
   clear hk2
   go_wp2
   go_ret
   exact ⟨by rw [Hr.out];rfl,rfl⟩
end
section
open Go.RowKit Go.QT
theorem SB.isSlice'{w:World}{v:Value}{l:Bytes}(h:SB w v l):v.cells=#[v]:=by
 obtain ⟨A,c,rfl,_⟩:=h;rfl
theorem tybss:Tryz.prog.underlying 110=some (.slice 24):=by kernel_rfl
theorem ibs3:(Tryz.prog.info? 24).map (fun i=>(i.zero,i.size,i.bytes))=some (some (.slice none 0 0),1,24):=by kernel_rfl
theorem ibs1:(Tryz.prog.info? 24).map (·.size)=some 1:=by kernel_rfl
theorem zbs(W:World):(zeroValue 24).run Tryz.prog W=.ok (.slice none 0 0) W:=by kernel_rfl
theorem agg63(W:World):(isAgg 110).run Tryz.prog W=.ok false W:=by kernel_rfl
theorem i63:(Tryz.prog.info? 110).map (·.size)=some 1:=by kernel_rfl
theorem exec_box{P:Program}{o:Oper}{a:Act}(t:TypeId)(x:Operand)(ho:o.op=.box t x)(v:Value)(hx:a.eval x=v)(hv:v.cells=#[v])(W:World):(execOp a.eval o).run P W=.ok (.value (.pointer (some ⟨W.heap.size,0,none⟩))) (W.alloc (.cells #[v] t)):=by
 have h:(Instr.box t v).run P W=.ok (.pointer (some ⟨W.heap.size,0,none⟩)) (W.alloc (.cells #[v] t)):=by simp [Instr.box,newVar,newRow,hv]
 unfold execOp
 simp only [ho,hx,Sem.run_bind,h,Result.andThen_ok,Sem.run_pure]
/-- The table behind a new sum. -/
theorem TabR.summed{w w':World}{F:Nat->Prop}{tb mb:Nat}{vk vx vs v' body:Value}{bodies sums:List Value}{es:Array MapEntry}{clock:Nat}{s:STab}{l:Bytes}(h:TabR w F tb mb vk vx vs bodies sums es clock s)
   (hv:OV w' 0 24 1 v' (sums.map (fun v=>[v])++[[body]])) (hg:w.grownBy w' vs.ownBlock) (hb:OB w 0 body l) (hbx:Disj body vs) :
   TabR (w'.setCell ⟨tb,2,none⟩ v') (fun q=>F q∨v'.ownBlock=some q∨body.ownBlock=some q) tb mb vk vx v' bodies (sums++[body]) es clock { s with sums:=s.sums++[l] }:=by
 have hs:w.heap.size<=w'.heap.size:=hg.size
 have e0:∀ q,some q≠vs.ownBlock->q≠tb->q<w.heap.size->(w'.setCell ⟨tb,2,none⟩ v').heap[q]?=w.heap[q]?:=fun q h1 h2 h3 =>
   (Below.heap_setCell w' ⟨tb,2,none⟩ v' q h2).trans (hg.block q h3 h1)
 have hvl:∀ q,v'.ownBlock=some q->q<w'.heap.size:=fun q hq=>(hv.block q hq).2
 have h1:Blk w' tb 113 [vk,vx,vs,.map (some mb)]:=h.t.grown hg (fun e=>own_ne h.u.own h.t (by decide) tb e.symm rfl)
 have hkeep:∀ {v:Value} {m:Bytes},OB w 0 v m->Disj v vs->OB (w'.setCell ⟨tb,2,none⟩ v') 0 v m:=fun ho hd=>OB.keep ho fun q hq=>e0 q (fun e=>hd q hq e.symm) (own_ne ho h.t (by decide) q hq) (OB.own ho q hq).2
 refine { t:=h1.set 2 v',k:=?_,kl:=h.kl,x:=?_,xn:=h.xn,xl:=h.xl,xb:=?_,u:=?_,un:=by simp [h.un],ub:=?_,m:=?_,me:=h.me,ml:=h.ml,ft:=.inl h.ft,fm:=.inl h.fm,fk:=fun q hq=>.inl (h.fk q hq),fx:=fun q hq=>.inl (h.fx q hq),fu:=fun q hq=>.inr (.inl hq),fl:=?_ }
 · exact h.k.keep fun q hq=>e0 q (fun e=>own_disj h.k.own h.u.own (by decide) q hq e.symm) (own_ne h.k.own h.t (by decide) q hq) (h.k.block q hq).2
 · exact h.x.keep fun q hq=>e0 q (fun e=>own_disj h.x.own h.u.own (by decide) q hq e.symm) (own_ne h.x.own h.t (by decide) q hq) (h.x.block q hq).2
 · intro i b v hb1 hb2
   obtain ⟨a1,a2,a3⟩:=h.xb i b v hb1 hb2
   exact ⟨hkeep a1 (own_disj a1 h.u.own (by decide)),fun q hq=>.inl (a2 q hq),a3⟩
 · have h2:OV w' 0 24 1 v' ((sums++[body]).map fun v=>[v]):=by rw [List.map_append];exact hv
   exact h2.far (fun q hq e=>own_ne hv.own h1 (by decide) q hq e) _
 · intro i b v hb1 hb2
   by_cases hi:i<s.sums.length
   · have e1:s.sums[i]?=some b:=by simpa [List.getElem?_append_left hi] using hb1
     have e2:sums[i]?=some v:=by rw [List.getElem?_append_left (by rw [h.un];exact hi)] at hb2;exact hb2
     obtain ⟨a1,a2,a3⟩:=h.ub i b v e1 e2
     exact ⟨hkeep a1 (own_disj a1 h.u.own (by decide)),fun q hq=>.inl (a2 q hq),a3⟩
   have e1:(s.sums++[l])[i]?=some b:=hb1
   have hi2:i=s.sums.length:=by
     have:=(List.getElem?_eq_some_iff.1 e1).1
     simp at this;omega
   subst hi2
   have e3:b=l:=by simpa using e1.symm
   have e4:v=body:=by
     rw [← h.un] at hb2
     simpa using hb2.symm
   subst e3;subst e4
   exact ⟨hkeep hb hbx,fun q hq=>.inr (.inr hq),hb.one⟩
 · have hml:mb<w.heap.size:=h.fl mb h.fm
   exact (e0 mb (fun e=>own_ne_map h.u.own h.m mb e.symm rfl) (fun e=>blk_ne_map h.t h.m e.symm) hml).trans h.m
 intro q hq
 have:(w'.setCell ⟨tb,2,none⟩ v').heap.size=w'.heap.size:=by simp [World.setCell]
 rcases hq with hq|hq|hq
 · have:=h.fl q hq;omega
 · have:=hvl q hq;omega
 have:=(OB.own hb q hq).2;omega
/-- The table's sums as rows. -/
theorem TabR.ss{w:World}{F:Nat->Prop}{tb mb:Nat}{vk vx vs:Value}{bodies sums:List Value}{es:Array MapEntry}{clock:Nat}{s:STab}(h:TabR w F tb mb vk vx vs bodies sums es clock s):SS w vs s.sums:=by
 have hl:(sums.map fun v=>[v]).length=s.sums.length:=by rw [List.length_map,h.un]
 obtain ⟨A,cap,hv,h1,h2⟩:=h.u.form
 rw [hl] at hv h1
 refine ⟨A,cap,hv,h1,h2,fun i hi=>?_⟩
 obtain ⟨g,cap',hv',_,hg,_,_,cur,hB,hcur⟩:=h.u.at_ (i:=i) (by rw [hl];exact hi)
 rw [hl,hv] at hv'
 injection hv' with hA _ _
 have hsi:i<sums.length:=by rw [h.un];exact hi
 have hc:=hcur 0 (by omega)
 rw [List.getElem_map] at hc
 obtain ⟨a1,_,_⟩:=h.ub i s.sums[i] sums[i] (List.getElem?_eq_getElem hi) (List.getElem?_eq_getElem hsi)
 refine ⟨g,0,sums[i],hA,hg,?_,?_⟩
 · rw [Nat.zero_add,hB.cell]
   simpa using hc
 have e:s.sums.getD i []=s.sums[i]:=by simp [List.getD,List.getElem?_eq_getElem hi]
 rw [e];exact a1.sb
theorem digest_any(F:Nat->Prop)(tb:Nat)(s:STab)(l:Bytes)(bv:Value)(w:World)(hT:TabAt w F tb s)(hbv:SB w bv l)(hl:l.length<=1000000)(hn:s.sums.length<1000000) :
   Calls Tryz.prog 126 #[.pointer (some ⟨tb,0,none⟩),bv] w (SPost w F tb (s.digest l) (mkB 100 (s.sumAt l+1))):=by
 obtain ⟨mb,vk,vx,vs,bodies,sums,es,clock,hR⟩:=hT
 have HR:=Hd.mk hR
 have Hbv:=Hd.mk hbv
 have htb:=hR.fl tb hR.ft
 have hul:(sums.map fun v=>[v]).length=s.sums.length:=by rw [List.length_map,hR.un]
 have Hul:=Hd.mk hul
 have hb1:bv.cells=#[bv]:=hbv.isSlice'
 have Hb1:=Hd.mk hb1
 clear hR hbv hul hb1
 go_enter Tryz.func126,Tryz.ntmps126
 refine wp_seq_k fun K hK=>?_
 refine wp_region_lit ?_
 refine wl_run rfl (.pointer (some ⟨w.heap.size,0,none⟩)) (show _=Result.ok _ (w.alloc (.cells #[bv] 24)) from exec_box 24 (.tmp 1) rfl bv rfl Hb1.out _) ?_
 simp only [Act.put,u1,u2,u3]
 have hb:Below w.heap.size w (w.alloc (.cells #[bv] 24)):=(Below.refl _ _).alloc (Nat.le_refl _) _
 have hKk:Blk (w.alloc (.cells #[bv] 24)) w.heap.size 24 [bv]:=Blk.new w 24 [bv]
 generalize w.alloc (.cells #[bv] 24)=w1 at *
 have HT1:=Hd.mk (HR.out.keep hb.size (fun q hq=>hb.block q (HR.out.fl q hq)))
 have x0:w1.cell? ⟨tb,2,none⟩=some vs:=by have:=HT1.out.t.cell 2;exact this
 have xb:w1.cell? ⟨w.heap.size,0,none⟩=some bv:=by rw [hKk.cell];rfl
 have HI:=Hd.mk (indexfunc_any vs s.sums w.heap.size bv l w1 HT1.out.ss xb (Hbv.out.below hb))
 have HB:=Hd.mk hb
 have HKk:=Hd.mk hKk
 have hkl:=hKk.lt
 clear hb hKk
 go_upto_region 1 with (fail)
 refine wp_region_lit ?_
 refine wl_val rfl (.pointer (some ⟨tb,0,none⟩)) (rfl) ?_
 simp only [Act.put,u1,u2,u3]
 refine wl_val rfl (.pointer (some ⟨tb,0,none⟩)) (by simp [go_sem]) ?_
 simp only [Act.put,u1,u2,u3]
 refine wl_val rfl (.pointer (some ⟨tb,2,none⟩)) (by simp [go_sem]) ?_
 simp only [Act.put,u1,u2,u3]
 refine wl_val rfl (vs) (exec_cell _ _ (by rfl) ⟨tb,2,none⟩ _ (by rfl) (agg63 _) x0) ?_
 simp only [Act.put,u1,u2,u3]
 refine wl_val rfl (.func (.func 131) #[] #[.pointer (some ⟨w.heap.size,0,none⟩)]) (by simp [go_sem]) ?_
 simp only [Act.put,u1,u2,u3]
 refine wl_call rfl 130 _ _ rfl [vs,.func (.func 131) #[] #[.pointer (some ⟨w.heap.size,0,none⟩)]] rfl (by kernel_rfl) (HI.out) ?_
 rintro e w2 ⟨rfl,rfl⟩
 refine ⟨_,rfl,?_⟩
 simp only [Act.put,u1,u2,u3]
 by_cases hhit:s.sumAt l<s.sums.length
 · have hi:idxR l s.sums=((s.sumAt l:Nat):Int):=if_pos hhit
   have Hd1:Hd (s.digest l=s):=⟨if_pos hhit⟩
   rw [hi]
   have hlo:decide (((s.sumAt l:Nat):Int)<0)=false:=decide_eq_false (by omega)
   have Hn:Hd (s.sumAt l<1000000):=⟨by omega⟩
   clear hi hhit xb
   generalize hN:s.sumAt l=N at *
   have HN:=Hd.mk hN
   clear hN
   have ub100:ub 100=100:=by simp [ub]
   have H69:=Hd.mk (smark_any 100 (N+1) (by have:=Hn.out;omega) w1)
   rw [ub100] at H69
   clear ub100
   have hN2:(N:Int)<1000000:=by have:=Hn.out;omega
   have hN0:(0:Int)<=N:=by omega
   have eN:((N:Int)+1)=((N+1:Nat):Int):=by omega
   have EN:=Hd.mk eN
   clear eN
   go_upto_region 5 with (fail)
   refine wp_region_lit ?_
   refine wl_val rfl (.int .i64 (N:Int)) (rfl) ?_
   simp only [Act.put,u1,u2,u3]
   refine wl_val rfl (.int .i64 ((N+1:Nat):Int)) (exec_add 3 _ (.tmp 32) _ (by rfl) N 1 (by rfl) (by rfl) _ (by omega) (by omega) (by omega) _) ?_
   simp only [Act.put,u1,u2,u3]
   refine wl_call rfl 33 _ _ rfl [.int .u8 100,.int .i64 ((N+1:Nat):Int)] rfl (by kernel_rfl) (H69.out) ?_
   rintro e w7 ⟨rfl,hb7⟩
   refine ⟨_,rfl,?_⟩
   have HT7:=Hd.mk (TabR.keep HT1.out hb7.size (fun q hq=>hb7.block q (HT1.out.fl q hq)))
   have HF7:=Hd.mk ((Fr.of_below F HB.out).then_below hb7)
   clear hb7
   simp only [Act.put,u1,u2,u3]
   go_upto_region 6 with (refine wl_storeW rfl 31 _ _ rfl w7.heap.size 0 (vb (mkB 100 (N+1))) rfl rfl 31 _ (vb (mkB 100 (N+1))) (Blk.new w7 31 (List.replicate 16 (.int .u8 0))) (by simp [mkB_len]) i42 (vb_ones _) (by simp [mkB_len]) ?_;intro w8 hr8 hg8 hs8)
   have hRow:Row w8 w7.heap.size 31 (mkB 100 (N+1)):=hr8
   have HT8:=Hd.mk (HT7.out.keep (w':=w8) (by have:=hg8.size;simp at this;omega) (fun q hq=>(hg8.block q (by have:=HT7.out.fl q hq;simp;omega) (fun e=>by injection e with e;have:=HT7.out.fl q hq;omega)).trans (Below.heap_alloc w7 _ q (HT7.out.fl q hq))))
   have HF8:=Hd.mk ((HF7.out.then_below ((Below.refl _ _).alloc (Nat.le_refl _) (.cells (List.replicate 16 (Value.int .u8 0)).toArray 31))).then_grown hg8 (fun q hq=>.inr (by injection hq with hq;have:=HF7.out.size;omega)))
   have hsb:=SB.row hRow (by simp [mkB_len,maxLen])
   have Hsb:=Hd.mk hsb
   have hlF:=HF7.out.size
   clear hr8 hg8 hs8 hsb HF7 hRow
   go_wp2
   go_ret
   rw [Hd1.out]
   refine ⟨_,_,rfl,Hsb.out,⟨_,_,_,_,_,_,_,_,HT8.out⟩,fun q hq=>.inl hq,fun q hq=>hq,HF8.out,fun q hq=>?_⟩
   have hq2:q=w7.heap.size:=by simpa [Value.ownBlock] using hq.symm
   subst hq2
   exact ⟨hlF,fun hq3=>by have:=HT7.out.fl _ hq3;omega⟩
 have hi:idxR l s.sums = -1:=if_neg hhit
 have hsn:s.sumAt l=s.sums.length:=by have h1:s.sumAt l<=s.sums.length:=List.findIdx_le_length;omega
 have Hd1:Hd (s.digest l={ s with sums:=s.sums++[l] }):=⟨if_neg hhit⟩
 rw [hi,hsn]
 clear hi hhit xb
 have Hsn:=Hd.mk hsn
 clear hsn
 go_upto_region 3 with (fail)
 refine pH_begin (n:=12) 9 (fun W=>W.cell? ⟨tb,2,none⟩=some vs/\W.cell? ⟨w.heap.size,0,none⟩=some bv) (by kernel_rfl) rfl ?_
 have HT2:=Hd.mk (HT1.out.keep (w':=w1.drewN 1) (Nat.le_refl _) (fun _ _=>rfl))
 have hS:(w1.drewN 1).cell? ⟨tb,2,none⟩=some vs/\(w1.drewN 1).cell? ⟨w.heap.size,0,none⟩=some bv:=⟨x0,by show w1.cell? _=_;rw [HKk.out.cell];rfl⟩
 have HB2:Hd (Below w.heap.size w (w1.drewN 1)):=⟨below_drewN HB.out 1⟩
 have hlt1:w.heap.size<(w1.drewN 1).heap.size:=hkl
 clear HT1 HB x0 HI
 generalize w1.drewN 1=w2 at *
 refine pV (i:=0) (some 15) (.pointer (some ⟨tb,0,none⟩)) rfl rfl hS (fun _ _=>rfl) ?_
 simp only [Act.put,u1,u2,u3]
 refine pV (i:=1) (some 16) (.pointer (some ⟨tb,0,none⟩)) rfl rfl hS (fun _ _=>rfl) ?_
 simp only [Act.put,u1,u2,u3]
 refine pV (i:=2) (some 17) (.pointer (some ⟨tb,0,none⟩)) rfl rfl hS (by intro W _;simp [go_sem]) ?_
 simp only [Act.put,u1,u2,u3]
 refine pV (i:=3) (some 18) (.pointer (some ⟨tb,2,none⟩)) rfl rfl hS (by intro W _;simp [go_sem]) ?_
 simp only [Act.put,u1,u2,u3]
 refine pV (i:=4) (some 19) (vs) rfl rfl hS (fun W h=>exec_cell _ _ (by rfl) ⟨tb,2,none⟩ _ (by rfl) (agg63 W) h.1) ?_
 simp only [Act.put,u1,u2,u3]
 refine pV (i:=5) (some 20) (bv) rfl rfl hS (fun W h=>exec_cell _ _ (by rfl) ⟨w.heap.size,0,none⟩ _ (by rfl) (agg28 W) h.2) ?_
 simp only [Act.put,u1,u2,u3]
 refine pH_call (i:=6) (some 21) rfl rfl (by kernel_rfl) (by kernel_rfl) 132 _ _ rfl [bv] rfl (by kernel_rfl) (clone_any bv l _ (Hbv.out.below HB2.out) (by omega)) ?_
 rintro e w3 ⟨body,rfl,hob,hb3⟩
 have HT3:=Hd.mk (HT2.out.keep hb3.size (fun q hq=>hb3.block q (HT2.out.fl q hq)))
 have HB3:=Hd.mk (HB2.out.trans (hb3.mono HB2.out.size))
 have hS3:w3.cell? ⟨tb,2,none⟩=some vs/\w3.cell? ⟨w.heap.size,0,none⟩=some bv:=⟨(hb3.cell (p:=⟨tb,2,none⟩) (by show tb<_;omega)).trans hS.1,(hb3.cell (p:=⟨w.heap.size,0,none⟩) hlt1).trans hS.2⟩
 have hs3:=hb3.size
 clear HT2 HB2 hb3 hS
 refine ⟨_,rfl,(fun _=>hS3),?_⟩
 simp only [Act.put,u1,u2,u3]
 have hS4:(w3.alloc (.cells #[body] 24)).cell? ⟨tb,2,none⟩=some vs/\(w3.alloc (.cells #[body] 24)).cell? ⟨w.heap.size,0,none⟩=some bv:=⟨(World.cell?_alloc_lt w3 _ ⟨tb,2,none⟩ (by show tb<_;omega)).trans hS3.1,(World.cell?_alloc_lt w3 _ ⟨w.heap.size,0,none⟩ (by show w.heap.size<_;omega)).trans hS3.2⟩
 refine pH_run (i:=7) (some 22) (.slice (some ⟨w3.heap.size,0,none⟩) 1 1) rfl rfl (by kernel_rfl) (by kernel_rfl) ((exec_bs1 110 24 _ (by rfl) body (.slice none 0 0) 1 (by rfl) tybss ibs1 zbs (by omega) (by omega) rfl (by rw [hob.cells1];rfl) w3).trans (show _=Result.ok _ (w3.alloc (.cells #[body] 24)) by rw [hob.cells1])) (fun _=>hS4) ?_
 simp only [Act.put,u1,u2,u3]
 have HT4:=Hd.mk (HT3.out.keep (w':=w3.alloc (.cells #[body] 24)) (by simp) (fun q hq=>Below.heap_alloc w3 _ q (HT3.out.fl q hq)))
 have hob4:OB (w3.alloc (.cells #[body] 24)) 0 body l:=(OB.mono hob (Nat.zero_le _)).alloc _
 have HB4:=Hd.mk (HB3.out.alloc HB3.out.size (.cells #[body] 24))
 have hbd:∀ q,body.ownBlock=some q->w2.heap.size<=q:=fun q hq=>(hob.own q hq).1
 have hBk:Blk (w3.alloc (.cells #[body] 24)) w3.heap.size 24 [body]:=Blk.new w3 24 [body]
 have hs4:(w3.alloc (.cells #[body] 24)).heap.size=w3.heap.size+1:=by simp
 generalize hg3:w3.heap.size=g3 at *
 generalize w3.alloc (.cells #[body] 24)=w4 at *
 clear hob HT3 HB3 hS3
 refine pH_pushV (i:=8) (some 23) rfl rfl (by kernel_rfl) (by kernel_rfl) (.tmp 19) (.tmp 22) 110 rfl 0 24 1 24 (.slice none 0 0) tybss ibs3 rfl (by omega) vs (sums.map fun v=>[v]) rfl HT4.out.u g3 24 [body] 1 rfl hBk rfl (by intro z hz;simp at hz;subst hz;exact hob4.one) (by rw [Hul.out];omega) (by rw [Hul.out];unfold maxLen;omega) (by omega) ?_
 intro v' w5 hv5 hg5 hat5
 have hxb:∀ q,vs.ownBlock=some q->q<w.heap.size:=fun q hq=>HR.out.fl q (HR.out.fu q hq)
 have hdj:Disj body vs:=own_disj hob4 HT4.out.u.own (by decide)
 have HT5:=Hd.mk (TabR.summed (l:=l) HT4.out hv5 hg5 hob4 hdj)
 have ht5:=HT4.out.t.grown hg5 (fun e=>own_ne HT4.out.u.own HT4.out.t (by decide) tb e.symm rfl)
 have hS5:w5.cell? ⟨tb,2,none⟩=some vs/\w5.cell? ⟨w.heap.size,0,none⟩=some bv:=⟨by have:=ht5.cell 2;exact this,(World.cell?_of_block (a:=⟨w.heap.size,0,none⟩) (hg5.block _ (by show w.heap.size<_;omega) (fun e=>by have:=hxb _ e.symm;simp at this))).trans hS4.2⟩
 have HF5:Hd (Fr F w w5):=⟨(Fr.of_below F HB4.out).then_grown hg5 (fun q hq=>.inl (HR.out.fu q hq))⟩
 have Ht5:=Hd.mk ht5
 have hs5:=hg5.size
 have hat:∀ q,v'.ownBlock=some q->F q∨w.heap.size<=q:=by
   intro q hq
   rcases hat5 with e|e
   · rw [e] at hq;exact .inl (HR.out.fu q hq)
   rw [e] at hq;injection hq with hq;right;omega
 have hv1:v'.oneCell'=true/\v'.cells=#[v']:=by obtain ⟨A,c,e,_⟩:=hv5.form;rw [e];exact ⟨rfl,rfl⟩
 have Hat:=Hd.mk hat
 clear hat hat5 hg5 hS4 ht5 HT4 hv5 hob4 HB4 hBk
 refine ⟨(fun _=>hS5),?_⟩
 simp only [Act.put,u1,u2,u3]
 refine pH_run (i:=9) (some 24) (.pointer (some ⟨tb,0,none⟩)) rfl rfl (by kernel_rfl) (by kernel_rfl) (show _=Result.ok _ w5 by simp [go_sem]) (fun h=>absurd h (by omega)) ?_
 simp only [Act.put,u1,u2,u3]
 refine pH_run (i:=10) (some 25) (.pointer (some ⟨tb,2,none⟩)) rfl rfl (by kernel_rfl) (by kernel_rfl) (show _=Result.ok _ w5 by simp [go_sem]) (fun h=>absurd h (by omega)) ?_
 simp only [Act.put,u1,u2,u3]
 refine pH_runs (i:=11) none rfl rfl (by kernel_rfl) (by kernel_rfl) (exec_storeCell 110 _ _ (by rfl) tb 2 v' (by rfl) (by rfl) 113 _ Ht5.out (by simp) i63 hv1.1 hv1.2) (fun h=>absurd h (by omega)) ?_
 simp only [Act.put]
 refine pH_done (by kernel_rfl) ?_ _
 go_upto_region 4 with (fail)
 have HF6:Hd (Fr F w (w5.setCell ⟨tb,2,none⟩ v')):=⟨⟨HF5.out.os,HF5.out.tape,HF5.out.output,by simpa [World.setCell] using HF5.out.size,fun q hq hF=>(Below.heap_setCell w5 ⟨tb,2,none⟩ v' q (fun e=>hF (e ▸ HR.out.ft))).trans (HF5.out.block q hq hF)⟩⟩
 have hs6:(w5.setCell ⟨tb,2,none⟩ v').heap.size=w5.heap.size:=by simp [World.setCell]
 generalize w5.setCell ⟨tb,2,none⟩ v'=w6 at *
 clear HF5 Ht5 hS5 hv1
 obtain ⟨A,cp,hve,hcp,hcp2⟩:=HT5.out.u.form
 have hkl2:((sums++[body]).map fun v=>[v]).length=s.sums.length+1:=by rw [List.length_map,List.length_append,HR.out.un];rfl
 rw [hkl2] at hve hcp
 unfold maxLen at hcp2
 have x0:=HT5.out.t.cell 2
 rw [hve] at x0
 have x1:w6.cell? ⟨tb,2,none⟩=some (.slice A (s.sums.length+1) cp):=x0
 clear x0 hkl2
 have ub100:ub 100=100:=by simp [ub]
 have H69:=Hd.mk (smark_any 100 (s.sums.length+1) (by omega) w6)
 rw [ub100] at H69
 clear ub100
 refine wp_region_lit ?_
 refine wl_val rfl (.pointer (some ⟨tb,0,none⟩)) (rfl) ?_
 simp only [Act.put,u1,u2,u3]
 refine wl_val rfl (.pointer (some ⟨tb,0,none⟩)) (by simp [go_sem]) ?_
 simp only [Act.put,u1,u2,u3]
 refine wl_val rfl (.pointer (some ⟨tb,2,none⟩)) (by simp [go_sem]) ?_
 simp only [Act.put,u1,u2,u3]
 refine wl_val rfl (.slice A (s.sums.length+1) cp) (exec_cell _ _ (by rfl) ⟨tb,2,none⟩ _ (by rfl) (agg63 _) x1) ?_
 simp only [Act.put,u1,u2,u3]
 refine wl_val rfl (.int .i64 ((s.sums.length+1:Nat):Int)) (by simp [go_sem]) ?_
 simp only [Act.put,u1,u2,u3]
 refine wl_val rfl (.int .i64 (s.sums.length:Int)) (exec_sub 3 _ (.tmp 30) _ (by rfl) ((s.sums.length+1:Nat):Int) 1 (by rfl) (by rfl) _ (by omega) (by omega) (by omega) _) ?_
 simp only [Act.put,u1,u2,u3]
 go_upto_region 5 with (fail)
 refine wp_region_lit ?_
 refine wl_val rfl (.int .i64 (s.sums.length:Int)) (rfl) ?_
 simp only [Act.put,u1,u2,u3]
 refine wl_val rfl (.int .i64 ((s.sums.length+1:Nat):Int)) (exec_add 3 _ (.tmp 32) _ (by rfl) s.sums.length 1 (by rfl) (by rfl) _ (by omega) (by omega) (by omega) _) ?_
 simp only [Act.put,u1,u2,u3]
 refine wl_call rfl 33 _ _ rfl [.int .u8 100,.int .i64 ((s.sums.length+1:Nat):Int)] rfl (by kernel_rfl) (H69.out) ?_
 rintro e w7 ⟨rfl,hb7⟩
 refine ⟨_,rfl,?_⟩
 have HT7:=Hd.mk (TabR.keep HT5.out hb7.size (fun q hq=>hb7.block q (HT5.out.fl q hq)))
 have HF7:=Hd.mk (HF6.out.then_below hb7)
 have hs7:=hb7.size
 have hF5:∀ q,(F q∨v'.ownBlock=some q∨body.ownBlock=some q)->F q∨w.heap.size<=q:=fun q hq=>by
   rcases hq with hq|hq|hq
   · exact .inl hq
   · exact Hat.out q hq
   exact .inr (by have:=hbd q hq;omega)
 clear HF6 hb7 x1
 simp only [Act.put,u1,u2,u3]
 go_upto_region 6 with (refine wl_storeW rfl 31 _ _ rfl w7.heap.size 0 (vb (mkB 100 (s.sums.length+1))) rfl rfl 31 _ (vb (mkB 100 (s.sums.length+1))) (Blk.new w7 31 (List.replicate 16 (.int .u8 0))) (by simp [mkB_len]) i42 (vb_ones _) (by simp [mkB_len]) ?_;intro w8 hr8 hg8 hs8)
 have hRow:Row w8 w7.heap.size 31 (mkB 100 (s.sums.length+1)):=hr8
 have HT8:=Hd.mk (HT7.out.keep (w':=w8) (by have:=hg8.size;simp at this;omega) (fun q hq=>(hg8.block q (by have:=HT7.out.fl q hq;simp;omega) (fun e=>by injection e with e;have:=HT7.out.fl q hq;omega)).trans (Below.heap_alloc w7 _ q (HT7.out.fl q hq))))
 have HF8:=Hd.mk ((HF7.out.then_below ((Below.refl _ _).alloc (Nat.le_refl _) (.cells (List.replicate 16 (Value.int .u8 0)).toArray 31))).then_grown hg8 (fun q hq=>.inr (by injection hq with hq;have:=HF7.out.size;omega)))
 have hsb:=SB.row hRow (by simp [mkB_len,maxLen])
 have Hsb:=Hd.mk hsb
 have hlF:=HF7.out.size
 clear hr8 hg8 hs8 hsb HF7 hRow
 go_wp2
 go_ret
 rw [Hd1.out,Hsn.out]
 refine ⟨_,_,rfl,Hsb.out,⟨_,_,_,_,_,_,_,_,HT8.out⟩,hF5,fun q hq=>.inl hq,HF8.out,fun q hq=>?_⟩
 have hq2:q=w7.heap.size:=by simpa [Value.ownBlock] using hq.symm
 subst hq2
 exact ⟨hlF,fun hq3=>by have:=HT7.out.fl _ hq3;omega⟩
end
section
open Go.RowKit Go.QT
def NPost(w:World)(e:Ending)(w':World):Prop:=
 ∃ tb F,e=.returned (.pointer (some ⟨tb,0,none⟩))/\TabAt w' F tb STab.empty/\(∀ q,F q->w.heap.size<=q)/\Below w.heap.size w w'
theorem empty_tab(w:World):TabAt ((w.alloc (.map #[] 0)).alloc (.cells #[.slice none 0 0,.slice none 0 0,.slice none 0 0,.map (some w.heap.size)] 113)) (fun q=>q=w.heap.size∨q=w.heap.size+1) (w.heap.size+1) STab.empty:=by
 refine ⟨w.heap.size,.slice none 0 0,.slice none 0 0,.slice none 0 0,[],[],#[],0,?_⟩
 refine { t:=new2 w _ 113 _,k:=OV.nil _ _ _ _,kl:=by simp [STab.empty],x:=OV.nil _ _ _ _,xn:=rfl,xl:=by simp [STab.empty],xb:=by simp [STab.empty],u:=OV.nil _ _ _ _,un:=rfl,ub:=by simp [STab.empty],m:=?_,me:=by simp [STab.empty],ml:=by simp [STab.empty],ft:=.inr rfl,fm:=.inl rfl,fk:=by simp [Value.ownBlock],fx:=by simp [Value.ownBlock],fu:=by simp [Value.ownBlock],fl:=?_ }
 · rw [Below.heap_alloc _ _ _ (by simp)]
   exact heap_alloc_new w _
 intro q hq
 rcases hq with rfl|rfl <;> simp <;> omega
theorem snew_any(w:World):Calls Tryz.prog 24 #[] w (NPost w):=by
 have hmm:=@run_makeMap Tryz.prog
 have h1:∀ W,(Instr.makeMap 111 none).run Tryz.prog W=.ok (.map (some W.heap.size)) (W.alloc (.map #[] 0)):=fun W=>rfl
 have H1:=Hd.mk h1
 have hb:∀ (g:Nat) W,(Instr.build 113 #[(3,.map (some g))]).run Tryz.prog W=.ok (.agg #[.slice none 0 0,.slice none 0 0,.slice none 0 0,.map (some g)]) W:=fun g W=>by kernel_rfl
 have Hb:=Hd.mk hb
 clear hmm h1 hb
 go_enter Tryz.func24,Tryz.ntmps24
 go_upto_region 1 with (fail)
 refine wp_region_lit ?_
 refine wl_run rfl (.map (some w.heap.size)) (show _=Result.ok _ (w.alloc (.map #[] 0)) by kernel_rfl) ?_
 simp only [Act.put,u1,u2,u3]
 refine wl_val rfl (.agg #[.slice none 0 0,.slice none 0 0,.slice none 0 0,.map (some w.heap.size)]) (by kernel_rfl) ?_
 simp only [Act.put,u1,u2,u3]
 refine wl_run rfl (.pointer (some ⟨w.heap.size+1,0,none⟩)) (show _=Result.ok _ ((w.alloc (.map #[] 0)).alloc (.cells #[.slice none 0 0,.slice none 0 0,.slice none 0 0,.map (some w.heap.size)] 113)) by simp [go_sem]) ?_
 simp only [Act.put,u1,u2,u3]
 go_wp2
 go_ret
 exact ⟨_,_,rfl,empty_tab w,fun q hq=>by rcases hq with rfl|rfl <;> omega,((Below.refl _ _).alloc (Nat.le_refl _) _).alloc (by simp) _⟩
end
section
open Go.RowKit Go.QT
def rTab(F:Nat->Prop)(tb:Nat)(s:STab):Res where
 F:=F
 Φ:=fun w=>TabAt w F tb s
 lt:=fun h=>h.lt
 keep:=fun h hs hk=>h.keep hs hk
section
variable{F0 F:Nat->Prop}{w0 w w':World}{ro rs:List Res}{tb:Nat}{s s':STab}{P:Program}{o:Oper}{a:Act}{v:Value}{e:Ending}
theorem Hp.tab(h:Hp F0 w0 w ro rs)(i:Nat)(hi:rs[i]?=some (rTab F tb s))(hp:TPost w F tb s' v e w'):e=.returned v/\∃ F',Hp F0 w0 w' ro (rs.set i (rTab F' tb s')):=by
 obtain ⟨he,F',hT,h1,_,hf⟩:=hp
 exact ⟨he,F',h.upd i hi hf (rTab F' tb s') hT h1⟩
/-- A call of a method that may turn the table. -/
theorem x_tab(h:Hp F0 w0 w ro rs)(i:Nat)(hi:rs[i]?=some (rTab F tb s))(fn:FuncId)(al:List Value)(hp:pureVal P (execOp a.eval o)=some (.enter fn al.toArray))
   (hc:TabAt w F tb s->Calls P fn al.toArray w (TPost w F tb s' v)):OpTo P o a w (fun u w'=>u=v/\∃ F',Hp F0 w0 w' ro (rs.set i (rTab F' tb s'))):=
 OpTo.enter fn al hp (hc (h.own i _ hi)) fun e w' hq=>by
   obtain ⟨he,h'⟩:=h.tab i hi hq
   exact ⟨v,he,rfl,h'⟩
end
end
section
open Go.RowKit Go.QT
noncomputable def look (x:Nat → Value) (l:List (Nat × Value)) (i:Nat):Value:=
 List.rec (x i) (fun p _ ih=>bif Nat.beq p.1 i then p.2 else ih) l
noncomputable def frL (f:Nat → Value) (n:Nat):Nat → List Value:=
 Nat.rec (fun _=>[]) (fun _ ih i=>f i::ih (i+1)) n
noncomputable def patch (x:Nat → Value) (n:Nat) (l:List (Nat × Value)):Act:={ tmps:=(frL (look x l) n 0).toArray,defers:=[] }
theorem frL_get(f:Nat → Value):∀ (n k i:Nat),(frL f n k)[i]?=if i<n then some (f (k+i)) else none
 | 0,k,i=>by show ([]:List Value)[i]?=_;simp
 | n+1,k,0=>by show (f k::frL f n (k+1))[0]?=_;simp
 | n+1,k,i+1=>by
   have h:=frL_get f n (k+1) i
   show (f k::frL f n (k+1))[i+1]?=_
   rw [List.getElem?_cons_succ,h]
   by_cases hi:i<n
   · rw [if_pos hi,if_pos (by omega)];congr 2;omega
   rw [if_neg hi,if_neg (by omega)]
theorem look_dead(x:Nat → Value)(l:List (Nat × Value))(h:l.map (fun p=>x p.1)=l.map (·.2))(i:Nat):look x l i=x i:=by
 induction l with
 | nil=>rfl
 | cons p l ih =>
   simp only [List.map_cons,List.cons.injEq] at h
   show (bif Nat.beq p.1 i then p.2 else look x l i)=x i
   cases hb:Nat.beq p.1 i with
   | true=>have:=Nat.eq_of_beq_eq_true hb;subst this;exact h.1.symm
   | false=>exact ih h.2
theorem patch_eq(a:Act)(n:Nat)(l:List (Nat × Value))(hs:a.tmps.size=n)(hd:a.defers=[])(h:l.map (fun p=>dead a p.1)=l.map (·.2)):a=patch (dead a) n l:=by
 obtain ⟨tmps,defers⟩:=a
 simp only at hs hd
 subst hd
 unfold patch
 congr 1
 apply Array.ext'
 apply List.ext_getElem?
 intro i
 rw [frL_get,Nat.zero_add,look_dead _ _ h]
 by_cases hi:i<n
 · rw [if_pos hi]
   simp [dead,hs,hi]
 rw [if_neg hi]
 simp [hs];omega
theorem wp_reset{P:Program}{Q:Exit → Act → World → Prop}{a:Act}{w:World}{c:Code}(n:Nat)(l:List (Nat × Value))(k:∀ x,c.wp P Q (patch x n l) w)(hs:a.tmps.size=n:=by kernel_rfl)(hd:a.defers=[]:=by kernel_rfl)(h:l.map (fun p=>dead a p.1)=l.map (·.2):=by kernel_rfl):c.wp P Q a w:=by
 have:=k (dead a)
 rwa [← patch_eq a n l hs hd h] at this
/-! ### Steps that keep the frame so -/
def putL:Option Nat → Value → List (Nat × Value) → List (Nat × Value)
 | some d,v,l=>(d,v)::l
 | none,_,l=>l
def okD(n:Nat):Option Nat → Bool
 | some d=>decide (d<n)
 | none=>true
theorem put_patch(x:Nat → Value)(n:Nat)(l:List (Nat × Value))(d:Option Nat)(v:Value)(h:okD n d=true):(patch x n l).put d v=patch x n (putL d v l):=by
 cases d with
 | none=>rfl
 | some d =>
   have hd:d<n:=of_decide_eq_true h
   show ({ tmps:=(patch x n l).tmps.setIfInBounds d v,defers:=_ }:Act)=_
   unfold patch
   congr 1
   apply Array.ext'
   simp only [Array.toList_setIfInBounds]
   apply List.ext_getElem?
   intro i
   rw [List.getElem?_set,frL_get,frL_get,Nat.zero_add]
   have hlen:(frL (look x l) n 0).length=n:=by
     have h1:=frL_get (look x l) n 0 n
     have h2:n ≤ (frL (look x l) n 0).length∨(frL (look x l) n 0).length<n:=by omega
     rcases h2 with h2|h2
     · rw [if_neg (Nat.lt_irrefl n)] at h1
       have:=List.getElem?_eq_none_iff.1 h1
       omega
     have h3:=frL_get (look x l) n 0 (frL (look x l) n 0).length
     rw [if_pos h2,List.getElem?_eq_none (Nat.le_refl _)] at h3
     cases h3
   show _=if i<n then some (bif Nat.beq d i then v else look x l i) else none
   by_cases e:d=i
   · subst e
     rw [if_pos rfl,if_pos (by rw [hlen];exact hd),if_pos hd,Nat.beq_refl];rfl
   rw [if_neg e]
   have:Nat.beq d i=false:=by
     cases hb:Nat.beq d i with
     | false=>rfl
     | true=>exact absurd (Nat.eq_of_beq_eq_true hb) e
   rw [this];rfl
noncomputable def evP (x:Nat → Value) (n:Nat) (e:List (Nat × Value)):Operand → Value
 | .tmp i=>bif Nat.blt i n then look x e i else undef
 | y=>(patch x 0 []).eval y
theorem patch_get(x:Nat → Value)(n:Nat)(e:List (Nat × Value))(i:Nat):(patch x n e).tmps[i]?=if i<n then some (look x e i) else none:=by
 show (frL (look x e) n 0).toArray[i]?=_
 rw [List.getElem?_toArray,frL_get,Nat.zero_add]
theorem blt_dec(i n:Nat):Nat.blt i n=decide (i<n):=by
 cases h:Nat.blt i n with
 | true=>exact (decide_eq_true (by rw [Nat.blt_eq] at h;exact h)).symm
 | false=>exact (decide_eq_false (fun hh=>by rw [← Nat.blt_eq,h] at hh;cases hh)).symm
theorem eval_patch(x:Nat → Value)(n:Nat)(e:List (Nat × Value)):(patch x n e).eval=evP x n e:=by
 funext y
 cases y with
 | tmp i =>
   show (patch x n e).tmps.getD i undef=bif Nat.blt i n then look x e i else undef
   rw [Array.getD_eq_getD_getElem?,patch_get,blt_dec]
   by_cases h:i<n <;> simp [h]
 | _=>rfl
noncomputable def yieldP (ops:Array Oper) (x:Nat → Value) (n:Nat) (e:List (Nat × Value)) (j:Nat):Option Bool:=
 match (ops[j]?).bind (·.dst) with
 | some d=>if Nat.blt d n then (match look x e d with | .bool b=>some b|_=>none) else none
 | none=>none
theorem yield_patch(ops:Array Oper)(x:Nat → Value)(n:Nat)(e:List (Nat × Value)):yielded ops (patch x n e).tmps=yieldP ops x n e:=by
 funext j
 unfold yielded yieldP
 cases hd:(ops[j]?).bind (·.dst) with
 | none=>rfl
 | some d =>
   show (match (patch x n e).tmps[d]? with|some (.bool b)=>some b|_=>none)=(if Nat.blt d n=true then (match look x e d with | .bool b=>some b|_=>none) else none)
   rw [patch_get,blt_dec]
   by_cases h:d<n
   · simp only [h,if_true,decide_true]
     cases look x e d <;> rfl
   simp [h]
noncomputable def pureE (P:Program) (o:Oper) (ev:Operand → Value):Option Value:=
 match pureVal P (execOp ev o) with
 | some (.value v)=>some v
 | _=>none
theorem pureE_eq(P:Program)(o:Oper)(x:Nat → Value)(n:Nat)(e:List (Nat × Value)):pureE P o (evP x n e)=pureOp P o (patch x n e):=by
 unfold pureE pureOp;rw [eval_patch] <;> rfl
noncomputable def runP (P:Program) (ops:Array Oper) (x:Nat → Value) (n:Nat):Nat → List Oper → List (Nat × Value) → Option (List Oper × List (Nat × Value))
 | 0,l,e=>some (l,e)
 | _+1,[],_=>none
 | k+1,o::l,e =>
   if okD n o.dst then
     if Region.wanted o (yieldP ops x n e) then
       match pureE P o (evP x n e) with
       | some v=>runP P ops x n k l (putL o.dst v e)
       | none=>none
     else runP P ops x n k l (putL o.dst undef e)
   else none
section
variable{P:Program}{ops:Array Oper}{rest l l':List Oper}{o:Oper}{w w':World}{Q:Exit → Act → World → Prop}{R:Value → World → Prop}{x:Nat → Value}{n:Nat}{e:List (Nat × Value)}
theorem wq_pr:∀ (k:Nat) (l:List Oper) (e:List (Nat × Value)) (l':List Oper) (e':List (Nat × Value)),runP P ops x n k l e=some (l',e') → wpList P ops Q l' (patch x n e') w → wpList P ops Q l (patch x n e) w
 | 0,l,e,l',e',h,k=>by simp only [runP,Option.some.injEq,Prod.mk.injEq] at h;obtain ⟨rfl,rfl⟩:=h;exact k
 | _+1,[],_,_,_,h,_=>by simp [runP] at h
 | m+1,o::l,e,l',e',h,k=>by
   unfold runP at h
   split at h
   · rename_i hd
     split at h
     · rename_i hw
       rw [← yield_patch] at hw
       split at h
       · rename_i v hv
         rw [pureE_eq] at hv
         refine wpList_step fun K hK=>?_
         rw [if_pos hw]
         unfold Oper.wp
         rw [pureOp_run hv]
         refine hK _ _ ?_
         rw [put_patch _ _ _ _ _ hd]
         exact wq_pr m l _ l' e' h k
       cases h
     rename_i hw
     rw [← yield_patch] at hw
     refine wpList_step fun K hK=>?_
     rw [if_neg hw]
     refine hK _ _ ?_
     rw [put_patch _ _ _ _ _ hd]
     exact wq_pr m l _ l' e' h k
   cases h
theorem wq_p(k:Nat)(vs:List (Nat × Value))(hk:WL P ops Q (l.drop k) (patch x n (vs++e)) w)(h:runP P ops x n k l e=some (l.drop k,vs++e):=by kernel_rfl):WL P ops Q l (patch x n e) w:=
 ⟨wq_pr k l e _ _ h hk.run⟩
theorem wq_to(d:Option Nat)(h:OpTo P o (patch x n e) w R)(k:∀ v w',R v w' → WL P ops Q rest (patch x n (putL d v e)) w')(hd:o.dst=d:=by kernel_rfl)(ho:okD n d=true:=by kernel_rfl)(hw:Region.wanted o (yieldP ops x n e)=true:=by kernel_rfl):WL P ops Q (o::rest) (patch x n e) w:=by
 subst hd
 rw [← yield_patch] at hw
 exact wl_to hw h fun v w' hr=>by rw [put_patch _ _ _ _ _ ho];exact k v w' hr
theorem wq_v(d:Option Nat)(v:Value)(hv:(execOp (patch x n e).eval o).run P w=.ok (.value v) w)(k:WL P ops Q rest (patch x n (putL d v e)) w)(hd:o.dst=d:=by kernel_rfl)(ho:okD n d=true:=by kernel_rfl)(hw:Region.wanted o (yieldP ops x n e)=true:=by kernel_rfl):WL P ops Q (o::rest) (patch x n e) w:=by
 subst hd
 rw [← yield_patch] at hw
 exact wl_v hw v hv (by rw [put_patch _ _ _ _ _ ho];exact k)
/-! ### Regions that draw -/
noncomputable def freeP (P:Program) (md:Region.Mode) (ops:Array Oper) (p:Nat) (x:Nat → Value) (n:Nat):List Nat → Array Bool → List (Nat × Value) → Option (List (Nat × Value))
 | [],_,e=>some e
 | i::r,L,e =>
   match ops[i]? with
   | none=>none
   | some o =>
     if (decide (i<p) && okD n o.dst && (Region.ready md ops L).contains i && Region.free md ops L i) then
       if Region.wanted o (yieldP ops x n e) then
         match pureE P o (evP x n e) with
         | some v=>freeP P md ops p x n r (L.setIfInBounds i true) (putL o.dst v e)
         | none=>none
       else freeP P md ops p x n r (L.setIfInBounds i true) (putL o.dst undef e)
     else none
variable{md:Region.Mode}{S:World → Prop}{p:Nat}{L:Array Bool}
theorem pQ_pr(hs:Region.noSelect ops=true)(hph:phaseB md ops p=true)(hQ:∀ c d v a w,Q (.panic c) (Act.put a d v) w → Q (.panic c) a w)(hS:S w)(f:Nat) :
   ∀ (is:List Nat) (L:Array Bool) (e e':List (Nat × Value)),freeP P md ops p x n is L e=some e' → wpAnyT P md ops Q S p f (marks L is) (patch x n e') w → wpAnyT P md ops Q S p (f+is.length) L (patch x n e) w
 | [],L,e,e',h,k=>by simp only [freeP,Option.some.injEq] at h;subst h;exact k
 | i::r,L,e,e',h,k=>by
   unfold freeP at h
   split at h
   · cases h
   rename_i o ho
   split at h
   · rename_i hc
     simp only [Bool.and_eq_true,decide_eq_true_eq] at hc
     obtain ⟨⟨⟨hip,hok⟩,hr⟩,hf⟩:=hc
     split at h
     · rename_i hw
       rw [← yield_patch] at hw
       split at h
       · rename_i v hv
         rw [pureE_eq] at hv
         exact pH_val o.dst v ho rfl hs hf hr hph (decide_eq_true hip) hQ hw hS (fun W _=>pureOp_run hv W) (by rw [put_patch _ _ _ _ _ hok];exact pQ_pr hs hph hQ hS f r _ _ e' h k)
       cases h
     rename_i hw
     rw [← yield_patch] at hw
     exact pH_skip o.dst ho rfl hs hf hr hph (decide_eq_true hip) hQ (by simpa using hw) hS (by rw [put_patch _ _ _ _ _ hok];exact pQ_pr hs hph hQ hS f r _ _ e' h k)
   cases h
theorem pQ_v{f:Nat}(i:Nat)(d:Option Nat)(v:Value)(L':Array Bool)(hL:marks L [i]=L')(hi:ops[i]?=some o)(hd:o.dst=d)(hok:okD n d=true)(hs:Region.noSelect ops=true)(hf:Region.free md ops L i=true)(hr:(Region.ready md ops L).contains i=true)
   (hph:phaseB md ops p=true) (hip:decide (i<p)=true) (hQ:∀ c d v a w,Q (.panic c) (Act.put a d v) w → Q (.panic c) a w) (hw:Region.wanted o (yieldP ops x n e)=true) (hS:S w)
   (hv:∀ W,S W → (execOp (patch x n e).eval o).run P W=.ok (.value v) W) (k:wpAnyT P md ops Q S p f L' (patch x n (putL d v e)) w):wpAnyT P md ops Q S p (f+1) L (patch x n e) w:=by
 rw [← put_patch _ _ _ _ _ hok] at k
 rw [← yield_patch] at hw
 exact pH_v i d v L' hL hi hd hs hf hr hph hip hQ hw hS hv k
theorem pQ_to{f:Nat}(i:Nat)(d:Option Nat)(L':Array Bool)(hL:marks L [i]=L')(hi:ops[i]?=some o)(hd:o.dst=d)(hok:okD n d=true)(hr:Region.ready md ops L=[i])(hw:Region.wanted o (yieldP ops x n e)=true)
   (h:OpTo P o (patch x n e) w R) (k:∀ v w',R v w' → (i<p → S w') ∧ wpAnyT P md ops Q S p f L' (patch x n (putL d v e)) w'):wpAnyT P md ops Q S p (f+1) L (patch x n e) w:=
 pH_to i d L' hL hi hd hr (by rw [yield_patch];exact hw) h fun v w' hr=>by rw [put_patch _ _ _ _ _ hok];exact k v w' hr
theorem pQ_op{f:Nat}(i:Nat)(d:Option Nat)(L':Array Bool)(hL:marks L [i]=L')(hi:ops[i]?=some o)(hd:o.dst=d)(hok:okD n d=true)(hw:Region.wanted o (yieldP ops x n e)=true)
   (h:OpTo P o (patch x n e) w R) (k:∀ v w',R v w' → (i<p → S w') ∧ wpAnyT P md ops Q S p f L' (patch x n (putL d v e)) w') :
   wpOp P ops Q i (fun a' w'=>(i<p → S w') ∧ wpAnyT P md ops Q S p f (L.setIfInBounds i true) a' w') (patch x n e) w:=
 pH_op i d L' hL hi hd (by rw [yield_patch];exact hw) h fun v w' hr=>by rw [put_patch _ _ _ _ _ hok];exact k v w' hr
theorem eq_is{v u:Value}(h:pureE P o (evP x n e)=some v)(hv:v=u){W:World}:(execOp (patch x n e).eval o).run P W=.ok (.value u) W:=
 e_is (by rw [← pureE_eq];exact h) hv
end
theorem eqI{P:Program}{o:Oper}{x:Nat → Value}{n:Nat}{e:List (Nat × Value)}{u:Value}(v:Value)(hv:v=u){W:World}(h:pureE P o (evP x n e)=some v:=by kernel_rfl):(execOp (patch x n e).eval o).run P W=.ok (.value u) W:=eq_is h hv
theorem pEq{a:Act}{l:List (Nat × Value)}(n:Nat)(hs:a.tmps.size=n:=by kernel_rfl)(hd:a.defers=[]:=by kernel_rfl)(h:l.map (fun p=>dead a p.1)=l.map (·.2):=by kernel_rfl):a=patch (dead a) n l:=patch_eq a n l hs hd h
theorem wT{P:Program}{ops:Array Oper}{rest:List Oper}{o:Oper}{w:World}{Q:Exit → Act → World → Prop}{R:Value → World → Prop}{x:Nat → Value}{n:Nat}{e:List (Nat × Value)}(d:Nat)(h:OpTo P o (patch x n e) w R)(k:∀ v w',R v w' → WL P ops Q rest (patch x n (putL (some d) v e)) w')(hd:o.dst=some d:=by kernel_rfl)(ho:okD n (some d)=true:=by kernel_rfl)(hw:Region.wanted o (yieldP ops x n e)=true:=by kernel_rfl):WL P ops Q (o::rest) (patch x n e) w:=wq_to (some d) h k hd ho hw
theorem wV{P:Program}{ops:Array Oper}{rest:List Oper}{o:Oper}{w:World}{Q:Exit → Act → World → Prop}{x:Nat → Value}{n:Nat}{e:List (Nat × Value)}(d:Nat)(v:Value)(hv:(execOp (patch x n e).eval o).run P w=.ok (.value v) w)(k:WL P ops Q rest (patch x n (putL (some d) v e)) w)(hd:o.dst=some d:=by kernel_rfl)(ho:okD n (some d)=true:=by kernel_rfl)(hw:Region.wanted o (yieldP ops x n e)=true:=by kernel_rfl):WL P ops Q (o::rest) (patch x n e) w:=wq_v (some d) v hv k hd ho hw
end
section
open Go.RowKit Go.QT
def fmask(l:List Nat):Nat:=l.foldl (fun m d=>m ||| (1 <<< d)) 0
theorem bit1(d i:Nat):Nat.testBit (1 <<< d) i=decide (d=i):=by
 rw [Nat.one_shiftLeft,Nat.testBit_two_pow]
theorem fmask_go(l:List Nat):∀ (m i:Nat),Nat.testBit (l.foldl (fun m d=>m ||| (1 <<< d)) m) i=(Nat.testBit m i || l.contains i):=by
 induction l with
 | nil=>intro m i;simp
 | cons d l ih =>
   intro m i
   rw [List.foldl_cons,ih,Nat.testBit_or,bit1,List.contains_cons,Bool.or_assoc]
   congr 2
   rw [Bool.eq_iff_iff,decide_eq_true_eq,beq_iff_eq];exact eq_comm
theorem fmask_bit(l:List Nat)(i:Nat):Nat.testBit (fmask l) i=l.contains i:=by unfold fmask;rw [fmask_go];simp
def edgesOf(md:Region.Mode)(o:Oper):List Nat:=o.after.toList.filterMap fun e=>if Region.binds md e then some e.on else none
def memN(i:Nat):List Nat->Bool
 | []=>false
 | d::l=>Nat.beq d i || memN i l
theorem memN_eq(i:Nat):∀ l:List Nat,memN i l=l.contains i
 | []=>rfl
 | d::l=>by
   rw [List.contains_cons,memN,memN_eq i l]
   congr 1
   rw [Bool.eq_iff_iff,beq_iff_eq]
   exact ⟨fun h=>(Nat.eq_of_beq_eq_true h).symm,fun h=>by subst h;exact Nat.beq_refl _⟩
def sumO(md:Region.Mode)(ops:Array Oper)(o:Oper):Nat × List Nat × Nat:=(match o.dst with|some d=>d+1|none=>0,o.looksAt ops,fmask (edgesOf md o))
def sumOf(md:Region.Mode)(ops:Array Oper):List (Nat × List Nat × Nat):=ops.toList.map (sumO md ops)
def apS(x y:Nat × List Nat × Nat):Bool:=
 (match x.1 with|0=>true|d+1=>!(memN d y.2.1) && !(Nat.beq y.1 (d+1))) && (match y.1 with|0=>true|d+1=>!(memN d x.2.1))
def goF(x:Nat × List Nat × Nat)(M i:Nat):List (Nat × List Nat × Nat)->Nat->Bool
 | [],_=>true
 | y::r,j=>(Nat.beq j i || Nat.testBit M j || Nat.testBit y.2.2 i || apS x y) && goF x M i r (j+1)
def freeS(sm:List (Nat × List Nat × Nat))(M i:Nat):Bool:=match sm[i]? with|none=>false|some x=>goF x M i sm 0
def rdyY(M i:Nat)(y:Nat × List Nat × Nat):Bool:=!(Nat.testBit M i) && Nat.beq (y.2.2 &&& M) y.2.2
def rdyS(sm:List (Nat × List Nat × Nat))(M i:Nat):Bool:=match sm[i]? with|none=>false|some y=>rdyY M i y
def goR(M:Nat):List (Nat × List Nat × Nat)->Nat->List Nat
 | [],_=>[]
 | y::r,j=>if rdyY M j y then j::goR M r (j+1) else goR M r (j+1)
theorem ap_of(md:Region.Mode)(ops:Array Oper)(x y:Oper)(h:apS (sumO md ops x) (sumO md ops y)=true):x.apart ops y=true:=by
 unfold apS sumO at h
 unfold Oper.apart
 simp only at h
 cases hx:x.dst <;> cases hy:y.dst <;> simp only [hx,hy,memN_eq,Bool.and_eq_true,Bool.true_and,Bool.and_true] at h ⊢ <;> try trivial
 rename_i d d'
 refine ⟨⟨h.1.1,?_⟩,h.2⟩
 have h2:=h.1.2
 simp only [Bool.not_eq_true'] at h2
 have h3:d'+1≠d+1:=Nat.ne_of_beq_eq_false h2
 have hne:d'≠d:=fun e=>h3 (by rw [e])
 simpa using hne
theorem gofall(x:Nat × List Nat × Nat)(M i:Nat):∀ (sm:List (Nat × List Nat × Nat)) (k:Nat),goF x M i sm k=true->∀ j y,sm[j]?=some y->(Nat.beq (k+j) i || Nat.testBit M (k+j) || Nat.testBit y.2.2 i || apS x y)=true
 | [],_,_,j,y,hy=>by simp at hy
 | z::r,k,h,j,y,hy=>by
   unfold goF at h
   rw [Bool.and_eq_true] at h
   cases j with
   | zero=>simp at hy;subst hy;exact h.1
   | succ j =>
     have:=gofall x M i r (k+1) h.2 j y (by simpa using hy)
     rwa [show k+1+j=k+(j+1) by omega] at this
theorem bl_getD(n M i:Nat)(b:Bool):(bl n M).getD i b=if i<n then Nat.testBit M i else b:=by
 rw [Array.getD_eq_getD_getElem?]
 unfold bl
 rw [List.getElem?_toArray,List.getElem?_map]
 by_cases h:i<n
 · rw [List.getElem?_range h];simp [h]
 rw [List.getElem?_eq_none (by simpa using h)];simp [h]
theorem sum_get{md:Region.Mode}{ops:Array Oper}{sm:List (Nat × List Nat × Nat)}(hs:sumOf md ops=sm)(i:Nat):sm[i]?=(ops[i]?).map (sumO md ops):=by
 subst hs;unfold sumOf;rw [List.getElem?_map,Array.getElem?_toList]
theorem free_of{md:Region.Mode}{ops:Array Oper}{sm:List (Nat × List Nat × Nat)}{N M i:Nat}(hs:sumOf md ops=sm)(hn:ops.size=N)(h:freeS sm M i=true):Region.free md ops (bl N M) i=true:=by
 unfold freeS at h
 rw [sum_get hs] at h
 unfold Region.free
 cases ho:ops[i]? with
 | none=>rw [ho] at h;cases h
 | some oi =>
   rw [ho] at h
   simp only [Option.map_some] at h
   simp only
   rw [List.all_eq_true]
   intro j hj
   have hj:=List.mem_range.1 hj
   have hoj:ops[j]?=some ops[j]:=Array.getElem?_eq_getElem hj
   have h2:=gofall _ M i sm 0 h j (sumO md ops ops[j]) (by rw [sum_get hs,hoj];rfl)
   rw [Nat.zero_add] at h2
   rw [bl_getD,if_pos (by omega),hoj]
   simp only [Bool.or_eq_true] at h2 ⊢
   rcases h2 with ((h2|h2)|h2)|h2
   · left;left;simpa using Nat.eq_of_beq_eq_true h2
   · left;right;exact h2
   · right;left
     have h3:(edgesOf md ops[j]).contains i=true:=by rw [← fmask_bit];exact h2
     have h4:i ∈ edgesOf md ops[j]:=by simpa using h3
     unfold edgesOf at h4
     rw [List.mem_filterMap] at h4
     obtain ⟨e,he,hi⟩:=h4
     split at hi
     · rename_i hb
       injection hi with hi
       rw [Array.any_eq_true']
       exact ⟨e,by simpa using he,by rw [hb,Bool.true_and];simpa using hi⟩
     cases hi
   right;right;exact ap_of md ops _ _ h2
theorem and_self_iff(m M:Nat):Nat.beq (m &&& M) m=true↔∀ i,Nat.testBit m i=true->Nat.testBit M i=true:=by
 constructor
 · intro h i hi
   have e:=Nat.eq_of_beq_eq_true h
   have:=congrArg (fun z=>Nat.testBit z i) e
   simp only [Nat.testBit_and,hi,Bool.true_and] at this
   exact this
 intro h
 have e:m &&& M=m:=by
   apply Nat.eq_of_testBit_eq
   intro i
   rw [Nat.testBit_and]
   cases hm:Nat.testBit m i with
   | false=>rfl
   | true=>rw [h i hm];rfl
 rw [e];exact Nat.beq_refl m
theorem rdy_of{md:Region.Mode}{ops:Array Oper}{N M i:Nat}(hn:ops.size=N)(hM:M<2 ^ N)(hi:i<N) :
   (!(bl N M).getD i true && ((ops[i]?).map (·.after.all fun e=>!Region.binds md e || (bl N M).getD e.on false)).getD false)=rdyY M i (sumO md ops (ops[i]'(by omega))):=by
 have ho:ops[i]?=some ops[i]:=Array.getElem?_eq_getElem (by omega)
 rw [bl_getD,if_pos hi,ho]
 unfold rdyY
 congr 1
 simp only [Option.map_some,Option.getD_some]
 rw [Bool.eq_iff_iff,and_self_iff,Array.all_eq_true']
 constructor
 · intro h j hj
   have h3:(edgesOf md ops[i]).contains j=true:=by rw [← fmask_bit];exact hj
   have h4:j ∈ edgesOf md ops[i]:=by simpa using h3
   unfold edgesOf at h4
   rw [List.mem_filterMap] at h4
   obtain ⟨e,he,hj'⟩:=h4
   split at hj'
   · rename_i hb
     injection hj' with hj'
     have:=h e (by simpa using he)
     rw [hb,bl_getD,hj'] at this
     by_cases hlt:j<N
     · simpa [hlt] using this
     simp [hlt] at this
   cases hj'
 intro h e he
 cases hb:Region.binds md e with
 | false=>rfl
 | true =>
   have h3:e.on ∈ edgesOf md ops[i]:=by
     unfold edgesOf
     rw [List.mem_filterMap]
     exact ⟨e,by simpa using he,by rw [if_pos hb]⟩
   have h4:=h e.on (by show Nat.testBit (fmask (edgesOf md ops[i])) e.on=true;rw [fmask_bit];simpa using h3)
   rw [bl_getD]
   by_cases hlt:e.on<N
   · simp [hlt,h4]
   have:=Nat.testBit_lt_two_pow (x:=M) (i:=e.on) (Nat.lt_of_lt_of_le hM (Nat.pow_le_pow_right (by omega) (by omega)))
   rw [this] at h4;cases h4
theorem goR_filter(M:Nat):∀ (sm:List (Nat × List Nat × Nat)) (k:Nat),goR M sm k=(List.range' k sm.length).filter fun i=>match sm[i-k]? with|some y=>rdyY M i y|none=>false
 | [],k=>rfl
 | z::r,k=>by
   rw [List.length_cons,List.range'_succ,List.filter_cons]
   simp only [Nat.sub_self,List.getElem?_cons_zero]
   have e:(List.range' (k+1) r.length).filter (fun i=>match (z::r)[i-k]? with|some y=>rdyY M i y|none=>false)=goR M r (k+1):=by
     rw [goR_filter M r (k+1)]
     apply List.filter_congr
     intro i hi
     have:=(List.mem_range'_1.1 hi).1
     rw [show i-k=(i-(k+1))+1 by omega,List.getElem?_cons_succ]
   rw [e]
   rfl
theorem ready_of{md:Region.Mode}{ops:Array Oper}{sm:List (Nat × List Nat × Nat)}{N M:Nat}(hs:sumOf md ops=sm)(hn:ops.size=N)(hM:Nat.blt M (2 ^ N)=true):Region.ready md ops (bl N M)=goR M sm 0:=by
 have hM:M<2 ^ N:=by rw [Nat.blt_eq] at hM;exact hM
 rw [goR_filter]
 have hl:sm.length=ops.size:=by subst hs;simp [sumOf]
 unfold Region.ready
 rw [hl,List.range_eq_range']
 apply List.filter_congr
 intro i hi
 have hi:=(List.mem_range'_1.1 hi).2
 rw [rdy_of hn hM (by omega),Nat.sub_zero,sum_get hs,Array.getElem?_eq_getElem (by omega)]
 rfl
theorem rdy_mem{md:Region.Mode}{ops:Array Oper}{sm:List (Nat × List Nat × Nat)}{N M i:Nat}(hs:sumOf md ops=sm)(hn:ops.size=N)(hM:Nat.blt M (2 ^ N)=true)(h:rdyS sm M i=true):(Region.ready md ops (bl N M)).contains i=true:=by
 unfold rdyS at h
 rw [sum_get hs] at h
 cases ho:ops[i]? with
 | none=>rw [ho] at h;cases h
 | some o =>
   rw [ho] at h
   have hi:i<ops.size:=(Array.getElem?_eq_some_iff.1 ho).1
   have he:ops[i]=o:=by rw [Array.getElem?_eq_getElem hi] at ho;injection ho
   have hM':M<2 ^ N:=by rw [Nat.blt_eq] at hM;exact hM
   rw [List.contains_iff_mem]
   unfold Region.ready
   rw [List.mem_filter,List.mem_range]
   refine ⟨hi,?_⟩
   rw [rdy_of hn hM' (by omega),he]
   exact h
theorem bl_set(N M i:Nat):(bl N M).setIfInBounds i true=bl N (M ||| (1 <<< i)):=by
 apply Array.ext'
 simp only [Array.toList_setIfInBounds]
 apply List.ext_getElem?
 intro j
 unfold bl
 rw [List.getElem?_set]
 simp only [List.getElem?_map,List.length_map,List.length_range]
 by_cases hj:j<N
 · rw [List.getElem?_range hj]
   simp only [Option.map_some]
   rw [Nat.testBit_or,bit1]
   by_cases e:i=j
   · subst e;simp [hj]
   simp [e]
 rw [List.getElem?_eq_none (by simpa using hj)]
 by_cases e:i=j
 · subst e;simp [hj]
 simp [e]
def maskOf(M:Nat)(is:List Nat):Nat:=is.foldl (fun M i=>M ||| (1 <<< i)) M
theorem marks_bl(N:Nat):∀ (is:List Nat) (M:Nat),marks (bl N M) is=bl N (maskOf M is)
 | [],_=>rfl
 | i::is,M=>by
   show marks ((bl N M).setIfInBounds i true) is=_
   rw [bl_set,marks_bl N is];rfl
noncomputable def freeR (P:Program) (ops:Array Oper) (sm:List (Nat × List Nat × Nat)) (p N:Nat) (x:Nat->Value) (n:Nat):List Nat->Nat->List (Nat × Value)->Option (List (Nat × Value))
 | [],_,e=>some e
 | i::r,M,e =>
   match ops[i]? with
   | none=>none
   | some o =>
     if (Nat.blt i p && okD n o.dst && rdyS sm M i && freeS sm M i && Nat.blt M (2 ^ N)) then
       if Region.wanted o (yieldP ops x n e) then
         match pureE P o (evP x n e) with
         | some v=>freeR P ops sm p N x n r (M ||| (1 <<< i)) (putL o.dst v e)
         | none=>none
       else freeR P ops sm p N x n r (M ||| (1 <<< i)) (putL o.dst undef e)
     else none
section
variable{P:Program}{ops:Array Oper}{o:Oper}{w w':World}{Q:Exit->Act->World->Prop}{R:Value->World->Prop}{x:Nat->Value}{n:Nat}{e:List (Nat × Value)}{md:Region.Mode}{S:World->Prop}{p N M:Nat}{sm:List (Nat × List Nat × Nat)}
/-- What is known of a region. -/
structure Rg(md:Region.Mode)(ops:Array Oper)(Q:Exit->Act->World->Prop)(p N:Nat)(sm:List (Nat × List Nat × Nat)):Prop where
 ns:Region.noSelect ops=true
 ph:phaseB md ops p=true
 sum:sumOf md ops=sm
 sz:ops.size=N
 hQ:∀ c d v a w,Q (.panic c) (Act.put a d v) w->Q (.panic c) a w
theorem free_freeR(hsum:sumOf md ops=sm)(hN:ops.size=N):∀ (is:List Nat) (M:Nat) (e e':List (Nat × Value)),freeR P ops sm p N x n is M e=some e'->freeP P md ops p x n is (bl N M) e=some e'
 | [],_,_,_,h=>h
 | i::r,M,e,e',h=>by
   have h0:freeR P ops sm p N x n (i::r) M e=(match ops[i]? with
     | none=>none
     | some o =>
       if (Nat.blt i p && okD n o.dst && rdyS sm M i && freeS sm M i && Nat.blt M (2 ^ N))=true then
         if Region.wanted o (yieldP ops x n e)=true then
           (match pureE P o (evP x n e) with
           | some v=>freeR P ops sm p N x n r (M ||| (1 <<< i)) (putL o.dst v e)
           | none=>none)
         else freeR P ops sm p N x n r (M ||| (1 <<< i)) (putL o.dst undef e)
       else none):=rfl
   have g0:freeP P md ops p x n (i::r) (bl N M) e=(match ops[i]? with
     | none=>none
     | some o =>
       if (decide (i<p) && okD n o.dst && (Region.ready md ops (bl N M)).contains i && Region.free md ops (bl N M) i)=true then
         if Region.wanted o (yieldP ops x n e)=true then
           (match pureE P o (evP x n e) with
           | some v=>freeP P md ops p x n r ((bl N M).setIfInBounds i true) (putL o.dst v e)
           | none=>none)
         else freeP P md ops p x n r ((bl N M).setIfInBounds i true) (putL o.dst undef e)
       else none):=rfl
   rw [h0] at h
   rw [g0]
   clear h0 g0
   generalize ops[i]?=oi at h ⊢
   cases oi with
   | none=>exact h
   | some o =>
     by_cases hc:(Nat.blt i p && okD n o.dst && rdyS sm M i && freeS sm M i && Nat.blt M (2 ^ N))=true
     · have h:=(if_pos hc).symm.trans h
       simp only [Bool.and_eq_true] at hc
       obtain ⟨⟨⟨⟨h1,h2⟩,h3⟩,h4⟩,h5⟩:=hc
       rw [Nat.blt_eq] at h1
       refine (if_pos (by rw [decide_eq_true h1,h2,rdy_mem hsum hN h5 h3,free_of hsum hN h4];rfl)).trans ?_
       by_cases hw:Region.wanted o (yieldP ops x n e)=true
       · have h:=(if_pos hw).symm.trans h
         refine (if_pos hw).trans ?_
         generalize pureE P o (evP x n e)=ov at h ⊢
         cases ov with
         | none=>exact h
         | some v =>
           have g:=free_freeR hsum hN r _ _ e' h
           rw [← bl_set] at g
           exact g
       have h:=(if_neg hw).symm.trans h
       refine (if_neg hw).trans ?_
       have g:=free_freeR hsum hN r _ _ e' h
       rw [← bl_set] at g
       exact g
     have h:=(if_neg hc).symm.trans h
     cases h
theorem pR_v{f:Nat}(i:Nat)(d:Option Nat)(v:Value)(M':Nat)(hi:ops[i]?=some o)(hs:Rg md ops Q p N sm)(hS:S w)
   (hv:∀ W,S W->(execOp (patch x n e).eval o).run P W=.ok (.value v) W) (k:wpAnyT P md ops Q S p f (bl N M') (patch x n (putL d v e)) w)
   (hM:M ||| (1 <<< i)=M':=by kernel_rfl) (hd:o.dst=d:=by kernel_rfl) (hok:okD n d=true:=by kernel_rfl) (hf:(freeS sm M i && rdyS sm M i && Nat.blt M (2 ^ N) && Nat.blt i p)=true:=by kernel_rfl) (hw:Region.wanted o (yieldP ops x n e)=true:=by kernel_rfl):wpAnyT P md ops Q S p (f+1) (bl N M) (patch x n e) w:=by
 simp only [Bool.and_eq_true,Nat.blt_eq] at hf
 obtain ⟨⟨⟨h1,h2⟩,h3⟩,h4⟩:=hf
 have h3':Nat.blt M (2 ^ N)=true:=by rw [Nat.blt_eq];exact h3
 exact pQ_v i d v (bl N M') (by rw [marks_bl];show bl N (M ||| (1 <<< i))=_;rw [hM]) hi hd hok hs.ns (free_of hs.sum hs.sz h1) (rdy_mem hs.sum hs.sz h3' h2) hs.ph (decide_eq_true h4) hs.hQ hw hS hv k
theorem pR_to{f:Nat}(i:Nat)(d:Option Nat)(M':Nat)(hi:ops[i]?=some o)(hs:Rg md ops Q p N sm)
   (h:OpTo P o (patch x n e) w R) (k:∀ v w',R v w'->(i<p->S w')/\wpAnyT P md ops Q S p f (bl N M') (patch x n (putL d v e)) w')
   (hM:M ||| (1 <<< i)=M':=by kernel_rfl) (hd:o.dst=d:=by kernel_rfl) (hok:okD n d=true:=by kernel_rfl) (hb:Nat.blt M (2 ^ N)=true:=by kernel_rfl) (hr:goR M sm 0=[i]:=by kernel_rfl) (hw:Region.wanted o (yieldP ops x n e)=true:=by kernel_rfl):wpAnyT P md ops Q S p (f+1) (bl N M) (patch x n e) w:=
 pQ_to i d (bl N M') (by rw [marks_bl];show bl N (M ||| (1 <<< i))=_;rw [hM]) hi hd hok (by rw [ready_of hs.sum hs.sz hb,hr]) hw h k
theorem pR_op{f:Nat}(i:Nat)(d:Option Nat)(M':Nat)(hi:ops[i]?=some o)
   (h:OpTo P o (patch x n e) w R) (k:∀ v w',R v w'->(i<p->S w')/\wpAnyT P md ops Q S p f (bl N M') (patch x n (putL d v e)) w')
   (hM:M ||| (1 <<< i)=M':=by kernel_rfl) (hd:o.dst=d:=by kernel_rfl) (hok:okD n d=true:=by kernel_rfl) (hw:Region.wanted o (yieldP ops x n e)=true:=by kernel_rfl) :
   wpOp P ops Q i (fun a' w'=>(i<p->S w')/\wpAnyT P md ops Q S p f ((bl N M).setIfInBounds i true) a' w') (patch x n e) w:=
 pQ_op i d (bl N M') (by rw [marks_bl];show bl N (M ||| (1 <<< i))=_;rw [hM]) hi hd hok hw h k
theorem pR_or{f:Nat}(i j:Nat)(hs:Rg md ops Q p N sm)
   (h1:wpOp P ops Q i (fun a' w'=>(i<p->S w')/\wpAnyT P md ops Q S p f ((bl N M).setIfInBounds i true) a' w') (patch x n e) w)
   (h2:wpOp P ops Q j (fun a' w'=>(j<p->S w')/\wpAnyT P md ops Q S p f ((bl N M).setIfInBounds j true) a' w') (patch x n e) w) (hb:Nat.blt M (2 ^ N)=true:=by kernel_rfl) (hr:goR M sm 0=[i,j]:=by kernel_rfl):wpAnyT P md ops Q S p (f+1) (bl N M) (patch x n e) w:=
 pH_or i j (by rw [ready_of hs.sum hs.sz hb,hr]) h1 h2
theorem pR_done{a:Act}(hs:Rg md ops Q p N sm)(h:Q .normal a w)(fuel:Nat)(hb:Nat.blt M (2 ^ N)=true:=by kernel_rfl)(hr:goR M sm 0=[]:=by kernel_rfl):wpAnyT P md ops Q S p fuel (bl N M) a w:=
 pH_done (by rw [ready_of hs.sum hs.sz hb,hr]) h fuel
end
end
section
open Go.RowKit Go.QT
/-- A slice reads as elements of sz cells. -/
structure RV(w:World)(sz:Nat)(A:Option Addr)(c:Nat)(xs:List (List Value)):Prop where
 le:xs.length<=c
 cap:c<=maxLen
 len:∀ x ∈ xs,x.length=sz
 at_:xs≠[]->∃ b o,A=some ⟨b,o,none⟩/\b<w.heap.size/\∀ i x,xs[i]?=some x->∀ j u,x[j]?=some u->w.cell? ⟨b,o+i*sz+j,none⟩=some u
def ownA:Option Addr->Option Nat:=fun A=>A.map (·.block)
def rRV(sz:Nat)(A:Option Addr)(c:Nat)(xs:List (List Value)):Res where
 F:=fun q=>xs≠[]/\ownA A=some q
 Φ:=fun w=>RV w sz A c xs
 lt:=fun h q hq=>by
   obtain ⟨b,o,rfl,hb,_⟩:=h.at_ hq.1
   have:b=q:=by simpa [ownA] using hq.2
   omega
 keep:=fun h hs hk=>⟨h.le,h.cap,h.len,fun hne=>by
   obtain ⟨b,o,rfl,hb,hc⟩:=h.at_ hne
   exact ⟨b,o,rfl,by omega,fun i x hx j u hu=>(World.cell?_of_block (hk b ⟨hne,rfl⟩)).trans (hc i x hx j u hu)⟩⟩
/-- The bytes as elements. -/
def bx(l:Bytes):List (List Value):=l.map fun x=>[.int .u8 (ub x)]
@[simp] theorem bx_len (l:Bytes):(bx l).length=l.length:=by simp [bx]
theorem bx_get(l:Bytes)(i:Nat)(hi:i<l.length):(bx l)[i]?=some [.int .u8 (ub (gb l i))]:=by simp [bx,gb,hi]
theorem SB.rv{w:World}{A:Option Addr}{n c:Nat}{l:Bytes}(h:SB w (.slice A n c) l):RV w 1 A c (bx l):=by
 obtain ⟨A',c',e,hc,hm,hcell⟩:=h
 injection e with e1 e2 e3
 subst e1;subst e3
 refine ⟨by simpa using hc,hm,by simp [bx],fun hne=>?_⟩
 obtain ⟨b,o,rfl,hb,hcl⟩:=hcell (by rintro rfl;exact hne rfl)
 refine ⟨b,o,rfl,hb,fun i x hx j u hu=>?_⟩
 have hi:i<l.length:=by have:=(List.getElem?_eq_some_iff.1 hx).1;simpa using this
 rw [bx_get l i hi] at hx
 injection hx with hx
 subst hx
 have hj:j=0:=by have:=(List.getElem?_eq_some_iff.1 hu).1;simpa using this
 subst hj
 injection hu with hu
 subst hu
 simpa using hcl i hi
/-- Where an element lies. -/
def eAt(A:Option Addr)(k:Nat):Value:=match A with|some a=>.pointer (some (a.add k))|none=>undef
section
variable{P:Program}{o:Oper}{a:Act}{w w':World}{sz c:Nat}{A:Option Addr}{xs:List (List Value)}
/-- The place of an element. -/
theorem e_idx(h:RV w sz A c xs)(i:Nat)(hi:i<xs.length)(t:TypeId)(x y:Operand)(ho:o.op=.indexAddr t x y)(k:IntKind)(hx:a.eval x=.slice A xs.length c)(hy:a.eval y=.int k (i:Int))(E:TypeId)(ht:P.underlying t=some (.slice E))(hE:pureVal P (sizeOf E)=some sz)(W:World) :
   (execOp a.eval o).run P W=.ok (.value (eAt A (i*sz))) W:=by
 obtain ⟨b,o',rfl,hb,hc⟩:=h.at_ (by rintro rfl;simp at hi)
 have h0:(0:Int)<=i/\(i:Int)<xs.length:=⟨by omega,by omega⟩
 have h1:(Instr.indexAt t (.slice (some ⟨b,o',none⟩) xs.length c) (.int k (i:Int))).run P W=.ok (eAt (some ⟨b,o',none⟩) (i*sz)) W:=by
   simp [Instr.indexAt,asIntOf,run_underlying ht,hi,pureVal_run hE,eAt]
 unfold execOp
 simp only [ho,hx,hy,Sem.run_bind,h1,Result.andThen_ok,Sem.run_pure]
theorem OV.rv{base E:Nat}{A:Option Addr}{n:Nat}(h:OV w base E sz (.slice A n c) xs):n=xs.length/\RV w sz A c xs:=by
 have hf:=h.form
 obtain ⟨A',c',e,h1,h2⟩:=hf
 injection e with e1 e2 e3
 subst e1;subst e2;subst e3
 refine ⟨rfl,h1,h2,h.len,fun hne=>?_⟩
 have hpos:0<xs.length:=by
   rcases Nat.eq_zero_or_pos xs.length with h0|h0
   · exact absurd (List.eq_nil_of_length_eq_zero h0) hne
   exact h0
 obtain ⟨g,cap,e,hb,hlt,_⟩:=h.at_ (i:=0) hpos
 injection e with e1 _ _
 subst e1
 refine ⟨g,0,rfl,hlt,fun i x hx j u hu=>?_⟩
 have hi:i<xs.length:=(List.getElem?_eq_some_iff.1 hx).1
 obtain ⟨g',cap',e',_,_,_,_,cur,hB,hcur⟩:=h.at_ hi
 injection e' with e1' _ _
 injection e1' with e1'
 injection e1' with e2'
 subst e2'
 have hxe:xs[i]=x:=by rw [List.getElem?_eq_getElem hi] at hx;injection hx
 subst hxe
 have hj:j<sz:=by rw [← h.len _ (List.getElem_mem hi)];exact (List.getElem?_eq_some_iff.1 hu).1
 rw [Nat.zero_add,hB.cell,hcur j hj]
 exact hu
/-- append of one element, that lies in a block of its own, to a row of the call's own. -/
theorem x_push{F0:Nat->Prop}{w0:World}{ro rs:List Res}(h:Hp F0 w0 w ro rs)(i j:Nat){E:TypeId}{v:Value}{g:Nat}{T:TypeId}{news:List Value}(hi:rs[i]?=some (rOV E sz v xs))(hj:rs[j]?=some (rBlk g T news))(_hij:i≠j)
   (s x:Operand) (t:TypeId) (ho:o.op=.call { callee:=.builtin .append,args:=#[s,x],argTypes:=#[t,t] }) (bytes:Nat) (z:Value) (ht:P.underlying t=some (.slice E)) (hinf:(P.info? E).map (fun i=>(i.zero,i.size,i.bytes))=some (some z,sz,bytes))
   (hzs:z.cells.size=sz) (hsz:0<sz) (hs:a.eval s=v) (c:Nat) (hx:a.eval x=.slice (some ⟨g,0,none⟩) 1 c) (hn:news.length=sz) (h1:∀ u ∈ news,u.oneCell'=true)
   (hlen:(xs.length+1)*bytes<=140737488355328) (hlen2:xs.length<maxLen) :
   OpTo P o a w (fun u w'=>∃ A cc,u=.slice A (xs++[news]).length cc/\Hp F0 w0 w' ro (rs.set i (rOV E sz u (xs++[news])))):=by
 have hv:OV w 0 E sz v xs:=h.own i _ hi
 have hb:Blk w g T news:=h.own j _ hj
 obtain ⟨v',w',hrun,h2,h3,h4⟩:=OV.push (P:=P) s x t ho 0 E sz bytes z ht hinf hzs hsz v xs hs hv g T news c hx hb hn h1 hlen hlen2 (Nat.zero_le _)
 obtain ⟨A,cc,e,_,_⟩:=h2.form
 refine OpTo.run v' hrun ⟨A,cc,e,h.upd i hi (Fr.of_grown h3 (fun q hq=>.inl hq)) (rOV E sz v' (xs++[news])) h2 (fun q hq=>?_)⟩
 rcases h4 with h4|h4
 · left;show v.ownBlock=some q;rw [← h4];exact hq
 right
 have:v'.ownBlock=some q:=hq
 rw [h4] at this
 injection this with this
 omega
/-- A row of the call's own without elements. -/
theorem Hp.ovNil{F0:Nat->Prop}{w0:World}{ro rs:List Res}(h:Hp F0 w0 w ro rs)(E sz:Nat):Hp F0 w0 w ro (rOV E sz (.slice none 0 0) []::rs):=
 h.newS (Below.refl _ _) _ (OV.nil w 0 E sz) (fun q hq=>by simp [rOV,Value.ownBlock] at hq)
theorem Hp.obNil{F0:Nat->Prop}{w0:World}{ro rs:List Res}(h:Hp F0 w0 w ro rs):Hp F0 w0 w ro (rOB (.slice none 0 0) []::rs):=
 h.newS (Below.refl _ _) _ (OB.nil w 0) (fun q hq=>by simp [rOB,Value.ownBlock] at hq)
/-- A block of bytes becomes a row of the call's own. -/
theorem Hp.blkOB{F0:Nat->Prop}{w0:World}{ro rs:List Res}(h:Hp F0 w0 w ro rs)(i:Nat){g:Nat}(l:Bytes)(hi:rs[i]?=some (rBlk g 5 (vb l)))(hl:l.length<=maxLen):Hp F0 w0 w ro (rs.set i (rOB (.slice (some ⟨g,0,none⟩) l.length l.length) l)):=by
 have hb:Row w g 5 l:=h.own i _ hi
 refine h.upd i hi (Fr.refl _ _) _ (OB.new w g l hl hb (Nat.zero_le _)) (fun q hq=>.inl ?_)
 have:g=q:=by simpa [rOB,Value.ownBlock] using hq
 exact this.symm
/-- append of bytes that are read to a row of the call's own. -/
theorem x_appB{F0:Nat->Prop}{w0:World}{ro rs:List Res}(h:Hp F0 w0 w ro rs)(i:Nat){v:Value}{l m:Bytes}(hi:rs[i]?=some (rOB v l))(s x:Operand)(ho:o.op=.call { callee:=.builtin .append,args:=#[s,x],argTypes:=#[24,24] })
   (u:Value) (hs:a.eval s=v) (hx:a.eval x=u) (hu:SB w u m) (hlen:l.length+m.length<=140737488355328) :
   OpTo Tryz.prog o a w (fun u w'=>∃ A cc,u=.slice A (l++m).length cc/\Hp F0 w0 w' ro (rs.set i (rOB u (l++m)))):=by
 have hv:OB w 0 v l:=h.own i _ hi
 obtain ⟨i0,hi0,hz0,hz1,hz2⟩:=info_parts i5
 obtain ⟨A,c,rfl,hc,hm,hcell⟩:=hu
 have hr:=(SB.reads (w:=w) (A:=A) (n:=m.length) (c:=c) ⟨A,c,rfl,hc,hm,hcell⟩).2
 obtain ⟨v',w',hrun,h2,h3,h4⟩:=run_append_any (P:=Tryz.prog) w 0 24 o.type 5 i0 _ 1 1 ty28 hi0 hz0 hz1 hz2 rfl (by omega) v l.length (vb l) hv w.heap.size A m.length c (vb m) hr (vb_ones m) (by unfold maxLen;omega) (by omega) (Nat.zero_le _)
 have h2':OB w' 0 v' (l++m):=by
   unfold OB
   rw [List.length_append,vb_append]
   exact h2
 have hsb:=SB.own h2'
 obtain ⟨A',c',e,_,_⟩:=hsb
 have hrun':(execOp a.eval o).run Tryz.prog w=.ok (.value v') w':=by
   unfold execOp
   simp only [ho,resolve,invoke,builtin,Sem.run_bind,Sem.run_pure,Result.andThen_ok,List.map_toArray,List.map_cons,List.map_nil,hs,hx,hrun]
 refine OpTo.run v' hrun' ⟨A',c',e,h.upd i hi (Fr.of_grown h3 (fun q hq=>.inl hq)) (rOB v' (l++m)) h2' (fun q hq=>?_)⟩
 rcases h4 with h4|h4
 · left;show v.ownBlock=some q;rw [← h4];exact hq
 right
 have:v'.ownBlock=some q:=hq
 rw [h4] at this
 injection this with this
 omega
/-- A call that leaves new bytes. -/
theorem x_bytes{F0:Nat->Prop}{w0:World}{ro rs:List Res}(h:Hp F0 w0 w ro rs){l:Bytes}(fn:FuncId)(al:List Value)(hp:pureVal P (execOp a.eval o)=some (.enter fn al.toArray))(hc:Calls P fn al.toArray w (BPost w l)) :
   OpTo P o a w (fun u w'=>∃ A cc,u=.slice A l.length cc/\Hp F0 w0 w' ro (rOB u l::rs)):=
 OpTo.enter fn al hp hc fun e w' hq=>by
   obtain ⟨v,he,ho,hb⟩:=hq
   obtain ⟨A,cc,e2,_⟩:=ho.sb
   exact ⟨v,he,A,cc,e2,h.newS hb _ (ho.mono (Nat.zero_le _)) (fun q hq=>(ho.own q hq).1)⟩
/-- []byte(s). -/
theorem x_conv{F0:Nat->Prop}{w0:World}{ro rs:List Res}(h:Hp F0 w0 w ro rs)(x:Operand)(ho:o.op=.convert 9 24 x)(s:ByteArray)(hx:a.eval x=.string s)(hs:s.size<=maxLen) :
   OpTo Tryz.prog o a w (fun u w'=>∃ A cc,u=.slice A s.data.toList.length cc/\Hp F0 w0 w' (rSB u s.data.toList::ro) rs):=by
 obtain ⟨v,w',hrun,hsb,hb,g,c,hg,hf⟩:=conv_sb s w hs
 have hr:(execOp a.eval o).run Tryz.prog w=.ok (.value v) w':=by
   unfold execOp
   simp only [ho,hx,Sem.run_bind,hrun,Result.andThen_ok,Sem.run_pure]
 refine OpTo.run v hr ⟨some ⟨g,0,none⟩,c,by rw [hf];simp,h.newR hb _ hsb (fun q hq=>?_)⟩
 have h2:v.ownBlock=some q:=hq.2
 rw [hf] at h2
 have:g=q:=by simpa [Value.ownBlock] using h2
 omega
end
end
section
open Go.RowKit Go.QT
end
section
open Go.RowKit Go.QT
section
variable{F0 F:Nat->Prop}{w0 w w':World}{ro rs:List Res}{tb:Nat}{s s2:STab}{o:Oper}{a:Act}{v:Value}{e:Ending}
theorem x_snew(h:Hp F0 w0 w ro rs)(hp:pureVal Tryz.prog (execOp a.eval o)=some (.enter 24 #[])) :
   OpTo Tryz.prog o a w (fun u w'=>∃ tb F,u=pt tb 0/\Hp F0 w0 w' ro (rTab F tb STab.empty::rs)):=
 OpTo.enter 24 [] hp (snew_any w) fun e w' hq=>by
   obtain ⟨tb,F,he,hT,hF,hb⟩:=hq
   exact ⟨_,he,tb,F,rfl,h.newS hb (rTab F tb STab.empty) hT hF⟩
/-- A method that answers a key's mark. -/
theorem x_tkey(h:Hp F0 w0 w ro rs)(i:Nat)(hi:rs[i]?=some (rTab F tb s))(fn:FuncId)(al:List Value)(hp:pureVal Tryz.prog (execOp a.eval o)=some (.enter fn al.toArray)){n:Nat}
   (hc:TabAt w F tb s->Calls Tryz.prog fn al.toArray w (TPost w F tb s2 (.agg (vb (mkB 107 n)).toArray))) :
   OpTo Tryz.prog o a w (fun u w'=>∃ K F' s',u=.agg (vb (kl K)).toArray/\kl K=mkB 107 n/\s'=s2/\Hp F0 w0 w' ro (rs.set i (rTab F' tb s'))):=
 (x_tab h i hi fn al hp hc).mono fun u w' hr=>by
   obtain ⟨hu,F',h'⟩:=hr
   obtain ⟨K,hK⟩:=kl_of (mkB 107 n) (mkB_len _ _)
   exact ⟨K,F',s2,by rw [hu,hK],hK.symm,rfl,h'⟩
theorem x_fresh(h:Hp F0 w0 w ro rs)(i:Nat)(hi:rs[i]?=some (rTab F tb s))(hp:pureVal Tryz.prog (execOp a.eval o)=some (.enter 127 #[pt tb 0]))(hn:s.keys.length<1000000) :
   OpTo Tryz.prog o a w (fun u w'=>∃ K F' s',u=.agg (vb (kl K)).toArray/\kl K=mkB 107 (s.keys.length+1)/\s'=s.add SFrom.fresh/\Hp F0 w0 w' ro (rs.set i (rTab F' tb s'))):=
 x_tkey h i hi 127 [pt tb 0] hp fun hT=>fresh_any F tb s w hT hn
theorem x_text(h:Hp F0 w0 w ro rs)(i:Nat)(hi:rs[i]?=some (rTab F tb s))(p q:ByteArray)(hp:pureVal Tryz.prog (execOp a.eval o)=some (.enter 44 #[pt tb 0,.string p,.string q]))(h1:p.size<=1000000)(h2:q.size<=1000000)(hn:s.keys.length<1000000) :
   OpTo Tryz.prog o a w (fun u w'=>∃ K' F' s',u=.agg (vb (kl K')).toArray/\kl K'=mkB 107 (s.num (textF p q))/\s'=s.made (textF p q)/\Hp F0 w0 w' ro (rs.set i (rTab F' tb s'))):=
 x_tkey h i hi 44 [pt tb 0,.string p,.string q] hp fun hT=>text_any F tb s p q w hT h1 h2 hn
/-- Keys held against one another. -/
theorem e_keq(K L:Fin 16->UInt8)(t t':TypeId)(x y:Operand)(ho:o.op=.binOp .eql t x y t')(hx:a.eval x=.agg (vb (kl K)).toArray)(hy:a.eval y=.agg (vb (kl L)).toArray)
   (ht:Tryz.prog.underlying t=some (.array 16 5)) (hg:Tryz.prog.eqGuardType Tryz.prog.depth t=false) (b:Bool) (hb:decide (kl K=kl L)=b) (W:World) :
   (execOp a.eval o).run Tryz.prog W=.ok (.value (.bool b)) W:=by
 subst hb;exact exec_eq16 t t' x y ho (kl K) (kl L) hx hy ht hg (kl_len K) (kl_len L) W
theorem e_min(x y:Operand)(ts:Array TypeId)(ho:o.op=.call { callee:=.builtin .min,args:=#[x,y],argTypes:=ts })(k k':IntKind)(m n:Int)(hx:a.eval x=.int k m)(hy:a.eval y=.int k' n)(r:Int)(hr:(if n<m then n else m)=r)(W:World) :
   (execOp a.eval o).run Tryz.prog W=.ok (.value (.int k r)) W:=by
 subst hr
 unfold execOp
 simp only [ho,resolve,invoke,builtin,Sem.run_bind,Sem.run_pure,Result.andThen_ok,List.map_toArray,List.map_cons,List.map_nil,hx,hy,run_min_int2]
/-- Keys of one text are one. -/
theorem kl_inj{K L:Fin 16->UInt8}(h:kl K=kl L):K=L:=by
 funext i
 have h2:(kl K)[i.val]?=(kl L)[i.val]?:=by rw [h]
 unfold kl at h2
 rw [List.getElem?_ofFn,List.getElem?_ofFn,dif_pos i.isLt,dif_pos i.isLt] at h2
 exact Option.some.inj h2
/-- Bytes that stand in the program. -/
theorem x_bsl(h:Hp F0 w0 w ro rs)(l:Bytes)(hn:newVal Tryz.prog (execOp a.eval o)=some (.cells (vb l).toArray 5,fun r=>some (.value (.slice (some ⟨r,0,none⟩) l.length l.length)))) :
   OpTo Tryz.prog o a w (fun v w'=>∃ g,v=.slice (some ⟨g,0,none⟩) l.length l.length/\w'=w.alloc (.cells (vb l).toArray 5)/\g=w.heap.size/\Hp F0 w0 w ro rs/\Hp F0 w0 w' ro (rBlk g 5 (vb l)::rs)):=
 OpTo.run (.slice (some ⟨w.heap.size,0,none⟩) l.length l.length) (newVal_run hn w rfl) ⟨_,rfl,rfl,rfl,h,h.alloc 5 (vb l)⟩
/-- A block of bytes, read. -/
theorem SB.blk{g:Nat}{T:TypeId}{l:Bytes}{n c:Nat}(hb:Blk w g T (vb l))(hn:n=l.length)(hc:decide (n<=c)=true)(hm:decide (c<=maxLen)=true):SB w (.slice (some ⟨g,0,none⟩) n c) l:=by
 subst hn
 refine ⟨_,_,rfl,of_decide_eq_true hc,of_decide_eq_true hm,fun _=>⟨g,0,rfl,hb.lt,fun i hi=>?_⟩⟩
 rw [hb.cell,Nat.zero_add]
 exact vb_get l i hi
theorem SB.blk16{g:Nat}{T:TypeId}{K:Fin 16->UInt8}(hb:Blk w g T (vb (kl K))):SB w (.slice (some ⟨g,0,none⟩) 16 16) (kl K):=
 SB.blk hb (kl_len K).symm (by decide) (by decide)
end
end
section
theorem and_mask(x:Int)(m:Nat)(hm:m<4611686018427387904):∃ n:Nat,bits .and .i64 x (m:Int)=(n:Int)/\n<=m:=by
 refine ⟨((BitVec.ofInt 64 x) &&& (BitVec.ofInt 64 (m:Int))).toNat,?_,?_⟩
 · show IntKind.i64.wrap ((((BitVec.ofInt 64 x) &&& (BitVec.ofInt 64 (m:Int))).toNat:Nat):Int)=_
   have h:((BitVec.ofInt 64 x) &&& (BitVec.ofInt 64 (m:Int))).toNat<=m:=by
     rw [BitVec.toNat_and,BitVec.ofInt_natCast,BitVec.toNat_ofNat]
     exact Nat.le_trans Nat.and_le_right (Nat.mod_le _ _)
   rw [IntKind.wrap_i64]
   omega
 rw [BitVec.toNat_and,BitVec.ofInt_natCast,BitVec.toNat_ofNat]
 exact Nat.le_trans Nat.and_le_right (Nat.mod_le _ _)
end
section
open Go.RowKit Go.QT
section
variable{P:Program}{o:Oper}{a:Act}{w w' w0:World}{sz c:Nat}{A:Option Addr}{xs:List (List Value)}{F0:Nat → Prop}{ro rs:List Res}
theorem RV.lenIs{n:Nat}(h:RV w sz A c xs)(hn:xs.length=n):xs.length=n ∧ RV w sz A c xs:=⟨hn,h⟩
theorem e_cut_lh{v:Value}{l:Bytes}(h:SB w v l)(x lo hi:Operand)(ho:o.op=.slice 24 x (some lo) (some hi) none)(hx:a.eval x=v)(k k':IntKind)(i j:Nat)(hlo:a.eval lo=.int k (i:Int))(hhi:a.eval hi=.int k' (j:Int))(h1:i ≤ j)(h2:j ≤ l.length)(W:World) :
   (execOp a.eval o).run Tryz.prog W=.ok (.value (cutS v i j)) W:=
 exec_cut_lh x lo hi ho v l hx h k k' (i:Int) (j:Int) hlo hhi (by omega) (by omega) (by omega) W
theorem e_cut_h{v:Value}{l:Bytes}(h:SB w v l)(x hi:Operand)(ho:o.op=.slice 24 x none (some hi) none)(hx:a.eval x=v)(k':IntKind)(j:Nat)(hhi:a.eval hi=.int k' (j:Int))(h2:j ≤ l.length)(W:World) :
   (execOp a.eval o).run Tryz.prog W=.ok (.value (cutS v 0 j)) W:=
 exec_cut_h x hi ho v l hx h k' (j:Int) hhi (by omega) (by omega) W
theorem e_cut_l{v:Value}{l:Bytes}(h:SB w v l)(x lo:Operand)(ho:o.op=.slice 24 x (some lo) none none)(hx:a.eval x=v)(k:IntKind)(i:Nat)(hlo:a.eval lo=.int k (i:Int))(h2:i ≤ l.length)(W:World) :
   (execOp a.eval o).run Tryz.prog W=.ok (.value (cutS v i l.length)) W:=
 exec_cut_l x lo ho v l hx h k (i:Int) hlo (by omega) (by omega) W
theorem e_idxN(h:RV w sz A c xs)(i n:Nat)(hn:xs.length=n)(hi:i<n)(t:TypeId)(x y:Operand)(ho:o.op=.indexAddr t x y)(k:IntKind)(hx:a.eval x=.slice A n c)(hy:a.eval y=.int k (i:Int))(E:TypeId)(ht:P.underlying t=some (.slice E))(hE:pureVal P (sizeOf E)=some sz)(W:World) :
   (execOp a.eval o).run P W=.ok (.value (eAt A (i*sz))) W:=by
 subst hn
 exact e_idx h i hi t x y ho k hx hy E ht hE W
theorem eAt_at(h:RV w sz A c xs)(i:Nat)(x:List Value)(hxi:xs[i]?=some x)(j:Nat):∃ b k,A=some ⟨b,k,none⟩ ∧ eAt A (i*sz+j)=pt b (k+(i*sz+j)) ∧ ∀ m u,x[j+m]?=some u → w.cell? ⟨b,k+(i*sz+j)+m,none⟩=some u:=by
 have hi:i<xs.length:=(List.getElem?_eq_some_iff.1 hxi).1
 obtain ⟨b,o',rfl,hb,hc⟩:=h.at_ (by rintro rfl;simp at hi)
 refine ⟨b,o',rfl,?_,fun m u hu=>?_⟩
 · unfold eAt pt
   by_cases h0:i*sz+j=0
   · rw [h0];simp [Addr.add]
   simp only [Addr.add]
   simp
   intro h2 h3;exact h0 (by omega)
 have:=hc i x hxi (j+m) u hu
 rw [show o'+(i*sz+j)+m=o'+i*sz+(j+m) by omega]
 exact this
/-- A cell of an element: its j-th. -/
theorem e_elemN(h:RV w sz A c xs)(i j:Nat)(x:List Value)(hxi:xs[i]?=some x)(t:TypeId)(p:Operand)(ho:o.op=.load t p)(v:Value)(hx:a.eval p=eAt A (i*sz+j))(hv:x[j]?=some v)(ht:pureVal P (isAgg t)=some false) :
   (execOp a.eval o).run P w=.ok (.value v) w:=by
 obtain ⟨b,k,rfl,e,hc⟩:=eAt_at h i x hxi j
 have hcell:w.cell? ⟨b,k+(i*sz+j),none⟩=some v:=by simpa using hc 0 v hv
 have hl:(loadVar t ⟨b,k+(i*sz+j),none⟩).run P w=.ok v w:=by simp [loadVar,pureVal_run ht,hcell]
 unfold execOp
 rw [e] at hx
 simp only [ho,hx,pt,Instr.loadAt,Instr.sureAddr,Sem.run_bind,Sem.run_pure,Result.andThen_ok,hl]
/-- Cells of an element, from the j-th on. -/
theorem e_elemsN(h:RV w sz A c xs)(i j:Nat)(x:List Value)(hxi:xs[i]?=some x)(t:TypeId)(p:Operand)(ho:o.op=.load t p)(ds:List Value)(hx:a.eval p=eAt A (i*sz+j))(hv:(x.drop j).take ds.length=ds)(hB:rowB P t ds.length=true) :
   (execOp a.eval o).run P w=.ok (.value (.agg ds.toArray)) w:=by
 obtain ⟨b,k,rfl,e,hc⟩:=eAt_at h i x hxi j
 obtain ⟨d,hu,hr,hs⟩:=rowB_spec hB
 have hl:=run_loadVar_mid (P:=P) w b (k+(i*sz+j)) t ds d (fun m v hm=>hc m v (slice_get x j ds.length m v (by rw [hv];exact hm))) hu hr hs
 unfold execOp
 rw [e] at hx
 simp only [ho,hx,pt,Instr.loadAt,Instr.sureAddr,Sem.run_bind,Sem.run_pure,Result.andThen_ok,hl]
/-- The place of an element's field. -/
theorem e_fldN(h:RV w sz A c xs)(i j k:Nat)(x:List Value)(hxi:xs[i]?=some x)(p:Operand)(hx:a.eval p=eAt A (i*sz+j))(hf:∀ b n,pureVal P (execOp (fun _=>pt b n) o)=some (.value (pt b (n+k))))(hE:∀ ev:Operand → Value,execOp ev o=execOp (fun _=>ev p) o)(W:World) :
   (execOp a.eval o).run P W=.ok (.value (eAt A (i*sz+(j+k)))) W:=by
 obtain ⟨b,n,rfl,e,_⟩:=eAt_at h i x hxi j
 have e2:eAt (some ⟨b,n,none⟩) (i*sz+(j+k))=pt b (n+(i*sz+(j+k))):=by
   unfold eAt pt
   by_cases h0:i*sz+(j+k)=0
   · rw [h0];simp [Addr.add]
   simp only [Addr.add]
   simp
   intro h2 h3 h4;exact absurd (show i*sz+(j+k)=0 by omega) h0
 rw [hE,hx,e,e2,show n+(i*sz+(j+k))=n+(i*sz+j)+k by omega]
 exact pureVal_run (hf _ _) W
/-- A new slice of values. -/
theorem x_bs(h:Hp F0 w0 w ro rs)(T:TypeId)(cs:List Value)(n:Nat)(hn:newVal P (execOp a.eval o)=some (.cells cs.toArray T,fun r=>some (.value (.slice (some ⟨r,0,none⟩) n n)))) :
   OpTo P o a w (fun v w'=>∃ g,v=.slice (some ⟨g,0,none⟩) n n ∧ Hp F0 w0 w' ro (rBlk g T cs::rs)):=
 OpTo.run (.slice (some ⟨w.heap.size,0,none⟩) n n) (newVal_run hn w rfl) ⟨_,rfl,h.alloc T cs⟩
theorem SB.rvn{l:Bytes}{n:Nat}(h:SB w (.slice A n c) l):(bx l).length=n ∧ RV w 1 A c (bx l):=by
 obtain ⟨A',c',e,h1,h2,h3⟩:=id h
 injection e with e1 e2 e3
 subst e2
 exact ⟨bx_len l,SB.rv h⟩
theorem OV.rvn{base E:Nat}{n:Nat}(h:OV w base E sz (.slice A n c) xs):xs.length=n ∧ RV w sz A c xs:=⟨(OV.rv h).1.symm,(OV.rv h).2⟩
/-- append of one element, its answer as one likes to spell it. -/
theorem x_pushG(h:Hp F0 w0 w ro rs)(i j:Nat){E:TypeId}{v:Value}{g:Nat}{T:TypeId}{news:List Value}(hi:rs[i]?=some (rOV E sz v xs))(hj:rs[j]?=some (rBlk g T news))(hij:decide (i≠j)=true)
   (s x:Operand) (t:TypeId) (ho:o.op=.call { callee:=.builtin .append,args:=#[s,x],argTypes:=#[t,t] }) (bytes:Nat) (z:Value) (ht:P.underlying t=some (.slice E)) (hinf:(P.info? E).map (fun i=>(i.zero,i.size,i.bytes))=some (some z,sz,bytes))
   (hzs:z.cells.size=sz) (hsz:decide (0<sz)=true) (hs:a.eval s=v) (c:Nat) (hx:a.eval x=.slice (some ⟨g,0,none⟩) 1 c) (hn:news.length=sz) (h1:news.all (·.oneCell')=true)
   (hlen:(xs.length+1)*bytes ≤ 140737488355328) (hlen2:xs.length<maxLen) (ys:List (List Value)) (n:Nat) (hys:ys=xs++[news]) (hyn:ys.length=n) :
   OpTo P o a w (fun u w'=>∃ A cc,u=.slice A n cc ∧ Hp F0 w0 w' ro (rs.set i (rOV E sz (.slice A n cc) ys))):=by
 subst hys;subst hyn
 refine (x_push h i j hi hj (of_decide_eq_true hij) s x t ho bytes z ht hinf hzs (of_decide_eq_true hsz) hs c hx hn (by simpa using h1) hlen hlen2).mono fun u w' hr=>?_
 obtain ⟨A,cc,rfl,h'⟩:=hr
 exact ⟨A,cc,rfl,h'⟩
theorem x_appG(h:Hp F0 w0 w ro rs)(i:Nat){v:Value}{l m:Bytes}(hi:rs[i]?=some (rOB v l))(s x:Operand)(ho:o.op=.call { callee:=.builtin .append,args:=#[s,x],argTypes:=#[24,24] })
   (u:Value) (hs:a.eval s=v) (hx:a.eval x=u) (hu:SB w u m) (hlen:l.length+m.length ≤ 140737488355328) (r:Bytes) (n:Nat) (hr:r=l++m) (hn:r.length=n) :
   OpTo Tryz.prog o a w (fun u w'=>∃ A cc,u=.slice A n cc ∧ Hp F0 w0 w' ro (rs.set i (rOB (.slice A n cc) r))):=by
 subst hr;subst hn
 refine (x_appB h i hi s x ho u hs hx hu hlen).mono fun u w' hr=>?_
 obtain ⟨A,cc,rfl,h'⟩:=hr
 exact ⟨A,cc,rfl,h'⟩
end
theorem xPu{P:Program}{F0:Nat → Prop}{w0 w:World}{ro rs:List Res}{sz:Nat}{xs:List (List Value)}{a:Act}{o:Oper}(h:Hp F0 w0 w ro rs)(i j:Nat){E:TypeId}{v:Value}{g:Nat}{T:TypeId}{news:List Value}(hi:rs[i]?=some (rOV E sz v xs))(hj:rs[j]?=some (rBlk g T news))(s x:Operand)(t:TypeId)(bytes:Nat)(z:Value)(hlen:(xs.length+1)*bytes ≤ 140737488355328)(hlen2:xs.length<maxLen)(ys:List (List Value))(n:Nat)(hij:decide (i≠j)=true:=by kernel_rfl)
    (ho:o.op=.call { callee:=.builtin .append,args:=#[s,x],argTypes:=#[t,t] }:=by kernel_rfl) (ht:P.underlying t=some (.slice E):=by kernel_rfl) (hinf:(P.info? E).map (fun i=>(i.zero,i.size,i.bytes))=some (some z,sz,bytes):=by kernel_rfl) (hzs:z.cells.size=sz:=by kernel_rfl) (hsz:decide (0<sz)=true:=by kernel_rfl) (hs:a.eval s=v:=by kernel_rfl) (hx:a.eval x=.slice (some ⟨g,0,none⟩) 1 1:=by kernel_rfl) (hn:news.length=sz:=by kernel_rfl) (h1:news.all (·.oneCell')=true:=by kernel_rfl) (hys:ys=xs++[news]:=by rfl) (hyn:ys.length=n:=by rfl) :
    OpTo P o a w (fun u w'=>∃ A cc,u=.slice A n cc ∧ Hp F0 w0 w' ro (rs.set i (rOV E sz (.slice A n cc) ys))):=x_pushG h i j hi hj hij s x t ho bytes z ht hinf hzs hsz hs 1 hx hn h1 hlen hlen2 ys n hys hyn
theorem eIx{P:Program}{o:Oper}{a:Act}{w:World}{sz c:Nat}{A:Option Addr}{xs:List (List Value)}(h:RV w sz A c xs)(i n:Nat)(hn:xs.length=n)(hi:i<n)(t:TypeId)(x y:Operand)(k:IntKind)(E:TypeId){W:World}(ho:o.op=.indexAddr t x y:=by kernel_rfl)(hx:a.eval x=.slice A n c:=by kernel_rfl)(hy:a.eval y=.int k (i:Int):=by kernel_rfl)(ht:P.underlying t=some (.slice E):=by kernel_rfl)(hE:pureVal P (sizeOf E)=some sz:=by kernel_rfl) :
    (execOp a.eval o).run P W=.ok (.value (eAt A (i*sz))) W:=e_idxN h i n hn hi t x y ho k hx hy E ht hE W
theorem eEl{P:Program}{o:Oper}{a:Act}{w:World}{sz c:Nat}{A:Option Addr}{xs:List (List Value)}(h:RV w sz A c xs)(i j:Nat)(x:List Value)(hxi:xs[i]?=some x)(t:TypeId)(p:Operand)(v:Value)(ho:o.op=.load t p:=by kernel_rfl)(hx:a.eval p=eAt A (i*sz+j):=by kernel_rfl)(hv:x[j]?=some v:=by kernel_rfl)(ht:pureVal P (isAgg t)=some false:=by kernel_rfl) :
    (execOp a.eval o).run P w=.ok (.value v) w:=e_elemN h i j x hxi t p ho v hx hv ht
end
section
open Go.RowKit Go.QT
def spV(p:Int × Int):List Value:=[.int .i32 p.1,.int .i32 p.2]
def inR(c:Int)(l:List (Int × Int)):Bool:=l.any fun p=>decide (c ≥ p.1) && decide (c<=p.2)
def ltrL:List (Int × Int):=[(97,122),(224,246),(248,254),(945,961),(963,969),(1072,1103)]
def letterN(c:Int):Bool:=inR c ltrL
def digL:List (Int × Int):=[(48,57),(45,45)]
theorem spV_get{l:List (Int × Int)}{k:Nat}{p:Int × Int}(h:l[k]?=some p):(l.map spV)[k]?=some [.int .i32 p.1,.int .i32 p.2]:=by
 rw [List.getElem?_map,h];rfl
theorem inR_all{c:Int}{l:List (Int × Int)}{k:Nat}(hk:k=l.length)(h:∀ j p,j<k->l[j]?=some p->¬ (c ≥ p.1/\c<=p.2)):inR c l=false:=by
 unfold inR
 rw [List.any_eq_false]
 intro p hp
 obtain ⟨j,hj,rfl⟩:=List.getElem_of_mem hp
 have:=h j l[j] (by omega) (List.getElem?_eq_getElem hj)
 simpa using this
theorem inR_one{c:Int}{l:List (Int × Int)}{k:Nat}{p:Int × Int}(hp:l[k]?=some p)(h1:c ≥ p.1)(h2:c<=p.2):inR c l=true:=by
 unfold inR
 rw [List.any_eq_true]
 exact ⟨p,List.mem_of_getElem? hp,by simp [h1,h2]⟩
theorem inR_step{c:Int}{l:List (Int × Int)}{k:Nat}{p:Int × Int}(hp:l[k]?=some p)(hn:¬ (c ≥ p.1/\c<=p.2))(h:∀ j p,j<k->l[j]?=some p->¬ (c ≥ p.1/\c<=p.2)):∀ j p,j<k+1->l[j]?=some p->¬ (c ≥ p.1/\c<=p.2):=by
 intro j q hj hq
 by_cases e:j=k
 · subst e;rw [hp] at hq;injection hq with hq;subst hq;exact hn
 exact h j q (by omega) hq
end
end Go.Proofs.YtdefpmmdpfpipaaGreat
