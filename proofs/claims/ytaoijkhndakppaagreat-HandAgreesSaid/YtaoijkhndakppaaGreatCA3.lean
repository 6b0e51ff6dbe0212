/- The walks of the small methods of sym.Table: Nth,Keys,Boxes,Fresh. -/
import Derived.Laws.Rows
import Derived.Test.YtaoijkhndakppaaGreatCA2
set_option maxRecDepth 100000
set_option maxHeartbeats 4000000
namespace Go.Proofs.YtaoijkhndakppaaGreat
section
open Go.RowKit Go.QT
theorem z16_eq:(#[Value.int IntKind.u8 0,Value.int IntKind.u8 0,Value.int IntKind.u8 0,Value.int IntKind.u8 0,Value.int IntKind.u8 0,Value.int IntKind.u8 0,Value.int IntKind.u8 0,Value.int IntKind.u8 0,Value.int IntKind.u8 0,Value.int IntKind.u8 0,Value.int IntKind.u8 0,Value.int IntKind.u8 0,Value.int IntKind.u8 0,Value.int IntKind.u8 0,Value.int IntKind.u8 0,Value.int IntKind.u8 0]:Array Value)=(vb zKey).toArray:=by
 rw [zKey,vb_zeros];rfl
theorem mkB_len(k:UInt8)(n:Nat):(mkB k n).length=16:=rfl
/-- What a call leaves that answers a row of bytes by value. -/
def APost(w:World)(l:Bytes)(e:Ending)(w':World):Prop:=e=.returned (.agg (vb l).toArray)/\Below w.heap.size w w'
theorem ovr_mark(k:UInt8)(n:Nat):ovr (ovr zKey 0 [255,254,k]) 8 (put8 n)=mkB k n:=rfl
theorem u64_of(n:Nat)(h:n<9223372036854775808):IntKind.u64.wrap (n:Int)=(n:Int):=by
 rw [IntKind.wrap_u64];omega
theorem smark_any(k:UInt8)(n:Nat)(hn:n<9223372036854775808)(w:World):Calls Tryz.prog 71 #[.int .u8 (ub k),.int .i64 (n:Int)] w (APost w (mkB k n)):=by
 have Hov:=Hd.mk (ovr_mark k n)
 go_enter Tryz.func71,Tryz.ntmps71
 go_upto_region 2 with (fail)
 rw [z16_eq]
 have h4:Row ((w.alloc (.cells (vb zKey).toArray 41)).alloc (.cells (vb zKey).toArray 41)) w.heap.size 41 zKey:=Row.alloc (Row.new w 41 zKey) _
 have h5:Row ((w.alloc (.cells (vb zKey).toArray 41)).alloc (.cells (vb zKey).toArray 41)) (w.heap.size+1) 41 zKey:=new2 w _ 41 _
 have hB:Below w.heap.size w ((w.alloc (.cells (vb zKey).toArray 41)).alloc (.cells (vb zKey).toArray 41)):=((Below.refl _ _).alloc (Nat.le_refl _) _).alloc (by simp) _
 generalize (w.alloc (.cells (vb zKey).toArray 41)).alloc (.cells (vb zKey).toArray 41)=w1 at *
 have hlt:=h5.lt
 have H4:=Hd.mk h4
 have H5:=Hd.mk h5
 clear h4 h5
 have h255:ub 255=255:=by simp [ub]
 have h254:ub 254=254:=by simp [ub]
 have hR3:=Row.new w1 5 [255,254,k]
 simp only [vb_cons,vb_nil,h255,h254] at hR3
 have HR3:Hd (Row (w1.alloc (.cells #[.int .u8 255,.int .u8 254,.int .u8 (ub k)] 5)) w1.heap.size 5 [255,254,k]):=⟨by unfold Row;simp only [vb_cons,vb_nil,h255,h254];exact heap_alloc_new w1 _⟩
 clear hR3 h255 h254
 go_upto_region 3 with (refine wl_copy rfl (.tmp 6) (.tmp 8) rfl (w.heap.size+1) 0 16 16 41 zKey [255,254,k] (.slice (some ⟨w1.heap.size,0,none⟩) 3 3) rfl rfl (H5.out.alloc _) (SB.row HR3.out (by simp [maxLen])) (by simp) (by simp) (by simp [zKey]) ?_;intro w2 hr2 hg2 hs2)
 simp only [Act.put,u1,u2,u3]
 have h42:Row w2 w.heap.size 41 zKey:=(H4.out.alloc _).grown' hg2 (by simp)
 have hB2:Below w.heap.size w w2:=(hB.alloc hB.size (.cells #[.int .u8 255,.int .u8 254,.int .u8 (ub k)] 5)).grown hg2 (by have:=hB.size;simp;omega) (by rintro j hj;cases hj;omega)
 clear H4 H5 HR3 hg2 hB
 refine oH_begin (n:=5) (fun _=>True) (by kernel_rfl) rfl ?_
 have hS:Row (w2.drewN 1) (w.heap.size+1) 41 (ovr zKey 0 [255,254,k])/\Row (w2.drewN 1) w.heap.size 41 zKey/\Below w.heap.size w (w2.drewN 1):=⟨hr2.drewN 1,h42.drewN 1,below_drewN hB2 1⟩
 generalize w2.drewN 1=w3 at *
 refine oV (i:=0) (some 10) (.slice (some ⟨w.heap.size+1,8,none⟩) 8 8) rfl rfl trivial (by intro W _;simp [go_sem]) ?_
 simp only [Act.put,u1,u2,u3]
 refine oV (i:=1) (some 11) (.int .i64 (n:Int)) rfl rfl trivial (fun _ _=>rfl) ?_
 simp only [Act.put,u1,u2,u3]
 refine oV (i:=2) (some 12) (.int .u64 (n:Int)) rfl rfl trivial (by intro W _;have e:=u64_of n hn;simp [go_sem,e]) ?_
 simp only [Act.put,u1,u2,u3]
 refine oH_call (i:=3) (some 13) rfl rfl (by kernel_rfl) (by kernel_rfl) 93 _ _ rfl [.int .u64 (n:Int)] rfl (by kernel_rfl) (put_any n _) ?_
 rintro e w4 ⟨vp,rfl,hp,hb4⟩
 have hS4:Row w4 (w.heap.size+1) 41 (ovr zKey 0 [255,254,k])/\Row w4 w.heap.size 41 zKey/\Below w.heap.size w w4:=⟨hS.1.below hb4 hS.1.lt,hS.2.1.below hb4 hS.2.1.lt,hS.2.2.trans (hb4.mono hS.2.2.size)⟩
 refine ⟨_,rfl,trivial,?_⟩
 simp only [Act.put,u1,u2,u3]
 refine oH_run (i:=4) (some 14) (goInt (put8 n).length) rfl rfl (by kernel_rfl) (by kernel_rfl) (exec_copy (.tmp 10) (.tmp 13) (by rfl) (w.heap.size+1) 8 8 8 41 _ (put8 n) vp (by rfl) (by rfl) hS4.1 hp.sb (fun e=>by have:=congrArg List.length e;rw [put8_len] at this;cases this) (by rw [put8_len];omega) (by rw [put8_len,ovr_len _ _ _ (by simp [zKey])];simp [zKey])) trivial ?_
 simp only [Act.put,u1,u2,u3]
 have hr5:Row (w4.setRow (w.heap.size+1) (vb (ovr (ovr zKey 0 [255,254,k]) 8 (put8 n))).toArray) (w.heap.size+1) 41 (ovr (ovr zKey 0 [255,254,k]) 8 (put8 n)):=Blk.setRow hS4.1 _
 have hg5:=only_setRow (w:=w4) (w.heap.size+1) (vb (ovr (ovr zKey 0 [255,254,k]) 8 (put8 n))).toArray
 generalize w4.setRow (w.heap.size+1) (vb (ovr (ovr zKey 0 [255,254,k]) 8 (put8 n))).toArray=w5 at *
 rw [Hov.out] at hr5
 have h45:Row w5 w.heap.size 41 zKey:=hS4.2.1.grown' hg5 (by simp)
 have hB5:Below w.heap.size w w5:=hS4.2.2.grown hg5 hS4.2.2.size (by rintro j hj;cases hj;omega)
 clear hS hS4 hb4 hp hg5 hr2 h42 hB2
 refine wpAnyH_done (by kernel_rfl) ?_ _
 have hi1:(Tryz.prog.info? 41).map (·.size)=some (vb (mkB k n)).length:=i42
 have hlt5:=hr5.lt
 have Hr5:=Hd.mk hr5
 have H45:=Hd.mk h45
 have Hi1:=Hd.mk hi1
 clear hr5 h45 hi1
 go_wp2_with (first|(refine wl_load rfl 41 _ rfl (w.heap.size+1) 0 rfl 41 (vb (mkB k n)) (vb (mkB k n)) _ Hr5.out (by simp) ty42 rfl (by exact Hi1.out) ?_)|(refine wl_storeW rfl 41 _ _ rfl w.heap.size 0 (vb (mkB k n)) rfl rfl 41 _ (vb (mkB k n)) H45.out (by simp [zKey,mkB_len]) (by exact Hi1.out) (vb_ones _) (by simp [zKey,mkB_len]) ?_;intro w6 hb6 hg6 hs6))
 refine bodyPost_ret (results_cell_row (p:=4) (ty:=41) rfl _ _ w.heap.size 41 (vb (mkB k n)).toArray (0,0) _ rfl (by exact hb6) ty42 rfl (by rw [Hi1.out];simp)) rfl ?_
 exact ⟨rfl,hB5.grown hg6 hB5.size (by rintro j hj;cases hj;omega)⟩
end
section
open Go.RowKit
theorem results_cell_tmp{P:Program}{fn:Func}{p q:Tmp}{ty:TypeId}(h:fn.results=#[.cell p ty,.tmp q])(tmps:Array Value)(w:World)(g:Nat)(t:TypeId)(cs:List Value)(d:TypeDesc)(u:Value)
   (hp:tmps.getD p undef=.pointer (some ⟨g,0,none⟩)) (hq:tmps.getD q undef=u) (hg:Blk w g t cs)
   (hu:P.underlying ty=some d) (hd:(match d with | .struct _ | .array _ _=>true|_=>false)=true) (hi:(P.info? ty).map (·.size)=some cs.length) :
   (results fn tmps).run P w=.ok (.tuple #[.agg cs.toArray,u]) w:=by
 have hp':tmps[p]?.getD undef=.pointer (some ⟨g,0,none⟩):=by simpa using hp
 have hq':tmps[q]?.getD undef=u:=by simpa using hq
 have hl:=run_loadVar_row (P:=P) w g t ty cs.toArray (0,0) d hg hu hd (by rw [hi];simp)
 simp [results,h,hp',hq',asAddr,hl]
end
section
open Go.RowKit Go.QT
def KPost(w:World)(l:Bytes)(e:Ending)(w':World):Prop:=
 e=.returned (.tuple #[.agg (vb (if l.length=16 then l else zKey)).toArray,.bool (decide (l.length=16))])/\Below w.heap.size w w'
theorem ovr_all(l:Bytes)(h:l.length=16):ovr zKey 0 l=l:=by
 simp [ovr,h,zKey]
theorem sb_form{w:World}{v:Value}{l:Bytes}(hv:SB w v l):∃ A c,v=.slice A l.length c/\l.length<=c/\c<=2 ^ 63-1:=by
 obtain ⟨A,c,e,h1,h2,_⟩:=hv
 exact ⟨A,c,e,h1,by unfold maxLen at h2;exact h2⟩
theorem okey_any(v:Value)(l:Bytes)(w:World)(hv:SB w v l):Calls Tryz.prog 139 #[v] w (KPost w l):=by
 obtain ⟨A,c,rfl,hc1,hc2⟩:=sb_form hv
 have Hv:=Hd.mk hv
 clear hv
 have hi0:(Tryz.prog.info? 41).map (·.size)=some (vb zKey).length:=i42
 have Hi0:=Hd.mk hi0
 clear hi0
 by_cases h16:l.length=16
 · have hd:(((l.length:Nat):Int) != 16)=false:=by rw [h16];rfl
   have H16:=Hd.mk h16
   have Hov:=Hd.mk (ovr_all l h16)
   have hi1:(Tryz.prog.info? 41).map (·.size)=some (vb l).length:=by rw [vb_length,h16];exact i42
   have Hi1:=Hd.mk hi1
   clear hi1 h16
   go_enter Tryz.func139,Tryz.ntmps139
   go_upto_region 2 with (fail)
   rw [z16_eq]
   have h2:Row ((w.alloc (.cells (vb zKey).toArray 41)).alloc (.cells (vb zKey).toArray 41)) w.heap.size 41 zKey:=Row.alloc (Row.new w 41 zKey) _
   have h4:Row ((w.alloc (.cells (vb zKey).toArray 41)).alloc (.cells (vb zKey).toArray 41)) (w.heap.size+1) 41 zKey:=new2 w _ 41 _
   have hB:Below w.heap.size w ((w.alloc (.cells (vb zKey).toArray 41)).alloc (.cells (vb zKey).toArray 41)):=((Below.refl _ _).alloc (Nat.le_refl _) _).alloc (by simp) _
   generalize (w.alloc (.cells (vb zKey).toArray 41)).alloc (.cells (vb zKey).toArray 41)=w1 at *
   have hlt:=h4.lt
   have H2:=Hd.mk h2
   have H4:=Hd.mk h4
   clear h2 h4
   go_upto_region 5 with (refine wl_copy rfl (.tmp 9) (.tmp 10) rfl (w.heap.size+1) 0 16 16 41 zKey l (.slice A l.length c) rfl rfl H4.out (Hv.out.below hB) (by intro e;have:=H16.out;rw [e] at this;cases this) (by rw [H16.out];omega) (by rw [H16.out];simp [zKey]) ?_;intro w2 hr2 hg2 hs2)
   rw [Hov.out] at hr2
   have h22:=H2.out.grown' hg2 (by simp)
   have hB2:Below w.heap.size w w2:=hB.grown hg2 hB.size (by rintro j hj;cases hj;omega)
   have Hr2:=Hd.mk hr2
   have H22:=Hd.mk h22
   clear hr2 h22 H2 H4 hg2 hs2 hB
   go_wp2_with (first|(refine wl_load rfl 41 _ rfl (w.heap.size+1) 0 rfl 41 (vb l) (vb l) _ Hr2.out (by simp) ty42 rfl (by exact Hi1.out) ?_)|(refine wl_storeW rfl 41 _ _ rfl w.heap.size 0 (vb l) rfl rfl 41 _ (vb l) H22.out (by simp [zKey,H16.out]) (by exact Hi1.out) (vb_ones _) (by simp [zKey,H16.out]) ?_;intro w3 hr3 hg3 hs3))
   have hB3:=hB2.grown hg3 hB2.size (by rintro j hj;cases hj;omega)
   refine bodyPost_ret (results_cell_tmp (p:=2) (q:=3) (ty:=41) rfl _ _ w.heap.size 41 (vb l) _ (.bool true) rfl rfl hr3 ty42 rfl Hi1.out) rfl ⟨?_,hB3⟩
   rw [if_pos H16.out,decide_eq_true H16.out]
 have hd:(((l.length:Nat):Int) != 16)=true:=by rw [bne_iff_ne];omega
 have H16:=Hd.mk h16
 clear h16
 go_enter Tryz.func139,Tryz.ntmps139
 go_upto_region 2 with (fail)
 rw [z16_eq]
 have h2:Row ((w.alloc (.cells (vb zKey).toArray 41)).alloc (.cells (vb zKey).toArray 41)) w.heap.size 41 zKey:=Row.alloc (Row.new w 41 zKey) _
 have h4:Row ((w.alloc (.cells (vb zKey).toArray 41)).alloc (.cells (vb zKey).toArray 41)) (w.heap.size+1) 41 zKey:=new2 w _ 41 _
 have hB:Below w.heap.size w ((w.alloc (.cells (vb zKey).toArray 41)).alloc (.cells (vb zKey).toArray 41)):=((Below.refl _ _).alloc (Nat.le_refl _) _).alloc (by simp) _
 generalize (w.alloc (.cells (vb zKey).toArray 41)).alloc (.cells (vb zKey).toArray 41)=w1 at *
 have hlt:=h4.lt
 have H2:=Hd.mk h2
 have H4:=Hd.mk h4
 clear h2 h4
 go_wp2_with (first|(refine wl_load rfl 41 _ rfl (w.heap.size+1) 0 rfl 41 (vb zKey) (vb zKey) _ H4.out (by simp) ty42 rfl (by exact Hi0.out) ?_)|(refine wl_storeW rfl 41 _ _ rfl w.heap.size 0 (vb zKey) rfl rfl 41 _ (vb zKey) H2.out (by simp) (by exact Hi0.out) (vb_ones _) (by simp [zKey]) ?_;intro w3 hr3 hg3 hs3))
 have hB3:=hB.grown hg3 hB.size (by rintro j hj;cases hj;omega)
 refine bodyPost_ret (results_cell_tmp (p:=2) (q:=3) (ty:=41) rfl _ _ w.heap.size 41 (vb zKey) _ (.bool false) rfl rfl hr3 ty42 rfl Hi0.out) rfl ⟨?_,hB3⟩
 rw [if_neg H16.out,decide_eq_false H16.out]
end
section
open Go.RowKit Go.QT
/-- The first place of a byte; -1: there is none. -/
def idxB(x:UInt8):Bytes->Nat->Int
 | [],_=>-1
 | c::l,k=>if x=c then k else idxB x l (k+1)
theorem idxB_hit(x:UInt8):∀ (l:Bytes) (k j:Nat),j<l.length->(∀ i,i<j->x≠gb l i)->x=gb l j->idxB x l k=((k+j:Nat):Int)
 | c::l,k,0,_,_,h=>by
   have:x=c:=h
   simp [idxB,this]
 | c::l,k,j+1,hj,hn,h=>by
   have h0:x≠c:=hn 0 (by omega)
   rw [idxB,if_neg h0,idxB_hit x l (k+1) j (by simpa using hj) (fun i hi=>hn (i+1) (by omega)) h]
   omega
theorem idxB_miss(x:UInt8):∀ (l:Bytes) (k:Nat),(∀ i,i<l.length->x≠gb l i)->idxB x l k = -1
 | [],_,_=>rfl
 | c::l,k,hn=>by
   have h0:x≠c:=hn 0 (by simp)
   rw [idxB,if_neg h0,idxB_miss x l (k+1) (fun i hi=>hn (i+1) (by simpa using hi))]
theorem idxB_mem(x:UInt8):∀ (l:Bytes) (k:Nat),decide (0<=idxB x l k)=decide (x ∈ l)
 | [],_=>by simp [idxB]
 | c::l,k=>by
   have ih:=idxB_mem x l (k+1)
   by_cases h:x=c
   · simp [idxB,h]
   rw [idxB,if_neg h,ih];simp [h]
def VPost(w:World)(v:Value)(e:Ending)(w':World):Prop:=e=.returned v/\w=w'
theorem index_any(v:Value)(l:Bytes)(x:UInt8)(w:World)(hv:SB w v l):Calls Tryz.prog 172 #[v,.int .u8 (ub x)] w (VPost w (.int .i64 (idxB x l 0))):=by
 obtain ⟨A,c,hve,hc1,hc2⟩:=sb_form hv
 have hcell:∀ i,i<l.length->∃ bb o,A=some ⟨bb,o,none⟩/\w.cell? ⟨bb,o+i,none⟩=some (.int .u8 (ub (gb l i))):=by
   intro i hi
   obtain ⟨A',c',e,_,_,h⟩:=hv
   obtain ⟨b,o,hA,_,hcl⟩:=h (by rintro rfl;simp at hi)
   rw [hve] at e
   injection e with e1
   exact ⟨b,o,e1.trans hA,hcl i hi⟩
 subst hve
 have Hcell:=Hd.mk hcell
 have Hhit:=Hd.mk (idxB_hit x l 0)
 have Hmiss:=Hd.mk (idxB_miss x l 0)
 clear hcell hv
 go_enter Tryz.func172,Tryz.ntmps172
 go_wp2
 go_loop [8] (fun i=>∃ k:Nat,k<=l.length/\i=.int .i64 (k:Int)/\Hd (∀ i,i<k->x≠gb l i)) (fun i=>l.length-(intOf i).toNat)
 case atStart=>exact ⟨0,by omega,rfl,⟨fun i hi=>absurd hi (by omega)⟩⟩
 case round =>
   obtain ⟨k,hk,rfl,hno⟩:=hrel
   by_cases hlt:k<l.length
   · obtain ⟨bb,o,hA,hx⟩:=Hcell.out k hlt
     subst hA
     by_cases he:x=gb l k
     · have ht:(ub x == ub (gb l k))=true:=by rw [beq_iff_eq];exact congrArg ub he
       have Hr:=Hd.mk (Hhit.out k hlt hno.out he)
       clear he Hcell Hhit Hmiss
       go_wp2
       go_ret
       exact ⟨by rw [Hr.out,Nat.zero_add];rfl,rfl⟩
     have ht:(ub x == ub (gb l k))=false:=by rw [ub_beq];simpa using he
     have hno2:Hd (∀ i,i<k+1->x≠gb l i):=⟨fun i hi=>by
       by_cases hik:i=k
       · subst hik;exact he
       exact hno.out i (by omega)⟩
     have He:=Hd.mk he
     clear he
     go_wp2
     refine ⟨⟨k+1,by omega,by go_num,hno2⟩,by simp [intOf];omega⟩
   have hk2:k=l.length:=by omega
   rw [hk2] at hno
   have Hr:=Hd.mk (Hmiss.out hno.out)
   clear hk2
   go_wp2
   go_ret
   exact ⟨by rw [Hr.out];rfl,rfl⟩
theorem contains_any(v:Value)(l:Bytes)(x:UInt8)(w:World)(hv:SB w v l):Calls Tryz.prog 171 #[v,.int .u8 (ub x)] w (VPost w (.bool (decide (x ∈ l)))):=by
 have Hm:=Hd.mk (idxB_mem x l 0)
 have Hv:=Hd.mk hv
 clear hv
 go_enter Tryz.func171,Tryz.ntmps171
 go_wp2_with (go_at_call 172;refine (index_any _ l x _ Hv.out).mono ?_;rintro e w' ⟨rfl,rfl⟩)
 go_ret
 exact ⟨by rw [← Hm.out];rfl,rfl⟩
theorem clone_any(v:Value)(l:Bytes)(w:World)(hv:SB w v l)(hl:l.length<=140737488355328):Calls Tryz.prog 167 #[v] w (BPost w l):=by
 obtain ⟨A,c,rfl,hc1,hc2⟩:=sb_form hv
 have Hv:=Hd.mk hv
 clear hv
 rcases A with _|A
 · have h0:l=[]:=by
     by_cases h:l=[]
     · exact h
     obtain ⟨b,o,c',e,_⟩:=Hv.out.open_ h
     cases e
   have H0:=Hd.mk h0
   clear h0
   go_enter Tryz.func167,Tryz.ntmps167
   have hn:∀ W,(binOp .eql 25 (.slice none l.length c) (.slice none 0 0)).run Tryz.prog W=.ok (.bool true) W:=fun W=>Lib.run_eql_slice_nil W 25 5 none _ _ _ _ u28
   go_wp2
   go_ret
   exact ⟨_,rfl,by rw [H0.out];exact OB.nil _ _,Below.refl _ _⟩
 go_enter Tryz.func167,Tryz.ntmps167
 have hn:∀ W,(binOp .eql 25 (.slice (some A) l.length c) (.slice none 0 0)).run Tryz.prog W=.ok (.bool false) W:=fun W=>Lib.run_eql_slice_nil W 25 5 (some A) _ _ _ _ u28
 go_upto_region 3 with (fail)
 go_wp2_with (at_builtin;refine wl_append rfl (.tmp 5) (.tmp 6) rfl w.heap.size (.slice (some ⟨w.heap.size,0,none⟩) 0 0) (.slice (some A) l.length c) [] l rfl rfl (OB.new _ _ [] (by simp) (Row.new w 5 []) (Nat.le_refl _)) (Hv.out.alloc _) (by simpa using hl) (by simp) ?_;intro v' w' hv' hg' hat')
 go_ret
 rw [List.nil_append] at hv'
 exact ⟨_,rfl,hv',((Below.refl _ _).alloc (Nat.le_refl _) (.cells #[] 5)).grown hg' (by simp) (by rintro j hj;simp [Value.ownBlock] at hj;omega)⟩
end
section
open Go.RowKit Go.QT
/-- What is told of a mark. -/
def mkV(o:Option (UInt8 × Nat)):Value:=.tuple #[.int .u8 (ub ((o.map (·.1)).getD 0)),.int .i64 (((o.map (·.2)).getD 0:Nat):Int),.bool o.isSome]
def MPost(w:World)(l:Bytes)(e:Ending)(w':World):Prop:=e=.returned (mkV (markOf l))/\Below w.heap.size w w'
theorem markOf_no(l:Bytes)(h:¬ (l.length=16/\(gb l 2=107∨gb l 2=98∨gb l 2=100)/\getN (l.drop 8)<=1099511627776/\l=mkB (gb l 2) (getN (l.drop 8)))):mkV (markOf l)=.tuple #[.int .u8 0,.int .i64 0,.bool false]:=by
 rw [markOf,if_neg h];simp [mkV,ub]
theorem markOf_yes(l:Bytes)(h:l.length=16/\(gb l 2=107∨gb l 2=98∨gb l 2=100)/\getN (l.drop 8)<=1099511627776/\l=mkB (gb l 2) (getN (l.drop 8))):mkV (markOf l)=.tuple #[.int .u8 (ub (gb l 2)),.int .i64 ((getN (l.drop 8):Nat):Int),.bool true]:=by
 rw [markOf,if_pos h];simp [mkV]
theorem SB.rowCut{w:World}{g T:Nat}{l:Bytes}(h:Row w g T l)(off:Nat)(hm:l.length<=maxLen):SB w (.slice (some ⟨g,off,none⟩) (l.length-off) (l.length-off)) (l.drop off):=by
 refine ⟨some ⟨g,off,none⟩,l.length-off,by rw [List.length_drop],by rw [List.length_drop];omega,by omega,fun hne=>⟨g,off,rfl,h.lt,fun i hi=>?_⟩⟩
 rw [List.length_drop] at hi
 have:=h.cell (i:=off+i) (by omega)
 rw [this]
 simp [gb]
theorem exec_cell{P:Program}{o:Oper}{a:Act}{W:World}(x:Operand)(t:TypeId)(ho:o.op=.load t x)(p:Addr)(v:Value)(hx:a.eval x=.pointer (some p))(ht:(isAgg t).run P W=.ok false W)(hc:W.cell? p=some v) :
   (execOp a.eval o).run P W=.ok (.value v) W:=by
 have hl:(loadVar t p).run P W=.ok v W:=by simp [loadVar,ht,hc]
 unfold execOp
 simp only [ho,hx,Instr.loadAt,Instr.sureAddr,Sem.run_bind,Sem.run_pure,Result.andThen_ok,hl]
theorem wrapN(N:Nat)(h:N<=1099511627776):IntKind.i64.wrap (N:Int)=(N:Int):=by rw [IntKind.wrap_i64];omega
theorem agg5(W:World):(isAgg 5).run Tryz.prog W=.ok false W:=by kernel_rfl
theorem markC(x:UInt8):decide (x ∈ ([107,98,100]:Bytes))=decide (x=107∨x=98∨x=100):=by simp
theorem Mark_any(v:Value)(l:Bytes)(w:World)(hv:SB w v l):Calls Tryz.prog 170 #[v] w (MPost w l):=by
 obtain ⟨A,c,rfl,hc1,hc2⟩:=sb_form hv
 have Hv:=Hd.mk hv
 have Hno:=Hd.mk (markOf_no l)
 have Hyes:=Hd.mk (markOf_yes l)
 clear hv
 by_cases h16:l.length=16
 · have e16:(if l.length=16 then l else zKey)=l:=if_pos h16
   rw [h16] at hc1 Hv ⊢
   have d16:=decide_eq_true h16
   have hi:(Tryz.prog.info? 41).map (·.size)=some (vb l).length:=by rw [vb_length,h16];exact i42
   have Hi:=Hd.mk hi
   have H16:=Hd.mk h16
   have E16:=Hd.mk e16
   have D16:=Hd.mk d16
   clear hi e16 d16 h16
   go_enter Tryz.func170,Tryz.ntmps170
   go_upto_region 2 with (first|(go_at_call 139;refine (okey_any _ l _ Hv.out).mono ?_;rintro e w1 ⟨rfl,hb1⟩;rw [E16.out,D16.out])|(refine wl_storeW rfl 41 _ _ rfl w1.heap.size 0 (vb l) rfl rfl 41 _ (vb l) (Blk.new w1 41 (List.replicate 16 (.int .u8 0))) (by simp [H16.out]) (by exact Hi.out) (vb_ones _) (by simp [H16.out]) ?_;intro w2 hr2 hg2 hs2))
   have hR:Row w2 w1.heap.size 41 l:=hr2
   have hB:Below w.heap.size w w2:=(hb1.alloc hb1.size (.cells (List.replicate 16 (Value.int .u8 0)).toArray 41)).grown hg2 (by have:=hb1.size;simp;omega) (by have:=hb1.size;rintro j hj;cases hj;omega)
   have hgb:=hb1.size
   generalize w1.heap.size=g at *
   clear hr2 hg2 hs2 hb1 w1 E16 D16 Hi
   have x0:=hR.cell (i:=0) (by rw [H16.out];omega)
   have x1:=hR.cell (i:=1) (by rw [H16.out];omega)
   have HR:=Hd.mk hR
   have hlt:=hR.lt
   clear hR
   by_cases h0:gb l 0=255
   · have t0:(ub (gb l 0) != 255)=false:=by rw [h0];simp [ub]
     by_cases h1:gb l 1=254
     · have t1:(ub (gb l 1) != 254)=false:=by rw [h1];simp [ub]
       have H0:=Hd.mk h0
       have H1:=Hd.mk h1
       clear h0 h1
       have hcut:=SB.rowCut HR.out 8 (by rw [H16.out];unfold maxLen;omega)
       rw [H16.out] at hcut
       have Hcut:=Hd.mk hcut
       have hl8:(l.drop 8).length=8:=by rw [List.length_drop,H16.out]
       have Hp:=Hd.mk (getP_yes (l.drop 8) (by omega) (by omega))
       have hN:getN (l.drop 8)<18446744073709551616:=by have:=getN_lt8 (l.drop 8) 8 (by omega) (by omega);rwa [List.take_of_length_le (by omega)] at this
       clear hcut hl8
       go_upto_region 5 with (go_at_call 61;refine (get_any _ (l.drop 8) _ Hcut.out).mono ?_;rintro e w3 ⟨rfl,nq,rfl⟩;rw [Hp.out])
       try simp only [Option.getD_some,Option.isSome_some]
       have HR:=Hd.mk (HR.out.drewN nq)
       have hB:=below_drewN hB nq
       have hlt:g<(w2.drewN nq).heap.size:=hlt
       generalize w2.drewN nq=w3 at *
       clear Hcut Hp x0 x1 t0 t1
       generalize hNe:getN (l.drop 8)=N at *
       have HNe:=Hd.mk hNe
       clear hNe
       by_cases hn:N<=1099511627776
       · have dn:decide ((N:Int)>1099511627776)=false:=by simp;omega
         by_cases hm:mkB (gb l 2) N=l
         · by_cases hk:gb l 2=107∨gb l 2=98∨gb l 2=100
           · have HY:=Hd.mk (Hyes.out ⟨H16.out,hk,hn,hm.symm⟩)
             refine oH_begin (n:=18) (fun W=>Row W g 41 l/\Below w.heap.size w W) (by kernel_rfl) rfl ?_
             have hS:Row (w3.drewN 1) g 41 l/\Below w.heap.size w (w3.drewN 1):=⟨HR.out.drewN 1,below_drewN hB 1⟩
             generalize w3.drewN 1=w4 at *
             refine oV (i:=0) (some 31) (.int .u64 (N:Int)) rfl rfl hS (fun _ _=>rfl) ?_
             simp only [Act.put,u1,u2,u3]
             refine oV (i:=1) (some 32) (.bool false) rfl rfl hS (by intro W _;simp [go_sem];omega) ?_
             simp only [Act.put,u1,u2,u3]
             refine oV (i:=2) (some 33) (.bool false) rfl rfl hS (fun _ _=>rfl) ?_
             simp only [Act.put,u1,u2,u3]
             refine oV (i:=3) (some 34) (.pointer (some ⟨g,2,none⟩)) rfl rfl hS (by intro W _;simp [go_sem]) ?_
             simp only [Act.put,u1,u2,u3]
             refine oV (i:=4) (some 35) (.int .u8 (ub (gb l 2))) rfl rfl hS (fun W h=>exec_cell _ _ (by rfl) ⟨g,2,none⟩ _ (by rfl) (agg5 W) (h.1.cell (i:=2) (by rw [H16.out];omega))) ?_
             simp only [Act.put,u1,u2,u3]
             refine oV (i:=5) (some 36) (.int .u64 (N:Int)) rfl rfl hS (fun _ _=>rfl) ?_
             simp only [Act.put,u1,u2,u3]
             refine oV (i:=6) (some 37) (.int .i64 (N:Int)) rfl rfl hS (by intro W _;have e:=wrapN N hn;simp [go_sem,e]) ?_
             simp only [Act.put,u1,u2,u3]
             refine oV (i:=8) (some 39) (.agg (vb l).toArray) rfl rfl hS (fun W h=>exec_load 41 _ rfl (g) 0 rfl 41 (vb l) (vb l) _ (h.1) (by simp) ty42 rfl (by rw [vb_length,H16.out];exact i42)) ?_
             simp only [Act.put,u1,u2,u3]
             refine oH_call (i:=7) (some 38) rfl rfl (by kernel_rfl) (by kernel_rfl) 71 _ _ rfl [.int .u8 (ub (gb l 2)),.int .i64 (N:Int)] rfl (by kernel_rfl) (smark_any (gb l 2) N (by omega) _) ?_
             rintro e w5 ⟨rfl,hb5⟩
             have hS5:Row w5 g 41 l/\Below w.heap.size w w5:=⟨hS.1.below hb5 hS.1.lt,hS.2.trans (hb5.mono hS.2.size)⟩
             refine ⟨_,rfl,hS5,?_⟩
             simp only [Act.put,u1,u2,u3]
             refine oV (i:=9) (some 40) (.bool false) rfl rfl hS5 (fun W _=>(exec_ne16 41 _ _ _ (by rfl) (mkB (gb l 2) N) l (by rfl) (by rfl) ty42 eg42 rfl H16.out W).trans (by rw [decide_eq_true hm];rfl)) ?_
             simp only [Act.put,u1,u2,u3]
             refine oV (i:=10) (some 41) (.bool false) rfl rfl hS5 (fun _ _=>rfl) ?_
             simp only [Act.put,u1,u2,u3]
             refine oV (i:=11) (some 42) (.bool false) rfl rfl hS5 (fun _ _=>rfl) ?_
             simp only [Act.put,u1,u2,u3]
             refine oV (i:=13) (some 44) (.pointer (some ⟨g,2,none⟩)) rfl rfl hS5 (by intro W _;simp [go_sem]) ?_
             simp only [Act.put,u1,u2,u3]
             refine oV (i:=14) (some 45) (.int .u8 (ub (gb l 2))) rfl rfl hS5 (fun W h=>exec_cell _ _ (by rfl) ⟨g,2,none⟩ _ (by rfl) (agg5 W) (h.1.cell (i:=2) (by rw [H16.out];omega))) ?_
             simp only [Act.put,u1,u2,u3]
             have hS6:Row (w5.alloc (.cells #[.int .u8 107,.int .u8 98,.int .u8 100] 5)) g 41 l/\Below w.heap.size w (w5.alloc (.cells #[.int .u8 107,.int .u8 98,.int .u8 100] 5)):=⟨hS5.1.alloc _,hS5.2.alloc hS5.2.size _⟩
             refine oH_run (i:=12) (some 43) (.slice (some ⟨w5.heap.size,0,none⟩) 3 3) rfl rfl (by kernel_rfl) (by kernel_rfl) (show _=Result.ok _ (w5.alloc (.cells #[.int .u8 107,.int .u8 98,.int .u8 100] 5)) by kernel_rfl) hS6 ?_
             simp only [Act.put,u1,u2,u3]
             have hsb:SB (w5.alloc (.cells #[.int .u8 107,.int .u8 98,.int .u8 100] 5)) (.slice (some ⟨w5.heap.size,0,none⟩) 3 3) [107,98,100]:=by
               have h:=Row.new w5 5 [107,98,100]
               have e:(vb [107,98,100]).toArray=#[.int .u8 107,.int .u8 98,.int .u8 100]:=by simp [ub]
               rw [e] at h
               exact SB.row (l:=[107,98,100]) h (by simp [maxLen])
             generalize w5.alloc (.cells #[.int .u8 107,.int .u8 98,.int .u8 100] 5)=w6 at *
             refine oH_call (i:=15) (some 46) rfl rfl (by kernel_rfl) (by kernel_rfl) 171 _ _ rfl [.slice (some ⟨w5.heap.size,0,none⟩) 3 3,.int .u8 (ub (gb l 2))] rfl (by kernel_rfl) (contains_any _ [107,98,100] (gb l 2) _ hsb) ?_
             rintro e w7 ⟨rfl,rfl⟩
             rw [markC,decide_eq_true hk]
             refine ⟨_,rfl,hS6,?_⟩
             simp only [Act.put,u1,u2,u3]
             refine oV (i:=16) (some 47) (.bool false) rfl rfl hS6 (by intro W _;simp [go_sem]) ?_
             simp only [Act.put,u1,u2,u3]
             refine oV (i:=17) (some 48) (.bool false) rfl rfl hS6 (fun _ _=>rfl) ?_
             simp only [Act.put,u1,u2,u3]
             refine wpAnyH_done (by kernel_rfl) ?_ _
             have x2:=hS6.1.cell (i:=2) (by rw [H16.out];omega)
             have e:IntKind.i64.wrap (N:Int)=(N:Int):=by rw [IntKind.wrap_i64];omega
             have HS:=Hd.mk hS6
             clear hS hS5 hS6 hm hk
             go_wp2
             refine bodyPost_ret (results_tmp3 rfl _ _ _) rfl ?_
             exact ⟨by rw [HY.out];rfl,HS.out.2⟩
           have HY:=Hd.mk (Hno.out fun hh=>hk hh.2.1)
           refine oH_begin (n:=18) (fun W=>Row W g 41 l/\Below w.heap.size w W) (by kernel_rfl) rfl ?_
           have hS:Row (w3.drewN 1) g 41 l/\Below w.heap.size w (w3.drewN 1):=⟨HR.out.drewN 1,below_drewN hB 1⟩
           generalize w3.drewN 1=w4 at *
           refine oV (i:=0) (some 31) (.int .u64 (N:Int)) rfl rfl hS (fun _ _=>rfl) ?_
           simp only [Act.put,u1,u2,u3]
           refine oV (i:=1) (some 32) (.bool false) rfl rfl hS (by intro W _;simp [go_sem];omega) ?_
           simp only [Act.put,u1,u2,u3]
           refine oV (i:=2) (some 33) (.bool false) rfl rfl hS (fun _ _=>rfl) ?_
           simp only [Act.put,u1,u2,u3]
           refine oV (i:=3) (some 34) (.pointer (some ⟨g,2,none⟩)) rfl rfl hS (by intro W _;simp [go_sem]) ?_
           simp only [Act.put,u1,u2,u3]
           refine oV (i:=4) (some 35) (.int .u8 (ub (gb l 2))) rfl rfl hS (fun W h=>exec_cell _ _ (by rfl) ⟨g,2,none⟩ _ (by rfl) (agg5 W) (h.1.cell (i:=2) (by rw [H16.out];omega))) ?_
           simp only [Act.put,u1,u2,u3]
           refine oV (i:=5) (some 36) (.int .u64 (N:Int)) rfl rfl hS (fun _ _=>rfl) ?_
           simp only [Act.put,u1,u2,u3]
           refine oV (i:=6) (some 37) (.int .i64 (N:Int)) rfl rfl hS (by intro W _;have e:=wrapN N hn;simp [go_sem,e]) ?_
           simp only [Act.put,u1,u2,u3]
           refine oV (i:=8) (some 39) (.agg (vb l).toArray) rfl rfl hS (fun W h=>exec_load 41 _ rfl (g) 0 rfl 41 (vb l) (vb l) _ (h.1) (by simp) ty42 rfl (by rw [vb_length,H16.out];exact i42)) ?_
           simp only [Act.put,u1,u2,u3]
           refine oH_call (i:=7) (some 38) rfl rfl (by kernel_rfl) (by kernel_rfl) 71 _ _ rfl [.int .u8 (ub (gb l 2)),.int .i64 (N:Int)] rfl (by kernel_rfl) (smark_any (gb l 2) N (by omega) _) ?_
           rintro e w5 ⟨rfl,hb5⟩
           have hS5:Row w5 g 41 l/\Below w.heap.size w w5:=⟨hS.1.below hb5 hS.1.lt,hS.2.trans (hb5.mono hS.2.size)⟩
           refine ⟨_,rfl,hS5,?_⟩
           simp only [Act.put,u1,u2,u3]
           refine oV (i:=9) (some 40) (.bool false) rfl rfl hS5 (fun W _=>(exec_ne16 41 _ _ _ (by rfl) (mkB (gb l 2) N) l (by rfl) (by rfl) ty42 eg42 rfl H16.out W).trans (by rw [decide_eq_true hm];rfl)) ?_
           simp only [Act.put,u1,u2,u3]
           refine oV (i:=10) (some 41) (.bool false) rfl rfl hS5 (fun _ _=>rfl) ?_
           simp only [Act.put,u1,u2,u3]
           refine oV (i:=11) (some 42) (.bool false) rfl rfl hS5 (fun _ _=>rfl) ?_
           simp only [Act.put,u1,u2,u3]
           refine oV (i:=13) (some 44) (.pointer (some ⟨g,2,none⟩)) rfl rfl hS5 (by intro W _;simp [go_sem]) ?_
           simp only [Act.put,u1,u2,u3]
           refine oV (i:=14) (some 45) (.int .u8 (ub (gb l 2))) rfl rfl hS5 (fun W h=>exec_cell _ _ (by rfl) ⟨g,2,none⟩ _ (by rfl) (agg5 W) (h.1.cell (i:=2) (by rw [H16.out];omega))) ?_
           simp only [Act.put,u1,u2,u3]
           have hS6:Row (w5.alloc (.cells #[.int .u8 107,.int .u8 98,.int .u8 100] 5)) g 41 l/\Below w.heap.size w (w5.alloc (.cells #[.int .u8 107,.int .u8 98,.int .u8 100] 5)):=⟨hS5.1.alloc _,hS5.2.alloc hS5.2.size _⟩
           refine oH_run (i:=12) (some 43) (.slice (some ⟨w5.heap.size,0,none⟩) 3 3) rfl rfl (by kernel_rfl) (by kernel_rfl) (show _=Result.ok _ (w5.alloc (.cells #[.int .u8 107,.int .u8 98,.int .u8 100] 5)) by kernel_rfl) hS6 ?_
           simp only [Act.put,u1,u2,u3]
           have hsb:SB (w5.alloc (.cells #[.int .u8 107,.int .u8 98,.int .u8 100] 5)) (.slice (some ⟨w5.heap.size,0,none⟩) 3 3) [107,98,100]:=by
             have h:=Row.new w5 5 [107,98,100]
             have e:(vb [107,98,100]).toArray=#[.int .u8 107,.int .u8 98,.int .u8 100]:=by simp [ub]
             rw [e] at h
             exact SB.row (l:=[107,98,100]) h (by simp [maxLen])
           generalize w5.alloc (.cells #[.int .u8 107,.int .u8 98,.int .u8 100] 5)=w6 at *
           refine oH_call (i:=15) (some 46) rfl rfl (by kernel_rfl) (by kernel_rfl) 171 _ _ rfl [.slice (some ⟨w5.heap.size,0,none⟩) 3 3,.int .u8 (ub (gb l 2))] rfl (by kernel_rfl) (contains_any _ [107,98,100] (gb l 2) _ hsb) ?_
           rintro e w7 ⟨rfl,rfl⟩
           rw [markC,decide_eq_false hk]
           refine ⟨_,rfl,hS6,?_⟩
           simp only [Act.put,u1,u2,u3]
           refine oV (i:=16) (some 47) (.bool true) rfl rfl hS6 (by intro W _;simp [go_sem]) ?_
           simp only [Act.put,u1,u2,u3]
           refine oV (i:=17) (some 48) (.bool true) rfl rfl hS6 (fun _ _=>rfl) ?_
           simp only [Act.put,u1,u2,u3]
           refine wpAnyH_done (by kernel_rfl) ?_ _
           have HS:=Hd.mk hS6
           go_wp2
           refine bodyPost_ret (results_tmp3 rfl _ _ _) rfl ?_
           exact ⟨by rw [HY.out];rfl,HS.out.2⟩
         have HY:=Hd.mk (Hno.out fun hh=>hm hh.2.2.2.symm)
         refine oH_begin (n:=18) (fun W=>Row W g 41 l/\Below w.heap.size w W) (by kernel_rfl) rfl ?_
         have hS:Row (w3.drewN 1) g 41 l/\Below w.heap.size w (w3.drewN 1):=⟨HR.out.drewN 1,below_drewN hB 1⟩
         generalize w3.drewN 1=w4 at *
         refine oV (i:=0) (some 31) (.int .u64 (N:Int)) rfl rfl hS (fun _ _=>rfl) ?_
         simp only [Act.put,u1,u2,u3]
         refine oV (i:=1) (some 32) (.bool false) rfl rfl hS (by intro W _;simp [go_sem];omega) ?_
         simp only [Act.put,u1,u2,u3]
         refine oV (i:=2) (some 33) (.bool false) rfl rfl hS (fun _ _=>rfl) ?_
         simp only [Act.put,u1,u2,u3]
         refine oV (i:=3) (some 34) (.pointer (some ⟨g,2,none⟩)) rfl rfl hS (by intro W _;simp [go_sem]) ?_
         simp only [Act.put,u1,u2,u3]
         refine oV (i:=4) (some 35) (.int .u8 (ub (gb l 2))) rfl rfl hS (fun W h=>exec_cell _ _ (by rfl) ⟨g,2,none⟩ _ (by rfl) (agg5 W) (h.1.cell (i:=2) (by rw [H16.out];omega))) ?_
         simp only [Act.put,u1,u2,u3]
         refine oV (i:=5) (some 36) (.int .u64 (N:Int)) rfl rfl hS (fun _ _=>rfl) ?_
         simp only [Act.put,u1,u2,u3]
         refine oV (i:=6) (some 37) (.int .i64 (N:Int)) rfl rfl hS (by intro W _;have e:=wrapN N hn;simp [go_sem,e]) ?_
         simp only [Act.put,u1,u2,u3]
         refine oV (i:=8) (some 39) (.agg (vb l).toArray) rfl rfl hS (fun W h=>exec_load 41 _ rfl (g) 0 rfl 41 (vb l) (vb l) _ (h.1) (by simp) ty42 rfl (by rw [vb_length,H16.out];exact i42)) ?_
         simp only [Act.put,u1,u2,u3]
         refine oH_call (i:=7) (some 38) rfl rfl (by kernel_rfl) (by kernel_rfl) 71 _ _ rfl [.int .u8 (ub (gb l 2)),.int .i64 (N:Int)] rfl (by kernel_rfl) (smark_any (gb l 2) N (by omega) _) ?_
         rintro e w5 ⟨rfl,hb5⟩
         have hS5:Row w5 g 41 l/\Below w.heap.size w w5:=⟨hS.1.below hb5 hS.1.lt,hS.2.trans (hb5.mono hS.2.size)⟩
         refine ⟨_,rfl,hS5,?_⟩
         simp only [Act.put,u1,u2,u3]
         refine oV (i:=9) (some 40) (.bool true) rfl rfl hS5 (fun W _=>(exec_ne16 41 _ _ _ (by rfl) (mkB (gb l 2) N) l (by rfl) (by rfl) ty42 eg42 rfl H16.out W).trans (by rw [decide_eq_false hm];rfl)) ?_
         simp only [Act.put,u1,u2,u3]
         refine oV (i:=10) (some 41) (.bool true) rfl rfl hS5 (fun _ _=>rfl) ?_
         simp only [Act.put,u1,u2,u3]
         refine oV (i:=11) (some 42) (.bool true) rfl rfl hS5 (fun _ _=>rfl) ?_
         simp only [Act.put,u1,u2,u3]
         refine oK (i:=12) (some 43) rfl rfl hS5 ?_
         simp only [Act.put,u1,u2,u3]
         refine oK (i:=13) (some 44) rfl rfl hS5 ?_
         simp only [Act.put,u1,u2,u3]
         refine oK (i:=14) (some 45) rfl rfl hS5 ?_
         simp only [Act.put,u1,u2,u3]
         refine oK (i:=15) (some 46) rfl rfl hS5 ?_
         simp only [Act.put,u1,u2,u3]
         refine oK (i:=16) (some 47) rfl rfl hS5 ?_
         simp only [Act.put,u1,u2,u3]
         refine oV (i:=17) (some 48) (.bool true) rfl rfl hS5 (fun _ _=>rfl) ?_
         simp only [Act.put,u1,u2,u3]
         refine wpAnyH_done (by kernel_rfl) ?_ _
         have HS:=Hd.mk hS5
         go_wp2
         refine bodyPost_ret (results_tmp3 rfl _ _ _) rfl ?_
         exact ⟨by rw [HY.out];rfl,HS.out.2⟩
       have HY:=Hd.mk (Hno.out fun hh=>hn hh.2.2.1)
       have dn:decide ((N:Int)>1099511627776)=true:=by simp;omega
       refine oH_begin (n:=18) (fun W=>Row W g 41 l/\Below w.heap.size w W) (by kernel_rfl) rfl ?_
       have hS:Row (w3.drewN 1) g 41 l/\Below w.heap.size w (w3.drewN 1):=⟨HR.out.drewN 1,below_drewN hB 1⟩
       generalize w3.drewN 1=w4 at *
       refine oV (i:=0) (some 31) (.int .u64 (N:Int)) rfl rfl hS (fun _ _=>rfl) ?_
       simp only [Act.put,u1,u2,u3]
       refine oV (i:=1) (some 32) (.bool true) rfl rfl hS (by intro W _;simp [go_sem];omega) ?_
       simp only [Act.put,u1,u2,u3]
       refine oV (i:=2) (some 33) (.bool true) rfl rfl hS (fun _ _=>rfl) ?_
       simp only [Act.put,u1,u2,u3]
       refine oK (i:=3) (some 34) rfl rfl hS ?_
       simp only [Act.put,u1,u2,u3]
       refine oK (i:=4) (some 35) rfl rfl hS ?_
       simp only [Act.put,u1,u2,u3]
       refine oK (i:=5) (some 36) rfl rfl hS ?_
       simp only [Act.put,u1,u2,u3]
       refine oK (i:=6) (some 37) rfl rfl hS ?_
       simp only [Act.put,u1,u2,u3]
       refine oK (i:=7) (some 38) rfl rfl hS ?_
       simp only [Act.put,u1,u2,u3]
       refine oK (i:=8) (some 39) rfl rfl hS ?_
       simp only [Act.put,u1,u2,u3]
       refine oK (i:=9) (some 40) rfl rfl hS ?_
       simp only [Act.put,u1,u2,u3]
       refine oV (i:=10) (some 41) (.bool true) rfl rfl hS (fun _ _=>rfl) ?_
       simp only [Act.put,u1,u2,u3]
       refine oV (i:=11) (some 42) (.bool true) rfl rfl hS (fun _ _=>rfl) ?_
       simp only [Act.put,u1,u2,u3]
       refine oK (i:=12) (some 43) rfl rfl hS ?_
       simp only [Act.put,u1,u2,u3]
       refine oK (i:=13) (some 44) rfl rfl hS ?_
       simp only [Act.put,u1,u2,u3]
       refine oK (i:=14) (some 45) rfl rfl hS ?_
       simp only [Act.put,u1,u2,u3]
       refine oK (i:=15) (some 46) rfl rfl hS ?_
       simp only [Act.put,u1,u2,u3]
       refine oK (i:=16) (some 47) rfl rfl hS ?_
       simp only [Act.put,u1,u2,u3]
       refine oV (i:=17) (some 48) (.bool true) rfl rfl hS (fun _ _=>rfl) ?_
       simp only [Act.put,u1,u2,u3]
       refine wpAnyH_done (by kernel_rfl) ?_ _
       have HS:=Hd.mk hS
       go_wp2
       refine bodyPost_ret (results_tmp3 rfl _ _ _) rfl ?_
       exact ⟨by rw [HY.out];rfl,HS.out.2⟩
     have t1:(ub (gb l 1) != 254)=true:=by
       have:ub 254=254:=by simp [ub]
       rw [← this,bne_iff_ne];exact fun hh=>h1 (ub_inj.1 hh)
     have HY:=Hd.mk (Hno.out fun hh=>h1 (by rw [hh.2.2.2];rfl))
     clear h0 h1
     go_wp2
     refine bodyPost_ret (results_tmp3 rfl _ _ _) rfl ?_
     exact ⟨by rw [HY.out];rfl,hB⟩
   have t0:(ub (gb l 0) != 255)=true:=by
     have:ub 255=255:=by simp [ub]
     rw [← this,bne_iff_ne];exact fun hh=>h0 (ub_inj.1 hh)
   have HY:=Hd.mk (Hno.out fun hh=>h0 (by rw [hh.2.2.2];rfl))
   clear h0
   go_wp2
   refine bodyPost_ret (results_tmp3 rfl _ _ _) rfl ?_
   exact ⟨by rw [HY.out];rfl,hB⟩
 have e16:(if l.length=16 then l else zKey)=zKey:=if_neg h16
 have d16:=decide_eq_false h16
 have HY:=Hd.mk (Hno.out fun hh=>h16 hh.1)
 have E16:=Hd.mk e16
 have D16:=Hd.mk d16
 have hi:(Tryz.prog.info? 41).map (·.size)=some (vb zKey).length:=i42
 have Hi:=Hd.mk hi
 clear hi e16 d16 h16
 go_enter Tryz.func170,Tryz.ntmps170
 go_wp2_with (first|(go_at_call 139;refine (okey_any _ l _ Hv.out).mono ?_;rintro e w1 ⟨rfl,hb1⟩;rw [E16.out,D16.out])|(refine wl_storeW rfl 41 _ _ rfl w1.heap.size 0 (vb zKey) rfl rfl 41 _ (vb zKey) (Blk.new w1 41 (List.replicate 16 (.int .u8 0))) (by simp [zKey]) (by exact Hi.out) (vb_ones _) (by simp [zKey]) ?_;intro w2 hr2 hg2 hs2))
 refine bodyPost_ret (results_tmp3 rfl _ _ _) rfl ?_
 exact ⟨by rw [HY.out];rfl,(hb1.alloc hb1.size (.cells (List.replicate 16 (Value.int .u8 0)).toArray 41)).grown hg2 (by have:=hb1.size;simp;omega) (by have:=hb1.size;rintro j hj;cases hj;omega)⟩
end
section
open Go.RowKit Go.QT
variable{P:Program}{o:Oper}{a:Act}
theorem exec_add(t t':TypeId)(x y:Operand)(ho:o.op=.binOp .add t x y t')(m n:Int)(hx:a.eval x=.int .i64 m)(hy:a.eval y=.int .i64 n)(p:Int)(hp:m+n=p)(h1:-9223372036854775808<=p)(h2:p<=9223372036854775807)(w:World) :
   (execOp a.eval o).run P w=.ok (.value (.int .i64 p)) w:=by
 have e:IntKind.i64.wrap (m+n)=p:=by rw [hp,IntKind.wrap_i64];omega
 have h3:(eqGuard .add t x y (.int .i64 m) (.int .i64 n)).run P w=.ok () w:=by simp [eqGuard]
 have h4:(binOp .add t (.int .i64 m) (.int .i64 n)).run P w=.ok (.int .i64 p) w:=by simp [binOp,Op.intArith,e]
 unfold execOp
 simp only [ho,hx,hy,Sem.run_bind,h3,h4,Result.andThen_ok,Sem.run_pure]
theorem exec_sub(t t':TypeId)(x y:Operand)(ho:o.op=.binOp .sub t x y t')(m n:Int)(hx:a.eval x=.int .i64 m)(hy:a.eval y=.int .i64 n)(p:Int)(hp:m-n=p)(h1:-9223372036854775808<=p)(h2:p<=9223372036854775807)(w:World) :
   (execOp a.eval o).run P w=.ok (.value (.int .i64 p)) w:=by
 have e:IntKind.i64.wrap (m-n)=p:=by rw [hp,IntKind.wrap_i64];omega
 have h3:(eqGuard .sub t x y (.int .i64 m) (.int .i64 n)).run P w=.ok () w:=by simp [eqGuard]
 have h4:(binOp .sub t (.int .i64 m) (.int .i64 n)).run P w=.ok (.int .i64 p) w:=by simp [binOp,Op.intArith,e]
 unfold execOp
 simp only [ho,hx,hy,Sem.run_bind,h3,h4,Result.andThen_ok,Sem.run_pure]
end
section
open Go.RowKit Go.QT
theorem ty70:Tryz.prog.underlying 173=some (.struct (Tryz.prog.fieldsOf 173)):=by kernel_rfl
theorem i70:(Tryz.prog.info? 173).map (·.size)=some 18:=by kernel_rfl
theorem tyfs:Tryz.prog.underlying 165=some (.slice 173):=by kernel_rfl
theorem ifs:(Tryz.prog.info? 173).map (fun i=>(i.zero,i.size,i.bytes))=some (some (.agg (fromCells SFrom.fresh).toArray),18,40):=by kernel_rfl
theorem zfs(W:World):(zeroValue 173).run Tryz.prog W=.ok (.agg (fromCells SFrom.fresh).toArray) W:=by kernel_rfl
theorem agg121(W:World):(isAgg 165).run Tryz.prog W=.ok false W:=by kernel_rfl
theorem i121:(Tryz.prog.info? 165).map (·.size)=some 1:=by kernel_rfl
/-- The table behind an 'add'. -/
theorem TabR.added{w w':World}{F:Nat->Prop}{tb mb:Nat}{vk vx vs v':Value}{bodies sums:List Value}{es:Array MapEntry}{clock:Nat}{s:STab}{f:SFrom}(h:TabR w F tb mb vk vx vs bodies sums es clock s)(hf:f.of.length=16)
   (hv:OV w' 0 173 18 v' (s.keys.map fromCells++[fromCells f])) (hg:w.grownBy w' vk.ownBlock) :
   TabR (w'.setCell ⟨tb,0,none⟩ v') (fun q=>F q∨v'.ownBlock=some q) tb mb v' vx vs bodies sums es clock (s.add f):=by
 have hs:w.heap.size<=w'.heap.size:=hg.size
 have e0:∀ q,some q≠vk.ownBlock->q≠tb->q<w.heap.size->(w'.setCell ⟨tb,0,none⟩ v').heap[q]?=w.heap[q]?:=fun q h1 h2 h3 =>
   (Below.heap_setCell w' ⟨tb,0,none⟩ v' q h2).trans (hg.block q h3 h1)
 have hvl:∀ q,v'.ownBlock=some q->q<w'.heap.size:=fun q hq=>(hv.block q hq).2
 refine { t:=?_,k:=?_,kl:=?_,x:=?_,xn:=h.xn,xl:=h.xl,xb:=?_,u:=?_,un:=h.un,ub:=?_,m:=?_,me:=h.me,ml:=h.ml,ft:=.inl h.ft,fm:=.inl h.fm,fk:=fun q hq=>.inr hq,fx:=fun q hq=>.inl (h.fx q hq),fu:=fun q hq=>.inl (h.fu q hq),fl:=?_ }
 · have h1:Blk w' tb 169 [vk,vx,vs,.map (some mb)]:=h.t.grown hg (fun e=>own_ne h.k.own h.t (by decide) tb e.symm rfl)
   exact h1.set 0 v'
 · have h2:OV w' 0 173 18 v' ((s.add f).keys.map fromCells):=by
     simp only [STab.add,List.map_append,List.map_cons,List.map_nil];exact hv
   refine h2.far (fun q hq e=>?_) _
   have h1:Blk w' tb 169 [vk,vx,vs,.map (some mb)]:=h.t.grown hg (fun e=>own_ne h.k.own h.t (by decide) tb e.symm rfl)
   exact own_ne hv.own h1 (by decide) q hq e
 · intro g hg'
   simp only [STab.add,List.mem_append,List.mem_singleton] at hg'
   rcases hg' with hg' | rfl
   · exact h.kl g hg'
   exact hf
 · exact h.x.keep fun q hq=>e0 q (fun e=>own_disj h.x.own h.k.own (by decide) q hq e.symm) (own_ne h.x.own h.t (by decide) q hq) (h.x.block q hq).2
 · intro i b v h1 h2
   obtain ⟨a1,a2,a3⟩:=h.xb i b v h1 h2
   exact ⟨OB.keep a1 fun q hq=>e0 q (fun e=>own_disj a1 h.k.own (by decide) q hq e.symm) (own_ne a1 h.t (by decide) q hq) (OB.own a1 q hq).2,fun q hq=>.inl (a2 q hq),a3⟩
 · exact h.u.keep fun q hq=>e0 q (fun e=>own_disj h.u.own h.k.own (by decide) q hq e.symm) (own_ne h.u.own h.t (by decide) q hq) (h.u.block q hq).2
 · intro i b v h1 h2
   obtain ⟨a1,a2,a3⟩:=h.ub i b v h1 h2
   exact ⟨OB.keep a1 fun q hq=>e0 q (fun e=>own_disj a1 h.k.own (by decide) q hq e.symm) (own_ne a1 h.t (by decide) q hq) (OB.own a1 q hq).2,fun q hq=>.inl (a2 q hq),a3⟩
 · have hml:mb<w.heap.size:=h.fl mb h.fm
   exact (e0 mb (fun e=>own_ne_map h.k.own h.m mb e.symm rfl) (fun e=>blk_ne_map h.t h.m e.symm) hml).trans h.m
 intro q hq
 have:(w'.setCell ⟨tb,0,none⟩ v').heap.size=w'.heap.size:=by simp [World.setCell]
 rcases hq with hq|hq
 · have:=h.fl q hq;omega
 have:=hvl q hq;omega
theorem add_any(F:Nat->Prop)(tb:Nat)(s:STab)(f:SFrom)(w:World)(hT:TabAt w F tb s)(hf:f.of.length=16)(hn:s.keys.length<1000000) :
   Calls Tryz.prog 59 #[.pointer (some ⟨tb,0,none⟩),.agg (fromCells f).toArray] w (TPost w F tb (s.add f) (.agg (vb (mkB 107 (s.keys.length+1))).toArray)):=by
 obtain ⟨mb,vk,vx,vs,bodies,sums,es,clock,hR⟩:=hT
 have HR:=Hd.mk hR
 have hfl:=fromCells_len f hf
 have Hfl:=Hd.mk hfl
 have Hf:=Hd.mk hf
 have htb:=hR.fl tb hR.ft
 clear hR hfl hf
 go_enter Tryz.func59,Tryz.ntmps59
 go_upto_region 1 with (fail)
 rw [z16_eq]
 have hb:Below w.heap.size w ((w.alloc (.cells (fromCells f).toArray 173)).alloc (.cells (vb zKey).toArray 41)):=((Below.refl _ _).alloc (Nat.le_refl _) _).alloc (by simp) _
 have hFr:Blk ((w.alloc (.cells (fromCells f).toArray 173)).alloc (.cells (vb zKey).toArray 41)) w.heap.size 173 (fromCells f):=Blk.alloc (Blk.new w 173 (fromCells f)) _
 have hKr:Row ((w.alloc (.cells (fromCells f).toArray 173)).alloc (.cells (vb zKey).toArray 41)) (w.heap.size+1) 41 zKey:=new2 w _ 41 _
 generalize (w.alloc (.cells (fromCells f).toArray 173)).alloc (.cells (vb zKey).toArray 41)=w1 at *
 have hT1:=HR.out.keep hb.size (fun q hq=>hb.block q (HR.out.fl q hq))
 have HT1:=Hd.mk hT1
 have HB:=Hd.mk hb
 have hlt1:=hKr.lt
 have HFr:=Hd.mk hFr
 have HKr:=Hd.mk hKr
 clear hT1 hb hFr hKr
 refine pH_begin (n:=11) 8 (fun W=>W.cell? ⟨tb,0,none⟩=some vk/\Blk W w.heap.size 173 (fromCells f)) (by kernel_rfl) rfl ?_
 have hS:(w1.drewN 1).cell? ⟨tb,0,none⟩=some vk/\Blk (w1.drewN 1) w.heap.size 173 (fromCells f):=⟨by have:=HT1.out.t.cell 0;exact this,HFr.out⟩
 have HT1:Hd (TabR (w1.drewN 1) F tb mb vk vx vs bodies sums es clock s):=⟨HT1.out.keep (Nat.le_refl _) (fun _ _=>rfl)⟩
 have HB:Hd (Below w.heap.size w (w1.drewN 1)):=⟨below_drewN HB.out 1⟩
 have HKr:Hd (Row (w1.drewN 1) (w.heap.size+1) 41 zKey):=⟨HKr.out.drewN 1⟩
 have hlt1:w.heap.size+1<(w1.drewN 1).heap.size:=hlt1
 generalize w1.drewN 1=w2 at *
 refine pV (i:=0) (some 5) (.pointer (some ⟨tb,0,none⟩)) rfl rfl hS (fun _ _=>rfl) ?_
 simp only [Act.put,u1,u2,u3]
 refine pV (i:=1) (some 6) (.pointer (some ⟨tb,0,none⟩)) rfl rfl hS (fun _ _=>rfl) ?_
 simp only [Act.put,u1,u2,u3]
 refine pV (i:=2) (some 7) (.pointer (some ⟨tb,0,none⟩)) rfl rfl hS (by intro W _;simp [go_sem]) ?_
 simp only [Act.put,u1,u2,u3]
 refine pV (i:=3) (some 8) (.pointer (some ⟨tb,0,none⟩)) rfl rfl hS (by intro W _;simp [go_sem]) ?_
 simp only [Act.put,u1,u2,u3]
 refine pV (i:=4) (some 9) (vk) rfl rfl hS (fun W h=>exec_cell _ _ (by rfl) ⟨tb,0,none⟩ _ (by rfl) (agg121 W) h.1) ?_
 simp only [Act.put,u1,u2,u3]
 refine pV (i:=5) (some 10) (.agg (fromCells f).toArray) rfl rfl hS (fun W h=>exec_load 173 _ (by rfl) w.heap.size 0 (by rfl) 173 (fromCells f) (fromCells f) _ h.2 (by simp) ty70 rfl (by rw [Hfl.out];exact i70)) ?_
 simp only [Act.put,u1,u2,u3]
 have hS3:(w2.alloc (.cells (fromCells f).toArray 173)).cell? ⟨tb,0,none⟩=some vk/\Blk (w2.alloc (.cells (fromCells f).toArray 173)) w.heap.size 173 (fromCells f):=⟨(World.cell?_alloc_lt w2 _ ⟨tb,0,none⟩ (by show tb<_;omega)).trans hS.1,hS.2.alloc _⟩
 refine pH_run (i:=6) (some 11) (.slice (some ⟨w2.heap.size,0,none⟩) 1 1) rfl rfl (by kernel_rfl) (by kernel_rfl) (show _=Result.ok _ (w2.alloc (.cells (fromCells f).toArray 173)) from exec_bs1 165 173 _ (by rfl) (.agg (fromCells f).toArray) (.agg (fromCells SFrom.fresh).toArray) 18 (by rfl) tyfs i70 zfs (by omega) (by omega) rfl (by simp [Value.cells,Hfl.out]) _) (fun _=>hS3) ?_
 simp only [Act.put,u1,u2,u3]
 refine pH_pushV (i:=7) (some 12) rfl rfl (by kernel_rfl) (by kernel_rfl) (.tmp 9) (.tmp 11) 165 rfl 0 173 18 40 (.agg (fromCells SFrom.fresh).toArray) tyfs ifs rfl (by omega) vk (s.keys.map fromCells) rfl (HT1.out.k.alloc _) w2.heap.size 173 (fromCells f) 1 rfl (Blk.new w2 173 (fromCells f)) Hfl.out (fromCells_one f) (by rw [List.length_map];omega) (by rw [List.length_map];unfold maxLen;omega) (by omega) ?_
 intro v' w3 hv3 hg3 hat3
 have hT2:=HT1.out.keep (w':=w2.alloc (.cells (fromCells f).toArray 173)) (by simp) (fun q hq=>Below.heap_alloc w2 _ q (HT1.out.fl q hq))
 have hkb:∀ q,vk.ownBlock=some q->q<w.heap.size:=fun q hq=>HR.out.fl q (HR.out.fk q hq)
 have hS4:w3.cell? ⟨tb,0,none⟩=some vk/\Blk w3 w.heap.size 173 (fromCells f):=by
   refine ⟨?_,hS3.2.grown hg3 (fun e=>by have:=hkb _ e.symm;omega)⟩
   have:=(hT2.t.grown hg3 (fun e=>own_ne hT2.k.own hT2.t (by decide) tb e.symm rfl)).cell 0
   exact this
 have HK3:Hd (Row w3 (w.heap.size+1) 41 zKey):=⟨(HKr.out.alloc _).grown' hg3 (fun e=>by have:=hkb _ e.symm;omega)⟩
 have hT3:=TabR.added hT2 Hf.out hv3 hg3
 have hFr3:Fr F w w3:=(((Fr.of_below F HB.out).then_below ((Below.refl _ _).alloc (Nat.le_refl _) _)).then_grown hg3 (fun q hq=>.inl (HR.out.fk q hq)))
 have ht3:=hT2.t.grown hg3 (fun e=>own_ne hT2.k.own hT2.t (by decide) tb e.symm rfl)
 have HT3:=Hd.mk hT3
 have Ht3:=Hd.mk ht3
 have hsz3:=HB.out.size
 have hsz4:=hg3.size
 simp only [World.size_alloc] at hsz4
 clear hT2 hT3 ht3 hg3 hv3
 refine ⟨(fun _=>hS4),?_⟩
 simp only [Act.put,u1,u2,u3]
 refine pH_run (i:=8) (some 13) (.pointer (some ⟨tb,0,none⟩)) rfl rfl (by kernel_rfl) (by kernel_rfl) (show _=Result.ok _ w3 by simp [go_sem]) (fun h=>absurd h (by omega)) ?_
 simp only [Act.put,u1,u2,u3]
 refine pH_run (i:=9) (some 14) (.pointer (some ⟨tb,0,none⟩)) rfl rfl (by kernel_rfl) (by kernel_rfl) (show _=Result.ok _ w3 by simp [go_sem]) (fun h=>absurd h (by omega)) ?_
 simp only [Act.put,u1,u2,u3]
 refine pH_runs (i:=10) none rfl rfl (by kernel_rfl) (by kernel_rfl) (exec_storeCell 165 _ _ (by rfl) tb 0 v' (by rfl) (by rfl) 169 _ Ht3.out (by simp) i121 (by obtain ⟨A,c,e,_⟩:=HT3.out.k.form;rw [e];rfl) (by obtain ⟨A,c,e,_⟩:=HT3.out.k.form;rw [e];rfl)) (fun h=>absurd h (by omega)) ?_
 simp only [Act.put]
 refine pH_done (by kernel_rfl) ?_ _
 go_upto_region 2 with (fail)
 have hFr4:Fr F w (w3.setCell ⟨tb,0,none⟩ v'):=⟨hFr3.os,hFr3.tape,hFr3.output,by simpa [World.setCell] using hFr3.size,fun q hq hF=>(Below.heap_setCell w3 ⟨tb,0,none⟩ v' q (fun e=>hF (e ▸ HR.out.ft))).trans (hFr3.block q hq hF)⟩
 have HK4:Hd (Row (w3.setCell ⟨tb,0,none⟩ v') (w.heap.size+1) 41 zKey):=⟨HK3.out.far (by simp;omega) _⟩
 have hat:∀ q,v'.ownBlock=some q->F q∨w.heap.size<=q:=by
   intro q hq
   rcases hat3 with e|e
   · rw [e] at hq;exact .inl (HR.out.fk q hq)
   rw [e] at hq;injection hq with hq;simp at hq;right;omega
 have hlt4:w.heap.size+1<(w3.setCell ⟨tb,0,none⟩ v').heap.size:=by simp [World.setCell];omega
 have Hat:=Hd.mk hat
 have HFr4:=Hd.mk hFr4
 generalize w3.setCell ⟨tb,0,none⟩ v'=w4 at *
 clear hat hFr4 hFr3 HK3 Ht3 hS hS3 hS4 hat3 HT1 HB HKr HFr hsz4
 obtain ⟨A,cp,hve,hcp,hcp2⟩:=HT3.out.k.form
 have hkl:((s.add f).keys.map fromCells).length=s.keys.length+1:=by simp [STab.add]
 rw [hkl] at hve hcp
 unfold maxLen at hcp2
 have x0:=HT3.out.t.cell 0
 rw [hve] at x0
 have x1:w4.cell? ⟨tb,0,none⟩=some (.slice A (s.keys.length+1) cp):=x0
 clear x0 hkl
 have hni:Value.int .i64 ((s.keys.length:Int)+1)=.int .i64 ((s.keys.length+1:Nat):Int):=by go_num
 have Hni:=Hd.mk hni
 clear hni
 have ub107:ub 107=107:=by simp [ub]
 have Hub:=Hd.mk ub107
 clear ub107
 have H69:=Hd.mk (smark_any 107 (s.keys.length+1) (by omega) w4)
 rw [Hub.out] at H69
 refine wp_region_lit ?_
 refine wl_val rfl (.pointer (some ⟨tb,0,none⟩)) (rfl) ?_
 simp only [Act.put,u1,u2,u3]
 refine wl_val rfl (.pointer (some ⟨tb,0,none⟩)) (by simp [go_sem]) ?_
 simp only [Act.put,u1,u2,u3]
 refine wl_val rfl (.pointer (some ⟨tb,0,none⟩)) (by simp [go_sem]) ?_
 simp only [Act.put,u1,u2,u3]
 refine wl_val rfl (.slice A (s.keys.length+1) cp) (exec_cell _ _ (by rfl) ⟨tb,0,none⟩ _ (by rfl) (agg121 _) x1) ?_
 simp only [Act.put,u1,u2,u3]
 refine wl_val rfl (.int .i64 ((s.keys.length+1:Nat):Int)) (by simp [go_sem]) ?_
 simp only [Act.put,u1,u2,u3]
 refine wl_call rfl 71 _ _ rfl [.int .u8 107,.int .i64 ((s.keys.length+1:Nat):Int)] rfl (by kernel_rfl) (H69.out) ?_
 rintro e w5 ⟨rfl,hb5⟩
 refine ⟨_,rfl,?_⟩
 have HT5:=Hd.mk (TabR.keep HT3.out hb5.size (fun q hq=>hb5.block q (HT3.out.fl q hq)))
 have HK5:=HK4.out.below hb5 HK4.out.lt
 have hFr5:=HFr4.out.then_below hb5
 simp only [Act.put,u1,u2,u3]
 go_wp2_with (refine wl_storeW rfl 41 _ _ rfl (w.heap.size+1) 0 (vb (mkB 107 (s.keys.length+1))) rfl rfl 41 _ (vb (mkB 107 (s.keys.length+1))) HK5 (by simp [zKey,mkB_len]) i42 (vb_ones _) (by simp [zKey,mkB_len]) ?_;intro w6 hr6 hg6 hs6)
 refine bodyPost_ret (results_cell_row (p:=4) (ty:=41) rfl _ _ (w.heap.size+1) 41 (vb (mkB 107 (s.keys.length+1))).toArray (0,0) _ rfl hr6 ty42 rfl (by rw [i42];rfl)) rfl ?_
 refine ⟨rfl,_,⟨mb,_,vx,vs,bodies,sums,es,clock,HT5.out.keep hg6.size (fun q hq=>hg6.block q (HT5.out.fl q hq) ?_)⟩,fun q hq=>hq.elim .inl (Hat.out q),fun q hq=>.inl hq,hFr5.then_grown hg6 (fun q hq=>.inr (by injection hq with hq;omega))⟩
 intro e
 injection e with e
 rcases hq with hq|hq
 · have:=HR.out.fl q hq;omega
 exact own_ne HT5.out.k.own HK5 (by decide) q hq e
end
section
open Go.RowKit Go.QT
theorem fo70 : (Tryz.prog.fieldsOf 173).toList.map (fun f => (f.name == "_", f.type, f.offset)) = [(false, 41, 0), (false, 9, 16), (false, 4, 17)] := by kernel_rfl
theorem fields70 : ∃ f0 f1 f2 : Field, (Tryz.prog.fieldsOf 173).toList = [f0, f1, f2] /\ (f0.name ≠ "_" /\ f0.type = 41 /\ f0.offset = 0) /\ (f1.name ≠ "_" /\ f1.type = 9 /\ f1.offset = 16) /\ (f2.name ≠ "_" /\ f2.type = 4 /\ f2.offset = 17) := by
 have h:=fo70
 match hq:(Tryz.prog.fieldsOf 173).toList with
 | [f0,f1,f2] =>
   rw [hq] at h
   simp only [List.map_cons,List.map_nil,List.cons.injEq,Prod.mk.injEq,beq_eq_false_iff_ne,and_true] at h
   exact ⟨f0,f1,f2,rfl,h.1,h.2.1,h.2.2⟩
 | []=>rw [hq] at h;simp at h
 | [_]=>rw [hq] at h;simp at h
 | [_,_]=>rw [hq] at h;simp at h
 | _::_::_::_::_=>rw [hq] at h;simp at h
theorem stood70:Tryz.prog.stoodInHeld 173=false:=by kernel_rfl
theorem agg42(W:World):(isAgg 41).run Tryz.prog W=.ok true W:=by kernel_rfl
theorem size42(W:World):(sizeOf 41).run Tryz.prog W=.ok 16 W:=by kernel_rfl
theorem agg9(W:World):(isAgg 9).run Tryz.prog W=.ok false W:=by kernel_rfl
theorem agg4(W:World):(isAgg 4).run Tryz.prog W=.ok false W:=by kernel_rfl
theorem part_of(f:SFrom)(h:f.of.length=16)(W:World):(part 41 (fromCells f).toArray 0).run Tryz.prog W=.ok (.agg (vb f.of).toArray) W:=by
 have e:(fromCells f).toArray.extract 0 (0+16)=(vb f.of).toArray:=by
   apply Array.ext'
   simp only [Array.toList_extract]
   show ((fromCells f).drop 0).take 16=vb f.of
   rw [List.drop_zero,fromCells,List.take_left' (by simp [h])]
 simp only [part,Sem.run_bind,agg42,size42,Result.andThen_ok,if_true,Sem.run_pure]
 rw [e]
theorem part_label(f:SFrom)(h:f.of.length=16)(W:World):(part 9 (fromCells f).toArray 16).run Tryz.prog W=.ok (.string f.label) W:=by
 have e:(fromCells f).toArray[16]?=some (.string f.label):=by
   simp [fromCells,h]
 simp only [part,Sem.run_bind,agg9,Result.andThen_ok,Bool.false_eq_true,if_false,e,Sem.run_pure]
theorem part_text(f:SFrom)(h:f.of.length=16)(W:World):(part 4 (fromCells f).toArray 17).run Tryz.prog W=.ok (.bool f.text) W:=by
 have e:(fromCells f).toArray[17]?=some (.bool f.text):=by
   simp [fromCells,h]
 simp only [part,Sem.run_bind,agg4,Result.andThen_ok,Bool.false_eq_true,if_false,e,Sem.run_pure]
theorem run_eq_from(f g:SFrom)(hf:f.of.length=16)(hg:g.of.length=16)(w:World):(Op.equal 173 (fromV f) (fromV g)).run Tryz.prog w=.ok (decide (f=g)) w:=by
 obtain ⟨f0,f1,f2,hl,⟨n0,t0,o0⟩,⟨n1,t1,o1⟩,⟨n2,t2,o2⟩⟩:=fields70
 have h0:∀ W,(Op.equalIn 9999 41 (.agg (vb f.of).toArray) (.agg (vb g.of).toArray)).run Tryz.prog W=.ok (decide (f.of=g.of)) W:=fun W=>run_equalIn16 9997 41 f.of g.of W ty42 hf hg
 have h1:∀ W,(Op.equalIn 9999 9 (.string f.label) (.string g.label)).run Tryz.prog W=.ok (f.label.toList == g.label.toList) W:=fun W=>run_equalIn_string W 9998 9 _ _ (by kernel_rfl)
 have h2:∀ W,(Op.equalIn 9999 4 (.bool f.text) (.bool g.text)).run Tryz.prog W=.ok (f.text == g.text) W:=fun W=>run_equalIn_bool W 9998 4 _ _ (by kernel_rfl)
 show (Op.equalIn (9999+1) 173 (.agg (fromCells f).toArray) (.agg (fromCells g).toArray)).run Tryz.prog w=_
 rw [run_equalIn_struct w 9999 173 _ _ ty70 stood70,hl]
 simp only [Op.eqFields,n0,n1,n2,t0,t1,t2,o0,o1,o2,ne_eq,not_false_eq_true,if_true,Sem.run_bind,part_of f hf,part_of g hg,Result.andThen_ok,h0]
 have hdec:decide (f=g)=(decide (f.of=g.of) && (f.label.toList == g.label.toList) && (f.text == g.text)):=by
   have hb:∀ b b':ByteArray,(b.toList == b'.toList)=decide (b=b'):=by
     intro b b'
     rw [ByteArray.toList_eq,ByteArray.toList_eq,Bool.eq_iff_iff,beq_iff_eq,decide_eq_true_eq]
     constructor
     · intro h;cases b;cases b';simp only [ByteArray.mk.injEq];exact Array.ext' h
     rintro rfl;rfl
   rw [hb]
   obtain ⟨a,b,c⟩:=f
   obtain ⟨a',b',c'⟩:=g
   rw [Bool.eq_iff_iff]
   simp [and_assoc]
 rw [hdec]
 clear hdec
 generalize (f.label.toList == g.label.toList)=b1 at *
 generalize (f.text == g.text)=b2 at *
 cases decide (f.of=g.of) <;> cases b1 <;> cases b2 <;> simp [part_label f hf,part_label g hg,part_text f hf,part_text g hg,h1,h2]
theorem run_find_from(f:SFrom)(hf:f.of.length=16)(w:World):∀ (es:List MapEntry) (ks:List (SFrom × Nat)) (i:Nat),es.map (fun e=>(e.key,e.val))=ks.map (fun p=>(fromV p.1,Value.agg (vb (mkB 107 p.2)).toArray))->(∀ p ∈ ks,p.1.of.length=16) ->
   (Instr.findAsking 173 (fromV f) es i).run Tryz.prog w=.ok ((ks.findIdx? fun p=>decide (p.1=f)).bind fun j=>(ks[j]?).map fun p=>(i+j,Value.agg (vb (mkB 107 p.2)).toArray)) w
 | [],ks,i,h,_=>by
   have:ks=[]:=by simpa using h.symm
   subst this
   simp [Instr.findAsking]
 | e::es,[],i,h,_=>by simp at h
 | e::es,(g,n)::ks,i,h,hl=>by
   simp only [List.map_cons,List.cons.injEq,Prod.mk.injEq] at h
   have hg:=hl (g,n) (by simp)
   have ih:=run_find_from f hf w es ks (i+1) h.2 (fun p hp=>hl p (by simp [hp]))
   have he:=run_eq_from f g hf hg w
   rw [← h.1.1] at he
   have hc:decide (g=f)=decide (f=g):=by rw [Bool.eq_iff_iff];simp [eq_comm]
   simp only [Instr.findAsking,Sem.run_bind,he,Result.andThen_ok,List.findIdx?_cons,hc]
   by_cases hfg:f=g
   · simp [hfg,h.1.2]
   simp only [decide_eq_false hfg,Bool.false_eq_true,if_false,ih]
   congr 1
   cases hq:ks.findIdx? fun p=>decide (p.1=f) with
   | none=>simp
   | some j=>simp [Nat.add_assoc,Nat.add_comm 1 j]
end
section
open Go.RowKit Go.QT
theorem size5'(W:World):(sizeOf 5).run Tryz.prog W=.ok 1 W:=by kernel_rfl
theorem check_byte(em:Bool)(n:Nat)(v:Value)(w:World):(Instr.checkKey em (n+1) 5 v).run Tryz.prog w=.ok () w:=by
 have hu:Tryz.prog.underlying 5=some (.int .u8):=by kernel_rfl
 simp only [Instr.checkKey,Sem.run_bind,run_underlying hu,Result.andThen_ok,Sem.run_pure]
theorem check_str(em:Bool)(n:Nat)(v:Value)(w:World):(Instr.checkKey em (n+1) 9 v).run Tryz.prog w=.ok () w:=by
 have hu:Tryz.prog.underlying 9=some .string:=by kernel_rfl
 simp only [Instr.checkKey,Sem.run_bind,run_underlying hu,Result.andThen_ok,Sem.run_pure]
theorem check_bool(em:Bool)(n:Nat)(v:Value)(w:World):(Instr.checkKey em (n+1) 4 v).run Tryz.prog w=.ok () w:=by
 have hu:Tryz.prog.underlying 4=some .bool:=by kernel_rfl
 simp only [Instr.checkKey,Sem.run_bind,run_underlying hu,Result.andThen_ok,Sem.run_pure]
theorem check_key'(em:Bool)(m:Nat)(k:Bytes)(hk:k.length=16)(w:World)(h1:∀ v,(Instr.checkKey em m 5 v).run Tryz.prog w=.ok () w):(Instr.checkKey em (m+1) 41 (.agg (vb k).toArray)).run Tryz.prog w=.ok () w:=by
 simp only [Instr.checkKey,Sem.run_bind,run_underlying ty42,Result.andThen_ok]
 simp only [Std.Legacy.Range.forIn_eq_forIn_range',Std.Legacy.Range.size,Nat.sub_zero,Nat.add_one_sub_one,Nat.div_one]
 have h:∀ (is:List Nat),(∀ i ∈ is,i<16)->∀ u:PUnit,
     (forIn is u fun i r=>do
       let x ← sizeOf 5
       let y ← part 5 (vb k).toArray (i*x)
       Instr.checkKey em m 5 y
       pure (ForInStep.yield PUnit.unit):Sem PUnit).run Tryz.prog w=.ok ⟨⟩ w:=by
   intro is
   induction is with
   | nil=>intro _ u;simp
   | cons i is ih =>
     intro hi u
     have hp:(vb k).toArray[i*1]?=some (.int .u8 (ub (gb k i))):=by rw [Nat.mul_one];simpa using vb_get k i (by have:=hi i (by simp);omega)
     simp only [List.forIn_cons,Sem.run_bind,size5',Result.andThen_ok,run_part_plain w pk5 hp,h1,Sem.run_pure]
     exact ih (fun j hj=>hi j (by simp [hj])) _
 rw [h (List.range' 0 16 1) (fun i hi=>by have:=List.mem_range'_1.1 hi;omega) PUnit.unit]
 rfl
theorem check_key(em:Bool)(n:Nat)(k:Bytes)(hk:k.length=16)(w:World):(Instr.checkKey em (n+2) 41 (.agg (vb k).toArray)).run Tryz.prog w=.ok () w:=
 check_key' em (n+1) k hk w fun v=>check_byte em n v w
theorem check_from'(em:Bool)(m:Nat)(f:SFrom)(hf:f.of.length=16)(w:World)(h1:(Instr.checkKey em m 41 (.agg (vb f.of).toArray)).run Tryz.prog w=.ok () w)(h2:(Instr.checkKey em m 9 (.string f.label)).run Tryz.prog w=.ok () w)(h3:(Instr.checkKey em m 4 (.bool f.text)).run Tryz.prog w=.ok () w) :
   (Instr.checkKey em (m+1) 173 (.agg (fromCells f).toArray)).run Tryz.prog w=.ok () w:=by
 obtain ⟨f0,f1,f2,hl,⟨n0,t0,o0⟩,⟨n1,t1,o1⟩,⟨n2,t2,o2⟩⟩:=fields70
 simp only [Instr.checkKey,Sem.run_bind,run_underlying ty70,Result.andThen_ok]
 rw [← Array.forIn_toList,hl]
 simp only [List.forIn_cons,List.forIn_nil,n0,n1,n2,t0,t1,t2,o0,o1,o2,ne_eq,not_false_eq_true,if_true,Sem.run_bind,part_of f hf,part_label f hf,part_text f hf,Result.andThen_ok,h1,h2,h3,Sem.run_pure]
theorem check_from(em:Bool)(n:Nat)(f:SFrom)(hf:f.of.length=16)(w:World):(Instr.checkKey em (n+3) 173 (fromV f)).run Tryz.prog w=.ok () w:=
 check_from' em (n+2) f hf w (check_key em n f.of hf w) (check_str em (n+1) _ w) (check_bool em (n+1) _ w)
theorem find_bind(ks:List (SFrom × Nat))(q:SFrom × Nat->Bool):((ks.findIdx? q).bind fun j=>ks[j]?)=ks.find? q:=by
 induction ks with
 | nil=>rfl
 | cons x ks ih =>
   rw [List.findIdx?_cons,List.find?_cons]
   cases q x with
   | true=>simp
   | false =>
     rw [← ih]
     cases hq:ks.findIdx? q with
     | none=>simp
     | some j=>simp
theorem und_known:Tryz.prog.underlying 164=some (.map 173 41):=by kernel_rfl
theorem zkey42(W:World):(zeroValue 41).run Tryz.prog W=.ok (.agg (vb zKey).toArray) W:=by kernel_rfl
theorem sameNow_struct(fs:Array Field)(a b:Value):Instr.sameNow (.struct fs) a b=none:=by
 unfold Instr.sameNow;rfl
/-- What a lookup finds. -/
def knownV(s:STab)(f:SFrom):Value:=match s.at_ f with|some n=>Value.agg (vb (mkB 107 n)).toArray|none=>Value.agg (vb zKey).toArray
theorem run_lookup_from(s:STab)(f:SFrom)(hf:f.of.length=16)(mb:Nat)(es:Array MapEntry)(clock:Nat)(w:World)(hm:w.heap[mb]?=some (.map es clock))
   (hme:es.toList.map (fun e=>(e.key,e.val))=s.known.map fun p=>(fromV p.1,Value.agg (vb (mkB 107 p.2)).toArray)) (hml:∀ p ∈ s.known,p.1.of.length=16) :
   (Instr.lookup 164 (.map (some mb)) (fromV f) true).run Tryz.prog w=.ok (.tuple #[knownV s f,.bool (s.at_ f).isSome]) w:=by
 unfold knownV
 have hfa:=run_find_from f hf w es.toList s.known 0 hme hml
 have hfb:=find_bind s.known (fun p=>decide (p.1=f))
 have hat:s.at_ f=(s.known.find? fun p=>decide (p.1=f)).map (·.2):=rfl
 have hkey:(Instr.findKey 173 (fromV f) es.toList).run Tryz.prog w=.ok ((s.known.findIdx? fun p=>decide (p.1=f)).bind fun j=>(s.known[j]?).map fun p=>(0+j,Value.agg (vb (mkB 107 p.2)).toArray)) w:=by
   cases hes:es.toList with
   | nil =>
     rw [hes] at hme
     have:s.known=[]:=by simpa using hme.symm
     simp [Instr.findKey,Instr.findNow,run_underlying ty70,this]
   | cons e rest =>
     rw [hes] at hfa
     have hn:Instr.findNow (.struct (Tryz.prog.fieldsOf 173)) (fromV f) (e::rest) 0=none:=by
       simp only [Instr.findNow,sameNow_struct]
     simp only [Instr.findKey,Sem.run_bind,run_underlying ty70,Result.andThen_ok,hn,hfa]
 have hobj:(getObj mb).run Tryz.prog w=.ok (.map es clock) w:=by simp [getObj,Sem.run,hm]
 simp only [Instr.lookup,Sem.run_bind,run_underlying und_known,Result.andThen_ok,hobj,Sem.run_pure,check_from _ 9997 f hf,hkey]
 rw [hat,← hfb]
 cases hq:s.known.findIdx? fun p=>decide (p.1=f) with
 | none=>simp only [Option.bind_none,Option.map_none,Sem.run_bind,zkey42,Result.andThen_ok,Sem.run_pure,Option.isSome_none,if_true]
 | some j =>
   simp only [Option.bind_some]
   cases hj:s.known[j]? with
   | none =>
     have:=(List.findIdx?_eq_some_iff_getElem.1 hq).1
     rw [List.getElem?_eq_none_iff] at hj
     omega
   | some p=>simp
theorem run_update_from(s:STab)(f:SFrom)(hf:f.of.length=16)(mb:Nat)(es:Array MapEntry)(clock:Nat)(w:World)(hm:w.heap[mb]?=some (.map es clock))(val:Value)
   (hme:es.toList.map (fun e=>(e.key,e.val))=s.known.map fun p=>(fromV p.1,Value.agg (vb (mkB 107 p.2)).toArray)) (hml:∀ p ∈ s.known,p.1.of.length=16) (hno:s.at_ f=none) :
   ∃ w',(Instr.mapUpdate 164 (.map (some mb)) (fromV f) val).run Tryz.prog w=.ok () w'/\w'.heap[mb]?=some (.map (es.push { key:=fromV f,val:=val,born:=clock }) (clock+1))/\w.grownBy w' (some mb)/\w'.heap.size=w.heap.size:=by
 have hfa:=run_find_from f hf w es.toList s.known 0 hme hml
 have hfb:=find_bind s.known (fun p=>decide (p.1=f))
 have hat:s.at_ f=(s.known.find? fun p=>decide (p.1=f)).map (·.2):=rfl
 have hnone:s.known.findIdx? (fun p=>decide (p.1=f))=none:=by
   rw [hat,← hfb] at hno
   cases hq:s.known.findIdx? fun p=>decide (p.1=f) with
   | none=>rfl
   | some j =>
     rw [hq] at hno
     have:=(List.findIdx?_eq_some_iff_getElem.1 hq).1
     simp [List.getElem?_eq_getElem this] at hno
 have hkey:(Instr.findKey 173 (fromV f) es.toList).run Tryz.prog w=.ok none w:=by
   cases hes:es.toList with
   | nil=>simp [Instr.findKey,Instr.findNow,run_underlying ty70]
   | cons e rest =>
     rw [hes,hnone] at hfa
     have hn:Instr.findNow (.struct (Tryz.prog.fieldsOf 173)) (fromV f) (e::rest) 0=none:=by
       simp only [Instr.findNow,sameNow_struct]
     simp only [Instr.findKey,Sem.run_bind,run_underlying ty70,Result.andThen_ok,hn,hfa]
     rfl
 have hobj:(getObj mb).run Tryz.prog w=.ok (.map es clock) w:=by simp [getObj,Sem.run,hm]
 have hlt:mb<w.heap.size:=(Array.getElem?_eq_some_iff.1 hm).1
 refine ⟨{ w with heap:=w.heap.setIfInBounds mb (.map (es.push { key:=fromV f,val:=val,born:=clock }) (clock+1)) },?_,?_,⟨rfl,rfl,rfl,by simp,fun q _ hq=>?_⟩,by simp⟩
 · simp only [Instr.mapUpdate,Sem.run_bind,run_underlying und_known,Result.andThen_ok,hobj,check_from _ 9997 f hf,hkey]
   simp [setObj,Sem.run,hm]
 · simp [hlt]
 have:q≠mb:=fun e=>hq (by rw [e])
 simp [Ne.symm this]
end
section
open Go.RowKit Go.QT
theorem agg62(W:World):(isAgg 166).run Tryz.prog W=.ok false W:=by kernel_rfl
theorem ub107:ub 107=107:=by simp [ub]
/-- The frame of a result's own cell. -/
theorem TPost.key{w w0 w1 w2:World}{F F':Nat->Prop}{tb g:Nat}{s:STab}{_l:Bytes}(hB:Below w.heap.size w w0)(hF:∀ q,F q->q<w.heap.size)(hg0:w.heap.size<=g)(hg1:g<w0.heap.size)
   (hT:TabAt w1 F' tb s) (h1:∀ q,F' q->F q∨w0.heap.size<=q) (h2:∀ q,F q->F' q) (hf:Fr F w0 w1) (hg:w1.grownBy w2 (some g)) (hr:∃ T l,Row w2 g T l) :
   ∃ F',TabAt w2 F' tb s/\(∀ q,F' q->F q∨w.heap.size<=q)/\(∀ q,F q->F' q)/\Fr F w w2:=by
 refine ⟨F',hT.keep hg.size (fun q hq=>hg.block q (hT.lt q hq) (fun e=>?_)),fun q hq=>(h1 q hq).elim .inl (fun h=>.inr (Nat.le_trans hB.size h)),h2,?_⟩
 · injection e with e
   subst e
   rcases h1 q hq with h|h
   · have:=hF q h;omega
   omega
 exact ((Fr.of_below F hB).trans hf (fun q hq=>.inl hq)).then_grown hg (fun k hk=>by injection hk with hk;subst hk;exact .inr hg0)
set_option maxHeartbeats 400000 in
theorem fresh_any(F:Nat->Prop)(tb:Nat)(s:STab)(w:World)(hT:TabAt w F tb s)(hn:s.keys.length<1000000) :
   Calls Tryz.prog 21 #[.pointer (some ⟨tb,0,none⟩)] w (TPost w F tb (s.add SFrom.fresh) (.agg (vb (mkB 107 (s.keys.length+1))).toArray)):=by
 have HT:=Hd.mk hT
 have HA:=Hd.mk (fun W (h:TabAt W F tb s)=>add_any F tb s SFrom.fresh W h rfl hn)
 have hlt:=hT.lt
 have Hlt:=Hd.mk hlt
 have hbz:∀ W,(Instr.build 173 #[]).run Tryz.prog W=.ok (.agg (fromCells SFrom.fresh).toArray) W:=fun W=>by kernel_rfl
 have Hbz:=Hd.mk hbz
 clear hT hn hlt hbz
 go_enter Tryz.func21,Tryz.ntmps21
 go_upto_region 1 with (fail)
 rw [z16_eq]
 have hK:Row (w.alloc (.cells (vb zKey).toArray 41)) w.heap.size 41 zKey:=Row.new w 41 zKey
 have hB:Below w.heap.size w (w.alloc (.cells (vb zKey).toArray 41)):=(Below.refl _ _).alloc (Nat.le_refl _) _
 generalize w.alloc (.cells (vb zKey).toArray 41)=w1 at *
 refine wp_region_lit ?_
 refine wl_val rfl (.pointer (some ⟨tb,0,none⟩)) rfl ?_
 simp only [Act.put,u1,u2,u3]
 refine wl_val rfl (.agg (fromCells SFrom.fresh).toArray) (by unfold execOp;simp [Hbz.out]) ?_
 simp only [Act.put,u1,u2,u3]
 refine wl_call rfl 59 _ _ rfl [.pointer (some ⟨tb,0,none⟩),.agg (fromCells SFrom.fresh).toArray] rfl (by kernel_rfl) (HA.out _ (HT.out.below hB)) ?_
 rintro e w2 ⟨rfl,F',hT2,hF1,hF2,hf2⟩
 refine ⟨_,rfl,?_⟩
 simp only [Act.put,u1,u2,u3]
 have hK2:Row w2 w.heap.size 41 zKey:=(hf2.block _ hK.lt (fun h=>by have:=Hlt.out _ h;omega)).trans hK
 have hKl:=hK.lt
 have HK2:=Hd.mk hK2
 clear hK hK2
 go_wp2_with (refine wl_storeW rfl 41 _ _ rfl w.heap.size 0 (vb (mkB 107 (s.keys.length+1))) rfl rfl 41 _ (vb (mkB 107 (s.keys.length+1))) HK2.out (by simp [zKey,mkB_len]) i42 (vb_ones _) (by simp [zKey,mkB_len]) ?_;intro w6 hr6 hg6 hs6)
 refine bodyPost_ret (results_cell_row (p:=2) (ty:=41) rfl _ _ w.heap.size 41 (vb (mkB 107 (s.keys.length+1))).toArray (0,0) _ rfl hr6 ty42 rfl (by rw [i42];rfl)) rfl ?_
 exact ⟨rfl,TPost.key (_l:=[]) hB Hlt.out (Nat.le_refl _) hKl hT2 hF1 hF2 hf2 hg6 ⟨_,_,hr6⟩⟩
end
end Go.Proofs.YtaoijkhndakppaaGreat
