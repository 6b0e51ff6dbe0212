/- The walk of (sym.Table).Text. -/
import Derived.Laws.IdiomStrings
import Derived.Lib.SlBytesConst
import Derived.Test.YtaoijkhndakppaaGreatCA3
set_option maxRecDepth 100000
set_option maxHeartbeats 4000000
namespace Go.Proofs.YtaoijkhndakppaaGreat
section
open Go.RowKit Go.QT
theorem agg120(W:World):(isAgg 164).run Tryz.prog W=.ok false W:=by kernel_rfl
theorem exec_lookup_from{o:Oper}{a:Act}(m x:Operand)(ho:o.op=.lookup 164 m x true)(s:STab)(f:SFrom)(hf:f.of.length=16)(mb:Nat)(es:Array MapEntry)(clock:Nat){w:World}(hm:w.heap[mb]?=some (.map es clock))
   (hme:es.toList.map (fun e=>(e.key,e.val))=s.known.map fun p=>(fromV p.1,Value.agg (vb (mkB 107 p.2)).toArray)) (hml:∀ p ∈ s.known,p.1.of.length=16) (h1:a.eval m=.map (some mb)) (h2:a.eval x=.agg (fromCells f).toArray) :
   (execOp a.eval o).run Tryz.prog w=.ok (.value (.tuple #[knownV s f,.bool (s.at_ f).isSome])) w:=by
 have h:=run_lookup_from s f hf mb es clock w hm hme hml
 unfold fromV at h
 unfold execOp
 simp only [ho,h1,h2,Sem.run_bind,h,Result.andThen_ok,Sem.run_pure]
theorem exec_update_from{o:Oper}{a:Act}(m x y:Operand)(ho:o.op=.mapUpdate 164 m x y)(f:SFrom)(mb:Nat){w w':World}(val:Value)(hrun:(Instr.mapUpdate 164 (.map (some mb)) (fromV f) val).run Tryz.prog w=.ok () w')
   (h1:a.eval m=.map (some mb)) (h2:a.eval x=.agg (fromCells f).toArray) (h3:a.eval y=val):(execOp a.eval o).run Tryz.prog w=.ok .skip w':=by
 unfold fromV at hrun
 unfold execOp
 simp only [ho,h1,h2,h3,Sem.run_bind,hrun,Result.andThen_ok,Sem.run_pure]
/-- The table behind an entry that is new. -/
theorem TabR.mapped{w w':World}{F:Nat->Prop}{tb mb:Nat}{vk vx vs:Value}{bodies sums:List Value}{es es':Array MapEntry}{clock clock':Nat}{s:STab}{f:SFrom}{n:Nat}(h:TabR w F tb mb vk vx vs bodies sums es clock s)(hf:f.of.length=16)
   (hm:w'.heap[mb]?=some (.map es' clock')) (he:es'=es.push { key:=fromV f,val:=Value.agg (vb (mkB 107 n)).toArray,born:=clock }) (hg:w.grownBy w' (some mb)) :
   TabR w' F tb mb vk vx vs bodies sums es' clock' { s with known:=s.known++[(f,n)] }:=by
 have hk:∀ q,q<w.heap.size->q≠mb->w'.heap[q]?=w.heap[q]?:=fun q h1 h2=>hg.block q h1 (fun e=>h2 (by injection e))
 refine { t:=(hk tb (h.fl tb h.ft) (blk_ne_map h.t h.m)).trans h.t,k:=h.k.keep fun q hq=>hk q (h.k.block q hq).2 (own_ne_map h.k.own h.m q hq),kl:=h.kl,x:=h.x.keep fun q hq=>hk q (h.x.block q hq).2 (own_ne_map h.x.own h.m q hq),xn:=h.xn,xl:=h.xl,xb:=?_,u:=h.u.keep fun q hq=>hk q (h.u.block q hq).2 (own_ne_map h.u.own h.m q hq),un:=h.un,ub:=?_,m:=hm,me:=?_,ml:=?_,ft:=h.ft,fm:=h.fm,fk:=h.fk,fx:=h.fx,fu:=h.fu,fl:=fun q hq=>Nat.lt_of_lt_of_le (h.fl q hq) hg.size }
 · intro i b v h1 h2
   obtain ⟨a1,a2,a3⟩:=h.xb i b v h1 h2
   exact ⟨OB.keep a1 fun q hq=>hk q (OB.own a1 q hq).2 (own_ne_map a1 h.m q hq),a2,a3⟩
 · intro i b v h1 h2
   obtain ⟨a1,a2,a3⟩:=h.ub i b v h1 h2
   exact ⟨OB.keep a1 fun q hq=>hk q (OB.own a1 q hq).2 (own_ne_map a1 h.m q hq),a2,a3⟩
 · rw [he];simp [h.me]
 intro p hp
 simp only [List.mem_append,List.mem_singleton] at hp
 rcases hp with hp|rfl
 · exact h.ml p hp
 exact hf
theorem made_any(F:Nat->Prop)(tb:Nat)(s:STab)(f:SFrom)(w:World)(hT:TabAt w F tb s)(hf:f.of.length=16)(hn:s.keys.length<1000000) :
   Calls Tryz.prog 169 #[.pointer (some ⟨tb,0,none⟩),.agg (fromCells f).toArray] w (TPost w F tb (s.made f) (.agg (vb (mkB 107 (s.num f))).toArray)):=by
 obtain ⟨mb,vk,vx,vs,bodies,sums,es,clock,hR⟩:=hT
 have HR:=Hd.mk hR
 have Hfl:=Hd.mk (fromCells_len f hf)
 have Hf:=Hd.mk hf
 have htb:=hR.fl tb hR.ft
 have hmb:=hR.fl mb hR.fm
 have HA:=Hd.mk (fun W (G:Nat->Prop) (h:TabAt W G tb s)=>add_any G tb s f W h hf hn)
 clear hR hf hn
 cases hat:s.at_ f with
 | some n =>
   have Hm:Hd (s.made f=s):=⟨by unfold STab.made;rw [hat]⟩
   have Hn:Hd (s.num f=n):=⟨by unfold STab.num;rw [hat];rfl⟩
   have Hat:=Hd.mk hat
   clear hat
   go_enter Tryz.func169,Tryz.ntmps169
   go_upto_region 1 with (fail)
   rw [z16_eq]
   have hb:Below w.heap.size w ((w.alloc (.cells (fromCells f).toArray 173)).alloc (.cells (vb zKey).toArray 41)):=((Below.refl _ _).alloc (Nat.le_refl _) _).alloc (by simp) _
   have hFr:Blk ((w.alloc (.cells (fromCells f).toArray 173)).alloc (.cells (vb zKey).toArray 41)) w.heap.size 173 (fromCells f):=Blk.alloc (Blk.new w 173 (fromCells f)) _
   have hKr:Row ((w.alloc (.cells (fromCells f).toArray 173)).alloc (.cells (vb zKey).toArray 41)) (w.heap.size+1) 41 zKey:=new2 w _ 41 _
   generalize (w.alloc (.cells (fromCells f).toArray 173)).alloc (.cells (vb zKey).toArray 41)=w1 at *
   refine pH_begin (n:=12) 12 (fun W=>W.cell? ⟨tb,3,none⟩=some (.map (some mb))/\Blk W w.heap.size 173 (fromCells f)/\W.heap[mb]?=some (.map es clock)) (by kernel_rfl) rfl ?_
   have HT1:=Hd.mk (HR.out.keep (w':=w1.drewN 1) hb.size (fun q hq=>hb.block q (HR.out.fl q hq)))
   have hS:(w1.drewN 1).cell? ⟨tb,3,none⟩=some (.map (some mb))/\Blk (w1.drewN 1) w.heap.size 173 (fromCells f)/\(w1.drewN 1).heap[mb]?=some (.map es clock):=⟨by have:=HT1.out.t.cell 3;exact this,hFr,HT1.out.m⟩
   have HB:Hd (Below w.heap.size w (w1.drewN 1)):=⟨below_drewN hb 1⟩
   have HKr:Hd (Row (w1.drewN 1) (w.heap.size+1) 41 zKey):=⟨hKr.drewN 1⟩
   have hlt1:w.heap.size+1<(w1.drewN 1).heap.size:=hKr.lt
   clear hb hKr hFr
   generalize w1.drewN 1=w2 at *
   refine pV (i:=0) (some 8) (.pointer (some ⟨tb,0,none⟩)) rfl rfl hS (fun _ _=>rfl) ?_
   simp only [Act.put,u1,u2,u3]
   refine pV (i:=1) (some 9) (.pointer (some ⟨tb,0,none⟩)) rfl rfl hS (by intro W _;simp [go_sem]) ?_
   simp only [Act.put,u1,u2,u3]
   refine pV (i:=2) (some 10) (.pointer (some ⟨tb,3,none⟩)) rfl rfl hS (by intro W _;simp [go_sem]) ?_
   simp only [Act.put,u1,u2,u3]
   refine pV (i:=3) (some 11) (.map (some mb)) rfl rfl hS (fun W h=>exec_cell _ _ (by rfl) ⟨tb,3,none⟩ _ (by rfl) (agg120 W) h.1) ?_
   simp only [Act.put,u1,u2,u3]
   refine pV (i:=4) (some 12) (.agg (fromCells f).toArray) rfl rfl hS (fun W h=>exec_load 173 _ (by rfl) w.heap.size 0 (by rfl) 173 (fromCells f) (fromCells f) _ h.2.1 (by simp) ty70 rfl (by rw [Hfl.out];exact i70)) ?_
   simp only [Act.put,u1,u2,u3]
   refine pV (i:=5) (some 13) (.tuple #[(.agg (vb (mkB 107 n)).toArray),.bool true]) rfl rfl hS (fun W h=>(exec_lookup_from _ _ (by rfl) s f Hf.out mb es clock h.2.2 HR.out.me HR.out.ml (by rfl) (by rfl)).trans (by unfold knownV;rw [Hat.out];rfl)) ?_
   simp only [Act.put,u1,u2,u3]
   refine pV (i:=6) (some 7) (.tuple #[(.agg (vb (mkB 107 n)).toArray),.bool true]) rfl rfl hS (fun _ _=>rfl) ?_
   simp only [Act.put,u1,u2,u3]
   refine pV (i:=7) (some 14) ((.agg (vb (mkB 107 n)).toArray)) rfl rfl hS (fun _ _=>rfl) ?_
   simp only [Act.put,u1,u2,u3]
   refine pV (i:=8) (some 15) (.bool true) rfl rfl hS (fun _ _=>rfl) ?_
   simp only [Act.put,u1,u2,u3]
   have hS3:(w2.alloc (.cells (vb zKey).toArray 41)).cell? ⟨tb,3,none⟩=some (.map (some mb))/\Blk (w2.alloc (.cells (vb zKey).toArray 41)) w.heap.size 173 (fromCells f)/\(w2.alloc (.cells (vb zKey).toArray 41)).heap[mb]?=some (.map es clock):=⟨(World.cell?_alloc_lt w2 _ ⟨tb,3,none⟩ (by show tb<_;omega)).trans hS.1,hS.2.1.alloc _,(Below.heap_alloc w2 _ mb (by omega)).trans hS.2.2⟩
   refine pH_run (i:=9) (some 5) (.pointer (some ⟨w2.heap.size,0,none⟩)) rfl rfl (by kernel_rfl) (by kernel_rfl) (show _=Result.ok _ (w2.alloc (.cells (vb zKey).toArray 41)) by kernel_rfl) (fun _=>hS3) ?_
   simp only [Act.put,u1,u2,u3]
   have HT2:=Hd.mk (HT1.out.keep (w':=w2.alloc (.cells (vb zKey).toArray 41)) (by simp) (fun q hq=>Below.heap_alloc w2 _ q (HT1.out.fl q hq)))
   have HB2:=Hd.mk (HB.out.alloc HB.out.size (.cells (vb zKey).toArray 41))
   have HK2:=Hd.mk (HKr.out.alloc (.cells (vb zKey).toArray 41))
   have HN2:=Hd.mk (Row.new w2 41 zKey)
   have hl2:w2.heap.size<(w2.alloc (.cells (vb zKey).toArray 41)).heap.size:=by simp
   generalize hgn:w2.heap.size=gn at *
   generalize w2.alloc (.cells (vb zKey).toArray 41)=w3 at *
   clear hS HT1 HB HKr
   have hN3:Row (w3.setRow gn (vb (mkB 107 n)).toArray) gn 41 (mkB 107 n):=Blk.setRow HN2.out _
   have hg3:=only_setRow (w:=w3) gn (vb (mkB 107 n)).toArray
   have hS4:(w3.setRow gn (vb (mkB 107 n)).toArray).cell? ⟨tb,3,none⟩=some (.map (some mb))/\Blk (w3.setRow gn (vb (mkB 107 n)).toArray) w.heap.size 173 (fromCells f)/\(w3.setRow gn (vb (mkB 107 n)).toArray).heap[mb]?=some (.map es clock):=⟨(World.cell?_of_block (a:=⟨tb,3,none⟩) (hg3.block tb (by omega) (fun e=>by injection e with e;omega))).trans hS3.1,hS3.2.1.grown hg3 (fun e=>by injection e with e;omega),(hg3.block mb (by omega) (fun e=>by injection e with e;omega)).trans hS3.2.2⟩
   refine pH_runs (i:=10) none rfl rfl (by kernel_rfl) (by kernel_rfl) (show _=Result.ok _ (w3.setRow gn (vb (mkB 107 n)).toArray) from exec_storeRow 41 _ _ (by rfl) gn 0 (vb (mkB 107 n)) (by rfl) (by rfl) 41 (vb zKey) HN2.out (by simp [zKey,mkB_len]) i42 (vb_ones _)) (fun _=>hS4) ?_
   simp only [Act.put]
   have HT3:=Hd.mk (HT2.out.keep (w':=w3.setRow gn (vb (mkB 107 n)).toArray) hg3.size (fun q hq=>hg3.block q (HT2.out.fl q hq) (fun e=>by injection e with e;have:=HR.out.fl q hq;omega)))
   have HB3:=Hd.mk (HB2.out.grown hg3 HB2.out.size (by rintro j hj;cases hj;omega))
   have HK3:=Hd.mk (HK2.out.grown' hg3 (fun e=>by injection e with e;omega))
   have HFr3:=Hd.mk (hS3.2.1.grown hg3 (fun e=>by injection e with e;omega))
   have HN3:=Hd.mk hN3
   clear hg3 hN3 HT2 HB2 HK2 HN2 hS3
   generalize w3.setRow gn (vb (mkB 107 n)).toArray=w4 at *
   refine pH_run (i:=11) (some 6) (.bool true) rfl rfl (by kernel_rfl) (by kernel_rfl) (show _=Result.ok _ w4 by simp [go_sem]) (fun _=>hS4) ?_
   simp only [Act.put,u1,u2,u3]
   refine pH_done (by kernel_rfl) ?_ _
   clear hS4
   have hlK:=HK3.out.lt
   go_wp2_with (first|(refine wl_load rfl 41 _ rfl gn 0 rfl 41 (vb (mkB 107 n)) (vb (mkB 107 n)) _ HN3.out (by simp) ty42 rfl i42 ?_)|(refine wl_storeW rfl 41 _ _ rfl (w.heap.size+1) 0 (vb (mkB 107 n)) rfl rfl 41 _ (vb (mkB 107 n)) HK3.out (by simp [zKey,mkB_len]) i42 (vb_ones _) (by simp [zKey,mkB_len]) ?_;intro w6 hr6 hg6 hs6))
   refine bodyPost_ret (results_cell_row (p:=4) (ty:=41) rfl _ _ (w.heap.size+1) 41 (vb (mkB 107 n)).toArray (0,0) _ rfl hr6 ty42 rfl (by rw [i42];rfl)) rfl ?_
   rw [Hm.out,Hn.out]
   exact ⟨rfl,TPost.key (_l:=[]) HB3.out HR.out.fl (by omega) hlK ⟨_,_,_,_,_,_,_,_,HT3.out⟩ (fun q hq=>.inl hq) (fun q hq=>hq) (Fr.refl F _) hg6 ⟨_,_,hr6⟩⟩
 | none =>
   have Hm:Hd (s.made f={ s with keys:=s.keys++[f],known:=s.known++[(f,s.keys.length+1)] }):=⟨by unfold STab.made;rw [hat]⟩
   have Hn:Hd (s.num f=s.keys.length+1):=⟨by unfold STab.num;rw [hat];rfl⟩
   have Hat:=Hd.mk hat
   clear hat
   go_enter Tryz.func169,Tryz.ntmps169
   go_upto_region 1 with (fail)
   rw [z16_eq]
   have hb:Below w.heap.size w ((w.alloc (.cells (fromCells f).toArray 173)).alloc (.cells (vb zKey).toArray 41)):=((Below.refl _ _).alloc (Nat.le_refl _) _).alloc (by simp) _
   have hFr:Blk ((w.alloc (.cells (fromCells f).toArray 173)).alloc (.cells (vb zKey).toArray 41)) w.heap.size 173 (fromCells f):=Blk.alloc (Blk.new w 173 (fromCells f)) _
   have hKr:Row ((w.alloc (.cells (fromCells f).toArray 173)).alloc (.cells (vb zKey).toArray 41)) (w.heap.size+1) 41 zKey:=new2 w _ 41 _
   generalize (w.alloc (.cells (fromCells f).toArray 173)).alloc (.cells (vb zKey).toArray 41)=w1 at *
   refine pH_begin (n:=12) 12 (fun W=>W.cell? ⟨tb,3,none⟩=some (.map (some mb))/\Blk W w.heap.size 173 (fromCells f)/\W.heap[mb]?=some (.map es clock)) (by kernel_rfl) rfl ?_
   have HT1:=Hd.mk (HR.out.keep (w':=w1.drewN 1) hb.size (fun q hq=>hb.block q (HR.out.fl q hq)))
   have hS:(w1.drewN 1).cell? ⟨tb,3,none⟩=some (.map (some mb))/\Blk (w1.drewN 1) w.heap.size 173 (fromCells f)/\(w1.drewN 1).heap[mb]?=some (.map es clock):=⟨by have:=HT1.out.t.cell 3;exact this,hFr,HT1.out.m⟩
   have HB:Hd (Below w.heap.size w (w1.drewN 1)):=⟨below_drewN hb 1⟩
   have HKr:Hd (Row (w1.drewN 1) (w.heap.size+1) 41 zKey):=⟨hKr.drewN 1⟩
   have hlt1:w.heap.size+1<(w1.drewN 1).heap.size:=hKr.lt
   clear hb hKr hFr
   generalize w1.drewN 1=w2 at *
   refine pV (i:=0) (some 8) (.pointer (some ⟨tb,0,none⟩)) rfl rfl hS (fun _ _=>rfl) ?_
   simp only [Act.put,u1,u2,u3]
   refine pV (i:=1) (some 9) (.pointer (some ⟨tb,0,none⟩)) rfl rfl hS (by intro W _;simp [go_sem]) ?_
   simp only [Act.put,u1,u2,u3]
   refine pV (i:=2) (some 10) (.pointer (some ⟨tb,3,none⟩)) rfl rfl hS (by intro W _;simp [go_sem]) ?_
   simp only [Act.put,u1,u2,u3]
   refine pV (i:=3) (some 11) (.map (some mb)) rfl rfl hS (fun W h=>exec_cell _ _ (by rfl) ⟨tb,3,none⟩ _ (by rfl) (agg120 W) h.1) ?_
   simp only [Act.put,u1,u2,u3]
   refine pV (i:=4) (some 12) (.agg (fromCells f).toArray) rfl rfl hS (fun W h=>exec_load 173 _ (by rfl) w.heap.size 0 (by rfl) 173 (fromCells f) (fromCells f) _ h.2.1 (by simp) ty70 rfl (by rw [Hfl.out];exact i70)) ?_
   simp only [Act.put,u1,u2,u3]
   refine pV (i:=5) (some 13) (.tuple #[(.agg (vb zKey).toArray),.bool false]) rfl rfl hS (fun W h=>(exec_lookup_from _ _ (by rfl) s f Hf.out mb es clock h.2.2 HR.out.me HR.out.ml (by rfl) (by rfl)).trans (by unfold knownV;rw [Hat.out];rfl)) ?_
   simp only [Act.put,u1,u2,u3]
   refine pV (i:=6) (some 7) (.tuple #[(.agg (vb zKey).toArray),.bool false]) rfl rfl hS (fun _ _=>rfl) ?_
   simp only [Act.put,u1,u2,u3]
   refine pV (i:=7) (some 14) ((.agg (vb zKey).toArray)) rfl rfl hS (fun _ _=>rfl) ?_
   simp only [Act.put,u1,u2,u3]
   refine pV (i:=8) (some 15) (.bool false) rfl rfl hS (fun _ _=>rfl) ?_
   simp only [Act.put,u1,u2,u3]
   have hS3:(w2.alloc (.cells (vb zKey).toArray 41)).cell? ⟨tb,3,none⟩=some (.map (some mb))/\Blk (w2.alloc (.cells (vb zKey).toArray 41)) w.heap.size 173 (fromCells f)/\(w2.alloc (.cells (vb zKey).toArray 41)).heap[mb]?=some (.map es clock):=⟨(World.cell?_alloc_lt w2 _ ⟨tb,3,none⟩ (by show tb<_;omega)).trans hS.1,hS.2.1.alloc _,(Below.heap_alloc w2 _ mb (by omega)).trans hS.2.2⟩
   refine pH_run (i:=9) (some 5) (.pointer (some ⟨w2.heap.size,0,none⟩)) rfl rfl (by kernel_rfl) (by kernel_rfl) (show _=Result.ok _ (w2.alloc (.cells (vb zKey).toArray 41)) by kernel_rfl) (fun _=>hS3) ?_
   simp only [Act.put,u1,u2,u3]
   have HT2:=Hd.mk (HT1.out.keep (w':=w2.alloc (.cells (vb zKey).toArray 41)) (by simp) (fun q hq=>Below.heap_alloc w2 _ q (HT1.out.fl q hq)))
   have HB2:=Hd.mk (HB.out.alloc HB.out.size (.cells (vb zKey).toArray 41))
   have HK2:=Hd.mk (HKr.out.alloc (.cells (vb zKey).toArray 41))
   have HN2:=Hd.mk (Row.new w2 41 zKey)
   have hl2:w2.heap.size<(w2.alloc (.cells (vb zKey).toArray 41)).heap.size:=by simp
   generalize hgn:w2.heap.size=gn at *
   generalize w2.alloc (.cells (vb zKey).toArray 41)=w3 at *
   clear hS HT1 HB HKr
   have hN3:Row (w3.setRow gn (vb zKey).toArray) gn 41 zKey:=Blk.setRow HN2.out _
   have hg3:=only_setRow (w:=w3) gn (vb zKey).toArray
   have hS4:(w3.setRow gn (vb zKey).toArray).cell? ⟨tb,3,none⟩=some (.map (some mb))/\Blk (w3.setRow gn (vb zKey).toArray) w.heap.size 173 (fromCells f)/\(w3.setRow gn (vb zKey).toArray).heap[mb]?=some (.map es clock):=⟨(World.cell?_of_block (a:=⟨tb,3,none⟩) (hg3.block tb (by omega) (fun e=>by injection e with e;omega))).trans hS3.1,hS3.2.1.grown hg3 (fun e=>by injection e with e;omega),(hg3.block mb (by omega) (fun e=>by injection e with e;omega)).trans hS3.2.2⟩
   refine pH_runs (i:=10) none rfl rfl (by kernel_rfl) (by kernel_rfl) (show _=Result.ok _ (w3.setRow gn (vb zKey).toArray) from exec_storeRow 41 _ _ (by rfl) gn 0 (vb zKey) (by rfl) (by rfl) 41 (vb zKey) HN2.out (by simp [zKey]) i42 (vb_ones _)) (fun _=>hS4) ?_
   simp only [Act.put]
   have HT3:=Hd.mk (HT2.out.keep (w':=w3.setRow gn (vb zKey).toArray) hg3.size (fun q hq=>hg3.block q (HT2.out.fl q hq) (fun e=>by injection e with e;have:=HR.out.fl q hq;omega)))
   have HB3:=Hd.mk (HB2.out.grown hg3 HB2.out.size (by rintro j hj;cases hj;omega))
   have HK3:=Hd.mk (HK2.out.grown' hg3 (fun e=>by injection e with e;omega))
   have HFr3:=Hd.mk (hS3.2.1.grown hg3 (fun e=>by injection e with e;omega))
   have HN3:=Hd.mk hN3
   clear hg3 hN3 HT2 HB2 HK2 HN2 hS3
   generalize w3.setRow gn (vb zKey).toArray=w4 at *
   refine pH_run (i:=11) (some 6) (.bool false) rfl rfl (by kernel_rfl) (by kernel_rfl) (show _=Result.ok _ w4 by simp [go_sem]) (fun _=>hS4) ?_
   simp only [Act.put,u1,u2,u3]
   refine pH_done (by kernel_rfl) ?_ _
   clear hS4
   go_upto_region 3 with (fail)
   refine wp_region_lit ?_
   refine wl_val rfl (.pointer (some ⟨tb,0,none⟩)) (rfl) ?_
   simp only [Act.put,u1,u2,u3]
   refine wl_val rfl (.agg (fromCells f).toArray) (exec_load 173 _ (by rfl) w.heap.size 0 (by rfl) 173 (fromCells f) (fromCells f) _ HFr3.out (by simp) ty70 rfl (by rw [Hfl.out];exact i70)) ?_
   simp only [Act.put,u1,u2,u3]
   refine wl_call rfl 59 _ _ rfl [.pointer (some ⟨tb,0,none⟩),.agg (fromCells f).toArray] rfl (by kernel_rfl) (HA.out _ F ⟨_,_,_,_,_,_,_,_,HT3.out⟩) ?_
   rintro e w5 ⟨rfl,F5,hT5,hF1,hF2,hf5⟩
   refine ⟨_,rfl,?_⟩
   have hnF:∀ q,w.heap.size<=q->¬ F q:=fun q h1 h2=>by have:=HR.out.fl q h2;omega
   have HFr5:Hd (Blk w5 w.heap.size 173 (fromCells f)):=Hd.mk ((hf5.block _ HFr3.out.lt (hnF _ (by omega))).trans HFr3.out)
   have HK5:Hd (Row w5 (w.heap.size+1) 41 zKey):=⟨(hf5.block _ HK3.out.lt (hnF _ (by omega))).trans HK3.out⟩
   have HN5:Hd (Row w5 gn 41 zKey):=⟨(hf5.block _ HN3.out.lt (hnF _ (by omega))).trans HN3.out⟩
   have hl4:=HN3.out.lt
   have hlf:=HFr3.out.lt
   have hlk:=HK3.out.lt
   have HF5:=Hd.mk hf5
   simp only [Act.put,u1,u2,u3]
   obtain ⟨mb5,vk5,vx5,vs5,bodies5,sums5,es5,clock5,hR5⟩:=hT5
   have HR5:=Hd.mk hR5
   have htb5:=hR5.fl tb hR5.ft
   clear hR5 hf5 HT3 HFr3 HK3 HN3
   have hd5:∀ q,w.heap.size<=q->q<w4.heap.size->¬ F5 q:=fun q h1 h2 h3=>by
     rcases hF1 q h3 with h|h
     · exact hnF q h1 h
     omega
   go_upto_region 4 with (refine wl_storeW rfl 41 _ _ rfl gn 0 (vb (mkB 107 (s.keys.length+1))) rfl rfl 41 _ (vb (mkB 107 (s.keys.length+1))) HN5.out (by simp [zKey,mkB_len]) i42 (vb_ones _) (by simp [zKey,mkB_len]) ?_;intro w6 hr6 hg6 hs6)
   have HR6:=Hd.mk (HR5.out.keep (w':=w6) hg6.size (fun q hq=>hg6.block q (HR5.out.fl q hq) (fun e=>by injection e with e;subst e;exact hd5 _ (by omega) (by omega) hq)))
   have HFr6:=Hd.mk (HFr5.out.grown hg6 (fun e=>by injection e with e;omega))
   have HK6:=Hd.mk (HK5.out.grown' hg6 (fun e=>by injection e with e;omega))
   have HF6:=Hd.mk (((Fr.of_below F HB3.out).trans HF5.out (fun q hq=>.inl hq)).then_grown hg6 (fun k hk=>by injection hk with hk;subst hk;exact .inr (by omega)))
   have HN6:=Hd.mk hr6
   have hs56:=HF5.out.size
   clear hg6 hr6 HFr5 HK5 HN5 HF5 HR5
   refine pH_begin (n:=7) 6 (fun W=>W.cell? ⟨tb,3,none⟩=some (.map (some mb5))/\Blk W w.heap.size 173 (fromCells f)/\Row W gn 41 (mkB 107 (s.keys.length+1))) (by kernel_rfl) rfl ?_
   have hS:(w6.drewN 1).cell? ⟨tb,3,none⟩=some (.map (some mb5))/\Blk (w6.drewN 1) w.heap.size 173 (fromCells f)/\Row (w6.drewN 1) gn 41 (mkB 107 (s.keys.length+1)):=⟨by have:=HR6.out.t.cell 3;exact this,HFr6.out,HN6.out⟩
   have HR7:Hd (TabR (w6.drewN 1) F5 tb mb5 vk5 vx5 vs5 bodies5 sums5 es5 clock5 (s.add f)):=⟨HR6.out.keep (Nat.le_refl _) (fun _ _=>rfl)⟩
   have HK7:Hd (Row (w6.drewN 1) (w.heap.size+1) 41 zKey):=⟨HK6.out⟩
   have HF7:Hd (Fr F w (w6.drewN 1)):=⟨HF6.out.drewN 1⟩
   have hs67:(w6.drewN 1).heap.size=w6.heap.size:=rfl
   clear HR6 HFr6 HK6 HF6 HN6
   generalize w6.drewN 1=w7 at *
   refine pV (i:=0) (some 21) (.pointer (some ⟨tb,0,none⟩)) rfl rfl hS (fun _ _=>rfl) ?_
   simp only [Act.put,u1,u2,u3]
   refine pV (i:=1) (some 22) (.pointer (some ⟨tb,0,none⟩)) rfl rfl hS (by intro W _;simp [go_sem]) ?_
   simp only [Act.put,u1,u2,u3]
   refine pV (i:=2) (some 23) (.pointer (some ⟨tb,3,none⟩)) rfl rfl hS (by intro W _;simp [go_sem]) ?_
   simp only [Act.put,u1,u2,u3]
   refine pV (i:=3) (some 24) (.map (some mb5)) rfl rfl hS (fun W h=>exec_cell _ _ (by rfl) ⟨tb,3,none⟩ _ (by rfl) (agg120 W) h.1) ?_
   simp only [Act.put,u1,u2,u3]
   refine pV (i:=4) (some 25) (.agg (fromCells f).toArray) rfl rfl hS (fun W h=>exec_load 173 _ (by rfl) w.heap.size 0 (by rfl) 173 (fromCells f) (fromCells f) _ h.2.1 (by simp) ty70 rfl (by rw [Hfl.out];exact i70)) ?_
   simp only [Act.put,u1,u2,u3]
   refine pV (i:=5) (some 26) (.agg (vb (mkB 107 (s.keys.length+1))).toArray) rfl rfl hS (fun W h=>exec_load 41 _ (by rfl) gn 0 (by rfl) 41 (vb (mkB 107 (s.keys.length+1))) (vb (mkB 107 (s.keys.length+1))) _ h.2.2 (by simp) ty42 rfl i42) ?_
   simp only [Act.put,u1,u2,u3]
   obtain ⟨w8,hrun,hm8,hg8,hs8⟩:=run_update_from (s.add f) f Hf.out mb5 es5 clock5 w7 HR7.out.m (.agg (vb (mkB 107 (s.keys.length+1))).toArray) HR7.out.me HR7.out.ml Hat.out
   have HT8:=Hd.mk (TabR.mapped (n:=s.keys.length+1) HR7.out Hf.out hm8 rfl hg8)
   have hmF:∀ q,some mb5=some q->F5 q:=fun q hq=>by injection hq with hq;subst hq;exact HR7.out.fm
   refine pH_runs (i:=6) none rfl rfl (by kernel_rfl) (by kernel_rfl) (exec_update_from _ _ _ (by rfl) f mb5 _ hrun (by rfl) (by rfl) (by rfl)) (fun h=>absurd h (by omega)) ?_
   simp only [Act.put]
   refine pH_done (by kernel_rfl) ?_ _
   have HK8:Hd (Row w8 (w.heap.size+1) 41 zKey):=⟨HK7.out.grown' hg8 (fun e=>hd5 _ (by omega) (by omega) (hmF _ e.symm))⟩
   have HN8:Hd (Row w8 gn 41 (mkB 107 (s.keys.length+1))):=⟨hS.2.2.grown' hg8 (fun e=>hd5 _ (by omega) (by omega) (hmF _ e.symm))⟩
   have HF8:=Hd.mk (HF7.out.then_grown hg8 (fun q hq=>by
     rcases hF1 q (hmF q hq) with h|h
     · exact .inl h
     exact .inr (by have:=HB3.out.size;omega)))
   clear HR7 hrun hm8 hg8 HK7 HF7 hS
   go_wp2_with (first|(refine wl_load rfl 41 _ rfl gn 0 rfl 41 (vb (mkB 107 (s.keys.length+1))) (vb (mkB 107 (s.keys.length+1))) _ HN8.out (by simp) ty42 rfl i42 ?_)|(refine wl_storeW rfl 41 _ _ rfl (w.heap.size+1) 0 (vb (mkB 107 (s.keys.length+1))) rfl rfl 41 _ (vb (mkB 107 (s.keys.length+1))) HK8.out (by simp [zKey,mkB_len]) i42 (vb_ones _) (by simp [zKey,mkB_len]) ?_;intro w9 hr9 hg9 hs9))
   refine bodyPost_ret (results_cell_row (p:=4) (ty:=41) rfl _ _ (w.heap.size+1) 41 (vb (mkB 107 (s.keys.length+1))).toArray (0,0) _ rfl hr9 ty42 rfl (by rw [i42];rfl)) rfl ?_
   rw [Hm.out,Hn.out]
   refine ⟨rfl,F5,⟨_,_,_,_,_,_,_,_,HT8.out.keep hg9.size (fun q hq=>hg9.block q (HT8.out.fl q hq) (fun e=>by injection e with e;subst e;exact hd5 _ (by omega) (by omega) hq))⟩,fun q hq=>(hF1 q hq).elim .inl (fun h=>.inr (by have:=HB3.out.size;omega)),hF2,HF8.out.then_grown hg9 (fun q hq=>by injection hq with hq;subst hq;exact .inr (by omega))⟩
end
section
open Go.RowKit Go.QT
theorem places70(W:World):((Tryz.prog.fieldsOf 173).mapM (fun f=>do pure (f.offset,← sizeOf f.type)):Sem (Array (Nat × Nat))).run Tryz.prog W=.ok #[(0,16),(16,1),(17,1)] W:=by kernel_rfl
theorem run_build_from(parts:Array (Nat × Value))(cs:Array Value)(hfill:Instr.fill (fun i=>(#[(0,16),(16,1),(17,1)]:Array (Nat × Nat))[i]?) (fromCells SFrom.fresh).toArray parts.toList=some cs)(w:World) :
   (Instr.build 173 parts).run Tryz.prog w=.ok (.agg cs) w:=by
 have hz:(Value.agg (fromCells SFrom.fresh).toArray).cells=(fromCells SFrom.fresh).toArray:=rfl
 simp only [Instr.build,Sem.run_bind,zfs,Result.andThen_ok,run_underlying ty70,places70,Sem.run_pure,hz,hfill]
theorem fill_text(l:ByteArray):Instr.fill (fun i=>(#[(0,16),(16,1),(17,1)]:Array (Nat × Nat))[i]?) (fromCells SFrom.fresh).toArray [(1,.string l),(2,.bool true)]=some (fromCells ⟨zKey,l,true⟩).toArray:=by
 rw [fill_one _ _ 1 16 1 (.string l) _ rfl rfl (by simp [fromCells,SFrom.fresh,zKey]),fill_one _ _ 2 17 1 (.bool true) _ rfl rfl (by rw [lay_len _ _ _ (by simp [Value.cells,fromCells,SFrom.fresh,zKey])];simp [fromCells,SFrom.fresh,zKey])]
 rfl
theorem exec_build_text{o:Oper}{a:Act}(x y:Operand)(ho:o.op=.build 173 #[(1,x),(2,y)])(l:ByteArray)(hx:a.eval x=.string l)(hy:a.eval y=.bool true)(w:World) :
   (execOp a.eval o).run Tryz.prog w=.ok (.value (.agg (fromCells ⟨zKey,l,true⟩).toArray)) w:=by
 have h:=run_build_from #[(1,.string l),(2,.bool true)] _ (fill_text l) w
 unfold execOp
 simp [ho,hx,hy,h]
end
section
open Go.RowKit Go.QT
theorem ty56:Tryz.prog.underlying 320=some (.struct (Tryz.prog.fieldsOf 320)):=by kernel_rfl
theorem i56:(Tryz.prog.info? 320).map (·.size)=some 18:=by kernel_rfl
theorem tyss:Tryz.prog.underlying 166=some (.slice 320):=by kernel_rfl
def zSealed:SSealed:=⟨zKey,0,[]⟩
theorem iss:(Tryz.prog.info? 320).map (fun i=>(i.zero,i.size,i.bytes))=some (some (.agg (sealCells zSealed (.slice none 0 0)).toArray),18,48):=by kernel_rfl
theorem zss(W:World):(zeroValue 320).run Tryz.prog W=.ok (.agg (sealCells zSealed (.slice none 0 0)).toArray) W:=by kernel_rfl
theorem i62:(Tryz.prog.info? 166).map (·.size)=some 1:=by kernel_rfl
theorem places56(W:World):((Tryz.prog.fieldsOf 320).mapM (fun f=>do pure (f.offset,← sizeOf f.type)):Sem (Array (Nat × Nat))).run Tryz.prog W=.ok #[(0,16),(16,1),(17,1)] W:=by kernel_rfl
theorem run_build_sealed(parts:Array (Nat × Value))(cs:Array Value)(hfill:Instr.fill (fun i=>(#[(0,16),(16,1),(17,1)]:Array (Nat × Nat))[i]?) (sealCells zSealed (.slice none 0 0)).toArray parts.toList=some cs)(w:World) :
   (Instr.build 320 parts).run Tryz.prog w=.ok (.agg cs) w:=by
 have hz:(Value.agg (sealCells zSealed (.slice none 0 0)).toArray).cells=(sealCells zSealed (.slice none 0 0)).toArray:=rfl
 simp only [Instr.build,Sem.run_bind,zss,Result.andThen_ok,run_underlying ty56,places56,Sem.run_pure,hz,hfill]
theorem fill_sealed(k:Bytes)(u:Int)(v:Value)(l:Bytes)(hk:k.length=16)(hv:v.cells=#[v]):Instr.fill (fun i=>(#[(0,16),(16,1),(17,1)]:Array (Nat × Nat))[i]?) (sealCells zSealed (.slice none 0 0)).toArray [(0,.agg (vb k).toArray),(1,.int .i64 u),(2,v)]=some (sealCells ⟨k,u,l⟩ v).toArray:=by
 rw [fill_one _ _ 0 0 16 (.agg (vb k).toArray) _ rfl (by simp [Value.cells,hk]) (by simp [sealCells,zSealed,zKey]),
   fill_one _ _ 1 16 1 (.int .i64 u) _ rfl rfl (by rw [lay_len _ _ _ (by simp [Value.cells,hk,sealCells,zSealed,zKey])];simp [sealCells,zSealed,zKey]),
   fill_one _ _ 2 17 1 v _ rfl (by rw [hv];rfl) (by rw [lay_len _ _ _ (by rw [lay_len _ _ _ (by simp [Value.cells,hk,sealCells,zSealed,zKey])];simp [Value.cells,sealCells,zSealed,zKey]),lay_len _ _ _ (by simp [Value.cells,hk,sealCells,zSealed,zKey])];simp [sealCells,zSealed,zKey])]
 simp only [Instr.fill,hv]
 congr 2
 obtain ⟨a0,a1,a2,a3,a4,a5,a6,a7,a8,a9,a10,a11,a12,a13,a14,a15,rfl⟩:=l16 k hk
 rfl
theorem exec_build_sealed{o:Oper}{a:Act}(x y z:Operand)(ho:o.op=.build 320 #[(0,x),(1,y),(2,z)])(k:Bytes)(u:Int)(v:Value)(l:Bytes)(hk:k.length=16)(hv:v.cells=#[v])(hx:a.eval x=.agg (vb k).toArray)(hy:a.eval y=.int .i64 u)(hz:a.eval z=v)(w:World) :
   (execOp a.eval o).run Tryz.prog w=.ok (.value (.agg (sealCells ⟨k,u,l⟩ v).toArray)) w:=by
 have h:=run_build_sealed #[(0,.agg (vb k).toArray),(1,.int .i64 u),(2,v)] _ (fill_sealed k u v l hk hv) w
 unfold execOp
 simp [ho,hx,hy,hz,h]
theorem sealCells_len(s:SSealed)(v:Value)(h:s.by_.length=16):(sealCells s v).length=18:=by simp [sealCells,h]
theorem sealCells_one(s:SSealed)(v:Value)(h:v.oneCell'=true):∀ u ∈ sealCells s v,u.oneCell'=true:=by
 intro u hu
 simp only [sealCells,List.mem_append,List.mem_cons,List.not_mem_nil,or_false] at hu
 rcases hu with h1|rfl|rfl
 · exact vb_ones _ u h1
 · rfl
 exact h
theorem OB.one{w:World}{base:Nat}{v:Value}{l:Bytes}(h:OB w base v l):v.oneCell'=true:=by
 obtain ⟨A,c,rfl,_⟩:=h.sb;rfl
theorem OB.cells1{w:World}{base:Nat}{v:Value}{l:Bytes}(h:OB w base v l):v.cells=#[v]:=by
 obtain ⟨A,c,rfl,_⟩:=h.sb;rfl
/-- The table behind a new box. -/
theorem TabR.sealed{w w':World}{F:Nat->Prop}{tb mb:Nat}{vk vx vs v' body:Value}{bodies sums:List Value}{es:Array MapEntry}{clock:Nat}{s:STab}{k:Bytes}{u:Int}{l:Bytes}(h:TabR w F tb mb vk vx vs bodies sums es clock s)(hk:k.length=16)
   (hv:OV w' 0 320 18 v' (List.zipWith sealCells s.boxes bodies++[sealCells ⟨k,u,l⟩ body])) (hg:w.grownBy w' vx.ownBlock) (hb:OB w 0 body l) (hbx:Disj body vx) :
   TabR (w'.setCell ⟨tb,1,none⟩ v') (fun q=>F q∨v'.ownBlock=some q∨body.ownBlock=some q) tb mb vk v' vs (bodies++[body]) sums es clock (s.seal k u l):=by
 have hs:w.heap.size<=w'.heap.size:=hg.size
 have e0:∀ q,some q≠vx.ownBlock->q≠tb->q<w.heap.size->(w'.setCell ⟨tb,1,none⟩ v').heap[q]?=w.heap[q]?:=fun q h1 h2 h3 =>
   (Below.heap_setCell w' ⟨tb,1,none⟩ v' q h2).trans (hg.block q h3 h1)
 have hvl:∀ q,v'.ownBlock=some q->q<w'.heap.size:=fun q hq=>(hv.block q hq).2
 have h1:Blk w' tb 169 [vk,vx,vs,.map (some mb)]:=h.t.grown hg (fun e=>own_ne h.x.own h.t (by decide) tb e.symm rfl)
 refine { t:=h1.set 1 v',k:=?_,kl:=h.kl,x:=?_,xn:=by simp [STab.seal,h.xn],xl:=?_,xb:=?_,u:=?_,un:=h.un,ub:=?_,m:=?_,me:=h.me,ml:=h.ml,ft:=.inl h.ft,fm:=.inl h.fm,fk:=fun q hq=>.inl (h.fk q hq),fx:=fun q hq=>.inr (.inl hq),fu:=fun q hq=>.inl (h.fu q hq),fl:=?_ }
 · exact h.k.keep fun q hq=>e0 q (fun e=>own_disj h.k.own h.x.own (by decide) q hq e.symm) (own_ne h.k.own h.t (by decide) q hq) (h.k.block q hq).2
 · have h2:OV w' 0 320 18 v' (List.zipWith sealCells (s.seal k u l).boxes (bodies++[body])):=by
     rw [STab.seal]
     show OV w' 0 320 18 v' (List.zipWith sealCells (s.boxes++[⟨k,u,l⟩]) (bodies++[body]))
     rw [List.zipWith_append h.xn.symm]
     exact hv
   exact h2.far (fun q hq e=>own_ne hv.own h1 (by decide) q hq e) _
 · intro b hb'
   simp only [STab.seal,List.mem_append,List.mem_singleton] at hb'
   rcases hb' with hb' | rfl
   · exact h.xl b hb'
   exact hk
 · intro i b v hb1 hb2
   have hkeep:∀ {v:Value} {m:Bytes},OB w 0 v m->Disj v vx->OB (w'.setCell ⟨tb,1,none⟩ v') 0 v m:=fun ho hd=>OB.keep ho fun q hq=>e0 q (fun e=>hd q hq e.symm) (own_ne ho h.t (by decide) q hq) (OB.own ho q hq).2
   by_cases hi:i<s.boxes.length
   · have e1:s.boxes[i]?=some b:=by simpa [STab.seal,List.getElem?_append_left hi] using hb1
     have e2:bodies[i]?=some v:=by rw [List.getElem?_append_left (by rw [h.xn];exact hi)] at hb2;exact hb2
     obtain ⟨a1,a2,a3⟩:=h.xb i b v e1 e2
     exact ⟨hkeep a1 (own_disj a1 h.x.own (by decide)),fun q hq=>.inl (a2 q hq),a3⟩
   have e1:(s.boxes++[(⟨k,u,l⟩:SSealed)])[i]?=some b:=hb1
   have hi2:i=s.boxes.length:=by
     have:=(List.getElem?_eq_some_iff.1 e1).1
     simp at this;omega
   subst hi2
   have e3:b=⟨k,u,l⟩:=by simpa using e1.symm
   have e4:v=body:=by
     rw [← h.xn] at hb2
     simpa using hb2.symm
   subst e3;subst e4
   exact ⟨hkeep hb hbx,fun q hq=>.inr (.inr hq),hb.one⟩
 · exact h.u.keep fun q hq=>e0 q (fun e=>own_disj h.u.own h.x.own (by decide) q hq e.symm) (own_ne h.u.own h.t (by decide) q hq) (h.u.block q hq).2
 · intro i b v h1 h2
   obtain ⟨a1,a2,a3⟩:=h.ub i b v h1 h2
   exact ⟨OB.keep a1 fun q hq=>e0 q (fun e=>own_disj a1 h.x.own (by decide) q hq e.symm) (own_ne a1 h.t (by decide) q hq) (OB.own a1 q hq).2,fun q hq=>.inl (a2 q hq),a3⟩
 · have hml:mb<w.heap.size:=h.fl mb h.fm
   exact (e0 mb (fun e=>own_ne_map h.x.own h.m mb e.symm rfl) (fun e=>blk_ne_map h.t h.m e.symm) hml).trans h.m
 intro q hq
 have:(w'.setCell ⟨tb,1,none⟩ v').heap.size=w'.heap.size:=by simp [World.setCell]
 rcases hq with hq|hq|hq
 · have:=h.fl q hq;omega
 · have:=hvl q hq;omega
 have:=(OB.own hb q hq).2;omega
/-- What a method leaves that answers a row of bytes, and may turn the table. -/
def SPost(w:World)(F:Nat->Prop)(tb:Nat)(s:STab)(l:Bytes)(e:Ending)(w':World):Prop:=
 ∃ v F',e=.returned v/\SB w' v l/\TabAt w' F' tb s/\(∀ q,F' q->F q∨w.heap.size<=q)/\(∀ q,F q->F' q)/\Fr F w w'/\(∀ q,v.ownBlock=some q->w.heap.size<=q/\¬ F' q)
theorem seal_any(F:Nat->Prop)(tb:Nat)(s:STab)(k:Bytes)(u:Int)(l:Bytes)(bv:Value)(w:World)(hT:TabAt w F tb s)(hk:k.length=16)(hbv:SB w bv l)(hl:l.length<=1000000)(hn:s.boxes.length<1000000) :
   Calls Tryz.prog 163 #[.pointer (some ⟨tb,0,none⟩),.agg (vb k).toArray,.int .i64 u,bv] w (SPost w F tb (s.seal k u l) (mkB 98 (s.boxes.length+1))):=by
 obtain ⟨mb,vk,vx,vs,bodies,sums,es,clock,hR⟩:=hT
 have HR:=Hd.mk hR
 have Hk:=Hd.mk hk
 have Hbv:=Hd.mk hbv
 have htb:=hR.fl tb hR.ft
 have hik:(Tryz.prog.info? 41).map (·.size)=some (vb k).length:=by rw [vb_length,hk];exact i42
 have Hik:=Hd.mk hik
 have hzl:(List.zipWith sealCells s.boxes bodies).length=s.boxes.length:=by rw [List.length_zipWith,hR.xn,Nat.min_self]
 have Hzl:=Hd.mk hzl
 have hxl:=HR.out.x.form
 clear hR hk hbv hik hzl
 go_enter Tryz.func163,Tryz.ntmps163
 go_upto_region 1 with (fail)
 have hb:Below w.heap.size w (w.alloc (.cells (vb k).toArray 41)):=(Below.refl _ _).alloc (Nat.le_refl _) _
 have hKk:Row (w.alloc (.cells (vb k).toArray 41)) w.heap.size 41 k:=Row.new w 41 k
 generalize w.alloc (.cells (vb k).toArray 41)=w1 at *
 refine pH_begin (n:=15) 12 (fun W=>W.cell? ⟨tb,1,none⟩=some vx/\Row W w.heap.size 41 k) (by kernel_rfl) rfl ?_
 have HT1:=Hd.mk (HR.out.keep (w':=w1.drewN 1) hb.size (fun q hq=>hb.block q (HR.out.fl q hq)))
 have hS:(w1.drewN 1).cell? ⟨tb,1,none⟩=some vx/\Row (w1.drewN 1) w.heap.size 41 k:=⟨by have:=HT1.out.t.cell 1;exact this,hKk⟩
 have HB:Hd (Below w.heap.size w (w1.drewN 1)):=⟨below_drewN hb 1⟩
 have hlt1:w.heap.size<(w1.drewN 1).heap.size:=hKk.lt
 clear hb hKk
 generalize w1.drewN 1=w2 at *
 refine pV (i:=0) (some 10) (.pointer (some ⟨tb,0,none⟩)) rfl rfl hS (fun _ _=>rfl) ?_
 simp only [Act.put,u1,u2,u3]
 refine pV (i:=1) (some 11) (.pointer (some ⟨tb,0,none⟩)) rfl rfl hS (fun _ _=>rfl) ?_
 simp only [Act.put,u1,u2,u3]
 refine pV (i:=2) (some 12) (.pointer (some ⟨tb,0,none⟩)) rfl rfl hS (by intro W _;simp [go_sem]) ?_
 simp only [Act.put,u1,u2,u3]
 refine pV (i:=3) (some 13) (.pointer (some ⟨tb,1,none⟩)) rfl rfl hS (by intro W _;simp [go_sem]) ?_
 simp only [Act.put,u1,u2,u3]
 refine pV (i:=4) (some 14) (vx) rfl rfl hS (fun W h=>exec_cell _ _ (by rfl) ⟨tb,1,none⟩ _ (by rfl) (agg62 W) h.1) ?_
 simp only [Act.put,u1,u2,u3]
 refine pV (i:=5) (some 15) (.agg (vb k).toArray) rfl rfl hS (fun W h=>exec_load 41 _ (by rfl) w.heap.size 0 (by rfl) 41 (vb k) (vb k) _ h.2 (by simp) ty42 rfl Hik.out) ?_
 simp only [Act.put,u1,u2,u3]
 refine pV (i:=6) (some 16) (.int .i64 u) rfl rfl hS (fun _ _=>rfl) ?_
 simp only [Act.put,u1,u2,u3]
 refine pV (i:=7) (some 17) (bv) rfl rfl hS (fun _ _=>rfl) ?_
 simp only [Act.put,u1,u2,u3]
 refine pH_call (i:=8) (some 18) rfl rfl (by kernel_rfl) (by kernel_rfl) 167 _ _ rfl [bv] rfl (by kernel_rfl) (clone_any bv l _ (Hbv.out.below HB.out) (by omega)) ?_
 rintro e w3 ⟨body,rfl,hob,hb3⟩
 have HT3:=Hd.mk (HT1.out.keep hb3.size (fun q hq=>hb3.block q (HT1.out.fl q hq)))
 have HB3:=Hd.mk (HB.out.trans (hb3.mono HB.out.size))
 have hS3:w3.cell? ⟨tb,1,none⟩=some vx/\Row w3 w.heap.size 41 k:=⟨(hb3.cell (p:=⟨tb,1,none⟩) (by show tb<_;omega)).trans hS.1,hS.2.below hb3 hS.2.lt⟩
 have hs3:=hb3.size
 clear HT1 HB hb3 hS
 refine ⟨_,rfl,(fun _=>hS3),?_⟩
 simp only [Act.put,u1,u2,u3]
 refine pV (i:=9) (some 19) (.agg (sealCells ⟨k,u,l⟩ body).toArray) rfl rfl hS3 (fun W _=>exec_build_sealed (.tmp 15) (.tmp 16) (.tmp 18) (by rfl) k u body l Hk.out hob.cells1 (by rfl) (by rfl) (by rfl) W) ?_
 simp only [Act.put,u1,u2,u3]
 have hS4:(w3.alloc (.cells (sealCells ⟨k,u,l⟩ body).toArray 320)).cell? ⟨tb,1,none⟩=some vx/\Row (w3.alloc (.cells (sealCells ⟨k,u,l⟩ body).toArray 320)) w.heap.size 41 k:=⟨(World.cell?_alloc_lt w3 _ ⟨tb,1,none⟩ (by show tb<_;omega)).trans hS3.1,hS3.2.alloc _⟩
 have hcl:=sealCells_len ⟨k,u,l⟩ body Hk.out
 refine pH_run (i:=10) (some 20) (.slice (some ⟨w3.heap.size,0,none⟩) 1 1) rfl rfl (by kernel_rfl) (by kernel_rfl) (show _=Result.ok _ (w3.alloc (.cells (sealCells ⟨k,u,l⟩ body).toArray 320)) from exec_bs1 166 320 _ (by rfl) (.agg (sealCells ⟨k,u,l⟩ body).toArray) (.agg (sealCells zSealed (.slice none 0 0)).toArray) 18 (by rfl) tyss i56 zss (by omega) (by omega) rfl (by simp [Value.cells,hcl]) _) (fun _=>hS4) ?_
 simp only [Act.put,u1,u2,u3]
 have HT4:=Hd.mk (HT3.out.keep (w':=w3.alloc (.cells (sealCells ⟨k,u,l⟩ body).toArray 320)) (by simp) (fun q hq=>Below.heap_alloc w3 _ q (HT3.out.fl q hq)))
 have hob4:OB (w3.alloc (.cells (sealCells ⟨k,u,l⟩ body).toArray 320)) 0 body l:=(OB.mono hob (Nat.zero_le _)).alloc _
 have HB4:=Hd.mk (HB3.out.alloc HB3.out.size (.cells (sealCells ⟨k,u,l⟩ body).toArray 320))
 have hbd:∀ q,body.ownBlock=some q->w2.heap.size<=q:=fun q hq=>(hob.own q hq).1
 have hBk:=Blk.new w3 320 (sealCells ⟨k,u,l⟩ body)
 have hs4:(w3.alloc (.cells (sealCells ⟨k,u,l⟩ body).toArray 320)).heap.size=w3.heap.size+1:=by simp
 generalize hg3:w3.heap.size=g3 at *
 generalize w3.alloc (.cells (sealCells ⟨k,u,l⟩ body).toArray 320)=w4 at *
 clear hob HT3 HB3 hS3
 refine pH_pushV (i:=11) (some 21) rfl rfl (by kernel_rfl) (by kernel_rfl) (.tmp 14) (.tmp 20) 166 rfl 0 320 18 48 (.agg (sealCells zSealed (.slice none 0 0)).toArray) tyss iss rfl (by omega) vx (List.zipWith sealCells s.boxes bodies) rfl HT4.out.x g3 320 (sealCells ⟨k,u,l⟩ body) 1 rfl hBk hcl (sealCells_one _ _ hob4.one) (by rw [Hzl.out];omega) (by rw [Hzl.out];unfold maxLen;omega) (by omega) ?_
 intro v' w5 hv5 hg5 hat5
 have hxb:∀ q,vx.ownBlock=some q->q<w.heap.size:=fun q hq=>HR.out.fl q (HR.out.fx q hq)
 have hdj:Disj body vx:=own_disj hob4 HT4.out.x.own (by decide)
 have HT5:=Hd.mk (TabR.sealed (k:=k) (u:=u) (l:=l) HT4.out Hk.out hv5 hg5 hob4 hdj)
 have ht5:=HT4.out.t.grown hg5 (fun e=>own_ne HT4.out.x.own HT4.out.t (by decide) tb e.symm rfl)
 have hS5:w5.cell? ⟨tb,1,none⟩=some vx/\Row w5 w.heap.size 41 k:=⟨by have:=ht5.cell 1;exact this,hS4.2.grown' hg5 (fun e=>by have:=hxb _ e.symm;omega)⟩
 have HF5:Hd (Fr F w w5):=⟨(Fr.of_below F HB4.out).then_grown hg5 (fun q hq=>.inl (HR.out.fx q hq))⟩
 have Ht5:=Hd.mk ht5
 have hs5:=hg5.size
 have hat:∀ q,v'.ownBlock=some q->F q∨w.heap.size<=q:=by
   intro q hq
   rcases hat5 with e|e
   · rw [e] at hq;exact .inl (HR.out.fx q hq)
   rw [e] at hq;injection hq with hq;right;omega
 have hv1:v'.oneCell'=true/\v'.cells=#[v']:=by obtain ⟨A,c,e,_⟩:=hv5.form;rw [e];exact ⟨rfl,rfl⟩
 have Hat:=Hd.mk hat
 clear hat hat5 hg5 hS4 ht5 HT4 hv5 hob4 HB4 hBk
 refine ⟨(fun _=>hS5),?_⟩
 simp only [Act.put,u1,u2,u3]
 refine pH_run (i:=12) (some 22) (.pointer (some ⟨tb,0,none⟩)) rfl rfl (by kernel_rfl) (by kernel_rfl) (show _=Result.ok _ w5 by simp [go_sem]) (fun h=>absurd h (by omega)) ?_
 simp only [Act.put,u1,u2,u3]
 refine pH_run (i:=13) (some 23) (.pointer (some ⟨tb,1,none⟩)) rfl rfl (by kernel_rfl) (by kernel_rfl) (show _=Result.ok _ w5 by simp [go_sem]) (fun h=>absurd h (by omega)) ?_
 simp only [Act.put,u1,u2,u3]
 refine pH_runs (i:=14) none rfl rfl (by kernel_rfl) (by kernel_rfl) (exec_storeCell 166 _ _ (by rfl) tb 1 v' (by rfl) (by rfl) 169 _ Ht5.out (by simp) i62 hv1.1 hv1.2) (fun h=>absurd h (by omega)) ?_
 simp only [Act.put]
 refine pH_done (by kernel_rfl) ?_ _
 go_upto_region 2 with (fail)
 have HF6:Hd (Fr F w (w5.setCell ⟨tb,1,none⟩ v')):=⟨⟨HF5.out.os,HF5.out.tape,HF5.out.output,by simpa [World.setCell] using HF5.out.size,fun q hq hF=>(Below.heap_setCell w5 ⟨tb,1,none⟩ v' q (fun e=>hF (e ▸ HR.out.ft))).trans (HF5.out.block q hq hF)⟩⟩
 have hs6:(w5.setCell ⟨tb,1,none⟩ v').heap.size=w5.heap.size:=by simp [World.setCell]
 generalize w5.setCell ⟨tb,1,none⟩ v'=w6 at *
 clear HF5 Ht5 hS5 hv1
 obtain ⟨A,cp,hve,hcp,hcp2⟩:=HT5.out.x.form
 have hkl:(List.zipWith sealCells (s.seal k u l).boxes (bodies++[body])).length=s.boxes.length+1:=by
   rw [List.length_zipWith];simp [STab.seal,HR.out.xn]
 rw [hkl] at hve hcp
 unfold maxLen at hcp2
 have x0:=HT5.out.t.cell 1
 rw [hve] at x0
 have x1:w6.cell? ⟨tb,1,none⟩=some (.slice A (s.boxes.length+1) cp):=x0
 clear x0 hkl
 have ub98:ub 98=98:=by simp [ub]
 have H69:=Hd.mk (smark_any 98 (s.boxes.length+1) (by omega) w6)
 rw [ub98] at H69
 clear ub98
 refine wp_region_lit ?_
 refine wl_val rfl (.pointer (some ⟨tb,0,none⟩)) (rfl) ?_
 simp only [Act.put,u1,u2,u3]
 refine wl_val rfl (.pointer (some ⟨tb,0,none⟩)) (by simp [go_sem]) ?_
 simp only [Act.put,u1,u2,u3]
 refine wl_val rfl (.pointer (some ⟨tb,1,none⟩)) (by simp [go_sem]) ?_
 simp only [Act.put,u1,u2,u3]
 refine wl_val rfl (.slice A (s.boxes.length+1) cp) (exec_cell _ _ (by rfl) ⟨tb,1,none⟩ _ (by rfl) (agg62 _) x1) ?_
 simp only [Act.put,u1,u2,u3]
 refine wl_val rfl (.int .i64 ((s.boxes.length+1:Nat):Int)) (by simp [go_sem]) ?_
 simp only [Act.put,u1,u2,u3]
 refine wl_call rfl 71 _ _ rfl [.int .u8 98,.int .i64 ((s.boxes.length+1:Nat):Int)] rfl (by kernel_rfl) (H69.out) ?_
 rintro e w7 ⟨rfl,hb7⟩
 refine ⟨_,rfl,?_⟩
 have HT7:=Hd.mk (TabR.keep HT5.out hb7.size (fun q hq=>hb7.block q (HT5.out.fl q hq)))
 have HF7:=Hd.mk (HF6.out.then_below hb7)
 have hs7:=hb7.size
 have hF5:∀ q,(F q∨v'.ownBlock=some q∨body.ownBlock=some q)->F q∨w.heap.size<=q:=fun q hq=>by
   rcases hq with hq|hq|hq
   · exact .inl hq
   · exact Hat.out q hq
   exact .inr (by have:=hbd q hq;omega)
 clear HF6 hb7 x1
 simp only [Act.put,u1,u2,u3]
 go_upto_region 3 with (refine wl_storeW rfl 41 _ _ rfl w7.heap.size 0 (vb (mkB 98 (s.boxes.length+1))) rfl rfl 41 _ (vb (mkB 98 (s.boxes.length+1))) (Blk.new w7 41 (List.replicate 16 (.int .u8 0))) (by simp [mkB_len]) i42 (vb_ones _) (by simp [mkB_len]) ?_;intro w8 hr8 hg8 hs8)
 have hRow:Row w8 w7.heap.size 41 (mkB 98 (s.boxes.length+1)):=hr8
 have HT8:=Hd.mk (HT7.out.keep (w':=w8) (by have:=hg8.size;simp at this;omega) (fun q hq=>(hg8.block q (by have:=HT7.out.fl q hq;simp;omega) (fun e=>by injection e with e;have:=HT7.out.fl q hq;omega)).trans (Below.heap_alloc w7 _ q (HT7.out.fl q hq))))
 have HF8:=Hd.mk ((HF7.out.then_below ((Below.refl _ _).alloc (Nat.le_refl _) (.cells (List.replicate 16 (Value.int .u8 0)).toArray 41))).then_grown hg8 (fun q hq=>.inr (by injection hq with hq;have:=HF7.out.size;omega)))
 have hsb:=SB.row hRow (by simp [mkB_len,maxLen])
 have Hsb:=Hd.mk hsb
 have hlF:=HF7.out.size
 clear hr8 hg8 hs8 hsb HF7 hRow
 go_wp2
 go_ret
 refine ⟨_,_,rfl,Hsb.out,⟨_,_,_,_,_,_,_,_,HT8.out⟩,hF5,fun q hq=>.inl hq,HF8.out,fun q hq=>?_⟩
 have hq2:q=w7.heap.size:=by simpa [Value.ownBlock] using hq.symm
 subst hq2
 exact ⟨hlF,fun hq3=>by have:=HT7.out.fl _ hq3;omega⟩
end
section
open Go.RowKit Go.QT
theorem mkV_none:mkV none=.tuple #[.int .u8 0,.int .i64 0,.bool false]:=by simp [mkV,ub]
theorem mkV_some(k:UInt8)(n:Nat):mkV (some (k,n))=.tuple #[.int .u8 (ub k),.int .i64 (n:Int),.bool true]:=rfl
end
section
open Go.RowKit Go.QT
variable{P:Program}{o:Oper}{a:Act}
theorem exec_idx(T E:TypeId)(sz:Nat)(x i:Operand)(ho:o.op=.indexAddr T x i)(g off len cap k:Nat)(hx:a.eval x=.slice (some ⟨g,off,none⟩) len cap)(hi:a.eval i=.int .i64 (k:Int))(hk:k<len)
   (ht:P.underlying T=some (.slice E)) (hs:(P.info? E).map (·.size)=some sz) (w:World):(execOp a.eval o).run P w=.ok (.value (.pointer (some ⟨g,off+k*sz,none⟩))) w:=by
 cases hq:P.info? E with
 | none=>simp [hq] at hs
 | some inf =>
   have h1:inf.size=sz:=by simpa [hq] using hs
   have h2:(Instr.indexAt T (.slice (some ⟨g,off,none⟩) len cap) (.int .i64 (k:Int))).run P w=.ok (.pointer (some ⟨g,off+k*sz,none⟩)) w:=by
     simp [Instr.indexAt,run_underlying ht,sizeOf,typeInfo,hq,h1,asIntOf,hk,Addr.add]
   unfold execOp
   simp only [ho,hx,hi,Sem.run_bind,h2,Result.andThen_ok,Sem.run_pure]
end
section
open Go.RowKit Go.QT
theorem ustr:Tryz.prog.underlying 9=some .string:=by kernel_rfl
theorem ubyte:Tryz.prog.underlying 5=some (.int .u8):=by kernel_rfl
theorem conv_sb(s:ByteArray)(w:World)(hs:s.size<=maxLen):∃ v w',(convert 9 25 (.string s)).run Tryz.prog w=.ok v w'/\SB w' v s.data.toList/\Below w.heap.size w w'/\(∃ g c,g=w.heap.size/\v=.slice (some ⟨g,0,none⟩) s.size c):=by
 refine ⟨_,_,run_bytes_of_string w 9 25 5 s ustr u28 ubyte,?_,(below_drewN (Below.refl _ _) 1).alloc (Nat.le_refl _) _,⟨_,_,rfl,rfl⟩⟩
 refine ⟨_,_,?_,?_,grownCap_le_maxLen w s.size 0 5 hs,fun hne=>⟨w.heap.size,0,rfl,by simp [World.alloc,World.drew,-World.alloc_eq,-World.drew_eq],fun i hi=>?_⟩⟩
 · rfl
 · exact grownCap_ge w s.size 0 5
 have:=World.cell?_alloc_mark w.drew (bytesRow s (grownCap w s.size 0 5)) 5 ((bytesRow s (grownCap w s.size 0 5)).size,(bytesRow s (grownCap w s.size 0 5)).size+1) i
 rw [Nat.zero_add]
 refine this.trans ?_
 have hi':i<s.data.size:=by simpa using hi
 have hi2:i<s.size:=hi'
 have hg:s.data[i]?=some s.data[i]:=Array.getElem?_eq_getElem hi'
 simp [bytesRow,Array.getElem?_append,hi2,gb,ub]
theorem exec_conv_sb{o:Oper}{a:Act}(x:Operand)(ho:o.op=.convert 9 25 x)(s:ByteArray)(hx:a.eval x=.string s)(w:World)(hs:s.size<=maxLen) :
   ∃ v w',(execOp a.eval o).run Tryz.prog w=.ok (.value v) w'/\SB w' v s.data.toList/\Below w.heap.size w w'/\(∃ g c,g=w.heap.size/\v=.slice (some ⟨g,0,none⟩) s.size c):=by
 obtain ⟨v,w',h1,h2,h3,h4⟩:=conv_sb s w hs
 refine ⟨v,w',?_,h2,h3,h4⟩
 unfold execOp
 simp only [ho,hx,Sem.run_bind,h1,Result.andThen_ok,Sem.run_pure]
theorem wl_conv_sb{ops:Array Oper}{rest:List Oper}{o:Oper}{a:Act}{w:World}{Q:Exit->Act->World->Prop}(hgd:o.guard=none)(x:Operand)(ho:o.op=.convert 9 25 x)(s:ByteArray)(hx:a.eval x=.string s)(hs:s.size<=maxLen)
   (h:∀ v w',SB w' v s.data.toList->Below w.heap.size w w'->wpList Tryz.prog ops Q rest (a.put o.dst v) w'):wpList Tryz.prog ops Q (o::rest) a w:=by
 obtain ⟨v,w',h1,h2,h3,_⟩:=exec_conv_sb x ho s hx w hs
 exact wl_run hgd v h1 (h v w' h2 h3)
theorem run_sb_conv{w:World}{v:Value}{l:Bytes}(h:SB w v l)(W:World)(hW:W=w):(convert 25 9 v).run Tryz.prog W=.ok (.string ⟨l.toArray⟩) W:=by
 subst hW
 obtain ⟨A,c,rfl,hc,hm,hcell⟩:=h
 by_cases hl:l=[]
 · subst hl
   simp only [List.length_nil]
   rw [run_convert_bytes_string W 25 9 5 A 0 c u28 ubyte ustr]
   cases A with
   | none=>simp [Conv.bytesToString];rfl
   | some p =>
     rw [run_bytesToString W p 0 c [] (by simp [loadCells,loadCellsFrom])]
     rfl
 obtain ⟨b,o,rfl,hb,hcl⟩:=hcell hl
 exact run_convert_bytes_back W 25 9 5 ⟨b,o,none⟩ c l u28 ubyte ustr fun j hj=>by
   rw [Addr.add_mid,hcl j hj]
   simp [gb,hj,ub]
theorem exec_sb_conv{o:Oper}{a:Act}{w:World}(x:Operand)(ho:o.op=.convert 25 9 x)(v:Value)(l:Bytes)(hx:a.eval x=v)(h:SB w v l):(execOp a.eval o).run Tryz.prog w=.ok (.value (.string ⟨l.toArray⟩)) w:=by
 have h1:=run_sb_conv h w rfl
 unfold execOp
 simp only [ho,hx,Sem.run_bind,h1,Result.andThen_ok,Sem.run_pure]
end
section
open Go.RowKit Go.QT
/-- What a call leaves that answers what is in a box. -/
theorem agg28b(W:World):(isAgg 25).run Tryz.prog W=.ok false W:=by kernel_rfl
def XPost(w:World)(o:Option SSealed)(e:Ending)(w':World):Prop:=
 ∃ x body,e=.returned (.tuple #[.agg (sealCells x body).toArray,.bool o.isSome])/\(o=some x∨o=none/\x=zSealed)/\OB w' w.heap.size body x.body/\Below w.heap.size w w'
theorem sl_some{s:STab}{l:Bytes}{kd:UInt8}{n:Nat}(hm:markOf l=some (kd,n))(hk:kd=98)(hn:1<=n):s.box l=s.boxes[n-1]?:=by
 unfold STab.box;rw [hm];simp [hk,hn]
theorem sl_none{s:STab}{l:Bytes}{kd:UInt8}{n:Nat}(hm:markOf l=some (kd,n))(h:¬ (kd=98/\1<=n)):s.box l=none:=by
 unfold STab.box;rw [hm];simp only [if_neg h]
theorem sl_nomark{s:STab}{l:Bytes}(hm:markOf l=none):s.box l=none:=by
 unfold STab.box;rw [hm]
theorem zs_eq:(#[Value.int IntKind.u8 0,Value.int IntKind.u8 0,Value.int IntKind.u8 0,Value.int IntKind.u8 0,Value.int IntKind.u8 0,Value.int IntKind.u8 0,Value.int IntKind.u8 0,Value.int IntKind.u8 0,Value.int IntKind.u8 0,Value.int IntKind.u8 0,Value.int IntKind.u8 0,Value.int IntKind.u8 0,Value.int IntKind.u8 0,Value.int IntKind.u8 0,Value.int IntKind.u8 0,Value.int IntKind.u8 0,Value.int IntKind.i64 0,Value.slice none 0 0]:Array Value)=(sealCells zSealed (.slice none 0 0)).toArray:=by
 rw [sealCells,zSealed]
 show _=(vb zKey++[Value.int .i64 0,Value.slice none 0 0]).toArray
 rw [zKey,vb_zeros];rfl
theorem box_any'(F:Nat->Prop)(tb:Nat)(s:STab)(l:Bytes)(bv:Value)(w:World)(hT:TabAt w F tb s)(hbv:SB w bv l)(hl:∀ b ∈ s.boxes,b.body.length<=1000000)(hn:s.boxes.length<1000000) :
   Calls Tryz.prog 168 #[.pointer (some ⟨tb,0,none⟩),bv] w (XPost w (s.box l)):=by
 obtain ⟨mb,vk,vx,vs,bodies,sums,es,clock,hR⟩:=hT
 have HR:=Hd.mk hR
 have Hbv:=Hd.mk hbv
 have htb:=hR.fl tb hR.ft
 have Hl:=Hd.mk hl
 have hzl:(List.zipWith sealCells s.boxes bodies).length=s.boxes.length:=by rw [List.length_zipWith,hR.xn,Nat.min_self]
 have Hzl:=Hd.mk hzl
 have Hi0:Hd ((Tryz.prog.info? 320).map (·.size)=some (sealCells zSealed (.slice none 0 0)).length):=⟨i56⟩
 clear hR hbv hl hzl
 go_enter Tryz.func168,Tryz.ntmps168
 go_upto_region 1 with (fail)
 rw [zs_eq]
 have hb:Below w.heap.size w (w.alloc (.cells (sealCells zSealed (.slice none 0 0)).toArray 320)):=(Below.refl _ _).alloc (Nat.le_refl _) _
 have hZ:Blk (w.alloc (.cells (sealCells zSealed (.slice none 0 0)).toArray 320)) w.heap.size 320 (sealCells zSealed (.slice none 0 0)):=Blk.new w 320 _
 generalize w.alloc (.cells (sealCells zSealed (.slice none 0 0)).toArray 320)=w1 at *
 have HT1:=Hd.mk (HR.out.keep hb.size (fun q hq=>hb.block q (HR.out.fl q hq)))
 have hzlt:=hZ.lt
 have HZ:=Hd.mk hZ
 have HM:=Hd.mk (Mark_any _ l _ (Hbv.out.below hb))
 clear hZ
 have hbz:∀ W,(Instr.build 320 #[]).run Tryz.prog W=.ok (.agg (sealCells zSealed (.slice none 0 0)).toArray) W:=fun W=>by kernel_rfl
 have Hbz:=Hd.mk hbz
 clear hbz
 refine wp_region_lit ?_
 refine wl_val rfl bv rfl ?_
 simp only [Act.put,u1,u2,u3]
 refine wl_call rfl 170 _ _ rfl [bv] rfl (by kernel_rfl) HM.out ?_
 rintro e w2 ⟨rfl,hb2⟩
 refine ⟨_,rfl,?_⟩
 simp only [Act.put,u1,u2,u3]
 have HT2:=Hd.mk (HT1.out.keep hb2.size (fun q hq=>hb2.block q (HT1.out.fl q hq)))
 have HB2:=Hd.mk (hb.trans (hb2.mono hb.size))
 have HZ2:=Hd.mk (HZ.out.below hb2 hzlt)
 have hz2:=HZ2.out.lt
 clear HT1 hb hb2 HZ HM
 obtain ⟨A,cp,hve,hcp,hcp2⟩:=HT2.out.x.form
 rw [Hzl.out] at hve hcp
 unfold maxLen at hcp2
 have x0:=HT2.out.t.cell 1
 rw [hve] at x0
 have x1:w2.cell? ⟨tb,1,none⟩=some (.slice A s.boxes.length cp):=x0
 clear x0
 have Hve:=Hd.mk hve
 clear hve
 cases hmo:markOf l with
 | none =>
   have Hmo:=Hd.mk hmo
   rw [mkV_none]
   go_upto_region 3 with (fail)
   have Hno:=Hd.mk (sl_nomark (s:=s) Hmo.out)
   refine wp_region_lit ?_
   refine wl_val rfl (.agg (sealCells zSealed (.slice none 0 0)).toArray) (by unfold execOp;simp [Hbz.out]) ?_
   simp only [Act.put,u1,u2,u3]
   go_wp2_with (refine wl_storeW rfl 320 _ _ rfl w.heap.size 0 (sealCells zSealed (.slice none 0 0)) rfl rfl 320 _ (sealCells zSealed (.slice none 0 0)) HZ2.out (by simp [sealCells,zSealed,zKey]) i56 (sealCells_one _ _ rfl) (by simp [sealCells,zSealed,zKey]) ?_;intro w6 hr6 hg6 hs6)
   refine bodyPost_ret (results_cell_tmp (p:=4) (q:=5) (ty:=320) rfl _ _ w.heap.size 320 (sealCells zSealed (.slice none 0 0)) _ (.bool false) rfl rfl hr6 ty56 rfl i56) rfl ?_
   rw [Hno.out]
   exact ⟨zSealed,.slice none 0 0,rfl,.inr ⟨rfl,rfl⟩,OB.nil _ _,HB2.out.grown hg6 HB2.out.size (by rintro j hj;cases hj;omega)⟩
 | some kn =>
   obtain ⟨kd,n⟩:=kn
   have Hmo:=Hd.mk hmo
   clear hmo
   rw [mkV_some]
   have hkb:=ub_ne kd 98 98 (by simp [ub])
   by_cases hk:kd=98
   · rw [decide_eq_true hk] at hkb
     by_cases hn1:1<=n
     · have d1:decide ((n:Int)<1)=false:=by simp;omega
       by_cases hnb:n<=s.boxes.length
       · have d2:decide ((n:Int)>s.boxes.length)=false:=by simp;omega
         have Hk:=Hd.mk hk
         clear hk
         go_upto_region 4 with (fail)
         have hi:n-1<s.boxes.length:=by omega
         have Hbox:Hd (s.box l=some s.boxes[n-1]):=⟨by rw [sl_some Hmo.out Hk.out hn1,List.getElem?_eq_getElem hi]⟩
         have hbi:n-1<bodies.length:=by rw [HR.out.xn];exact hi
         obtain ⟨hob,_,_⟩:=HT2.out.xb (n-1) s.boxes[n-1] bodies[n-1] (List.getElem?_eq_getElem hi) (List.getElem?_eq_getElem hbi)
         have hl16:=HR.out.xl s.boxes[n-1] (List.getElem_mem hi)
         have hlb:=Hl.out s.boxes[n-1] (List.getElem_mem hi)
         obtain ⟨g,cap,hv2,_,hglt,_,_,cur,hBlk,hcur⟩:=HT2.out.x.at_ (i:=n-1) (by rw [Hzl.out];exact hi)
         rw [Hve.out,Hzl.out] at hv2
         injection hv2 with hA _ hcap
         subst hA
         clear hcap
         have hcur2:∀ j v,(sealCells s.boxes[n-1] bodies[n-1])[j]?=some v->cur[(n-1)*18+j]?=some v:=by
           intro j v hj
           have hj2:j<18:=by
             have:=(List.getElem?_eq_some_iff.1 hj).1
             rw [sealCells_len _ _ hl16] at this;exact this
           rw [hcur j hj2]
           rw [List.getElem_zipWith]
           exact hj
         have Hcur2:=Hd.mk hcur2
         generalize s.boxes[n-1]=X at *
         generalize bodies[n-1]=Bd at *
         have HBlk:=Hd.mk hBlk
         have Hob:=Hd.mk hob
         have H16:=Hd.mk hl16
         have hlen:=sealCells_len X Bd hl16
         have Hlen:=Hd.mk hlen
         clear hcur hcur2 hBlk hob hl16 hlen
         refine wp_region_lit ?_
         refine wl_val rfl (.pointer (some ⟨tb,0,none⟩)) (rfl) ?_
         simp only [Act.put,u1,u2,u3]
         refine wl_val rfl (.pointer (some ⟨tb,0,none⟩)) (by simp [go_sem]) ?_
         simp only [Act.put,u1,u2,u3]
         refine wl_val rfl (.pointer (some ⟨tb,1,none⟩)) (by simp [go_sem]) ?_
         simp only [Act.put,u1,u2,u3]
         refine wl_val rfl (.slice (some ⟨g,0,none⟩) s.boxes.length cp) (exec_cell _ _ (by rfl) ⟨tb,1,none⟩ _ (by rfl) (agg62 _) x1) ?_
         simp only [Act.put,u1,u2,u3]
         refine wl_val rfl (.int .i64 (n:Int)) (rfl) ?_
         simp only [Act.put,u1,u2,u3]
         refine wl_val rfl (.int .i64 ((n-1:Nat):Int)) (exec_sub 3 _ (.tmp 40) _ (by rfl) n 1 (by rfl) (by rfl) _ (by omega) (by omega) (by omega) _) ?_
         simp only [Act.put,u1,u2,u3]
         refine wl_val rfl (.pointer (some ⟨g,0+(n-1)*18,none⟩)) (exec_idx 166 320 18 (.tmp 39) (.tmp 41) (by rfl) g 0 s.boxes.length cp (n-1) (by rfl) (by rfl) hi tyss i56 _) ?_
         simp only [Act.put,u1,u2,u3]
         refine wl_val rfl (.agg (sealCells X Bd).toArray) (exec_load 320 _ (by rfl) g (0+(n-1)*18) (by rfl) 320 cur (sealCells X Bd) _ HBlk.out (by rw [Nat.zero_add];exact Hcur2.out) ty56 rfl (by rw [Hlen.out];exact i56)) ?_
         simp only [Act.put,u1,u2,u3]
         refine wl_run rfl (.pointer (some ⟨w2.heap.size,0,none⟩)) (show _=Result.ok _ (w2.alloc (.cells (sealCells zSealed (.slice none 0 0)).toArray 320)) by kernel_rfl) ?_
         simp only [Act.put,u1,u2,u3]
         have h1c:=sealCells_one X Bd Hob.out.one
         have HB3:=Hd.mk (HB2.out.alloc HB2.out.size (.cells (sealCells zSealed (.slice none 0 0)).toArray 320))
         have HN3:=Hd.mk (Blk.new w2 320 (sealCells zSealed (.slice none 0 0)))
         have HZ3:=Hd.mk (HZ2.out.alloc (.cells (sealCells zSealed (.slice none 0 0)).toArray 320))
         have HO3:=Hd.mk (Hob.out.alloc (.cells (sealCells zSealed (.slice none 0 0)).toArray 320))
         have hs3:(w2.alloc (.cells (sealCells zSealed (.slice none 0 0)).toArray 320)).heap.size=w2.heap.size+1:=by simp
         have hfb:∀ q,Bd.ownBlock=some q->q<w2.heap.size:=fun q hq=>(OB.own Hob.out q hq).2
         generalize hg2:w2.heap.size=g2 at *
         generalize w2.alloc (.cells (sealCells zSealed (.slice none 0 0)).toArray 320)=w3 at *
         refine wl_storeW rfl 320 _ _ rfl g2 0 (sealCells X Bd) rfl rfl 320 _ (sealCells X Bd) HN3.out (by rw [Hlen.out,sealCells_len _ _ rfl];omega) (by rw [Hlen.out];exact i56) h1c (by rw [Hlen.out];simp [sealCells,zSealed,zKey]) ?_
         intro w4 hr4 hg4 hs4
         simp only [Act.put]
         have HB4:=Hd.mk (HB3.out.grown hg4 HB3.out.size (by rintro j hj;cases hj;omega))
         have HZ4:=Hd.mk (HZ3.out.grown hg4 (fun e=>by injection e with e;omega))
         have HO4:Hd (OB w4 0 Bd X.body):=⟨OB.grown HO3.out hg4 (fun q hq e=>by injection e with e;have:=hfb q hq;omega)⟩
         have HR4:=Hd.mk hr4
         have hl4:=hr4.lt
         have x17:w4.cell? ⟨g2,17,none⟩=some Bd:=by rw [hr4.cell];simp [sealCells,H16.out]
         clear hr4 hg4 HB3 HN3 HZ3 HO3 x1 HT2
         go_upto_region 5 with (fail)
         refine wp_region_lit ?_
         refine wl_val rfl (.pointer (some ⟨g2,17,none⟩)) (by simp [go_sem]) ?_
         simp only [Act.put,u1,u2,u3]
         refine wl_val rfl (Bd) (exec_cell _ _ (by rfl) ⟨g2,17,none⟩ _ (by rfl) (agg28b _) x17) ?_
         simp only [Act.put,u1,u2,u3]
         refine wl_call rfl 167 _ _ rfl [Bd] rfl (by kernel_rfl) (clone_any Bd X.body _ HO4.out.sb (by omega)) ?_
         rintro e w5 ⟨nb5,rfl,hob5,hb5⟩
         refine ⟨_,rfl,?_⟩
         have HB5:=Hd.mk (HB4.out.trans (hb5.mono HB4.out.size))
         have HZ5:=Hd.mk (HZ4.out.below hb5 HZ4.out.lt)
         have HR5:=Hd.mk (HR4.out.below hb5 hl4)
         have hl5:=HR5.out.lt
         have hs5:=hb5.size
         have hB4s:=HB4.out.size
         clear hb5 HB4 HZ4 HO4 HR4 x17
         simp only [Act.put,u1,u2,u3]
         refine wl_val rfl (.pointer (some ⟨g2,17,none⟩)) (by simp [go_sem]) ?_
         simp only [Act.put,u1,u2,u3]
         refine wl_runs rfl (exec_storeCell 25 _ _ rfl g2 17 nb5 rfl rfl 320 (sealCells X Bd) HR5.out (by rw [Hlen.out];omega) (by kernel_rfl) hob5.one hob5.cells1) ?_
         simp only [Act.put]
         have hset:(sealCells X Bd).set 17 nb5=sealCells X nb5:=by
           obtain ⟨⟨k,u,bd⟩,_⟩:∃ Y:SSealed,Y=X:=⟨X,rfl⟩
           obtain ⟨a0,a1,a2,a3,a4,a5,a6,a7,a8,a9,a10,a11,a12,a13,a14,a15,hX⟩:=l16 X.by_ H16.out
           unfold sealCells
           rw [hX];rfl
         have HR6:Hd (Blk (w5.setCell ⟨g2,17,none⟩ nb5) g2 320 (sealCells X nb5)):=⟨by rw [← hset];exact HR5.out.set 17 nb5⟩
         have HZ6:Hd (Blk (w5.setCell ⟨g2,17,none⟩ nb5) w.heap.size 320 (sealCells zSealed (.slice none 0 0))):=⟨HZ5.out.far (by simp;omega) _⟩
         have HO6:Hd (OB (w5.setCell ⟨g2,17,none⟩ nb5) w4.heap.size nb5 X.body):=⟨OB.far hob5 (fun q hq=>by have:=(hob5.own q hq).1;simp;omega) _⟩
         have HB6:=Hd.mk (HB5.out.setCell (p:=⟨g2,17,none⟩) (by show w.heap.size<=g2;omega) nb5)
         have H1:=sealCells_one X nb5 hob5.one
         have hl6:=sealCells_len X nb5 H16.out
         generalize w5.setCell ⟨g2,17,none⟩ nb5=w6 at *
         have Hl6:=Hd.mk hl6
         have HH1:=Hd.mk H1
         clear HB5 HZ5 HR5 hob5 hset hl6 H1
         go_wp2_with (first|(refine wl_load rfl 320 _ rfl g2 0 rfl 320 (sealCells X nb5) (sealCells X nb5) _ HR6.out (by simp) ty56 rfl (by rw [Hl6.out];exact i56) ?_)|(refine wl_storeW rfl 320 _ _ rfl w.heap.size 0 (sealCells X nb5) rfl rfl 320 _ (sealCells X nb5) HZ6.out (by rw [Hl6.out];simp [sealCells,zSealed,zKey]) (by rw [Hl6.out];exact i56) HH1.out (by rw [Hl6.out];simp [sealCells,zSealed,zKey]) ?_;intro w7 hr7 hg7 hs7))
         refine bodyPost_ret (results_cell_tmp (p:=4) (q:=5) (ty:=320) rfl _ _ w.heap.size 320 (sealCells X nb5) _ (.bool true) rfl rfl hr7 ty56 rfl (by rw [Hl6.out];exact i56)) rfl ?_
         rw [Hbox.out]
         exact ⟨X,nb5,rfl,.inl rfl,OB.mono (OB.grown HO6.out hg7 (fun q hq e=>by injection e with e;have:=(HO6.out.own q hq).1;omega)) hB4s,HB6.out.grown hg7 HB6.out.size (by rintro j hj;cases hj;omega)⟩
       have d2:decide ((n:Int)>s.boxes.length)=true:=by simp;omega
       have Hk:=Hd.mk hk
       clear hk
       go_upto_region 3 with (fail)
       have Hno:=Hd.mk ((sl_some (s:=s) Hmo.out Hk.out hn1).trans (List.getElem?_eq_none (by omega)))
       refine wp_region_lit ?_
       refine wl_val rfl (.agg (sealCells zSealed (.slice none 0 0)).toArray) (by unfold execOp;simp [Hbz.out]) ?_
       simp only [Act.put,u1,u2,u3]
       go_wp2_with (refine wl_storeW rfl 320 _ _ rfl w.heap.size 0 (sealCells zSealed (.slice none 0 0)) rfl rfl 320 _ (sealCells zSealed (.slice none 0 0)) HZ2.out (by simp [sealCells,zSealed,zKey]) i56 (sealCells_one _ _ rfl) (by simp [sealCells,zSealed,zKey]) ?_;intro w6 hr6 hg6 hs6)
       refine bodyPost_ret (results_cell_tmp (p:=4) (q:=5) (ty:=320) rfl _ _ w.heap.size 320 (sealCells zSealed (.slice none 0 0)) _ (.bool false) rfl rfl hr6 ty56 rfl i56) rfl ?_
       rw [Hno.out]
       exact ⟨zSealed,.slice none 0 0,rfl,.inr ⟨rfl,rfl⟩,OB.nil _ _,HB2.out.grown hg6 HB2.out.size (by rintro j hj;cases hj;omega)⟩
     have d1:decide ((n:Int)<1)=true:=by simp;omega
     have Hk:=Hd.mk hk
     clear hk
     go_upto_region 3 with (fail)
     have Hno:=Hd.mk (sl_none (s:=s) Hmo.out (fun hh=>hn1 hh.2))
     refine wp_region_lit ?_
     refine wl_val rfl (.agg (sealCells zSealed (.slice none 0 0)).toArray) (by unfold execOp;simp [Hbz.out]) ?_
     simp only [Act.put,u1,u2,u3]
     go_wp2_with (refine wl_storeW rfl 320 _ _ rfl w.heap.size 0 (sealCells zSealed (.slice none 0 0)) rfl rfl 320 _ (sealCells zSealed (.slice none 0 0)) HZ2.out (by simp [sealCells,zSealed,zKey]) i56 (sealCells_one _ _ rfl) (by simp [sealCells,zSealed,zKey]) ?_;intro w6 hr6 hg6 hs6)
     refine bodyPost_ret (results_cell_tmp (p:=4) (q:=5) (ty:=320) rfl _ _ w.heap.size 320 (sealCells zSealed (.slice none 0 0)) _ (.bool false) rfl rfl hr6 ty56 rfl i56) rfl ?_
     rw [Hno.out]
     exact ⟨zSealed,.slice none 0 0,rfl,.inr ⟨rfl,rfl⟩,OB.nil _ _,HB2.out.grown hg6 HB2.out.size (by rintro j hj;cases hj;omega)⟩
   rw [decide_eq_false hk] at hkb
   have Hk:=Hd.mk hk
   clear hk
   go_upto_region 3 with (fail)
   have Hno:=Hd.mk (sl_none (s:=s) Hmo.out (fun hh=>Hk.out hh.1))
   refine wp_region_lit ?_
   refine wl_val rfl (.agg (sealCells zSealed (.slice none 0 0)).toArray) (by unfold execOp;simp [Hbz.out]) ?_
   simp only [Act.put,u1,u2,u3]
   go_wp2_with (refine wl_storeW rfl 320 _ _ rfl w.heap.size 0 (sealCells zSealed (.slice none 0 0)) rfl rfl 320 _ (sealCells zSealed (.slice none 0 0)) HZ2.out (by simp [sealCells,zSealed,zKey]) i56 (sealCells_one _ _ rfl) (by simp [sealCells,zSealed,zKey]) ?_;intro w6 hr6 hg6 hs6)
   refine bodyPost_ret (results_cell_tmp (p:=4) (q:=5) (ty:=320) rfl _ _ w.heap.size 320 (sealCells zSealed (.slice none 0 0)) _ (.bool false) rfl rfl hr6 ty56 rfl i56) rfl ?_
   rw [Hno.out]
   exact ⟨zSealed,.slice none 0 0,rfl,.inr ⟨rfl,rfl⟩,OB.nil _ _,HB2.out.grown hg6 HB2.out.size (by rintro j hj;cases hj;omega)⟩
end
section
open Go.RowKit Go.QT
/-- What is in a box, by its key and usage. -/
def STab.open_(s:STab)(k:Bytes)(u:Int)(l:Bytes):Option Bytes:=(s.box l).bind fun x=>if x.by_=k/\x.usage=u then some x.body else none
def OpPost(w:World)(o:Option Bytes)(e:Ending)(w':World):Prop:=∃ v,e=.returned (.tuple #[v,.bool o.isSome])/\OB w' w.heap.size v (o.getD [])/\Below w.heap.size w w'
theorem aggint(W:World):(isAgg 3).run Tryz.prog W=.ok false W:=by kernel_rfl
theorem open_any(F:Nat->Prop)(tb:Nat)(s:STab)(k:Bytes)(u:Int)(l:Bytes)(bv:Value)(w:World)(hT:TabAt w F tb s)(hk:k.length=16)(hbv:SB w bv l)(hl:∀ b ∈ s.boxes,b.body.length<=1000000)(hx16:∀ b ∈ s.boxes,b.by_.length=16)(hn:s.boxes.length<1000000) :
   Calls Tryz.prog 162 #[.pointer (some ⟨tb,0,none⟩),.agg (vb k).toArray,.int .i64 u,bv] w (OpPost w (s.open_ k u l)):=by
 have HX:=Hd.mk (fun W (h:TabAt W F tb s) (hb:SB W bv l)=>box_any' F tb s l bv W h hb hl hn)
 have HT:=Hd.mk hT
 have Hk:=Hd.mk hk
 have Hbv:=Hd.mk hbv
 have hik:(Tryz.prog.info? 41).map (·.size)=some (vb k).length:=by rw [vb_length,hk];exact i42
 have Hik:=Hd.mk hik
 have H16:Hd (∀ x,(s.box l=some x∨s.box l=none/\x=zSealed)->x.by_.length=16):=⟨fun x hx=>by
   rcases hx with hx|⟨_,rfl⟩
   · unfold STab.box at hx
     split at hx
     · split at hx
       · exact hx16 x (List.mem_of_getElem? hx)
       cases hx
     cases hx
   rfl⟩
 have Ho:Hd (s.open_ k u l=(s.box l).bind fun x=>if x.by_=k/\x.usage=u then some x.body else none):=⟨rfl⟩
 clear hT hk hbv hl hx16 hik
 go_enter Tryz.func162,Tryz.ntmps162
 go_upto_region 1 with (fail)
 have hb:Below w.heap.size w (w.alloc (.cells (vb k).toArray 41)):=(Below.refl _ _).alloc (Nat.le_refl _) _
 have hKk:Row (w.alloc (.cells (vb k).toArray 41)) w.heap.size 41 k:=Row.new w 41 k
 generalize w.alloc (.cells (vb k).toArray 41)=w1 at *
 have hB1:=HX.out _ (HT.out.below hb) (Hbv.out.below hb)
 have hKl:=hKk.lt
 refine wp_region_lit ?_
 refine wl_val rfl (.pointer (some ⟨tb,0,none⟩)) (rfl) ?_
 simp only [Act.put,u1,u2,u3]
 refine wl_val rfl (bv) (rfl) ?_
 simp only [Act.put,u1,u2,u3]
 refine wl_call rfl 168 _ _ rfl [.pointer (some ⟨tb,0,none⟩),bv] rfl (by kernel_rfl) (hB1) ?_
 rintro e w2 ⟨x,body,rfl,hx,hob,hb2⟩
 refine ⟨_,rfl,?_⟩
 have HB2:=Hd.mk (hb.trans (hb2.mono hb.size))
 have HK2:=Hd.mk (hKk.below hb2 hKl)
 have hx16:=H16.out x hx
 have Hx16:=Hd.mk hx16
 have Hx:=Hd.mk hx
 have Hob:=Hd.mk hob
 have hs12:=hb2.size
 have Hsl:=Hd.mk (sealCells_len x body hx16)
 have Hone:=Hd.mk (sealCells_one x body hob.one)
 clear hb2 hKk hB1 hx16 hx hob HX H16 HT
 generalize hbs:(s.box l).isSome=bs at *
 have Hbs:=Hd.mk hbs
 clear hbs
 simp only [Act.put,u1,u2,u3]
 refine wl_val rfl (.tuple #[.agg (sealCells x body).toArray,.bool bs]) (rfl) ?_
 simp only [Act.put,u1,u2,u3]
 refine wl_val rfl (.agg (sealCells x body).toArray) (rfl) ?_
 simp only [Act.put,u1,u2,u3]
 refine wl_val rfl (.bool bs) (rfl) ?_
 simp only [Act.put,u1,u2,u3]
 refine wl_run rfl (.pointer (some ⟨w2.heap.size,0,none⟩)) (show _=Result.ok _ (w2.alloc (.cells (sealCells zSealed (.slice none 0 0)).toArray 320)) by kernel_rfl) ?_
 simp only [Act.put,u1,u2,u3]
 have HB3:=Hd.mk (HB2.out.alloc HB2.out.size (.cells (sealCells zSealed (.slice none 0 0)).toArray 320))
 have HN3:=Hd.mk (Blk.new w2 320 (sealCells zSealed (.slice none 0 0)))
 have HK3:=Hd.mk (HK2.out.alloc (.cells (sealCells zSealed (.slice none 0 0)).toArray 320))
 have HO3:=Hd.mk (Hob.out.alloc (.cells (sealCells zSealed (.slice none 0 0)).toArray 320))
 have hs3:(w2.alloc (.cells (sealCells zSealed (.slice none 0 0)).toArray 320)).heap.size=w2.heap.size+1:=by simp
 have hfb:∀ q,body.ownBlock=some q->q<w2.heap.size:=fun q hq=>(OB.own Hob.out q hq).2
 have hk2:=HK2.out.lt
 generalize hg2:w2.heap.size=g2 at *
 generalize w2.alloc (.cells (sealCells zSealed (.slice none 0 0)).toArray 320)=w3 at *
 clear HB2 HK2 Hob
 refine wl_storeW rfl 320 _ _ rfl g2 0 (sealCells x body) rfl rfl 320 _ (sealCells x body) HN3.out (by rw [Hsl.out,sealCells_len _ _ rfl];omega) (by rw [Hsl.out];exact i56) Hone.out (by rw [Hsl.out];simp [sealCells,zSealed,zKey]) ?_
 intro w4 hr4 hg4 hs4
 simp only [Act.put]
 have HB4:=Hd.mk (HB3.out.grown hg4 HB3.out.size (by rintro j hj;cases hj;have:=hb.size;omega))
 have HK4:=Hd.mk (HK3.out.grown' hg4 (fun e=>by injection e with e;omega))
 have HO4:Hd (OB w4 w1.heap.size body x.body):=⟨OB.grown HO3.out hg4 (fun q hq e=>by injection e with e;have:=hfb q hq;omega)⟩
 have HR4:=Hd.mk hr4
 have hl4:=hr4.lt
 have x16:w4.cell? ⟨g2,16,none⟩=some (.int .i64 x.usage):=by rw [hr4.cell];simp [sealCells,Hx16.out]
 have x17:w4.cell? ⟨g2,17,none⟩=some body:=by rw [hr4.cell];simp [sealCells,Hx16.out]
 clear hr4 hg4 HB3 HN3 HK3 HO3
 refine wl_run rfl (.bool bs) (show _=Result.ok _ w4 by simp [go_sem]) ?_
 simp only [Act.put,u1,u2,u3]
 cases bs with
 | false =>
   have hn:s.box l=none:=by
     cases hq:s.box l with
     | none=>rfl
     | some y=>rw [hq] at Hbs;cases Hbs.out
   have Hn:=Hd.mk hn
   clear hn
   go_wp2
   go_ret2
   rw [Ho.out,Hn.out]
   exact ⟨_,rfl,OB.nil _ _,HB4.out⟩
 | true =>
   have hy:s.box l=some x:=by
     rcases Hx.out with h|⟨h,_⟩
     · exact h
     rw [h] at Hbs;cases Hbs.out
   have Hy:=Hd.mk hy
   clear hy
   by_cases hby:x.by_=k
   · by_cases hu:x.usage=u
     · have hus:(x.usage != u)=false:=by rw [bne_eq_false_iff_eq];exact hu
       go_upto_region 2 with (fail)
       refine wp_region_lit ?_
       refine wl_val rfl (.bool true) (rfl) ?_
       simp only [Act.put,u1,u2,u3]
       refine wl_val rfl (.bool false) (by simp [go_sem]) ?_
       simp only [Act.put,u1,u2,u3]
       refine wl_val rfl (.bool false) (rfl) ?_
       simp only [Act.put,u1,u2,u3]
       refine wl_valG (by kernel_rfl) (.pointer (some ⟨g2,0,none⟩)) (by simp [go_sem]) ?_
       simp only [Act.put,u1,u2,u3]
       refine wl_valG (by kernel_rfl) (.agg (vb x.by_).toArray) (exec_load 41 _ (by rfl) g2 0 (by rfl) 320 (sealCells x body) (vb x.by_) _ HR4.out (fun j v hj=>by rw [Nat.zero_add,sealCells,List.getElem?_append_left (List.getElem?_eq_some_iff.1 hj).1];exact hj) ty42 rfl (by rw [vb_length,Hx16.out];exact i42)) ?_
       simp only [Act.put,u1,u2,u3]
       refine wl_valG (by kernel_rfl) (.agg (vb k).toArray) (exec_load 41 _ (by rfl) w.heap.size 0 (by rfl) 41 (vb k) (vb k) _ HK4.out (by simp) ty42 rfl Hik.out) ?_
       simp only [Act.put,u1,u2,u3]
       refine wl_valG (by kernel_rfl) (.bool false) ((exec_ne16 41 _ _ _ (by rfl) x.by_ k (by rfl) (by rfl) ty42 eg42 Hx16.out Hk.out _).trans (by rw [decide_eq_true hby];rfl)) ?_
       simp only [Act.put,u1,u2,u3]
       refine wl_val rfl (.bool false) (rfl) ?_
       simp only [Act.put,u1,u2,u3]
       refine wl_val rfl (.bool false) (rfl) ?_
       simp only [Act.put,u1,u2,u3]
       refine wl_valG (by kernel_rfl) (.pointer (some ⟨g2,16,none⟩)) (by simp [go_sem]) ?_
       simp only [Act.put,u1,u2,u3]
       refine wl_valG (by kernel_rfl) (.int .i64 x.usage) (exec_cell _ _ (by rfl) ⟨g2,16,none⟩ _ (by rfl) (aggint _) x16) ?_
       simp only [Act.put,u1,u2,u3]
       refine wl_valG (by kernel_rfl) (.int .i64 u) (rfl) ?_
       simp only [Act.put,u1,u2,u3]
       refine wl_valG (by kernel_rfl) (.bool false) (by have e:(x.usage != u)=false:=hus;simp [go_sem,e]) ?_
       simp only [Act.put,u1,u2,u3]
       refine wl_val rfl (.bool false) (rfl) ?_
       simp only [Act.put,u1,u2,u3]
       clear hus
       go_upto_region 4 with (fail)
       refine wp_region_lit ?_
       refine wl_val rfl (.pointer (some ⟨g2,17,none⟩)) (by simp [go_sem]) ?_
       simp only [Act.put,u1,u2,u3]
       refine wl_val rfl (body) (exec_cell _ _ (by rfl) ⟨g2,17,none⟩ _ (by rfl) (agg28b _) x17) ?_
       simp only [Act.put,u1,u2,u3]
       go_wp2
       go_ret2
       rw [Ho.out,Hy.out,Option.bind_some,if_pos ⟨hby,hu⟩]
       exact ⟨_,rfl,OB.mono HO4.out hb.size,HB4.out⟩
     have hus:(x.usage != u)=true:=by rw [bne_iff_ne];exact hu
     go_upto_region 2 with (fail)
     refine wp_region_lit ?_
     refine wl_val rfl (.bool true) (rfl) ?_
     simp only [Act.put,u1,u2,u3]
     refine wl_val rfl (.bool false) (by simp [go_sem]) ?_
     simp only [Act.put,u1,u2,u3]
     refine wl_val rfl (.bool false) (rfl) ?_
     simp only [Act.put,u1,u2,u3]
     refine wl_valG (by kernel_rfl) (.pointer (some ⟨g2,0,none⟩)) (by simp [go_sem]) ?_
     simp only [Act.put,u1,u2,u3]
     refine wl_valG (by kernel_rfl) (.agg (vb x.by_).toArray) (exec_load 41 _ (by rfl) g2 0 (by rfl) 320 (sealCells x body) (vb x.by_) _ HR4.out (fun j v hj=>by rw [Nat.zero_add,sealCells,List.getElem?_append_left (List.getElem?_eq_some_iff.1 hj).1];exact hj) ty42 rfl (by rw [vb_length,Hx16.out];exact i42)) ?_
     simp only [Act.put,u1,u2,u3]
     refine wl_valG (by kernel_rfl) (.agg (vb k).toArray) (exec_load 41 _ (by rfl) w.heap.size 0 (by rfl) 41 (vb k) (vb k) _ HK4.out (by simp) ty42 rfl Hik.out) ?_
     simp only [Act.put,u1,u2,u3]
     refine wl_valG (by kernel_rfl) (.bool false) ((exec_ne16 41 _ _ _ (by rfl) x.by_ k (by rfl) (by rfl) ty42 eg42 Hx16.out Hk.out _).trans (by rw [decide_eq_true hby];rfl)) ?_
     simp only [Act.put,u1,u2,u3]
     refine wl_val rfl (.bool false) (rfl) ?_
     simp only [Act.put,u1,u2,u3]
     refine wl_val rfl (.bool false) (rfl) ?_
     simp only [Act.put,u1,u2,u3]
     refine wl_valG (by kernel_rfl) (.pointer (some ⟨g2,16,none⟩)) (by simp [go_sem]) ?_
     simp only [Act.put,u1,u2,u3]
     refine wl_valG (by kernel_rfl) (.int .i64 x.usage) (exec_cell _ _ (by rfl) ⟨g2,16,none⟩ _ (by rfl) (aggint _) x16) ?_
     simp only [Act.put,u1,u2,u3]
     refine wl_valG (by kernel_rfl) (.int .i64 u) (rfl) ?_
     simp only [Act.put,u1,u2,u3]
     refine wl_valG (by kernel_rfl) (.bool true) (by have e:(x.usage != u)=true:=hus;simp [go_sem,e]) ?_
     simp only [Act.put,u1,u2,u3]
     refine wl_val rfl (.bool true) (rfl) ?_
     simp only [Act.put,u1,u2,u3]
     clear hus
     go_wp2
     go_ret2
     rw [Ho.out,Hy.out,Option.bind_some,if_neg (fun hh=>hu hh.2)]
     exact ⟨_,rfl,OB.nil _ _,HB4.out⟩
   go_upto_region 2 with (fail)
   refine wp_region_lit ?_
   refine wl_val rfl (.bool true) (rfl) ?_
   simp only [Act.put,u1,u2,u3]
   refine wl_val rfl (.bool false) (by simp [go_sem]) ?_
   simp only [Act.put,u1,u2,u3]
   refine wl_val rfl (.bool false) (rfl) ?_
   simp only [Act.put,u1,u2,u3]
   refine wl_valG (by kernel_rfl) (.pointer (some ⟨g2,0,none⟩)) (by simp [go_sem]) ?_
   simp only [Act.put,u1,u2,u3]
   refine wl_valG (by kernel_rfl) (.agg (vb x.by_).toArray) (exec_load 41 _ (by rfl) g2 0 (by rfl) 320 (sealCells x body) (vb x.by_) _ HR4.out (fun j v hj=>by rw [Nat.zero_add,sealCells,List.getElem?_append_left (List.getElem?_eq_some_iff.1 hj).1];exact hj) ty42 rfl (by rw [vb_length,Hx16.out];exact i42)) ?_
   simp only [Act.put,u1,u2,u3]
   refine wl_valG (by kernel_rfl) (.agg (vb k).toArray) (exec_load 41 _ (by rfl) w.heap.size 0 (by rfl) 41 (vb k) (vb k) _ HK4.out (by simp) ty42 rfl Hik.out) ?_
   simp only [Act.put,u1,u2,u3]
   refine wl_valG (by kernel_rfl) (.bool true) ((exec_ne16 41 _ _ _ (by rfl) x.by_ k (by rfl) (by rfl) ty42 eg42 Hx16.out Hk.out _).trans (by rw [decide_eq_false hby];rfl)) ?_
   simp only [Act.put,u1,u2,u3]
   refine wl_val rfl (.bool true) (rfl) ?_
   simp only [Act.put,u1,u2,u3]
   refine wl_val rfl (.bool true) (rfl) ?_
   simp only [Act.put,u1,u2,u3]
   refine wl_skipG (by kernel_rfl) ?_
   simp only [Act.put,u1,u2,u3]
   refine wl_skipG (by kernel_rfl) ?_
   simp only [Act.put,u1,u2,u3]
   refine wl_skipG (by kernel_rfl) ?_
   simp only [Act.put,u1,u2,u3]
   refine wl_skipG (by kernel_rfl) ?_
   simp only [Act.put,u1,u2,u3]
   refine wl_val rfl (.bool true) (rfl) ?_
   simp only [Act.put,u1,u2,u3]
   go_wp2
   go_ret2
   rw [Ho.out,Hy.out,Option.bind_some,if_neg (fun hh=>hby hh.1)]
   exact ⟨_,rfl,OB.nil _ _,HB4.out⟩
end
section
open Go.RowKit Go.QT
/-- A slice value reads as rows of bytes. -/
def SS(w:World)(v:Value)(ls:List Bytes):Prop:=
 ∃ A c,v=.slice A ls.length c/\ls.length<=c/\c<=maxLen/\∀ i,i<ls.length->∃ b o u,A=some ⟨b,o,none⟩/\b<w.heap.size/\w.cell? ⟨b,o+i,none⟩=some u/\SB w u (ls.getD i [])
def joinTo(ls:List Bytes):Nat->Bytes
 | 0=>[]
 | k+1=>joinTo ls k++ls.getD k []
theorem joinTo_flat(ls:List Bytes)(k:Nat)(h:k<=ls.length):joinTo ls k=(ls.take k).flatten:=by
 induction k with
 | zero=>rfl
 | succ k ih =>
   have e:ls.getD k []=ls[k]'(by omega):=by simp [List.getD,List.getElem?_eq_getElem (show k<ls.length by omega)]
   rw [joinTo,ih (by omega),List.take_succ_eq_append_getElem (show k<ls.length by omega),List.flatten_append,e,List.flatten_cons,List.flatten_nil,List.append_nil]
theorem joinTo_all(ls:List Bytes):joinTo ls ls.length=ls.flatten:=by rw [joinTo_flat _ _ (Nat.le_refl _),List.take_length]
theorem joinTo_le(ls:List Bytes)(k:Nat)(h:k<=ls.length):(joinTo ls k).length<=ls.flatten.length:=by
 rw [joinTo_flat _ _ h]
 conv=>rhs;rw [← List.take_append_drop k ls]
 rw [List.flatten_append,List.length_append];omega
theorem agg28(W:World):(isAgg 25).run Tryz.prog W=.ok false W:=by kernel_rfl
theorem joined_any(v:Value)(ls:List Bytes)(w:World)(hv:SS w v ls)(hl:ls.flatten.length<=140737488355328):Calls Tryz.prog 127 #[v] w (BPost w ls.flatten):=by
 obtain ⟨A,c,rfl,hc1,hc2,hcell⟩:=hv
 unfold maxLen at hc2
 have Hcell:=Hd.mk hcell
 have Hfin:=Hd.mk (joinTo_all ls)
 have Hle:=Hd.mk (joinTo_le ls)
 clear hcell
 go_enter Tryz.func127,Tryz.ntmps127
 go_wp2
 go_loopw [3,8] (fun u i wr=>∃ k:Nat,k<=ls.length/\i=.int .i64 (k:Int)/\OB wr w.heap.size u (joinTo ls k)/\Below w.heap.size w wr) (fun _ i _=>ls.length-(intOf i).toNat)
 case atStart=>exact ⟨0,by omega,rfl,OB.nil _ _,Below.refl _ _⟩
 case round =>
   obtain ⟨k,hk,rfl,ho,hB⟩:=hrel
   have hle:=Hle.out k hk
   by_cases hlt:k<ls.length
   · obtain ⟨b,o,u,hA,hbl,hx,hs⟩:=Hcell.out k hlt
     subst hA
     have Hs:Hd (joinTo ls (k+1)=joinTo ls k++ls.getD k []):=⟨rfl⟩
     have hle2:=Hle.out (k+1) hlt
     rw [Hs.out,List.length_append] at hle2
     have hsb:=hs.below hB
     have x0:=(hB.cell (p:=⟨b,o+k,none⟩) hbl).trans hx
     generalize ls.getD k []=m at *
     generalize joinTo ls k=L at *
     obtain ⟨w2,rfl⟩:∃ w1:World,w1=wr:=⟨_,rfl⟩
     have Ho:=Hd.mk ho
     have Hsb:=Hd.mk hsb
     clear ho hsb hs hx
     go_wp2_with (at_builtin;refine wl_append rfl (.tmp 12) (.tmp 13) rfl w.heap.size _ _ L m rfl rfl Ho.out Hsb.out (by omega) hB.size ?_;intro v' w' hv' hg' hat')
     refine ⟨⟨k+1,by omega,by go_num,by rw [Hs.out];exact hv',Ho.out.grownBelow hB hg' (Nat.le_refl _) (Nat.le_refl _)⟩,by simp [intOf];omega⟩
   have hk2:k=ls.length:=by omega
   rw [hk2,Hfin.out] at ho
   have Ho:=Hd.mk ho
   clear ho hk2
   go_wp2
   go_ret
   exact ⟨_,rfl,Ho.out,hB⟩
end
section
open Go.RowKit Go.QT
/-- Three rows of bytes, side by side. -/
theorem SS.three(w:World)(va vb' vc:Value)(a b c:Bytes)(ha:SB w va a)(hb:SB w vb' b)(hc:SB w vc c):SS (w.alloc (.cells #[va,vb',vc] 25)) (.slice (some ⟨w.heap.size,0,none⟩) 3 3) [a,b,c]:=by
 have hB:Below w.heap.size w (w.alloc (.cells #[va,vb',vc] 25)):=(Below.refl _ _).alloc (Nat.le_refl _) _
 have hk:Blk (w.alloc (.cells #[va,vb',vc] 25)) w.heap.size 25 [va,vb',vc]:=Blk.new w 25 [va,vb',vc]
 refine ⟨_,3,rfl,by simp,by unfold maxLen;omega,fun i hi=>?_⟩
 have hc':=hk.cell
 match i,hi with
 | 0,_=>exact ⟨w.heap.size,0,va,rfl,hk.lt,hc' 0,ha.below hB⟩
 | 1,_=>exact ⟨w.heap.size,0,vb',rfl,hk.lt,hc' 1,hb.below hB⟩
 | 2,_=>exact ⟨w.heap.size,0,vc,rfl,hk.lt,hc' 2,hc.below hB⟩
theorem SB.isSlice{w:World}{v:Value}{l:Bytes}(h:SB w v l):v.cells=#[v]:=by
 obtain ⟨A,c,rfl,_⟩:=h;rfl
theorem run_bs3(va vb' vc:Value)(ha:va.cells=#[va])(hb:vb'.cells=#[vb'])(hc:vc.cells=#[vc])(w:World) :
   (Instr.buildSlice 167 3 #[(0,va),(1,vb'),(2,vc)]).run Tryz.prog w=.ok (.slice (some ⟨w.heap.size,0,none⟩) 3 3) (w.alloc (.cells #[va,vb',vc] 25)):=by
 have ht:Tryz.prog.underlying 167=some (.slice 25):=by kernel_rfl
 have hs:(sizeOf 25).run Tryz.prog w=.ok 1 w:=by kernel_rfl
 have hz:(zeroValue 25).run Tryz.prog w=.ok (.slice none 0 0) w:=by kernel_rfl
 have hzz:((Array.range (3*1)).map fun x=>(Value.slice none 0 0).cells[x % (Value.slice none 0 0).cells.size]!)=#[.slice none 0 0,.slice none 0 0,.slice none 0 0]:=by kernel_rfl
 have hf:Instr.fill (fun i=>some (i*1,1)) #[.slice none 0 0,.slice none 0 0,.slice none 0 0] [(0,va),(1,vb'),(2,vc)]=some #[va,vb',vc]:=by
   simp [Instr.fill,ha,hb,hc]
 have h0:¬ (3*1>2 ^ 24):=by omega
 have h1:¬ (3*1=0):=by omega
 simp only [Instr.buildSlice,Sem.run_bind,run_underlying ht,Result.andThen_ok,hs]
 rw [if_neg h0,if_neg h1]
 simp only [Sem.run_bind,hz,Result.andThen_ok,Sem.run_pure,hzz,hf]
 simp [newRow]
theorem exec_bs3{o:Oper}{a:Act}(x y z:Operand)(ho:o.op=.buildSlice 167 3 #[(0,x),(1,y),(2,z)])(va vb' vc:Value)(hx:a.eval x=va)(hy:a.eval y=vb')(hz:a.eval z=vc)(ha:va.cells=#[va])(hb:vb'.cells=#[vb'])(hc:vc.cells=#[vc])(w:World) :
   (execOp a.eval o).run Tryz.prog w=.ok (.value (.slice (some ⟨w.heap.size,0,none⟩) 3 3)) (w.alloc (.cells #[va,vb',vc] 25)):=by
 have h:=run_bs3 va vb' vc ha hb hc w
 unfold execOp
 simp [ho,hx,hy,hz,h]
theorem text_any(F:Nat->Prop)(tb:Nat)(s:STab)(p q:ByteArray)(w:World)(hT:TabAt w F tb s)(hp:p.size<=1000000)(hq:q.size<=1000000)(hn:s.keys.length<1000000) :
   Calls Tryz.prog 164 #[.pointer (some ⟨tb,0,none⟩),.string p,.string q] w (TPost w F tb (s.made (textF p q)) (.agg (vb (mkB 107 (s.num (textF p q)))).toArray)):=by
 have HT:=Hd.mk hT
 have HM:=Hd.mk (fun W (h:TabAt W F tb s)=>made_any F tb s (textF p q) W h rfl hn)
 have Hlt:=Hd.mk hT.lt
 have Hn:=Hd.mk hn
 clear hT hn
 go_enter Tryz.func164,Tryz.ntmps164
 go_upto_region 1 with (fail)
 rw [z16_eq]
 have hb:Below w.heap.size w (w.alloc (.cells (vb zKey).toArray 41)):=(Below.refl _ _).alloc (Nat.le_refl _) _
 have hKr:Row (w.alloc (.cells (vb zKey).toArray 41)) w.heap.size 41 zKey:=Row.new w 41 zKey
 generalize w.alloc (.cells (vb zKey).toArray 41)=w1 at *
 refine wp_region_lit ?_
 refine wl_val rfl (.pointer (some ⟨tb,0,none⟩)) (rfl) ?_
 simp only [Act.put,u1,u2,u3]
 refine wl_val rfl (.string p) (rfl) ?_
 simp only [Act.put,u1,u2,u3]
 refine wl_val rfl (.int .i64 (p.size:Int)) (by simp [go_sem]) ?_
 simp only [Act.put,u1,u2,u3]
 refine wl_val rfl (.int .u64 (p.size:Int)) (by have e:=u64_of p.size (by omega);simp [go_sem,e]) ?_
 simp only [Act.put,u1,u2,u3]
 refine wl_call rfl 93 _ _ rfl [.int .u64 (p.size:Int)] rfl (by kernel_rfl) (put_any p.size _) ?_
 rintro e w2 ⟨v1,rfl,ho1,hb2⟩
 refine ⟨_,rfl,?_⟩
 have c2:=hb2
 simp only [Act.put,u1,u2,u3]
 refine wl_val rfl (.string p) (rfl) ?_
 simp only [Act.put,u1,u2,u3]
 refine wl_conv_sb rfl (.tmp 12) rfl p rfl (by unfold maxLen;omega) ?_
 intro v2 w3 hs2 hb3
 have c3:=c2.trans (hb3.mono c2.size)
 simp only [Act.put,u1,u2,u3]
 refine wl_val rfl (.string q) (rfl) ?_
 simp only [Act.put,u1,u2,u3]
 refine wl_conv_sb rfl (.tmp 14) rfl q rfl (by unfold maxLen;omega) ?_
 intro v3 w4 hs3 hb4
 have c4:=c3.trans (hb4.mono c3.size)
 have hsa:=(ho1.sb.below hb3).below hb4
 have hsb:=hs2.below hb4
 simp only [Act.put,u1,u2,u3]
 refine wl_run rfl (.slice (some ⟨w4.heap.size,0,none⟩) 3 3) (show _=Result.ok _ (w4.alloc (.cells #[v1,v2,v3] 25)) from exec_bs3 (.tmp 11) (.tmp 13) (.tmp 15) (by rfl) v1 v2 v3 (by rfl) (by rfl) (by rfl) hsa.isSlice hsb.isSlice hs3.isSlice _) ?_
 simp only [Act.put,u1,u2,u3]
 have hSS:=SS.three w4 v1 v2 v3 _ _ _ hsa hsb hs3
 have c5:=c4.alloc c4.size (.cells #[v1,v2,v3] 25)
 have hfl:([put8 p.size,p.data.toList,q.data.toList]:List Bytes).flatten=put8 p.size++p.data.toList++q.data.toList:=by simp
 have hll:(put8 p.size++p.data.toList++q.data.toList).length<=140737488355328:=by
   rw [List.length_append,List.length_append,put8_len]
   have e1:p.data.toList.length=p.size:=by simp
   have e2:q.data.toList.length=q.size:=by simp
   omega
 have hj:=joined_any _ _ _ hSS (by rw [hfl];exact hll)
 rw [hfl] at hj
 generalize w4.alloc (.cells #[v1,v2,v3] 25)=w5 at *
 refine wl_call rfl 127 _ _ rfl [.slice (some ⟨w4.heap.size,0,none⟩) 3 3] rfl (by kernel_rfl) (hj) ?_
 rintro e w6 ⟨v6,rfl,ho6,hb6⟩
 refine ⟨_,rfl,?_⟩
 have c6:=c5.trans (hb6.mono c5.size)
 have hB6:=hb.trans (c6.mono hb.size)
 simp only [Act.put,u1,u2,u3]
 refine wl_val rfl (.string ⟨(put8 p.size++p.data.toList++q.data.toList).toArray⟩) (exec_sb_conv (.tmp 17) (by rfl) v6 _ (by rfl) ho6.sb) ?_
 simp only [Act.put,u1,u2,u3]
 refine wl_val rfl (.agg (fromCells (textF p q)).toArray) (exec_build_text (.tmp 18) _ (by rfl) ⟨(put8 p.size++p.data.toList++q.data.toList).toArray⟩ (by rfl) (by rfl) _) ?_
 simp only [Act.put,u1,u2,u3]
 refine wl_call rfl 169 _ _ rfl [.pointer (some ⟨tb,0,none⟩),.agg (fromCells (textF p q)).toArray] rfl (by kernel_rfl) (HM.out _ (HT.out.below hB6)) ?_
 rintro e w7 ⟨rfl,F2,hT2,hF1,hF2,hf2⟩
 refine ⟨_,rfl,?_⟩
 have hK6:Row w6 w.heap.size 41 zKey:=hKr.below c6 hKr.lt
 have hK7:Row w7 w.heap.size 41 zKey:=(hf2.block _ hK6.lt (fun h=>by have:=Hlt.out _ h;omega)).trans hK6
 have hKl:=hK6.lt
 have HK7:=Hd.mk hK7
 clear hK7 hK6 hKr
 simp only [Act.put,u1,u2,u3]
 go_wp2_with (refine wl_storeW rfl 41 _ _ rfl w.heap.size 0 (vb (mkB 107 (s.num (textF p q)))) rfl rfl 41 _ (vb (mkB 107 (s.num (textF p q)))) HK7.out (by simp [zKey,mkB_len]) i42 (vb_ones _) (by simp [zKey,mkB_len]) ?_;intro w8 hr8 hg8 hs8)
 refine bodyPost_ret (results_cell_row (p:=6) (ty:=41) rfl _ _ w.heap.size 41 (vb (mkB 107 (s.num (textF p q)))).toArray (0,0) _ rfl hr8 ty42 rfl (by rw [i42];rfl)) rfl ?_
 exact ⟨rfl,TPost.key (_l:=[]) hB6 Hlt.out (Nat.le_refl _) hKl hT2 hF1 hF2 hf2 hg8 ⟨_,_,hr8⟩⟩
end
end Go.Proofs.YtaoijkhndakppaaGreat
