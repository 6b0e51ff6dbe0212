/- Five parameters. -/
import Derived.ProofKit
import Derived.Carry
import Derived.ChangeShapes
import Derived.Test.YtaoijkhndakppaaGreatCA15
set_option maxRecDepth 100000
set_option maxHeartbeats 4000000
namespace Go.Proofs.YtaoijkhndakppaaGreat
section
open Go.Value renaming int->iV,slice->lV,string->sV,bool->bV,agg->aV
open Go.RowKit Go.QT
theorem part_nil{tb:Nat}{G:Nat->Prop}{A:Option Addr}{c:Nat}{bad:Bool}(k:Nat){w:World}(hL:(rLst G A c (([]:List DVal))).Φ w)(hb:Blk w tb 287 [.slice A (([]:List DVal)).length c,.bool bad])(hd:¬ G tb):Calls Tryz.prog 131 #[pt tb 0,.int .i64 (k:Int)] w (NxPost w tb G ([],true) zDV):=by
 have hdd:∀ (j:Nat) (s:Res),[rBlk tb 287 [.slice A 0 c,.bool bad]][j]?=some s->(rLst G A c (([]:List DVal))).dj s:=fun j s hj q h1 h2=>by
   have h3:=sel1 hj
   injection h3 with h3
   subst h3
   exact hd (by rw [show q=tb from h2] at h1;exact h1)
 have h0:=((Hp.one (rBlk tb 287 [.slice A 0 c,.bool bad]) hb).weaken (F:=fun q=>q=tb) (fun q hq=>hq)).addR (rLst G A c ([])) hL hdd
 refine mE 55 ?_
 refine mN h0 196 ([zO,zO,(iV .u64 0),zN,zN]) fun g2 w2 h2=>?_
 refine ma h2 1 ?_
 refine mT (xSt h2 1 4 (.tmp 36) (.const zI) 1 zI ([(lV A 0 c),zI])) fun _ w6 h6=>?_
 refine mT (xSt h6 1 194 (.tmp 38) (.const zN) 0 zN ([zN,zI])) fun _ w7 h7=>?_
 refine mT (xSs h7 0 196 (.tmp 4) (.tmp 39) 0 ([zO,zO,(iV .u64 0),zN,zN]) ([zO,zO,(iV .u64 0),zN,zN])) fun _ w9 h9=>?_
 refine mF (post_1 (r:=.cell 4 196) (by kernel_rfl) rfl (rce (h9.at_ 0 rfl)) ?_)
 exact ⟨none,0,none,0,none,0,[],true,rfl,rfl,rfl,by decide,(((h9.sel [1] [] rfl rfl rfl).addR (rLst G none 0 []) (lst_nil (fun q hq=>Nat.lt_of_lt_of_le (hL.1 q hq) h9.fr.size) _ _ (by unfold maxLen;omega)) (fun j s hj q h1 h2=>h9.rdis 0 1 _ s rfl (sel1 hj) q h1 h2)).addR (rSG G (.slice none 0 0) []) (sg_nil (fun q hq=>Nat.lt_of_lt_of_le (hL.1 q hq) h9.fr.size)) (fun j s hj q h1 h2=>h9.rdis 0 1 _ s rfl (sel1 hj) q h1 h2)).addR (rLst G none 0 []) (lst_nil (fun q hq=>Nat.lt_of_lt_of_le (hL.1 q hq) h9.fr.size) _ _ (by unfold maxLen;omega)) (fun j s hj q h1 h2=>h9.rdis 0 1 _ s rfl (sel1 hj) q h1 h2)⟩
theorem part_kind{tb:Nat}{G:Nat->Prop}{A:Option Addr}{c:Nat}{bad:Bool}(k:Nat){w:World}(v:DVal)(r:List DVal)(hk:v.kind≠2)(hL:(rLst G A c (v::r)).Φ w)(hb:Blk w tb 287 [.slice A (v::r).length c,.bool bad])(hd:¬ G tb):Calls Tryz.prog 131 #[pt tb 0,.int .i64 (k:Int)] w (NxPost w tb G ([],true) zDV):=by
 obtain ⟨xs,cs,hx,hll,hxi,hv,hxF⟩:=lst_head hL
 obtain ⟨B,d,A2,c2,rfl,hsg,hls,hn⟩:=dv_lst hv
 have hxx:=hxi
 have hdd:∀ (j:Nat) (s:Res),[rBlk tb 287 [.slice A (v::r).length c,.bool bad]][j]?=some s->(rLst G A c (v::r)).dj s:=fun j s hj q h1 h2=>by
   have h3:=sel1 hj
   injection h3 with h3
   subst h3
   exact hd (by rw [show q=tb from h2] at h1;exact h1)
 have h0:=((((((Hp.one (rBlk tb 287 [.slice A (v::r).length c,.bool bad]) hb).weaken (F:=fun q=>q=tb) (fun q hq=>hq)).addR (rLst G A c (v::r)) hL hdd).addR (rRV 5 A c xs) hx (fun j s hj q h1 h2=>hdd j s hj q (hxF q h1) h2)).addR (rLst G A2 c2 v.l) hls (fun j s hj=>hdd j s hj)).addR (rSG G (.slice B v.b.length d) v.b) hsg (fun j s hj=>hdd j s hj))
 refine mE 55 ?_
 refine mN h0 196 ([zO,zO,(iV .u64 0),zN,zN]) fun g2 w2 h2=>?_
 refine ma h2 1 ?_
 refine mX 11 zV (bV ((((v::r).length:Int)) == 0)) len_pos0 ?_
 refine ma h2 1 ?_
 refine mW 17 (eIx (RV.lenIs (n:=(v::r).length) (h2.rd 2 rfl) hll).2 0 ((v::r).length) (RV.lenIs (n:=(v::r).length) (h2.rd 2 rfl) hll).1 (by simp) 194 (.tmp 16) (.const zO) .i64 196) ?_
 refine mW 18 (e_fldN (RV.lenIs (n:=(v::r).length) (h2.rd 2 rfl) hll).2 0 0 0 ([(zD ((v.kind:Int))),(zD ((v.tag:Int))),(iV .u64 ((v.n:Int))),(lV B v.b.length d),(lV A2 v.l.length c2)]) hxi (.tmp 17) (by kernel_rfl) (fun _ _=>by kernel_rfl) (fun _=>by kernel_rfl) _) ?_
 refine mW 19 (eEl (RV.lenIs (n:=(v::r).length) (h2.rd 2 rfl) hll).2 0 0 ([(zD ((v.kind:Int))),(zD ((v.tag:Int))),(iV .u64 ((v.n:Int))),(lV B v.b.length d),(lV A2 v.l.length c2)]) hxi 3 (.tmp 18) (zD ((v.kind:Int)))) ?_
 refine mX 20 zI (bV (((v.kind:Int)) != 2)) (ine (b:=2) hk) ?_
 refine mT (xSt h2 1 4 (.tmp 36) (.const zI) 1 zI ([(lV A ((v::r).length) c),zI])) fun _ w6 h6=>?_
 refine mT (xSt h6 1 194 (.tmp 38) (.const zN) 0 zN ([zN,zI])) fun _ w7 h7=>?_
 refine mT (xSs h7 0 196 (.tmp 4) (.tmp 39) 0 ([zO,zO,(iV .u64 0),zN,zN]) ([zO,zO,(iV .u64 0),zN,zN])) fun _ w9 h9=>?_
 refine mF (post_1 (r:=.cell 4 196) (by kernel_rfl) rfl (rce (h9.at_ 0 rfl)) ?_)
 exact ⟨none,0,none,0,none,0,[],true,rfl,rfl,rfl,by decide,(((h9.sel [1] [] rfl rfl rfl).addR (rLst G none 0 []) (lst_nil (fun q hq=>Nat.lt_of_lt_of_le (hL.1 q hq) h9.fr.size) _ _ (by unfold maxLen;omega)) (fun j s hj q h1 h2=>h9.rdis 3 1 _ s rfl (sel1 hj) q h1 h2)).addR (rSG G (.slice none 0 0) []) (sg_nil (fun q hq=>Nat.lt_of_lt_of_le (hL.1 q hq) h9.fr.size)) (fun j s hj q h1 h2=>h9.rdis 3 1 _ s rfl (sel1 hj) q h1 h2)).addR (rLst G none 0 []) (lst_nil (fun q hq=>Nat.lt_of_lt_of_le (hL.1 q hq) h9.fr.size) _ _ (by unfold maxLen;omega)) (fun j s hj q h1 h2=>h9.rdis 3 1 _ s rfl (sel1 hj) q h1 h2)⟩
theorem part_tag{tb:Nat}{G:Nat->Prop}{A:Option Addr}{c:Nat}{bad:Bool}(k:Nat){w:World}(v:DVal)(r:List DVal)(hk:v.kind=2)(ht:v.tag≠k)(hL:(rLst G A c (v::r)).Φ w)(hb:Blk w tb 287 [.slice A (v::r).length c,.bool bad])(hd:¬ G tb):Calls Tryz.prog 131 #[pt tb 0,.int .i64 (k:Int)] w (NxPost w tb G ([],true) zDV):=by
 obtain ⟨xs,cs,hx,hll,hxi,hv,hxF⟩:=lst_head hL
 obtain ⟨B,d,A2,c2,rfl,hsg,hls,hn⟩:=dv_lst hv
 have hxx:=hxi
 have hdd:∀ (j:Nat) (s:Res),[rBlk tb 287 [.slice A (v::r).length c,.bool bad]][j]?=some s->(rLst G A c (v::r)).dj s:=fun j s hj q h1 h2=>by
   have h3:=sel1 hj
   injection h3 with h3
   subst h3
   exact hd (by rw [show q=tb from h2] at h1;exact h1)
 have h0:=((((((Hp.one (rBlk tb 287 [.slice A (v::r).length c,.bool bad]) hb).weaken (F:=fun q=>q=tb) (fun q hq=>hq)).addR (rLst G A c (v::r)) hL hdd).addR (rRV 5 A c xs) hx (fun j s hj q h1 h2=>hdd j s hj q (hxF q h1) h2)).addR (rLst G A2 c2 v.l) hls (fun j s hj=>hdd j s hj)).addR (rSG G (.slice B v.b.length d) v.b) hsg (fun j s hj=>hdd j s hj))
 refine mE 55 ?_
 refine mN h0 196 ([zO,zO,(iV .u64 0),zN,zN]) fun g2 w2 h2=>?_
 refine ma h2 1 ?_
 refine mX 11 zV (bV ((((v::r).length:Int)) == 0)) len_pos0 ?_
 refine ma h2 1 ?_
 refine mW 17 (eIx (RV.lenIs (n:=(v::r).length) (h2.rd 2 rfl) hll).2 0 ((v::r).length) (RV.lenIs (n:=(v::r).length) (h2.rd 2 rfl) hll).1 (by simp) 194 (.tmp 16) (.const zO) .i64 196) ?_
 refine mW 18 (e_fldN (RV.lenIs (n:=(v::r).length) (h2.rd 2 rfl) hll).2 0 0 0 ([(zD ((v.kind:Int))),(zD ((v.tag:Int))),(iV .u64 ((v.n:Int))),(lV B v.b.length d),(lV A2 v.l.length c2)]) hxi (.tmp 17) (by kernel_rfl) (fun _ _=>by kernel_rfl) (fun _=>by kernel_rfl) _) ?_
 refine mW 19 (eEl (RV.lenIs (n:=(v::r).length) (h2.rd 2 rfl) hll).2 0 0 ([(zD ((v.kind:Int))),(zD ((v.tag:Int))),(iV .u64 ((v.n:Int))),(lV B v.b.length d),(lV A2 v.l.length c2)]) hxi 3 (.tmp 18) (zD ((v.kind:Int)))) ?_
 refine mX 20 zV (bV (((v.kind:Int)) != 2)) (ieq (b:=2) hk) ?_
 refine ma h2 1 ?_
 refine mW 27 (eIx (RV.lenIs (n:=(v::r).length) (h2.rd 2 rfl) hll).2 0 ((v::r).length) (RV.lenIs (n:=(v::r).length) (h2.rd 2 rfl) hll).1 (by simp) 194 (.tmp 26) (.const zO) .i64 196) ?_
 refine mW 28 (e_fldN (RV.lenIs (n:=(v::r).length) (h2.rd 2 rfl) hll).2 0 0 1 ([(zD ((v.kind:Int))),(zD ((v.tag:Int))),(iV .u64 ((v.n:Int))),(lV B v.b.length d),(lV A2 v.l.length c2)]) hxi (.tmp 27) (by kernel_rfl) (fun _ _=>by kernel_rfl) (fun _=>by kernel_rfl) _) ?_
 refine mW 29 (eEl (RV.lenIs (n:=(v::r).length) (h2.rd 2 rfl) hll).2 0 1 ([(zD ((v.kind:Int))),(zD ((v.tag:Int))),(iV .u64 ((v.n:Int))),(lV B v.b.length d),(lV A2 v.l.length c2)]) hxi 3 (.tmp 28) (zD ((v.tag:Int)))) ?_
 refine mX 31 zI (bV (((v.tag:Int)) != ((k:Int)))) (ine ht) ?_
 refine mT (xSt h2 1 4 (.tmp 36) (.const zI) 1 zI ([(lV A ((v::r).length) c),zI])) fun _ w6 h6=>?_
 refine mT (xSt h6 1 194 (.tmp 38) (.const zN) 0 zN ([zN,zI])) fun _ w7 h7=>?_
 refine mT (xSs h7 0 196 (.tmp 4) (.tmp 39) 0 ([zO,zO,(iV .u64 0),zN,zN]) ([zO,zO,(iV .u64 0),zN,zN])) fun _ w9 h9=>?_
 refine mF (post_1 (r:=.cell 4 196) (by kernel_rfl) rfl (rce (h9.at_ 0 rfl)) ?_)
 exact ⟨none,0,none,0,none,0,[],true,rfl,rfl,rfl,by decide,(((h9.sel [1] [] rfl rfl rfl).addR (rLst G none 0 []) (lst_nil (fun q hq=>Nat.lt_of_lt_of_le (hL.1 q hq) h9.fr.size) _ _ (by unfold maxLen;omega)) (fun j s hj q h1 h2=>h9.rdis 3 1 _ s rfl (sel1 hj) q h1 h2)).addR (rSG G (.slice none 0 0) []) (sg_nil (fun q hq=>Nat.lt_of_lt_of_le (hL.1 q hq) h9.fr.size)) (fun j s hj q h1 h2=>h9.rdis 3 1 _ s rfl (sel1 hj) q h1 h2)).addR (rLst G none 0 []) (lst_nil (fun q hq=>Nat.lt_of_lt_of_le (hL.1 q hq) h9.fr.size) _ _ (by unfold maxLen;omega)) (fun j s hj q h1 h2=>h9.rdis 3 1 _ s rfl (sel1 hj) q h1 h2)⟩
theorem part_good{tb:Nat}{G:Nat->Prop}{A:Option Addr}{c:Nat}{bad:Bool}(k:Nat){w:World}(v:DVal)(r:List DVal)(hk:v.kind=2)(ht:v.tag=k)(hL:(rLst G A c (v::r)).Φ w)(hb:Blk w tb 287 [.slice A (v::r).length c,.bool bad])(hd:¬ G tb):Calls Tryz.prog 131 #[pt tb 0,.int .i64 (k:Int)] w (NxPost w tb G (r,bad) v):=by
 obtain ⟨xs,cs,hx,hll,hxi,hv,hxF⟩:=lst_head hL
 obtain ⟨B,d,A2,c2,rfl,hsg,hls,hn⟩:=dv_lst hv
 have hxx:=hxi
 have hdd:∀ (j:Nat) (s:Res),[rBlk tb 287 [.slice A (v::r).length c,.bool bad]][j]?=some s->(rLst G A c (v::r)).dj s:=fun j s hj q h1 h2=>by
   have h3:=sel1 hj
   injection h3 with h3
   subst h3
   exact hd (by rw [show q=tb from h2] at h1;exact h1)
 have h0:=((((((Hp.one (rBlk tb 287 [.slice A (v::r).length c,.bool bad]) hb).weaken (F:=fun q=>q=tb) (fun q hq=>hq)).addR (rLst G A c (v::r)) hL hdd).addR (rRV 5 A c xs) hx (fun j s hj q h1 h2=>hdd j s hj q (hxF q h1) h2)).addR (rLst G A2 c2 v.l) hls (fun j s hj=>hdd j s hj)).addR (rSG G (.slice B v.b.length d) v.b) hsg (fun j s hj=>hdd j s hj))
 refine mE 55 ?_
 refine mN h0 196 ([zO,zO,(iV .u64 0),zN,zN]) fun g2 w2 h2=>?_
 refine ma h2 1 ?_
 refine mX 11 zV (bV ((((v::r).length:Int)) == 0)) len_pos0 ?_
 refine ma h2 1 ?_
 refine mW 17 (eIx (RV.lenIs (n:=(v::r).length) (h2.rd 2 rfl) hll).2 0 ((v::r).length) (RV.lenIs (n:=(v::r).length) (h2.rd 2 rfl) hll).1 (by simp) 194 (.tmp 16) (.const zO) .i64 196) ?_
 refine mW 18 (e_fldN (RV.lenIs (n:=(v::r).length) (h2.rd 2 rfl) hll).2 0 0 0 ([(zD ((v.kind:Int))),(zD ((v.tag:Int))),(iV .u64 ((v.n:Int))),(lV B v.b.length d),(lV A2 v.l.length c2)]) hxi (.tmp 17) (by kernel_rfl) (fun _ _=>by kernel_rfl) (fun _=>by kernel_rfl) _) ?_
 refine mW 19 (eEl (RV.lenIs (n:=(v::r).length) (h2.rd 2 rfl) hll).2 0 0 ([(zD ((v.kind:Int))),(zD ((v.tag:Int))),(iV .u64 ((v.n:Int))),(lV B v.b.length d),(lV A2 v.l.length c2)]) hxi 3 (.tmp 18) (zD ((v.kind:Int)))) ?_
 refine mX 20 zV (bV (((v.kind:Int)) != 2)) (ieq (b:=2) hk) ?_
 refine ma h2 1 ?_
 refine mW 27 (eIx (RV.lenIs (n:=(v::r).length) (h2.rd 2 rfl) hll).2 0 ((v::r).length) (RV.lenIs (n:=(v::r).length) (h2.rd 2 rfl) hll).1 (by simp) 194 (.tmp 26) (.const zO) .i64 196) ?_
 refine mW 28 (e_fldN (RV.lenIs (n:=(v::r).length) (h2.rd 2 rfl) hll).2 0 0 1 ([(zD ((v.kind:Int))),(zD ((v.tag:Int))),(iV .u64 ((v.n:Int))),(lV B v.b.length d),(lV A2 v.l.length c2)]) hxi (.tmp 27) (by kernel_rfl) (fun _ _=>by kernel_rfl) (fun _=>by kernel_rfl) _) ?_
 refine mW 29 (eEl (RV.lenIs (n:=(v::r).length) (h2.rd 2 rfl) hll).2 0 1 ([(zD ((v.kind:Int))),(zD ((v.tag:Int))),(iV .u64 ((v.n:Int))),(lV B v.b.length d),(lV A2 v.l.length c2)]) hxi 3 (.tmp 28) (zD ((v.tag:Int)))) ?_
 refine mX 31 zV (bV (((v.tag:Int)) != ((k:Int)))) (ieq ht) ?_
 refine ma h2 1 ?_
 refine mW 44 (eIx (RV.lenIs (n:=(v::r).length) (h2.rd 2 rfl) hll).2 0 ((v::r).length) (RV.lenIs (n:=(v::r).length) (h2.rd 2 rfl) hll).1 (by simp) 194 (.tmp 43) (.const zO) .i64 196) ?_
 refine mW 45 (e_elemsN (RV.lenIs (n:=(v::r).length) (h2.rd 2 rfl) hll).2 0 0 ([(zD ((v.kind:Int))),(zD ((v.tag:Int))),(iV .u64 ((v.n:Int))),(lV B v.b.length d),(lV A2 v.l.length c2)]) hxi 196 (.tmp 44) (by kernel_rfl) ([(zD ((v.kind:Int))),(zD ((v.tag:Int))),(iV .u64 ((v.n:Int))),(lV B v.b.length d),(lV A2 v.l.length c2)]) (by kernel_rfl) (by kernel_rfl) (by kernel_rfl)) ?_
 refine mN h2 196 ([zO,zO,(iV .u64 0),zN,zN]) fun g6 w6 h6=>?_
 refine mT (xSs h6 0 196 (.tmp 5) (.tmp 45) 0 ([(zD ((v.kind:Int))),(zD ((v.tag:Int))),(iV .u64 ((v.n:Int))),(lV B v.b.length d),(lV A2 v.l.length c2)]) ([(zD ((v.kind:Int))),(zD ((v.tag:Int))),(iV .u64 ((v.n:Int))),(lV B v.b.length d),(lV A2 v.l.length c2)])) fun _ w7 h7=>?_
 refine ma h7 2 ?_
 refine mW 51 (v:=(lV (tlA 5 A c) r.length ((c-1)))) (e_tailA (n:=(v::r).length) (by simp) 194 (.tmp 50) (.const (zD 1)) (by kernel_rfl) (by kernel_rfl) .i64 (by kernel_rfl) (by kernel_rfl) (by kernel_rfl) _) ?_
 refine mT (xSt h7 2 194 (.tmp 53) (.tmp 51) 0 (lV (tlA 5 A c) r.length ((c-1))) ([(lV (tlA 5 A c) r.length ((c-1))),(bV bad)])) fun _ w9 h9=>?_
 refine ma h9 0 ?_
 refine mT (xSs h9 1 196 (.tmp 4) (.tmp 54) 0 ([(zD ((v.kind:Int))),(zD ((v.tag:Int))),(iV .u64 ((v.n:Int))),(lV B v.b.length d),(lV A2 v.l.length c2)]) ([(zD ((v.kind:Int))),(zD ((v.tag:Int))),(iV .u64 ((v.n:Int))),(lV B v.b.length d),(lV A2 v.l.length c2)])) fun _ w11 h11=>?_
 refine mF (post_1 (r:=.cell 4 196) (by kernel_rfl) rfl (rce (h11.at_ 1 rfl)) ?_)
 exact ⟨_,_,_,_,_,_,r,bad,rfl,rfl,rfl,hn,(h11.sel [2] [0,1] rfl rfl rfl).addR (rLst G (tlA 5 A c) (c-1) r) (lst_tail (h11.rd 3 rfl)) (fun j s hj q h1 h2=>h11.rdis 3 2 _ s rfl (sel1 hj) q h1 h2)⟩
/-- What is left, and what is the next part, of a tag. -/
def ptV(k:Nat):List DVal->DVal
 | []=>zDV
 | v::_=>if v.kind=2/\v.tag=k then v else zDV
def ptT(k:Nat):TkSt->TkSt
 | ([],_)=>([],true)
 | (v::r,b)=>if v.kind=2/\v.tag=k then (r,b) else ([],true)
theorem prt_bad{k:Nat}{v:DVal}{r:List DVal}(h:v.kind≠2∨v.tag≠k)(b:Bool):ptV k (v::r)=zDV/\ptT k (v::r,b)=([],true):=by
 have:¬ (v.kind=2/\v.tag=k):=fun hh=>h.elim (fun h=>h hh.1) (fun h=>h hh.2)
 exact ⟨if_neg this,if_neg this⟩
theorem prt_good{k:Nat}{v:DVal}{r:List DVal}(h:v.kind=2)(h2:v.tag=k)(b:Bool):ptV k (v::r)=v/\ptT k (v::r,b)=(r,b):=⟨if_pos ⟨h,h2⟩,if_pos ⟨h,h2⟩⟩
theorem partV_any{tb:Nat}{G:Nat->Prop}{A:Option Addr}{c:Nat}{bad:Bool}{ts:List DVal}(k:Nat){w:World}(hL:(rLst G A c ts).Φ w)(hb:Blk w tb 287 [.slice A ts.length c,.bool bad])(hd:¬ G tb) :
   Calls Tryz.prog 131 #[pt tb 0,.int .i64 (k:Int)] w (NxPost w tb G (ptT k (ts,bad)) (ptV k ts)):=by
 cases ts with
 | nil=>exact part_nil k hL hb hd
 | cons v r =>
   by_cases hk:v.kind=2
   · by_cases ht:v.tag=k
     · rw [(prt_good (r:=r) hk ht bad).1,(prt_good hk ht bad).2];exact part_good k v r hk ht hL hb hd
     rw [(prt_bad (r:=r) (.inr ht:v.kind≠2∨v.tag≠k) bad).1,(prt_bad (.inr ht:v.kind≠2∨v.tag≠k) bad).2];exact part_tag k v r hk ht hL hb hd
   rw [(prt_bad (r:=r) (.inl hk:v.kind≠2∨v.tag≠k) bad).1,(prt_bad (.inl hk:v.kind≠2∨v.tag≠k) bad).2];exact part_kind k v r hk hL hb hd
end
section
open Go.RowKit Go.QT
theorem okT(l:List AV):AV.okL (fun _=>True) l:=(keysL_ok _).2 fun _ _=>trivial
/-- A value's cells, under names. -/
abbrev cDV(v:DVal)(a b:Nat):AV:=.c [aI (v.kind:Int),aI (v.tag:Int),.v (.int .u64 (v.n:Int)),.o a v.b.length,.o b v.l.length]
theorem dvr_mk{G:Nat->Prop}{w:World}{v:DVal}{B A:Option Addr}{d c:Nat}(hn:v.n<18446744073709551616)(hb:(rSG G (.slice B v.b.length d) v.b).Φ w)(hl:(rLst G A c v.l).Φ w) :
   DVR G w [.int .i64 (v.kind:Int),.int .i64 (v.tag:Int),.int .u64 (v.n:Int),.slice B v.b.length d,.slice A v.l.length c] v:=by
 cases v with
 | mk k t n b ts =>
   obtain ⟨_,xs,h1,h2,h3⟩:=hl
   exact .mk k t n _ b A c xs ts hn hb.2 h1 h2 h3
section
variable{T':TkSt}{nx i n:Nat}{vs:List AV}{fs:List Fct}{x:AV}{ts:List DVal}{bad:Bool}
/-- What a function leaves that reads a region and tells more of it, and makes new blocks. -/
theorem rg_post{κ κ1:Kp}{w w':World}{G:Nat->Prop}{ws:List AV}{gs:List Fct}{B:List Ent}{rs:List Res}(h:HE (foot κ [eRg 0 vs fs]) w w κ [] [eRg 0 vs fs])(hG:(κ 0).r=rG G fs (AV.denL κ vs))
   (hB:∀ κ2,Agr (fun _=>True) κ1 κ2->B.map (Ent.res κ2)=rs/\∀ e ∈ B,e.holds κ2) (hp:HA (fun _=>False) w w' [] rs) (hf:fcts G w' gs (AV.denL κ1 ws)) :
   ∃ κ':Kp,Agr (fun _=>True) κ1 κ'/\HE (foot κ [eRg 0 vs fs]) w w' κ' [] (B++[eRg 0 ws gs]):=by
 have hg:(rG G fs (AV.denL κ vs)).Φ w:=by rw [← hG];exact h.ha.own (κ 0).r (by simp [Ent.res])
 have hm:∀ q,G q->foot κ [eRg 0 vs fs] q:=fun q hq=>⟨(κ 0).r,by simp [Ent.res],by rw [hG];exact hq⟩
 have hag:Agr (fun _=>True) κ1 (upK κ1 0 ⟨(κ1 0).n,(κ1 0).a,rG G gs (AV.denL κ1 ws)⟩):=fun k _=>by
   by_cases hk:k=0
   · subst hk;rw [upK_at];exact ⟨rfl,rfl⟩
   rw [upK_ne _ _ hk];exact ⟨rfl,rfl⟩
 obtain ⟨b1,b2⟩:=hB _ hag
 have er:(B++[eRg 0 ws gs]).map (Ent.res (upK κ1 0 ⟨(κ1 0).n,(κ1 0).a,rG G gs (AV.denL κ1 ws)⟩))=rs++[rG G gs (AV.denL κ1 ws)]:=by
   rw [List.map_append,b1];simp only [List.map_cons,List.map_nil,Ent.res];rw [upK_at]
 refine ⟨_,hag,?_,fun _ h=>absurd h List.not_mem_nil,fun e he=>?_⟩
 · rw [er]
   refine ⟨⟨hp.fr.os,hp.fr.tape,hp.fr.output,hp.fr.size,fun k hk _=>hp.fr.block k hk (fun h=>h)⟩,fun r hr=>?_,fun r hr q hq=>?_,?_,fun _ h=>absurd h List.not_mem_nil,fun _ h=>absurd h List.not_mem_nil⟩
   · rcases List.mem_append.1 hr with hr|hr
     · exact hp.own r hr
     rw [List.mem_singleton.1 hr];exact ⟨fun q hq=>Nat.lt_of_lt_of_le (hg.1 q hq) hp.fr.size,hf⟩
   · rcases List.mem_append.1 hr with hr|hr
     · rcases hp.mine r hr q hq with h|h
       · exact h.elim
       exact .inr h
     rw [List.mem_singleton.1 hr] at hq;exact .inl (hm q hq)
   refine List.pairwise_append.2 ⟨hp.dis,List.pairwise_singleton _ _,fun r hr s hs q h1 h2=>?_⟩
   rw [List.mem_singleton.1 hs] at h2
   rcases hp.mine r hr q h1 with h|h
   · exact h
   exact absurd (hg.1 q h2) (Nat.not_lt.2 h)
 rcases List.mem_append.1 he with he|he
 · exact b2 e he
 rw [List.mem_singleton.1 he]
 show regC gs _ _
 exact ⟨G,by rw [upK_at,denL_agr hag ws (okT _)]⟩
theorem rg_get{κ:Kp}{w:World}(h:HE (foot κ [eRg 0 vs fs]) w w κ [] [eRg 0 vs fs]):∃ G,(κ 0).r=rG G fs (AV.denL κ vs)/\(∀ q,G q->q<w.heap.size)/\fcts G w fs (AV.denL κ vs):=by
 obtain ⟨G,hG⟩:=h.hh (eRg 0 vs fs) (by simp)
 have hg:(rG G fs (AV.denL κ vs)).Φ w:=by rw [← hG];exact h.ha.own (κ 0).r (by simp [Ent.res])
 exact ⟨G,hG,hg.1,hg.2⟩
theorem fct_at{κ:Kp}{w:World}{G:Nat->Prop}{f:Fct}(h:fcts G w fs (AV.denL κ vs))(hv:vs[i]?=some x)(hf:fs[i]?=some f):fct1 G w f (x.den κ):=
 fcts_at h hf (by rw [denL_map,List.getElem?_map,hv];rfl)
theorem fcts_add{κ:Kp}{w:World}{G:Nat->Prop}{ws:List AV}{gs:List Fct}(h:fcts G w fs (AV.denL κ vs))(hl:fs.length=vs.length)(h1:fcts G w gs (AV.denL κ ws)):fcts G w (fs++gs) (AV.denL κ (vs++ws)):=by
 rw [denL_map,List.map_append,← denL_map,← denL_map]
 exact fcts_app h (by rw [hl,denL_map,List.length_map]) h1
/-- What a value is, of a region: a ticket. -/
theorem of_s{v:DVal}{a b:Nat}{s:ByteArray}{l:Bytes}(ho:ofF v=some (.ticket s l))(hsm:Sm v.l)(hv:vs[i]?=some (cDV v a b))(hf:fs[i]?=some (.d v))(hlen:fs.length=vs.length)(hl:AV.ltL nx vs=true)(_h1:1<=nx) :
   Spec Tryz.prog ⟨90,nx,[cDV v a b],[],[eRg 0 vs fs],.t [.i 39 (.c [aS s,.o nx l.length]),aB true],[eRg 0 (vs++[.o nx l.length]) (fs++[.b l])]⟩:=by
 refine ⟨fun κ w h=>?_⟩
 obtain ⟨G,hG,hlt,hfs⟩:=rg_get h
 obtain ⟨cs,e1,hd⟩:=fct_at hfs hv hf
 have hc:=of_any (G:=G) (cs:=cs) (v:=v) (w:=w) hsm ⟨hlt,hd⟩
 have e2:(AV.denL κ [cDV v a b]).toArray=#[.agg cs.toArray]:=by
   show #[AV.den κ (cDV v a b)]=_
   rw [e1]
 rw [e2]
 refine hc.mono fun e w' ⟨hb,hr⟩=>?_
 rw [ho] at hr
 obtain ⟨u,he,A,c,hu,hsl⟩:=hr
 subst hu
 have hfr:Fr (fun _=>False) w w':=Fr.of_below _ hb
 have hk1:∀ k,k<nx->upK κ nx ⟨c,A,(κ nx).r⟩ k=κ k:=fun k hk=>upK_ne _ _ (by omega)
 have hag:Agr (· < nx) κ (upK κ nx ⟨c,A,(κ nx).r⟩):=fun k hk=>by rw [hk1 k hk];exact ⟨rfl,rfl⟩
 have e3:AV.den (upK κ nx ⟨c,A,(κ nx).r⟩) (.o nx l.length)=.slice A l.length c:=by simp only [AV.den];rw [upK_at]
 obtain ⟨κ',k1,k2⟩:=rg_post (κ1:=upK κ nx ⟨c,A,(κ nx).r⟩) (B:=[]) (rs:=[]) (ws:=vs++[.o nx l.length]) (gs:=fs++[.b l]) h hG (fun _ _=>⟨rfl,fun _ h=>absurd h List.not_mem_nil⟩)
   ⟨hfr,fun _ h=>absurd h List.not_mem_nil,fun _ h=>absurd h List.not_mem_nil,.nil,fun _ h=>absurd h List.not_mem_nil,fun _ h=>absurd h List.not_mem_nil⟩
   (fcts_add (gs:=[.b l]) (ws:=[.o nx l.length]) (by rw [denL_agr hag vs (ltL_ok _ hl)];exact hfs.keep hfr.size fun q hq=>hfr.block q (hlt q hq) fun h=>h) hlen ⟨⟨A,c,e3,by rw [e3];exact hsl.2⟩,trivial⟩)
 refine ⟨κ',fun k hk=>⟨(k1 k trivial).1.trans (hag k hk).1,(k1 k trivial).2.trans (hag k hk).2⟩,?_,k2⟩
 rw [he,den_agr k1 _ (by simp [AV.ok,AV.okL])]
 simp only [AV.den,AV.denL]
 rw [upK_at]
/-- It is nothing. -/
theorem ofN_s{v:DVal}{a b:Nat}(ho:ofF v=none)(hsm:Sm v.l)(hv:vs[i]?=some (cDV v a b))(hf:fs[i]?=some (.d v)) :
   Spec Tryz.prog ⟨90,nx,[cDV v a b],[],[eRg 0 vs fs],.t [.v .nilIface,aB false],[eRg 0 vs fs]⟩:=by
 refine ⟨fun κ w h=>?_⟩
 obtain ⟨G,hG,hlt,hfs⟩:=rg_get h
 obtain ⟨cs,e1,hd⟩:=fct_at hfs hv hf
 have hc:=of_any (G:=G) (cs:=cs) (v:=v) (w:=w) hsm ⟨hlt,hd⟩
 have e2:(AV.denL κ [cDV v a b]).toArray=#[.agg cs.toArray]:=by
   show #[AV.den κ (cDV v a b)]=_
   rw [e1]
 rw [e2]
 refine hc.mono fun e w' ⟨hb,hr⟩=>?_
 rw [ho] at hr
 have hr:e=.returned (.tuple #[.nilIface,.bool false]):=hr
 have hfr:Fr (fun _=>False) w w':=Fr.of_below _ hb
 obtain ⟨κ',k1,k2⟩:=rg_post (κ1:=κ) (B:=[]) (rs:=[]) (ws:=vs) (gs:=fs) h hG (fun _ _=>⟨rfl,fun _ h=>absurd h List.not_mem_nil⟩)
   ⟨hfr,fun _ h=>absurd h List.not_mem_nil,fun _ h=>absurd h List.not_mem_nil,.nil,fun _ h=>absurd h List.not_mem_nil,fun _ h=>absurd h List.not_mem_nil⟩
   (hfs.keep hfr.size fun q hq=>hfr.block q (hlt q hq) fun h=>h)
 exact ⟨κ',fun k _=>k1 k trivial,hr,k2⟩
/-- A taker of a list. -/
theorem take_s{v:DVal}{a b:Nat}(hv:vs[i]?=some (cDV v a b))(hf:fs[i]?=some (.d v))(hlen:fs.length=vs.length)(hl:AV.ltL nx vs=true)(_h1:1<=nx) :
   Spec Tryz.prog ⟨105,nx,[cDV v a b],[],[eRg 0 vs fs],.p nx 0,[.blk nx 287 [.o b v.l.length,aB false],eRg 0 (vs++[.o b v.l.length]) (fs++[.l v.l])]⟩:=by
 refine ⟨fun κ w h=>?_⟩
 obtain ⟨G,hG,hlt,hfs⟩:=rg_get h
 obtain ⟨cs,e1,hd⟩:=fct_at hfs hv hf
 have hbn:b<nx:=by
   have h2:=(okL_all (· < nx) vs).1 (ltL_ok _ hl) _ (List.mem_of_getElem? hv)
   exact h2.2.2.2.2.1
 obtain ⟨B,d,A,c,e2,hsg,hls,hn⟩:=dv_lst (G:=G) (w:=w) (cs:=cs) ⟨hlt,hd⟩
 have hc:=take_any v.kind v.tag v.n (κ a).a (κ b).a v.b.length (κ a).n v.l.length (κ b).n w
 refine hc.mono fun e w' ⟨tb,he,hp⟩=>?_
 have hp:=hp.ha
 have hfr:=hp.fr
 have hk1:∀ k,k<nx->upK κ nx ⟨tb,none,(κ nx).r⟩ k=κ k:=fun k hk=>upK_ne _ _ (by omega)
 have hag:Agr (· < nx) κ (upK κ nx ⟨tb,none,(κ nx).r⟩):=fun k hk=>by rw [hk1 k hk];exact ⟨rfl,rfl⟩
 have e3:AV.den (upK κ nx ⟨tb,none,(κ nx).r⟩) (.o b v.l.length)=.slice (κ b).a v.l.length (κ b).n:=by simp only [AV.den];rw [hk1 b hbn]
 have e4:(κ b).a=A/\(κ b).n=c:=by
   have e5:AV.denL κ [aI (v.kind:Int),aI (v.tag:Int),.v (.int .u64 (v.n:Int)),.o a v.b.length,.o b v.l.length]=cs:=by
     injection e1 with e1
     exact congrArg Array.toList e1
   rw [e2] at e5
   have e6:(Value.slice (κ b).a v.l.length (κ b).n)=.slice A v.l.length c:=congrArg (fun l=>l.getD 4 .nilIface) e5
   injection e6 with e6 _ e7
   exact ⟨e6,e7⟩
 obtain ⟨κ',k1,k2⟩:=rg_post (κ1:=upK κ nx ⟨tb,none,(κ nx).r⟩) (B:=[.blk nx 287 [.o b v.l.length,aB false]]) (rs:=[rBlk tb 287 [.slice (κ b).a v.l.length (κ b).n,.bool false]]) (ws:=vs++[.o b v.l.length]) (gs:=fs++[.l v.l]) h hG
   (fun κ2 hg=>⟨by
     simp only [List.map_cons,List.map_nil,Ent.res]
     rw [denL_agr hg _ (okT _),(hg nx trivial).1,upK_at]
     show [rBlk tb 287 [AV.den _ (.o b v.l.length),.bool false]]=_
     rw [e3],fun e he=>by rw [List.mem_singleton.1 he];trivial⟩) hp
   (fcts_add (by rw [denL_agr hag vs (ltL_ok _ hl)];exact hfs.keep hfr.size fun q hq=>hfr.block q (hlt q hq) fun h=>h) hlen (gs:=[.l v.l]) (ws:=[.o b v.l.length]) ⟨⟨A,c,by rw [e3,e4.1,e4.2],(rLst G A c v.l).keep hls hfr.size fun q hq=>hfr.block q (hlt q hq) fun h=>h⟩,trivial⟩)
 refine ⟨κ',fun k hk=>⟨(k1 k trivial).1.trans (hag k hk).1,(k1 k trivial).2.trans (hag k hk).2⟩,?_,k2⟩
 rw [he]
 show _=Ending.returned (AV.den κ' (.p nx 0))
 rw [den_agr k1 (.p nx 0) trivial]
 simp only [AV.den]
 rw [upK_at]
theorem tk_get{κ:Kp}{w:World}{cs0:List AV}(h:HE (foot κ [.blk 0 287 cs0,eRg 1 vs fs]) w w κ [] [.blk 0 287 cs0,eRg 1 vs fs]):∃ G,(κ 1).r=rG G fs (AV.denL κ vs)/\(∀ q,G q->q<w.heap.size)/\fcts G w fs (AV.denL κ vs)/\Blk w (κ 0).n 287 (AV.denL κ cs0)/\¬ G (κ 0).n:=by
 obtain ⟨G,hG⟩:=h.hh (eRg 1 vs fs) (by simp)
 have hg:(rG G fs (AV.denL κ vs)).Φ w:=by rw [← hG];exact h.ha.own (κ 1).r (by simp [Ent.res])
 exact ⟨G,hG,hg.1,hg.2,h.ha.own (rBlk (κ 0).n 287 (AV.denL κ cs0)) (by simp [Ent.res]),fun hq=>(List.pairwise_cons.1 h.ha.dis).1 (κ 1).r (by simp [Ent.res]) (κ 0).n rfl (by rw [hG];exact hq)⟩
/-- Bytes are the next part. -/
theorem tkBytes_s(hT:bytesT (ts,bad)=T')(hv:vs[i]?=some x)(hf:fs[i]?=some (.l ts))(hlen:fs.length=vs.length)(hl:(AV.lt nx x && AV.ltL nx vs)=true)(h2:2<=nx) :
   Spec Tryz.prog ⟨108,nx,[.p 0 0],[],[.blk 0 287 [x,aB bad],eRg 1 vs fs],.o (nx+1) (bytesO (ts,bad)).length,[.blk 0 287 [.o nx T'.1.length,aB T'.2],eRg 1 (vs.set i (.o nx T'.1.length)++[.o (nx+1) (bytesO (ts,bad)).length]) (fs.set i (.l T'.1)++[.b (bytesO (ts,bad))])]⟩:=by
 rw [Bool.and_eq_true] at hl
 refine ⟨fun κ w h=>?_⟩
 obtain ⟨G,hG,hlt,hfs,hb,hd⟩:=tk_get h
 obtain ⟨A,c,hx1,hL⟩:=fct_at hfs hv hf
 have hb:Blk w (κ 0).n 287 [x.den κ,.bool bad]:=hb
 rw [hx1] at hb
 refine (tkBytes_any hL hb hd).mono fun e w' ⟨A',c',ts',b',B,d,h1,h3,he,hp⟩=>?_
 subst h1;subst h3
 have hpr:=hp.ha
 have hfr:=hpr.fr
 rw [hT] at hp hpr
 generalize bytesO (ts,bad)=l at he hp hpr ⊢
 obtain ⟨κ1,k3,k4,k5⟩:∃ κ1:Kp,(∀ k,k<nx->κ1 k=κ k)/\κ1 nx=⟨c',A',(κ nx).r⟩/\κ1 (nx+1)=⟨d,B,(κ nx).r⟩:=
   ⟨upK (upK κ nx ⟨c',A',(κ nx).r⟩) (nx+1) ⟨d,B,(κ nx).r⟩,fun k hk=>by rw [upK_ne _ _ (by omega),upK_ne _ _ (by omega)],by rw [upK_ne _ _ (by omega),upK_at],upK_at _ _ _⟩
 have hag:Agr (· < nx) κ κ1:=fun k hk=>by rw [k3 k hk];exact ⟨rfl,rfl⟩
 have e1:AV.den κ1 (.o nx T'.1.length)=.slice A' T'.1.length c':=by simp only [AV.den];rw [k4]
 have e2:AV.den κ1 (.o (nx+1) l.length)=.slice B l.length d:=by simp only [AV.den];rw [k5]
 have hk:fcts G w' (fs.set i (.l T'.1)) (AV.denL κ1 (vs.set i (.o nx T'.1.length))):=by
   rw [denL_map,List.map_set,← denL_map,e1,denL_agr hag vs (ltL_ok _ hl.2)]
   exact fcts_set (hfs.keep hfr.size fun q hq=>hfr.block q (hlt q hq) fun e=>hd (e ▸ hq)) i ⟨A',c',rfl,hpr.red (rLst G A' c' T'.1) (by simp)⟩
 have hsg:(rSG G (.slice B l.length d) l).Φ w':=hpr.red _ (by simp)
 obtain ⟨κ',k1,k2⟩:=tk_post (gs:=fs.set i (.l T'.1)++[.b l]) (ws:=vs.set i (.o nx T'.1.length)++[.o (nx+1) l.length]) (cells:=[.o nx T'.1.length,aB T'.2]) h hG hfr h2 κ1 hag
   (by show Blk _ _ _ [AV.den _ (.o nx T'.1.length),.bool T'.2];rw [e1];exact hpr.own (rBlk (κ 0).n 287 _) (by simp))
   (fcts_add hk (by rw [List.length_set,List.length_set,hlen]) (gs:=[.b l]) (ws:=[.o (nx+1) l.length]) ⟨⟨B,d,e2,by rw [e2];exact hsg.2⟩,trivial⟩)
 refine ⟨κ',fun k hk=>⟨(k1 k trivial).1.trans (hag k hk).1,(k1 k trivial).2.trans (hag k hk).2⟩,?_,k2⟩
 rw [he]
 show _=Ending.returned (AV.den κ' (.o (nx+1) l.length))
 rw [den_agr k1 (.o (nx+1) l.length) trivial,e2]
/-- A list of a tag is the next part. -/
theorem tkPart_s(k:Nat){u:DVal}(hu:ptV k ts=u)(hT:ptT k (ts,bad)=T')(hv:vs[i]?=some x)(hf:fs[i]?=some (.l ts))(hlen:fs.length=vs.length)(hl:(AV.lt nx x && AV.ltL nx vs)=true)(h2:2<=nx) :
   Spec Tryz.prog ⟨131,nx,[.p 0 0,aI (k:Int)],[],[.blk 0 287 [x,aB bad],eRg 1 vs fs],cDV u (nx+1) (nx+2),[.blk 0 287 [.o nx T'.1.length,aB T'.2],eRg 1 (vs.set i (.o nx T'.1.length)++[cDV u (nx+1) (nx+2)]) (fs.set i (.l T'.1)++[.d u])]⟩:=by
 rw [Bool.and_eq_true] at hl
 refine ⟨fun κ w h=>?_⟩
 obtain ⟨G,hG,hlt,hfs,hb,hd⟩:=tk_get h
 obtain ⟨A,c,hx1,hL⟩:=fct_at hfs hv hf
 have hb:Blk w (κ 0).n 287 [x.den κ,.bool bad]:=hb
 rw [hx1] at hb
 refine (partV_any k hL hb hd).mono fun e w' ⟨A',c',B,d,A2,c2,ts',b',h1,h3,he,hn,hp⟩=>?_
 subst h1;subst h3
 have hpr:=hp.ha
 have hfr:=hpr.fr
 rw [hT,hu] at hp hpr
 rw [hu] at he hn
 obtain ⟨κ1,k3,k4,k5,k6⟩:∃ κ1:Kp,(∀ k,k<nx->κ1 k=κ k)/\κ1 nx=⟨c',A',(κ nx).r⟩/\κ1 (nx+1)=⟨d,B,(κ nx).r⟩/\κ1 (nx+2)=⟨c2,A2,(κ nx).r⟩:=
   ⟨upK (upK (upK κ nx ⟨c',A',(κ nx).r⟩) (nx+1) ⟨d,B,(κ nx).r⟩) (nx+2) ⟨c2,A2,(κ nx).r⟩,fun k hk=>by rw [upK_ne _ _ (by omega),upK_ne _ _ (by omega),upK_ne _ _ (by omega)],by rw [upK_ne _ _ (by omega),upK_ne _ _ (by omega),upK_at],by rw [upK_ne _ _ (by omega),upK_at],upK_at _ _ _⟩
 have hag:Agr (· < nx) κ κ1:=fun k hk=>by rw [k3 k hk];exact ⟨rfl,rfl⟩
 have e1:AV.den κ1 (.o nx T'.1.length)=.slice A' T'.1.length c':=by simp only [AV.den];rw [k4]
 have e2:AV.den κ1 (cDV u (nx+1) (nx+2))=.agg (#[.int .i64 (u.kind:Int),.int .i64 (u.tag:Int),.int .u64 (u.n:Int),.slice B u.b.length d,.slice A2 u.l.length c2]):=by
   simp only [AV.den,AV.denL];rw [k5,k6]
 have hk:fcts G w' (fs.set i (.l T'.1)) (AV.denL κ1 (vs.set i (.o nx T'.1.length))):=by
   rw [denL_map,List.map_set,← denL_map,e1,denL_agr hag vs (ltL_ok _ hl.2)]
   exact fcts_set (hfs.keep hfr.size fun q hq=>hfr.block q (hlt q hq) fun e=>hd (e ▸ hq)) i ⟨A',c',rfl,hpr.red (rLst G A' c' T'.1) (by simp)⟩
 have hsg:(rSG G (.slice B u.b.length d) u.b).Φ w':=hpr.red _ (by simp)
 have hls:(rLst G A2 c2 u.l).Φ w':=hpr.red _ (by simp)
 obtain ⟨κ',k1,k2⟩:=tk_post (gs:=fs.set i (.l T'.1)++[.d u]) (ws:=vs.set i (.o nx T'.1.length)++[cDV u (nx+1) (nx+2)]) (cells:=[.o nx T'.1.length,aB T'.2]) h hG hfr h2 κ1 hag
   (by show Blk _ _ _ [AV.den _ (.o nx T'.1.length),.bool T'.2];rw [e1];exact hpr.own (rBlk (κ 0).n 287 _) (by simp))
   (fcts_add hk (by rw [List.length_set,List.length_set,hlen]) (gs:=[.d u]) (ws:=[cDV u (nx+1) (nx+2)]) ⟨⟨_,e2,dvr_mk hn hsg hls⟩,trivial⟩)
 refine ⟨κ',fun k hk=>⟨(k1 k trivial).1.trans (hag k hk).1,(k1 k trivial).2.trans (hag k hk).2⟩,?_,k2⟩
 rw [he]
 show _=Ending.returned (AV.den κ' (cDV u (nx+1) (nx+2)))
 rw [den_agr k1 (cDV u (nx+1) (nx+2)) (by simp [AV.ok,AV.okL]),e2]
/-- Has it taken all? -/
theorem tkDone_s{d:Bool}(hdn:doneO (ts,bad)=d)(hv:vs[i]?=some x)(hf:fs[i]?=some (.l ts))(_hl:AV.ltL nx vs=true)(h2:2<=nx) :
   Spec Tryz.prog ⟨112,nx,[.p 0 0],[],[.blk 0 287 [x,aB bad],eRg 1 vs fs],aB d,[.blk 0 287 [x,aB bad],eRg 1 vs fs]⟩:=by
 subst hdn
 refine ⟨fun κ w h=>?_⟩
 obtain ⟨G,hG,hlt,hfs,hb,hd⟩:=tk_get h
 obtain ⟨A,c,hx1,hL⟩:=fct_at hfs hv hf
 have hb0:=hb
 have hb:Blk w (κ 0).n 287 [x.den κ,.bool bad]:=hb
 rw [hx1] at hb
 refine (tkDone_any hb).mono fun e w' ⟨he,hbl⟩=>?_
 have hfr:Fr (fun q=>q=(κ 0).n) w w':=Fr.of_below _ hbl
 obtain ⟨κ',k1,k2⟩:=tk_post (gs:=fs) (ws:=vs) (cells:=[x,aB bad]) h hG hfr h2 κ (fun _ _=>⟨rfl,rfl⟩) ((rBlk (κ 0).n 287 _).keep hb0 hfr.size fun q hq=>by rw [show q=(κ 0).n from hq];exact hbl.block _ hb0.lt)
   (hfs.keep hfr.size fun q hq=>hfr.block q (hlt q hq) fun e=>hd (e ▸ hq))
 exact ⟨κ',fun k _=>k1 k trivial,he,k2⟩
end
end
section
open Go.RowKit Go.QT
section
variable{v:DVal}{ts:List DVal}{bad:Bool}{s:ByteArray}{l:Bytes}
theorem reg_inB{i j:Nat}{vs:List AV}{fs:List Fct}(hi:vs[i]?=some (.o j l.length))(hl:fs[i]?=some (.b l)){κ:Kp}{kv:Kv}(h:regC fs kv (AV.denL κ vs)):InV kv (rSB (.slice (κ j).a l.length (κ j).n) l):=by
 obtain ⟨G,hG⟩:=h
 have hx:(AV.denL κ vs)[i]?=some (.slice (κ j).a l.length (κ j).n):=by rw [denL_map,List.getElem?_map,hi];rfl
 refine ⟨fun w hw=>?_,fun w hw q hq=>?_⟩
 · rw [hG] at hw
   obtain ⟨_,_,_,h1⟩:=fcts_at hw.2 hl hx
   exact h1.1
 rw [hG] at hw ⊢
 obtain ⟨_,_,_,h1⟩:=fcts_at hw.2 hl hx
 exact h1.2 hq.1 q hq.2
/-- What is only read, told as a part of a region. -/
theorem Spec.vwG{P:Program}{sp:Sp}(hs:Spec P sp)(K:Nat)(vs:List AV)(fs:List Fct)(i j:Nat)(l:Bytes)(ro':List Ent)(hro:∀ e ∈ sp.ro,e=eB j l∨e ∈ ro')
   (hi:vs[i]?=some (.o j l.length)) (hl:fs[i]?=some (.b l)) (hk:(sp.pre++ro').all (fun e=>!memB e.key [j])=true):Spec P ⟨sp.f,sp.nx,sp.args,eRg K vs fs::ro',sp.pre,sp.v,sp.post⟩:=by
 refine hs.vw K vs (regC fs) [eB j l] ro' (fun e he=>(hro e he).elim (fun h=>.inl (h ▸ List.mem_singleton_self _)) .inr) (fun κ h=>?_) hk
 have h1:=reg_inB hi hl h
 refine ⟨fun k=>if k=j then ⟨(κ j).n,(κ j).a,rSB (.slice (κ j).a l.length (κ j).n) l⟩ else κ k,fun k _=>?_,fun e he=>?_⟩
 · by_cases hk:k=j
   · subst hk
     simp only [if_true]
     exact ⟨trivial,trivial,fun h=>absurd (List.mem_singleton_self _) h⟩
   simp only [if_neg hk]
   exact ⟨trivial,trivial,fun _=>trivial⟩
 rw [List.mem_singleton.1 he]
 refine ⟨?_,?_⟩
 · show sbC l _;simp [sbC]
 show InV (κ K) (ite (j=j) _ _:Kv).r
 rw [if_pos rfl];exact h1
theorem dRead_s{L:Bytes}{v:DVal}(hr:RdB L=.inr v):Spec Tryz.prog ⟨74,1,[.o 0 L.length],[eB 0 L],[],.t [cDV v 1 2,aI 0],[eRg 3 [cDV v 1 2] [.d v]]⟩:=by
 refine ⟨fun κ w h=>?_⟩
 have hh:HE (fun _=>False) w w κ [eB 0 L] []:=by rw [← foot_nil κ];exact h
 have hv:=sb_ent (j:=0) (l:=L) hh (by simp)
 have hc:=Rd_all L _ w hv
 rw [hr] at hc
 refine hc.mono fun e w' ⟨F,cs,he,hp⟩=>?_
 have hpr:=hp.ha
 have hw:(rDV F cs v).Φ w':=hpr.own _ (by simp)
 obtain ⟨B,d,A,c,e1,hsg,hls,hn⟩:=dv_lst hw
 obtain ⟨κ',k1,k2,k3,k4⟩:∃ κ':Kp,(∀ k,k<1->κ' k=κ k)/\κ' 1=⟨d,B,(κ 0).r⟩/\κ' 2=⟨c,A,(κ 0).r⟩/\(κ' 3).r=rG F [.d v] [.agg cs.toArray]:=
   ⟨upK (upK (upK κ 1 ⟨d,B,(κ 0).r⟩) 2 ⟨c,A,(κ 0).r⟩) 3 ⟨0,none,rG F [.d v] [.agg cs.toArray]⟩,fun k hk=>by rw [upK_ne _ _ (by omega),upK_ne _ _ (by omega),upK_ne _ _ (by omega)],by rw [upK_ne _ _ (by omega),upK_ne _ _ (by omega),upK_at],by rw [upK_ne _ _ (by omega),upK_at],by rw [upK_at]⟩
 have e2:AV.den κ' (cDV v 1 2)=.agg cs.toArray:=by
   simp only [AV.den,AV.denL];rw [k2,k3,e1]
 refine ⟨κ',fun k hk=>by rw [k1 k hk];exact ⟨rfl,rfl⟩,?_,?_⟩
 · rw [he]
   show _=Ending.returned (.tuple (#[AV.den κ' (cDV v 1 2),.int .i64 0]))
   rw [e2]
 show HE (foot κ []) w w' κ' [] [eRg 3 [cDV v 1 2] [.d v]]
 rw [foot_nil]
 refine ⟨?_,fun _ h=>absurd h List.not_mem_nil,fun e he=>?_⟩
 · show HA _ w w' [] [(κ' 3).r]
   rw [k4]
   refine ⟨hpr.fr,fun r hr=>?_,fun r hr q hq=>?_,List.pairwise_singleton _ _,fun _ h=>absurd h List.not_mem_nil,fun _ h=>absurd h List.not_mem_nil⟩
   · rw [List.mem_singleton.1 hr];exact ⟨hw.1,⟨cs,rfl,hw.2⟩,trivial⟩
   rw [List.mem_singleton.1 hr] at hq;exact hpr.mine (rDV F cs v) (by simp) q hq
 rw [List.mem_singleton.1 he]
 show regC [.d v] (κ' 3) [AV.den κ' (cDV v 1 2)]
 exact ⟨F,by rw [k4,e2]⟩
theorem dReadN_s{L:Bytes}{c:Nat}(hr:RdB L=.inl c):Spec Tryz.prog ⟨74,1,[.o 0 L.length],[eB 0 L],[],.t [.c [aI 0,aI 0,.v (.int .u64 0),aN,aN],aI (c:Int)],[]⟩:=
 pu_s (fun _=>rfl) fun κ w hh=>by
   have hc:=Rd_all L _ w (sb_ent (j:=0) (l:=L) hh (by simp))
   rw [hr] at hc
   exact hc
set_option maxRecDepth 100000
set_option maxHeartbeats 4000000
theorem ticketY_s{u:DVal}{T:TkSt}(hu:ptV 1 ts=u)(hT:ptT 1 (ts,bad)=T)(ho:ofF u=some (.ticket s l))(hsm:Sm u.l):Spec Tryz.prog ⟨109,6,[.p 0 0],[],[.blk 0 258 [.p 1 0,aB false],.blk 1 287 [.o 5 ts.length,aB bad],eRg 2 [cDV v 3 4,.o 5 ts.length] [.d v,.l ts]],.c [aS s,.o 9 l.length],
   [.blk 0 258 [.p 1 0,aB false],.blk 1 287 [.o 6 T.1.length,aB T.2],eRg 2 [cDV v 3 4,.o 6 T.1.length,cDV u 7 8,.o 9 l.length] [.d v,.l T.1,.d u,.b l]]⟩:=
 s1 [cA 1004 (tkPart_s (bad:=bad) (i:=1) (vs:=[cDV v 2 3,.o 4 ts.length]) (fs:=[.d v,.l ts]) (x:=.o 4 ts.length) (nx:=5) 1 hu hT rfl rfl rfl rfl (by decide)) [(1,2)],
   cA 1005 (of_s (i:=2) (vs:=[cDV v 1 2,.o 3 T.1.length,cDV u 4 5]) (fs:=[.d v,.l T.1,.d u]) (nx:=6) ho hsm rfl rfl rfl rfl (by decide)) [(0,2)]]
abbrev v17(n:Nat)(b:Bytes)(ts:List DVal):DVal:=.mk 2 17 n b ts
theorem of17Y_s{n:Nat}{b:Bytes}{u:DVal}{T1 T2 T3 T4 T5:TkSt}(h1:nameT (ts,false)=T1)(h2:nameT T1=T2)(h3:numT T2=T3)(hu:ptV 1 T3.1=u)(h4:ptT 1 T3=T4)(h5:bytesT T4=T5)(sm0:Sm ts)(sm1:Sm T1.1)
   (ho:ofF u=some (.ticket s l)) (hsm:Sm u.l) (hd:doneO T5=true) :
   Spec Tryz.prog ⟨75,3,[cDV (v17 n b ts) 1 2],[],[eRg 0 [cDV (v17 n b ts) 1 2] [.d (v17 n b ts)]],.t [.i 102 (.c [aS (nameO (ts,false)),aS (nameO T1),aI (numO T2),aS s,.o 3 l.length,.o 4 (bytesO T4).length]),aB true],
     [eRg 0 [cDV (v17 n b ts) 1 2,.o 5 T5.1.length,cDV u 6 7,.o 3 l.length,.o 4 (bytesO T4).length] [.d (v17 n b ts),.l T5.1,.d u,.b l,.b (bytesO T4)]]⟩:=
 s1 [cA 1001 (take_s (v:=v17 n b ts) (a:=1) (b:=2) (i:=0) (vs:=[cDV (v17 n b ts) 1 2]) (fs:=[.d (v17 n b ts)]) (nx:=3) rfl rfl rfl rfl (by decide)) [(0,0)],
   cA 17004 (tkName_s (bad:=false) (i:=1) (vs:=[cDV (v17 n b ts) 2 3,.o 3 ts.length]) (fs:=[.d (v17 n b ts),.l ts]) (x:=.o 3 ts.length) (nx:=4) h1 sm0 rfl rfl rfl (by decide)) [(1,0)],
   cA 17009 (tkName_s (bad:=T1.2) (i:=1) (vs:=[cDV (v17 n b ts) 2 3,.o 4 T1.1.length]) (fs:=[.d (v17 n b ts),.l T1.1]) (x:=.o 4 T1.1.length) (nx:=5) h2 sm1 rfl rfl rfl (by decide)) [(1,0)],
   cA 17014 (tkNum_s (bad:=T2.2) (i:=1) (vs:=[cDV (v17 n b ts) 2 3,.o 4 T2.1.length]) (fs:=[.d (v17 n b ts),.l T2.1]) (x:=.o 4 T2.1.length) (nx:=5) h3 rfl rfl rfl (by decide)) [(1,0)],
   cA 17016 (ticketY_s (v:=v17 n b ts) (bad:=T3.2) hu h4 ho hsm) [(2,0)],
   cA 17021 (tkBytes_s (bad:=T4.2) (i:=1) (vs:=[cDV (v17 n b ts) 2 3,.o 4 T4.1.length,cDV u 5 6,.o 7 l.length]) (fs:=[.d (v17 n b ts),.l T4.1,.d u,.b l]) (x:=.o 4 T4.1.length) (nx:=8) h5 rfl rfl rfl rfl (by decide)) [(1,0)],
   cA 28018 (tkDone_s (bad:=T5.2) (i:=1) (vs:=[cDV (v17 n b ts) 2 3,.o 4 T5.1.length,cDV u 5 6,.o 7 l.length,.o 8 (bytesO T4).length]) (fs:=[.d (v17 n b ts),.l T5.1,.d u,.b l,.b (bytesO T4)]) (x:=.o 4 T5.1.length) (nx:=9) hd rfl rfl rfl (by decide)) [(1,0)]]
theorem read17_s{L:Bytes}{n:Nat}{b:Bytes}{u:DVal}{T1 T2 T3 T4 T5:TkSt}(hr:RdB L=.inr (v17 n b ts))(h1:nameT (ts,false)=T1)(h2:nameT T1=T2)(h3:numT T2=T3)(hu:ptV 1 T3.1=u)(h4:ptT 1 T3=T4)(h5:bytesT T4=T5)(sm0:Sm ts)(sm1:Sm T1.1)
   (ho:ofF u=some (.ticket s l)) (hsm:Sm u.l) (hd:doneO T5=true) :
   Spec Tryz.prog ⟨44,1,[.o 0 L.length],[eB 0 L],[],.t [.i 102 (.c [aS (nameO (ts,false)),aS (nameO T1),aI (numO T2),aS s,.o 1 l.length,.o 2 (bytesO T4).length]),aI 0],
     [eRg 3 [cDV (v17 n b ts) 4 5,.o 6 T5.1.length,cDV u 7 8,.o 1 l.length,.o 2 (bytesO T4).length] [.d (v17 n b ts),.l T5.1,.d u,.b l,.b (bytesO T4)]]⟩:=
 s1 [cA 1001 (dRead_s hr) [],cA 4001 (of17Y_s (n:=n) (b:=b) h1 h2 h3 hu h4 h5 sm0 sm1 ho hsm hd) [(0,51)]] [] [(3,51)]
end
end
section
open Go.RowKit Go.QT
section
variable{v:DVal}{ts:List DVal}{bad:Bool}{s:ByteArray}{l:Bytes}
set_option maxRecDepth 100000
set_option maxHeartbeats 4000000
theorem ticketN_s{u:DVal}{T:TkSt}(hu:ptV 1 ts=u)(hT:ptT 1 (ts,bad)=T)(ho:ofF u=none)(hsm:Sm u.l):Spec Tryz.prog ⟨109,6,[.p 0 0],[],[.blk 0 258 [.p 1 0,aB false],.blk 1 287 [.o 5 ts.length,aB bad],eRg 2 [cDV v 3 4,.o 5 ts.length] [.d v,.l ts]],.c [aS ByteArray.empty,aN],
   [.blk 0 258 [.p 1 0,aB true],.blk 1 287 [.o 6 T.1.length,aB T.2],eRg 2 [cDV v 3 4,.o 6 T.1.length,cDV u 7 8] [.d v,.l T.1,.d u]]⟩:=
 s1 [cA 1004 (tkPart_s (bad:=bad) (i:=1) (vs:=[cDV v 2 3,.o 4 ts.length]) (fs:=[.d v,.l ts]) (x:=.o 4 ts.length) (nx:=5) 1 hu hT rfl rfl rfl rfl (by decide)) [(1,2)],
   cA 1005 (ofN_s (i:=2) (nx:=6) (vs:=[cDV v 1 2,.o 3 T.1.length,cDV u 4 5]) (fs:=[.d v,.l T.1,.d u]) ho hsm rfl rfl) [(0,2)]]
abbrev v18(n:Nat)(b:Bytes)(ts:List DVal):DVal:=.mk 2 18 n b ts
theorem of18Y_s{n:Nat}{b:Bytes}{T1 T2 T3 T5:TkSt}(h1:nameT (ts,false)=T1)(h2:nameT T1=T2)(h3:numT T2=T3)(h5:bytesT T3=T5)(sm0:Sm ts)(sm1:Sm T1.1)(hd:doneO T5=true) :
   Spec Tryz.prog ⟨75,3,[cDV (v18 n b ts) 1 2],[],[eRg 0 [cDV (v18 n b ts) 1 2] [.d (v18 n b ts)]],.t [.i 115 (.c [aS (nameO (ts,false)),aS (nameO T1),aI (numO T2),.o 3 (bytesO T3).length]),aB true],
     [eRg 0 [cDV (v18 n b ts) 1 2,.o 5 T5.1.length,.o 3 (bytesO T3).length] [.d (v18 n b ts),.l T5.1,.b (bytesO T3)]]⟩:=
 s1 [cA 1001 (take_s (v:=v18 n b ts) (a:=1) (b:=2) (i:=0) (vs:=[cDV (v18 n b ts) 1 2]) (fs:=[.d (v18 n b ts)]) (nx:=3) rfl rfl rfl rfl (by decide)) [(0,0)],
   cA 19004 (tkName_s (bad:=false) (i:=1) (vs:=[cDV (v18 n b ts) 2 3,.o 3 ts.length]) (fs:=[.d (v18 n b ts),.l ts]) (x:=.o 3 ts.length) (nx:=4) h1 sm0 rfl rfl rfl (by decide)) [(1,0)],
   cA 19009 (tkName_s (bad:=T1.2) (i:=1) (vs:=[cDV (v18 n b ts) 2 3,.o 4 T1.1.length]) (fs:=[.d (v18 n b ts),.l T1.1]) (x:=.o 4 T1.1.length) (nx:=5) h2 sm1 rfl rfl rfl (by decide)) [(1,0)],
   cA 19014 (tkNum_s (bad:=T2.2) (i:=1) (vs:=[cDV (v18 n b ts) 2 3,.o 4 T2.1.length]) (fs:=[.d (v18 n b ts),.l T2.1]) (x:=.o 4 T2.1.length) (nx:=5) h3 rfl rfl rfl (by decide)) [(1,0)],
   cA 19019 (tkBytes_s (bad:=T3.2) (i:=1) (vs:=[cDV (v18 n b ts) 2 3,.o 4 T3.1.length]) (fs:=[.d (v18 n b ts),.l T3.1]) (x:=.o 4 T3.1.length) (nx:=5) h5 rfl rfl rfl rfl (by decide)) [(1,0)],
   cA 28018 (tkDone_s (bad:=T5.2) (i:=1) (vs:=[cDV (v18 n b ts) 2 3,.o 4 T5.1.length,.o 5 (bytesO T3).length]) (fs:=[.d (v18 n b ts),.l T5.1,.b (bytesO T3)]) (x:=.o 4 T5.1.length) (nx:=6) hd rfl rfl rfl (by decide)) [(1,0)]]
theorem read18_s{L:Bytes}{n:Nat}{b:Bytes}{T1 T2 T3 T5:TkSt}(hr:RdB L=.inr (v18 n b ts))(h1:nameT (ts,false)=T1)(h2:nameT T1=T2)(h3:numT T2=T3)(h5:bytesT T3=T5)(sm0:Sm ts)(sm1:Sm T1.1)(hd:doneO T5=true) :
   Spec Tryz.prog ⟨44,1,[.o 0 L.length],[eB 0 L],[],.t [.i 115 (.c [aS (nameO (ts,false)),aS (nameO T1),aI (numO T2),.o 1 (bytesO T3).length]),aI 0],
     [eRg 3 [cDV (v18 n b ts) 4 5,.o 6 T5.1.length,.o 1 (bytesO T3).length] [.d (v18 n b ts),.l T5.1,.b (bytesO T3)]]⟩:=
 s1 [cA 1001 (dRead_s hr) [],cA 4001 (of18Y_s (n:=n) (b:=b) h1 h2 h3 h5 sm0 sm1 hd) [(0,51)]] [] [(3,51)]
theorem readE_s{L:Bytes}{c:Nat}(hr:RdB L=.inl c)(hc:c≠0):Spec Tryz.prog ⟨44,1,[.o 0 L.length],[eB 0 L],[],.t [.v .nilIface,aI (c:Int)],[]⟩:=
 s1 [cA 1001 (dReadN_s hr) [],fA 2001 (ine (b:=0) hc)]
end
end
section
open Go.RowKit Go.QT
section
variable{v:DVal}{ts:List DVal}{bad:Bool}{s:ByteArray}{l:Bytes}
set_option maxRecDepth 100000
set_option maxHeartbeats 4000000
/-- What stands for the ticket is none. -/
theorem of17T_s{n:Nat}{b:Bytes}{u:DVal}{T1 T2 T3 T4 T5:TkSt}(h1:nameT (ts,false)=T1)(h2:nameT T1=T2)(h3:numT T2=T3)(hu:ptV 1 T3.1=u)(h4:ptT 1 T3=T4)(h5:bytesT T4=T5)(sm0:Sm ts)(sm1:Sm T1.1)
   (ho:ofF u=none) (hsm:Sm u.l) :
   Spec Tryz.prog ⟨75,3,[cDV (v17 n b ts) 1 2],[],[eRg 0 [cDV (v17 n b ts) 1 2] [.d (v17 n b ts)]],.t [.v .nilIface,aB false],[]⟩:=
 s1 [cA 1001 (take_s (v:=v17 n b ts) (a:=1) (b:=2) (i:=0) (vs:=[cDV (v17 n b ts) 1 2]) (fs:=[.d (v17 n b ts)]) (nx:=3) rfl rfl rfl rfl (by decide)) [(0,0)],
   cA 17004 (tkName_s (bad:=false) (i:=1) (vs:=[cDV (v17 n b ts) 2 3,.o 3 ts.length]) (fs:=[.d (v17 n b ts),.l ts]) (x:=.o 3 ts.length) (nx:=4) h1 sm0 rfl rfl rfl (by decide)) [(1,0)],
   cA 17009 (tkName_s (bad:=T1.2) (i:=1) (vs:=[cDV (v17 n b ts) 2 3,.o 4 T1.1.length]) (fs:=[.d (v17 n b ts),.l T1.1]) (x:=.o 4 T1.1.length) (nx:=5) h2 sm1 rfl rfl rfl (by decide)) [(1,0)],
   cA 17014 (tkNum_s (bad:=T2.2) (i:=1) (vs:=[cDV (v17 n b ts) 2 3,.o 4 T2.1.length]) (fs:=[.d (v17 n b ts),.l T2.1]) (x:=.o 4 T2.1.length) (nx:=5) h3 rfl rfl rfl (by decide)) [(1,0)],
   cA 17016 (ticketN_s (v:=v17 n b ts) (bad:=T3.2) hu h4 ho hsm) [(2,0)],
   cA 17021 (tkBytes_s (bad:=T4.2) (i:=1) (vs:=[cDV (v17 n b ts) 2 3,.o 4 T4.1.length,cDV u 5 6]) (fs:=[.d (v17 n b ts),.l T4.1,.d u]) (x:=.o 4 T4.1.length) (nx:=7) h5 rfl rfl rfl rfl (by decide)) [(1,0)]]
/-- It has not taken all, or some of it is bad. -/
theorem of17D_s{n:Nat}{b:Bytes}{u:DVal}{T1 T2 T3 T4 T5:TkSt}(h1:nameT (ts,false)=T1)(h2:nameT T1=T2)(h3:numT T2=T3)(hu:ptV 1 T3.1=u)(h4:ptT 1 T3=T4)(h5:bytesT T4=T5)(sm0:Sm ts)(sm1:Sm T1.1)
   (ho:ofF u=some (.ticket s l)) (hsm:Sm u.l) (hd:doneO T5=false) :
   Spec Tryz.prog ⟨75,3,[cDV (v17 n b ts) 1 2],[],[eRg 0 [cDV (v17 n b ts) 1 2] [.d (v17 n b ts)]],.t [.v .nilIface,aB false],[]⟩:=
 s1 [cA 1001 (take_s (v:=v17 n b ts) (a:=1) (b:=2) (i:=0) (vs:=[cDV (v17 n b ts) 1 2]) (fs:=[.d (v17 n b ts)]) (nx:=3) rfl rfl rfl rfl (by decide)) [(0,0)],
   cA 17004 (tkName_s (bad:=false) (i:=1) (vs:=[cDV (v17 n b ts) 2 3,.o 3 ts.length]) (fs:=[.d (v17 n b ts),.l ts]) (x:=.o 3 ts.length) (nx:=4) h1 sm0 rfl rfl rfl (by decide)) [(1,0)],
   cA 17009 (tkName_s (bad:=T1.2) (i:=1) (vs:=[cDV (v17 n b ts) 2 3,.o 4 T1.1.length]) (fs:=[.d (v17 n b ts),.l T1.1]) (x:=.o 4 T1.1.length) (nx:=5) h2 sm1 rfl rfl rfl (by decide)) [(1,0)],
   cA 17014 (tkNum_s (bad:=T2.2) (i:=1) (vs:=[cDV (v17 n b ts) 2 3,.o 4 T2.1.length]) (fs:=[.d (v17 n b ts),.l T2.1]) (x:=.o 4 T2.1.length) (nx:=5) h3 rfl rfl rfl (by decide)) [(1,0)],
   cA 17016 (ticketY_s (v:=v17 n b ts) (bad:=T3.2) hu h4 ho hsm) [(2,0)],
   cA 17021 (tkBytes_s (bad:=T4.2) (i:=1) (vs:=[cDV (v17 n b ts) 2 3,.o 4 T4.1.length,cDV u 5 6,.o 7 l.length]) (fs:=[.d (v17 n b ts),.l T4.1,.d u,.b l]) (x:=.o 4 T4.1.length) (nx:=8) h5 rfl rfl rfl rfl (by decide)) [(1,0)],
   cA 28018 (tkDone_s (bad:=T5.2) (i:=1) (vs:=[cDV (v17 n b ts) 2 3,.o 4 T5.1.length,cDV u 5 6,.o 7 l.length,.o 8 (bytesO T4).length]) (fs:=[.d (v17 n b ts),.l T5.1,.d u,.b l,.b (bytesO T4)]) (x:=.o 4 T5.1.length) (nx:=9) hd rfl rfl rfl (by decide)) [(1,0)]]
theorem readT_s{L:Bytes}{n:Nat}{b:Bytes}{u:DVal}{T1 T2 T3 T4 T5:TkSt}(hr:RdB L=.inr (v17 n b ts))(h1:nameT (ts,false)=T1)(h2:nameT T1=T2)(h3:numT T2=T3)(hu:ptV 1 T3.1=u)(h4:ptT 1 T3=T4)(h5:bytesT T4=T5)(sm0:Sm ts)(sm1:Sm T1.1)
   (ho:ofF u=none) (hsm:Sm u.l):Spec Tryz.prog ⟨44,1,[.o 0 L.length],[eB 0 L],[],.t [.v .nilIface,aI 4],[]⟩:=
 s1 [cA 1001 (dRead_s hr) [],cA 4001 (of17T_s (n:=n) (b:=b) h1 h2 h3 hu h4 h5 sm0 sm1 ho hsm) [(0,51)]]
theorem readD_s{L:Bytes}{n:Nat}{b:Bytes}{u:DVal}{T1 T2 T3 T4 T5:TkSt}(hr:RdB L=.inr (v17 n b ts))(h1:nameT (ts,false)=T1)(h2:nameT T1=T2)(h3:numT T2=T3)(hu:ptV 1 T3.1=u)(h4:ptT 1 T3=T4)(h5:bytesT T4=T5)(sm0:Sm ts)(sm1:Sm T1.1)
   (ho:ofF u=some (.ticket s l)) (hsm:Sm u.l) (hd:doneO T5=false):Spec Tryz.prog ⟨44,1,[.o 0 L.length],[eB 0 L],[],.t [.v .nilIface,aI 4],[]⟩:=
 s1 [cA 1001 (dRead_s hr) [],cA 4001 (of17D_s (n:=n) (b:=b) h1 h2 h3 hu h4 h5 sm0 sm1 ho hsm hd) [(0,51)]]
theorem of18D_s{n:Nat}{b:Bytes}{T1 T2 T3 T5:TkSt}(h1:nameT (ts,false)=T1)(h2:nameT T1=T2)(h3:numT T2=T3)(h5:bytesT T3=T5)(sm0:Sm ts)(sm1:Sm T1.1)(hd:doneO T5=false) :
   Spec Tryz.prog ⟨75,3,[cDV (v18 n b ts) 1 2],[],[eRg 0 [cDV (v18 n b ts) 1 2] [.d (v18 n b ts)]],.t [.v .nilIface,aB false],[]⟩:=
 s1 [cA 1001 (take_s (v:=v18 n b ts) (a:=1) (b:=2) (i:=0) (vs:=[cDV (v18 n b ts) 1 2]) (fs:=[.d (v18 n b ts)]) (nx:=3) rfl rfl rfl rfl (by decide)) [(0,0)],
   cA 19004 (tkName_s (bad:=false) (i:=1) (vs:=[cDV (v18 n b ts) 2 3,.o 3 ts.length]) (fs:=[.d (v18 n b ts),.l ts]) (x:=.o 3 ts.length) (nx:=4) h1 sm0 rfl rfl rfl (by decide)) [(1,0)],
   cA 19009 (tkName_s (bad:=T1.2) (i:=1) (vs:=[cDV (v18 n b ts) 2 3,.o 4 T1.1.length]) (fs:=[.d (v18 n b ts),.l T1.1]) (x:=.o 4 T1.1.length) (nx:=5) h2 sm1 rfl rfl rfl (by decide)) [(1,0)],
   cA 19014 (tkNum_s (bad:=T2.2) (i:=1) (vs:=[cDV (v18 n b ts) 2 3,.o 4 T2.1.length]) (fs:=[.d (v18 n b ts),.l T2.1]) (x:=.o 4 T2.1.length) (nx:=5) h3 rfl rfl rfl (by decide)) [(1,0)],
   cA 19019 (tkBytes_s (bad:=T3.2) (i:=1) (vs:=[cDV (v18 n b ts) 2 3,.o 4 T3.1.length]) (fs:=[.d (v18 n b ts),.l T3.1]) (x:=.o 4 T3.1.length) (nx:=5) h5 rfl rfl rfl rfl (by decide)) [(1,0)],
   cA 28018 (tkDone_s (bad:=T5.2) (i:=1) (vs:=[cDV (v18 n b ts) 2 3,.o 4 T5.1.length,.o 5 (bytesO T3).length]) (fs:=[.d (v18 n b ts),.l T5.1,.b (bytesO T3)]) (x:=.o 4 T5.1.length) (nx:=6) hd rfl rfl rfl (by decide)) [(1,0)]]
theorem read18D_s{L:Bytes}{n:Nat}{b:Bytes}{T1 T2 T3 T5:TkSt}(hr:RdB L=.inr (v18 n b ts))(h1:nameT (ts,false)=T1)(h2:nameT T1=T2)(h3:numT T2=T3)(h5:bytesT T3=T5)(sm0:Sm ts)(sm1:Sm T1.1)(hd:doneO T5=false) :
   Spec Tryz.prog ⟨44,1,[.o 0 L.length],[eB 0 L],[],.t [.v .nilIface,aI 4],[]⟩:=
 s1 [cA 1001 (dRead_s hr) [],cA 4001 (of18D_s (n:=n) (b:=b) h1 h2 h3 h5 sm0 sm1 hd) [(0,51)]]
end
end
section
open Go.RowKit Go.QT
theorem strip_pad(B:Bytes)(hB:B≠[]):∀ k,stripZ (List.replicate k 0++B)=stripZ B
 | 0=>by rw [List.replicate_zero,List.nil_append]
 | k+1=>by
   have h:=strip_pad B hB k
   rw [List.replicate_succ,List.cons_append]
   cases hc:List.replicate k 0++B with
   | nil=>exact absurd (List.append_eq_nil_iff.1 hc).2 hB
   | cons b r=>rw [stripZ,if_pos rfl,← hc,h]
theorem getN_pad(B:Bytes):∀ k,getN (List.replicate k 0++B)=getN B
 | 0=>by rw [List.replicate_zero,List.nil_append]
 | k+1=>by rw [List.replicate_succ,List.cons_append,getN_zero,getN_pad B k]
theorem short_getN(B:Bytes)(h0:B.length≠0)(h8:B.length<=8)(hz:1<B.length->gb B 0≠0):shortB (getN B)=B:=by
 have hB:B≠[]:=fun e=>h0 (by rw [e];rfl)
 have h1:=put8_getN (List.replicate (8-B.length) 0++B) (by rw [List.length_append,List.length_replicate];omega)
 rw [getN_pad] at h1
 unfold shortB
 rw [h1,strip_pad B hB]
 exact stripZ_end B fun ⟨h2,h3⟩=>hz h2 h3
theorem getN_two(S:Bytes)(h:S.length=2)(h0:gb S 0=0):getN S<256:=by
 match S,h with
 | [a,b],_ =>
   have:a=0:=h0
   subst this
   rw [getN_zero,getN_cons]
   have:=nb_lt b
   show nb b*256 ^ 0+getN []<256
   have e:getN []=0:=rfl
   omega
theorem head_of{a:UInt8}:UInt8.ofNat (nb a / 64*64+nb a % 64)=a:=ofNat_eq _ a (by have:=nb_lt a;omega)
theorem szB_is{L:Bytes}(h:(szB L).1=0):headB (nb (gb L 0) / 64) (nb (gb L 0) % 64) (szB L).2.1=L.take (szB L).2.2:=by
 unfold szB at h ⊢
 split at h
 · cases h
 rename_i h1
 rw [if_neg h1]
 obtain ⟨a,b,r,rfl⟩:∃ a b r,L=a::b::r:=by
   match L,h1 with
   | a::b::r,_=>exact ⟨a,b,r,rfl⟩
   | [a],h1=>exact absurd (by simp) h1
   | [],h1=>exact absurd (by simp) h1
 have g0:gb (a::b::r) 0=a:=rfl
 have g1:gb (a::b::r) 1=b:=rfl
 have e2:∀ n,((a::b::r).take (2+n)).drop 2=r.take n:=by
   intro n
   rw [Nat.add_comm 2 n];rfl
 have e3:∀ n,(a::b::r).take (2+n)=a::b::r.take n:=by
   intro n;rw [Nat.add_comm 2 n];rfl
 rw [g1,e2] at h
 rw [g0,g1,e2]
 split at h
 · rename_i h2
   rw [if_pos h2]
   split at h
   · rename_i h3
     rw [if_pos h3,headB_lo _ _ _ h2,head_of,ofNat_eq (nb b) b (by have:=nb_lt b;omega)]
     rfl
   cases h
 rename_i h2
 rw [if_neg h2]
 split at h
 · cases h
 rename_i h3
 rw [if_neg h3]
 split at h
 · cases h
 rename_i h4
 rw [if_neg h4]
 split at h
 · cases h
 rename_i h5
 rw [if_neg h5]
 split at h
 · rename_i h6
   rw [if_pos h6]
   simp only
   have hb:=nb_lt b
   have hl:(r.take (nb b-128)).length=nb b-128:=by rw [List.length_take];simp only [List.length_cons] at h4;omega
   have hs:shortB (getN (r.take (nb b-128)))=r.take (nb b-128):=by
     refine short_getN _ (by omega) (by omega) fun h7 h8=>?_
     have h9:(r.take (nb b-128)).length=2:=by omega
     have:=getN_two _ h9 h8
     exact h5 (.inr ⟨by omega,this⟩)
   rw [headB_hi _ _ _ (by omega),hs,hl,head_of,ofNat_eq (128+(nb b-128)) b (by omega),e3]
   simp only [List.cons_append,List.nil_append]
 cases h
theorem lsB_is{rd:Bytes->Nat ⊕ (DVal × Nat)}(hr:∀ l v k,rd l=.inr (v,k)->wrV v=l.take k/\2<=k/\k<=l.length):∀ (f:Nat) (l:Bytes) (ts:List DVal),l.length<=f->lsB rd f l=.inr ts->wrL ts=l
 | 0,l,ts,hl,h=>by
   injection h with h;subst h
   rw [List.length_eq_zero_iff.1 (by omega:l.length=0)];rfl
 | f+1,l,ts,hl,h=>by
   rw [lsB] at h
   split at h
   · rename_i h0
     injection h with h;subst h
     rw [List.length_eq_zero_iff.1 h0];rfl
   split at h
   · cases h
   rename_i v k hv
   split at h
   · cases h
   rename_i r hq
   injection h with h;subst h
   obtain ⟨h1,h2,h3⟩:=hr l v k hv
   have h4:=lsB_is hr f (l.drop k) r (by rw [List.length_drop];omega) hq
   rw [wrL,h1,h4,List.take_append_drop]
theorem rdB_is:∀ (m:Nat) (L:Bytes) (v:DVal) (k:Nat),rdB m L=.inr (v,k)->wrV v=L.take k
 | 0,_,_,_,h=>by cases h
 | m+1,L,v,k,h=>by
   rw [rdB] at h
   split at h
   · cases h
   rename_i h1
   have h1:(szB L).1=0:=by omega
   split at h
   · cases h
   rename_i h2
   have hd:=szB_is h1
   have hok:=szB_ok h1
   have hk:=ptB_n h
   subst hk
   generalize hB:((L.take ((szB L).2.2+(szB L).2.1)).drop (szB L).2.2)=B at h
   have hBl:B.length=(szB L).2.1:=by rw [← hB,List.length_drop,List.length_take];omega
   have hcat:L.take ((szB L).2.2+(szB L).2.1)=L.take (szB L).2.2++B:=by
     have h9:=List.take_append_drop (szB L).2.2 (L.take ((szB L).2.2+(szB L).2.1))
     rw [hB,List.take_take,Nat.min_eq_left (Nat.le_add_right _ _)] at h9
     exact h9.symm
   rw [hcat,← hd,← hBl]
   unfold ptB at h
   split at h
   · rename_i hk0
     split at h
     · cases h
     rename_i hn
     injection h with h;injection h with h _;subst h
     rw [wrV,if_pos rfl,short_getN B (by omega) (by omega) (fun h3 h4=>hn (.inr (.inr ⟨h3,h4⟩))),hk0]
   split at h
   · rename_i _ hk1
     injection h with h;injection h with h _;subst h
     rw [wrV,if_neg (by decide),if_pos rfl,hk1]
   rename_i hk0 hk1
   split at h
   · cases h
   rename_i ts hts
   injection h with h;injection h with h _;subst h
   have hw:=lsB_is (fun l v k hv=>⟨rdB_is m l v k hv,rdB_n hv⟩) _ _ _ (Nat.le_refl _) hts
   rw [wrV,if_neg (by decide),if_neg (by decide),hw,show nb (gb L 0) / 64=2 by omega]
/-- What is read is written so. -/
theorem RdB_is{L:Bytes}{v:DVal}(h:RdB L=.inr v):wrV v=L/\L.length<=4096:=by
 unfold RdB at h
 split at h
 · cases h
 rename_i h1
 split at h
 · cases h
 rename_i v' n hr
 split at h
 · cases h
 injection h with h;subst h
 rw [rdB_is _ _ _ _ hr,List.take_of_length_le (by omega)]
 exact ⟨rfl,by omega⟩
/-- Its kind and tag stand in the first byte. -/
theorem rdB_kt{m:Nat}{L:Bytes}{v:DVal}{k:Nat}(h:rdB m L=.inr (v,k)):nb (gb L 0) / 64=v.kind/\nb (gb L 0) % 64=v.tag:=by
 cases m with
 | zero=>cases h
 | succ m =>
   rw [rdB] at h
   split at h
   · cases h
   split at h
   · cases h
   rename_i h2
   unfold ptB at h
   split at h
   · rename_i h3
     split at h
     · cases h
     injection h with h;injection h with h _;subst h;exact ⟨h3,rfl⟩
   split at h
   · rename_i _ h3;injection h with h;injection h with h _;subst h;exact ⟨h3,rfl⟩
   split at h
   · cases h
   rename_i h3 h4 _ _ _;injection h with h;injection h with h _;subst h;exact ⟨show _=2 by omega,rfl⟩
theorem RdB_kt{L:Bytes}{v:DVal}(h:RdB L=.inr v):nb (gb L 0) / 64=v.kind/\nb (gb L 0) % 64=v.tag:=by
 unfold RdB at h
 split at h
 · cases h
 split at h
 · cases h
 rename_i v' n hr
 split at h
 · cases h
 injection h with h;subst h
 exact rdB_kt hr
end
section
open Go.RowKit Go.QT
section
variable{P:Program}{F0:Nat->Prop}{w0 w w':World}{ro rs:List Res}{mb:Nat}{d:TypeDesc}{ents:List (Value × Value)}{o:Oper}{a:Act}{k:Value}{T Tk Te:TypeId}
end
section
variable{P:Program}{o:Oper}{ev:Operand->AV}{ro H:List Ent}{b:Nat}
end
end
section
open Go.RowKit Go.QT
theorem box_inv{s:STab}{k:Bytes}{sl:SSealed}(h:s.box k=some sl):∃ i,s.boxes[i]?=some sl/\k=mkB 98 (i+1):=by
 unfold STab.box at h
 split at h
 · rename_i kk n hm
   split at h
   · rename_i hc
     obtain ⟨rfl,hn⟩:=hc
     exact ⟨n-1,h,by rw [show n-1+1=n from by omega];exact (markOf_spec hm).2.2.2⟩
   cases h
 cases h
end
section
open Go.ChangeShapes Go.WideShapes Go.ChangeAt Go.RowKit
set_option maxRecDepth 100000
variable{H:Type}{enc:TypeId × Value->H}{w:World}{base:Nat}{spare:Nat->Bool}{held:Bool}
theorem c22:Tryz.prog.cellsOf 40=16:=by kernel_rfl
theorem c5:Tryz.prog.cellsOf 5=1:=by kernel_rfl
end
section
open Go.ChangeShapes Go.WideShapes Go.ChangeAt Go.RowKit
theorem Tryz.own:ownKnob Tryz.prog.godebug=none:=by kernel_rfl
theorem Tryz.laidOut:laidOutB Tryz.prog=true:=by kernel_rfl
section
variable{H:Type}{enc:TypeId × Value->H}{P:Program}
theorem trodAll_stays{W W':World}{sp':Nat->Bool}(hl:laidOutB P=true):∀ (ts:List TypeId) (vs:List Value) (ds:List (DataW H)) (ps:List MemPlace),
   (ts.all fun t=>P.readableRec t && decide (t<P.types.size))=true->DataW.TrodAll enc P W 0 (fun _=>true) true ts vs ds ps ->
   (∀ p ∈ ps,W.sameAt W' p)->(∀ p ∈ ps,sp' p.block=true)->DataW.TrodAll enc P W' 0 sp' true ts vs ds ps
 | [],_,_,_,_,h,_,_=>by
   obtain ⟨rfl,rfl,rfl⟩:=trodAll_nil h
   exact rfl
 | t::ts,_,_,_,ht,h,hs,hsp=>by
   obtain ⟨v,vs,d,ds,a,b,rfl,rfl,rfl,h1,h2⟩:=trodAll_cons h
   rw [List.all_cons,Bool.and_eq_true,Bool.and_eq_true,decide_eq_true_eq] at ht
   exact ⟨a,b,WideElems.Trod_stays hl ht.1.1 ht.1.2 h1 (fun p hp=>hs p (by simp [hp])) (fun p hp=>hsp p (by simp [hp])),
     trodAll_stays hl ts vs ds b ht.2 h2 (fun p hp=>hs p (by simp [hp])) (fun p hp=>hsp p (by simp [hp])),rfl⟩
theorem post_of_below{f:Func}{s:ChangeSpec}{apart fresh handsOn again:Bool}{W W':World}{args:Array Value}{v:Value}{ds gs:List (DataW H)}{before pa pv:List MemPlace}
   (hW:DataW.Whole enc P f.params.toList s.vars apart W args.toList ds gs before)
   (hres:∀ (b:Nat) (sp:Nat->Bool) (hd:Bool),DataW.TrodAll enc P W' b sp hd f.resultTypes.toList (v.resultList f.resultTypes.size) (s.fn H (ds++gs)).results [])
   (hargs:∀ sp:Nat->Bool,(∀ p ∈ before,sp p.block=true)->DataW.TrodAll enc P W' 0 sp true f.params.toList args.toList (s.fn H (ds++gs)).args pa)
   (hvars:∀ sp:Nat->Bool,(∀ p ∈ before,sp p.block=true)->DataW.TrodVars enc P W' sp s.vars (s.fn H (ds++gs)).vars pv)
   (hps:before=pa++pv) (hb:Below W.heap.size W W')
   (hok:∀ (j:Nat) (t:TypeId) (r:Value),f.resultTypes[j]?=some t->(v.resultList f.resultTypes.size)[j]?=some r->Value.okWide P W' .any 0 t r) :
   s.post enc P f apart fresh handsOn again W args v W':=by
 have hlt:∀ p ∈ before,p.block<W.heap.size:=fun p hp=>hW.lt p hp
 have hold:∀ p ∈ before,(fun b=>decide (b<W.heap.size)) p.block=true:=fun p hp=>by simpa using hlt p hp
 refine ⟨ds,gs,before,[],pa,pv,hW,hres _ _ _,hargs _ hold,hvars _ hold,World.keptBut_mono (fun p hp=>⟨hp,?_⟩) (hb.frame (· ∈ before)),fun _=>?_⟩
 · rw [hps,List.mem_append] at hp
   exact Or.inr hp
 obtain ⟨_,_,_,_,_,hz,hn⟩:=hW
 refine ⟨hok,_,_,([]++pa)++pv,⟨[]++pa,pv,trodAll_append (hargs _ (fun _ _=>rfl)) (hres _ _ _),hvars _ (fun _ _=>rfl),rfl,?_,?_⟩,?_⟩
 · intro b off hp
   have hin:MemPlace.cell b off ∈ before:=by rw [hps];simpa using hp
   rw [hb.frozen (hlt _ hin)]
   exact hz b off hin
 · intro ha
   have:=hn ha
   rw [hps] at this
   simpa using this
 intro p hp _
 rw [hps]
 simpa using hp
/-- A law's post: it returned true, and what was there is as it was. -/
theorem law_post{f:Func}{s:ChangeSpec}{apart fresh handsOn again:Bool}{W W':World}{args:Array Value}{ds gs:List (DataW H)}{before:List MemPlace}{tb:TypeId}
   (hl:laidOutB P=true) (hts:(f.params.toList.all fun t=>P.readableRec t && decide (t<P.types.size))=true) (htb:P.underlying tb=some .bool) (hr:f.resultTypes=#[tb]) (hv:s.vars=[])
   (hfn:∀ ds:List (DataW H),ds.length=f.params.size->s.fn H ds=⟨[.lit (.bool true)],ds,[]⟩)
   (hW:DataW.Whole enc P f.params.toList s.vars apart W args.toList ds gs before) (hb:Below W.heap.size W W') :
   s.post enc P f apart fresh handsOn again W args (.bool true) W':=by
 have hW':=hW
 have hlt:∀ p ∈ before,p.block<W.heap.size:=fun p hp=>hW.lt p hp
 obtain ⟨p,q,hA,hV,rfl,hfz,hnd⟩:=hW
 rw [hv] at hV
 obtain ⟨rfl,rfl⟩:=trodVars_none hV
 have hlen:ds.length=f.params.size:=by
   have:∀ (ts:List TypeId) (vs:List Value) (ds:List (DataW H)) (p:List MemPlace),DataW.TrodAll enc P W 0 (fun _=>true) true ts vs ds p->ds.length=ts.length:=by
     intro ts
     induction ts with
     | nil=>intro vs ds p h;obtain ⟨rfl,rfl,rfl⟩:=trodAll_nil h;rfl
     | cons t ts ih =>
       intro vs ds p h
       obtain ⟨v,vs,d,ds,a,b,rfl,rfl,rfl,h1,h2⟩:=trodAll_cons h
       simp [ih _ _ _ h2]
   simpa using this _ _ _ _ hA
 simp only [List.append_nil] at hW' hlt
 have hds:s.fn H (ds++[])=⟨[.lit (.bool true)],ds,[]⟩:=by rw [List.append_nil];exact hfn ds hlen
 refine post_of_below (pa:=p) (pv:=[]) (gs:=[]) hW' ?_ ?_ ?_ (by simp) hb ?_
 · intro b sp hd
   rw [hds,hr]
   exact trodAll_mk1 (shut_bool htb true)
 · intro sp hsp
   rw [hds]
   exact trodAll_stays hl _ _ _ _ hts hA (fun x hx=>hb.same (hlt x hx)) hsp
 · intro sp _
   rw [hds,hv]
   exact rfl
 exact ok_one hr rfl (okWide_bool_mk htb true)
end
section
variable{H:Type}{enc:TypeId × Value->H}{w:World}{base:Nat}
end
end
section
open Go.ChangeShapes
variable{H:Type}{enc:TypeId × Value->H}{P:Program}{w:World}{base:Nat}{spare:Nat->Bool}{held:Bool}
end
end Go.Proofs.YtaoijkhndakppaaGreat
