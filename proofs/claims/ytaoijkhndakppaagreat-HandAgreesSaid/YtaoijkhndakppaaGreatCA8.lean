/- The walks of tick: key,right. -/
import Derived.Lib.RuneCount
import Derived.Test.YtaoijkhndakppaaGreatCA7
set_option maxRecDepth 100000
set_option maxHeartbeats 4000000
namespace Go.Proofs.YtaoijkhndakppaaGreat
section
open Go.RowKit Go.QT
theorem nletter_any(c:Int)(w:World):Calls Tryz.prog 135 #[.int .i32 c] w fun e w'=>e=.returned (.bool (letterN c))/\Below w.heap.size w w':=by
 have h0:=Hp.nil (fun _=>False) w
 refine mE 12 ?_
 refine mT (x_bs h0 296 ([(Value.int .i32 97),(Value.int .i32 122),(Value.int .i32 224),(Value.int .i32 246),(Value.int .i32 248),(Value.int .i32 254),(Value.int .i32 945),(Value.int .i32 961),(Value.int .i32 963),(Value.int .i32 969),(Value.int .i32 1072),(Value.int .i32 1103)]) 6 (by kernel_rfl)) ?_
 rintro _ w3 ⟨g3,rfl,h3⟩
 refine mT (x_nin h3 0 rfl c ltrL 6 rfl rfl (by decide) (by kernel_rfl)) ?_
 rintro _ w4 ⟨rfl,h4⟩
 exact mQ h4
theorem x_nletter{F0:Nat->Prop}{w0 w:World}{ro rs:List Res}{o:Oper}{a:Act}(h:Hp F0 w0 w ro rs)(c:Int)(hp:pureVal Tryz.prog (execOp a.eval o)=some (.enter 135 #[.int .i32 c])) :
   OpTo Tryz.prog o a w (fun u w'=>u=.bool (letterN c)/\Hp F0 w0 w' ro rs):=
 OpTo.enter 135 [.int .i32 c] hp (nletter_any c w) fun _e _w' hq=>⟨_,hq.1,rfl,h.below hq.2⟩
end
section
open Go.RowKit Go.QT
def badN(i:Nat)(c:Int):Bool:=!letterN c && (decide (i=0) || !inR c digL)
/-- How many runes from pos on; none: one of them is wrong. (f: steps left.) -/
def runesN(s:ByteArray):Nat->Nat->Nat->Option Nat
 | 0,_,n=>some n
 | f+1,pos,n=>if pos<s.size then if badN pos (Utf8.decode s pos).1 then none else runesN s f (pos+(Utf8.decode s pos).2) (n+1) else some n
def rightN(s:ByteArray):Bool:=match runesN s (s.size+1) 0 0 with|none=>false|some n=>decide (1<=n) && decide (n<=16)
theorem runesN_bad{s:ByteArray}{f pos n:Nat}{r:Option Nat}(h:runesN s (f+1) pos n=r)(hp:pos<s.size)(hb:badN pos (Utf8.decode s pos).1=true):r=none:=by
 rw [← h];simp [runesN,hp,hb]
theorem runesN_go{s:ByteArray}{f pos n:Nat}{r:Option Nat}(h:runesN s (f+1) pos n=r)(hp:pos<s.size)(hb:badN pos (Utf8.decode s pos).1=false):runesN s f (pos+(Utf8.decode s pos).2) (n+1)=r:=by
 rw [← h];simp [runesN,hp,hb]
theorem runesN_end{s:ByteArray}{f pos n:Nat}{r:Option Nat}(h:runesN s f pos n=r)(hp:¬ pos<s.size):r=some n:=by
 rw [← h];cases f <;> simp [runesN,hp]
theorem rightN_some{s:ByteArray}{n:Nat}(h:runesN s (s.size+1) 0 0=some n):rightN s=(decide (1<=n) && decide (n<=16)):=by
 simp [rightN,h]
theorem rightN_none{s:ByteArray}(h:runesN s (s.size+1) 0 0=none):rightN s=false:=by
 simp [rightN,h]
end
section
open Go.RowKit Go.QT
theorem bad_cases(i:Nat)(c:Int):(letterN c=true/\badN i c=false)∨(letterN c=false/\i=0/\badN i c=true)∨(letterN c=false/\i≠0/\inR c digL=true/\badN i c=false)∨(letterN c=false/\i≠0/\inR c digL=false/\badN i c=true):=by
 unfold badN
 by_cases h:i=0 <;> cases letterN c <;> cases inR c digL <;> simp [h]
theorem nright_any(s:ByteArray)(w:World)(hs:s.size<=1000000000):Calls Tryz.prog 115 #[.string s] w fun e w'=>e=.returned (.bool (rightN s))/\Below w.heap.size w w':=by
 obtain ⟨R,hR⟩:∃ R,R=runesN s (s.size+1) 0 0:=⟨_,rfl⟩
 have h0:=Hp.nil (fun _=>False) w
 refine mE 35 ?_
 refine mT (x_range h0 9 (.tmp 6) (by kernel_rfl) s (by kernel_rfl) (by kernel_rfl)) ?_
 rintro _ w5 ⟨k5,rfl,h5⟩
 refine mL (fun mM xX aA wL=>∃ (f:Nat) (pos:Nat) (n:Nat),(runesN s f pos n=R)/\(s.size<f+(pos))/\(n<=pos)/\mM=s.size-pos/\aA=patch xX 35 [(3,(Value.int .i64 ((n:Int)))),(7,(pt k5 0))]/\Hp (fun _=>False) w wL [] [rIter k5 s pos]) ⟨_,_,((s.size+1)),0,0,hR.symm,(by omega),(by omega),rfl,pM,h5.sel [0] [] (by kernel_rfl) rfl rfl⟩ ?_
 rintro _ x6 _ w6 ⟨f,pos,n,hr,hf,hn,rfl,rfl,h6⟩ KL6 hKL6
 refine mAt ?_
 by_cases b8:pos<s.size
 ·
  refine mT (x_next h6 0 rfl (.tmp 7) (by kernel_rfl) (by kernel_rfl) b8) ?_
  rintro _ w9 ⟨rfl,h9⟩
  have hwp:=Lib.decode_width_pos s pos b8
  rcases bad_cases pos ((Utf8.decode s pos).1:Int) with ⟨hq1,hbad⟩|⟨hq1,hq2,hbad⟩|⟨hq1,hq2,hq3,hbad⟩|⟨hq1,hq2,hq3,hbad⟩
  ·
   refine mT (x_nletter h9 (((Utf8.decode s pos).1:Int)) (by kernel_rfl)) ?_
   rintro _ w15 ⟨rfl,h15⟩
   refine mX 14 (.bool false) (Value.bool (!(letterN (((Utf8.decode s pos).1:Int))))) (by rw [hq1];rfl) ?_
   refine mW 28 (exec_add _ _ _ _ bO ((n:Int)) 1 (by kernel_rfl) (by kernel_rfl) ((n:Int)+1) rfl (by omega) (by omega) _) ?_
   exact mK KL6 (hKL6 _ _ ⟨s.size-(pos+(Utf8.decode s pos).2),_,(by omega),((f-1)),(pos+(Utf8.decode s pos).2),(n+1),(runesN_go (f:=f-1) (by rw [Nat.sub_add_cancel (by omega)];exact hr) b8 hbad),(by omega),(by omega),rfl,pM,h15.sel [0] [] (by kernel_rfl) rfl rfl⟩)
  ·
   refine mT (x_nletter h9 (((Utf8.decode s pos).1:Int)) (by kernel_rfl)) ?_
   rintro _ w16 ⟨rfl,h16⟩
   refine mX 14 (.bool true) (Value.bool (!(letterN (((Utf8.decode s pos).1:Int))))) (by rw [hq1];rfl) ?_
   refine mX 17 (.bool true) (Value.bool (((pos:Int)) == 0)) (by simp [hq2]) ?_
   exact mQe (Value.bool false) h16 (by rw [rightN_none (hR.symm.trans (runesN_bad (f:=f-1) (by rw [Nat.sub_add_cancel (by omega)];exact hr) b8 hbad))])
  ·
   refine mT (x_nletter h9 (((Utf8.decode s pos).1:Int)) (by kernel_rfl)) ?_
   rintro _ w18 ⟨rfl,h18⟩
   refine mX 14 (.bool true) (Value.bool (!(letterN (((Utf8.decode s pos).1:Int))))) (by rw [hq1];rfl) ?_
   refine mX 17 (.bool false) (Value.bool (((pos:Int)) == 0)) (by simp;omega) ?_
   refine mT (x_bs h18 296 ([(Value.int .i32 48),(Value.int .i32 57),(Value.int .i32 45),(Value.int .i32 45)]) 2 (by kernel_rfl)) ?_
   rintro _ w19 ⟨g19,rfl,h19⟩
   refine mT (x_nin h19 0 rfl (((Utf8.decode s pos).1:Int)) digL 2 rfl rfl (by decide) (by kernel_rfl)) ?_
   rintro _ w20 ⟨rfl,h20⟩
   refine mX 24 (.bool false) (Value.bool (!(inR (((Utf8.decode s pos).1:Int)) digL))) (by rw [hq3];rfl) ?_
   refine mW 28 (exec_add _ _ _ _ bO ((n:Int)) 1 (by kernel_rfl) (by kernel_rfl) ((n:Int)+1) rfl (by omega) (by omega) _) ?_
   exact mK KL6 (hKL6 _ _ ⟨s.size-(pos+(Utf8.decode s pos).2),_,(by omega),((f-1)),(pos+(Utf8.decode s pos).2),(n+1),(runesN_go (f:=f-1) (by rw [Nat.sub_add_cancel (by omega)];exact hr) b8 hbad),(by omega),(by omega),rfl,pM,h20.sel [1] [] (by kernel_rfl) rfl rfl⟩)
  refine mT (x_nletter h9 (((Utf8.decode s pos).1:Int)) (by kernel_rfl)) ?_
  rintro _ w21 ⟨rfl,h21⟩
  refine mX 14 (.bool true) (Value.bool (!(letterN (((Utf8.decode s pos).1:Int))))) (by rw [hq1];rfl) ?_
  refine mX 17 (.bool false) (Value.bool (((pos:Int)) == 0)) (by simp;omega) ?_
  refine mT (x_bs h21 296 ([(Value.int .i32 48),(Value.int .i32 57),(Value.int .i32 45),(Value.int .i32 45)]) 2 (by kernel_rfl)) ?_
  rintro _ w22 ⟨g22,rfl,h22⟩
  refine mT (x_nin h22 0 rfl (((Utf8.decode s pos).1:Int)) digL 2 rfl rfl (by decide) (by kernel_rfl)) ?_
  rintro _ w23 ⟨rfl,h23⟩
  refine mX 24 (.bool true) (Value.bool (!(inR (((Utf8.decode s pos).1:Int)) digL))) (by rw [hq3];rfl) ?_
  exact mQe (Value.bool false) h23 (by rw [rightN_none (hR.symm.trans (runesN_bad (f:=f-1) (by rw [Nat.sub_add_cancel (by omega)];exact hr) b8 hbad))])
 refine mT (x_nextE h6 0 rfl (.tmp 7) (by kernel_rfl) (by kernel_rfl) b8) ?_
 rintro _ w25 ⟨rfl,h25⟩
 have hRn:=runesN_end hr b8
 subst hRn
 rcases (show (1<=n/\n<=16)∨(¬ 1<=n)∨(1<=n/\¬ n<=16) by omega) with ⟨hq1,hq2⟩|hq1|⟨hq1,hq2⟩
 ·
  refine mX 30 (.bool true) (Value.bool (decide ((n:Int) ≥ 1))) (by simp;omega) ?_
  refine mX 33 (.bool true) (Value.bool (decide ((n:Int)<=16))) (by simp;omega) ?_
  exact mQe (Value.bool true) h25 (by rw [rightN_some hR.symm];simp [hq1,hq2])
 ·
  refine mX 30 (.bool false) (Value.bool (decide ((n:Int) ≥ 1))) (by simp;omega) ?_
  exact mQe (Value.bool false) h25 (by rw [rightN_some hR.symm];simp [hq1])
 refine mX 30 (.bool true) (Value.bool (decide ((n:Int) ≥ 1))) (by simp;omega) ?_
 refine mX 33 (.bool false) (Value.bool (decide ((n:Int)<=16))) (by simp;omega) ?_
 exact mQe (Value.bool false) h25 (by rw [rightN_some hR.symm];simp [hq1,hq2])
end
section
open Go.RowKit Go.QT
def SBF(F:Nat->Prop)(w:World)(v:Value)(l:Bytes):Prop:=SB w v l/\(l≠[]->∀ q,v.ownBlock=some q->F q)
def RVF(F:Nat->Prop)(w:World)(sz:Nat)(A:Option Addr)(c:Nat)(xs:List (List Value)):Prop:=RV w sz A c xs/\(xs≠[]->∀ q,ownA A=some q->F q)
/-- The cells cs are the value t; what they point to lies in the blocks F. -/
inductive DVR (F:Nat->Prop) (w:World):List Value->DVal->Prop
 | mk (k t n:Nat) (bv:Value) (b:Bytes) (A:Option Addr) (c:Nat) (xs:List (List Value)) (ts:List DVal) (hn:n<18446744073709551616) (hb:SBF F w bv b) (hx:RVF F w 5 A c xs) (hl:xs.length=ts.length)
     (hs:∀ (i:Nat) (x:List Value) (u:DVal),xs[i]?=some x->ts[i]?=some u->DVR F w x u) :
     DVR F w [.int .i64 (k:Int),.int .i64 (t:Int),.int .u64 (n:Int),bv,.slice A ts.length c] (.mk k t n b ts)
theorem SBF.keep{F:Nat->Prop}{w w':World}{v:Value}{l:Bytes}(h:SBF F w v l)(hs:w.heap.size<=w'.heap.size)(hk:∀ q,F q->w'.heap[q]?=w.heap[q]?):SBF F w' v l:=
 ⟨(rSB v l).keep h.1 hs (fun q hq=>hk q (h.2 hq.1 q hq.2)),h.2⟩
theorem RVF.keep{F:Nat->Prop}{w w':World}{sz:Nat}{A:Option Addr}{c:Nat}{xs:List (List Value)}(h:RVF F w sz A c xs)(hs:w.heap.size<=w'.heap.size)(hk:∀ q,F q->w'.heap[q]?=w.heap[q]?):RVF F w' sz A c xs:=
 ⟨(rRV sz A c xs).keep h.1 hs (fun q hq=>hk q (h.2 hq.1 q hq.2)),h.2⟩
theorem DVR.keep{F:Nat->Prop}{w w':World}{cs:List Value}{v:DVal}(h:DVR F w cs v)(hs:w.heap.size<=w'.heap.size)(hk:∀ q,F q->w'.heap[q]?=w.heap[q]?):DVR F w' cs v:=by
 induction h with
 | mk k t n bv b A c xs ts hn hb hx hl _ ih=>exact .mk k t n bv b A c xs ts hn (hb.keep hs hk) (hx.keep hs hk) hl ih
theorem DVR.mono{F G:Nat->Prop}{w:World}{cs:List Value}{v:DVal}(h:DVR F w cs v)(hFG:∀ q,F q->G q):DVR G w cs v:=by
 induction h with
 | mk k t n bv b A c xs ts hn hb hx hl _ ih=>exact .mk k t n bv b A c xs ts hn ⟨hb.1,fun h q hq=>hFG q (hb.2 h q hq)⟩ ⟨hx.1,fun h q hq=>hFG q (hx.2 h q hq)⟩ hl ih
/-- A value. -/
def rDV(F:Nat->Prop)(cs:List Value)(v:DVal):Res where
 F:=F
 Φ:=fun w=>(∀ q,F q->q<w.heap.size)/\DVR F w cs v
 lt:=fun h=>h.1
 keep:=fun h hs hk=>⟨fun q hq=>Nat.lt_of_lt_of_le (h.1 q hq) hs,h.2.keep hs hk⟩
/-- The values of a list. -/
def rDL(F:Nat->Prop)(xs:List (List Value))(ts:List DVal):Res where
 F:=F
 Φ:=fun w=>(∀ q,F q->q<w.heap.size)/\∀ (i:Nat) (x:List Value) (u:DVal),xs[i]?=some x->ts[i]?=some u->DVR F w x u
 lt:=fun h=>h.1
 keep:=fun h hs hk=>⟨fun q hq=>Nat.lt_of_lt_of_le (h.1 q hq) hs,fun i x u hx hu=>(h.2 i x u hx hu).keep hs hk⟩
theorem dv_open{F:Nat->Prop}{w:World}{cs:List Value}{v:DVal}(h:(rDV F cs v).Φ w):∃ B d A c xs,cs=[.int .i64 (v.kind:Int),.int .i64 (v.tag:Int),.int .u64 (v.n:Int),.slice B v.b.length d,.slice A v.l.length c] /\
   SB w (.slice B v.b.length d) v.b/\RV w 5 A c xs/\xs.length=v.l.length/\v.n<18446744073709551616/\(∀ q,(rSB (.slice B v.b.length d) v.b).F q->F q)/\(rDL F xs v.l).Φ w:=by
 obtain ⟨hF,h⟩:=h
 cases h with
 | mk k t n bv b A c xs ts hn hb hx hl hs =>
   obtain ⟨B,d,rfl,_⟩:=id hb.1
   exact ⟨B,d,A,c,xs,rfl,hb.1,hx.1,hl,hn,fun q hq=>hb.2 hq.1 q hq.2,hF,hs⟩
theorem dl_at{F:Nat->Prop}{w:World}{xs:List (List Value)}{ts:List DVal}(h:(rDL F xs ts).Φ w)(hl:xs.length=ts.length)(i:Nat)(hi:i<ts.length):∃ x u,xs[i]?=some x/\ts[i]?=some u/\(rDV F x u).Φ w:=
 ⟨xs[i]'(by omega),ts[i],List.getElem?_eq_getElem _,List.getElem?_eq_getElem _,h.1,h.2 i _ _ (List.getElem?_eq_getElem _) (List.getElem?_eq_getElem _)⟩
theorem rvf_nil(F:Nat->Prop)(w:World)(sz c:Nat)(hc:c<=maxLen)(A:Option Addr):RVF F w sz A c []:=⟨⟨Nat.zero_le _,hc,by simp,fun h=>absurd rfl h⟩,fun h=>absurd rfl h⟩
theorem sbf_nil(F:Nat->Prop)(w:World):SBF F w (.slice none 0 0) []:=⟨SB.nil _ 0 (by unfold maxLen;omega) none,fun h=>absurd rfl h⟩
/-- A list. -/
theorem dv_seq{w:World}{F:Nat->Prop}{A:Option Addr}{c t:Nat}{xs:List (List Value)}{ts:List DVal}(hx:RVF F w 5 A c xs)(hl:xs.length=ts.length)(hs:(rDL F xs ts).Φ w) :
   (rDV F [.int .i64 2,.int .i64 (t:Int),.int .u64 0,.slice none 0 0,.slice A ts.length c] (.mk 2 t 0 [] ts)).Φ w:=
 ⟨hs.1,.mk 2 t 0 _ [] A c xs ts (by omega) (sbf_nil _ _) hx hl hs.2⟩
end
section
open Go.RowKit Go.QT
theorem short_any(n:Nat)(_hn:n<18446744073709551616)(w:World):Calls Tryz.prog 140 #[.int .u64 (n:Int)] w (SbPost w (shortB n)):=by
 have h0:=Hp.nil (fun _=>False) w
 refine enter 17 Tryz.func140 rfl rfl ?_
 refine wp_reset 18 [(0,(Value.int .u64 ((n:Int))))] (fun x0=>?_)
 refine wR fun K1 hK1=>?_
 refine wq_p 1 [(2,nS)] ?_
 refine wE hK1 (wR fun K2 hK2=>?_)
 refine wq_p 1 [(4,(Value.int .u64 ((n:Int))))] ?_
 refine wT 5 (x_bytesE h0 93 [(Value.int .u64 ((n:Int)))] (by kernel_rfl) (put_any (n) _) (put8 (n)) (8) rfl rfl) ?_
 rintro _ w3 ⟨A3,c3,rfl,h3⟩
 refine wq_p 1 [(3,(Value.slice A3 8 c3))] ?_
 refine wE hK2 (wp_seq_k fun K4 hK4=>wp_block ?_)
 have h5:=h3.obSB 0 rfl
 refine wp_loopm (fun mM xX aA wL=>∃ (l:Bytes) (Av:Option Addr) (cv:Nat),(stripZ l=shortB n)/\(0<(l:Bytes).length)/\((l:Bytes).length<=8)/\mM=(l:Bytes).length/\aA=patch xX 18 [(0,(Value.int .u64 ((n:Int)))),(2,(Value.slice none 0 0)),(3,(Value.slice Av ((l:Bytes).length) cv))]/\Hp (fun _=>False) w wL [] [rSB ((Value.slice Av ((l:Bytes).length) cv)) l]) ⟨_,((put8 n)),A3,c3,rfl,(by rw [put8_len];decide),(by rw [put8_len];decide),rfl,(pEq 18),h5.sel [0] [] (by kernel_rfl) rfl rfl⟩ ?_
 rintro _ x6 _ w6 ⟨l,Av,cv,hl,hp0,h8,rfl,rfl,h6⟩
 refine wp_seq_k fun K7 hK7=>wp_seq_k fun K8 hK8=>?_
 rcases (show (1<l.length/\gb l 0=0)∨(¬ 1<l.length)∨(1<l.length/\gb l 0≠0) by by_cases c1:1<l.length <;> by_cases c2:gb l 0=0 <;> simp [c1,c2]) with ⟨hq1,hq2⟩|hq|⟨hq1,hq2⟩
 ·
  refine reg_lit ?_
  refine wq_p 2 [(7,(D (((l:Bytes).length:Int)))),(6,(Value.slice Av ((l:Bytes).length) cv))] (wV 8 (.bool true) (eqI (Value.bool (decide (((l:Bytes).length:Int)>1))) (by simp;omega)) (wq_p 2 [(10,(Value.slice Av ((l:Bytes).length) cv)),(9,I)] (wV 11 (eAt Av (0*1+0)) (eIx (SB.rvn (h6.at_ 0 rfl)).2 0 ((l:Bytes).length) (SB.rvn (h6.at_ 0 rfl)).1 (by omega) 25 (.tmp 10) (.const O) .i64 5) ?_)))
  refine wV 12 (Value.int .u8 (ub (gb (l) (0)))) (eEl (SB.rvn (h6.at_ 0 rfl)).2 0 0 ([(Value.int .u8 (ub (gb (l) (0))))]) (bx_get _ _ (by omega)) 5 (.tmp 11) (Value.int .u8 (ub (gb (l) (0))))) (wV 13 (.bool true) (eqI (Value.bool ((ub (gb (l) (0))) == 0)) (congrArg Value.bool (ub0_eq hq2))) (wq_p 1 [(14,I)] ?_))
  refine wE hK8 (cT (wp_skip (seq_n hK7 (wp_block (reg_lit ?_)))))
  refine wq_p 1 [(15,(Value.slice Av ((l:Bytes).length) cv))] ?_
  obtain ⟨A10,c10,e10,h10⟩:=h6.sbCut 0 rfl 1 (by omega)
  refine wV 16 (Value.slice A10 ((l.drop 1:Bytes).length) c10) (e10 ▸ e_cut_l (h6.at_ 0 rfl) (.tmp 15) (.const (D 1)) (by kernel_rfl) (by kernel_rfl) .i64 1 (by kernel_rfl) (by omega) _) (wq_p 1 [(3,(Value.slice A10 ((l.drop 1:Bytes).length) c10))] ?_)
  refine wl_end rfl (blk_n ?_)
  refine ⟨((l.drop 1):Bytes).length,(by rw [List.length_drop];omega),((l.drop 1)),A10,c10,(by rw [stripZ_step l hq1 hq2];exact hl),(by rw [List.length_drop];omega),(by rw [List.length_drop];omega),rfl,(pEq 18),h10.sel [0] [] (by kernel_rfl) rfl rfl⟩
 ·
  refine reg_lit ?_
  refine wq_p 2 [(7,(D (((l:Bytes).length:Int)))),(6,(Value.slice Av ((l:Bytes).length) cv))] (wV 8 (.bool false) (eqI (Value.bool (decide (((l:Bytes).length:Int)>1))) (by simp;omega)) (wq_p 4 [(12,undef),(11,undef),(10,undef),(9,V)] (wq_p 1 [(13,undef)] ?_)))
  refine wq_p 1 [(14,V)] ?_
  refine wE hK8 (cF (wp_exit (seq_e (seq_e (blk_e (seq_n hK4 (wR fun K11 hK11=>?_)))))))
  refine wq_p 2 [(2,(Value.slice Av ((l:Bytes).length) cv)),(17,(Value.slice Av ((l:Bytes).length) cv))] ?_
  refine wE hK11 (wp_ret ?_)
  refine post_1 rfl (by kernel_rfl) (rtm (Value.slice Av ((l:Bytes).length) cv)) ?_
  exact sbpost_sb h6 0 rfl (by rintro rfl;cases hp0) (by rw [← hl];exact (stripZ_end l (by rintro ⟨c1,c2⟩;first|exact hq c1|exact hq2 c2)).symm)
 refine reg_lit ?_
 refine wq_p 2 [(7,(D (((l:Bytes).length:Int)))),(6,(Value.slice Av ((l:Bytes).length) cv))] (wV 8 (.bool true) (eqI (Value.bool (decide (((l:Bytes).length:Int)>1))) (by simp;omega)) (wq_p 2 [(10,(Value.slice Av ((l:Bytes).length) cv)),(9,I)] (wV 11 (eAt Av (0*1+0)) (eIx (SB.rvn (h6.at_ 0 rfl)).2 0 ((l:Bytes).length) (SB.rvn (h6.at_ 0 rfl)).1 (by omega) 25 (.tmp 10) (.const O) .i64 5) ?_)))
 refine wV 12 (Value.int .u8 (ub (gb (l) (0)))) (eEl (SB.rvn (h6.at_ 0 rfl)).2 0 0 ([(Value.int .u8 (ub (gb (l) (0))))]) (bx_get _ _ (by omega)) 5 (.tmp 11) (Value.int .u8 (ub (gb (l) (0))))) (wV 13 (.bool false) (eqI (Value.bool ((ub (gb (l) (0))) == 0)) (congrArg Value.bool (ub0_ne hq2))) (wq_p 1 [(14,V)] ?_))
 refine wE hK8 (cF (wp_exit (seq_e (seq_e (blk_e (seq_n hK4 (wR fun K12 hK12=>?_)))))))
 refine wq_p 2 [(2,(Value.slice Av ((l:Bytes).length) cv)),(17,(Value.slice Av ((l:Bytes).length) cv))] ?_
 refine wE hK12 (wp_ret ?_)
 refine post_1 rfl (by kernel_rfl) (rtm (Value.slice Av ((l:Bytes).length) cv)) ?_
 exact sbpost_sb h6 0 rfl (by rintro rfl;cases hp0) (by rw [← hl];exact (stripZ_end l (by rintro ⟨c1,c2⟩;first|exact hq c1|exact hq2 c2)).symm)
end
section
open Go.RowKit Go.QT
theorem dnum_any(n:Nat)(w:World):Calls Tryz.prog 119 #[.int .u64 (n:Int)] w (DPost w (.agg #[.int .i64 0,.int .i64 0,.int .u64 (n:Int),.slice none 0 0,.slice none 0 0])):=by
 have h0:=Hp.nil (fun _=>False) w
 refine mE 5 ?_
 refine mN h0 196 ([(Value.int .i64 0),(Value.int .i64 0),(Value.int .u64 0),(Value.slice none 0 0),(Value.slice none 0 0)]) fun g2 w2 h2=>?_
 refine mT (xSs h2 0 196 (.tmp 2) (.tmp 4) 0 ([(Value.int .i64 0),(Value.int .i64 0),(Value.int .u64 ((n:Int))),(Value.slice none 0 0),(Value.slice none 0 0)]) ([(Value.int .i64 0),(Value.int .i64 0),(Value.int .u64 ((n:Int))),(Value.slice none 0 0),(Value.slice none 0 0)])) fun _ w4 h4=>?_
 refine mF (post_1 (r:=.cell 2 196) (by kernel_rfl) rfl (rce (h4.at_ 0 rfl)) ?_)
 exact ⟨rfl,h4.below0⟩
theorem dseq_any(t:Int)(A:Option Addr)(m c:Nat)(w:World):Calls Tryz.prog 94 #[.int .i64 t,.slice A m c] w (DPost w (.agg #[.int .i64 2,.int .i64 t,.int .u64 0,.slice none 0 0,.slice A m c])):=by
 have h0:=Hp.nil (fun _=>False) w
 refine mE 8 ?_
 refine mN h0 196 ([(Value.int .i64 0),(Value.int .i64 0),(Value.int .u64 0),(Value.slice none 0 0),(Value.slice none 0 0)]) fun g2 w2 h2=>?_
 refine mT (xSs h2 0 196 (.tmp 4) (.tmp 7) 0 ([(Value.int .i64 2),(Value.int .i64 t),(Value.int .u64 0),(Value.slice none 0 0),(Value.slice A m c)]) ([(Value.int .i64 2),(Value.int .i64 t),(Value.int .u64 0),(Value.slice none 0 0),(Value.slice A m c)])) fun _ w4 h4=>?_
 refine mF (post_1 (r:=.cell 4 196) (by kernel_rfl) rfl (rce (h4.at_ 0 rfl)) ?_)
 exact ⟨rfl,h4.below0⟩
/-- What der.Raw leaves. -/
def RawPost(w:World)(b:Bytes)(e:Ending)(w':World):Prop:=∃ A c,e=.returned (.agg #[.int .i64 1,.int .i64 0,.int .u64 0,.slice A b.length c,.slice none 0 0])/\SB w' (.slice A b.length c) b/\Below w.heap.size w w'/\∀ q,(Value.slice A b.length c).ownBlock=some q->w.heap.size<=q
theorem rawpost_of{w w0:World}{ro rs:List Res}{A:Option Addr}{c:Nat}{b:Bytes}(h:Hp (fun _=>False) w0 w ro rs)(i:Nat)(hi:rs[i]?=some (rOB (.slice A b.length c) b)):RawPost w0 b (.returned (.agg #[.int .i64 1,.int .i64 0,.int .u64 0,.slice A b.length c,.slice none 0 0])) w:=by
 refine ⟨A,c,rfl,OB.sb (h.own i _ hi),h.below0,fun q hq=>?_⟩
 rcases h.mine i _ hi q hq with h3|h3
 · exact h3.elim
 exact h3
theorem draw_any(v:Value)(b:Bytes)(w:World)(hv:SB w v b)(hl:b.length<=1000000):Calls Tryz.prog 97 #[v] w (RawPost w b):=by
 obtain ⟨B,d,rfl,hc1,hc2⟩:=sb_form hv
 have h0:=Hp.ro1 (rSB (.slice B b.length d) b) hv
 refine mE 6 ?_
 refine mN h0 196 ([(Value.int .i64 0),(Value.int .i64 0),(Value.int .u64 0),(Value.slice none 0 0),(Value.slice none 0 0)]) fun g2 w2 h2=>?_
 have h4:=h2.obNil
 refine mT (x_appG h4 0 rfl (.const (Value.slice none 0 0)) (.tmp 3) (by kernel_rfl) (Value.slice B b.length d) (by kernel_rfl) (by kernel_rfl) (h4.rd 0 rfl) (by simp;omega) (b) (b.length) rfl rfl) ?_
 rintro _ w5 ⟨A5,c5,rfl,h5⟩
 refine mT (xSs h5 1 196 (.tmp 2) (.tmp 5) 0 ([(Value.int .i64 1),(Value.int .i64 0),(Value.int .u64 0),(Value.slice A5 b.length c5),(Value.slice none 0 0)]) ([(Value.int .i64 1),(Value.int .i64 0),(Value.int .u64 0),(Value.slice A5 b.length c5),(Value.slice none 0 0)])) fun _ w6 h6=>?_
 refine mF (post_1 (r:=.cell 2 196) (by kernel_rfl) rfl (rce (h6.at_ 1 rfl)) ?_)
 exact rawpost_of h6 0 rfl
theorem right_step(d:Nat)(hd:d<=100)(ih:d<=8->∀ (F:Nat->Prop) (cs:List Value) (v:DVal) (w:World),(rDV F cs v).Φ w->Calls Tryz.prog 125 #[.agg cs.toArray,.int .i64 ((d+1:Nat):Int)] w (DPost w (.bool (rightV v (d+1)))))
   (F:Nat->Prop) (cs:List Value) (v:DVal) (w:World) (hv:(rDV F cs v).Φ w):Calls Tryz.prog 125 #[.agg cs.toArray,.int .i64 (d:Int)] w (DPost w (.bool (rightV v d))):=by
 obtain ⟨k,t,n,b,ts⟩:=v
 obtain ⟨B,dd,A,c,xs,rfl,hbb,hxx,hll,hn6,hbF,hLL⟩:=dv_open hv
 simp only [DVal.kind,DVal.tag,DVal.n,DVal.b,DVal.l] at *
 have hcap:ts.length<=9223372036854775807:=by have h1:=hxx.le;have h2:=hxx.cap;unfold maxLen at h2;omega
 have h0:=((Hp.ro1 (rDL F xs ts) hLL).addR (rSB (.slice B b.length dd) b) hbb (by simp)).addR (rRV 5 A c xs) hxx (by simp)
 refine mE 68 ?_
 refine mN h0 196 ([(Value.int .i64 ((k:Int))),(Value.int .i64 ((t:Int))),(Value.int .u64 ((n:Int))),(Value.slice B b.length dd),(Value.slice A ts.length c)]) fun g2 w2 h2=>?_
 rcases (show (30<t)∨(t<=30/\8<d)∨(t<=30/\d<=8) by omega) with hq|⟨hq1,hq⟩|⟨hq1,hq2⟩
 ·
  refine ma h2 0 ?_
  refine mX 9 (.bool false) (Value.bool (decide ((t:Int)<0))) (by simp) ?_
  refine ma h2 0 ?_
  refine mX 13 (.bool true) (Value.bool (decide ((t:Int)>30))) (by simp;omega) ?_
  refine mP (Value.bool false) ?_
  exact ⟨congrArg (fun x=>Ending.returned (Value.bool x)) ((rv_bad (by omega))).symm,h2.below0⟩
 ·
  refine ma h2 0 ?_
  refine mX 9 (.bool false) (Value.bool (decide ((t:Int)<0))) (by simp) ?_
  refine ma h2 0 ?_
  refine mX 13 (.bool false) (Value.bool (decide ((t:Int)>30))) (by simp;omega) ?_
  refine mX 17 (.bool true) (Value.bool (decide ((d:Int)>8))) (by simp;omega) ?_
  refine mP (Value.bool false) ?_
  exact ⟨congrArg (fun x=>Ending.returned (Value.bool x)) ((rv_bad (by omega))).symm,h2.below0⟩
 refine ma h2 0 ?_
 refine mX 9 (.bool false) (Value.bool (decide ((t:Int)<0))) (by simp) ?_
 refine ma h2 0 ?_
 refine mX 13 (.bool false) (Value.bool (decide ((t:Int)>30))) (by simp;omega) ?_
 refine mX 17 (.bool false) (Value.bool (decide ((d:Int)>8))) (by simp;omega) ?_
 refine ma h2 0 ?_
 refine m_ifeq 21 ((k:Int)) 0 (by kernel_rfl) (fun b11=>?_) (fun b11=>?_)
 ·
  have hk0:k=0:=by omega
  rcases (show (b.length=0/\ts.length=0)∨(¬ b.length=0)∨(b.length=0/\¬ ts.length=0) by by_cases c1:b.length=0 <;> by_cases c2:ts.length=0 <;> simp [c1,c2]) with ⟨hz1,hz2⟩|hz1|⟨hz1,hz2⟩
  ·
   refine ma h2 0 ?_
   refine mX 26 (.bool true) (Value.bool (((b.length:Int)) == 0)) (bz_eq hz1) ?_
   refine ma h2 0 ?_
   refine mX 31 (.bool true) (Value.bool (((ts.length:Int)) == 0)) (bz_eq hz2) ?_
   refine mP (Value.bool true) ?_
   exact ⟨congrArg (fun x=>Ending.returned (Value.bool x)) ((rv0_t hq1 hq2 hz1 hz2 hk0)).symm,h2.below0⟩
  ·
   refine ma h2 0 ?_
   refine mX 26 (.bool false) (Value.bool (((b.length:Int)) == 0)) (bz_ne hz1) ?_
   refine mP (Value.bool false) ?_
   exact ⟨congrArg (fun x=>Ending.returned (Value.bool x)) ((rv0_f hq1 hq2 (.inl hz1) hk0)).symm,h2.below0⟩
  refine ma h2 0 ?_
  refine mX 26 (.bool true) (Value.bool (((b.length:Int)) == 0)) (bz_eq hz1) ?_
  refine ma h2 0 ?_
  refine mX 31 (.bool false) (Value.bool (((ts.length:Int)) == 0)) (bz_ne hz2) ?_
  refine mP (Value.bool false) ?_
  exact ⟨congrArg (fun x=>Ending.returned (Value.bool x)) ((rv0_f hq1 hq2 (.inr hz2) hk0)).symm,h2.below0⟩
 have hk0:k≠0:=by omega
 refine m_ifeq 33 ((k:Int)) 1 (by kernel_rfl) (fun b15=>?_) (fun b15=>?_)
 ·
  have hk1:k=1:=by omega
  rcases (show (n=0/\ts.length=0)∨(¬ n=0)∨(n=0/\¬ ts.length=0) by by_cases c1:n=0 <;> by_cases c2:ts.length=0 <;> simp [c1,c2]) with ⟨hz1,hz2⟩|hz1|⟨hz1,hz2⟩
  ·
   refine ma h2 0 ?_
   refine mX 37 (.bool true) (Value.bool (((n:Int)) == 0)) (bz_eq hz1) ?_
   refine ma h2 0 ?_
   refine mX 42 (.bool true) (Value.bool (((ts.length:Int)) == 0)) (bz_eq hz2) ?_
   refine mP (Value.bool true) ?_
   exact ⟨congrArg (fun x=>Ending.returned (Value.bool x)) ((rv1_t hq1 hq2 hz1 hz2 hk1)).symm,h2.below0⟩
  ·
   refine ma h2 0 ?_
   refine mX 37 (.bool false) (Value.bool (((n:Int)) == 0)) (bz_ne hz1) ?_
   refine mP (Value.bool false) ?_
   exact ⟨congrArg (fun x=>Ending.returned (Value.bool x)) ((rv1_f hq1 hq2 (.inl hz1) hk1)).symm,h2.below0⟩
  refine ma h2 0 ?_
  refine mX 37 (.bool true) (Value.bool (((n:Int)) == 0)) (bz_eq hz1) ?_
  refine ma h2 0 ?_
  refine mX 42 (.bool false) (Value.bool (((ts.length:Int)) == 0)) (bz_ne hz2) ?_
  refine mP (Value.bool false) ?_
  exact ⟨congrArg (fun x=>Ending.returned (Value.bool x)) ((rv1_f hq1 hq2 (.inr hz2) hk1)).symm,h2.below0⟩
 have hk1:k≠1:=by omega
 refine m_ifeq 44 ((k:Int)) 2 (by kernel_rfl) (fun b19=>?_) (fun b19=>?_)
 ·
  have hk2:k=2:=by omega
  refine ma h2 0 ?_
  refine mL (fun mM xX aA wL=>∃ (i:Nat),(i<=ts.length)/\(∀ (j:Nat) (x:DVal),j<i->ts[j]?=some x->rightV x (d+1)=true)/\mM=ts.length-i/\aA=patch xX 68 [(1,(Value.int .i64 ((d:Int)))),(2,(pt g2 0)),(47,(Value.slice A ts.length c)),(48,(Value.int .i64 ((ts.length:Int)))),(49,(Value.int .i64 ((i:Int))))]/\Hp (fun _=>False) w wL [rRV 5 A c xs,rSB ((Value.slice B b.length dd)) b,rDL F xs ts] [rBlk g2 196 ([(Value.int .i64 ((k:Int))),(Value.int .i64 ((t:Int))),(Value.int .u64 ((n:Int))),(Value.slice B b.length dd),(Value.slice A ts.length c)])]) ⟨_,_,0,(by omega),(fun j x h=>absurd h (by omega)),rfl,pM,h2.sel [0] [0,1,2] (by kernel_rfl) rfl rfl⟩ ?_
  rintro _ x22 _ w22 ⟨i,hi,hr,rfl,rfl,h22⟩ KL22 hKL22
  refine mAt ?_
  refine m_if 50 ((i:Int)<(ts.length:Int)) (by kernel_rfl) (fun b25=>?_) (fun b25=>?_)
  ·
   obtain ⟨xe,u,hxi,hui,hxe⟩:=dl_at (h22.rd 2 rfl) hll i (by omega)
   obtain ⟨ke,te,ne,be,le⟩:=u
   obtain ⟨Be,de,Ae,ce,xse,rfl,_,_,_,_,_,_⟩:=dv_open hxe
   clear hxe
   simp only [DVal.kind,DVal.tag,DVal.n,DVal.b,DVal.l] at *
   refine mW 51 (eIx (RV.lenIs (n:=ts.length) (h22.rd 0 rfl) hll).2 i ts.length (RV.lenIs (n:=ts.length) (h22.rd 0 rfl) hll).1 (by omega) 194 (.tmp 47) (.tmp 49) .i64 196) ?_
   refine mW 52 (e_elemsN (RV.lenIs (n:=ts.length) (h22.rd 0 rfl) hll).2 i 0 ([(Value.int .i64 ((ke:Int))),(Value.int .i64 ((te:Int))),(Value.int .u64 ((ne:Int))),(Value.slice Be be.length de),(Value.slice Ae le.length ce)]) hxi 196 (.tmp 51) (by kernel_rfl) ([(Value.int .i64 ((ke:Int))),(Value.int .i64 ((te:Int))),(Value.int .u64 ((ne:Int))),(Value.slice Be be.length de),(Value.slice Ae le.length ce)]) (by kernel_rfl) (by kernel_rfl) (by kernel_rfl)) ?_
   refine mN h22 196 ([(Value.int .i64 0),(Value.int .i64 0),(Value.int .u64 0),(Value.slice none 0 0),(Value.slice none 0 0)]) fun g28 w28 h28=>?_
   refine mT (xSs h28 0 196 (.tmp 6) (.tmp 52) 0 ([(Value.int .i64 ((ke:Int))),(Value.int .i64 ((te:Int))),(Value.int .u64 ((ne:Int))),(Value.slice Be be.length de),(Value.slice Ae le.length ce)]) ([(Value.int .i64 ((ke:Int))),(Value.int .i64 ((te:Int))),(Value.int .u64 ((ne:Int))),(Value.slice Be be.length de),(Value.slice Ae le.length ce)])) fun _ w29 h29=>?_
   refine ma h29 0 ?_
   refine mW 55 (exec_add _ _ _ _ bO ((d:Int)) 1 (by kernel_rfl) (by kernel_rfl) (((d+1:Nat):Int)) (by omega) (by omega) (by omega) _) ?_
   refine mD h29 [(Value.agg ([(Value.int .i64 ((ke:Int))),(Value.int .i64 ((te:Int))),(Value.int .u64 ((ne:Int))),(Value.slice Be be.length de),(Value.slice Ae le.length ce)]).toArray),(Value.int .i64 (((d+1:Nat):Int)))] (ih hq2 F _ (DVal.mk ke te ne be le) _ ⟨(h29.rd 2 rfl).1,(h29.rd 2 rfl).2 i _ _ hxi hui⟩) (fun w31 h31=>?_)
   refine m_split 57 (!(rightV (DVal.mk ke te ne be le) (d+1))) (by kernel_rfl) (fun b32=>?_) (fun b32=>?_)
   ·
    refine mP (Value.bool false) ?_
    exact ⟨congrArg (fun x=>Ending.returned (Value.bool x)) ((rv2_no hq1 hq2 (rightL_no ts (d+1) (DVal.mk ke te ne be le) (List.mem_of_getElem? hui) (by simpa using b32)) hk2)).symm,h31.below0⟩
   refine mW 58 (exec_add _ _ _ _ bO ((i:Int)) 1 (by kernel_rfl) (by kernel_rfl) ((i:Int)+1) rfl (by omega) (by omega) _) ?_
   exact mK KL22 (hKL22 _ _ ⟨ts.length-(i+1),_,(by omega),(i+1),(by omega),(fun j x hj hx=>(Nat.lt_or_ge j i).elim (fun h=>hr j x h hx) (fun h=>by obtain rfl:j=i:=(by omega);rw [hui] at hx;injection hx with hx;subst hx;simpa using b32)),rfl,pM,h31.sel [1] [0,1,2] (by kernel_rfl) rfl rfl⟩)
  rcases (show (n=0/\b.length=0)∨(¬ n=0)∨(n=0/\¬ b.length=0) by by_cases c1:n=0 <;> by_cases c2:b.length=0 <;> simp [c1,c2]) with ⟨hz1,hz2⟩|hz1|⟨hz1,hz2⟩
  ·
   refine ma h22 0 ?_
   refine mX 61 (.bool true) (Value.bool (((n:Int)) == 0)) (bz_eq hz1) ?_
   refine ma h22 0 ?_
   refine mX 66 (.bool true) (Value.bool (((b.length:Int)) == 0)) (bz_eq hz2) ?_
   refine mP (Value.bool true) ?_
   exact ⟨congrArg (fun x=>Ending.returned (Value.bool x)) ((rv2_t hq1 hq2 (rightL_upto (by omega) hr) hz1 hz2 hk2)).symm,h22.below0⟩
  ·
   refine ma h22 0 ?_
   refine mX 61 (.bool false) (Value.bool (((n:Int)) == 0)) (bz_ne hz1) ?_
   refine mP (Value.bool false) ?_
   exact ⟨congrArg (fun x=>Ending.returned (Value.bool x)) ((rv2_f hq1 hq2 (.inl hz1) hk2)).symm,h22.below0⟩
  refine ma h22 0 ?_
  refine mX 61 (.bool true) (Value.bool (((n:Int)) == 0)) (bz_eq hz1) ?_
  refine ma h22 0 ?_
  refine mX 66 (.bool false) (Value.bool (((b.length:Int)) == 0)) (bz_ne hz2) ?_
  refine mP (Value.bool false) ?_
  exact ⟨congrArg (fun x=>Ending.returned (Value.bool x)) ((rv2_f hq1 hq2 (.inr hz2) hk2)).symm,h22.below0⟩
 have hk2:k≠2:=by omega
 refine mP (Value.bool false) ?_
 exact ⟨congrArg (fun x=>Ending.returned (Value.bool x)) ((rv_k hq1 hq2 hk0 hk1 hk2)).symm,h2.below0⟩
end
section
open Go.RowKit Go.QT
/-- May a value be, so many levels deep: by the code. -/
theorem right_any(m:Nat):∀ (d:Nat),9<=d+m->d<=100->∀ (F:Nat->Prop) (cs:List Value) (v:DVal) (w:World),(rDV F cs v).Φ w->Calls Tryz.prog 125 #[.agg cs.toArray,.int .i64 (d:Int)] w (DPost w (.bool (rightV v d))):=by
 induction m with
 | zero=>intro d h hd F cs v w hv;exact right_step d hd (fun h8=>absurd h8 (by omega)) F cs v w hv
 | succ m ih =>
   intro d h hd F cs v w hv
   by_cases h8:d<=8
   · exact right_step d hd (fun _=>ih (d+1) (by omega) (by omega)) F cs v w hv
   exact right_step d hd (fun h=>absurd h h8) F cs v w hv
/-- The first byte. -/
theorem head_or:((List.range 3).all fun k=>(List.range 31).all fun t=>decide (bits .or .i64 ((k*64:Nat):Int) (t:Int)=((k*64+t:Nat):Int)))=true:=by decide +kernel
theorem head_or'{k t:Nat}(hk:k<=2)(ht:t<=30):bits .or .i64 ((k*64:Nat):Int) (t:Int)=((k*64+t:Nat):Int):=by
 have h1:=List.all_eq_true.1 head_or k (List.mem_range.2 (by omega))
 have h2:=List.all_eq_true.1 h1 t (List.mem_range.2 (by omega))
 exact of_decide_eq_true h2
section
variable{P:Program}{o:Oper}{a:Act}
theorem e_shlI(t t':TypeId)(x y:Operand)(ho:o.op=.binOp .shl t x y t')(m n:Nat)(k:IntKind)(hn:n<64)(hx:a.eval x=.int .i64 (m:Int))(hy:a.eval y=.int k (n:Int))(r:Nat)(hr:m*2 ^ n=r)(hb:r<9223372036854775808)(W:World) :
   (execOp a.eval o).run P W=.ok (.value (.int .i64 ((r:Nat):Int))) W:=by
 subst hr
 have h3:(eqGuard .shl t x y (.int .i64 (m:Int)) (.int k (n:Int))).run P W=.ok () W:=by simp [eqGuard]
 have e:IntKind.i64.wrap ((m:Int)*2 ^ n)=((m*2 ^ n:Nat):Int):=by
   have h2:(2:Int) ^ n=((2 ^ n:Nat):Int):=by simp
   rw [h2,← Int.natCast_mul,IntKind.wrap_i64]
   generalize m*2 ^ n=q at *
   omega
 have h4:(binOp .shl t (.int .i64 (m:Int)) (.int k (n:Int))).run P W=.ok (.int .i64 ((m*2 ^ n:Nat):Int)) W:=by
   have hm:min ((n:Int)).toNat IntKind.i64.bits=n:=by
     show min ((n:Int)).toNat 64=n
     omega
   have h0:¬ ((n:Int)<0):=by omega
   unfold binOp Op.shift
   simp only [if_neg h0,hm,e,Sem.run_pure]
 unfold execOp
 simp only [ho,hx,hy,Sem.run_bind,h3,h4,Result.andThen_ok,Sem.run_pure]
theorem w_8ofI(n:Nat):Value.int .u8 (IntKind.u8.wrap ((n:Nat):Int))=Value.int .u8 (ub (UInt8.ofNat n)):=by
 congr 1
 rw [IntKind.wrap_u8,ub_ofNat]
theorem wrap64_nat'{n:Nat}(h:n<18446744073709551616):Value.int .u64 (IntKind.u64.wrap ((n:Nat):Int))=Value.int .u64 ((n:Nat):Int):=by
 congr 1;rw [IntKind.wrap_u64];omega
end
theorem headB_lo(k t m:Nat)(h:m<128):headB k t m=[UInt8.ofNat (k*64+t),UInt8.ofNat m]:=if_pos h
theorem headB_hi(k t m:Nat)(h:¬ m<128):headB k t m=[UInt8.ofNat (k*64+t),UInt8.ofNat (128+(shortB m).length)]++shortB m:=if_neg h
theorem headB_len(k t m:Nat):(headB k t m).length<=10:=by
 unfold headB
 split
 · simp
 have:=shortB_len m
 simp;omega
end
section
open Go.RowKit Go.QT
theorem head_any(k t m:Nat)(hk:k<=2)(ht:t<=30)(hm:m<=1000000)(w:World):Calls Tryz.prog 128 #[.int .i64 (k:Int),.int .i64 (t:Int),.int .i64 (m:Int)] w (BPost w (headB k t m)):=by
 have hs8:=shortB_len m
 have h0:=Hp.nil (fun _=>False) w
 refine mE 32 ?_
 refine mW 10 (v:=(Value.int .i64 (((k*64:Nat):Int)))) (e_shlI 3 228 (.tmp 9) (.const (Value.int .u64 6)) (by kernel_rfl) k 6 .u64 (by decide) (by kernel_rfl) (by kernel_rfl) (k*64) rfl (by omega) _) ?_
 refine mX 12 (Value.int .i64 (((k*64+t:Nat):Int))) (Value.int .i64 (bits .or .i64 ((k*64:Nat):Int) (t:Int))) (congrArg (Value.int .i64) (head_or' hk ht)) ?_
 refine mX 13 (Value.int .u8 (ub (UInt8.ofNat (((k*64+t)))))) (Value.int .u8 (IntKind.u8.wrap ((((k*64+t)):Nat):Int))) (w_8ofI (((k*64+t)))) ?_
 refine m_if 15 ((m:Int)<128) (by kernel_rfl) (fun b5=>?_) (fun b5=>?_)
 ·
  refine mX 18 (Value.int .u8 (ub (UInt8.ofNat m))) (Value.int .u8 (IntKind.u8.wrap ((m:Nat):Int))) (w_8ofI m) ?_
  refine mT (x_bsl h0 [(UInt8.ofNat (((k*64+t)))),(UInt8.ofNat m)] (by kernel_rfl)) ?_
  rintro _ w7 ⟨g7,rfl,hw7,hg7,hq7,h7⟩
  refine mP (Value.slice (some ⟨g7,0,none⟩) 2 2) ?_
  have hz:=h7.blkOB 0 [(UInt8.ofNat (((k*64+t)))),(UInt8.ofNat m)] rfl (by unfold maxLen;simp)
  exact bpost_of hz 0 rfl (headB_lo k t m (by omega)).symm
 refine mX 21 (Value.int .u64 (((m:Nat):Int))) (Value.int .u64 (IntKind.u64.wrap ((m:Nat):Int))) (wrap64_nat' (by omega)) ?_
 refine mT (x_sb h0 140 [(Value.int .u64 (((m:Nat):Int)))] (by kernel_rfl) (short_any (((m))) (by omega) _) (shortB (((m)))) ((shortB (((m)))).length) rfl rfl) ?_
 rintro _ w9 ⟨A9,c9,rfl,h9⟩
 refine mW 26 (exec_add _ _ _ _ bO 128 (((shortB (((m)))).length:Int)) (by kernel_rfl) (by kernel_rfl) (((128+((shortB (((m)))).length):Nat):Int)) (by omega) (by omega) (by omega) _) ?_
 refine mX 27 (Value.int .u8 (ub (UInt8.ofNat (((128+((shortB (((m)))).length))))))) (Value.int .u8 (IntKind.u8.wrap ((((128+((shortB (((m)))).length))):Nat):Int))) (w_8ofI (((128+((shortB (((m)))).length))))) ?_
 refine mT (x_bsl h9 [(UInt8.ofNat (((k*64+t)))),(UInt8.ofNat (((128+((shortB (((m)))).length)))))] (by kernel_rfl)) ?_
 rintro _ w11 ⟨g11,rfl,hw11,hg11,hq11,h11⟩
 refine mT (x_bs h11 25 ([(Value.slice (some ⟨g11,0,none⟩) 2 2),(Value.slice A9 ((shortB (((m)))).length) c9)]) 2 (by kernel_rfl)) ?_
 rintro _ w12 ⟨g12,rfl,h12⟩
 refine mT (x_bytesE h12 127 [(Value.slice (some ⟨g12,0,none⟩) 2 2)] (by kernel_rfl) (joined_any (Value.slice (some ⟨g12,0,none⟩) 2 2) [[(UInt8.ofNat (((k*64+t)))),(UInt8.ofNat (((128+((shortB (((m)))).length)))))],shortB (((m)))] _ (bs2 (h12.at_ 0 rfl) (SB.blk (h12.at_ 1 rfl) (by kernel_rfl) (by kernel_rfl) (by kernel_rfl)) (h12.rd 0 rfl)) (by simp;omega)) (([(UInt8.ofNat (((k*64+t)))),(UInt8.ofNat (((128+((shortB (((m)))).length)))))])++(shortB (((m))))) ((([(UInt8.ofNat (((k*64+t)))),(UInt8.ofNat (((128+((shortB (((m)))).length)))))])++(shortB (((m))))).length) (by simp) rfl) ?_
 rintro _ w13 ⟨A13,c13,rfl,h13⟩
 refine mP (Value.slice A13 ((([(UInt8.ofNat (((k*64+t)))),(UInt8.ofNat (((128+((shortB (((m)))).length)))))])++(shortB (((m))))).length) c13) ?_
 exact bpost_of h13 0 rfl (headB_hi k t m (by omega)).symm
end
section
open Go.RowKit Go.QT
section
variable{P:Program}{o:Oper}{a:Act}{w w':World}{F0:Nat->Prop}{w0:World}{ro rs:List Res}
/-- Bytes: new ones, or a part of what the call was given. -/
def BodyPost(G:Nat->Prop)(w:World)(l:Bytes)(e:Ending)(w':World):Prop:=∃ v,e=.returned v/\SB w' v l/\Below w.heap.size w w'/\∀ q,(rSB v l).F q->w.heap.size<=q∨G q
theorem bodypost_sb{G:Nat->Prop}{L l:Bytes}{v:Value}(h:Hp (fun _=>False) w0 w ro rs)(i:Nat)(hi:rs[i]?=some (rSB v l))(e:l=L):BodyPost G w0 L (.returned v) w:=by
 subst e
 refine ⟨v,rfl,h.own i _ hi,h.below0,fun q hq=>?_⟩
 rcases h.mine i _ hi q hq with h3|h3
 · exact h3.elim
 exact .inl h3
theorem bodypost_ob{G:Nat->Prop}{L l:Bytes}{v:Value}(h:Hp (fun _=>False) w0 w ro rs)(i:Nat)(hi:rs[i]?=some (rOB v l))(e:l=L):BodyPost G w0 L (.returned v) w:=by
 subst e
 refine ⟨v,rfl,OB.sb (h.own i _ hi),h.below0,fun q hq=>?_⟩
 rcases h.mine i _ hi q hq.2 with h3|h3
 · exact h3.elim
 exact .inl h3
theorem bodypost_ro{G:Nat->Prop}{L l:Bytes}{v:Value}(h:Hp (fun _=>False) w0 w ro rs)(i:Nat)(hi:ro[i]?=some (rSB v l))(hG:∀ q,(rSB v l).F q->G q)(e:l=L):BodyPost G w0 L (.returned v) w:=by
 subst e
 exact ⟨v,rfl,h.red i _ hi,h.below0,fun q hq=>.inr (hG q hq)⟩
theorem x_sbO(h:Hp F0 w0 w ro rs){l:Bytes}(fn:FuncId)(al:List Value)(hp:pureVal P (execOp a.eval o)=some (.enter fn al.toArray))(hc:Calls P fn al.toArray w (SbPost w l))(r:Bytes)(n:Nat)(hr:r=l)(hn:n=r.length) :
   OpTo P o a w (fun u w'=>∃ A cc,u=.slice A n cc/\Hp F0 w0 w' ro (rSB (.slice A n cc) r::rs)):=
 OpTo.enter fn al hp hc fun e w' hq=>by
   subst hr;subst hn
   obtain ⟨v,he,hs,hb,hF⟩:=hq
   obtain ⟨A,cc,rfl,_⟩:=id hs
   exact ⟨_,he,A,cc,rfl,h.newS hb (rSB _ r) hs (fun q hq=>hF q hq.2)⟩
/-- A call of body: what it leaves is only read. -/
theorem x_body(h:Hp F0 w0 w ro rs)(j:Nat){s:Res}(hj:ro[j]?=some s){l:Bytes}(fn:FuncId)(al:List Value)(hp:pureVal P (execOp a.eval o)=some (.enter fn al.toArray))(hc:Calls P fn al.toArray w (BodyPost s.F w l))(r:Bytes)(n:Nat)(hr:r=l)(hn:n=r.length) :
   OpTo P o a w (fun u w'=>∃ A cc,u=.slice A n cc/\Hp F0 w0 w' (rSB (.slice A n cc) r::ro) rs):=
 OpTo.enter fn al hp hc fun e w' hq=>by
   subst hr;subst hn
   obtain ⟨v,he,hs,hb,hF⟩:=hq
   obtain ⟨A,cc,rfl,_⟩:=id hs
   refine ⟨_,he,A,cc,rfl,(h.below hb).addR _ hs fun k t ht q h1 h2=>?_⟩
   rcases hF q h1 with h3|h3
   · exact absurd (t.lt (h.own k t ht) q h2) (Nat.not_lt.2 h3)
   exact h.rdis j k s t hj ht q h3 h2
end
section
variable{k t n d:Nat}{b:Bytes}{ts:List DVal}
theorem bodyV_0(hk:k=0):bodyV (.mk k t n b ts)=shortB n:=by subst hk;rfl
theorem bodyV_1(hk:k=1):bodyV (.mk k t n b ts)=b:=by subst hk;rfl
theorem bodyV_2(h0:k≠0)(h1:k≠1):bodyV (.mk k t n b ts)=wrL ts:=(if_neg h0).trans (if_neg h1)
theorem rightV_le(h:rightV (.mk k t n b ts) d=true):k<=2/\t<=30/\d<=8:=by
 rw [rightV] at h
 simp only [Bool.and_eq_true,decide_eq_true_eq] at h
 refine ⟨?_,h.1.1,h.1.2⟩
 by_cases h2:k<=2
 · exact h2
 rw [if_neg (by omega),if_neg (by omega),if_neg (by omega)] at h;exact absurd h.2 (by simp)
theorem rightV_l(h:rightV (.mk k t n b ts) d=true)(h0:k≠0)(h1:k≠1):rightL ts (d+1)=true:=by
 have h2:=(rightV_le h).1
 obtain rfl:k=2:=by omega
 rw [rightV] at h
 simp only [Bool.and_eq_true,if_pos,if_neg h0,if_neg h1] at h
 exact h.2.1.1
end
theorem rightL_at:∀ (l:List DVal) (d i:Nat) (u:DVal),l[i]?=some u->rightL l d=true->rightV u d=true
 | [],_,i,u,h,_=>by simp at h
 | y::r,d,0,u,h,hr=>by
   have:y=u:=by simpa using h
   subst this
   rw [rightL,Bool.and_eq_true] at hr;exact hr.1
 | y::r,d,i+1,u,h,hr=>by
   rw [rightL,Bool.and_eq_true] at hr
   exact rightL_at r d i u (by simpa using h) hr.2
theorem wrL_take_le:∀ (l:List DVal) (i:Nat),(wrL (l.take i)).length<=(wrL l).length
 | [],i=>by simp
 | y::r,0=>by simp [wrL]
 | y::r,i+1=>by
   have:=wrL_take_le r i
   simp only [List.take_succ_cons,wrL,List.length_append];omega
theorem wrV_len(v:DVal):(bodyV v).length<=(wrV v).length:=by rw [wrV_eq];simp
end
section
open Go.RowKit Go.QT
theorem body_step(d:Nat)(ih:∀ (F:Nat->Prop) (cs:List Value) (v:DVal) (w:World),(rDV F cs v).Φ w->rightV v (d+1)=true->(wrV v).length<=1000000->Calls Tryz.prog 103 #[.agg cs.toArray] w (BPost w (wrV v)))
   (F:Nat->Prop) (cs:List Value) (v:DVal) (w:World) (hv:(rDV F cs v).Φ w) (hr:rightV v d=true) (hn:(bodyV v).length<=1000000):Calls Tryz.prog 126 #[.agg cs.toArray] w (BodyPost F w (bodyV v)):=by
 obtain ⟨k,t,n,b,ts⟩:=v
 obtain ⟨B,dd,A,c,xs,rfl,hbb,hxx,hll,hn6,hbF,hLL⟩:=dv_open hv
 simp only [DVal.kind,DVal.tag,DVal.n,DVal.b,DVal.l] at *
 have hcap:ts.length<=9223372036854775807:=by have h1:=hxx.le;have h2:=hxx.cap;unfold maxLen at h2;omega
 have hk2:=rightV_le hr
 have h0:=((Hp.ro1 (rDL F xs ts) hLL).addR (rSB (.slice B b.length dd) b) hbb (by simp)).addR (rRV 5 A c xs) hxx (by simp)
 refine mE 30 ?_
 refine mN h0 196 ([(Value.int .i64 ((k:Int))),(Value.int .i64 ((t:Int))),(Value.int .u64 ((n:Int))),(Value.slice B b.length dd),(Value.slice A ts.length c)]) fun g2 w2 h2=>?_
 refine ma h2 0 ?_
 refine m_ifeq 8 ((k:Int)) 0 (by kernel_rfl) (fun b6=>?_) (fun b6=>?_)
 ·
  have hk0:k=0:=by omega
  refine ma h2 0 ?_
  refine mT (x_sbO h2 140 [(Value.int .u64 ((n:Int)))] (by kernel_rfl) (short_any n hn6 _) (shortB n) ((shortB n).length) rfl rfl) ?_
  rintro _ w8 ⟨A8,c8,rfl,h8⟩
  refine mP (Value.slice A8 ((shortB n).length) c8) ?_
  exact bodypost_sb h8 0 rfl (bodyV_0 hk0).symm
 have hk0:k≠0:=by omega
 refine m_ifeq 13 ((k:Int)) 1 (by kernel_rfl) (fun b10=>?_) (fun b10=>?_)
 ·
  have hk1:k=1:=by omega
  refine ma h2 0 ?_
  refine mP (Value.slice B b.length dd) ?_
  exact bodypost_ro h2 1 rfl hbF (bodyV_1 hk1).symm
 have hk1:k≠1:=by omega
 have h15:=h2.obNil
 have hL:=rightV_l hr hk0 hk1
 have hB:=bodyV_2 (t:=t) (n:=n) (b:=b) (ts:=ts) hk0 hk1
 rw [hB] at hn
 refine ma h15 1 ?_
 refine mL (fun mM xX aA wL=>∃ (i:Nat) (l:Bytes) (Av:Option Addr) (cv:Nat),(i<=ts.length)/\(l=wrL (ts.take i))/\mM=ts.length-i/\aA=patch xX 30 [(2,(Value.slice none 0 0)),(3,(Value.slice Av ((l:Bytes).length) cv)),(18,(Value.slice A ts.length c)),(19,(Value.int .i64 ((ts.length:Int)))),(20,(Value.int .i64 ((i:Int))))]/\Hp (fun _=>False) w wL [rRV 5 A c xs,rSB ((Value.slice B b.length dd)) b,rDL F xs ts] [rOB ((Value.slice Av ((l:Bytes).length) cv)) l,rBlk g2 196 ([(Value.int .i64 ((k:Int))),(Value.int .i64 ((t:Int))),(Value.int .u64 ((n:Int))),(Value.slice B b.length dd),(Value.slice A ts.length c)])]) ⟨_,_,0,(([]:Bytes)),none,0,(by omega),(by simp [wrL]),rfl,pM,h15.sel [0,1] [0,1,2] (by kernel_rfl) rfl rfl⟩ ?_
 rintro _ x16 _ w16 ⟨i,l,Av,cv,hi,hl,rfl,rfl,h16⟩ KL16 hKL16
 refine mAt ?_
 refine m_if 21 ((i:Int)<(ts.length:Int)) (by kernel_rfl) (fun b19=>?_) (fun b19=>?_)
 ·
  obtain ⟨xe,u,hxi,hui,hxe⟩:=dl_at (h16.rd 2 rfl) hll i (by omega)
  obtain ⟨ke,te,ne,be,le⟩:=u
  obtain ⟨Be,de,Ae,ce,xse,rfl,_,_,_,_,_,_⟩:=dv_open hxe
  clear hxe
  simp only [DVal.kind,DVal.tag,DVal.n,DVal.b,DVal.l] at *
  have hz1:=congrArg List.length (wrL_take ts i _ hui)
  rw [List.length_append] at hz1
  have hz2:=wrL_take_le ts (i+1)
  have hz3:=congrArg List.length hl
  have hru:=rightL_at ts (d+1) i _ hui hL
  refine mW 22 (eIx (RV.lenIs (n:=ts.length) (h16.rd 0 rfl) hll).2 i ts.length (RV.lenIs (n:=ts.length) (h16.rd 0 rfl) hll).1 (by omega) 194 (.tmp 18) (.tmp 20) .i64 196) ?_
  refine mW 23 (e_elemsN (RV.lenIs (n:=ts.length) (h16.rd 0 rfl) hll).2 i 0 ([(Value.int .i64 ((ke:Int))),(Value.int .i64 ((te:Int))),(Value.int .u64 ((ne:Int))),(Value.slice Be be.length de),(Value.slice Ae le.length ce)]) hxi 196 (.tmp 22) (by kernel_rfl) ([(Value.int .i64 ((ke:Int))),(Value.int .i64 ((te:Int))),(Value.int .u64 ((ne:Int))),(Value.slice Be be.length de),(Value.slice Ae le.length ce)]) (by kernel_rfl) (by kernel_rfl) (by kernel_rfl)) ?_
  refine mN h16 196 ([(Value.int .i64 0),(Value.int .i64 0),(Value.int .u64 0),(Value.slice none 0 0),(Value.slice none 0 0)]) fun g22 w22 h22=>?_
  refine mT (xSs h22 0 196 (.tmp 5) (.tmp 23) 0 ([(Value.int .i64 ((ke:Int))),(Value.int .i64 ((te:Int))),(Value.int .u64 ((ne:Int))),(Value.slice Be be.length de),(Value.slice Ae le.length ce)]) ([(Value.int .i64 ((ke:Int))),(Value.int .i64 ((te:Int))),(Value.int .u64 ((ne:Int))),(Value.slice Be be.length de),(Value.slice Ae le.length ce)])) fun _ w23 h23=>?_
  refine ma h23 0 ?_
  refine mT (x_bytesE h23 103 [(Value.agg ([(Value.int .i64 ((ke:Int))),(Value.int .i64 ((te:Int))),(Value.int .u64 ((ne:Int))),(Value.slice Be be.length de),(Value.slice Ae le.length ce)]).toArray)] (by kernel_rfl) (ih F _ (DVal.mk ke te ne be le) _ ⟨(h23.rd 2 rfl).1,(h23.rd 2 rfl).2 i _ _ hxi hui⟩ hru (by omega)) (wrV (DVal.mk ke te ne be le)) ((wrV (DVal.mk ke te ne be le)).length) rfl rfl) ?_
  rintro _ w24 ⟨A24,c24,rfl,h24⟩
  refine mT (x_appG h24 2 rfl (.tmp 24) (.tmp 26) (by kernel_rfl) (Value.slice A24 ((wrV (DVal.mk ke te ne be le)).length) c24) (by kernel_rfl) (by kernel_rfl) (OB.sb (h24.at_ 0 rfl)) (by omega) (l++(wrV (DVal.mk ke te ne be le))) ((l++(wrV (DVal.mk ke te ne be le))).length) rfl rfl) ?_
  rintro _ w25 ⟨A25,c25,rfl,h25⟩
  refine mW 28 (exec_add _ _ _ _ bO ((i:Int)) 1 (by kernel_rfl) (by kernel_rfl) (((i+1:Nat):Int)) (by omega) (by omega) (by omega) _) ?_
  exact mK KL16 (hKL16 _ _ ⟨ts.length-(i+1),_,(by omega),(i+1),((l++wrV (DVal.mk ke te ne be le))),A25,c25,(by omega),(by rw [wrL_take ts i _ hui,← hl]),rfl,pM,h25.sel [2,3] [0,1,2] (by kernel_rfl) rfl rfl⟩)
 refine mP (Value.slice Av ((l:Bytes).length) cv) ?_
 exact bodypost_ob h16 0 rfl (by rw [hB,hl,show i=ts.length by omega,List.take_length])
theorem write_step(d:Nat)(ih:∀ (F:Nat->Prop) (cs:List Value) (v:DVal) (w:World),(rDV F cs v).Φ w->rightV v (d+1)=true->(wrV v).length<=1000000->Calls Tryz.prog 103 #[.agg cs.toArray] w (BPost w (wrV v)))
   (F:Nat->Prop) (cs:List Value) (v:DVal) (w:World) (hv:(rDV F cs v).Φ w) (hr:rightV v d=true) (hn:(wrV v).length<=1000000):Calls Tryz.prog 103 #[.agg cs.toArray] w (BPost w (wrV v)):=by
 have hbn:=Nat.le_trans (wrV_len v) hn
 have hbody:=body_step d ih F cs v
 obtain ⟨k,t,n,b,ts⟩:=v
 obtain ⟨B,dd,A,c,xs,rfl,hbb,hxx,hll,hn6,hbF,hLL⟩:=dv_open hv
 simp only [DVal.kind,DVal.tag,DVal.n,DVal.b,DVal.l] at *
 have hcap:ts.length<=9223372036854775807:=by have h1:=hxx.le;have h2:=hxx.cap;unfold maxLen at h2;omega
 have hk2:=rightV_le hr
 have hh:=headB_len k t (bodyV (DVal.mk k t n b ts)).length
 have h0:=Hp.ro1 (rDV F _ _) hv
 refine mE 16 ?_
 refine mN h0 196 ([(Value.int .i64 ((k:Int))),(Value.int .i64 ((t:Int))),(Value.int .u64 ((n:Int))),(Value.slice B b.length dd),(Value.slice A ts.length c)]) fun g2 w2 h2=>?_
 refine ma h2 0 ?_
 refine mT (x_body h2 0 rfl 126 [(Value.agg ([(Value.int .i64 ((k:Int))),(Value.int .i64 ((t:Int))),(Value.int .u64 ((n:Int))),(Value.slice B b.length dd),(Value.slice A ts.length c)]).toArray)] (by kernel_rfl) (hbody _ (h2.rd 0 rfl) hr hbn) (bodyV (DVal.mk k t n b ts)) ((bodyV (DVal.mk k t n b ts)).length) rfl rfl) ?_
 rintro _ w4 ⟨A4,c4,rfl,h4⟩
 refine ma h4 0 ?_
 refine ma h4 0 ?_
 refine mT (x_bytesE h4 128 [(Value.int .i64 ((k:Int))),(Value.int .i64 ((t:Int))),(Value.int .i64 (((bodyV (DVal.mk k t n b ts)).length:Int)))] (by kernel_rfl) (head_any k t (bodyV (DVal.mk k t n b ts)).length hk2.1 hk2.2.1 hbn _) (headB k t (bodyV (DVal.mk k t n b ts)).length) ((headB k t (bodyV (DVal.mk k t n b ts)).length).length) rfl rfl) ?_
 rintro _ w6 ⟨A6,c6,rfl,h6⟩
 refine mT (x_bs h6 25 ([(Value.slice A6 ((headB k t (bodyV (DVal.mk k t n b ts)).length).length) c6),(Value.slice A4 ((bodyV (DVal.mk k t n b ts)).length) c4)]) 2 (by kernel_rfl)) ?_
 rintro _ w7 ⟨g7,rfl,h7⟩
 refine mT (x_bytesE h7 127 [(Value.slice (some ⟨g7,0,none⟩) 2 2)] (by kernel_rfl) (joined_any (Value.slice (some ⟨g7,0,none⟩) 2 2) [headB k t (bodyV (DVal.mk k t n b ts)).length,bodyV (DVal.mk k t n b ts)] _ (bs2 (h7.at_ 0 rfl) (OB.sb (h7.at_ 1 rfl)) (h7.rd 0 rfl)) (by simp only [List.flatten_cons,List.flatten_nil,List.length_append,List.length_nil];omega)) ((headB k t (bodyV (DVal.mk k t n b ts)).length)++(bodyV (DVal.mk k t n b ts))) (((headB k t (bodyV (DVal.mk k t n b ts)).length)++(bodyV (DVal.mk k t n b ts))).length) (by simp) rfl) ?_
 rintro _ w8 ⟨A8,c8,rfl,h8⟩
 refine mP (Value.slice A8 (((headB k t (bodyV (DVal.mk k t n b ts)).length)++(bodyV (DVal.mk k t n b ts))).length) c8) ?_
 exact bpost_of h8 0 rfl (wrV_eq (DVal.mk k t n b ts)).symm
/-- A value's bytes: by the code. -/
theorem write_any(m:Nat):∀ (d:Nat),9<=d+m->∀ (F:Nat->Prop) (cs:List Value) (v:DVal) (w:World),(rDV F cs v).Φ w->rightV v d=true->(wrV v).length<=1000000->Calls Tryz.prog 103 #[.agg cs.toArray] w (BPost w (wrV v)):=by
 induction m with
 | zero=>intro d h F cs v w hv hr hn;obtain ⟨k,t,n,b,ts⟩:=v;exact absurd (rightV_le hr).2.2 (by omega)
 | succ m ih=>intro d h F cs v w hv hr hn;exact write_step d (ih (d+1) (by omega)) F cs v w hv hr hn
theorem Right_any(F:Nat->Prop)(cs:List Value)(v:DVal)(w:World)(hv:(rDV F cs v).Φ w):Calls Tryz.prog 102 #[.agg cs.toArray] w (DPost w (.bool (rightV v 1))):=by
 obtain ⟨k,t,n,b,ts⟩:=v
 obtain ⟨B,dd,A,c,xs,rfl,hbb,hxx,hll,hn6,hbF,hLL⟩:=dv_open hv
 simp only [DVal.kind,DVal.tag,DVal.n,DVal.b,DVal.l] at *
 have hcap:ts.length<=9223372036854775807:=by have h1:=hxx.le;have h2:=hxx.cap;unfold maxLen at h2;omega
 have h0:=Hp.ro1 (rDV F _ _) hv
 refine mE 5 ?_
 refine mN h0 196 ([(Value.int .i64 ((k:Int))),(Value.int .i64 ((t:Int))),(Value.int .u64 ((n:Int))),(Value.slice B b.length dd),(Value.slice A ts.length c)]) fun g2 w2 h2=>?_
 refine ma h2 0 ?_
 refine mD h2 [(Value.agg ([(Value.int .i64 ((k:Int))),(Value.int .i64 ((t:Int))),(Value.int .u64 ((n:Int))),(Value.slice B b.length dd),(Value.slice A ts.length c)]).toArray),(Value.int .i64 1)] (right_any 8 1 (by omega) (by omega) F _ (DVal.mk k t n b ts) _ (h2.rd 0 rfl)) (fun w4 h4=>?_)
 exact mQ h4
/-- What der.Write leaves of a value that may be. -/
def WrPost(w:World)(l:Bytes)(e:Ending)(w':World):Prop:=∃ A c,e=.returned (.tuple #[.slice A l.length c,.int .i64 0])/\Hp (fun _=>False) w w' [] [rOB (.slice A l.length c) l]
theorem Write_any(F:Nat->Prop)(cs:List Value)(v:DVal)(w:World)(hv:(rDV F cs v).Φ w)(hr:rightV v 1=true)(hn:(wrV v).length<=4096):Calls Tryz.prog 73 #[.agg cs.toArray] w (WrPost w (wrV v)):=by
 obtain ⟨k,t,n,b,ts⟩:=v
 obtain ⟨B,dd,A,c,xs,rfl,hbb,hxx,hll,hn6,hbF,hLL⟩:=dv_open hv
 simp only [DVal.kind,DVal.tag,DVal.n,DVal.b,DVal.l] at *
 have hcap:ts.length<=9223372036854775807:=by have h1:=hxx.le;have h2:=hxx.cap;unfold maxLen at h2;omega
 have h0:=Hp.ro1 (rDV F _ _) hv
 refine mE 14 ?_
 refine mN h0 196 ([(Value.int .i64 ((k:Int))),(Value.int .i64 ((t:Int))),(Value.int .u64 ((n:Int))),(Value.slice B b.length dd),(Value.slice A ts.length c)]) fun g2 w2 h2=>?_
 refine ma h2 0 ?_
 refine mT (x_dp (v:=.bool true) h2 102 [(Value.agg ([(Value.int .i64 ((k:Int))),(Value.int .i64 ((t:Int))),(Value.int .u64 ((n:Int))),(Value.slice B b.length dd),(Value.slice A ts.length c)]).toArray)] (by kernel_rfl) (by have hz:=Right_any F _ (DVal.mk k t n b ts) _ (h2.rd 0 rfl);rw [hr] at hz;exact hz)) ?_
 rintro _ w5 ⟨rfl,h5⟩
 refine ma h5 0 ?_
 refine mT (x_bytesE h5 103 [(Value.agg ([(Value.int .i64 ((k:Int))),(Value.int .i64 ((t:Int))),(Value.int .u64 ((n:Int))),(Value.slice B b.length dd),(Value.slice A ts.length c)]).toArray)] (by kernel_rfl) (write_any 8 1 (by omega) F _ (DVal.mk k t n b ts) _ (h5.rd 0 rfl) hr (by omega)) (wrV (DVal.mk k t n b ts)) ((wrV (DVal.mk k t n b ts)).length) rfl rfl) ?_
 rintro _ w7 ⟨A7,c7,rfl,h7⟩
 refine mX 12 (.bool false) (Value.bool (decide (((wrV (DVal.mk k t n b ts)).length:Int)>4096))) (by simp;omega) ?_
 refine mP (Value.tuple #[(Value.slice A7 ((wrV (DVal.mk k t n b ts)).length) c7),(Value.int .i64 0)]) ?_
 exact ⟨_,_,rfl,h7.sel [0] [] (by decide) rfl rfl⟩
end
section
theorem getN_put8(n:Nat)(h:n<18446744073709551616):getN (put8 n)=n:=by
 have e:put8 n=[UInt8.ofNat (n / 72057594037927936),UInt8.ofNat (n / 281474976710656),UInt8.ofNat (n / 1099511627776),UInt8.ofNat (n / 4294967296),UInt8.ofNat (n / 16777216),UInt8.ofNat (n / 65536),UInt8.ofNat (n / 256),UInt8.ofNat (n / 1)]:=rfl
 have f:∀ x,nb (UInt8.ofNat x)=x % 256:=fun x=>by unfold nb;simp
 rw [e]
 simp only [getN,List.foldl_cons,List.foldl_nil,f]
 omega
end
section
open Go.RowKit Go.QT
theorem foldN(r:Bytes):∀ x:Nat,r.foldl (fun n c=>256*n+nb c) x=x*256 ^ r.length+getN r:=by
 induction r with
 | nil=>intro x;simp [getN]
 | cons a r ih =>
   intro x
   have h1:=ih (256*x+nb a)
   have h2:=ih (256*0+nb a)
   unfold getN at *
   rw [List.foldl_cons,List.foldl_cons,h1,h2,List.length_cons,Nat.pow_succ,Nat.add_mul,Nat.add_mul]
   have:256*x*256 ^ r.length=x*(256 ^ r.length*256):=by rw [Nat.mul_comm 256 x,Nat.mul_assoc,Nat.mul_comm 256]
   omega
theorem getN_cons(a:UInt8)(r:Bytes):getN (a::r)=nb a*256 ^ r.length+getN r:=by
 have:=foldN r (nb a)
 show r.foldl (fun n c=>256*n+nb c) (256*0+nb a)=_
 rw [Nat.mul_zero,Nat.zero_add];exact this
theorem getN_zero(r:Bytes):getN (0::r)=getN r:=by
 have:nb (0:UInt8)=0:=by unfold nb;rfl
 rw [getN_cons,this,Nat.zero_mul,Nat.zero_add]
theorem getN_strip:∀ l:Bytes,getN (stripZ l)=getN l
 | []=>rfl
 | [_]=>rfl
 | a::b::r=>by
   rw [stripZ]
   split
   · rename_i h;rw [getN_strip (b::r),h,getN_zero]
   rfl
theorem getN_short{n:Nat}(h:n<18446744073709551616):getN (shortB n)=n:=by
 unfold shortB;rw [getN_strip,getN_put8 n h]
theorem strip_lead:∀ l:Bytes,1<(stripZ l).length->gb (stripZ l) 0≠0
 | [],h=>by simp [stripZ] at h
 | [_],h=>by simp [stripZ] at h
 | a::b::r,h=>by
   rw [stripZ] at h ⊢
   split
   · rename_i h0;rw [if_pos h0] at h;exact strip_lead (b::r) h
   rename_i h0;exact h0
theorem short_lead(n:Nat)(h:1<(shortB n).length):gb (shortB n) 0≠0:=strip_lead _ h
theorem nb_pos{x:UInt8}(h:x≠0):0<nb x:=by
 rcases Nat.eq_zero_or_pos (nb x) with h0|h0
 · exact absurd (UInt8.toNat_inj.1 (by unfold nb at h0;simpa using h0)) h
 exact h0
theorem lead_ge(l:Bytes)(h:1<l.length)(h0:gb l 0≠0):256 ^ (l.length-1)<=getN l:=by
 match l,h with
 | a::r,_ =>
   have h1:=nb_pos (x:=a) h0
   rw [getN_cons,List.length_cons,Nat.add_sub_cancel]
   have:=Nat.mul_le_mul_right (256 ^ r.length) h1
   omega
/-- A length that has bytes of its own has one or two. -/
theorem short_two{m:Nat}(h0:128<=m)(h:m<65536):((shortB m).length=1/\m<256)∨((shortB m).length=2/\256<=m):=by
 have hg:=getN_short (n:=m) (by omega)
 have hne:=List.length_pos_iff.2 (shortB_ne m)
 have hlt:=getN_lt (shortB m) (shortB m).length (Nat.le_refl _)
 rw [List.take_length,hg] at hlt
 by_cases h1:(shortB m).length=1
 · rw [h1] at hlt;exact .inl ⟨h1,by omega⟩
 have hge:=lead_ge (shortB m) (by omega) (short_lead m (by omega))
 rw [hg] at hge
 by_cases h2:(shortB m).length=2
 · rw [h2] at hge;exact .inr ⟨h2,by omega⟩
 exfalso
 have h3:256 ^ 2<=256 ^ ((shortB m).length-1):=Nat.pow_le_pow_right (by omega) (by omega)
 omega
theorem nb_ofNat{n:Nat}(h:n<256):nb (UInt8.ofNat n)=n:=by
 unfold nb;rw [UInt8.toNat_ofNat'];omega
/-- The second byte says how many follow .. -/
theorem head_lo1(k t:Nat){m:Nat}(h:m<128)(r:Bytes):nb (gb (headB k t m++r) 1)=m:=by
 rw [headB_lo _ _ _ h];exact nb_ofNat (by omega)
/-- .. or how many bytes say it. -/
theorem head_hi1(k t:Nat){m:Nat}(h:¬ m<128)(r:Bytes):nb (gb (headB k t m++r) 1)=128+(shortB m).length:=by
 rw [headB_hi _ _ _ h];have:=shortB_len m;exact nb_ofNat (by omega)
theorem head_0(k t m:Nat)(hk:k<=2)(ht:t<=30)(r:Bytes):nb (gb (headB k t m++r) 0)=k*64+t:=by
 by_cases h:m<128
 · rw [headB_lo _ _ _ h];exact nb_ofNat (by omega)
 rw [headB_hi _ _ _ h];exact nb_ofNat (by omega)
theorem head_hi2(k t:Nat){m:Nat}(h:¬ m<128)(r:Bytes):((headB k t m++r).take (2+(shortB m).length)).drop 2=shortB m:=by
 rw [headB_hi _ _ _ h]
 have e:2+(shortB m).length=([UInt8.ofNat (k*64+t),UInt8.ofNat (128+(shortB m).length)]++shortB m).length:=by simp;omega
 rw [e,List.take_left];rfl
theorem head_loL(k t:Nat){m:Nat}(h:m<128):(headB k t m).length=2:=by rw [headB_lo _ _ _ h];rfl
theorem head_hiL(k t:Nat){m:Nat}(h:¬ m<128):(headB k t m).length=2+(shortB m).length:=by rw [headB_hi _ _ _ h];simp;omega
theorem u64_ub(x:UInt8){m:Nat}(h:nb x=m):Value.int .u64 (IntKind.u64.wrap (ub x))=Value.int .u64 (m:Int):=by
 have:=nb_lt x
 congr 1;rw [IntKind.wrap_u64];unfold ub nb at *;omega
theorem i64_nat{m:Nat}(h:m<9223372036854775808):Value.int .i64 (IntKind.i64.wrap ((m:Nat):Int))=Value.int .i64 (m:Int):=by
 congr 1;rw [IntKind.wrap_i64];omega
theorem u64_sub{m n p:Nat}(h:m=n+p)(hm:m<18446744073709551616):Value.int .u64 (IntKind.u64.wrap ((m:Nat)-(n:Nat):Int))=Value.int .u64 (p:Int):=by
 congr 1;rw [IntKind.wrap_u64];omega
section
variable{o:Oper}{a:Act}{w:World}{F0:Nat->Prop}{w0:World}{ro rs:List Res}
theorem x_getD(h:Hp F0 w0 w ro rs)(l:Bytes)(bv:Value)(hp:pureVal Tryz.prog (execOp a.eval o)=some (.enter 61 #[bv]))(hb:SB w bv l)(h0:l.length≠0)(h8:l.length<=8)(n:Nat)(hn:getN l=n) :
   OpTo Tryz.prog o a w (fun u w'=>u=.tuple #[.int .u64 ((n:Nat):Int),.bool true]/\Hp F0 w0 w' ro rs):=
 OpTo.enter 61 [bv] hp (get_any bv l w hb) fun e w' hq=>by
   obtain ⟨he,m,rfl⟩:=hq
   rw [getP_yes l h0 h8,Option.getD_some,hn] at he
   exact ⟨_,he,rfl,h.drewN m⟩
end
end
section
open Go.RowKit Go.QT
theorem size_lo(L:Bytes)(m:Nat)(h1:nb (gb L 1)=m)(hm:m<128)(hl:2+m<=L.length)(hx:L.length<=1000000)(A:Option Addr)(c:Nat)(w:World)(hv:SB w (.slice A L.length c) L):Calls Tryz.prog 129 #[.slice A L.length c] w (DPost w (.tuple #[.int .i64 (m:Int),.int .i64 2,.int .i64 0])):=by
 have h0:=Hp.ro1 (rSB (.slice A L.length c) L) hv
 refine mE 61 ?_
 refine mX 10 (.bool false) (Value.bool (decide ((L.length:Int)<2))) (by simp;omega) ?_
 refine mW 12 (eIx (SB.rvn (h0.rd 0 rfl)).2 1 L.length (SB.rvn (h0.rd 0 rfl)).1 (by omega) 25 (.tmp 11) (.const (Value.int .i64 1)) .i64 5) ?_
 refine mW 13 (eEl (SB.rvn (h0.rd 0 rfl)).2 1 0 ([(Value.int .u8 (ub (gb (L) (1))))]) (bx_get _ _ (by omega)) 5 (.tmp 12) (Value.int .u8 (ub (gb (L) (1))))) ?_
 refine mX 14 (Value.int .u64 ((m:Int))) (Value.int .u64 (IntKind.u64.wrap (ub (gb (L) (1))))) (u64_ub _ h1) ?_
 refine mX 16 (.bool false) (Value.bool (decide ((m:Int) ≥ 128))) (by simp;omega) ?_
 refine mW 55 (exec_sub _ _ _ _ bO ((L.length:Int)) 2 (by kernel_rfl) (by kernel_rfl) ((((L.length)-2:Nat):Int)) (by omega) (by omega) (by omega) _) ?_
 refine mX 56 (Value.int .u64 ((((L.length)-2:Nat):Int))) (Value.int .u64 (IntKind.u64.wrap ((((L.length)-2:Nat):Int)))) (wrap_u64_is (by omega) (by omega)) ?_
 refine mX 57 (.bool false) (Value.bool (decide ((m:Int)>(((L.length)-2:Nat):Int)))) (by simp;omega) ?_
 refine mX 59 (Value.int .i64 ((m:Int))) (Value.int .i64 (IntKind.i64.wrap ((m:Int)))) (i64_nat (by omega)) ?_
 exact mQ h0
theorem size_hi(L S:Bytes)(m K:Nat)(h1:nb (gb L 1)=128+K)(hK:(K=1/\m<256)∨(K=2/\256<=m))(hm:128<=m)(hc:(L.take (2+K)).drop 2=S)(hS:getN S=m)(hSl:S.length=K)(hl:2+K+m<=L.length)(hx:L.length<=1000000)(A:Option Addr)(c:Nat)(w:World)(hv:SB w (.slice A L.length c) L):Calls Tryz.prog 129 #[.slice A L.length c] w (DPost w (.tuple #[.int .i64 (m:Int),.int .i64 ((2+K:Nat):Int),.int .i64 0])):=by
 have h0:=Hp.ro1 (rSB (.slice A L.length c) L) hv
 refine mE 61 ?_
 refine mX 10 (.bool false) (Value.bool (decide ((L.length:Int)<2))) (by simp;omega) ?_
 refine mW 12 (eIx (SB.rvn (h0.rd 0 rfl)).2 1 L.length (SB.rvn (h0.rd 0 rfl)).1 (by omega) 25 (.tmp 11) (.const (Value.int .i64 1)) .i64 5) ?_
 refine mW 13 (eEl (SB.rvn (h0.rd 0 rfl)).2 1 0 ([(Value.int .u8 (ub (gb (L) (1))))]) (bx_get _ _ (by omega)) 5 (.tmp 12) (Value.int .u8 (ub (gb (L) (1))))) ?_
 refine mX 14 (Value.int .u64 (((128+K:Nat):Int))) (Value.int .u64 (IntKind.u64.wrap (ub (gb (L) (1))))) (u64_ub _ h1) ?_
 refine mX 16 (.bool true) (Value.bool (decide (((128+K:Nat):Int) ≥ 128))) (by simp;omega) ?_
 refine mX 18 (Value.int .u64 ((K:Int))) (Value.int .u64 (IntKind.u64.wrap (((128+K:Nat):Int)-128))) (u64_sub (m:=128+K) (n:=128) rfl (by omega)) ?_
 refine mX 19 (Value.int .i64 ((K:Int))) (Value.int .i64 (IntKind.i64.wrap ((K:Int)))) (i64_nat (by omega)) ?_
 refine mX 21 (.bool false) (Value.bool (decide ((K:Int)<1))) (by simp;omega) ?_
 refine mX 24 (.bool false) (Value.bool (decide ((K:Int)>2))) (by simp;omega) ?_
 refine mW 29 (exec_add _ _ _ _ bO 2 ((K:Int)) (by kernel_rfl) (by kernel_rfl) (((2+K:Nat):Int)) (by omega) (by omega) (by omega) _) ?_
 refine mX 30 (.bool false) (Value.bool (decide ((L.length:Int)<((2+K:Nat):Int)))) (by simp;omega) ?_
 refine mW 34 (exec_add _ _ _ _ bO 2 ((K:Int)) (by kernel_rfl) (by kernel_rfl) (((2+K:Nat):Int)) (by omega) (by omega) (by omega) _) ?_
 refine mW 35 (e_cut_lh (h0.rd 0 rfl) (.tmp 32) (.const (Value.int .i64 2)) (.tmp 34) (by kernel_rfl) (by kernel_rfl) .i64 .i64 2 (((2+K))) (by kernel_rfl) (by kernel_rfl) (by omega) (by omega) _) ?_
 refine mT (x_getD h0 (((L).take (((2+K)))).drop 2) (cutS (Value.slice A L.length c) 2 (((2+K)))) (by kernel_rfl) (SB.cut (h0.rd 0 rfl) 2 (((2+K))) (by omega)) (by rw [hc];omega) (by rw [hc];omega) m (by rw [hc,hS])) ?_
 rintro _ w13 ⟨rfl,h13⟩
 refine mW 40 (exec_add _ _ _ _ bO 2 ((K:Int)) (by kernel_rfl) (by kernel_rfl) (((2+K:Nat):Int)) (by omega) (by omega) (by omega) _) ?_
 rcases hK with ⟨hq1,hq2⟩|⟨hq1,hq2⟩
 ·
  refine mX 42 (.bool false) (Value.bool (decide (((m:Nat):Int)<128))) (by simp;omega) ?_
  refine mX 45 (.bool false) (Value.bool (((K:Int)) == 2)) (by rw [hq1];rfl) ?_
  refine mW 55 (exec_sub _ _ _ _ bO ((L.length:Int)) (((2+K:Nat):Int)) (by kernel_rfl) (by kernel_rfl) ((((L.length)-((2+K)):Nat):Int)) (by omega) (by omega) (by omega) _) ?_
  refine mX 56 (Value.int .u64 ((((L.length)-((2+K)):Nat):Int))) (Value.int .u64 (IntKind.u64.wrap ((((L.length)-((2+K)):Nat):Int)))) (wrap_u64_is (by omega) (by omega)) ?_
  refine mX 57 (.bool false) (Value.bool (decide (((m:Nat):Int)>(((L.length)-((2+K)):Nat):Int)))) (by simp;omega) ?_
  refine mX 59 (Value.int .i64 ((m:Int))) (Value.int .i64 (IntKind.i64.wrap (((m:Nat):Int)))) (i64_nat (by omega)) ?_
  exact mQ h13
 refine mX 42 (.bool false) (Value.bool (decide (((m:Nat):Int)<128))) (by simp;omega) ?_
 refine mX 45 (.bool true) (Value.bool (((K:Int)) == 2)) (by rw [hq1];rfl) ?_
 refine mX 48 (.bool false) (Value.bool (decide (((m:Nat):Int)<256))) (by simp;omega) ?_
 refine mW 55 (exec_sub _ _ _ _ bO ((L.length:Int)) (((2+K:Nat):Int)) (by kernel_rfl) (by kernel_rfl) ((((L.length)-((2+K)):Nat):Int)) (by omega) (by omega) (by omega) _) ?_
 refine mX 56 (Value.int .u64 ((((L.length)-((2+K)):Nat):Int))) (Value.int .u64 (IntKind.u64.wrap ((((L.length)-((2+K)):Nat):Int)))) (wrap_u64_is (by omega) (by omega)) ?_
 refine mX 57 (.bool false) (Value.bool (decide (((m:Nat):Int)>(((L.length)-((2+K)):Nat):Int)))) (by simp;omega) ?_
 refine mX 59 (Value.int .i64 ((m:Int))) (Value.int .i64 (IntKind.i64.wrap (((m:Nat):Int)))) (i64_nat (by omega)) ?_
 exact mQ h13
end
section
open Go.RowKit Go.QT
mutual
/-- The numbers fit into 64 bits. -/
def numV:DVal->Bool | .mk _ _ n _ l=>decide (n<18446744073709551616) && numL l
def numL:List DVal->Bool
 | []=>true
 | x::r=>numV x && numL r
end
theorem numL_at:∀ (l:List DVal) (i:Nat) (u:DVal),l[i]?=some u->numL l=true->numV u=true
 | [],i,u,h,_=>by simp at h
 | y::r,0,u,h,hr=>by
   have:y=u:=by simpa using h
   subst this
   rw [numL,Bool.and_eq_true] at hr;exact hr.1
 | y::r,i+1,u,h,hr=>by
   rw [numL,Bool.and_eq_true] at hr
   exact numL_at r i u (by simpa using h) hr.2
theorem head_pos(k t m:Nat):2<=(headB k t m).length:=by
 by_cases h:m<128
 · rw [head_loL k t h];omega
 rw [head_hiL k t h];omega
theorem wrV_pos(v:DVal):2<=(wrV v).length:=by
 rw [wrV_eq,List.length_append];have:=head_pos v.kind v.tag (bodyV v).length;omega
section
variable{P:Program}{o:Oper}{a:Act}{w w':World}{F0:Nat->Prop}{w0:World}{ro rs:List Res}
theorem e_shr8(t t':TypeId)(x y:Operand)(ho:o.op=.binOp .shr t x y t')(m:Nat)(k:IntKind)(n:Nat)(hn:n<=8)(hx:a.eval x=.int .u8 (m:Int))(hy:a.eval y=.int k (n:Int))(hm:m<256)(W:World) :
   (execOp a.eval o).run P W=.ok (.value (.int .u8 ((m / 2 ^ n:Nat):Int))) W:=by
 have h3:(eqGuard .shr t x y (.int .u8 (m:Int)) (.int k (n:Int))).run P W=.ok () W:=by simp [eqGuard]
 have e:((m:Int)).fdiv (2 ^ n)=((m / 2 ^ n:Nat):Int):=by
   have h2:(2:Int) ^ n=((2 ^ n:Nat):Int):=by simp
   rw [h2,Int.fdiv_eq_ediv_of_nonneg _ (Int.natCast_nonneg _),← Int.natCast_ediv]
 have hlt:m / 2 ^ n<256:=Nat.lt_of_le_of_lt (Nat.div_le_self _ _) hm
 have e2:IntKind.u8.wrap ((m / 2 ^ n:Nat):Int)=((m / 2 ^ n:Nat):Int):=by
   rw [IntKind.wrap_u8]
   generalize m / 2 ^ n=q at *
   omega
 have h4:(binOp .shr t (.int .u8 (m:Int)) (.int k (n:Int))).run P W=.ok (.int .u8 ((m / 2 ^ n:Nat):Int)) W:=by
   have hm:min ((n:Int)).toNat IntKind.u8.bits=n:=by
     show min ((n:Int)).toNat 8=n
     omega
   have h0:¬ ((n:Int)<0):=by omega
   unfold binOp Op.shift
   simp only [if_neg h0,hm,e,Sem.run_pure]
 unfold execOp
 simp only [ho,hx,hy,Sem.run_bind,h3,h4,Result.andThen_ok,Sem.run_pure]
theorem and63:((List.range 256).all fun n=>decide (bits .and .u8 ((n:Nat):Int) 63=((n % 64:Nat):Int)))=true:=by decide +kernel
theorem and63'{n:Nat}(h:n<256):bits .and .u8 ((n:Nat):Int) 63=((n % 64:Nat):Int):=
 of_decide_eq_true (List.all_eq_true.1 and63 n (List.mem_range.2 h))
/-- A part of bytes that are read, as a slice of its own. -/
theorem Hp.roCut{v:Value}{l:Bytes}(h:Hp F0 w0 w ro rs)(i:Nat)(hi:ro[i]?=some (rSB v l))(lo hb:Nat)(hh:hb<=l.length)(B:Bytes)(e:(l.take hb).drop lo=B):∃ A c,cutS v lo hb=.slice A B.length c/\Hp F0 w0 w (rSB (.slice A B.length c) B::ro) rs:=by
 have hs:=SB.cut (h.red i _ hi) lo hb hh
 rw [e] at hs
 obtain ⟨A,c,e2,_⟩:=id hs
 refine ⟨A,c,e2,?_⟩
 rw [← e2]
 refine h.sub i hi (rSB _ _) hs (fun q hq=>⟨?_,?_⟩)
 · rintro rfl;exact hq.1 (by rw [← e];simp)
 have h2:(cutS v lo hb).ownBlock=some q:=hq.2
 rw [cutS_block] at h2;exact h2
/-- What der.read leaves: the value, new, and how many bytes it had. -/
def ReadPost(w:World)(v:DVal)(k:Nat)(e:Ending)(w':World):Prop:=∃ F cs,e=.returned (.tuple #[.agg cs.toArray,.int .i64 (k:Int),.int .i64 0])/\Hp (fun _=>False) w w' [] [rDV F cs v]
theorem x_read(h:Hp F0 w0 w ro rs){v:DVal}{k:Nat}(fn:FuncId)(al:List Value)(hp:pureVal P (execOp a.eval o)=some (.enter fn al.toArray))(hc:Calls P fn al.toArray w (ReadPost w v k)) :
   OpTo P o a w (fun u w'=>∃ F cs,u=.tuple #[.agg cs.toArray,.int .i64 (k:Int),.int .i64 0]/\Hp F0 w0 w' ro (rDV F cs v::rs)):=
 OpTo.enter fn al hp hc fun e w' hq=>by
   obtain ⟨F,cs,he,h2⟩:=hq
   exact ⟨_,he,F,cs,rfl,h.call0 h2⟩
end
theorem dv_numT(w:World)(t n:Nat)(hn:n<18446744073709551616):(rDV (fun _=>False) [.int .i64 0,.int .i64 (t:Int),.int .u64 (n:Int),.slice none 0 0,.slice none 0 0] (.mk 0 t n [] [])).Φ w:=
 ⟨fun _ hf=>hf.elim,.mk 0 t n _ [] none 0 [] [] hn (sbf_nil _ _) (rvf_nil _ _ _ _ (by unfold maxLen;omega) _) rfl (by simp)⟩
theorem dv_rawT{w:World}{v:Value}{b:Bytes}(t:Nat)(h:SB w v b):(rDV (rSB v b).F [.int .i64 1,.int .i64 (t:Int),.int .u64 0,v,.slice none 0 0] (.mk 1 t 0 b [])).Φ w:=
 ⟨fun q hq=>(rSB v b).lt h q hq,.mk 1 t 0 v b none 0 [] [] (by omega) ⟨h,fun h1 q hq=>⟨h1,hq⟩⟩ (rvf_nil _ _ _ _ (by unfold maxLen;omega) _) rfl (by simp)⟩
theorem rdl_nil(w:World):(rDL (fun _=>False) [] []).Φ w:=⟨fun _ hf=>hf.elim,by simp⟩
theorem rdl_push{w:World}{G F:Nat->Prop}{xs:List (List Value)}{ts:List DVal}{cs:List Value}{u:DVal}(hl:xs.length=ts.length)(h:(rDL G xs ts).Φ w)(hu:(rDV F cs u).Φ w):(rDL (fun q=>F q∨G q) (xs++[cs]) (ts++[u])).Φ w:=by
 refine ⟨fun q hq=>hq.elim (hu.1 q) (h.1 q),fun i x y hx hy=>?_⟩
 by_cases hi:i<xs.length
 · rw [List.getElem?_append_left hi] at hx
   rw [List.getElem?_append_left (by omega)] at hy
   exact (h.2 i x y hx hy).mono fun q hq=>.inr hq
 have e:i=xs.length:=by
   have:=(List.getElem?_eq_some_iff.1 hx).1
   simp at this;omega
 subst e
 rw [List.getElem?_append_right (Nat.le_refl _),Nat.sub_self] at hx
 rw [hl,List.getElem?_append_right (Nat.le_refl _),Nat.sub_self] at hy
 have hx:cs=x:=by simpa using hx
 have hy:u=y:=by simpa using hy
 subst hx;subst hy
 exact hu.2.mono fun q hq=>.inl hq
theorem dv_seqO{w:World}{G:Nat->Prop}{A:Option Addr}{n c t:Nat}{xs:List (List Value)}{ts:List DVal}(hl:xs.length=ts.length)(hn:n=ts.length)(hx:(rOV 196 5 (.slice A n c) xs).Φ w)(hs:(rDL G xs ts).Φ w) :
   (rDV (fun q=>(rOV 196 5 (.slice A n c) xs).F q∨G q) [.int .i64 2,.int .i64 (t:Int),.int .u64 0,.slice none 0 0,.slice A n c] (.mk 2 t 0 [] ts)).Φ w:=by
 subst hn
 refine ⟨fun q hq=>hq.elim ((rOV 196 5 (.slice A ts.length c) xs).lt hx q) (hs.1 q),.mk 2 t 0 _ [] A c xs ts (by omega) (sbf_nil _ _) ⟨(OV.rvn hx).2,fun _ q hq=>.inl ?_⟩ hl (fun i x u h1 h2=>(hs.2 i x u h1 h2).mono fun q hq=>.inr hq)⟩
 show (Value.slice A ts.length c).ownBlock=some q
 rw [← hq];cases A <;> rfl
section
variable{w:World}{w0:World}{ro rs:List Res}
theorem readpost_0(h:Hp (fun _=>False) w0 w ro rs)(t n k:Nat)(hn:n<18446744073709551616):ReadPost w0 (.mk 0 t n [] []) k (.returned (.tuple #[.agg #[.int .i64 0,.int .i64 (t:Int),.int .u64 (n:Int),.slice none 0 0,.slice none 0 0],.int .i64 (k:Int),.int .i64 0])) w:=
 ⟨_,_,rfl,(h.addS _ (dv_numT w t n hn) (fun _ hf=>hf.elim) (fun _ _ _ _ hf=>hf.elim) (fun _ _ _ _ hf=>hf.elim)).sel [0] [] rfl rfl rfl⟩
theorem readpost_1(h:Hp (fun _=>False) w0 w ro rs)(i:Nat){v:Value}{b:Bytes}(hi:rs[i]?=some (rOB v b))(t k:Nat):ReadPost w0 (.mk 1 t 0 b []) k (.returned (.tuple #[.agg #[.int .i64 1,.int .i64 (t:Int),.int .u64 0,v,.slice none 0 0],.int .i64 (k:Int),.int .i64 0])) w:=by
 have hu:=h.upd i hi (Fr.refl _ _) _ (dv_rawT t (OB.sb (h.own i _ hi))) (fun _ hq=>.inl hq.2)
 have hi2:=List.getElem?_set_self (a:=rDV (rSB v b).F [.int .i64 1,.int .i64 (t:Int),.int .u64 0,v,.slice none 0 0] (.mk 1 t 0 b [])) (List.getElem?_eq_some_iff.1 hi).1
 exact ⟨_,_,rfl,hu.sel (rs':=[rDV (rSB v b).F [.int .i64 1,.int .i64 (t:Int),.int .u64 0,v,.slice none 0 0] (.mk 1 t 0 b [])]) [i] [] rfl rfl (by simp only [List.map_cons,List.map_nil];rw [hi2])⟩
theorem readpost_2(h:Hp (fun _=>False) w0 w ro rs)(i j:Nat)(hij:i<j){G:Nat->Prop}{A:Option Addr}{n c:Nat}{xs:List (List Value)}{ts:List DVal}(hi:rs[i]?=some (rOV 196 5 (.slice A n c) xs))(hj:rs[j]?=some (rDL G xs ts))(hl:xs.length=ts.length)(hn:n=ts.length)(t k:Nat):ReadPost w0 (.mk 2 t 0 [] ts) k (.returned (.tuple #[.agg #[.int .i64 2,.int .i64 (t:Int),.int .u64 0,.slice none 0 0,.slice A n c],.int .i64 (k:Int),.int .i64 0])) w:=
 ⟨_,_,rfl,(h.join i j hi hj hij _ (dv_seqO hl hn (h.own i _ hi) (h.own j _ hj)) (fun _ hq=>hq)).sel [0] [] rfl rfl rfl⟩
end
end
section
open Go.RowKit Go.QT
theorem read_raw(d:Nat)(hd:d<=8)(L:Bytes)(t m H:Nat)(B:Bytes)(ht:t<=30)(h0:nb (gb L 0)=1*64+t)(hcut:(L.take (H+m)).drop H=B)(hB:B.length=m)(hH:2<=H)(hlen:H+m<=L.length)(hL:L.length<=900000)(A:Option Addr)(c:Nat)
   (hsz:∀ w,SB w (.slice A L.length c) L->Calls Tryz.prog 129 #[.slice A L.length c] w (DPost w (.tuple #[.int .i64 (m:Int),.int .i64 (H:Int),.int .i64 0]))) (w:World) (hv:SB w (.slice A L.length c) L)
    : Calls Tryz.prog 104 #[.slice A L.length c,.int .i64 (d:Int)] w (ReadPost w (.mk 1 t 0 B []) (H+m)):=by
 have hL1:0<L.length:=by omega
 have h256:=nb_lt (gb L 0)
 have hk0:nb (gb L 0) / 2 ^ 6=1:=by omega
 have ht0:nb (gb L 0) % 64=t:=by omega
 have h0:=Hp.ro1 (rSB (.slice A L.length c) L) hv
 refine mE 114 ?_
 refine mN h0 196 ([(Value.int .i64 0),(Value.int .i64 0),(Value.int .u64 0),(Value.slice none 0 0),(Value.slice none 0 0)]) fun g2 w2 h2=>?_
 refine mX 18 (.bool false) (Value.bool (decide ((d:Int)>8))) (by simp;omega) ?_
 refine mD h2 [(Value.slice A L.length c)] (hsz _ (h2.rd 0 rfl)) (fun w6 h6=>?_)
 refine dG h6 13 12 (fun W=>(rSB ((Value.slice A L.length c)) L).Φ W/\True) (fun w10 h10=>⟨h10.rd 0 rfl,trivial⟩) ?_
 intro w10 h10
 refine dP 11 [0,5] ?_
 refine dV 1 (fun W hW=>eIx (SB.rvn (h10.rd 0 rfl)).2 0 L.length (SB.rvn (h10.rd 0 rfl)).1 (by omega) 25 (.tmp 30) (.const (Value.int .i64 0)) .i64 5) ?_
 refine dV 6 (fun W hW=>eIx (SB.rvn (h10.rd 0 rfl)).2 0 L.length (SB.rvn (h10.rd 0 rfl)).1 (by omega) 25 (.tmp 35) (.const (Value.int .i64 0)) .i64 5) ?_
 refine dV 2 (fun W hW=>eEl (SB.rvn hW.1).2 0 0 ([(Value.int .u8 (ub (gb (L) (0))))]) (bx_get _ _ (by omega)) 5 (.tmp 31) (Value.int .u8 (ub (gb (L) (0))))) ?_
 refine dV 3 (v:=(Value.int .u8 (((nb (gb L 0) / 2 ^ 6:Nat):Int)))) (fun W hW=>e_shr8 5 228 (.tmp 32) (.const (Value.int .u64 6)) (by kernel_rfl) (nb (gb L 0)) .u64 6 (by decide) (by rw [← ub_nb];kernel_rfl) (by kernel_rfl) h256 _) ?_
 refine dV 4 (v:=(Value.int .i64 1)) (fun W hW=>eqI (Value.int .i64 (IntKind.i64.wrap (((nb (gb L 0) / 2 ^ 6:Nat):Int)))) (by rw [hk0];rfl)) ?_
 refine dV 7 (fun W hW=>eEl (SB.rvn hW.1).2 0 0 ([(Value.int .u8 (ub (gb (L) (0))))]) (bx_get _ _ (by omega)) 5 (.tmp 36) (Value.int .u8 (ub (gb (L) (0))))) ?_
 refine dV 8 (v:=(Value.int .u8 (((nb (gb L 0) % 64:Nat):Int)))) (fun W hW=>eqI (Value.int .u8 (bits .and .u8 (ub (gb L 0)) 63)) (by rw [ub_nb,and63' h256])) ?_
 refine dV 9 (v:=(Value.int .i64 ((t:Int)))) (fun W hW=>eqI (Value.int .i64 (IntKind.i64.wrap (((nb (gb L 0) % 64:Nat):Int)))) (by rw [ht0];exact i64_nat (by omega))) ?_
 refine dP 2 [10] ?_
 refine dT 11 (xN h10 196 ([(Value.int .i64 0),(Value.int .i64 0),(Value.int .u64 0),(Value.slice none 0 0),(Value.slice none 0 0)])) ?_
 rintro _ w11 ⟨g11,rfl,h11⟩
 refine ⟨⟨h11.rd 0 rfl,trivial⟩,?_⟩
 refine dE 12 (xSs h11 0 196 (.tmp 10) (.tmp 40) 0 ([(Value.int .i64 1),(Value.int .i64 ((t:Int))),(Value.int .u64 0),(Value.slice none 0 0),(Value.slice none 0 0)]) ([(Value.int .i64 1),(Value.int .i64 ((t:Int))),(Value.int .u64 0),(Value.slice none 0 0),(Value.slice none 0 0)])) ?_
 rintro _ w12 h12
 refine dX ?_
 refine ma h12 0 ?_
 refine ma h12 0 ?_
 refine mX 47 (.bool false) (Value.bool (decide ((t:Int)>30))) (by simp;omega) ?_
 refine mW 54 (exec_add _ _ _ _ bO ((H:Int)) ((m:Int)) (by kernel_rfl) (by kernel_rfl) (((H+m:Nat):Int)) (by omega) (by omega) (by omega) _) ?_
 obtain ⟨A16,c16,e16,h16⟩:=h12.roCut 0 rfl H (H+m) (by omega) B hcut
 refine mW 55 (v:=(Value.slice A16 B.length c16)) (e16 ▸ e_cut_lh (h12.rd 0 rfl) (.tmp 50) (.tmp 51) (.tmp 54) (by kernel_rfl) (by kernel_rfl) .i64 .i64 H (H+m) (by kernel_rfl) (by kernel_rfl) (by omega) (by omega) _) ?_
 refine ma h16 0 ?_
 have h21:=h16.obNil
 refine mT (x_appG h21 0 rfl (.const (Value.slice none 0 0)) (.tmp 107) (by kernel_rfl) (Value.slice A16 B.length c16) (by kernel_rfl) (by kernel_rfl) (h21.rd 0 rfl) (by simp;omega) (B) (B.length) rfl rfl) ?_
 rintro _ w22 ⟨A22,c22,rfl,h22⟩
 refine mT (xSt h22 1 25 (.tmp 109) (.tmp 108) 3 (Value.slice A22 B.length c22) ([(Value.int .i64 1),(Value.int .i64 ((t:Int))),(Value.int .u64 0),(Value.slice A22 B.length c22),(Value.slice none 0 0)])) fun _ w23 h23=>?_
 refine ma h23 1 ?_
 refine mW 113 (exec_add _ _ _ _ bO ((H:Int)) ((m:Int)) (by kernel_rfl) (by kernel_rfl) (((H+m:Nat):Int)) (by omega) (by omega) (by omega) _) ?_
 refine mT (xSs h23 2 196 (.tmp 4) (.tmp 110) 0 ([(Value.int .i64 1),(Value.int .i64 ((t:Int))),(Value.int .u64 0),(Value.slice A22 B.length c22),(Value.slice none 0 0)]) ([(Value.int .i64 1),(Value.int .i64 ((t:Int))),(Value.int .u64 0),(Value.slice A22 B.length c22),(Value.slice none 0 0)])) fun _ w25 h25=>?_
 refine mF (post_3 (r:=.cell 4 196) (s:=.tmp 5) (t:=.tmp 6) (by kernel_rfl) rfl (rce (h25.at_ 2 rfl)) (rtm (Value.int .i64 (((H+m:Nat):Int)))) (rtm (Value.int .i64 0)) ?_)
 exact readpost_1 h25 0 rfl t (H+m)
end
section
open Go.RowKit Go.QT
theorem rightL_mem{l:List DVal}{d:Nat}{u:DVal}(h:rightL l d=true)(hu:u ∈ l):rightV u d=true:=by
 obtain ⟨i,hi⟩:=List.getElem?_of_mem hu
 exact rightL_at l d i u hi h
theorem numL_mem{l:List DVal}{u:DVal}(h:numL l=true)(hu:u ∈ l):numV u=true:=by
 obtain ⟨i,hi⟩:=List.getElem?_of_mem hu
 exact numL_at l i u hi h
theorem wrL_mem{l:List DVal}{u:DVal}(hu:u ∈ l):(wrV u).length<=(wrL l).length:=by
 obtain ⟨i,hi⟩:=List.getElem?_of_mem hu
 have h1:=congrArg List.length (wrL_take l i u hi)
 have h2:=wrL_take_le l (i+1)
 rw [List.length_append] at h1
 omega
theorem cut_mid(a b r:Bytes):((a++(b++r)).take (a.length+b.length)).drop a.length=b:=by
 rw [← List.append_assoc,← List.length_append,List.take_left]
 exact List.drop_left
/-- What der.Read leaves: the value, new. -/
def ReadOk(w:World)(v:DVal)(e:Ending)(w':World):Prop:=∃ F cs,e=.returned (.tuple #[.agg cs.toArray,.int .i64 0])/\Hp (fun _=>False) w w' [] [rDV F cs v]
end
section
open Go.RowKit Go.QT
section
variable{o:Oper}{a:Act}{w w':World}{F0:Nat->Prop}{w0:World}{ro rs:List Res}
/-- []byte(s). -/
theorem x_convT(h:Hp F0 w0 w ro rs)(x:Operand)(ho:o.op=.convert 9 25 x)(s:ByteArray)(hx:a.eval x=.string s)(hs:s.size<=1048576)(l:Bytes)(hl:l=s.data.toList)(n:Nat)(hn:n=l.length) :
   OpTo Tryz.prog o a w (fun u w'=>∃ A cc,u=.slice A n cc/\Hp F0 w0 w' (rSB (.slice A n cc) l::ro) rs):=by
 subst hl;subst hn
 refine (x_conv h x ho s hx (by unfold maxLen;omega)).mono fun u w' hq=>?_
 obtain ⟨A,cc,rfl,h'⟩:=hq
 exact ⟨A,cc,rfl,h'⟩
theorem x_rawT{P:Program}(h:Hp F0 w0 w ro rs){b:Bytes}(fn:FuncId)(al:List Value)(hp:pureVal P (execOp a.eval o)=some (.enter fn al.toArray))(hc:Calls P fn al.toArray w (RawPost w b)) :
   OpTo P o a w (fun u w'=>∃ A c,u=.agg #[.int .i64 1,.int .i64 0,.int .u64 0,.slice A b.length c,.slice none 0 0]/\Hp F0 w0 w' ro (rSB (.slice A b.length c) b::rs)/\∀ q,(Value.slice A b.length c).ownBlock=some q->w.heap.size<=q):=
 OpTo.enter fn al hp hc fun e w' hq=>by
   obtain ⟨A,c,he,hs,hb,hF⟩:=hq
   refine ⟨_,he,A,c,rfl,?_,hF⟩
   exact (h.newS hb (rSB _ b) hs (fun q hq=>hF q hq.2))
/-- A number as der has it. -/
theorem wrap64_ex(n:Int):∃ m:Nat,IntKind.u64.wrap n=(m:Int)/\m<18446744073709551616/\(0<=n->n<18446744073709551616->(m:Int)=n):=by
 refine ⟨(n % 18446744073709551616).toNat,?_,by omega,fun h1 h2=>by omega⟩
 rw [Int.toNat_of_nonneg (by omega)]
 simp [IntKind.wrap,IntKind.bits,IntKind.signed]
theorem rawpost_sb{w w0:World}{ro rs:List Res}{A:Option Addr}{c:Nat}{b:Bytes}(h:Hp (fun _=>False) w0 w ro rs)(i:Nat)(hi:rs[i]?=some (rSB (.slice A b.length c) b))(hb:b≠[]∨∀ q,(Value.slice A b.length c).ownBlock=some q->w0.heap.size<=q):RawPost w0 b (.returned (.agg #[.int .i64 1,.int .i64 0,.int .u64 0,.slice A b.length c,.slice none 0 0])) w:=by
 refine ⟨A,c,rfl,h.own i _ hi,h.below0,fun q hq=>?_⟩
 rcases hb with hb|hb
 · rcases h.mine i _ hi q ⟨hb,hq⟩ with h3|h3
   · exact h3.elim
   exact h3
 exact hb q hq
end
end
section
open Go.RowKit Go.QT
/-- What a number is in der. -/
def nV(n:Int):List Value:=[.int .i64 0,.int .i64 0,.int .u64 (IntKind.u64.wrap n),.slice none 0 0,.slice none 0 0]
theorem knum_any(n:Int)(w:World):Calls Tryz.prog 122 #[.int .i64 n] w (DPost w (.agg (nV n).toArray)):=by
 obtain ⟨m,hm,hm1,-⟩:=wrap64_ex n
 unfold nV
 rw [hm]
 have h0:=Hp.nil (fun _=>False) w
 refine mE 6 ?_
 refine mN h0 196 ([(Value.int .i64 0),(Value.int .i64 0),(Value.int .u64 0),(Value.slice none 0 0),(Value.slice none 0 0)]) fun g2 w2 h2=>?_
 refine mX 4 (Value.int .u64 ((m:Int))) (Value.int .u64 (IntKind.u64.wrap n)) (by rw [hm]) ?_
 refine mD h2 [(Value.int .u64 ((m:Int)))] (dnum_any m _) (fun w4 h4=>?_)
 refine mT (xSs h4 0 196 (.tmp 2) (.tmp 5) 0 ([(Value.int .i64 0),(Value.int .i64 0),(Value.int .u64 ((m:Int))),(Value.slice none 0 0),(Value.slice none 0 0)]) ([(Value.int .i64 0),(Value.int .i64 0),(Value.int .u64 ((m:Int))),(Value.slice none 0 0),(Value.slice none 0 0)])) fun _ w5 h5=>?_
 refine mF (post_1 (r:=.cell 2 196) (by kernel_rfl) rfl (rce (h5.at_ 0 rfl)) ?_)
 exact ⟨rfl,h5.below0⟩
theorem ktruth_any(b:Bool)(w:World):Calls Tryz.prog 124 #[.bool b] w (DPost w (.agg (nV b.toNat).toArray)):=by
 have hm:IntKind.u64.wrap (b.toNat:Int)=(b.toNat:Int):=by cases b <;> rfl
 unfold nV
 rw [hm]
 cases b
 · skip
   have h0:=Hp.nil (fun _=>False) w
   refine mE 6 ?_
   refine mN h0 196 ([(Value.int .i64 0),(Value.int .i64 0),(Value.int .u64 0),(Value.slice none 0 0),(Value.slice none 0 0)]) fun g2 w2 h2=>?_
   refine mD h2 [(Value.int .u64 0)] (dnum_any 0 _) (fun w6 h6=>?_)
   refine mT (xSs h6 0 196 (.tmp 2) (.tmp 5) 0 ([(Value.int .i64 0),(Value.int .i64 0),(Value.int .u64 ((0:Int))),(Value.slice none 0 0),(Value.slice none 0 0)]) ([(Value.int .i64 0),(Value.int .i64 0),(Value.int .u64 ((0:Int))),(Value.slice none 0 0),(Value.slice none 0 0)])) fun _ w7 h7=>?_
   refine mF (post_1 (r:=.cell 2 196) (by kernel_rfl) rfl (rce (h7.at_ 0 rfl)) ?_)
   exact ⟨rfl,h7.below0⟩
 skip
 have h0:=Hp.nil (fun _=>False) w
 refine mE 6 ?_
 refine mN h0 196 ([(Value.int .i64 0),(Value.int .i64 0),(Value.int .u64 0),(Value.slice none 0 0),(Value.slice none 0 0)]) fun g2 w2 h2=>?_
 refine mD h2 [(Value.int .u64 1)] (dnum_any 1 _) (fun w6 h6=>?_)
 refine mT (xSs h6 0 196 (.tmp 2) (.tmp 4) 0 ([(Value.int .i64 0),(Value.int .i64 0),(Value.int .u64 ((1:Int))),(Value.slice none 0 0),(Value.slice none 0 0)]) ([(Value.int .i64 0),(Value.int .i64 0),(Value.int .u64 ((1:Int))),(Value.slice none 0 0),(Value.slice none 0 0)])) fun _ w7 h7=>?_
 refine mF (post_1 (r:=.cell 2 196) (by kernel_rfl) rfl (rce (h7.at_ 0 rfl)) ?_)
 exact ⟨rfl,h7.below0⟩
theorem ktext_any(s:ByteArray)(w:World)(hs:s.size<=1000000):Calls Tryz.prog 120 #[.string s] w (RawPost w s.data.toList):=by
 have hsl:s.data.toList.length=s.size:=by cases s;simp [ByteArray.size]
 have h0:=Hp.nil (fun _=>False) w
 refine mE 6 ?_
 refine mN h0 196 ([(Value.int .i64 0),(Value.int .i64 0),(Value.int .u64 0),(Value.slice none 0 0),(Value.slice none 0 0)]) fun g2 w2 h2=>?_
 refine mT (x_convT h2 (.tmp 3) (by kernel_rfl) s (by kernel_rfl) (by omega) (s.data.toList) rfl (s.data.toList.length) rfl) ?_
 rintro _ w4 ⟨A4,c4,rfl,h4⟩
 refine mT (x_rawT h4 97 [(Value.slice A4 s.data.toList.length c4)] (by kernel_rfl) (draw_any (Value.slice A4 s.data.toList.length c4) s.data.toList _ (h4.rd 0 rfl) (by omega))) ?_
 rintro _ w5 ⟨A5,c5,rfl,h5,hn5⟩
 refine mT (xSs h5 1 196 (.tmp 2) (.tmp 5) 0 ([(Value.int .i64 1),(Value.int .i64 0),(Value.int .u64 0),(Value.slice A5 s.data.toList.length c5),(Value.slice none 0 0)]) ([(Value.int .i64 1),(Value.int .i64 0),(Value.int .u64 0),(Value.slice A5 s.data.toList.length c5),(Value.slice none 0 0)])) fun _ w6 h6=>?_
 refine mF (post_1 (r:=.cell 2 196) (by kernel_rfl) rfl (rce (h6.at_ 1 rfl)) ?_)
 exact rawpost_sb h6 0 rfl (.inr fun q hq=>Nat.le_trans h4.below0.size (hn5 q hq))
end
section
open Go.RowKit Go.QT
theorem kkey_any(K:Fin 16->UInt8)(w:World):Calls Tryz.prog 123 #[.agg (vb (kl K)).toArray] w (RawPost w (kl K)):=by
 have h0:=Hp.nil (fun _=>False) w
 refine mE 5 ?_
 refine mN h0 41 (vb (kl K)) fun g2 w2 h2=>?_
 refine mN h2 196 ([(Value.int .i64 0),(Value.int .i64 0),(Value.int .u64 0),(Value.slice none 0 0),(Value.slice none 0 0)]) fun g3 w3 h3=>?_
 refine mT (x_rawT h3 97 [(Value.slice (some ⟨g2,0,none⟩) 16 16)] (by kernel_rfl) (draw_any (Value.slice (some ⟨g2,0,none⟩) 16 16) (kl K) _ (SB.blk16 (K:=K) (h3.at_ 1 rfl)) (by rw [kl_len];decide))) ?_
 rintro _ w5 ⟨A5,c5,rfl,h5,hn5⟩
 refine mT (xSs h5 1 196 (.tmp 2) (.tmp 4) 0 ([(Value.int .i64 1),(Value.int .i64 0),(Value.int .u64 0),(Value.slice A5 ((kl K).length) c5),(Value.slice none 0 0)]) ([(Value.int .i64 1),(Value.int .i64 0),(Value.int .u64 0),(Value.slice A5 ((kl K).length) c5),(Value.slice none 0 0)])) fun _ w6 h6=>?_
 refine mF (post_1 (r:=.cell 2 196) (by kernel_rfl) rfl (rce (h6.at_ 1 rfl)) ?_)
 exact rawpost_sb h6 0 rfl (.inr fun q hq=>Nat.le_trans h3.below0.size (hn5 q hq))
def inN(x:Int):Bool:=!(decide (x<0) || decide (x>1099511627776))
/-- What right says of a message. -/
def rightM(s:ByteArray)(l:List Int):Bool:=l.all inN && rightN s
theorem inN_lo{x:Int}(h:x<0):inN x=false:=by unfold inN;simp [h]
theorem inN_hi{x:Int}(h:x>1099511627776):inN x=false:=by unfold inN;simp [h]
theorem inN_in{x:Int}(h:¬ x<0)(h2:¬ x>1099511627776):inN x=true:=by unfold inN;simp;omega
theorem inl_get{l:List Int}{k:Nat}{x:Int}(h:l[k]?=some x):(l.map fun x=>[Value.int .i64 x])[k]?=some [.int .i64 x]:=by rw [List.getElem?_map,h];rfl
theorem rightM_no{s:ByteArray}{l:List Int}{k:Nat}{x:Int}(h:l[k]?=some x)(hx:inN x=false):rightM s l=false:=by
 unfold rightM
 rw [Bool.and_eq_false_iff]
 left
 rw [List.all_eq_false]
 exact ⟨x,List.mem_of_getElem? h,by simp [hx]⟩
theorem rightM_all{s:ByteArray}{l:List Int}{k:Nat}(hk:k=l.length)(h:∀ j x,j<k->l[j]?=some x->inN x=true):rightM s l=rightN s:=by
 unfold rightM
 have:l.all inN=true:=by
   rw [List.all_eq_true]
   intro x hx
   obtain ⟨j,hj,rfl⟩:=List.getElem_of_mem hx
   exact h j _ (by omega) (List.getElem?_eq_getElem hj)
 rw [this,Bool.true_and]
theorem inN_step{l:List Int}{k:Nat}{x:Int}(hp:l[k]?=some x)(hx:inN x=true)(h:∀ j x,j<k->l[j]?=some x->inN x=true):∀ j x,j<k+1->l[j]?=some x->inN x=true:=by
 intro j q hj hq
 by_cases e:j=k
 · subst e;rw [hp] at hq;injection hq with hq;subst hq;exact hx
 exact h j q (by omega) hq
theorem x_nright{F0:Nat->Prop}{w0 w:World}{ro rs:List Res}{o:Oper}{a:Act}(h:Hp F0 w0 w ro rs)(s:ByteArray)(hs:s.size<=1000000000)(hp:pureVal Tryz.prog (execOp a.eval o)=some (.enter 115 #[.string s])) :
   OpTo Tryz.prog o a w (fun u w'=>u=.bool (rightN s)/\Hp F0 w0 w' ro rs):=
 OpTo.enter 115 [.string s] hp (nright_any s w hs) fun _e _w' hq=>⟨_,hq.1,rfl,h.below hq.2⟩
theorem kright_any(s:ByteArray)(hs:s.size<=1000000000)(l:List Int)(A:Option Addr)(c:Nat)(w:World)(hl:l.length<=1000)(h:Hp (fun _=>False) w w [rRV 1 A c (l.map fun x=>[Value.int .i64 x])] []) :
   Calls Tryz.prog 121 #[.string s,.slice A l.length c] w (DPost w (.bool (rightM s l))):=by
 have h0:=h
 refine mE 22 ?_
 refine mL (fun mM xX aA wL=>∃ (k:Nat),(k<=l.length)/\(∀ j x,j<k->l[j]?=some x->inN x=true)/\mM=l.length-k/\aA=patch xX 22 [(0,(Value.string s)),(7,(Value.slice A l.length c)),(8,(Value.int .i64 ((l.length:Int)))),(9,(Value.int .i64 ((k:Int))))]/\Hp (fun _=>False) w wL [rRV 1 A c ((l.map fun x=>[Value.int .i64 x]))] []) ⟨_,_,0,(by omega),(fun _ _ h=>absurd h (Nat.not_lt_zero _)),rfl,pM,h0.sel [] [0] (by kernel_rfl) rfl rfl⟩ ?_
 rintro _ x4 _ w4 ⟨k,hk,hN,rfl,rfl,h4⟩ KL4 hKL4
 refine mAt ?_
 by_cases b6:k<l.length
 ·
  refine mX 10 (.bool true) (Value.bool (decide ((k:Int)<(l.length:Int)))) (by simp;omega) ?_
  obtain ⟨p,hp⟩:∃ p,l[k]?=some p:=⟨_,List.getElem?_eq_getElem (by omega)⟩
  refine mW 11 (eIx (RV.lenIs (n:=l.length) (h4.rd 0 rfl) (by simp)).2 k l.length (RV.lenIs (n:=l.length) (h4.rd 0 rfl) (by simp)).1 (by omega) 278 (.tmp 7) (.tmp 9) .i64 2) ?_
  refine mW 12 (eEl (RV.lenIs (n:=l.length) (h4.rd 0 rfl) (by simp)).2 k 0 ([(Value.int .i64 p)]) (inl_get hp) 2 (.tmp 11) (Value.int .i64 p)) ?_
  rcases (show (p<0)∨(¬ p<0/\p>1099511627776)∨(¬ p<0/\¬ p>1099511627776) by omega) with hq1|⟨hq1,hq2⟩|⟨hq1,hq2⟩
  ·
   refine mX 14 (.bool true) (Value.bool (decide (p<0))) (by simp;omega) ?_
   exact mQe (Value.bool false) h4 (by rw [rightM_no hp (inN_lo hq1)])
  ·
   refine mX 14 (.bool false) (Value.bool (decide (p<0))) (by simp;omega) ?_
   refine mX 17 (.bool true) (Value.bool (decide (p>1099511627776))) (by simp;omega) ?_
   exact mQe (Value.bool false) h4 (by rw [rightM_no hp (inN_hi hq2)])
  refine mX 14 (.bool false) (Value.bool (decide (p<0))) (by simp;omega) ?_
  refine mX 17 (.bool false) (Value.bool (decide (p>1099511627776))) (by simp;omega) ?_
  refine mW 19 (exec_add _ _ _ _ bO ((k:Int)) 1 (by kernel_rfl) (by kernel_rfl) ((k:Int)+1) rfl (by omega) (by omega) _) ?_
  exact mK KL4 (hKL4 _ _ ⟨l.length-(k+1),_,(by omega),(k+1),(by omega),(inN_step hp (inN_in hq1 hq2) hN),rfl,pM,h4.sel [] [0] (by kernel_rfl) rfl rfl⟩)
 refine mX 10 (.bool false) (Value.bool (decide ((k:Int)<(l.length:Int)))) (by simp;omega) ?_
 refine mT (x_nright h4 s hs (by kernel_rfl)) ?_
 rintro _ w16 ⟨rfl,h16⟩
 exact mQe (Value.bool (rightN s)) h16 (by rw [rightM_all (k:=k) (by omega) hN])
end
end Go.Proofs.YtaoijkhndakppaaGreat
