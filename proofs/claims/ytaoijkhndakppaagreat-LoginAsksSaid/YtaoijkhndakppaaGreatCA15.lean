/- What was known of tables and boxes,under names. -/
import Derived.Laws.IdiomRangeMap
import Derived.Test.YtaoijkhndakppaaGreatCA14
set_option maxRecDepth 100000
set_option maxHeartbeats 4000000
namespace Go.Proofs.YtaoijkhndakppaaGreat
section
open Go.Value renaming int->iV,slice->lV,string->sV,bool->bV,agg->aV
open Go.RowKit Go.QT
theorem i64_ubN(x:UInt8):iV .i64 (IntKind.i64.wrap (ub x))=iV .i64 (nb x:Int):=by
 have:=nb_lt x
 unfold ub nb at *
 congr 1
 rw [IntKind.wrap_i64]
 omega
theorem exec_mulM{P:Program}{o:Oper}{a:Act}(t t':TypeId)(x y:Operand)(ho:o.op=.binOp .mul t x y t')(m n:Nat)(hx:a.eval x=.int .i64 (m:Int))(hy:a.eval y=.int .i64 (n:Int))(p:Nat)(hp:m*n=p)(h2:p<9223372036854775808)(w:World) :
   (execOp a.eval o).run P w=.ok (.value (.int .i64 ((p:Nat):Int))) w:=by
 have e:IntKind.i64.wrap ((m:Int)*(n:Int))=(p:Int):=by rw [← Int.natCast_mul,hp,IntKind.wrap_i64];omega
 have h3:(eqGuard .mul t x y (.int .i64 (m:Int)) (.int .i64 (n:Int))).run P w=.ok () w:=by simp [eqGuard]
 have h4:(binOp .mul t (.int .i64 (m:Int)) (.int .i64 (n:Int))).run P w=.ok (.int .i64 (p:Int)) w:=by simp [binOp,Op.intArith,e]
 unfold execOp
 simp only [ho,hx,hy,Sem.run_bind,h3,h4,Result.andThen_ok,Sem.run_pure]
theorem rl_none{l:Bytes}(h:128<=nb (gb l 0))(h2:¬ (194<=nb (gb l 0)/\nb (gb l 0)<=223/\2<=l.length/\128<=nb (gb l 1)/\nb (gb l 1)<=191)):runeL l=none:=by
 unfold runeL;rw [if_neg (by omega),if_neg h2]
theorem rnp_no{l:Bytes}{r k:Int}(h:128<=nb (gb l 0))(h2:¬ (194<=nb (gb l 0)/\nb (gb l 0)<=223/\2<=l.length/\128<=nb (gb l 1)/\nb (gb l 1)<=191))(hr:(r = -1∨2048<=r)/\r<=5000000/\1<=k/\k<=4):RnP l r k:=by
 unfold RnP;rw [rl_none h h2];exact hr
theorem rnp_1{l:Bytes}(h:nb (gb l 0)<128):RnP l (nb (gb l 0):Int) 1:=by
 unfold RnP runeL;rw [if_pos h];exact ⟨rfl,rfl⟩
theorem rnp_2{l:Bytes}{r:Int}(h:194<=nb (gb l 0)/\nb (gb l 0)<=223/\2<=l.length/\128<=nb (gb l 1)/\nb (gb l 1)<=191)(hr:r=(((nb (gb l 0)-192)*64+(nb (gb l 1)-128):Nat):Int)):RnP l r 2:=by
 unfold RnP runeL;rw [if_neg (by omega),if_pos h];exact ⟨hr,rfl⟩
theorem rletter_any(c:Int)(h1:-1000000000<=c)(h2:c<=1000000000)(w:World):Calls Tryz.prog 63 #[.int .i64 c,.int .i64 0] w (DPost w (.bool (letterN c))):=by
 have h0:=Hp.nil (fun _=>False) w
 refine mE 54 ?_
 refine mW 7 (exec_add _ _ _ _ bO c 0 (by kernel_rfl) (by kernel_rfl) (c) (by omega) (by omega) (by omega) _) ?_
 rcases (by omega:c<97∨(97<=c/\c<=122)∨(122<c/\c<224)∨(224<=c/\c<=246)∨(246<c/\c<248)∨(248<=c/\c<=254)∨(254<c/\c<945)∨(945<=c/\c<=961)∨(961<c/\c<963)∨(963<=c/\c<=969)∨(969<c/\c<1072)∨(1072<=c/\c<=1103)∨1103<c) with hq|hq|hq|hq|hq|hq|hq|hq|hq|hq|hq|hq|hq
 ·
  refine mX 9 (.bool false) (bV (decide (c ≥ 97))) (by simp;omega) ?_
  refine mX 16 (.bool false) (bV (decide (c ≥ 224))) (by simp;omega) ?_
  refine mX 24 (.bool false) (bV (decide (c ≥ 248))) (by simp;omega) ?_
  refine mX 32 (.bool false) (bV (decide (c ≥ 945))) (by simp;omega) ?_
  refine mX 40 (.bool false) (bV (decide (c ≥ 963))) (by simp;omega) ?_
  refine mX 48 (.bool false) (bV (decide (c ≥ 1072))) (by simp;omega) ?_
  exact mQe zV h0 (by rw [show letterN c=false from by unfold letterN inR ltrL;simp;omega])
 ·
  refine mX 9 (.bool true) (bV (decide (c ≥ 97))) (by simp;omega) ?_
  refine mX 12 (.bool true) (bV (decide (c<=122))) (by simp;omega) ?_
  exact mQe zI h0 (by rw [show letterN c=true from by unfold letterN inR ltrL;simp;omega])
 ·
  refine mX 9 (.bool true) (bV (decide (c ≥ 97))) (by simp;omega) ?_
  refine mX 12 (.bool false) (bV (decide (c<=122))) (by simp;omega) ?_
  refine mX 16 (.bool false) (bV (decide (c ≥ 224))) (by simp;omega) ?_
  refine mX 24 (.bool false) (bV (decide (c ≥ 248))) (by simp;omega) ?_
  refine mX 32 (.bool false) (bV (decide (c ≥ 945))) (by simp;omega) ?_
  refine mX 40 (.bool false) (bV (decide (c ≥ 963))) (by simp;omega) ?_
  refine mX 48 (.bool false) (bV (decide (c ≥ 1072))) (by simp;omega) ?_
  exact mQe zV h0 (by rw [show letterN c=false from by unfold letterN inR ltrL;simp;omega])
 ·
  refine mX 9 (.bool true) (bV (decide (c ≥ 97))) (by simp;omega) ?_
  refine mX 12 (.bool false) (bV (decide (c<=122))) (by simp;omega) ?_
  refine mX 16 (.bool true) (bV (decide (c ≥ 224))) (by simp;omega) ?_
  refine mX 19 (.bool true) (bV (decide (c<=246))) (by simp;omega) ?_
  exact mQe zI h0 (by rw [show letterN c=true from by unfold letterN inR ltrL;simp;omega])
 ·
  refine mX 9 (.bool true) (bV (decide (c ≥ 97))) (by simp;omega) ?_
  refine mX 12 (.bool false) (bV (decide (c<=122))) (by simp;omega) ?_
  refine mX 16 (.bool true) (bV (decide (c ≥ 224))) (by simp;omega) ?_
  refine mX 19 (.bool false) (bV (decide (c<=246))) (by simp;omega) ?_
  refine mX 24 (.bool false) (bV (decide (c ≥ 248))) (by simp;omega) ?_
  refine mX 32 (.bool false) (bV (decide (c ≥ 945))) (by simp;omega) ?_
  refine mX 40 (.bool false) (bV (decide (c ≥ 963))) (by simp;omega) ?_
  refine mX 48 (.bool false) (bV (decide (c ≥ 1072))) (by simp;omega) ?_
  exact mQe zV h0 (by rw [show letterN c=false from by unfold letterN inR ltrL;simp;omega])
 ·
  refine mX 9 (.bool true) (bV (decide (c ≥ 97))) (by simp;omega) ?_
  refine mX 12 (.bool false) (bV (decide (c<=122))) (by simp;omega) ?_
  refine mX 16 (.bool true) (bV (decide (c ≥ 224))) (by simp;omega) ?_
  refine mX 19 (.bool false) (bV (decide (c<=246))) (by simp;omega) ?_
  refine mX 24 (.bool true) (bV (decide (c ≥ 248))) (by simp;omega) ?_
  refine mX 27 (.bool true) (bV (decide (c<=254))) (by simp;omega) ?_
  exact mQe zI h0 (by rw [show letterN c=true from by unfold letterN inR ltrL;simp;omega])
 ·
  refine mX 9 (.bool true) (bV (decide (c ≥ 97))) (by simp;omega) ?_
  refine mX 12 (.bool false) (bV (decide (c<=122))) (by simp;omega) ?_
  refine mX 16 (.bool true) (bV (decide (c ≥ 224))) (by simp;omega) ?_
  refine mX 19 (.bool false) (bV (decide (c<=246))) (by simp;omega) ?_
  refine mX 24 (.bool true) (bV (decide (c ≥ 248))) (by simp;omega) ?_
  refine mX 27 (.bool false) (bV (decide (c<=254))) (by simp;omega) ?_
  refine mX 32 (.bool false) (bV (decide (c ≥ 945))) (by simp;omega) ?_
  refine mX 40 (.bool false) (bV (decide (c ≥ 963))) (by simp;omega) ?_
  refine mX 48 (.bool false) (bV (decide (c ≥ 1072))) (by simp;omega) ?_
  exact mQe zV h0 (by rw [show letterN c=false from by unfold letterN inR ltrL;simp;omega])
 ·
  refine mX 9 (.bool true) (bV (decide (c ≥ 97))) (by simp;omega) ?_
  refine mX 12 (.bool false) (bV (decide (c<=122))) (by simp;omega) ?_
  refine mX 16 (.bool true) (bV (decide (c ≥ 224))) (by simp;omega) ?_
  refine mX 19 (.bool false) (bV (decide (c<=246))) (by simp;omega) ?_
  refine mX 24 (.bool true) (bV (decide (c ≥ 248))) (by simp;omega) ?_
  refine mX 27 (.bool false) (bV (decide (c<=254))) (by simp;omega) ?_
  refine mX 32 (.bool true) (bV (decide (c ≥ 945))) (by simp;omega) ?_
  refine mX 35 (.bool true) (bV (decide (c<=961))) (by simp;omega) ?_
  exact mQe zI h0 (by rw [show letterN c=true from by unfold letterN inR ltrL;simp;omega])
 ·
  refine mX 9 (.bool true) (bV (decide (c ≥ 97))) (by simp;omega) ?_
  refine mX 12 (.bool false) (bV (decide (c<=122))) (by simp;omega) ?_
  refine mX 16 (.bool true) (bV (decide (c ≥ 224))) (by simp;omega) ?_
  refine mX 19 (.bool false) (bV (decide (c<=246))) (by simp;omega) ?_
  refine mX 24 (.bool true) (bV (decide (c ≥ 248))) (by simp;omega) ?_
  refine mX 27 (.bool false) (bV (decide (c<=254))) (by simp;omega) ?_
  refine mX 32 (.bool true) (bV (decide (c ≥ 945))) (by simp;omega) ?_
  refine mX 35 (.bool false) (bV (decide (c<=961))) (by simp;omega) ?_
  refine mX 40 (.bool false) (bV (decide (c ≥ 963))) (by simp;omega) ?_
  refine mX 48 (.bool false) (bV (decide (c ≥ 1072))) (by simp;omega) ?_
  exact mQe zV h0 (by rw [show letterN c=false from by unfold letterN inR ltrL;simp;omega])
 ·
  refine mX 9 (.bool true) (bV (decide (c ≥ 97))) (by simp;omega) ?_
  refine mX 12 (.bool false) (bV (decide (c<=122))) (by simp;omega) ?_
  refine mX 16 (.bool true) (bV (decide (c ≥ 224))) (by simp;omega) ?_
  refine mX 19 (.bool false) (bV (decide (c<=246))) (by simp;omega) ?_
  refine mX 24 (.bool true) (bV (decide (c ≥ 248))) (by simp;omega) ?_
  refine mX 27 (.bool false) (bV (decide (c<=254))) (by simp;omega) ?_
  refine mX 32 (.bool true) (bV (decide (c ≥ 945))) (by simp;omega) ?_
  refine mX 35 (.bool false) (bV (decide (c<=961))) (by simp;omega) ?_
  refine mX 40 (.bool true) (bV (decide (c ≥ 963))) (by simp;omega) ?_
  refine mX 43 (.bool true) (bV (decide (c<=969))) (by simp;omega) ?_
  exact mQe zI h0 (by rw [show letterN c=true from by unfold letterN inR ltrL;simp;omega])
 ·
  refine mX 9 (.bool true) (bV (decide (c ≥ 97))) (by simp;omega) ?_
  refine mX 12 (.bool false) (bV (decide (c<=122))) (by simp;omega) ?_
  refine mX 16 (.bool true) (bV (decide (c ≥ 224))) (by simp;omega) ?_
  refine mX 19 (.bool false) (bV (decide (c<=246))) (by simp;omega) ?_
  refine mX 24 (.bool true) (bV (decide (c ≥ 248))) (by simp;omega) ?_
  refine mX 27 (.bool false) (bV (decide (c<=254))) (by simp;omega) ?_
  refine mX 32 (.bool true) (bV (decide (c ≥ 945))) (by simp;omega) ?_
  refine mX 35 (.bool false) (bV (decide (c<=961))) (by simp;omega) ?_
  refine mX 40 (.bool true) (bV (decide (c ≥ 963))) (by simp;omega) ?_
  refine mX 43 (.bool false) (bV (decide (c<=969))) (by simp;omega) ?_
  refine mX 48 (.bool false) (bV (decide (c ≥ 1072))) (by simp;omega) ?_
  exact mQe zV h0 (by rw [show letterN c=false from by unfold letterN inR ltrL;simp;omega])
 ·
  refine mX 9 (.bool true) (bV (decide (c ≥ 97))) (by simp;omega) ?_
  refine mX 12 (.bool false) (bV (decide (c<=122))) (by simp;omega) ?_
  refine mX 16 (.bool true) (bV (decide (c ≥ 224))) (by simp;omega) ?_
  refine mX 19 (.bool false) (bV (decide (c<=246))) (by simp;omega) ?_
  refine mX 24 (.bool true) (bV (decide (c ≥ 248))) (by simp;omega) ?_
  refine mX 27 (.bool false) (bV (decide (c<=254))) (by simp;omega) ?_
  refine mX 32 (.bool true) (bV (decide (c ≥ 945))) (by simp;omega) ?_
  refine mX 35 (.bool false) (bV (decide (c<=961))) (by simp;omega) ?_
  refine mX 40 (.bool true) (bV (decide (c ≥ 963))) (by simp;omega) ?_
  refine mX 43 (.bool false) (bV (decide (c<=969))) (by simp;omega) ?_
  refine mX 48 (.bool true) (bV (decide (c ≥ 1072))) (by simp;omega) ?_
  refine mX 51 (.bool true) (bV (decide (c<=1103))) (by simp;omega) ?_
  exact mQe zI h0 (by rw [show letterN c=true from by unfold letterN inR ltrL;simp;omega])
 refine mX 9 (.bool true) (bV (decide (c ≥ 97))) (by simp;omega) ?_
 refine mX 12 (.bool false) (bV (decide (c<=122))) (by simp;omega) ?_
 refine mX 16 (.bool true) (bV (decide (c ≥ 224))) (by simp;omega) ?_
 refine mX 19 (.bool false) (bV (decide (c<=246))) (by simp;omega) ?_
 refine mX 24 (.bool true) (bV (decide (c ≥ 248))) (by simp;omega) ?_
 refine mX 27 (.bool false) (bV (decide (c<=254))) (by simp;omega) ?_
 refine mX 32 (.bool true) (bV (decide (c ≥ 945))) (by simp;omega) ?_
 refine mX 35 (.bool false) (bV (decide (c<=961))) (by simp;omega) ?_
 refine mX 40 (.bool true) (bV (decide (c ≥ 963))) (by simp;omega) ?_
 refine mX 43 (.bool false) (bV (decide (c<=969))) (by simp;omega) ?_
 refine mX 48 (.bool true) (bV (decide (c ≥ 1072))) (by simp;omega) ?_
 refine mX 51 (.bool false) (bV (decide (c<=1103))) (by simp;omega) ?_
 exact mQe zV h0 (by rw [show letterN c=false from by unfold letterN inR ltrL;simp;omega])
theorem rune_1(s:ByteArray)(hs0:0<s.size)(hx:nb (gb s.data.toList 0)<128)(w:World):Calls Tryz.prog 62 #[.string s] w (RnPost w s.data.toList):=by
 have hb0:=nb_lt (gb s.data.toList 0)
 have hsl:s.data.toList.length=s.size:=by simp
 have h0:=Hp.nil (fun _=>False) w
 refine mE 83 ?_
 refine mW 10 (v:=(iV .u8 (ub (gb s.data.toList 0)))) (e_sidx 9 (.tmp 9) (.const zO) (by kernel_rfl) s .i64 0 (by kernel_rfl) (by kernel_rfl) (by kernel_rfl) (by omega) _) ?_
 refine mX 11 (zD ((nb (gb s.data.toList 0):Int))) (zD (IntKind.i64.wrap (ub (gb s.data.toList 0)))) (i64_ubN _) ?_
 refine mX 13 (.bool true) (bV (decide ((nb (gb s.data.toList 0):Int)<128))) (by simp;omega) ?_
 refine mP (Value.tuple #[(zD ((nb (gb s.data.toList 0):Int))),(zD 1)]) ?_
 exact ⟨_,_,rfl,rnp_1 hx,h0.below0⟩
theorem rune_2(s:ByteArray)(hs0:0<s.size)(hs:s.size<=1000000000)(hx:194<=nb (gb s.data.toList 0)/\nb (gb s.data.toList 0)<=223)(w:World):Calls Tryz.prog 62 #[.string s] w (RnPost w s.data.toList):=by
 have hb0:=nb_lt (gb s.data.toList 0)
 have hsl:s.data.toList.length=s.size:=by simp
 have h0:=Hp.nil (fun _=>False) w
 refine mE 83 ?_
 refine mW 10 (v:=(iV .u8 (ub (gb s.data.toList 0)))) (e_sidx 9 (.tmp 9) (.const zO) (by kernel_rfl) s .i64 0 (by kernel_rfl) (by kernel_rfl) (by kernel_rfl) (by omega) _) ?_
 refine mX 11 (zD ((nb (gb s.data.toList 0):Int))) (zD (IntKind.i64.wrap (ub (gb s.data.toList 0)))) (i64_ubN _) ?_
 refine mX 13 (.bool false) (bV (decide ((nb (gb s.data.toList 0):Int)<128))) (by simp;omega) ?_
 refine mX 17 (.bool true) (bV (decide ((nb (gb s.data.toList 0):Int) ≥ 194))) (by simp;omega) ?_
 refine mX 20 (.bool true) (bV (decide ((nb (gb s.data.toList 0):Int)<=223))) (by simp;omega) ?_
 refine mW 23 (exec_sub _ _ _ _ bO ((nb (gb s.data.toList 0):Int)) 192 (by kernel_rfl) (by kernel_rfl) (((nb (gb s.data.toList 0)-192:Nat):Int)) (by omega) (by omega) (by omega) _) ?_
 refine m_if 45 (((s).size:Int)<2) (by kernel_rfl) (fun b11=>?_) (fun b11=>?_)
 ·
  refine mP (Value.tuple #[(zD (-1)),(zD 1)]) ?_
  exact ⟨_,_,rfl,rnp_no (by omega) (by omega) (by omega),h0.below0⟩
 refine mL (fun mM xX aA wL=>∃ (k:Nat) (a:Nat),(1<=k/\k<=2)/\(k=1->a=nb (gb s.data.toList 0)-192)/\(k=2->a=(nb (gb s.data.toList 0)-192)*64+(nb (gb s.data.toList 1)-128)/\128<=nb (gb s.data.toList 1)/\nb (gb s.data.toList 1)<=191)/\mM=2-k/\aA=patch xX 83 [(0,(sV s)),(4,(zD ((a:Int)))),(5,(zD 2)),(6,(zD 128)),(7,(zD ((k:Int))))]/\Hp (fun _=>False) w wL [] []) ⟨_,_,1,((nb (gb s.data.toList 0)-192)),(by omega),(fun _=>rfl),(fun h=>absurd h (by decide)),rfl,pM,h0.sel [] [] (by kernel_rfl) rfl rfl⟩ ?_
 rintro _ x15 _ w15 ⟨k,a,hk,ha,ha2,rfl,rfl,h15⟩ KL15 hKL15
 refine mAt ?_
 refine m_if 48 ((k:Int)<2) (by kernel_rfl) (fun b18=>?_) (fun b18=>?_)
 ·
  have hkn:k<2:=by omega
  have hku:k<s.size:=by omega
  have hu:=nb_lt (gb s.data.toList k)
  refine mW 53 (v:=(iV .u8 (ub (gb s.data.toList k)))) (e_sidx 9 (.tmp 51) (.tmp 52) (by kernel_rfl) s .i64 k (by kernel_rfl) (by kernel_rfl) (by kernel_rfl) (by omega) _) ?_
  refine mX 54 (zD ((nb (gb s.data.toList k):Int))) (zD (IntKind.i64.wrap (ub (gb s.data.toList k)))) (i64_ubN _) ?_
  rcases (by omega:nb (gb s.data.toList k)<128∨(128<=nb (gb s.data.toList k)/\191<nb (gb s.data.toList k))∨(128<=nb (gb s.data.toList k)/\nb (gb s.data.toList k)<=191)) with hq|hq|hq
  ·
   refine mX 56 (.bool true) (bV (decide ((nb (gb s.data.toList k):Int)<128))) (by simp;omega) ?_
   refine mP (Value.tuple #[(zD (-1)),(zD 1)]) ?_
   obtain rfl:k=1:=by omega
   exact ⟨_,_,rfl,rnp_no (by omega) (by omega) (by omega),h15.below0⟩
  ·
   refine mX 56 (.bool false) (bV (decide ((nb (gb s.data.toList k):Int)<128))) (by simp;omega) ?_
   refine mX 59 (.bool true) (bV (decide ((nb (gb s.data.toList k):Int)>191))) (by simp;omega) ?_
   refine mP (Value.tuple #[(zD (-1)),(zD 1)]) ?_
   obtain rfl:k=1:=by omega
   exact ⟨_,_,rfl,rnp_no (by omega) (by omega) (by omega),h15.below0⟩
  refine mX 56 (.bool false) (bV (decide ((nb (gb s.data.toList k):Int)<128))) (by simp;omega) ?_
  refine mX 59 (.bool false) (bV (decide ((nb (gb s.data.toList k):Int)>191))) (by simp;omega) ?_
  have hsmall:a<=65535:=by omega
  obtain ⟨u,hu2⟩:∃ u,u=nb (gb s.data.toList k):=⟨_,rfl⟩
  refine mW 62 (v:=(zD (((a*64:Nat):Int)))) (exec_mulM _ _ _ _ bO a 64 (by kernel_rfl) (by kernel_rfl) (a*64) rfl (by omega) _) ?_
  refine mW 64 (exec_add _ _ _ _ bO (((a*64:Nat):Int)) ((nb (gb s.data.toList k):Int)) (by kernel_rfl) (by kernel_rfl) (((a*64+u:Nat):Int)) (by omega) (by omega) (by omega) _) ?_
  refine mW 65 (exec_sub _ _ _ _ bO (((a*64+u:Nat):Int)) 128 (by kernel_rfl) (by kernel_rfl) (((a*64+u-128:Nat):Int)) (by omega) (by omega) (by omega) _) ?_
  refine mW 50 (exec_add _ _ _ _ bO ((k:Int)) 1 (by kernel_rfl) (by kernel_rfl) (((k+1:Nat):Int)) (by omega) (by omega) (by omega) _) ?_
  exact mK KL15 (hKL15 _ _ ⟨2-(k+1),_,(by omega),((k+1)),((a*64+u-128)),(by omega),(by omega),(by intro _;have e:k=1:=(by omega);subst e;have:=ha rfl;omega),rfl,pM,h15.sel [] [] (by kernel_rfl) rfl rfl⟩)
 rcases (by omega:a<128∨(128<=a/\1114111<a)∨(128<=a/\a<=1114111/\a<55296)∨(128<=a/\a<=1114111/\55296<=a/\a<=57343)∨(128<=a/\a<=1114111/\57343<a)) with hz|hz|hz|hz|hz
 ·
  refine mX 68 (.bool true) (bV (decide ((a:Int)<128))) (by simp;omega) ?_
  refine mP (Value.tuple #[(zD (-1)),(zD 1)]) ?_
  obtain rfl:k=2:=by omega
  obtain ⟨h5,h6,h7⟩:=ha2 rfl
  exfalso
  omega
 ·
  refine mX 68 (.bool false) (bV (decide ((a:Int)<128))) (by simp;omega) ?_
  refine mX 71 (.bool true) (bV (decide ((a:Int)>1114111))) (by simp;omega) ?_
  refine mP (Value.tuple #[(zD (-1)),(zD 1)]) ?_
  obtain rfl:k=2:=by omega
  obtain ⟨h5,h6,h7⟩:=ha2 rfl
  exfalso
  omega
 ·
  refine mX 68 (.bool false) (bV (decide ((a:Int)<128))) (by simp;omega) ?_
  refine mX 71 (.bool false) (bV (decide ((a:Int)>1114111))) (by simp;omega) ?_
  refine mX 75 (.bool false) (bV (decide ((a:Int) ≥ 55296))) (by simp;omega) ?_
  refine mP (Value.tuple #[(zD ((a:Int))),(zD 2)]) ?_
  obtain rfl:k=2:=by omega
  obtain ⟨h5,h6,h7⟩:=ha2 rfl
  exact ⟨_,_,rfl,rnp_2 ⟨by omega,by omega,by omega,h6,h7⟩ (by omega),h15.below0⟩
 ·
  refine mX 68 (.bool false) (bV (decide ((a:Int)<128))) (by simp;omega) ?_
  refine mX 71 (.bool false) (bV (decide ((a:Int)>1114111))) (by simp;omega) ?_
  refine mX 75 (.bool true) (bV (decide ((a:Int) ≥ 55296))) (by simp;omega) ?_
  refine mX 78 (.bool true) (bV (decide ((a:Int)<=57343))) (by simp;omega) ?_
  refine mP (Value.tuple #[(zD (-1)),(zD 1)]) ?_
  obtain rfl:k=2:=by omega
  obtain ⟨h5,h6,h7⟩:=ha2 rfl
  exfalso
  omega
 refine mX 68 (.bool false) (bV (decide ((a:Int)<128))) (by simp;omega) ?_
 refine mX 71 (.bool false) (bV (decide ((a:Int)>1114111))) (by simp;omega) ?_
 refine mX 75 (.bool true) (bV (decide ((a:Int) ≥ 55296))) (by simp;omega) ?_
 refine mX 78 (.bool false) (bV (decide ((a:Int)<=57343))) (by simp;omega) ?_
 refine mP (Value.tuple #[(zD ((a:Int))),(zD 2)]) ?_
 obtain rfl:k=2:=by omega
 obtain ⟨h5,h6,h7⟩:=ha2 rfl
 exact ⟨_,_,rfl,rnp_2 ⟨by omega,by omega,by omega,h6,h7⟩ (by omega),h15.below0⟩
theorem rune_3(s:ByteArray)(hs0:0<s.size)(hs:s.size<=1000000000)(hx:224<=nb (gb s.data.toList 0)/\nb (gb s.data.toList 0)<=239)(w:World):Calls Tryz.prog 62 #[.string s] w (RnPost w s.data.toList):=by
 have hb0:=nb_lt (gb s.data.toList 0)
 have hsl:s.data.toList.length=s.size:=by simp
 have h0:=Hp.nil (fun _=>False) w
 refine mE 83 ?_
 refine mW 10 (v:=(iV .u8 (ub (gb s.data.toList 0)))) (e_sidx 9 (.tmp 9) (.const zO) (by kernel_rfl) s .i64 0 (by kernel_rfl) (by kernel_rfl) (by kernel_rfl) (by omega) _) ?_
 refine mX 11 (zD ((nb (gb s.data.toList 0):Int))) (zD (IntKind.i64.wrap (ub (gb s.data.toList 0)))) (i64_ubN _) ?_
 refine mX 13 (.bool false) (bV (decide ((nb (gb s.data.toList 0):Int)<128))) (by simp;omega) ?_
 refine mX 17 (.bool true) (bV (decide ((nb (gb s.data.toList 0):Int) ≥ 194))) (by simp;omega) ?_
 refine mX 20 (.bool false) (bV (decide ((nb (gb s.data.toList 0):Int)<=223))) (by simp;omega) ?_
 refine mX 26 (.bool true) (bV (decide ((nb (gb s.data.toList 0):Int) ≥ 224))) (by simp;omega) ?_
 refine mX 29 (.bool true) (bV (decide ((nb (gb s.data.toList 0):Int)<=239))) (by simp;omega) ?_
 refine mW 32 (exec_sub _ _ _ _ bO ((nb (gb s.data.toList 0):Int)) 224 (by kernel_rfl) (by kernel_rfl) (((nb (gb s.data.toList 0)-224:Nat):Int)) (by omega) (by omega) (by omega) _) ?_
 refine m_if 45 (((s).size:Int)<3) (by kernel_rfl) (fun b12=>?_) (fun b12=>?_)
 ·
  refine mP (Value.tuple #[(zD (-1)),(zD 1)]) ?_
  exact ⟨_,_,rfl,rnp_no (by omega) (by omega) (by omega),h0.below0⟩
 refine mL (fun mM xX aA wL=>∃ (k:Nat) (a:Nat),(1<=k/\k<=3)/\((k=1->a<=15)/\(k=2->a<=1023)/\(k=3->a<=65535)/\a<=4194303)/\mM=3-k/\aA=patch xX 83 [(0,(sV s)),(4,(zD ((a:Int)))),(5,(zD 3)),(6,(zD 2048)),(7,(zD ((k:Int))))]/\Hp (fun _=>False) w wL [] []) ⟨_,_,1,((nb (gb s.data.toList 0)-224)),(by omega),(by omega),rfl,pM,h0.sel [] [] (by kernel_rfl) rfl rfl⟩ ?_
 rintro _ x16 _ w16 ⟨k,a,hk,ha,rfl,rfl,h16⟩ KL16 hKL16
 refine mAt ?_
 refine m_if 48 ((k:Int)<3) (by kernel_rfl) (fun b19=>?_) (fun b19=>?_)
 ·
  have hkn:k<3:=by omega
  have hku:k<s.size:=by omega
  have hu:=nb_lt (gb s.data.toList k)
  refine mW 53 (v:=(iV .u8 (ub (gb s.data.toList k)))) (e_sidx 9 (.tmp 51) (.tmp 52) (by kernel_rfl) s .i64 k (by kernel_rfl) (by kernel_rfl) (by kernel_rfl) (by omega) _) ?_
  refine mX 54 (zD ((nb (gb s.data.toList k):Int))) (zD (IntKind.i64.wrap (ub (gb s.data.toList k)))) (i64_ubN _) ?_
  rcases (by omega:nb (gb s.data.toList k)<128∨(128<=nb (gb s.data.toList k)/\191<nb (gb s.data.toList k))∨(128<=nb (gb s.data.toList k)/\nb (gb s.data.toList k)<=191)) with hq|hq|hq
  ·
   refine mX 56 (.bool true) (bV (decide ((nb (gb s.data.toList k):Int)<128))) (by simp;omega) ?_
   refine mP (Value.tuple #[(zD (-1)),(zD 1)]) ?_
   exact ⟨_,_,rfl,rnp_no (by omega) (by omega) (by omega),h16.below0⟩
  ·
   refine mX 56 (.bool false) (bV (decide ((nb (gb s.data.toList k):Int)<128))) (by simp;omega) ?_
   refine mX 59 (.bool true) (bV (decide ((nb (gb s.data.toList k):Int)>191))) (by simp;omega) ?_
   refine mP (Value.tuple #[(zD (-1)),(zD 1)]) ?_
   exact ⟨_,_,rfl,rnp_no (by omega) (by omega) (by omega),h16.below0⟩
  refine mX 56 (.bool false) (bV (decide ((nb (gb s.data.toList k):Int)<128))) (by simp;omega) ?_
  refine mX 59 (.bool false) (bV (decide ((nb (gb s.data.toList k):Int)>191))) (by simp;omega) ?_
  have hsmall:a<=65535:=by omega
  obtain ⟨u,hu2⟩:∃ u,u=nb (gb s.data.toList k):=⟨_,rfl⟩
  refine mW 62 (v:=(zD (((a*64:Nat):Int)))) (exec_mulM _ _ _ _ bO a 64 (by kernel_rfl) (by kernel_rfl) (a*64) rfl (by omega) _) ?_
  refine mW 64 (exec_add _ _ _ _ bO (((a*64:Nat):Int)) ((nb (gb s.data.toList k):Int)) (by kernel_rfl) (by kernel_rfl) (((a*64+u:Nat):Int)) (by omega) (by omega) (by omega) _) ?_
  refine mW 65 (exec_sub _ _ _ _ bO (((a*64+u:Nat):Int)) 128 (by kernel_rfl) (by kernel_rfl) (((a*64+u-128:Nat):Int)) (by omega) (by omega) (by omega) _) ?_
  refine mW 50 (exec_add _ _ _ _ bO ((k:Int)) 1 (by kernel_rfl) (by kernel_rfl) (((k+1:Nat):Int)) (by omega) (by omega) (by omega) _) ?_
  exact mK KL16 (hKL16 _ _ ⟨3-(k+1),_,(by omega),((k+1)),((a*64+u-128)),(by omega),(by omega),rfl,pM,h16.sel [] [] (by kernel_rfl) rfl rfl⟩)
 rcases (by omega:a<2048∨(2048<=a/\1114111<a)∨(2048<=a/\a<=1114111/\a<55296)∨(2048<=a/\a<=1114111/\55296<=a/\a<=57343)∨(2048<=a/\a<=1114111/\57343<a)) with hz|hz|hz|hz|hz
 ·
  refine mX 68 (.bool true) (bV (decide ((a:Int)<2048))) (by simp;omega) ?_
  refine mP (Value.tuple #[(zD (-1)),(zD 1)]) ?_
  exact ⟨_,_,rfl,rnp_no (by omega) (by omega) (by omega),h16.below0⟩
 ·
  refine mX 68 (.bool false) (bV (decide ((a:Int)<2048))) (by simp;omega) ?_
  refine mX 71 (.bool true) (bV (decide ((a:Int)>1114111))) (by simp;omega) ?_
  refine mP (Value.tuple #[(zD (-1)),(zD 1)]) ?_
  exact ⟨_,_,rfl,rnp_no (by omega) (by omega) (by omega),h16.below0⟩
 ·
  refine mX 68 (.bool false) (bV (decide ((a:Int)<2048))) (by simp;omega) ?_
  refine mX 71 (.bool false) (bV (decide ((a:Int)>1114111))) (by simp;omega) ?_
  refine mX 75 (.bool false) (bV (decide ((a:Int) ≥ 55296))) (by simp;omega) ?_
  refine mP (Value.tuple #[(zD ((a:Int))),(zD 3)]) ?_
  exact ⟨_,_,rfl,rnp_no (by omega) (by omega) (by omega),h16.below0⟩
 ·
  refine mX 68 (.bool false) (bV (decide ((a:Int)<2048))) (by simp;omega) ?_
  refine mX 71 (.bool false) (bV (decide ((a:Int)>1114111))) (by simp;omega) ?_
  refine mX 75 (.bool true) (bV (decide ((a:Int) ≥ 55296))) (by simp;omega) ?_
  refine mX 78 (.bool true) (bV (decide ((a:Int)<=57343))) (by simp;omega) ?_
  refine mP (Value.tuple #[(zD (-1)),(zD 1)]) ?_
  exact ⟨_,_,rfl,rnp_no (by omega) (by omega) (by omega),h16.below0⟩
 refine mX 68 (.bool false) (bV (decide ((a:Int)<2048))) (by simp;omega) ?_
 refine mX 71 (.bool false) (bV (decide ((a:Int)>1114111))) (by simp;omega) ?_
 refine mX 75 (.bool true) (bV (decide ((a:Int) ≥ 55296))) (by simp;omega) ?_
 refine mX 78 (.bool false) (bV (decide ((a:Int)<=57343))) (by simp;omega) ?_
 refine mP (Value.tuple #[(zD ((a:Int))),(zD 3)]) ?_
 exact ⟨_,_,rfl,rnp_no (by omega) (by omega) (by omega),h16.below0⟩
theorem rune_4(s:ByteArray)(hs0:0<s.size)(hs:s.size<=1000000000)(hx:240<=nb (gb s.data.toList 0)/\nb (gb s.data.toList 0)<=244)(w:World):Calls Tryz.prog 62 #[.string s] w (RnPost w s.data.toList):=by
 have hb0:=nb_lt (gb s.data.toList 0)
 have hsl:s.data.toList.length=s.size:=by simp
 have h0:=Hp.nil (fun _=>False) w
 refine mE 83 ?_
 refine mW 10 (v:=(iV .u8 (ub (gb s.data.toList 0)))) (e_sidx 9 (.tmp 9) (.const zO) (by kernel_rfl) s .i64 0 (by kernel_rfl) (by kernel_rfl) (by kernel_rfl) (by omega) _) ?_
 refine mX 11 (zD ((nb (gb s.data.toList 0):Int))) (zD (IntKind.i64.wrap (ub (gb s.data.toList 0)))) (i64_ubN _) ?_
 refine mX 13 (.bool false) (bV (decide ((nb (gb s.data.toList 0):Int)<128))) (by simp;omega) ?_
 refine mX 17 (.bool true) (bV (decide ((nb (gb s.data.toList 0):Int) ≥ 194))) (by simp;omega) ?_
 refine mX 20 (.bool false) (bV (decide ((nb (gb s.data.toList 0):Int)<=223))) (by simp;omega) ?_
 refine mX 26 (.bool true) (bV (decide ((nb (gb s.data.toList 0):Int) ≥ 224))) (by simp;omega) ?_
 refine mX 29 (.bool false) (bV (decide ((nb (gb s.data.toList 0):Int)<=239))) (by simp;omega) ?_
 refine mX 35 (.bool true) (bV (decide ((nb (gb s.data.toList 0):Int) ≥ 240))) (by simp;omega) ?_
 refine mX 38 (.bool true) (bV (decide ((nb (gb s.data.toList 0):Int)<=244))) (by simp;omega) ?_
 refine mW 41 (exec_sub _ _ _ _ bO ((nb (gb s.data.toList 0):Int)) 240 (by kernel_rfl) (by kernel_rfl) (((nb (gb s.data.toList 0)-240:Nat):Int)) (by omega) (by omega) (by omega) _) ?_
 refine m_if 45 (((s).size:Int)<4) (by kernel_rfl) (fun b13=>?_) (fun b13=>?_)
 ·
  refine mP (Value.tuple #[(zD (-1)),(zD 1)]) ?_
  exact ⟨_,_,rfl,rnp_no (by omega) (by omega) (by omega),h0.below0⟩
 refine mL (fun mM xX aA wL=>∃ (k:Nat) (a:Nat),(1<=k/\k<=4)/\((k=1->a<=15)/\(k=2->a<=1023)/\(k=3->a<=65535)/\a<=4194303)/\mM=4-k/\aA=patch xX 83 [(0,(sV s)),(4,(zD ((a:Int)))),(5,(zD 4)),(6,(zD 65536)),(7,(zD ((k:Int))))]/\Hp (fun _=>False) w wL [] []) ⟨_,_,1,((nb (gb s.data.toList 0)-240)),(by omega),(by omega),rfl,pM,h0.sel [] [] (by kernel_rfl) rfl rfl⟩ ?_
 rintro _ x17 _ w17 ⟨k,a,hk,ha,rfl,rfl,h17⟩ KL17 hKL17
 refine mAt ?_
 refine m_if 48 ((k:Int)<4) (by kernel_rfl) (fun b20=>?_) (fun b20=>?_)
 ·
  have hkn:k<4:=by omega
  have hku:k<s.size:=by omega
  have hu:=nb_lt (gb s.data.toList k)
  refine mW 53 (v:=(iV .u8 (ub (gb s.data.toList k)))) (e_sidx 9 (.tmp 51) (.tmp 52) (by kernel_rfl) s .i64 k (by kernel_rfl) (by kernel_rfl) (by kernel_rfl) (by omega) _) ?_
  refine mX 54 (zD ((nb (gb s.data.toList k):Int))) (zD (IntKind.i64.wrap (ub (gb s.data.toList k)))) (i64_ubN _) ?_
  rcases (by omega:nb (gb s.data.toList k)<128∨(128<=nb (gb s.data.toList k)/\191<nb (gb s.data.toList k))∨(128<=nb (gb s.data.toList k)/\nb (gb s.data.toList k)<=191)) with hq|hq|hq
  ·
   refine mX 56 (.bool true) (bV (decide ((nb (gb s.data.toList k):Int)<128))) (by simp;omega) ?_
   refine mP (Value.tuple #[(zD (-1)),(zD 1)]) ?_
   exact ⟨_,_,rfl,rnp_no (by omega) (by omega) (by omega),h17.below0⟩
  ·
   refine mX 56 (.bool false) (bV (decide ((nb (gb s.data.toList k):Int)<128))) (by simp;omega) ?_
   refine mX 59 (.bool true) (bV (decide ((nb (gb s.data.toList k):Int)>191))) (by simp;omega) ?_
   refine mP (Value.tuple #[(zD (-1)),(zD 1)]) ?_
   exact ⟨_,_,rfl,rnp_no (by omega) (by omega) (by omega),h17.below0⟩
  refine mX 56 (.bool false) (bV (decide ((nb (gb s.data.toList k):Int)<128))) (by simp;omega) ?_
  refine mX 59 (.bool false) (bV (decide ((nb (gb s.data.toList k):Int)>191))) (by simp;omega) ?_
  have hsmall:a<=65535:=by omega
  obtain ⟨u,hu2⟩:∃ u,u=nb (gb s.data.toList k):=⟨_,rfl⟩
  refine mW 62 (v:=(zD (((a*64:Nat):Int)))) (exec_mulM _ _ _ _ bO a 64 (by kernel_rfl) (by kernel_rfl) (a*64) rfl (by omega) _) ?_
  refine mW 64 (exec_add _ _ _ _ bO (((a*64:Nat):Int)) ((nb (gb s.data.toList k):Int)) (by kernel_rfl) (by kernel_rfl) (((a*64+u:Nat):Int)) (by omega) (by omega) (by omega) _) ?_
  refine mW 65 (exec_sub _ _ _ _ bO (((a*64+u:Nat):Int)) 128 (by kernel_rfl) (by kernel_rfl) (((a*64+u-128:Nat):Int)) (by omega) (by omega) (by omega) _) ?_
  refine mW 50 (exec_add _ _ _ _ bO ((k:Int)) 1 (by kernel_rfl) (by kernel_rfl) (((k+1:Nat):Int)) (by omega) (by omega) (by omega) _) ?_
  exact mK KL17 (hKL17 _ _ ⟨4-(k+1),_,(by omega),((k+1)),((a*64+u-128)),(by omega),(by omega),rfl,pM,h17.sel [] [] (by kernel_rfl) rfl rfl⟩)
 rcases (by omega:a<65536∨(65536<=a/\1114111<a)∨(65536<=a/\a<=1114111/\a<55296)∨(65536<=a/\a<=1114111/\55296<=a/\a<=57343)∨(65536<=a/\a<=1114111/\57343<a)) with hz|hz|hz|hz|hz
 ·
  refine mX 68 (.bool true) (bV (decide ((a:Int)<65536))) (by simp;omega) ?_
  refine mP (Value.tuple #[(zD (-1)),(zD 1)]) ?_
  exact ⟨_,_,rfl,rnp_no (by omega) (by omega) (by omega),h17.below0⟩
 ·
  refine mX 68 (.bool false) (bV (decide ((a:Int)<65536))) (by simp;omega) ?_
  refine mX 71 (.bool true) (bV (decide ((a:Int)>1114111))) (by simp;omega) ?_
  refine mP (Value.tuple #[(zD (-1)),(zD 1)]) ?_
  exact ⟨_,_,rfl,rnp_no (by omega) (by omega) (by omega),h17.below0⟩
 ·
  refine mX 68 (.bool false) (bV (decide ((a:Int)<65536))) (by simp;omega) ?_
  refine mX 71 (.bool false) (bV (decide ((a:Int)>1114111))) (by simp;omega) ?_
  refine mX 75 (.bool false) (bV (decide ((a:Int) ≥ 55296))) (by simp;omega) ?_
  refine mP (Value.tuple #[(zD ((a:Int))),(zD 4)]) ?_
  exact ⟨_,_,rfl,rnp_no (by omega) (by omega) (by omega),h17.below0⟩
 ·
  refine mX 68 (.bool false) (bV (decide ((a:Int)<65536))) (by simp;omega) ?_
  refine mX 71 (.bool false) (bV (decide ((a:Int)>1114111))) (by simp;omega) ?_
  refine mX 75 (.bool true) (bV (decide ((a:Int) ≥ 55296))) (by simp;omega) ?_
  refine mX 78 (.bool true) (bV (decide ((a:Int)<=57343))) (by simp;omega) ?_
  refine mP (Value.tuple #[(zD (-1)),(zD 1)]) ?_
  exact ⟨_,_,rfl,rnp_no (by omega) (by omega) (by omega),h17.below0⟩
 refine mX 68 (.bool false) (bV (decide ((a:Int)<65536))) (by simp;omega) ?_
 refine mX 71 (.bool false) (bV (decide ((a:Int)>1114111))) (by simp;omega) ?_
 refine mX 75 (.bool true) (bV (decide ((a:Int) ≥ 55296))) (by simp;omega) ?_
 refine mX 78 (.bool false) (bV (decide ((a:Int)<=57343))) (by simp;omega) ?_
 refine mP (Value.tuple #[(zD ((a:Int))),(zD 4)]) ?_
 exact ⟨_,_,rfl,rnp_no (by omega) (by omega) (by omega),h17.below0⟩
theorem rune_0(s:ByteArray)(hs0:0<s.size)(hx0:(128<=nb (gb s.data.toList 0)/\nb (gb s.data.toList 0)<=193)∨245<=nb (gb s.data.toList 0))(w:World):Calls Tryz.prog 62 #[.string s] w (RnPost w s.data.toList):=by
 have hb0:=nb_lt (gb s.data.toList 0)
 have hsl:s.data.toList.length=s.size:=by simp
 have h0:=Hp.nil (fun _=>False) w
 refine mE 83 ?_
 refine mW 10 (v:=(iV .u8 (ub (gb s.data.toList 0)))) (e_sidx 9 (.tmp 9) (.const zO) (by kernel_rfl) s .i64 0 (by kernel_rfl) (by kernel_rfl) (by kernel_rfl) (by omega) _) ?_
 refine mX 11 (zD ((nb (gb s.data.toList 0):Int))) (zD (IntKind.i64.wrap (ub (gb s.data.toList 0)))) (i64_ubN _) ?_
 refine mX 13 (.bool false) (bV (decide ((nb (gb s.data.toList 0):Int)<128))) (by simp;omega) ?_
 rcases hx0 with hx1|hx1
 ·
  refine mX 17 (.bool false) (bV (decide ((nb (gb s.data.toList 0):Int) ≥ 194))) (by simp;omega) ?_
  refine mX 26 (.bool false) (bV (decide ((nb (gb s.data.toList 0):Int) ≥ 224))) (by simp;omega) ?_
  refine mX 35 (.bool false) (bV (decide ((nb (gb s.data.toList 0):Int) ≥ 240))) (by simp;omega) ?_
  refine mP (Value.tuple #[(zD (-1)),(zD 1)]) ?_
  exact ⟨_,_,rfl,rnp_no (by omega) (by omega) (by omega),h0.below0⟩
 refine mX 17 (.bool true) (bV (decide ((nb (gb s.data.toList 0):Int) ≥ 194))) (by simp;omega) ?_
 refine mX 20 (.bool false) (bV (decide ((nb (gb s.data.toList 0):Int)<=223))) (by simp;omega) ?_
 refine mX 26 (.bool true) (bV (decide ((nb (gb s.data.toList 0):Int) ≥ 224))) (by simp;omega) ?_
 refine mX 29 (.bool false) (bV (decide ((nb (gb s.data.toList 0):Int)<=239))) (by simp;omega) ?_
 refine mX 35 (.bool true) (bV (decide ((nb (gb s.data.toList 0):Int) ≥ 240))) (by simp;omega) ?_
 refine mX 38 (.bool false) (bV (decide ((nb (gb s.data.toList 0):Int)<=244))) (by simp;omega) ?_
 refine mP (Value.tuple #[(zD (-1)),(zD 1)]) ?_
 exact ⟨_,_,rfl,rnp_no (by omega) (by omega) (by omega),h0.below0⟩
theorem rune_any(s:ByteArray)(hs0:0<s.size)(hs:s.size<=1000000000)(w:World):Calls Tryz.prog 62 #[.string s] w (RnPost w s.data.toList):=by
 have hb0:=nb_lt (gb s.data.toList 0)
 rcases (by omega:nb (gb s.data.toList 0)<128∨(194<=nb (gb s.data.toList 0)/\nb (gb s.data.toList 0)<=223)∨(224<=nb (gb s.data.toList 0)/\nb (gb s.data.toList 0)<=239)∨(240<=nb (gb s.data.toList 0)/\nb (gb s.data.toList 0)<=244)∨((128<=nb (gb s.data.toList 0)/\nb (gb s.data.toList 0)<=193)∨245<=nb (gb s.data.toList 0))) with h|h|h|h|h
 · exact rune_1 s hs0 h w
 · exact rune_2 s hs0 hs h w
 · exact rune_3 s hs0 hs h w
 · exact rune_4 s hs0 hs h w
 exact rune_0 s hs0 h w
end
section
open Go.RowKit Go.QT
theorem runeL_len{l:Bytes}{c m:Nat}(h:runeL l=some (c,m))(h0:0<l.length):1<=m/\m<=2/\m<=l.length/\c<2048:=by
 have hb:=nb_lt (gb l 0)
 unfold runeL at h
 split at h
 · injection h with h;injection h with h1 h2;subst h1;subst h2;omega
 split at h
 · injection h with h;injection h with h1 h2;subst h1;subst h2;omega
 cases h
theorem letter_out{r:Int}(h:r = -1∨2048<=r):letterN r=false:=by
 unfold letterN inR ltrL;simp;omega
theorem dig_eq(c:Int):inR c digL=(decide (48<=c/\c<=57) || decide (c=45)):=by
 unfold inR digL
 rw [Bool.eq_iff_iff]
 simp
 omega
theorem right_ways{l:Bytes}{r k:Int}(h:RnP l r k)(i:Nat) :
   (runeL l=none/\letterN r=false/\i=0)∨(runeL l=none/\letterN r=false/\i≠0/\r = -1)∨(runeL l=none/\letterN r=false/\i≠0/\2048<=r)∨(∃ c m:Nat,runeL l=some (c,m)/\r=c/\k=m/\letterN r=true) ∨
   (∃ c m:Nat,runeL l=some (c,m)/\r=c/\k=m/\letterN r=false/\i=0)∨(∃ c m:Nat,runeL l=some (c,m)/\r=c/\k=m/\letterN r=false/\i≠0/\r=45)∨(∃ c m:Nat,runeL l=some (c,m)/\r=c/\k=m/\letterN r=false/\i≠0/\r≠45/\r<48) ∨
   (∃ c m:Nat,runeL l=some (c,m)/\r=c/\k=m/\letterN r=false/\i≠0/\r≠45/\57<r)∨(∃ c m:Nat,runeL l=some (c,m)/\r=c/\k=m/\letterN r=false/\i≠0/\r≠45/\48<=r/\r<=57):=by
 unfold RnP at h
 rcases hr:runeL l with _|⟨c,m⟩
 · rw [hr] at h
   have hl:=letter_out h.1
   by_cases hi:i=0
   · exact .inl ⟨rfl,hl,hi⟩
   rcases h.1 with h1|h1
   · exact .inr (.inl ⟨rfl,hl,hi,h1⟩)
   exact .inr (.inr (.inl ⟨rfl,hl,hi,h1⟩))
 rw [hr] at h
 obtain ⟨h1,h2⟩:=h
 refine .inr (.inr (.inr ?_))
 rcases hl:letterN r with _|_
 · refine .inr ?_
   by_cases hi:i=0
   · exact .inl ⟨c,m,rfl,h1,h2,rfl,hi⟩
   by_cases h45:r=45
   · exact .inr (.inl ⟨c,m,rfl,h1,h2,rfl,hi,h45⟩)
   by_cases h48:r<48
   · exact .inr (.inr (.inl ⟨c,m,rfl,h1,h2,rfl,hi,h45,h48⟩))
   by_cases h57:57<r
   · exact .inr (.inr (.inr (.inl ⟨c,m,rfl,h1,h2,rfl,hi,h45,h57⟩)))
   exact .inr (.inr (.inr (.inr ⟨c,m,rfl,h1,h2,rfl,hi,h45,by omega,by omega⟩)))
 exact .inl ⟨c,m,rfl,h1,h2,rfl⟩
section
variable{s:ByteArray}{f i n:Nat}(hinv:runesN s (s.size+1) 0 0=runesN s (f+1) i n)(hi:i<s.size)
include hinv hi
theorem rg_none(h:runeL (s.data.toList.drop i)=none):rightN s=false:=by
 have hd:=decode_is s i hi
 rw [h] at hd
 refine rightN_none (hinv.trans (runesN_bad rfl hi ?_))
 unfold badN
 have h1:letterN ((Utf8.decode s i).1:Int)=false:=letter_out (.inr (by omega))
 have h2:inR ((Utf8.decode s i).1:Int) digL=false:=by rw [dig_eq];simp;omega
 rw [h1,h2];simp
theorem rg_bad{c m:Nat}(h:runeL (s.data.toList.drop i)=some (c,m))(hl:letterN (c:Int)=false)(hb:i=0∨(c≠45/\(c<48∨57<c))):rightN s=false:=by
 have hd:=decode_is s i hi
 rw [h] at hd
 refine rightN_none (hinv.trans (runesN_bad rfl hi ?_))
 unfold badN
 rw [hd,hl,dig_eq]
 rcases hb with hb|hb
 · simp [hb]
 simp
 right
 omega
theorem rg_go{c m:Nat}(h:runeL (s.data.toList.drop i)=some (c,m))(hb:letterN (c:Int)=true∨(i≠0/\(c=45∨(48<=c/\c<=57)))):runesN s (s.size+1) 0 0=runesN s f (i+m) (n+1):=by
 have hd:=decode_is s i hi
 rw [h] at hd
 have h2:badN i (Utf8.decode s i).1=false:=by
   unfold badN
   rw [hd]
   rcases hb with hb|hb
   · rw [hb];rfl
   have e:inR (((c,m):Nat × Nat).1:Int) digL=true:=by rw [dig_eq];simp;omega
   rw [e]
   simp [hb.1]
 have:=runesN_go (s:=s) (f:=f) (pos:=i) (n:=n) rfl hi h2
 rw [hd] at this
 exact hinv.trans this.symm
end
theorem x_rune{o:Oper}{a:Act}{F0:Nat->Prop}{w0 w:World}{ro rs:List Res}(h:Hp F0 w0 w ro rs)(s:ByteArray)(hp:pureVal Tryz.prog (execOp a.eval o)=some (.enter 62 #[.string s]))(h0:0<s.size)(hs:s.size<=1000000000) :
   OpTo Tryz.prog o a w (fun u w'=>∃ r k,u=.tuple #[.int .i64 r,.int .i64 k]/\RnP s.data.toList r k/\Hp F0 w0 w' ro rs):=
 OpTo.enter 62 [.string s] hp (rune_any s h0 hs w) fun _ _ ⟨r,k,he,hr,hb⟩=>⟨_,he,r,k,rfl,hr,h.below hb⟩
theorem rnp_bd{l:Bytes}{r k:Int}(h:RnP l r k)(h0:0<l.length):-1<=r/\r<=5000000:=by
 unfold RnP at h
 rcases hr:runeL l with _|⟨c,m⟩
 · rw [hr] at h;omega
 rw [hr] at h
 have:=runeL_len hr h0
 omega
theorem rright_any(s:ByteArray)(hs:s.size<=1000000000)(w:World):Calls Tryz.prog 27 #[.string s] w (DPost w (.bool (rightN s))):=by
 have h0:=Hp.nil (fun _=>False) w
 refine mE 48 ?_
 refine mL (fun mM xX aA wL=>∃ (f:Nat) (i:Nat) (n:Nat),(i<=s.size)/\(s.size<i+f)/\(n<=i)/\(runesN s (s.size+1) 0 0=runesN s f i n)/\mM=s.size-i/\aA=patch xX 48 [(0,(Value.string s)),(3,(Value.int .i64 ((n:Int)))),(4,(Value.int .i64 ((i:Int))))]/\Hp (fun _=>False) w wL [] []) ⟨_,_,((s.size+1)),0,0,(Nat.zero_le _),(by omega),(by omega),rfl,rfl,pM,h0.sel [] [] (by kernel_rfl) rfl rfl⟩ ?_
 rintro _ x5 _ w5 ⟨f,i,n,hi,hf,hn,hinv,rfl,rfl,h5⟩ KL5 hKL5
 refine mAt ?_
 refine m_if 10 ((i:Int)<((s).size:Int)) (by kernel_rfl) (fun b8=>?_) (fun b8=>?_)
 ·
  have hlt:i<s.size:=by omega
  obtain ⟨f,rfl⟩:∃ g,f=g+1:=⟨f-1,by omega⟩
  have hdl:(s.data.toList.drop i).length=s.size-i:=by simp
  refine mW 16 (v:=(Value.string (tlS s i))) (e_scut 9 (.tmp 14) (.tmp 15) (by kernel_rfl) s .i64 i (by kernel_rfl) (by kernel_rfl) (by kernel_rfl) hi _) ?_
  refine mT (x_rune h5 (tlS s i) (by kernel_rfl) (by rw [tlS_size];omega) (by rw [tlS_size];omega)) ?_
  rintro _ w11 ⟨r11,k11,rfl,hr11,h11⟩
  rw [tlS_list] at hr11
  have hrb11:=rnp_bd hr11 (by omega)
  rcases right_ways hr11 i with ⟨q1,q2,q3⟩|⟨q1,q2,q3,q4⟩|⟨q1,q2,q3,q4⟩|⟨c,m,q1,q2,q3,q4⟩|⟨c,m,q1,q2,q3,q4,q5⟩|⟨c,m,q1,q2,q3,q4,q5,q6⟩|⟨c,m,q1,q2,q3,q4,q5,q6,q7⟩|⟨c,m,q1,q2,q3,q4,q5,q6,q7⟩|⟨c,m,q1,q2,q3,q4,q5,q6,q7,q8⟩
  ·
   refine mT (x_dp (v:=.bool false) h11 63 [(Value.int .i64 r11),(Value.int .i64 0)] (by kernel_rfl) (q2 ▸ rletter_any _ (by omega) (by omega) _)) ?_
   rintro _ w15 ⟨rfl,h15⟩
   refine mX 25 (.bool true) (Value.bool (((i:Int)) == 0)) (by simp;omega) ?_
   exact mQe (Value.bool false) h15 (by rw [rg_none hinv hlt q1])
  ·
   refine mT (x_dp (v:=.bool false) h11 63 [(Value.int .i64 r11),(Value.int .i64 0)] (by kernel_rfl) (q2 ▸ rletter_any _ (by omega) (by omega) _)) ?_
   rintro _ w17 ⟨rfl,h17⟩
   refine mX 25 (.bool false) (Value.bool (((i:Int)) == 0)) (by simp;omega) ?_
   refine mX 28 (.bool true) (Value.bool (r11 != 45)) (by simp;omega) ?_
   refine mX 31 (.bool true) (Value.bool (decide (r11<48))) (by simp;omega) ?_
   exact mQe (Value.bool false) h17 (by rw [rg_none hinv hlt q1])
  ·
   refine mT (x_dp (v:=.bool false) h11 63 [(Value.int .i64 r11),(Value.int .i64 0)] (by kernel_rfl) (q2 ▸ rletter_any _ (by omega) (by omega) _)) ?_
   rintro _ w19 ⟨rfl,h19⟩
   refine mX 25 (.bool false) (Value.bool (((i:Int)) == 0)) (by simp;omega) ?_
   refine mX 28 (.bool true) (Value.bool (r11 != 45)) (by simp;omega) ?_
   refine mX 31 (.bool false) (Value.bool (decide (r11<48))) (by simp;omega) ?_
   refine mX 34 (.bool true) (Value.bool (decide (r11>57))) (by simp;omega) ?_
   exact mQe (Value.bool false) h19 (by rw [rg_none hinv hlt q1])
  ·
   refine mT (x_dp (v:=.bool true) h11 63 [(Value.int .i64 r11),(Value.int .i64 0)] (by kernel_rfl) (q4 ▸ rletter_any _ (by omega) (by omega) _)) ?_
   rintro _ w21 ⟨rfl,h21⟩
   have hm:=runeL_len q1 (by omega)
   rw [hdl] at hm
   have hgo:=rg_go hinv hlt q1 (.inl (by rw [← q2];exact q4))
   refine mW 41 (exec_add _ _ _ _ bO ((i:Int)) k11 (by kernel_rfl) (by kernel_rfl) (((i+m:Nat):Int)) (by omega) (by omega) (by omega) _) ?_
   refine mW 12 (exec_add _ _ _ _ bO ((n:Int)) 1 (by kernel_rfl) (by kernel_rfl) (((n+1:Nat):Int)) (by omega) (by omega) (by omega) _) ?_
   exact mK KL5 (hKL5 _ _ ⟨s.size-((i+m)),_,(by omega),f,((i+m)),((n+1)),(by omega),(by omega),(by omega),hgo,rfl,pM,h21.sel [] [] (by kernel_rfl) rfl rfl⟩)
  ·
   refine mT (x_dp (v:=.bool false) h11 63 [(Value.int .i64 r11),(Value.int .i64 0)] (by kernel_rfl) (q4 ▸ rletter_any _ (by omega) (by omega) _)) ?_
   rintro _ w22 ⟨rfl,h22⟩
   refine mX 25 (.bool true) (Value.bool (((i:Int)) == 0)) (by simp;omega) ?_
   exact mQe (Value.bool false) h22 (by rw [rg_bad hinv hlt q1 (by rw [← q2];exact q4) (by omega)])
  ·
   refine mT (x_dp (v:=.bool false) h11 63 [(Value.int .i64 r11),(Value.int .i64 0)] (by kernel_rfl) (q4 ▸ rletter_any _ (by omega) (by omega) _)) ?_
   rintro _ w24 ⟨rfl,h24⟩
   refine mX 25 (.bool false) (Value.bool (((i:Int)) == 0)) (by simp;omega) ?_
   refine mX 28 (.bool false) (Value.bool (r11 != 45)) (by simp;omega) ?_
   have hm:=runeL_len q1 (by omega)
   rw [hdl] at hm
   have hgo:=rg_go hinv hlt q1 (.inr ⟨q5,by omega⟩)
   refine mW 41 (exec_add _ _ _ _ bO ((i:Int)) k11 (by kernel_rfl) (by kernel_rfl) (((i+m:Nat):Int)) (by omega) (by omega) (by omega) _) ?_
   refine mW 12 (exec_add _ _ _ _ bO ((n:Int)) 1 (by kernel_rfl) (by kernel_rfl) (((n+1:Nat):Int)) (by omega) (by omega) (by omega) _) ?_
   exact mK KL5 (hKL5 _ _ ⟨s.size-((i+m)),_,(by omega),f,((i+m)),((n+1)),(by omega),(by omega),(by omega),hgo,rfl,pM,h24.sel [] [] (by kernel_rfl) rfl rfl⟩)
  ·
   refine mT (x_dp (v:=.bool false) h11 63 [(Value.int .i64 r11),(Value.int .i64 0)] (by kernel_rfl) (q4 ▸ rletter_any _ (by omega) (by omega) _)) ?_
   rintro _ w25 ⟨rfl,h25⟩
   refine mX 25 (.bool false) (Value.bool (((i:Int)) == 0)) (by simp;omega) ?_
   refine mX 28 (.bool true) (Value.bool (r11 != 45)) (by simp;omega) ?_
   refine mX 31 (.bool true) (Value.bool (decide (r11<48))) (by simp;omega) ?_
   exact mQe (Value.bool false) h25 (by rw [rg_bad hinv hlt q1 (by rw [← q2];exact q4) (by omega)])
  ·
   refine mT (x_dp (v:=.bool false) h11 63 [(Value.int .i64 r11),(Value.int .i64 0)] (by kernel_rfl) (q4 ▸ rletter_any _ (by omega) (by omega) _)) ?_
   rintro _ w27 ⟨rfl,h27⟩
   refine mX 25 (.bool false) (Value.bool (((i:Int)) == 0)) (by simp;omega) ?_
   refine mX 28 (.bool true) (Value.bool (r11 != 45)) (by simp;omega) ?_
   refine mX 31 (.bool false) (Value.bool (decide (r11<48))) (by simp;omega) ?_
   refine mX 34 (.bool true) (Value.bool (decide (r11>57))) (by simp;omega) ?_
   exact mQe (Value.bool false) h27 (by rw [rg_bad hinv hlt q1 (by rw [← q2];exact q4) (by omega)])
  refine mT (x_dp (v:=.bool false) h11 63 [(Value.int .i64 r11),(Value.int .i64 0)] (by kernel_rfl) (q4 ▸ rletter_any _ (by omega) (by omega) _)) ?_
  rintro _ w29 ⟨rfl,h29⟩
  refine mX 25 (.bool false) (Value.bool (((i:Int)) == 0)) (by simp;omega) ?_
  refine mX 28 (.bool true) (Value.bool (r11 != 45)) (by simp;omega) ?_
  refine mX 31 (.bool false) (Value.bool (decide (r11<48))) (by simp;omega) ?_
  refine mX 34 (.bool false) (Value.bool (decide (r11>57))) (by simp;omega) ?_
  have hm:=runeL_len q1 (by omega)
  rw [hdl] at hm
  have hgo:=rg_go hinv hlt q1 (.inr ⟨q5,by omega⟩)
  refine mW 41 (exec_add _ _ _ _ bO ((i:Int)) k11 (by kernel_rfl) (by kernel_rfl) (((i+m:Nat):Int)) (by omega) (by omega) (by omega) _) ?_
  refine mW 12 (exec_add _ _ _ _ bO ((n:Int)) 1 (by kernel_rfl) (by kernel_rfl) (((n+1:Nat):Int)) (by omega) (by omega) (by omega) _) ?_
  exact mK KL5 (hKL5 _ _ ⟨s.size-((i+m)),_,(by omega),f,((i+m)),((n+1)),(by omega),(by omega),(by omega),hgo,rfl,pM,h29.sel [] [] (by kernel_rfl) rfl rfl⟩)
 rcases (by omega:n=0∨(1<=n/\n<=16)∨(1<=n/\16<n)) with hz|hz|hz
 ·
  refine mX 43 (.bool false) (Value.bool (decide ((n:Int) ≥ 1))) (by simp;omega) ?_
  exact mQe (Value.bool false) h5 (by rw [rightN_some (hinv.trans (runesN_end rfl (by omega)))];simp;omega)
 ·
  refine mX 43 (.bool true) (Value.bool (decide ((n:Int) ≥ 1))) (by simp;omega) ?_
  refine mX 46 (.bool true) (Value.bool (decide ((n:Int)<=16))) (by simp;omega) ?_
  exact mQe (Value.bool true) h5 (by rw [rightN_some (hinv.trans (runesN_end rfl (by omega)))];simp;omega)
 refine mX 43 (.bool true) (Value.bool (decide ((n:Int) ≥ 1))) (by simp;omega) ?_
 refine mX 46 (.bool false) (Value.bool (decide ((n:Int)<=16))) (by simp;omega) ?_
 exact mQe (Value.bool false) h5 (by rw [rightN_some (hinv.trans (runesN_end rfl (by omega)))];simp;omega)
end
section
open Go.RowKit Go.QT
section
variable{o:Oper}{a:Act}{F0 F:Nat->Prop}{w0 w w':World}{ro rs:List Res}{tb:Nat}{s:STab}
end
end
section
open Go.RowKit Go.QT
theorem undBm:Tryz.prog.underlying 264=some (.map 9 2):=by kernel_rfl
theorem undBs:Tryz.prog.underlying 9=some .string:=by kernel_rfl
theorem zi64(W:World):(zeroValue 2).run Tryz.prog W=.ok (.int .i64 0) W:=by kernel_rfl
theorem ckStr(em:Bool)(n:Nat)(s:ByteArray)(w:World):(Instr.checkKey em (n+1) 9 (.string s)).run Tryz.prog w=.ok () w:=by
 simp only [Instr.checkKey,Sem.run_bind,run_underlying undBs,Result.andThen_ok];rfl
/-- What it holds, and since when. -/
def bmE(o:Option (ByteArray × Int))(b:Nat):Array MapEntry:=match o with
 | none=>#[]
 | some p=>#[{ key:=.string p.1,val:=.int .i64 p.2,born:=b }]
def bmF(o:Option (ByteArray × Int))(s:ByteArray):Option (Nat × Value):=match o with
 | none=>none
 | some p=>if s=p.1 then some (0,.int .i64 p.2) else none
theorem beq_ba(a b:ByteArray):(a == b)=decide (a=b):=by
 rw [beq_toListBytes,ByteArray.toList_eq,ByteArray.toList_eq,Bool.eq_iff_iff,beq_iff_eq,decide_eq_true_eq]
 exact ⟨fun h=>by obtain ⟨⟨a⟩⟩:=a;obtain ⟨⟨b⟩⟩:=b;simp_all,fun h=>by rw [h]⟩
theorem bm_find(o:Option (ByteArray × Int))(b:Nat)(s:ByteArray)(w:World):(Instr.findKey 9 (.string s) (bmE o b).toList).run Tryz.prog w=.ok (bmF o s) w:=by
 cases o with
 | none=>simp only [Instr.findKey,Sem.run_bind,run_underlying undBs,Result.andThen_ok,bmE,Instr.findNow,Sem.run_pure,bmF]
 | some p =>
   simp only [Instr.findKey,Sem.run_bind,run_underlying undBs,Result.andThen_ok,bmE,bmF,Instr.findNow,Instr.sameNow]
   rw [beq_ba]
   by_cases e:s=p.1
   · rw [decide_eq_true e,if_pos e];rfl
   rw [decide_eq_false e,if_neg e];rfl
def rBm(mb:Nat)(o:Option (ByteArray × Int)):Res where
 F:=fun q=>q=mb
 Φ:=fun w=>∃ b clock,w.heap[mb]?=some (.map (bmE o b) clock)/\b<clock+1/\(o≠none->b<clock)
 lt:=fun h q hq=>by
   obtain ⟨b,clock,hm,_⟩:=h
   rw [show q=mb from hq];exact (Array.getElem?_eq_some_iff.1 hm).1
 keep:=fun h _ hk=>by
   obtain ⟨b,clock,hm,h2⟩:=h
   exact ⟨b,clock,(hk mb rfl).trans hm,h2⟩
/-- .. while it is gone through: ph: whether what it held was handed out. -/
def rBi(mb r:Nat)(o:Option (ByteArray × Int))(ph:Bool):Res where
 F:=fun q=>q=mb∨q=r
 Φ:=fun w=>mb≠r/\∃ b clock since last,w.heap[mb]?=some (.map (bmE o b) clock)/\w.heap[r]?=some (.mapIter (some mb) since (if ph then #[b] else #[]) last)/\since<=clock/\last<=clock/\(o≠none->b<since)/\(ph=true->b<last)
 lt:=fun h q hq=>by
   obtain ⟨_,b,clock,since,last,hm,hr,_⟩:=h
   rcases hq with rfl|rfl
   · exact (Array.getElem?_eq_some_iff.1 hm).1
   exact (Array.getElem?_eq_some_iff.1 hr).1
 keep:=fun h _ hk=>by
   obtain ⟨hne,b,clock,since,last,hm,hr,h2⟩:=h
   exact ⟨hne,b,clock,since,last,(hk mb (.inl rfl)).trans hm,(hk r (.inr rfl)).trans hr,h2⟩
section
variable{F0:Nat->Prop}{w0 w w':World}{ro rs:List Res}{mb r:Nat}{o':Option (ByteArray × Int)}{o:Oper}{a:Act}{s:ByteArray}{t:Int}{ph:Bool}
theorem frBm(ob:Obj):Fr (fun q=>q=mb) w { w with heap:=w.heap.setIfInBounds mb ob }:=⟨rfl,rfl,rfl,by simp,fun q _ hq=>by
 have:mb≠q:=fun e=>hq e.symm
 simp [this]⟩
/-- Asked for a name. -/
theorem e_bmLook(h:(rBm mb o').Φ w)(x y:Operand)(ho:o.op=.lookup 264 x y true)(s:ByteArray)(hx:a.eval x=.map (some mb))(hy:a.eval y=.string s)(v:Value)(hv:(match bmF o' s with|some p=>Value.tuple #[p.2,.bool true] | none=>.tuple #[.int .i64 0,.bool false])=v) :
   (execOp a.eval o).run Tryz.prog w=.ok (.value v) w:=by
 obtain ⟨b,clock,hm,_⟩:=h
 have hobj:(getObj mb).run Tryz.prog w=.ok (.map (bmE o' b) clock) w:=by simp [getObj,Sem.run,hm]
 subst hv
 unfold execOp
 simp only [ho,hx,hy,Instr.lookup,Sem.run_bind,run_underlying undBm,Result.andThen_ok,hobj,Sem.run_pure,ckStr _ 9999 s,bm_find]
 cases bmF o' s with
 | none=>simp only [Sem.run_bind,zi64,Result.andThen_ok,Sem.run_pure];rfl
 | some p=>rfl
/-- How many it holds. -/
theorem e_bmLen(h:(rBm mb o').Φ w)(x:Operand)(ho:o.op=.call { callee:=.builtin .len,args:=#[x],argTypes:=#[264] })(hx:a.eval x=.map (some mb))(n:Int)(hn:((match o' with|none=>0|some _=>1:Nat):Int)=n) :
   (execOp a.eval o).run Tryz.prog w=.ok (.value (.int .i64 n)) w:=by
 obtain ⟨b,clock,hm,_⟩:=h
 subst hn
 have hobj:(getObj mb).run Tryz.prog w=.ok (.map (bmE o' b) clock) w:=by simp [getObj,Sem.run,hm]
 unfold execOp
 simp only [ho,resolve,invoke,builtin,Sem.run_bind,Sem.run_pure,Result.andThen_ok,List.map_toArray,List.map_cons,List.map_nil,hx]
 cases o' <;> simp [Builtin.len_,run_underlying undBm,hobj,bmE,goInt]
/-- A name is let go. -/
theorem x_bmDel(h:Hp F0 w0 w ro rs)(i:Nat)(hi:rs[i]?=some (rBm mb o'))(x y:Operand)(ty:TypeId)(ho:o.op=.call { callee:=.builtin .delete,args:=#[x,y],argTypes:=#[264,ty] })(s:ByteArray)(hx:a.eval x=.map (some mb))(hy:a.eval y=.string s)(hs:∀ p,o'=some p->p.1=s) :
   OpTo Tryz.prog o a w (fun _ w'=>Hp F0 w0 w' ro (rs.set i (rBm mb none))):=by
 obtain ⟨b,clock,hm,h1,h2⟩:=h.own i _ hi
 have hlt:mb<w.heap.size:=(Array.getElem?_eq_some_iff.1 hm).1
 have hobj:(getObj mb).run Tryz.prog w=.ok (.map (bmE o' b) clock) w:=by simp [getObj,Sem.run,hm]
 have he:(bmE o' b).eraseIdxIfInBounds 0=(bmE none b)/\((bmF o' s=none->o'=none)/\∀ p,bmF o' s=some p->p.1=0):=by
   cases o' with
   | none=>exact ⟨rfl,fun _=>rfl,fun p hp=>by cases hp⟩
   | some p =>
     have e:=hs p rfl
     refine ⟨by simp [bmE,Array.eraseIdxIfInBounds],fun hh=>?_,fun p' hp=>?_⟩
     · simp [bmF,e] at hh
     simp [bmF,e] at hp;rw [← hp]
 refine OpTo.run (.tuple #[]) (w':={ w with heap:=w.heap.setIfInBounds mb (.map (bmE none b) clock) }) ?_ (h.upd i hi (frBm _) (rBm mb none) ⟨b,clock,by simp [hlt],h1,fun hh=>absurd rfl hh⟩ (fun q hq=>.inl hq))
 unfold execOp
 simp only [ho,resolve,invoke,builtin,Sem.run_bind,Sem.run_pure,Result.andThen_ok,List.map_toArray,List.map_cons,List.map_nil,hx,hy]
 cases hf:bmF o' s with
 | none =>
   have e:=he.2.1 hf
   subst e
   simp [Builtin.delete_,run_underlying undBm,hobj,ckStr _ 9999 s,bm_find,hf,setObj,Sem.run,hm]
 | some p =>
   have e:=he.2.2 p hf
   obtain ⟨i0,v⟩:=p
   subst e
   simp [Builtin.delete_,run_underlying undBm,hobj,ckStr _ 9999 s,bm_find,hf,setObj,Sem.run,hm,he.1]
/-- A name is set (or set anew). -/
theorem x_bmUpd(h:Hp F0 w0 w ro rs)(i:Nat)(hi:rs[i]?=some (rBm mb o'))(x y z:Operand)(ho:o.op=.mapUpdate 264 x y z)(s:ByteArray)(t:Int)(hx:a.eval x=.map (some mb))(hy:a.eval y=.string s)(hz:a.eval z=.int .i64 t)(hs:∀ p,o'=some p->p.1=s) :
   OpTo Tryz.prog o a w (fun _ w'=>Hp F0 w0 w' ro (rs.set i (rBm mb (some (s,t))))):=by
 obtain ⟨b,clock,hm,h1,h2⟩:=h.own i _ hi
 have hlt:mb<w.heap.size:=(Array.getElem?_eq_some_iff.1 hm).1
 have hobj:(getObj mb).run Tryz.prog w=.ok (.map (bmE o' b) clock) w:=by simp [getObj,Sem.run,hm]
 cases o' with
 | none =>
   refine OpTo.runs (w':={ w with heap:=w.heap.setIfInBounds mb (.map (bmE (some (s,t)) clock) (clock+1)) }) ?_ (h.upd i hi (frBm _) (rBm mb (some (s,t))) ⟨clock,clock+1,by simp [hlt],by omega,fun _=>by omega⟩ (fun q hq=>.inl hq))
   unfold execOp
   simp only [ho,hx,hy,hz,Instr.mapUpdate,Sem.run_bind,run_underlying undBm,Result.andThen_ok,hobj,ckStr _ 9999 s,bm_find,bmF]
   simp [setObj,Sem.run,hm,bmE]
 | some p =>
   obtain ⟨p1,p2⟩:=p
   obtain rfl:p1=s:=hs _ rfl
   refine OpTo.runs (w':={ w with heap:=w.heap.setIfInBounds mb (.map (bmE (some (p1,t)) b) clock) }) ?_ (h.upd i hi (frBm _) (rBm mb (some (p1,t))) ⟨b,clock,by simp [hlt],h1,fun _=>h2 (by simp)⟩ (fun q hq=>.inl hq))
   have hk:Instr.sameBits 10000 (.string p1) (.string p1)=true:=by show (p1 == p1)=true;rw [beq_ba];simp
   have h0:(bmE (some (p1,p2)) b)[0]?=some { key:=.string p1,val:=.int .i64 p2,born:=b }:=rfl
   have hmod:(bmE (some (p1,p2)) b).modify 0 (fun e=>{ e with key:=.string p1,val:=.int .i64 t })=bmE (some (p1,t)) b:=by
     apply Array.ext_getElem?
     intro j
     rw [Array.getElem?_modify]
     by_cases e:0=j
     · subst e;simp [bmE]
     rw [if_neg e]
     cases j with
     | zero=>exact absurd rfl e
     | succ j=>rfl
   unfold execOp
   simp only [ho,hx,hy,hz,Instr.mapUpdate,Sem.run_bind,run_underlying undBm,Result.andThen_ok,hobj,ckStr _ 9999 p1,bm_find,bmF,if_true,Instr.keyThatStays,h0,Option.map_some,Option.getD_some,hk,Sem.run_pure,hmod]
   simp [setObj,Sem.run,hm]
/-- It is gone through. -/
theorem x_bmRange(h:Hp F0 w0 w ro rs)(i:Nat)(hi:rs[i]?=some (rBm mb o'))(x:Operand)(ho:o.op=.range 264 x)(hx:a.eval x=.map (some mb)) :
   OpTo Tryz.prog o a w (fun v w'=>∃ r,v=pt r 0/\Hp F0 w0 w' ro (rs.set i (rBi mb r o' false))):=by
 obtain ⟨b,clock,hm,h1,h2⟩:=h.own i _ hi
 have hlt:mb<w.heap.size:=(Array.getElem?_eq_some_iff.1 hm).1
 have hrun:=run_range_map (P:=Tryz.prog) w 264 9 2 mb _ clock undBm hm
 refine OpTo.run (pt w.heap.size 0) (w':=w.alloc (.mapIter (some mb) clock #[] clock)) ?_ ⟨_,rfl,?_⟩
 · unfold execOp
   simp only [ho,hx,Sem.run_bind,hrun,Result.andThen_ok,Sem.run_pure]
   rfl
 refine h.upd i hi (Fr.of_below _ ((Below.refl _ _).alloc (Nat.le_refl _) _)) (rBi mb w.heap.size o' false) ⟨by omega,b,clock,clock,clock,?_,heap_alloc_new w _,Nat.le_refl _,Nat.le_refl _,h2,fun hh=>by cases hh⟩ (fun q hq=>?_)
 · rw [Below.heap_alloc w _ mb hlt];exact hm
 rcases hq with hq|hq
 · exact .inl hq
 exact .inr (by rw [hq];exact Nat.le_refl _)
theorem rBi_bm(h:(rBi mb r o' ph).Φ w):(rBm mb o').Φ w:=by
 obtain ⟨_,b,clock,since,last,hm,_,h1,h2,h3,h4⟩:=h
 cases o' with
 | none=>exact ⟨0,clock,hm,by omega,fun hh=>absurd rfl hh⟩
 | some p=>exact ⟨b,clock,hm,by have:=h3 (by simp);omega,fun _=>by have:=h3 (by simp);omega⟩
theorem choose_1(w:World):∃ k,(choose (Question.mapNext 1)).run Tryz.prog w=.ok 0 (w.drewN k):=⟨0,by simp [choose,Sem.run,Question.forced];rfl⟩
/-- Nothing is left. -/
theorem run_bmOver(h:(rBi mb r o' ph).Φ w)(hp:ph=true∨o'=none):∃ k,∀ ty,(Instr.next (pt r 0) false ty).run Tryz.prog w=.ok (.tuple #[.bool false]) (w.drewN k):=by
 obtain ⟨hne,b,clock,since,last,hm,hr,h1,h2,h3,h4⟩:=h
 have ho1:(getObj r).run Tryz.prog w=.ok (.mapIter (some mb) since (if ph then #[b] else #[]) last) w:=by simp [getObj,Sem.run,hr]
 have ho2:(getObj mb).run Tryz.prog w=.ok (.map (bmE o' b) clock) w:=by simp [getObj,Sem.run,hm]
 have htest:(!(if ph then #[b] else #[]:Array Nat).isEmpty && !(bmE o' b).isEmpty && (bmE o' b).all (fun x=>decide (x.born ≥ last)))=false:=by
   cases ph with
   | false=>rfl
   | true =>
     have:=h4 rfl
     cases o' with
     | none=>rfl
     | some p=>simp [bmE];omega
 have hL:(bmE o' b).filter (fun e=>!(if ph then #[b] else #[]:Array Nat).contains e.born)=#[]:=by
   cases o' with
   | none=>rfl
   | some p =>
     rcases hp with rfl|hp
     · simp [bmE]
     cases hp
 obtain ⟨k,hk⟩:=choose_1 w
 refine ⟨k,fun ty=>?_⟩
 unfold Instr.next
 simp only [pt,Sem.run_bind,ho1,ho2,Result.andThen_ok,htest,Bool.false_eq_true,if_false,hL]
 have e0:Array.filter (fun x:MapEntry=>decide (x.born<since)) #[]=#[]:=by simp
 have e1:Array.filter (fun x:MapEntry=>decide (x.born ≥ since)) #[]=#[]:=by simp
 have hC:((if (#[]:Array MapEntry).isEmpty=true then #[none] else #[])++Array.map some (#[]++#[]:Array MapEntry):Array (Option MapEntry))=#[none]:=by simp
 have hk':(choose (Question.mapNext (#[none]:Array (Option MapEntry)).size)).run Tryz.prog w=.ok 0 (w.drewN k):=hk
 simp only [e0,e1,hC,hk',Result.andThen_ok]
 rfl
/-- A step of it, in a walk. -/
theorem x_bmOver(h:Hp F0 w0 w ro rs)(i:Nat)(hi:rs[i]?=some (rBi mb r o' ph))(hp:ph=true∨o'=none)(x:Operand)(ho:o.op=.next x false)(hx:a.eval x=pt r 0) :
   OpTo Tryz.prog o a w (fun u w'=>u=.tuple #[.bool false]/\Hp F0 w0 w' ro (rs.set i (rBm mb o'))):=by
 obtain ⟨k,hrun⟩:=run_bmOver (h.own i _ hi) hp
 refine OpTo.run _ (w':=w.drewN k) ?_ ⟨rfl,?_⟩
 · unfold execOp
   simp only [ho,hx,Sem.run_bind,hrun,Result.andThen_ok,Sem.run_pure]
 exact h.upd i hi ((Fr.refl _ w).drewN k) (rBm mb o') (rBi_bm ((rBi mb r o' ph).keep (h.own i _ hi) (Nat.le_refl _) fun _ _=>rfl)) (fun q hq=>.inl (.inl hq))
end
/-- A book's parts. -/
def lBk(bk mb:Nat)(o:Option (ByteArray × Int)):List Res:=[rBlk bk 266 [.map (some mb)],rBm mb o]
/-- A book. -/
def rBk(G:Nat->Prop)(bk:Nat)(o:Option (ByteArray × Int)):Res where
 F:=G
 Φ:=fun w=>∃ mb,G=(rStar (lBk bk mb o)).F/\(rStar (lBk bk mb o)).Φ w
 lt:=fun ⟨_,hG,h⟩ q hq=>(rStar _).lt h q (hG ▸ hq)
 keep:=fun ⟨mb,hG,h⟩ hs hk=>⟨mb,hG,(rStar _).keep h hs fun q hq=>hk q (hG ▸ hq)⟩
section
variable{F0:Nat->Prop}{w0 w w':World}{ro rs:List Res}{G:Nat->Prop}{bk:Nat}{o:Option (ByteArray × Int)}
theorem Hp.openBk(h:Hp F0 w0 w ro rs)(i:Nat)(hi:rs[i]?=some (rBk G bk o)):∃ mb,G=(rStar (lBk bk mb o)).F/\Hp F0 w0 w ro (lBk bk mb o++rs.eraseIdx i):=by
 obtain ⟨mb,hG,h2⟩:=h.own i _ hi
 exact ⟨mb,hG,h.call1 i hi ⟨Fr.refl _ _,h2.1,fun j r hr q hq=>.inl (hG ▸ ⟨j,r,hr,hq⟩),h2.2,by simp,by simp⟩⟩
theorem Hp.closeBk{mb:Nat}(h:Hp F0 w0 w ro (lBk bk mb o++rs)):Hp F0 w0 w ro (rBk (rStar (lBk bk mb o)).F bk o::rs):=by
 have h1:=h.closeStar
 exact h1.upd 0 rfl (Fr.refl _ _) (rBk (rStar (lBk bk mb o)).F bk o) ⟨mb,rfl,h1.own 0 _ rfl⟩ (fun q hq=>.inl hq)
end
end
section
open Go.RowKit Go.QT
section
variable{o:Oper}{a:Act}{F0 F:Nat->Prop}{w0 w:World}{ro rs:List Res}
theorem e_maxI(x y:Operand)(ts:Array TypeId)(ho:o.op=.call { callee:=.builtin .max,args:=#[x,y],argTypes:=ts })(k k':IntKind)(m n:Int)(hx:a.eval x=.int k m)(hy:a.eval y=.int k' n)(r:Int)(hr:(if n>m then n else m)=r)(W:World) :
   (execOp a.eval o).run Tryz.prog W=.ok (.value (.int k r)) W:=by
 subst hr
 unfold execOp
 simp only [ho,resolve,invoke,builtin,Sem.run_bind,Sem.run_pure,Result.andThen_ok,List.map_toArray,List.map_cons,List.map_nil,hx,hy,run_max_int2]
theorem x_makeBk(h:Hp F0 w0 w ro rs)(ho:o.op=.makeMap 264 none) :
   OpTo Tryz.prog o a w (fun v w'=>∃ mb,v=.map (some mb)/\Hp F0 w0 w' ro (rBm mb none::rs)):=by
 refine OpTo.run (.map (some w.heap.size)) (w':=w.alloc (.map #[] 0)) ?_ ⟨_,rfl,h.newS ((Below.refl _ _).alloc (Nat.le_refl _) _) (rBm w.heap.size none) ⟨0,0,heap_alloc_new w _,by omega,fun hh=>absurd rfl hh⟩ (fun q hq=>by rw [show q=_ from hq];exact Nat.le_refl _)⟩
 have h1:(Instr.makeMap 264 none).run Tryz.prog w=.ok (.map (some w.heap.size)) (w.alloc (.map #[] 0)):=rfl
 unfold execOp
 simp only [ho,Option.map_none,Sem.run_bind,h1,Result.andThen_ok,Sem.run_pure]
end
theorem cnew_any(w:World):Calls Tryz.prog 66 #[.int .i64 64] w (fun e w'=>∃ G cb,e=.returned (pt cb 0)/\Hp (fun _=>False) w w' [] [rCa G cb 64 []]):=by
 have h0:=Hp.nil (fun _=>False) w
 refine mE 8 ?_
 refine mW 4 (v:=(Value.int .i64 64)) (e_min (.tmp 3) (.const (Value.int .i64 64)) #[3,3] (by kernel_rfl) .i64 .i64 64 64 (by kernel_rfl) (by kernel_rfl) 64 rfl _) ?_
 refine mW 5 (v:=(Value.int .i64 64)) (e_maxI (.const (Value.int .i64 1)) (.tmp 4) #[3,3] (by kernel_rfl) .i64 .i64 1 64 (by kernel_rfl) (by kernel_rfl) 64 rfl _) ?_
 refine mN h0 232 ([(Value.slice none 0 0),(Value.int .i64 64)]) fun g3 w3 h3=>?_
 refine mP (pt g3 0) ?_
 have h4:=h3.owNil 236 3 none
 exact ⟨_,_,rfl,(show Hp _ _ _ _ (lCa g3 none 0 64 []++[]) from h4.sel [1,0] [] rfl rfl rfl).closeC⟩
theorem bknew_any(w:World):Calls Tryz.prog 77 #[] w (fun e w'=>∃ bk mv,e=.returned (pt bk 0)/\Hp (fun _=>False) w w' [] [rBk mv bk none]):=by
 have h0:=Hp.nil (fun _=>False) w
 refine mE 4 ?_
 refine mT (x_makeBk h0 (by kernel_rfl)) ?_
 rintro _ w3 ⟨m3,rfl,h3⟩
 refine mN h3 266 ([(Value.map (some m3))]) fun g4 w4 h4=>?_
 refine mP (pt g4 0) ?_
 exact ⟨_,_,rfl,(show Hp _ _ _ _ (lBk _ m3 none++[]) from h4.sel [0,1] [] rfl rfl rfl).closeBk⟩
end
section
open Go.Value renaming int->iV,slice->lV,string->sV,bool->bV,agg->aV
open Go.RowKit Go.QT
/-- What the directory is asked, as a value. -/
def dirD(s:ByteArray)(n t:Int)(m:Bool)(tk:Thing)(b:Bytes):DVal:=
 .mk 2 20 0 [] [bD s.data.toList,nD n,nD t,nD m.toNat,valD tk,bD b]
theorem dirD_right{s:ByteArray}{n t:Int}{m:Bool}{tk:Thing}{b:Bytes}:rightV (dirD s n t m tk b) 1=true:=by
 have hv:∀ t d,d<=6->rightV (valD t) d=true:=by
   intro t d hd
   unfold valD
   rw [rightV,rightL_all]
   · have:d<=8:=by omega
     cases t <;> simp [tagTh,this]
   refine valL_all _ (fun n=>?_) (fun b=>?_) t
   · unfold nD;rw [rightV];simp;omega
   unfold bD;rw [rightV];simp;omega
 have hn:∀ n,rightV (nD n) 2=true:=rightV_nD
 unfold dirD
 rw [rightV,rightL_all]
 · rfl
 intro x hx
 simp only [List.mem_cons,List.not_mem_nil,or_false] at hx
 rcases hx with rfl|rfl|rfl|rfl|rfl|rfl
 · exact rightV_bD _
 · exact hn _
 · exact hn _
 · exact hn _
 · exact hv _ _ (by omega)
 exact rightV_bD _
theorem vDir_any{s ts:ByteArray}{n t:Int}{m:Bool}{tb ab:Bytes}{C D:Option Addr}{cc cd:Nat}{w:World}(hb:SB w (.slice C tb.length cc) tb)(ha:SB w (.slice D ab.length cd) ab)
   (hs:rightN s=true) (hsl:s.size<=1000000) (hn:inN n=true) (ht:inN t=true) (hl:limTh (.ticket ts tb)) (hts:rightN ts=true) (hal:ab.length<=1000000) :
   Calls Tryz.prog 72 #[.iface 81 (.agg #[.string s,.int .i64 n,.int .i64 t,.bool m,.string ts,.slice C tb.length cc,.slice D ab.length cd])] w (MvPost w (dirD s n t m (.ticket ts tb) ab)):=by
 have hrt:rightTh (.ticket ts tb)=true:=by show rightM ts []=true;unfold rightM;rw [hts];rfl
 have h0:=(Hp.ro1 (rSB (.slice C tb.length cc) tb) hb).addR (rSB (.slice D ab.length cd) ab) ha (by simp)
 refine mE 397 ?_
 refine mN h0 196 ([zO,zO,(iV .u64 0),zN,zN]) fun g2 w2 h2=>?_
 refine mN h2 81 ([zE,zO,zO,zV,zE,zN,zN]) fun g16 w16 h16=>?_
 refine mT (xR h16 0 ([(sV s),(zD n),(zD t),(bV m),(sV ts),(lV C tb.length cc),(lV D ab.length cd)])) fun _ w17 h17=>?_
 refine ma h17 0 ?_
 refine mT (x_mval h17 (t:=.ticket ts tb) hrt ⟨C,cc,rfl,rsg_of (h17.rd 1 rfl)⟩ hl (by kernel_rfl)) ?_
 rintro _ w19 ⟨F19,g19,n19,rfl,h19⟩
 refine mN h19 196 ([zO,zO,(iV .u64 0),zN,zN]) fun g20 w20 h20=>?_
 refine mT (xR h20 0 ([(zD 2),(zD ((tagTh (.ticket ts tb):Int))),(iV .u64 0),zN,(lV (some ⟨g19,0,none⟩) n19 n19)])) fun _ w21 h21=>?_
 refine dG h21 32 31 (fun W=>(rBlk g16 81 ([(sV s),(zD n),(zD t),(bV m),(sV ts),(lV C tb.length cc),(lV D ab.length cd)])).Φ W/\(rBlk g20 196 ([(zD 2),(zD ((tagTh (.ticket ts tb):Int))),(iV .u64 0),zN,(lV (some ⟨g19,0,none⟩) n19 n19)])).Φ W/\True) (fun w23 h23=>⟨h23.at_ 2 rfl,h23.at_ 0 rfl,trivial⟩) ?_
 intro w23 h23
 refine dP 26 [0,3,6,9,13,18] ?_
 refine dLs 22 [1,4,7,10] (fun W hW=>hW.1) ?_
 refine dL 12 (fun W hW=>hW.2.1) ?_
 refine dL 14 (fun W hW=>hW.1) ?_
 refine dT 2 (x_rawT h23 95 [(sV s)] (by kernel_rfl) (mtext_any s _ (by omega))) ?_
 rintro _ w24 ⟨A24,c24,rfl,h24,_⟩
 refine ⟨⟨h24.at_ 3 rfl,h24.at_ 1 rfl,trivial⟩,?_⟩
 refine dD 5 h24 [(zD n)] (mnum_any n _) (fun w25 h25=>⟨⟨h25.at_ 3 rfl,h25.at_ 1 rfl,trivial⟩,?_⟩)
 refine dD 8 h25 [(zD t)] (mnum_any t _) (fun w26 h26=>⟨⟨h26.at_ 3 rfl,h26.at_ 1 rfl,trivial⟩,?_⟩)
 refine dD 11 h26 [(bV m)] (mtruth_any m _) (fun w27 h27=>⟨⟨h27.at_ 3 rfl,h27.at_ 1 rfl,trivial⟩,?_⟩)
 refine dT 15 (x_rawT h27 97 [(lV D ab.length cd)] (by kernel_rfl) (draw_any (lV D ab.length cd) ab _ (h27.rd 0 rfl) (by omega))) ?_
 rintro _ w28 ⟨A28,c28,rfl,h28,_⟩
 refine ⟨⟨h28.at_ 4 rfl,h28.at_ 2 rfl,trivial⟩,?_⟩
 refine dT 16 (x_bs h28 196 ([(zD 1),zO,(iV .u64 0),(lV A24 s.data.toList.length c24),zN,zO,zO,(iV .u64 ((IntKind.u64.wrap n))),zN,zN,zO,zO,(iV .u64 ((IntKind.u64.wrap t))),zN,zN,zO,zO,(iV .u64 ((IntKind.u64.wrap ((m.toNat:Nat):Int)))),zN,zN,(zD 2),(zD ((tagTh (.ticket ts tb):Int))),(iV .u64 0),zN,(lV (some ⟨g19,0,none⟩) n19 n19),(zD 1),zO,(iV .u64 0),(lV A28 ab.length c28),zN]) 6 (by kernel_rfl)) ?_
 rintro _ w29 ⟨g29,rfl,h29⟩
 refine ⟨⟨h29.at_ 5 rfl,h29.at_ 3 rfl,trivial⟩,?_⟩
 refine dD 17 h29 [(zD 20),(lV (some ⟨g29,0,none⟩) 6 6)] (dseq_any 20 (some ⟨g29,0,none⟩) 6 6 _) (fun w30 h30=>⟨⟨h30.at_ 5 rfl,h30.at_ 3 rfl,trivial⟩,?_⟩)
 refine dP 9 [19,20,23,25] ?_
 refine dLs 6 [21,24,26] (fun W hW=>hW.1) ?_
 refine dO 22 27 ?_ ?_
 ·
  refine oT (x_bs h30 9 ([(sV s)]) 1 (by kernel_rfl)) ?_
  rintro _ w31 ⟨g31,rfl,h31⟩
  refine ⟨⟨h31.at_ 6 rfl,h31.at_ 4 rfl,trivial⟩,?_⟩
  refine dT 27 (x_bs h31 2 ([(zD n),(zD t)]) 2 (by kernel_rfl)) ?_
  rintro _ w32 ⟨g32,rfl,h32⟩
  refine ⟨⟨h32.at_ 7 rfl,h32.at_ 5 rfl,trivial⟩,?_⟩
  refine dT 28 (x_mright h32 1 0 rfl rfl [s] [n,t] 1 2 rfl rfl rfl rfl (by decide) (by decide) (by simp;exact ⟨hs,by omega⟩) (by simp;exact ⟨hn,ht⟩) (by kernel_rfl)) ?_
  rintro _ w33 ⟨rfl,h33⟩
  refine ⟨⟨h33.at_ 7 rfl,h33.at_ 5 rfl,trivial⟩,?_⟩
  refine dP 2 [29] ?_
  refine dT 30 (xR h33 8 ([(zD 2),(zD 20),(iV .u64 0),zN,(lV (some ⟨g29,0,none⟩) 6 6)])) ?_
  rintro _ w34 h34
  refine ⟨⟨h34.at_ 7 rfl,h34.at_ 5 rfl,trivial⟩,?_⟩
  refine dN 31 ?_
  refine dX ?_
  refine mF (post_2 (r:=.cell 2 196) (s:=.tmp 3) (by kernel_rfl) rfl (rce (h34.at_ 8 rfl)) (rtm zI) ?_)
  exact mv_of h34 2 rfl rfl (.cons (dvr_sb h34 4 rfl) (.cons (dvr_num hn) (.cons (dvr_num ht) (.cons (dvr_num (inN_bool m)) (.cons (dvr_dv h34 6 rfl) (.cons (dvr_sb h34 3 rfl) .nil)))))) rfl (by decide)
 refine oT (x_bs h30 2 ([(zD n),(zD t)]) 2 (by kernel_rfl)) ?_
 rintro _ w35 ⟨g35,rfl,h35⟩
 refine ⟨⟨h35.at_ 6 rfl,h35.at_ 4 rfl,trivial⟩,?_⟩
 refine dT 22 (x_bs h35 9 ([(sV s)]) 1 (by kernel_rfl)) ?_
 rintro _ w36 ⟨g36,rfl,h36⟩
 refine ⟨⟨h36.at_ 7 rfl,h36.at_ 5 rfl,trivial⟩,?_⟩
 refine dT 28 (x_mright h36 0 1 rfl rfl [s] [n,t] 1 2 rfl rfl rfl rfl (by decide) (by decide) (by simp;exact ⟨hs,by omega⟩) (by simp;exact ⟨hn,ht⟩) (by kernel_rfl)) ?_
 rintro _ w37 ⟨rfl,h37⟩
 refine ⟨⟨h37.at_ 7 rfl,h37.at_ 5 rfl,trivial⟩,?_⟩
 refine dP 2 [29] ?_
 refine dT 30 (xR h37 8 ([(zD 2),(zD 20),(iV .u64 0),zN,(lV (some ⟨g29,0,none⟩) 6 6)])) ?_
 rintro _ w38 h38
 refine ⟨⟨h38.at_ 7 rfl,h38.at_ 5 rfl,trivial⟩,?_⟩
 refine dN 31 ?_
 refine dX ?_
 refine mF (post_2 (r:=.cell 2 196) (s:=.tmp 3) (by kernel_rfl) rfl (rce (h38.at_ 8 rfl)) (rtm zI) ?_)
 exact mv_of h38 2 rfl rfl (.cons (dvr_sb h38 4 rfl) (.cons (dvr_num hn) (.cons (dvr_num ht) (.cons (dvr_num (inN_bool m)) (.cons (dvr_dv h38 6 rfl) (.cons (dvr_sb h38 3 rfl) .nil)))))) rfl (by decide)
theorem sumDir_any{F:Nat->Prop}{tb:Nat}{st:STab}{s ts:ByteArray}{n t:Int}{m:Bool}{tb_:Bytes}{C D:Option Addr}{cc an ca:Nat}{w:World}(hT:(rTab F tb st).Φ w)(hsm:st.sums.length<1000000)(hb:SB w (.slice C tb_.length cc) tb_)(hdb:(rSB (.slice C tb_.length cc) tb_).dj (rTab F tb st))
   (hs:rightN s=true) (hsl:s.size<=1000000) (hn:inN n=true) (ht:inN t=true) (hl:limTh (.ticket ts tb_)) (hts:rightN ts=true) (hlen:(wrV (dirD s n t m (.ticket ts tb_) [])).length<=4096) :
   Calls Tryz.prog 26 #[(Value.iface 30 (pt tb 0)),.iface 81 (aV ([(sV s),(iV .i64 n),(iV .i64 t),(bV m),(sV ts),(lV C tb_.length cc),(lV D an ca)]).toArray)] w (SumPost F tb st (wrV (dirD s n t m (.ticket ts tb_) [])) w):=by
 have h0:=((Hp.one (rTab F tb st) hT).addR (rSB (.slice C tb_.length cc) tb_) hb (fun j r hj=>by have:=sel1 hj;injection this with this;subst this;exact hdb))
 refine mE 37 ?_
 refine mN h0 81 ([zE,zO,zO,zV,zE,zN,zN]) fun g7 w7 h7=>?_
 refine mT (xR h7 0 ([(sV s),(zD n),(zD t),(bV m),(sV ts),(lV C tb_.length cc),(lV D an ca)])) fun _ w8 h8=>?_
 refine mT (xS h8 0 ([(sV s),(zD n),(zD t),(bV m),(sV ts),(lV C tb_.length cc),zN])) fun _ w10 h10=>?_
 refine ma h10 0 ?_
 refine mT (x_wrT h10 43 [(Value.iface 81 (aV ([(sV s),(zD n),(zD t),(bV m),(sV ts),(lV C tb_.length cc),zN]).toArray))] (by kernel_rfl) (mwrite_any (vDir_any (D:=none) (cd:=0) (ab:=[]) (h10.rd 0 rfl) (SB.nil _ 0 (by unfold maxLen;omega) none) hs hsl hn ht hl hts (by decide)) dirD_right hlen)) ?_
 rintro _ w12 ⟨A12,c12,rfl,h12⟩
 refine mT (x_digestS h12 2 rfl (wrV (dirD s n t m (.ticket ts tb_) [])) (by kernel_rfl) (OB.sb (h12.at_ 0 rfl)) (by omega) hsm) ?_
 rintro _ w14 ⟨A14,c14,F14,rfl,h14⟩
 refine mP (lV A14 16 c14) ?_
 exact ⟨_,_,_,rfl,h14.sel [3,0] [] rfl rfl rfl⟩
theorem oFact_yes{F:Nat->Prop}{tb:Nat}{s:STab}{K:Fin 16->UInt8}{us:Int}{A:Option Addr}{c:Nat}{l:Bytes}{w:World}(hT:(rTab F tb s).Φ w)(hs:TabOk s)(hv:SB w (.slice A l.length c) l)(fn:Int)(s1:ByteArray)(ff:Bool)(ft:Int){body:Bytes}(ho:s.open_ (kl K) us l=some body)(hu:unpB body=.inr (.fact fn s1 ff ft)):Calls Tryz.prog 51 #[(Value.iface 30 (pt tb 0)),(aV (vb (kl K)).toArray),.int .i64 us,.slice A l.length c] w (DPost w (.tuple #[(aV ([(iV .i64 fn),(sV s1),(bV ff),(iV .i64 ft)]).toArray),.int .i64 0])):=by
 have h0:=((Hp.ro1 (rSB (.slice A l.length c) l) hv).addR (rTab F tb s) hT (by simp))
 refine mE 45 ?_
 refine mN h0 41 (vb (kl K)) fun g2 w2 h2=>?_
 refine mN h2 49 ([zO,zE,zV,zO]) fun g3 w3 h3=>?_
 refine mN h3 49 ([zO,zE,zV,zO]) fun g5 w5 h5=>?_
 refine ma h5 2 ?_
 refine mT (x_openR h5 0 rfl hs K us l (lV A l.length c) (some body) (by kernel_rfl) (h5.rd 1 rfl) ho) ?_
 rintro _ w7 ⟨A7,c7,rfl,h7⟩
 refine mT (x_unp h7 hu [(lV A7 body.length c7)] (by kernel_rfl) (unp_any (OB.sb (h7.at_ 0 rfl)))) ?_
 rintro _ w11 ⟨G11,x11,rfl,h11⟩
 obtain rfl:x11=(Value.iface 49 (aV ([(iV .i64 fn),(sV s1),(bV ff),(iV .i64 ft)]).toArray)):=(h11.at_ 0 rfl).2
 refine mN h11 49 ([zO,zE,zV,zO]) fun g16 w16 h16=>?_
 refine mT (xR h16 0 ([(zD fn),(sV s1),(bV ff),(zD ft)])) fun _ w17 h17=>?_
 refine ma h17 0 ?_
 refine mT (xR h17 4 ([(zD fn),(sV s1),(bV ff),(zD ft)])) fun _ w20 h20=>?_
 refine mF (post_2 (r:=.cell 8 49) (s:=.tmp 9) (by kernel_rfl) rfl (rce (h20.at_ 4 rfl)) (rtm zO) ?_)
 exact ⟨rfl,h20.below0⟩
end
section
open Go.RowKit Go.QT
section
variable{s:STab}{k k':Bytes}{u u':Int}{b b' l β γ:Bytes}{x:SSealed}{t:Thing}{f:SFrom}{i n:Nat}
theorem bx_new(hl:s.boxes.length<1000000):(s.seal k u b).box (mkB 98 (s.boxes.length+1))=some ⟨k,u,b⟩:=
 box_at (s:=s.seal k u b) (n:=s.boxes.length) (by show (s.boxes++[_])[s.boxes.length]?=_;simp) hl
theorem seal_len:(s.seal k u b).boxes.length=s.boxes.length+1:=by show (s.boxes++[_]).length=_;simp
theorem bx_add:(s.add f).box l=s.box l:=rfl
theorem dig_boxes:(s.digest β).boxes=s.boxes:=by unfold STab.digest;split <;> rfl
theorem dig_keys:(s.digest β).keys=s.keys:=by unfold STab.digest;split <;> rfl
theorem op_bx(h:s.box l=some ⟨k,u,b⟩)(hp:packB t=.inr b):openTh s k u l=.inr t:=by
 unfold openTh STab.open_
 rw [h]
 simp only [Option.bind_some,and_self,if_true]
 exact unp_pack hp
/-- Where a sum stands. -/
def SK(s:STab)(β:Bytes)(n:Nat):Prop:=s.sumAt β=n/\n<s.sums.length
theorem sk_new:SK (s.digest β) β (s.sumAt β):=by
 unfold SK STab.digest
 split
 · rename_i h;exact ⟨rfl,h⟩
 rename_i h
 have h0:s.sumAt β=s.sums.length:=by
   have:s.sumAt β<=s.sums.length:=List.findIdx_le_length
   omega
 refine ⟨?_,by show s.sumAt β<(s.sums++[β]).length;rw [h0];simp⟩
 show (s.sums++[β]).findIdx (· = β)=s.sumAt β
 rw [List.findIdx_append]
 have e:s.sums.findIdx (· = β)=s.sums.length:=h0
 rw [if_neg (by omega)]
 simp [STab.sumAt,e]
theorem dig_len(h:s.sums.length<=n):(s.digest β).sums.length<=n+1:=by
 unfold STab.digest
 split
 · omega
 show (s.sums++[β]).length<=_;rw [List.length_append];simp;omega
theorem Room.digest{m:Nat}(h:Room m s):Room m (s.digest β):=⟨by rw [dig_boxes];exact h.body,by rw [dig_boxes];exact h.box,by rw [dig_keys];exact h.key⟩
end
section
variable{o:Oper}{a:Act}{F0 F:Nat->Prop}{w0 w:World}{ro rs:List Res}{tb:Nat}{s:STab}
end
abbrev bANN:ByteArray:=⟨#[97,110,110]⟩
abbrev bBOB:ByteArray:=⟨#[98,111,98]⟩
abbrev bKDC:ByteArray:=⟨#[107,100,99]⟩
theorem rTh_authent{w:World}{A:Option Addr}{c:Nat}{b:Bytes}(s1:ByteArray)(t q:Int)(K:Fin 16->UInt8)(h:SB w (.slice A b.length c) b):(rTh (rSB (.slice A b.length c) b).F (.iface 71 (.agg (auC s1 t q K (.slice A b.length c)).toArray)) (.authent s1 t q K b)).Φ w:=⟨(rSB _ _).lt h,A,c,rfl,rsg_of h⟩
theorem right_ann:rightN ⟨#[97,110,110]⟩=true:=by decide +kernel
theorem right_bob:rightN ⟨#[98,111,98]⟩=true:=by decide +kernel
theorem right_kdc:rightN ⟨#[107,100,99]⟩=true:=by decide +kernel
theorem pack_authent{s:ByteArray}{t q:Int}{K:Fin 16->UInt8}{c:Bytes}(hr:rightM s [t,q]=true)(hs:s.size<=300)(hc:c.length<=300):∃ b,packB (.authent s t q K c)=.inr b:=by
 refine ⟨_,pack_is hr ?_⟩
 refine Nat.le_trans (val_small (n:=310) ?_ (by simp [valL])) (by decide)
 intro v hv
 simp only [valL,List.mem_cons,List.not_mem_nil,or_false] at hv
 have h1:=wr_bD (kl K)
 have h2:=wr_bD s.data.toList
 have h3:=wr_bD c
 rw [kl_len] at h1
 rw [size_toList] at h2
 rcases hv with rfl|rfl|rfl|rfl|rfl
 · omega
 · have:=wr_nD t;omega
 · have:=wr_nD q;omega
 · omega
 omega
end
section
open Go.RowKit Go.QT
noncomputable abbrev cTb {P:Program} {s:Sp} (key:Nat) (hs:Spec P s):Pl P:=cA key hs [(0,0)]
abbrev tI:AV:=.i 30 (.p 0 0)
section
variable{κ:Kp}{nx:Nat}{s s2:STab}{F F':Nat->Prop}{w w':World}{A:Option Addr}{c:Nat}{l:Bytes}
theorem mkT0(hp:Hp F w w' [] [rTab F' (κ 0).n s2]):∃ κ':Kp,Agr (· < nx) κ κ'/\Hp F w w' [] ([eT 0 s2].map (Ent.res κ'))/\∀ e ∈ [eT 0 s2],e.holds κ':=by
 refine ⟨upT κ (rTab F' (κ 0).n s2),upT_agr _ _ _,?_,fun e he=>?_⟩
 · show Hp F w w' [] [(upT κ (rTab F' (κ 0).n s2) 0).r]
   unfold upT;rw [upK_at];exact hp
 rw [List.mem_singleton.1 he]
 show ∃ F,(upT κ (rTab F' (κ 0).n s2) 0).r=rTab F (upT κ (rTab F' (κ 0).n s2) 0).n s2
 unfold upT;rw [upK_at];exact ⟨F',rfl⟩
theorem mkT1(h0:0<nx)(hp:Hp F w w' [] [rTab F' (κ 0).n s2,rSB (.slice A l.length c) l]):∃ κ':Kp,Agr (· < nx) κ κ'/\(κ' nx).a=A/\(κ' nx).n=c/\Hp F w w' [] ([eT 0 s2,eB nx l].map (Ent.res κ'))/\∀ e ∈ [eT 0 s2,eB nx l],e.holds κ':=by
 have e0:upK (upT κ (rTab F' (κ 0).n s2)) nx ⟨c,A,rSB (.slice A l.length c) l⟩ 0=⟨(κ 0).n,(κ 0).a,rTab F' (κ 0).n s2⟩:=by
   rw [upK_ne _ _ (by omega)];unfold upT;rw [upK_at]
 have e1:upK (upT κ (rTab F' (κ 0).n s2)) nx ⟨c,A,rSB (.slice A l.length c) l⟩ nx=⟨c,A,rSB (.slice A l.length c) l⟩:=upK_at _ _ _
 refine ⟨upK (upT κ (rTab F' (κ 0).n s2)) nx ⟨c,A,rSB (.slice A l.length c) l⟩,fun k hk=>?_,by rw [e1],by rw [e1],?_,fun e he=>?_⟩
 · rw [upK_ne _ _ (Nat.ne_of_lt hk)];exact upT_agr κ _ (· < nx) k hk
 · show Hp F w w' [] [(upK (upT κ (rTab F' (κ 0).n s2)) nx ⟨c,A,rSB (.slice A l.length c) l⟩ 0).r,(upK (upT κ (rTab F' (κ 0).n s2)) nx ⟨c,A,rSB (.slice A l.length c) l⟩ nx).r]
   rw [e0,e1];exact hp
 rcases List.mem_cons.1 he with rfl|he
 · show ∃ F,(upK (upT κ (rTab F' (κ 0).n s2)) nx ⟨c,A,rSB (.slice A l.length c) l⟩ 0).r=rTab F (upK (upT κ (rTab F' (κ 0).n s2)) nx ⟨c,A,rSB (.slice A l.length c) l⟩ 0).n s2
   rw [e0];exact ⟨F',rfl⟩
 rw [List.mem_singleton.1 he]
 show sbC l _
 rw [e1];rfl
/-- What is only read: a table and bytes. -/
theorem ro2_s{f:FuncId}{al:List AV}{u:Value}{v:AV}(hv:∀ κ:Kp,v.den κ=u)(h:∀ (κ:Kp) (w:World) (F:Nat->Prop),(rTab F (κ 0).n s).Φ w->SB w (.slice (κ 1).a l.length (κ 1).n) l->Calls Tryz.prog f (AV.denL κ al).toArray w (DPost w u)):Spec Tryz.prog ⟨f,2,al,[eT 0 s,eB 1 l],[],v,[]⟩:=⟨fun κ w hh=>by
 have h0:=hh.ent (e:=eT 0 s) (by simp)
 obtain ⟨F,hF⟩:=h0.2
 have h1:(rTab F (κ 0).n s).Φ w:=by rw [← hF];exact h0.1
 have h2:=sb_ent (j:=1) (l:=l) hh (by simp)
 refine (h κ w F h1 h2).mono fun e w' ⟨e1,hb⟩=>⟨⟨κ,fun _ _=>⟨rfl,rfl⟩,by rw [e1,hv],⟨?_,fun e he=>absurd he List.not_mem_nil,fun e he=>absurd he List.not_mem_nil⟩⟩⟩
 rw [foot_nil]
 exact ((Hp.nil _ w).below hb).ha⟩
end
section
variable{n:Nat}{s:STab}{K Ky:Fin 16->UInt8}{us t q a u r f nn:Int}{b l m:Bytes}{s1:ByteArray}{ff:Bool}
theorem seal_post{p:Thing}{F:Nat->Prop}{w w':World}{e:Ending}{κ:Kp}{nx:Nat}(h0:0<nx)(hp:packB p=.inr b)(hn:s.boxes.length=n)(h:TSealPost w F (κ 0).n s K us (packB p) e w'):∃ κ':Kp,Agr (· < nx) κ κ'/\e=.returned ((AV.t [.o nx 16,aI 0]).den κ')/\Hp F w w' [] ([eT 0 (s.seal (kl K) us b),eB nx (mkB 98 (n+1))].map (Ent.res κ'))/\∀ e ∈ [eT 0 (s.seal (kl K) us b),eB nx (mkB 98 (n+1))],e.holds κ':=by
 rw [hp] at h
 obtain ⟨A,c,F',e1,h1⟩:=h
 rw [hn] at h1
 rw [show (Value.slice A 16 c)=.slice A (mkB 98 (n+1)).length c from by rw [mkB_len]] at h1
 obtain ⟨κ',k1,k2,k3,k4,k5⟩:=mkT1 (κ:=κ) h0 h1
 refine ⟨κ',k1,?_,k4,k5⟩
 rw [e1]
 show _=Ending.returned (.tuple #[.slice (κ' nx).a 16 (κ' nx).n,.int .i64 0])
 rw [k2,k3]
theorem sealStamp_s(hp:packB (.stamp t q)=.inr b)(hn:s.boxes.length=n)(hs:TabOk s):Spec Tryz.prog ⟨48,1,[tI,.c (aK K),aI us,.v (.iface 104 (.agg #[.int .i64 t,.int .i64 q]))],[],[eT 0 s],.t [.o 1 16,aI 0],[eT 0 (s.seal (kl K) us b),eB 1 (mkB 98 (n+1))]⟩:=
 tab_s fun κ w F hh hF hT=>(tseal_any hT hs (rTh_stamp w t q) (fun _ hf=>hf.elim) True.intro).mono fun e w' h=>seal_post (by omega) hp hn h
theorem sealAuth_s(hp:packB (.authent s1 t q Ky m)=.inr b)(hn:s.boxes.length=n)(hs:TabOk s)(hl:s1.size<=100000)(hm:m.length<=100000):Spec Tryz.prog ⟨48,2,[tI,.c (aK K),aI us,.i 71 (.c ([aS s1,aI t,aI q]++aK Ky++[.o 1 m.length]))],[eB 1 m],[eT 0 s],.t [.o 2 16,aI 0],[eT 0 (s.seal (kl K) us b),eB 2 (mkB 98 (n+1))]⟩:=
 tab_s fun κ w F hh hF hT=>by
   have h1:=sb_ent (j:=1) (l:=m) hh (by simp)
   have hd:∀ q,(rSB (.slice (κ 1).a m.length (κ 1).n) m).F q->¬ F q:=by
     have h2:=hh.ha.rdis ((eB 1 m).res κ) (by simp) ((eT 0 s).res κ) (by simp)
     intro q hq hf
     have h3:=hh.hr (eB 1 m) (by simp)
     have h3:(κ 1).r=rSB (.slice (κ 1).a m.length (κ 1).n) m:=h3
     refine h2 q (show ((κ 1).r).F q from by rw [h3];exact hq) (show ((κ 0).r).F q from by rw [hF];exact hf)
   have h4:=tseal_any (K:=K) (us:=us) hT hs (rTh_authent (A:=(κ 1).a) (c:=(κ 1).n) (b:=m) s1 t q Ky h1) hd ⟨hl,hm⟩
   have e:(AV.denL κ [tI,.c (aK K),aI us,.i 71 (.c ([aS s1,aI t,aI q]++aK Ky++[.o 1 m.length]))]).toArray=#[(Value.iface 30 (pt (κ 0).n 0)),(Value.agg (vb (kl K)).toArray),.int .i64 us,(.iface 71 (.agg ([Value.string s1,.int .i64 t,.int .i64 q]++vb (kl Ky)++[Value.slice (κ 1).a m.length (κ 1).n]).toArray))]:=by
     simp only [AV.denL,AV.den,denL_app,denL_rg]
   rw [e]
   exact h4.mono fun e w' h=>seal_post (by omega) hp hn h
theorem openReply_s(ho:openTh s (kl K) us l=.inr (.reply f Ky nn s1 a u r))(hs:TabOk s):Spec Tryz.prog ⟨80,2,[tI,.c (aK K),aI us,.o 1 l.length],[eT 0 s,eB 1 l],[],.t [.c ([aI f]++aK Ky++[aI nn,aS s1,aI a,aI u,aI r]),aI 0],[]⟩:=
 ro2_s (u:=outReply (.inr (.reply f Ky nn s1 a u r))) (fun κ=>by simp only [AV.den,AV.denL,denL_app,denL_rg];rfl) fun κ w F hT hb=>by
   have h:=oReply_any (K:=K) (us:=us) hT hs hb
   rw [ho] at h
   simp only [AV.denL,AV.den,denL_rg];exact h
theorem openInside_s(ho:openTh s (kl K) us l=.inr (.inside f Ky s1 a u r))(hs:TabOk s):Spec Tryz.prog ⟨68,2,[tI,.c (aK K),aI us,.o 1 l.length],[eT 0 s,eB 1 l],[],.t [.c ([aI f]++aK Ky++[aS s1,aI a,aI u,aI r]),aI 0],[]⟩:=
 ro2_s (u:=outInside (.inr (.inside f Ky s1 a u r))) (fun κ=>by simp only [AV.den,AV.denL,denL_app,denL_rg];rfl) fun κ w F hT hb=>by
   have h:=oInside_any (K:=K) (us:=us) hT hs hb
   rw [ho] at h
   simp only [AV.denL,AV.den,denL_rg];exact h
theorem openStamp_s(ho:openTh s (kl K) us l=.inr (.stamp t q))(hs:TabOk s):Spec Tryz.prog ⟨42,2,[tI,.c (aK K),aI us,.o 1 l.length],[eT 0 s,eB 1 l],[],.t [.c [aI t,aI q],aI 0],[]⟩:=
 ro2_s (u:=outStamp (.inr (.stamp t q))) (fun κ=>by simp only [AV.den,AV.denL];rfl) fun κ w F hT hb=>by
   have h:=oStamp_any (K:=K) (us:=us) hT hs hb
   rw [ho] at h
   simp only [AV.denL,AV.den,denL_rg];exact h
theorem ThI{F:Nat->Prop}{w w':World}{e:Ending}{κ:Kp}{nx:Nat}{s2:STab}{v:Value}(h:TPost w F (κ 0).n s2 v e w'):∃ κ':Kp,Agr (· < nx) κ κ'/\e=.returned v/\Hp F w w' [] ([eT 0 s2].map (Ent.res κ'))/\∀ e ∈ [eT 0 s2],e.holds κ':=by
 obtain ⟨e1,F',hT,hF,_,hfr⟩:=h
 have hp:Hp F w w' [] [rTab F' (κ 0).n s2]:=⟨hfr,fun i r hi=>by match i,hi with|0,hi=>(injection hi with hi;subst hi;exact hT),fun i r hi q hq=>by match i,hi with|0,hi=>(injection hi with hi;subst hi;exact hF q hq),fun i j a b hi hj hij=>by match i,j,hi,hj with|0,0,_,_=>exact absurd rfl hij,by simp,by simp⟩
 obtain ⟨κ',k1,k2,k3⟩:=mkT0 (κ:=κ) (nx:=nx) hp
 exact ⟨κ',k1,e1,k2,k3⟩
theorem fresh_s(hK:kl K=mkB 107 (s.keys.length+1))(hn:s.keys.length<1000000):Spec Tryz.prog ⟨21,1,[.p 0 0],[],[eT 0 s],.c (aK K),[eT 0 (s.add SFrom.fresh)]⟩:=
 tab_s fun κ w F hh hF hT=>(fresh_any F (κ 0).n s w hT hn).mono fun e w' h=>by
   have:=ThI (κ:=κ) (nx:=1) h
   rw [← hK] at this
   simp only [AV.den,denL_rg];exact this
theorem text_s{p q:ByteArray}(hK:kl K=mkB 107 (s.num (textF p q)))(hp:p.size<=1000000)(hq:q.size<=1000000)(hn:s.keys.length<1000000):Spec Tryz.prog ⟨164,1,[.p 0 0,aS p,aS q],[],[eT 0 s],.c (aK K),[eT 0 (s.made (textF p q))]⟩:=
 tab_s fun κ w F hh hF hT=>(text_any F (κ 0).n s p q w hT hp hq hn).mono fun e w' h=>by
   have:=ThI (κ:=κ) (nx:=1) h
   rw [← hK] at this
   simp only [AV.den,denL_rg];exact this
end
end
end Go.Proofs.YtaoijkhndakppaaGreat
