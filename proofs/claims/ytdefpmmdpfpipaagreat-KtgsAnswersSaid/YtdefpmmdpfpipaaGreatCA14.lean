/- An operation that floats beside others: what is left is told once for each place. Over any program. -/
import Derived.Test.YtdefpmmdpfpipaaGreatCA13
set_option maxRecDepth 100000
set_option maxHeartbeats 4000000
namespace Go.Proofs.YtdefpmmdpfpipaaGreat
section
open Go.Value renaming int->iV,slice->lV,string->sV,bool->bV,agg->aV
open Go.RowKit Go.QT
theorem i64_ubN(x:UInt8):iV .i64 (IntKind.i64.wrap (ub x))=iV .i64 (nb x:Int):=by
 have:=nb_lt x
 unfold ub nb at *
 congr 1
 rw [IntKind.wrap_i64]
 omega
theorem exec_mulM{P:Program}{o:Oper}{a:Act}(t t':TypeId)(x y:Operand)(ho:o.op=.binOp .mul t x y t')(m n:Nat)(hx:a.eval x=.int .i64 (m:Int))(hy:a.eval y=.int .i64 (n:Int))(p:Nat)(hp:m*n=p)(h2:p<9223372036854775808)(w:World) :
   (execOp a.eval o).run P w=.ok (.value (.int .i64 ((p:Nat):Int))) w:=by
 have e:IntKind.i64.wrap ((m:Int)*(n:Int))=(p:Int):=by rw [← Int.natCast_mul,hp,IntKind.wrap_i64];omega
 have h3:(eqGuard .mul t x y (.int .i64 (m:Int)) (.int .i64 (n:Int))).run P w=.ok () w:=by simp [eqGuard]
 have h4:(binOp .mul t (.int .i64 (m:Int)) (.int .i64 (n:Int))).run P w=.ok (.int .i64 (p:Int)) w:=by simp [binOp,Op.intArith,e]
 unfold execOp
 simp only [ho,hx,hy,Sem.run_bind,h3,h4,Result.andThen_ok,Sem.run_pure]
theorem rl_none{l:Bytes}(h:128<=nb (gb l 0))(h2:¬ (194<=nb (gb l 0)/\nb (gb l 0)<=223/\2<=l.length/\128<=nb (gb l 1)/\nb (gb l 1)<=191)):runeL l=none:=by
 unfold runeL;rw [if_neg (by omega),if_neg h2]
theorem rnp_no{l:Bytes}{r k:Int}(h:128<=nb (gb l 0))(h2:¬ (194<=nb (gb l 0)/\nb (gb l 0)<=223/\2<=l.length/\128<=nb (gb l 1)/\nb (gb l 1)<=191))(hr:(r = -1∨2048<=r)/\r<=5000000/\1<=k/\k<=4):RnP l r k:=by
 unfold RnP;rw [rl_none h h2];exact hr
theorem rnp_1{l:Bytes}(h:nb (gb l 0)<128):RnP l (nb (gb l 0):Int) 1:=by
 unfold RnP runeL;rw [if_pos h];exact ⟨rfl,rfl⟩
theorem rnp_2{l:Bytes}{r:Int}(h:194<=nb (gb l 0)/\nb (gb l 0)<=223/\2<=l.length/\128<=nb (gb l 1)/\nb (gb l 1)<=191)(hr:r=(((nb (gb l 0)-192)*64+(nb (gb l 1)-128):Nat):Int)):RnP l r 2:=by
 unfold RnP runeL;rw [if_neg (by omega),if_pos h];exact ⟨hr,rfl⟩
theorem rletter_any(c:Int)(h1:-1000000000<=c)(h2:c<=1000000000)(w:World):Calls Tryz.prog 36 #[.int .i64 c,.int .i64 0] w (DPost w (.bool (letterN c))):=by
 have h0:=Hp.nil (fun _=>False) w
 refine mE 54 ?_
 refine mW 7 (exec_add _ _ _ _ bO c 0 (by kernel_rfl) (by kernel_rfl) (c) (by omega) (by omega) (by omega) _) ?_
 rcases (by omega:c<97∨(97<=c/\c<=122)∨(122<c/\c<224)∨(224<=c/\c<=246)∨(246<c/\c<248)∨(248<=c/\c<=254)∨(254<c/\c<945)∨(945<=c/\c<=961)∨(961<c/\c<963)∨(963<=c/\c<=969)∨(969<c/\c<1072)∨(1072<=c/\c<=1103)∨1103<c) with hq|hq|hq|hq|hq|hq|hq|hq|hq|hq|hq|hq|hq
 ·
  refine mX 9 (.bool false) (bV (decide (c ≥ 97))) (by simp;omega) ?_
  refine mX 16 (.bool false) (bV (decide (c ≥ 224))) (by simp;omega) ?_
  refine mX 24 (.bool false) (bV (decide (c ≥ 248))) (by simp;omega) ?_
  refine mX 32 (.bool false) (bV (decide (c ≥ 945))) (by simp;omega) ?_
  refine mX 40 (.bool false) (bV (decide (c ≥ 963))) (by simp;omega) ?_
  refine mX 48 (.bool false) (bV (decide (c ≥ 1072))) (by simp;omega) ?_
  exact mQe zV h0 (by rw [show letterN c=false from by unfold letterN inR ltrL;simp;omega])
 ·
  refine mX 9 (.bool true) (bV (decide (c ≥ 97))) (by simp;omega) ?_
  refine mX 12 (.bool true) (bV (decide (c<=122))) (by simp;omega) ?_
  exact mQe zI h0 (by rw [show letterN c=true from by unfold letterN inR ltrL;simp;omega])
 ·
  refine mX 9 (.bool true) (bV (decide (c ≥ 97))) (by simp;omega) ?_
  refine mX 12 (.bool false) (bV (decide (c<=122))) (by simp;omega) ?_
  refine mX 16 (.bool false) (bV (decide (c ≥ 224))) (by simp;omega) ?_
  refine mX 24 (.bool false) (bV (decide (c ≥ 248))) (by simp;omega) ?_
  refine mX 32 (.bool false) (bV (decide (c ≥ 945))) (by simp;omega) ?_
  refine mX 40 (.bool false) (bV (decide (c ≥ 963))) (by simp;omega) ?_
  refine mX 48 (.bool false) (bV (decide (c ≥ 1072))) (by simp;omega) ?_
  exact mQe zV h0 (by rw [show letterN c=false from by unfold letterN inR ltrL;simp;omega])
 ·
  refine mX 9 (.bool true) (bV (decide (c ≥ 97))) (by simp;omega) ?_
  refine mX 12 (.bool false) (bV (decide (c<=122))) (by simp;omega) ?_
  refine mX 16 (.bool true) (bV (decide (c ≥ 224))) (by simp;omega) ?_
  refine mX 19 (.bool true) (bV (decide (c<=246))) (by simp;omega) ?_
  exact mQe zI h0 (by rw [show letterN c=true from by unfold letterN inR ltrL;simp;omega])
 ·
  refine mX 9 (.bool true) (bV (decide (c ≥ 97))) (by simp;omega) ?_
  refine mX 12 (.bool false) (bV (decide (c<=122))) (by simp;omega) ?_
  refine mX 16 (.bool true) (bV (decide (c ≥ 224))) (by simp;omega) ?_
  refine mX 19 (.bool false) (bV (decide (c<=246))) (by simp;omega) ?_
  refine mX 24 (.bool false) (bV (decide (c ≥ 248))) (by simp;omega) ?_
  refine mX 32 (.bool false) (bV (decide (c ≥ 945))) (by simp;omega) ?_
  refine mX 40 (.bool false) (bV (decide (c ≥ 963))) (by simp;omega) ?_
  refine mX 48 (.bool false) (bV (decide (c ≥ 1072))) (by simp;omega) ?_
  exact mQe zV h0 (by rw [show letterN c=false from by unfold letterN inR ltrL;simp;omega])
 ·
  refine mX 9 (.bool true) (bV (decide (c ≥ 97))) (by simp;omega) ?_
  refine mX 12 (.bool false) (bV (decide (c<=122))) (by simp;omega) ?_
  refine mX 16 (.bool true) (bV (decide (c ≥ 224))) (by simp;omega) ?_
  refine mX 19 (.bool false) (bV (decide (c<=246))) (by simp;omega) ?_
  refine mX 24 (.bool true) (bV (decide (c ≥ 248))) (by simp;omega) ?_
  refine mX 27 (.bool true) (bV (decide (c<=254))) (by simp;omega) ?_
  exact mQe zI h0 (by rw [show letterN c=true from by unfold letterN inR ltrL;simp;omega])
 ·
  refine mX 9 (.bool true) (bV (decide (c ≥ 97))) (by simp;omega) ?_
  refine mX 12 (.bool false) (bV (decide (c<=122))) (by simp;omega) ?_
  refine mX 16 (.bool true) (bV (decide (c ≥ 224))) (by simp;omega) ?_
  refine mX 19 (.bool false) (bV (decide (c<=246))) (by simp;omega) ?_
  refine mX 24 (.bool true) (bV (decide (c ≥ 248))) (by simp;omega) ?_
  refine mX 27 (.bool false) (bV (decide (c<=254))) (by simp;omega) ?_
  refine mX 32 (.bool false) (bV (decide (c ≥ 945))) (by simp;omega) ?_
  refine mX 40 (.bool false) (bV (decide (c ≥ 963))) (by simp;omega) ?_
  refine mX 48 (.bool false) (bV (decide (c ≥ 1072))) (by simp;omega) ?_
  exact mQe zV h0 (by rw [show letterN c=false from by unfold letterN inR ltrL;simp;omega])
 ·
  refine mX 9 (.bool true) (bV (decide (c ≥ 97))) (by simp;omega) ?_
  refine mX 12 (.bool false) (bV (decide (c<=122))) (by simp;omega) ?_
  refine mX 16 (.bool true) (bV (decide (c ≥ 224))) (by simp;omega) ?_
  refine mX 19 (.bool false) (bV (decide (c<=246))) (by simp;omega) ?_
  refine mX 24 (.bool true) (bV (decide (c ≥ 248))) (by simp;omega) ?_
  refine mX 27 (.bool false) (bV (decide (c<=254))) (by simp;omega) ?_
  refine mX 32 (.bool true) (bV (decide (c ≥ 945))) (by simp;omega) ?_
  refine mX 35 (.bool true) (bV (decide (c<=961))) (by simp;omega) ?_
  exact mQe zI h0 (by rw [show letterN c=true from by unfold letterN inR ltrL;simp;omega])
 ·
  refine mX 9 (.bool true) (bV (decide (c ≥ 97))) (by simp;omega) ?_
  refine mX 12 (.bool false) (bV (decide (c<=122))) (by simp;omega) ?_
  refine mX 16 (.bool true) (bV (decide (c ≥ 224))) (by simp;omega) ?_
  refine mX 19 (.bool false) (bV (decide (c<=246))) (by simp;omega) ?_
  refine mX 24 (.bool true) (bV (decide (c ≥ 248))) (by simp;omega) ?_
  refine mX 27 (.bool false) (bV (decide (c<=254))) (by simp;omega) ?_
  refine mX 32 (.bool true) (bV (decide (c ≥ 945))) (by simp;omega) ?_
  refine mX 35 (.bool false) (bV (decide (c<=961))) (by simp;omega) ?_
  refine mX 40 (.bool false) (bV (decide (c ≥ 963))) (by simp;omega) ?_
  refine mX 48 (.bool false) (bV (decide (c ≥ 1072))) (by simp;omega) ?_
  exact mQe zV h0 (by rw [show letterN c=false from by unfold letterN inR ltrL;simp;omega])
 ·
  refine mX 9 (.bool true) (bV (decide (c ≥ 97))) (by simp;omega) ?_
  refine mX 12 (.bool false) (bV (decide (c<=122))) (by simp;omega) ?_
  refine mX 16 (.bool true) (bV (decide (c ≥ 224))) (by simp;omega) ?_
  refine mX 19 (.bool false) (bV (decide (c<=246))) (by simp;omega) ?_
  refine mX 24 (.bool true) (bV (decide (c ≥ 248))) (by simp;omega) ?_
  refine mX 27 (.bool false) (bV (decide (c<=254))) (by simp;omega) ?_
  refine mX 32 (.bool true) (bV (decide (c ≥ 945))) (by simp;omega) ?_
  refine mX 35 (.bool false) (bV (decide (c<=961))) (by simp;omega) ?_
  refine mX 40 (.bool true) (bV (decide (c ≥ 963))) (by simp;omega) ?_
  refine mX 43 (.bool true) (bV (decide (c<=969))) (by simp;omega) ?_
  exact mQe zI h0 (by rw [show letterN c=true from by unfold letterN inR ltrL;simp;omega])
 ·
  refine mX 9 (.bool true) (bV (decide (c ≥ 97))) (by simp;omega) ?_
  refine mX 12 (.bool false) (bV (decide (c<=122))) (by simp;omega) ?_
  refine mX 16 (.bool true) (bV (decide (c ≥ 224))) (by simp;omega) ?_
  refine mX 19 (.bool false) (bV (decide (c<=246))) (by simp;omega) ?_
  refine mX 24 (.bool true) (bV (decide (c ≥ 248))) (by simp;omega) ?_
  refine mX 27 (.bool false) (bV (decide (c<=254))) (by simp;omega) ?_
  refine mX 32 (.bool true) (bV (decide (c ≥ 945))) (by simp;omega) ?_
  refine mX 35 (.bool false) (bV (decide (c<=961))) (by simp;omega) ?_
  refine mX 40 (.bool true) (bV (decide (c ≥ 963))) (by simp;omega) ?_
  refine mX 43 (.bool false) (bV (decide (c<=969))) (by simp;omega) ?_
  refine mX 48 (.bool false) (bV (decide (c ≥ 1072))) (by simp;omega) ?_
  exact mQe zV h0 (by rw [show letterN c=false from by unfold letterN inR ltrL;simp;omega])
 ·
  refine mX 9 (.bool true) (bV (decide (c ≥ 97))) (by simp;omega) ?_
  refine mX 12 (.bool false) (bV (decide (c<=122))) (by simp;omega) ?_
  refine mX 16 (.bool true) (bV (decide (c ≥ 224))) (by simp;omega) ?_
  refine mX 19 (.bool false) (bV (decide (c<=246))) (by simp;omega) ?_
  refine mX 24 (.bool true) (bV (decide (c ≥ 248))) (by simp;omega) ?_
  refine mX 27 (.bool false) (bV (decide (c<=254))) (by simp;omega) ?_
  refine mX 32 (.bool true) (bV (decide (c ≥ 945))) (by simp;omega) ?_
  refine mX 35 (.bool false) (bV (decide (c<=961))) (by simp;omega) ?_
  refine mX 40 (.bool true) (bV (decide (c ≥ 963))) (by simp;omega) ?_
  refine mX 43 (.bool false) (bV (decide (c<=969))) (by simp;omega) ?_
  refine mX 48 (.bool true) (bV (decide (c ≥ 1072))) (by simp;omega) ?_
  refine mX 51 (.bool true) (bV (decide (c<=1103))) (by simp;omega) ?_
  exact mQe zI h0 (by rw [show letterN c=true from by unfold letterN inR ltrL;simp;omega])
 refine mX 9 (.bool true) (bV (decide (c ≥ 97))) (by simp;omega) ?_
 refine mX 12 (.bool false) (bV (decide (c<=122))) (by simp;omega) ?_
 refine mX 16 (.bool true) (bV (decide (c ≥ 224))) (by simp;omega) ?_
 refine mX 19 (.bool false) (bV (decide (c<=246))) (by simp;omega) ?_
 refine mX 24 (.bool true) (bV (decide (c ≥ 248))) (by simp;omega) ?_
 refine mX 27 (.bool false) (bV (decide (c<=254))) (by simp;omega) ?_
 refine mX 32 (.bool true) (bV (decide (c ≥ 945))) (by simp;omega) ?_
 refine mX 35 (.bool false) (bV (decide (c<=961))) (by simp;omega) ?_
 refine mX 40 (.bool true) (bV (decide (c ≥ 963))) (by simp;omega) ?_
 refine mX 43 (.bool false) (bV (decide (c<=969))) (by simp;omega) ?_
 refine mX 48 (.bool true) (bV (decide (c ≥ 1072))) (by simp;omega) ?_
 refine mX 51 (.bool false) (bV (decide (c<=1103))) (by simp;omega) ?_
 exact mQe zV h0 (by rw [show letterN c=false from by unfold letterN inR ltrL;simp;omega])
theorem rune_1(s:ByteArray)(hs0:0<s.size)(hx:nb (gb s.data.toList 0)<128)(w:World):Calls Tryz.prog 35 #[.string s] w (RnPost w s.data.toList):=by
 have hb0:=nb_lt (gb s.data.toList 0)
 have hsl:s.data.toList.length=s.size:=by simp
 have h0:=Hp.nil (fun _=>False) w
 refine mE 83 ?_
 refine mW 10 (v:=(iV .u8 (ub (gb s.data.toList 0)))) (e_sidx 9 (.tmp 9) (.const zO) (by kernel_rfl) s .i64 0 (by kernel_rfl) (by kernel_rfl) (by kernel_rfl) (by omega) _) ?_
 refine mX 11 (zD ((nb (gb s.data.toList 0):Int))) (zD (IntKind.i64.wrap (ub (gb s.data.toList 0)))) (i64_ubN _) ?_
 refine mX 13 (.bool true) (bV (decide ((nb (gb s.data.toList 0):Int)<128))) (by simp;omega) ?_
 refine mP (Value.tuple #[(zD ((nb (gb s.data.toList 0):Int))),(zD 1)]) ?_
 exact ⟨_,_,rfl,rnp_1 hx,h0.below0⟩
theorem rune_2(s:ByteArray)(hs0:0<s.size)(hs:s.size<=1000000000)(hx:194<=nb (gb s.data.toList 0)/\nb (gb s.data.toList 0)<=223)(w:World):Calls Tryz.prog 35 #[.string s] w (RnPost w s.data.toList):=by
 have hb0:=nb_lt (gb s.data.toList 0)
 have hsl:s.data.toList.length=s.size:=by simp
 have h0:=Hp.nil (fun _=>False) w
 refine mE 83 ?_
 refine mW 10 (v:=(iV .u8 (ub (gb s.data.toList 0)))) (e_sidx 9 (.tmp 9) (.const zO) (by kernel_rfl) s .i64 0 (by kernel_rfl) (by kernel_rfl) (by kernel_rfl) (by omega) _) ?_
 refine mX 11 (zD ((nb (gb s.data.toList 0):Int))) (zD (IntKind.i64.wrap (ub (gb s.data.toList 0)))) (i64_ubN _) ?_
 refine mX 13 (.bool false) (bV (decide ((nb (gb s.data.toList 0):Int)<128))) (by simp;omega) ?_
 refine mX 17 (.bool true) (bV (decide ((nb (gb s.data.toList 0):Int) ≥ 194))) (by simp;omega) ?_
 refine mX 20 (.bool true) (bV (decide ((nb (gb s.data.toList 0):Int)<=223))) (by simp;omega) ?_
 refine mW 23 (exec_sub _ _ _ _ bO ((nb (gb s.data.toList 0):Int)) 192 (by kernel_rfl) (by kernel_rfl) (((nb (gb s.data.toList 0)-192:Nat):Int)) (by omega) (by omega) (by omega) _) ?_
 refine m_if 45 (((s).size:Int)<2) (by kernel_rfl) (fun b11=>?_) (fun b11=>?_)
 ·
  refine mP (Value.tuple #[(zD (-1)),(zD 1)]) ?_
  exact ⟨_,_,rfl,rnp_no (by omega) (by omega) (by omega),h0.below0⟩
 refine mL (fun mM xX aA wL=>∃ (k:Nat) (a:Nat),(1<=k/\k<=2)/\(k=1->a=nb (gb s.data.toList 0)-192)/\(k=2->a=(nb (gb s.data.toList 0)-192)*64+(nb (gb s.data.toList 1)-128)/\128<=nb (gb s.data.toList 1)/\nb (gb s.data.toList 1)<=191)/\mM=2-k/\aA=patch xX 83 [(0,(sV s)),(4,(zD ((a:Int)))),(5,(zD 2)),(6,(zD 128)),(7,(zD ((k:Int))))]/\Hp (fun _=>False) w wL [] []) ⟨_,_,1,((nb (gb s.data.toList 0)-192)),(by omega),(fun _=>rfl),(fun h=>absurd h (by decide)),rfl,pM,h0.sel [] [] (by kernel_rfl) rfl rfl⟩ ?_
 rintro _ x15 _ w15 ⟨k,a,hk,ha,ha2,rfl,rfl,h15⟩ KL15 hKL15
 refine mAt ?_
 refine m_if 48 ((k:Int)<2) (by kernel_rfl) (fun b18=>?_) (fun b18=>?_)
 ·
  have hkn:k<2:=by omega
  have hku:k<s.size:=by omega
  have hu:=nb_lt (gb s.data.toList k)
  refine mW 53 (v:=(iV .u8 (ub (gb s.data.toList k)))) (e_sidx 9 (.tmp 51) (.tmp 52) (by kernel_rfl) s .i64 k (by kernel_rfl) (by kernel_rfl) (by kernel_rfl) (by omega) _) ?_
  refine mX 54 (zD ((nb (gb s.data.toList k):Int))) (zD (IntKind.i64.wrap (ub (gb s.data.toList k)))) (i64_ubN _) ?_
  rcases (by omega:nb (gb s.data.toList k)<128∨(128<=nb (gb s.data.toList k)/\191<nb (gb s.data.toList k))∨(128<=nb (gb s.data.toList k)/\nb (gb s.data.toList k)<=191)) with hq|hq|hq
  ·
   refine mX 56 (.bool true) (bV (decide ((nb (gb s.data.toList k):Int)<128))) (by simp;omega) ?_
   refine mP (Value.tuple #[(zD (-1)),(zD 1)]) ?_
   obtain rfl:k=1:=by omega
   exact ⟨_,_,rfl,rnp_no (by omega) (by omega) (by omega),h15.below0⟩
  ·
   refine mX 56 (.bool false) (bV (decide ((nb (gb s.data.toList k):Int)<128))) (by simp;omega) ?_
   refine mX 59 (.bool true) (bV (decide ((nb (gb s.data.toList k):Int)>191))) (by simp;omega) ?_
   refine mP (Value.tuple #[(zD (-1)),(zD 1)]) ?_
   obtain rfl:k=1:=by omega
   exact ⟨_,_,rfl,rnp_no (by omega) (by omega) (by omega),h15.below0⟩
  refine mX 56 (.bool false) (bV (decide ((nb (gb s.data.toList k):Int)<128))) (by simp;omega) ?_
  refine mX 59 (.bool false) (bV (decide ((nb (gb s.data.toList k):Int)>191))) (by simp;omega) ?_
  have hsmall:a<=65535:=by omega
  obtain ⟨u,hu2⟩:∃ u,u=nb (gb s.data.toList k):=⟨_,rfl⟩
  refine mW 62 (v:=(zD (((a*64:Nat):Int)))) (exec_mulM _ _ _ _ bO a 64 (by kernel_rfl) (by kernel_rfl) (a*64) rfl (by omega) _) ?_
  refine mW 64 (exec_add _ _ _ _ bO (((a*64:Nat):Int)) ((nb (gb s.data.toList k):Int)) (by kernel_rfl) (by kernel_rfl) (((a*64+u:Nat):Int)) (by omega) (by omega) (by omega) _) ?_
  refine mW 65 (exec_sub _ _ _ _ bO (((a*64+u:Nat):Int)) 128 (by kernel_rfl) (by kernel_rfl) (((a*64+u-128:Nat):Int)) (by omega) (by omega) (by omega) _) ?_
  refine mW 50 (exec_add _ _ _ _ bO ((k:Int)) 1 (by kernel_rfl) (by kernel_rfl) (((k+1:Nat):Int)) (by omega) (by omega) (by omega) _) ?_
  exact mK KL15 (hKL15 _ _ ⟨2-(k+1),_,(by omega),((k+1)),((a*64+u-128)),(by omega),(by omega),(by intro _;have e:k=1:=(by omega);subst e;have:=ha rfl;omega),rfl,pM,h15.sel [] [] (by kernel_rfl) rfl rfl⟩)
 rcases (by omega:a<128∨(128<=a/\1114111<a)∨(128<=a/\a<=1114111/\a<55296)∨(128<=a/\a<=1114111/\55296<=a/\a<=57343)∨(128<=a/\a<=1114111/\57343<a)) with hz|hz|hz|hz|hz
 ·
  refine mX 68 (.bool true) (bV (decide ((a:Int)<128))) (by simp;omega) ?_
  refine mP (Value.tuple #[(zD (-1)),(zD 1)]) ?_
  obtain rfl:k=2:=by omega
  obtain ⟨h5,h6,h7⟩:=ha2 rfl
  exfalso
  omega
 ·
  refine mX 68 (.bool false) (bV (decide ((a:Int)<128))) (by simp;omega) ?_
  refine mX 71 (.bool true) (bV (decide ((a:Int)>1114111))) (by simp;omega) ?_
  refine mP (Value.tuple #[(zD (-1)),(zD 1)]) ?_
  obtain rfl:k=2:=by omega
  obtain ⟨h5,h6,h7⟩:=ha2 rfl
  exfalso
  omega
 ·
  refine mX 68 (.bool false) (bV (decide ((a:Int)<128))) (by simp;omega) ?_
  refine mX 71 (.bool false) (bV (decide ((a:Int)>1114111))) (by simp;omega) ?_
  refine mX 75 (.bool false) (bV (decide ((a:Int) ≥ 55296))) (by simp;omega) ?_
  refine mP (Value.tuple #[(zD ((a:Int))),(zD 2)]) ?_
  obtain rfl:k=2:=by omega
  obtain ⟨h5,h6,h7⟩:=ha2 rfl
  exact ⟨_,_,rfl,rnp_2 ⟨by omega,by omega,by omega,h6,h7⟩ (by omega),h15.below0⟩
 ·
  refine mX 68 (.bool false) (bV (decide ((a:Int)<128))) (by simp;omega) ?_
  refine mX 71 (.bool false) (bV (decide ((a:Int)>1114111))) (by simp;omega) ?_
  refine mX 75 (.bool true) (bV (decide ((a:Int) ≥ 55296))) (by simp;omega) ?_
  refine mX 78 (.bool true) (bV (decide ((a:Int)<=57343))) (by simp;omega) ?_
  refine mP (Value.tuple #[(zD (-1)),(zD 1)]) ?_
  obtain rfl:k=2:=by omega
  obtain ⟨h5,h6,h7⟩:=ha2 rfl
  exfalso
  omega
 refine mX 68 (.bool false) (bV (decide ((a:Int)<128))) (by simp;omega) ?_
 refine mX 71 (.bool false) (bV (decide ((a:Int)>1114111))) (by simp;omega) ?_
 refine mX 75 (.bool true) (bV (decide ((a:Int) ≥ 55296))) (by simp;omega) ?_
 refine mX 78 (.bool false) (bV (decide ((a:Int)<=57343))) (by simp;omega) ?_
 refine mP (Value.tuple #[(zD ((a:Int))),(zD 2)]) ?_
 obtain rfl:k=2:=by omega
 obtain ⟨h5,h6,h7⟩:=ha2 rfl
 exact ⟨_,_,rfl,rnp_2 ⟨by omega,by omega,by omega,h6,h7⟩ (by omega),h15.below0⟩
theorem rune_3(s:ByteArray)(hs0:0<s.size)(hs:s.size<=1000000000)(hx:224<=nb (gb s.data.toList 0)/\nb (gb s.data.toList 0)<=239)(w:World):Calls Tryz.prog 35 #[.string s] w (RnPost w s.data.toList):=by
 have hb0:=nb_lt (gb s.data.toList 0)
 have hsl:s.data.toList.length=s.size:=by simp
 have h0:=Hp.nil (fun _=>False) w
 refine mE 83 ?_
 refine mW 10 (v:=(iV .u8 (ub (gb s.data.toList 0)))) (e_sidx 9 (.tmp 9) (.const zO) (by kernel_rfl) s .i64 0 (by kernel_rfl) (by kernel_rfl) (by kernel_rfl) (by omega) _) ?_
 refine mX 11 (zD ((nb (gb s.data.toList 0):Int))) (zD (IntKind.i64.wrap (ub (gb s.data.toList 0)))) (i64_ubN _) ?_
 refine mX 13 (.bool false) (bV (decide ((nb (gb s.data.toList 0):Int)<128))) (by simp;omega) ?_
 refine mX 17 (.bool true) (bV (decide ((nb (gb s.data.toList 0):Int) ≥ 194))) (by simp;omega) ?_
 refine mX 20 (.bool false) (bV (decide ((nb (gb s.data.toList 0):Int)<=223))) (by simp;omega) ?_
 refine mX 26 (.bool true) (bV (decide ((nb (gb s.data.toList 0):Int) ≥ 224))) (by simp;omega) ?_
 refine mX 29 (.bool true) (bV (decide ((nb (gb s.data.toList 0):Int)<=239))) (by simp;omega) ?_
 refine mW 32 (exec_sub _ _ _ _ bO ((nb (gb s.data.toList 0):Int)) 224 (by kernel_rfl) (by kernel_rfl) (((nb (gb s.data.toList 0)-224:Nat):Int)) (by omega) (by omega) (by omega) _) ?_
 refine m_if 45 (((s).size:Int)<3) (by kernel_rfl) (fun b12=>?_) (fun b12=>?_)
 ·
  refine mP (Value.tuple #[(zD (-1)),(zD 1)]) ?_
  exact ⟨_,_,rfl,rnp_no (by omega) (by omega) (by omega),h0.below0⟩
 refine mL (fun mM xX aA wL=>∃ (k:Nat) (a:Nat),(1<=k/\k<=3)/\((k=1->a<=15)/\(k=2->a<=1023)/\(k=3->a<=65535)/\a<=4194303)/\mM=3-k/\aA=patch xX 83 [(0,(sV s)),(4,(zD ((a:Int)))),(5,(zD 3)),(6,(zD 2048)),(7,(zD ((k:Int))))]/\Hp (fun _=>False) w wL [] []) ⟨_,_,1,((nb (gb s.data.toList 0)-224)),(by omega),(by omega),rfl,pM,h0.sel [] [] (by kernel_rfl) rfl rfl⟩ ?_
 rintro _ x16 _ w16 ⟨k,a,hk,ha,rfl,rfl,h16⟩ KL16 hKL16
 refine mAt ?_
 refine m_if 48 ((k:Int)<3) (by kernel_rfl) (fun b19=>?_) (fun b19=>?_)
 ·
  have hkn:k<3:=by omega
  have hku:k<s.size:=by omega
  have hu:=nb_lt (gb s.data.toList k)
  refine mW 53 (v:=(iV .u8 (ub (gb s.data.toList k)))) (e_sidx 9 (.tmp 51) (.tmp 52) (by kernel_rfl) s .i64 k (by kernel_rfl) (by kernel_rfl) (by kernel_rfl) (by omega) _) ?_
  refine mX 54 (zD ((nb (gb s.data.toList k):Int))) (zD (IntKind.i64.wrap (ub (gb s.data.toList k)))) (i64_ubN _) ?_
  rcases (by omega:nb (gb s.data.toList k)<128∨(128<=nb (gb s.data.toList k)/\191<nb (gb s.data.toList k))∨(128<=nb (gb s.data.toList k)/\nb (gb s.data.toList k)<=191)) with hq|hq|hq
  ·
   refine mX 56 (.bool true) (bV (decide ((nb (gb s.data.toList k):Int)<128))) (by simp;omega) ?_
   refine mP (Value.tuple #[(zD (-1)),(zD 1)]) ?_
   exact ⟨_,_,rfl,rnp_no (by omega) (by omega) (by omega),h16.below0⟩
  ·
   refine mX 56 (.bool false) (bV (decide ((nb (gb s.data.toList k):Int)<128))) (by simp;omega) ?_
   refine mX 59 (.bool true) (bV (decide ((nb (gb s.data.toList k):Int)>191))) (by simp;omega) ?_
   refine mP (Value.tuple #[(zD (-1)),(zD 1)]) ?_
   exact ⟨_,_,rfl,rnp_no (by omega) (by omega) (by omega),h16.below0⟩
  refine mX 56 (.bool false) (bV (decide ((nb (gb s.data.toList k):Int)<128))) (by simp;omega) ?_
  refine mX 59 (.bool false) (bV (decide ((nb (gb s.data.toList k):Int)>191))) (by simp;omega) ?_
  have hsmall:a<=65535:=by omega
  obtain ⟨u,hu2⟩:∃ u,u=nb (gb s.data.toList k):=⟨_,rfl⟩
  refine mW 62 (v:=(zD (((a*64:Nat):Int)))) (exec_mulM _ _ _ _ bO a 64 (by kernel_rfl) (by kernel_rfl) (a*64) rfl (by omega) _) ?_
  refine mW 64 (exec_add _ _ _ _ bO (((a*64:Nat):Int)) ((nb (gb s.data.toList k):Int)) (by kernel_rfl) (by kernel_rfl) (((a*64+u:Nat):Int)) (by omega) (by omega) (by omega) _) ?_
  refine mW 65 (exec_sub _ _ _ _ bO (((a*64+u:Nat):Int)) 128 (by kernel_rfl) (by kernel_rfl) (((a*64+u-128:Nat):Int)) (by omega) (by omega) (by omega) _) ?_
  refine mW 50 (exec_add _ _ _ _ bO ((k:Int)) 1 (by kernel_rfl) (by kernel_rfl) (((k+1:Nat):Int)) (by omega) (by omega) (by omega) _) ?_
  exact mK KL16 (hKL16 _ _ ⟨3-(k+1),_,(by omega),((k+1)),((a*64+u-128)),(by omega),(by omega),rfl,pM,h16.sel [] [] (by kernel_rfl) rfl rfl⟩)
 rcases (by omega:a<2048∨(2048<=a/\1114111<a)∨(2048<=a/\a<=1114111/\a<55296)∨(2048<=a/\a<=1114111/\55296<=a/\a<=57343)∨(2048<=a/\a<=1114111/\57343<a)) with hz|hz|hz|hz|hz
 ·
  refine mX 68 (.bool true) (bV (decide ((a:Int)<2048))) (by simp;omega) ?_
  refine mP (Value.tuple #[(zD (-1)),(zD 1)]) ?_
  exact ⟨_,_,rfl,rnp_no (by omega) (by omega) (by omega),h16.below0⟩
 ·
  refine mX 68 (.bool false) (bV (decide ((a:Int)<2048))) (by simp;omega) ?_
  refine mX 71 (.bool true) (bV (decide ((a:Int)>1114111))) (by simp;omega) ?_
  refine mP (Value.tuple #[(zD (-1)),(zD 1)]) ?_
  exact ⟨_,_,rfl,rnp_no (by omega) (by omega) (by omega),h16.below0⟩
 ·
  refine mX 68 (.bool false) (bV (decide ((a:Int)<2048))) (by simp;omega) ?_
  refine mX 71 (.bool false) (bV (decide ((a:Int)>1114111))) (by simp;omega) ?_
  refine mX 75 (.bool false) (bV (decide ((a:Int) ≥ 55296))) (by simp;omega) ?_
  refine mP (Value.tuple #[(zD ((a:Int))),(zD 3)]) ?_
  exact ⟨_,_,rfl,rnp_no (by omega) (by omega) (by omega),h16.below0⟩
 ·
  refine mX 68 (.bool false) (bV (decide ((a:Int)<2048))) (by simp;omega) ?_
  refine mX 71 (.bool false) (bV (decide ((a:Int)>1114111))) (by simp;omega) ?_
  refine mX 75 (.bool true) (bV (decide ((a:Int) ≥ 55296))) (by simp;omega) ?_
  refine mX 78 (.bool true) (bV (decide ((a:Int)<=57343))) (by simp;omega) ?_
  refine mP (Value.tuple #[(zD (-1)),(zD 1)]) ?_
  exact ⟨_,_,rfl,rnp_no (by omega) (by omega) (by omega),h16.below0⟩
 refine mX 68 (.bool false) (bV (decide ((a:Int)<2048))) (by simp;omega) ?_
 refine mX 71 (.bool false) (bV (decide ((a:Int)>1114111))) (by simp;omega) ?_
 refine mX 75 (.bool true) (bV (decide ((a:Int) ≥ 55296))) (by simp;omega) ?_
 refine mX 78 (.bool false) (bV (decide ((a:Int)<=57343))) (by simp;omega) ?_
 refine mP (Value.tuple #[(zD ((a:Int))),(zD 3)]) ?_
 exact ⟨_,_,rfl,rnp_no (by omega) (by omega) (by omega),h16.below0⟩
theorem rune_4(s:ByteArray)(hs0:0<s.size)(hs:s.size<=1000000000)(hx:240<=nb (gb s.data.toList 0)/\nb (gb s.data.toList 0)<=244)(w:World):Calls Tryz.prog 35 #[.string s] w (RnPost w s.data.toList):=by
 have hb0:=nb_lt (gb s.data.toList 0)
 have hsl:s.data.toList.length=s.size:=by simp
 have h0:=Hp.nil (fun _=>False) w
 refine mE 83 ?_
 refine mW 10 (v:=(iV .u8 (ub (gb s.data.toList 0)))) (e_sidx 9 (.tmp 9) (.const zO) (by kernel_rfl) s .i64 0 (by kernel_rfl) (by kernel_rfl) (by kernel_rfl) (by omega) _) ?_
 refine mX 11 (zD ((nb (gb s.data.toList 0):Int))) (zD (IntKind.i64.wrap (ub (gb s.data.toList 0)))) (i64_ubN _) ?_
 refine mX 13 (.bool false) (bV (decide ((nb (gb s.data.toList 0):Int)<128))) (by simp;omega) ?_
 refine mX 17 (.bool true) (bV (decide ((nb (gb s.data.toList 0):Int) ≥ 194))) (by simp;omega) ?_
 refine mX 20 (.bool false) (bV (decide ((nb (gb s.data.toList 0):Int)<=223))) (by simp;omega) ?_
 refine mX 26 (.bool true) (bV (decide ((nb (gb s.data.toList 0):Int) ≥ 224))) (by simp;omega) ?_
 refine mX 29 (.bool false) (bV (decide ((nb (gb s.data.toList 0):Int)<=239))) (by simp;omega) ?_
 refine mX 35 (.bool true) (bV (decide ((nb (gb s.data.toList 0):Int) ≥ 240))) (by simp;omega) ?_
 refine mX 38 (.bool true) (bV (decide ((nb (gb s.data.toList 0):Int)<=244))) (by simp;omega) ?_
 refine mW 41 (exec_sub _ _ _ _ bO ((nb (gb s.data.toList 0):Int)) 240 (by kernel_rfl) (by kernel_rfl) (((nb (gb s.data.toList 0)-240:Nat):Int)) (by omega) (by omega) (by omega) _) ?_
 refine m_if 45 (((s).size:Int)<4) (by kernel_rfl) (fun b13=>?_) (fun b13=>?_)
 ·
  refine mP (Value.tuple #[(zD (-1)),(zD 1)]) ?_
  exact ⟨_,_,rfl,rnp_no (by omega) (by omega) (by omega),h0.below0⟩
 refine mL (fun mM xX aA wL=>∃ (k:Nat) (a:Nat),(1<=k/\k<=4)/\((k=1->a<=15)/\(k=2->a<=1023)/\(k=3->a<=65535)/\a<=4194303)/\mM=4-k/\aA=patch xX 83 [(0,(sV s)),(4,(zD ((a:Int)))),(5,(zD 4)),(6,(zD 65536)),(7,(zD ((k:Int))))]/\Hp (fun _=>False) w wL [] []) ⟨_,_,1,((nb (gb s.data.toList 0)-240)),(by omega),(by omega),rfl,pM,h0.sel [] [] (by kernel_rfl) rfl rfl⟩ ?_
 rintro _ x17 _ w17 ⟨k,a,hk,ha,rfl,rfl,h17⟩ KL17 hKL17
 refine mAt ?_
 refine m_if 48 ((k:Int)<4) (by kernel_rfl) (fun b20=>?_) (fun b20=>?_)
 ·
  have hkn:k<4:=by omega
  have hku:k<s.size:=by omega
  have hu:=nb_lt (gb s.data.toList k)
  refine mW 53 (v:=(iV .u8 (ub (gb s.data.toList k)))) (e_sidx 9 (.tmp 51) (.tmp 52) (by kernel_rfl) s .i64 k (by kernel_rfl) (by kernel_rfl) (by kernel_rfl) (by omega) _) ?_
  refine mX 54 (zD ((nb (gb s.data.toList k):Int))) (zD (IntKind.i64.wrap (ub (gb s.data.toList k)))) (i64_ubN _) ?_
  rcases (by omega:nb (gb s.data.toList k)<128∨(128<=nb (gb s.data.toList k)/\191<nb (gb s.data.toList k))∨(128<=nb (gb s.data.toList k)/\nb (gb s.data.toList k)<=191)) with hq|hq|hq
  ·
   refine mX 56 (.bool true) (bV (decide ((nb (gb s.data.toList k):Int)<128))) (by simp;omega) ?_
   refine mP (Value.tuple #[(zD (-1)),(zD 1)]) ?_
   exact ⟨_,_,rfl,rnp_no (by omega) (by omega) (by omega),h17.below0⟩
  ·
   refine mX 56 (.bool false) (bV (decide ((nb (gb s.data.toList k):Int)<128))) (by simp;omega) ?_
   refine mX 59 (.bool true) (bV (decide ((nb (gb s.data.toList k):Int)>191))) (by simp;omega) ?_
   refine mP (Value.tuple #[(zD (-1)),(zD 1)]) ?_
   exact ⟨_,_,rfl,rnp_no (by omega) (by omega) (by omega),h17.below0⟩
  refine mX 56 (.bool false) (bV (decide ((nb (gb s.data.toList k):Int)<128))) (by simp;omega) ?_
  refine mX 59 (.bool false) (bV (decide ((nb (gb s.data.toList k):Int)>191))) (by simp;omega) ?_
  have hsmall:a<=65535:=by omega
  obtain ⟨u,hu2⟩:∃ u,u=nb (gb s.data.toList k):=⟨_,rfl⟩
  refine mW 62 (v:=(zD (((a*64:Nat):Int)))) (exec_mulM _ _ _ _ bO a 64 (by kernel_rfl) (by kernel_rfl) (a*64) rfl (by omega) _) ?_
  refine mW 64 (exec_add _ _ _ _ bO (((a*64:Nat):Int)) ((nb (gb s.data.toList k):Int)) (by kernel_rfl) (by kernel_rfl) (((a*64+u:Nat):Int)) (by omega) (by omega) (by omega) _) ?_
  refine mW 65 (exec_sub _ _ _ _ bO (((a*64+u:Nat):Int)) 128 (by kernel_rfl) (by kernel_rfl) (((a*64+u-128:Nat):Int)) (by omega) (by omega) (by omega) _) ?_
  refine mW 50 (exec_add _ _ _ _ bO ((k:Int)) 1 (by kernel_rfl) (by kernel_rfl) (((k+1:Nat):Int)) (by omega) (by omega) (by omega) _) ?_
  exact mK KL17 (hKL17 _ _ ⟨4-(k+1),_,(by omega),((k+1)),((a*64+u-128)),(by omega),(by omega),rfl,pM,h17.sel [] [] (by kernel_rfl) rfl rfl⟩)
 rcases (by omega:a<65536∨(65536<=a/\1114111<a)∨(65536<=a/\a<=1114111/\a<55296)∨(65536<=a/\a<=1114111/\55296<=a/\a<=57343)∨(65536<=a/\a<=1114111/\57343<a)) with hz|hz|hz|hz|hz
 ·
  refine mX 68 (.bool true) (bV (decide ((a:Int)<65536))) (by simp;omega) ?_
  refine mP (Value.tuple #[(zD (-1)),(zD 1)]) ?_
  exact ⟨_,_,rfl,rnp_no (by omega) (by omega) (by omega),h17.below0⟩
 ·
  refine mX 68 (.bool false) (bV (decide ((a:Int)<65536))) (by simp;omega) ?_
  refine mX 71 (.bool true) (bV (decide ((a:Int)>1114111))) (by simp;omega) ?_
  refine mP (Value.tuple #[(zD (-1)),(zD 1)]) ?_
  exact ⟨_,_,rfl,rnp_no (by omega) (by omega) (by omega),h17.below0⟩
 ·
  refine mX 68 (.bool false) (bV (decide ((a:Int)<65536))) (by simp;omega) ?_
  refine mX 71 (.bool false) (bV (decide ((a:Int)>1114111))) (by simp;omega) ?_
  refine mX 75 (.bool false) (bV (decide ((a:Int) ≥ 55296))) (by simp;omega) ?_
  refine mP (Value.tuple #[(zD ((a:Int))),(zD 4)]) ?_
  exact ⟨_,_,rfl,rnp_no (by omega) (by omega) (by omega),h17.below0⟩
 ·
  refine mX 68 (.bool false) (bV (decide ((a:Int)<65536))) (by simp;omega) ?_
  refine mX 71 (.bool false) (bV (decide ((a:Int)>1114111))) (by simp;omega) ?_
  refine mX 75 (.bool true) (bV (decide ((a:Int) ≥ 55296))) (by simp;omega) ?_
  refine mX 78 (.bool true) (bV (decide ((a:Int)<=57343))) (by simp;omega) ?_
  refine mP (Value.tuple #[(zD (-1)),(zD 1)]) ?_
  exact ⟨_,_,rfl,rnp_no (by omega) (by omega) (by omega),h17.below0⟩
 refine mX 68 (.bool false) (bV (decide ((a:Int)<65536))) (by simp;omega) ?_
 refine mX 71 (.bool false) (bV (decide ((a:Int)>1114111))) (by simp;omega) ?_
 refine mX 75 (.bool true) (bV (decide ((a:Int) ≥ 55296))) (by simp;omega) ?_
 refine mX 78 (.bool false) (bV (decide ((a:Int)<=57343))) (by simp;omega) ?_
 refine mP (Value.tuple #[(zD ((a:Int))),(zD 4)]) ?_
 exact ⟨_,_,rfl,rnp_no (by omega) (by omega) (by omega),h17.below0⟩
theorem rune_0(s:ByteArray)(hs0:0<s.size)(hx0:(128<=nb (gb s.data.toList 0)/\nb (gb s.data.toList 0)<=193)∨245<=nb (gb s.data.toList 0))(w:World):Calls Tryz.prog 35 #[.string s] w (RnPost w s.data.toList):=by
 have hb0:=nb_lt (gb s.data.toList 0)
 have hsl:s.data.toList.length=s.size:=by simp
 have h0:=Hp.nil (fun _=>False) w
 refine mE 83 ?_
 refine mW 10 (v:=(iV .u8 (ub (gb s.data.toList 0)))) (e_sidx 9 (.tmp 9) (.const zO) (by kernel_rfl) s .i64 0 (by kernel_rfl) (by kernel_rfl) (by kernel_rfl) (by omega) _) ?_
 refine mX 11 (zD ((nb (gb s.data.toList 0):Int))) (zD (IntKind.i64.wrap (ub (gb s.data.toList 0)))) (i64_ubN _) ?_
 refine mX 13 (.bool false) (bV (decide ((nb (gb s.data.toList 0):Int)<128))) (by simp;omega) ?_
 rcases hx0 with hx1|hx1
 ·
  refine mX 17 (.bool false) (bV (decide ((nb (gb s.data.toList 0):Int) ≥ 194))) (by simp;omega) ?_
  refine mX 26 (.bool false) (bV (decide ((nb (gb s.data.toList 0):Int) ≥ 224))) (by simp;omega) ?_
  refine mX 35 (.bool false) (bV (decide ((nb (gb s.data.toList 0):Int) ≥ 240))) (by simp;omega) ?_
  refine mP (Value.tuple #[(zD (-1)),(zD 1)]) ?_
  exact ⟨_,_,rfl,rnp_no (by omega) (by omega) (by omega),h0.below0⟩
 refine mX 17 (.bool true) (bV (decide ((nb (gb s.data.toList 0):Int) ≥ 194))) (by simp;omega) ?_
 refine mX 20 (.bool false) (bV (decide ((nb (gb s.data.toList 0):Int)<=223))) (by simp;omega) ?_
 refine mX 26 (.bool true) (bV (decide ((nb (gb s.data.toList 0):Int) ≥ 224))) (by simp;omega) ?_
 refine mX 29 (.bool false) (bV (decide ((nb (gb s.data.toList 0):Int)<=239))) (by simp;omega) ?_
 refine mX 35 (.bool true) (bV (decide ((nb (gb s.data.toList 0):Int) ≥ 240))) (by simp;omega) ?_
 refine mX 38 (.bool false) (bV (decide ((nb (gb s.data.toList 0):Int)<=244))) (by simp;omega) ?_
 refine mP (Value.tuple #[(zD (-1)),(zD 1)]) ?_
 exact ⟨_,_,rfl,rnp_no (by omega) (by omega) (by omega),h0.below0⟩
theorem rune_any(s:ByteArray)(hs0:0<s.size)(hs:s.size<=1000000000)(w:World):Calls Tryz.prog 35 #[.string s] w (RnPost w s.data.toList):=by
 have hb0:=nb_lt (gb s.data.toList 0)
 rcases (by omega:nb (gb s.data.toList 0)<128∨(194<=nb (gb s.data.toList 0)/\nb (gb s.data.toList 0)<=223)∨(224<=nb (gb s.data.toList 0)/\nb (gb s.data.toList 0)<=239)∨(240<=nb (gb s.data.toList 0)/\nb (gb s.data.toList 0)<=244)∨((128<=nb (gb s.data.toList 0)/\nb (gb s.data.toList 0)<=193)∨245<=nb (gb s.data.toList 0))) with h|h|h|h|h
 · exact rune_1 s hs0 h w
 · exact rune_2 s hs0 hs h w
 · exact rune_3 s hs0 hs h w
 · exact rune_4 s hs0 hs h w
 exact rune_0 s hs0 h w
end
section
open Go.RowKit Go.QT
theorem runeL_len{l:Bytes}{c m:Nat}(h:runeL l=some (c,m))(h0:0<l.length):1<=m/\m<=2/\m<=l.length/\c<2048:=by
 have hb:=nb_lt (gb l 0)
 unfold runeL at h
 split at h
 · injection h with h;injection h with h1 h2;subst h1;subst h2;omega
 split at h
 · injection h with h;injection h with h1 h2;subst h1;subst h2;omega
 cases h
theorem letter_out{r:Int}(h:r = -1∨2048<=r):letterN r=false:=by
 unfold letterN inR ltrL;simp;omega
theorem dig_eq(c:Int):inR c digL=(decide (48<=c/\c<=57) || decide (c=45)):=by
 unfold inR digL
 rw [Bool.eq_iff_iff]
 simp
 omega
theorem right_ways{l:Bytes}{r k:Int}(h:RnP l r k)(i:Nat) :
   (runeL l=none/\letterN r=false/\i=0)∨(runeL l=none/\letterN r=false/\i≠0/\r = -1)∨(runeL l=none/\letterN r=false/\i≠0/\2048<=r)∨(∃ c m:Nat,runeL l=some (c,m)/\r=c/\k=m/\letterN r=true) ∨
   (∃ c m:Nat,runeL l=some (c,m)/\r=c/\k=m/\letterN r=false/\i=0)∨(∃ c m:Nat,runeL l=some (c,m)/\r=c/\k=m/\letterN r=false/\i≠0/\r=45)∨(∃ c m:Nat,runeL l=some (c,m)/\r=c/\k=m/\letterN r=false/\i≠0/\r≠45/\r<48) ∨
   (∃ c m:Nat,runeL l=some (c,m)/\r=c/\k=m/\letterN r=false/\i≠0/\r≠45/\57<r)∨(∃ c m:Nat,runeL l=some (c,m)/\r=c/\k=m/\letterN r=false/\i≠0/\r≠45/\48<=r/\r<=57):=by
 unfold RnP at h
 rcases hr:runeL l with _|⟨c,m⟩
 · rw [hr] at h
   have hl:=letter_out h.1
   by_cases hi:i=0
   · exact .inl ⟨rfl,hl,hi⟩
   rcases h.1 with h1|h1
   · exact .inr (.inl ⟨rfl,hl,hi,h1⟩)
   exact .inr (.inr (.inl ⟨rfl,hl,hi,h1⟩))
 rw [hr] at h
 obtain ⟨h1,h2⟩:=h
 refine .inr (.inr (.inr ?_))
 rcases hl:letterN r with _|_
 · refine .inr ?_
   by_cases hi:i=0
   · exact .inl ⟨c,m,rfl,h1,h2,rfl,hi⟩
   by_cases h45:r=45
   · exact .inr (.inl ⟨c,m,rfl,h1,h2,rfl,hi,h45⟩)
   by_cases h48:r<48
   · exact .inr (.inr (.inl ⟨c,m,rfl,h1,h2,rfl,hi,h45,h48⟩))
   by_cases h57:57<r
   · exact .inr (.inr (.inr (.inl ⟨c,m,rfl,h1,h2,rfl,hi,h45,h57⟩)))
   exact .inr (.inr (.inr (.inr ⟨c,m,rfl,h1,h2,rfl,hi,h45,by omega,by omega⟩)))
 exact .inl ⟨c,m,rfl,h1,h2,rfl⟩
section
variable{s:ByteArray}{f i n:Nat}(hinv:runesN s (s.size+1) 0 0=runesN s (f+1) i n)(hi:i<s.size)
include hinv hi
theorem rg_none(h:runeL (s.data.toList.drop i)=none):rightN s=false:=by
 have hd:=decode_is s i hi
 rw [h] at hd
 refine rightN_none (hinv.trans (runesN_bad rfl hi ?_))
 unfold badN
 have h1:letterN ((Utf8.decode s i).1:Int)=false:=letter_out (.inr (by omega))
 have h2:inR ((Utf8.decode s i).1:Int) digL=false:=by rw [dig_eq];simp;omega
 rw [h1,h2];simp
theorem rg_bad{c m:Nat}(h:runeL (s.data.toList.drop i)=some (c,m))(hl:letterN (c:Int)=false)(hb:i=0∨(c≠45/\(c<48∨57<c))):rightN s=false:=by
 have hd:=decode_is s i hi
 rw [h] at hd
 refine rightN_none (hinv.trans (runesN_bad rfl hi ?_))
 unfold badN
 rw [hd,hl,dig_eq]
 rcases hb with hb|hb
 · simp [hb]
 simp
 right
 omega
theorem rg_go{c m:Nat}(h:runeL (s.data.toList.drop i)=some (c,m))(hb:letterN (c:Int)=true∨(i≠0/\(c=45∨(48<=c/\c<=57)))):runesN s (s.size+1) 0 0=runesN s f (i+m) (n+1):=by
 have hd:=decode_is s i hi
 rw [h] at hd
 have h2:badN i (Utf8.decode s i).1=false:=by
   unfold badN
   rw [hd]
   rcases hb with hb|hb
   · rw [hb];rfl
   have e:inR (((c,m):Nat × Nat).1:Int) digL=true:=by rw [dig_eq];simp;omega
   rw [e]
   simp [hb.1]
 have:=runesN_go (s:=s) (f:=f) (pos:=i) (n:=n) rfl hi h2
 rw [hd] at this
 exact hinv.trans this.symm
end
theorem x_rune{o:Oper}{a:Act}{F0:Nat->Prop}{w0 w:World}{ro rs:List Res}(h:Hp F0 w0 w ro rs)(s:ByteArray)(hp:pureVal Tryz.prog (execOp a.eval o)=some (.enter 35 #[.string s]))(h0:0<s.size)(hs:s.size<=1000000000) :
   OpTo Tryz.prog o a w (fun u w'=>∃ r k,u=.tuple #[.int .i64 r,.int .i64 k]/\RnP s.data.toList r k/\Hp F0 w0 w' ro rs):=
 OpTo.enter 35 [.string s] hp (rune_any s h0 hs w) fun _ _ ⟨r,k,he,hr,hb⟩=>⟨_,he,r,k,rfl,hr,h.below hb⟩
theorem rnp_bd{l:Bytes}{r k:Int}(h:RnP l r k)(h0:0<l.length):-1<=r/\r<=5000000:=by
 unfold RnP at h
 rcases hr:runeL l with _|⟨c,m⟩
 · rw [hr] at h;omega
 rw [hr] at h
 have:=runeL_len hr h0
 omega
theorem rright_any(s:ByteArray)(hs:s.size<=1000000000)(w:World):Calls Tryz.prog 19 #[.string s] w (DPost w (.bool (rightN s))):=by
 have h0:=Hp.nil (fun _=>False) w
 refine mE 48 ?_
 refine mL (fun mM xX aA wL=>∃ (f:Nat) (i:Nat) (n:Nat),(i<=s.size)/\(s.size<i+f)/\(n<=i)/\(runesN s (s.size+1) 0 0=runesN s f i n)/\mM=s.size-i/\aA=patch xX 48 [(0,(Value.string s)),(3,(Value.int .i64 ((n:Int)))),(4,(Value.int .i64 ((i:Int))))]/\Hp (fun _=>False) w wL [] []) ⟨_,_,((s.size+1)),0,0,(Nat.zero_le _),(by omega),(by omega),rfl,rfl,pM,h0.sel [] [] (by kernel_rfl) rfl rfl⟩ ?_
 rintro _ x5 _ w5 ⟨f,i,n,hi,hf,hn,hinv,rfl,rfl,h5⟩ KL5 hKL5
 refine mAt ?_
 refine m_if 10 ((i:Int)<((s).size:Int)) (by kernel_rfl) (fun b8=>?_) (fun b8=>?_)
 ·
  have hlt:i<s.size:=by omega
  obtain ⟨f,rfl⟩:∃ g,f=g+1:=⟨f-1,by omega⟩
  have hdl:(s.data.toList.drop i).length=s.size-i:=by simp
  refine mW 16 (v:=(Value.string (tlS s i))) (e_scut 9 (.tmp 14) (.tmp 15) (by kernel_rfl) s .i64 i (by kernel_rfl) (by kernel_rfl) (by kernel_rfl) hi _) ?_
  refine mT (x_rune h5 (tlS s i) (by kernel_rfl) (by rw [tlS_size];omega) (by rw [tlS_size];omega)) ?_
  rintro _ w11 ⟨r11,k11,rfl,hr11,h11⟩
  rw [tlS_list] at hr11
  have hrb11:=rnp_bd hr11 (by omega)
  rcases right_ways hr11 i with ⟨q1,q2,q3⟩|⟨q1,q2,q3,q4⟩|⟨q1,q2,q3,q4⟩|⟨c,m,q1,q2,q3,q4⟩|⟨c,m,q1,q2,q3,q4,q5⟩|⟨c,m,q1,q2,q3,q4,q5,q6⟩|⟨c,m,q1,q2,q3,q4,q5,q6,q7⟩|⟨c,m,q1,q2,q3,q4,q5,q6,q7⟩|⟨c,m,q1,q2,q3,q4,q5,q6,q7,q8⟩
  ·
   refine mT (x_dp (v:=.bool false) h11 36 [(Value.int .i64 r11),(Value.int .i64 0)] (by kernel_rfl) (q2 ▸ rletter_any _ (by omega) (by omega) _)) ?_
   rintro _ w15 ⟨rfl,h15⟩
   refine mX 25 (.bool true) (Value.bool (((i:Int)) == 0)) (by simp;omega) ?_
   exact mQe (Value.bool false) h15 (by rw [rg_none hinv hlt q1])
  ·
   refine mT (x_dp (v:=.bool false) h11 36 [(Value.int .i64 r11),(Value.int .i64 0)] (by kernel_rfl) (q2 ▸ rletter_any _ (by omega) (by omega) _)) ?_
   rintro _ w17 ⟨rfl,h17⟩
   refine mX 25 (.bool false) (Value.bool (((i:Int)) == 0)) (by simp;omega) ?_
   refine mX 28 (.bool true) (Value.bool (r11 != 45)) (by simp;omega) ?_
   refine mX 31 (.bool true) (Value.bool (decide (r11<48))) (by simp;omega) ?_
   exact mQe (Value.bool false) h17 (by rw [rg_none hinv hlt q1])
  ·
   refine mT (x_dp (v:=.bool false) h11 36 [(Value.int .i64 r11),(Value.int .i64 0)] (by kernel_rfl) (q2 ▸ rletter_any _ (by omega) (by omega) _)) ?_
   rintro _ w19 ⟨rfl,h19⟩
   refine mX 25 (.bool false) (Value.bool (((i:Int)) == 0)) (by simp;omega) ?_
   refine mX 28 (.bool true) (Value.bool (r11 != 45)) (by simp;omega) ?_
   refine mX 31 (.bool false) (Value.bool (decide (r11<48))) (by simp;omega) ?_
   refine mX 34 (.bool true) (Value.bool (decide (r11>57))) (by simp;omega) ?_
   exact mQe (Value.bool false) h19 (by rw [rg_none hinv hlt q1])
  ·
   refine mT (x_dp (v:=.bool true) h11 36 [(Value.int .i64 r11),(Value.int .i64 0)] (by kernel_rfl) (q4 ▸ rletter_any _ (by omega) (by omega) _)) ?_
   rintro _ w21 ⟨rfl,h21⟩
   have hm:=runeL_len q1 (by omega)
   rw [hdl] at hm
   have hgo:=rg_go hinv hlt q1 (.inl (by rw [← q2];exact q4))
   refine mW 41 (exec_add _ _ _ _ bO ((i:Int)) k11 (by kernel_rfl) (by kernel_rfl) (((i+m:Nat):Int)) (by omega) (by omega) (by omega) _) ?_
   refine mW 12 (exec_add _ _ _ _ bO ((n:Int)) 1 (by kernel_rfl) (by kernel_rfl) (((n+1:Nat):Int)) (by omega) (by omega) (by omega) _) ?_
   exact mK KL5 (hKL5 _ _ ⟨s.size-((i+m)),_,(by omega),f,((i+m)),((n+1)),(by omega),(by omega),(by omega),hgo,rfl,pM,h21.sel [] [] (by kernel_rfl) rfl rfl⟩)
  ·
   refine mT (x_dp (v:=.bool false) h11 36 [(Value.int .i64 r11),(Value.int .i64 0)] (by kernel_rfl) (q4 ▸ rletter_any _ (by omega) (by omega) _)) ?_
   rintro _ w22 ⟨rfl,h22⟩
   refine mX 25 (.bool true) (Value.bool (((i:Int)) == 0)) (by simp;omega) ?_
   exact mQe (Value.bool false) h22 (by rw [rg_bad hinv hlt q1 (by rw [← q2];exact q4) (by omega)])
  ·
   refine mT (x_dp (v:=.bool false) h11 36 [(Value.int .i64 r11),(Value.int .i64 0)] (by kernel_rfl) (q4 ▸ rletter_any _ (by omega) (by omega) _)) ?_
   rintro _ w24 ⟨rfl,h24⟩
   refine mX 25 (.bool false) (Value.bool (((i:Int)) == 0)) (by simp;omega) ?_
   refine mX 28 (.bool false) (Value.bool (r11 != 45)) (by simp;omega) ?_
   have hm:=runeL_len q1 (by omega)
   rw [hdl] at hm
   have hgo:=rg_go hinv hlt q1 (.inr ⟨q5,by omega⟩)
   refine mW 41 (exec_add _ _ _ _ bO ((i:Int)) k11 (by kernel_rfl) (by kernel_rfl) (((i+m:Nat):Int)) (by omega) (by omega) (by omega) _) ?_
   refine mW 12 (exec_add _ _ _ _ bO ((n:Int)) 1 (by kernel_rfl) (by kernel_rfl) (((n+1:Nat):Int)) (by omega) (by omega) (by omega) _) ?_
   exact mK KL5 (hKL5 _ _ ⟨s.size-((i+m)),_,(by omega),f,((i+m)),((n+1)),(by omega),(by omega),(by omega),hgo,rfl,pM,h24.sel [] [] (by kernel_rfl) rfl rfl⟩)
  ·
   refine mT (x_dp (v:=.bool false) h11 36 [(Value.int .i64 r11),(Value.int .i64 0)] (by kernel_rfl) (q4 ▸ rletter_any _ (by omega) (by omega) _)) ?_
   rintro _ w25 ⟨rfl,h25⟩
   refine mX 25 (.bool false) (Value.bool (((i:Int)) == 0)) (by simp;omega) ?_
   refine mX 28 (.bool true) (Value.bool (r11 != 45)) (by simp;omega) ?_
   refine mX 31 (.bool true) (Value.bool (decide (r11<48))) (by simp;omega) ?_
   exact mQe (Value.bool false) h25 (by rw [rg_bad hinv hlt q1 (by rw [← q2];exact q4) (by omega)])
  ·
   refine mT (x_dp (v:=.bool false) h11 36 [(Value.int .i64 r11),(Value.int .i64 0)] (by kernel_rfl) (q4 ▸ rletter_any _ (by omega) (by omega) _)) ?_
   rintro _ w27 ⟨rfl,h27⟩
   refine mX 25 (.bool false) (Value.bool (((i:Int)) == 0)) (by simp;omega) ?_
   refine mX 28 (.bool true) (Value.bool (r11 != 45)) (by simp;omega) ?_
   refine mX 31 (.bool false) (Value.bool (decide (r11<48))) (by simp;omega) ?_
   refine mX 34 (.bool true) (Value.bool (decide (r11>57))) (by simp;omega) ?_
   exact mQe (Value.bool false) h27 (by rw [rg_bad hinv hlt q1 (by rw [← q2];exact q4) (by omega)])
  refine mT (x_dp (v:=.bool false) h11 36 [(Value.int .i64 r11),(Value.int .i64 0)] (by kernel_rfl) (q4 ▸ rletter_any _ (by omega) (by omega) _)) ?_
  rintro _ w29 ⟨rfl,h29⟩
  refine mX 25 (.bool false) (Value.bool (((i:Int)) == 0)) (by simp;omega) ?_
  refine mX 28 (.bool true) (Value.bool (r11 != 45)) (by simp;omega) ?_
  refine mX 31 (.bool false) (Value.bool (decide (r11<48))) (by simp;omega) ?_
  refine mX 34 (.bool false) (Value.bool (decide (r11>57))) (by simp;omega) ?_
  have hm:=runeL_len q1 (by omega)
  rw [hdl] at hm
  have hgo:=rg_go hinv hlt q1 (.inr ⟨q5,by omega⟩)
  refine mW 41 (exec_add _ _ _ _ bO ((i:Int)) k11 (by kernel_rfl) (by kernel_rfl) (((i+m:Nat):Int)) (by omega) (by omega) (by omega) _) ?_
  refine mW 12 (exec_add _ _ _ _ bO ((n:Int)) 1 (by kernel_rfl) (by kernel_rfl) (((n+1:Nat):Int)) (by omega) (by omega) (by omega) _) ?_
  exact mK KL5 (hKL5 _ _ ⟨s.size-((i+m)),_,(by omega),f,((i+m)),((n+1)),(by omega),(by omega),(by omega),hgo,rfl,pM,h29.sel [] [] (by kernel_rfl) rfl rfl⟩)
 rcases (by omega:n=0∨(1<=n/\n<=16)∨(1<=n/\16<n)) with hz|hz|hz
 ·
  refine mX 43 (.bool false) (Value.bool (decide ((n:Int) ≥ 1))) (by simp;omega) ?_
  exact mQe (Value.bool false) h5 (by rw [rightN_some (hinv.trans (runesN_end rfl (by omega)))];simp;omega)
 ·
  refine mX 43 (.bool true) (Value.bool (decide ((n:Int) ≥ 1))) (by simp;omega) ?_
  refine mX 46 (.bool true) (Value.bool (decide ((n:Int)<=16))) (by simp;omega) ?_
  exact mQe (Value.bool true) h5 (by rw [rightN_some (hinv.trans (runesN_end rfl (by omega)))];simp;omega)
 refine mX 43 (.bool true) (Value.bool (decide ((n:Int) ≥ 1))) (by simp;omega) ?_
 refine mX 46 (.bool false) (Value.bool (decide ((n:Int)<=16))) (by simp;omega) ?_
 exact mQe (Value.bool false) h5 (by rw [rightN_some (hinv.trans (runesN_end rfl (by omega)))];simp;omega)
theorem rnear_any(now t:Int)(w:World):Calls Tryz.prog 20 #[.int .i64 now,.int .i64 t] w (DPost w (.bool (nearF now t))):=by
 have h0:=Hp.nil (fun _=>False) w
 refine mE 31 ?_
 rcases (by omega:t<0∨(0<=t/\1099511627776<t)∨(0<=t/\t<=1099511627776/\now<0)∨(0<=t/\t<=1099511627776/\0<=now/\1099511627776<now)∨(0<=t/\t<=1099511627776/\0<=now/\now<=1099511627776/\30<now-t)∨(0<=t/\t<=1099511627776/\0<=now/\now<=1099511627776/\now-t<=30/\30<t-now)∨(0<=t/\t<=1099511627776/\0<=now/\now<=1099511627776/\now-t<=30/\t-now<=30)) with hq|hq|hq|hq|hq|hq|hq
 ·
  refine mX 6 (.bool false) (Value.bool (decide (t ≥ 0))) (by simp;omega) ?_
  exact mQe (Value.bool false) h0 (by rw [show nearF now t=false from decide_eq_false (by omega)])
 ·
  refine mX 6 (.bool true) (Value.bool (decide (t ≥ 0))) (by simp;omega) ?_
  refine mX 9 (.bool false) (Value.bool (decide (t<=1099511627776))) (by simp;omega) ?_
  exact mQe (Value.bool false) h0 (by rw [show nearF now t=false from decide_eq_false (by omega)])
 ·
  refine mX 6 (.bool true) (Value.bool (decide (t ≥ 0))) (by simp;omega) ?_
  refine mX 9 (.bool true) (Value.bool (decide (t<=1099511627776))) (by simp;omega) ?_
  refine mX 13 (.bool false) (Value.bool (decide (now ≥ 0))) (by simp;omega) ?_
  exact mQe (Value.bool false) h0 (by rw [show nearF now t=false from decide_eq_false (by omega)])
 ·
  refine mX 6 (.bool true) (Value.bool (decide (t ≥ 0))) (by simp;omega) ?_
  refine mX 9 (.bool true) (Value.bool (decide (t<=1099511627776))) (by simp;omega) ?_
  refine mX 13 (.bool true) (Value.bool (decide (now ≥ 0))) (by simp;omega) ?_
  refine mX 17 (.bool false) (Value.bool (decide (now<=1099511627776))) (by simp;omega) ?_
  exact mQe (Value.bool false) h0 (by rw [show nearF now t=false from decide_eq_false (by omega)])
 ·
  refine mX 6 (.bool true) (Value.bool (decide (t ≥ 0))) (by simp;omega) ?_
  refine mX 9 (.bool true) (Value.bool (decide (t<=1099511627776))) (by simp;omega) ?_
  refine mX 13 (.bool true) (Value.bool (decide (now ≥ 0))) (by simp;omega) ?_
  refine mX 17 (.bool true) (Value.bool (decide (now<=1099511627776))) (by simp;omega) ?_
  refine mW 22 (exec_sub _ _ _ _ bO now t (by kernel_rfl) (by kernel_rfl) (now-t) rfl (by omega) (by omega) _) ?_
  refine mX 23 (.bool false) (Value.bool (decide (now-t<=30))) (by simp;omega) ?_
  exact mQe (Value.bool false) h0 (by rw [show nearF now t=false from decide_eq_false (by omega)])
 ·
  refine mX 6 (.bool true) (Value.bool (decide (t ≥ 0))) (by simp;omega) ?_
  refine mX 9 (.bool true) (Value.bool (decide (t<=1099511627776))) (by simp;omega) ?_
  refine mX 13 (.bool true) (Value.bool (decide (now ≥ 0))) (by simp;omega) ?_
  refine mX 17 (.bool true) (Value.bool (decide (now<=1099511627776))) (by simp;omega) ?_
  refine mW 22 (exec_sub _ _ _ _ bO now t (by kernel_rfl) (by kernel_rfl) (now-t) rfl (by omega) (by omega) _) ?_
  refine mX 23 (.bool true) (Value.bool (decide (now-t<=30))) (by simp;omega) ?_
  refine mW 28 (exec_sub _ _ _ _ bO t now (by kernel_rfl) (by kernel_rfl) (t-now) rfl (by omega) (by omega) _) ?_
  refine mX 29 (.bool false) (Value.bool (decide (t-now<=30))) (by simp;omega) ?_
  exact mQe (Value.bool false) h0 (by rw [show nearF now t=false from decide_eq_false (by omega)])
 refine mX 6 (.bool true) (Value.bool (decide (t ≥ 0))) (by simp;omega) ?_
 refine mX 9 (.bool true) (Value.bool (decide (t<=1099511627776))) (by simp;omega) ?_
 refine mX 13 (.bool true) (Value.bool (decide (now ≥ 0))) (by simp;omega) ?_
 refine mX 17 (.bool true) (Value.bool (decide (now<=1099511627776))) (by simp;omega) ?_
 refine mW 22 (exec_sub _ _ _ _ bO now t (by kernel_rfl) (by kernel_rfl) (now-t) rfl (by omega) (by omega) _) ?_
 refine mX 23 (.bool true) (Value.bool (decide (now-t<=30))) (by simp;omega) ?_
 refine mW 28 (exec_sub _ _ _ _ bO t now (by kernel_rfl) (by kernel_rfl) (t-now) rfl (by omega) (by omega) _) ?_
 refine mX 29 (.bool true) (Value.bool (decide (t-now<=30))) (by simp;omega) ?_
 exact mQe (Value.bool true) h0 (by rw [show nearF now t=true from decide_eq_true (by omega)])
end
section
open Go.RowKit Go.QT
section
variable{o:Oper}{a:Act}{F0 F:Nat->Prop}{w0 w w':World}{ro rs:List Res}{tb:Nat}{s:STab}
theorem x_knew(h:Hp F0 w0 w ro rs)(i:Nat)(hi:rs[i]?=some (rTab F tb s))(hs:Room 5 s)(hp:pureVal Tryz.prog (execOp a.eval o)=some (.enter 40 #[.iface 28 (pt tb 0)])) :
   OpTo Tryz.prog o a w (fun u w'=>∃ kb G bb F' K s',u=pt kb 0/\kl K=mkB 107 (s.keys.length+1)/\s'=s.add SFrom.fresh/\Hp F0 w0 w' ro (rBlk kb 78 (kdcC tb bb K)::rBs G bb []::rTab F' tb s'::rs.eraseIdx i)):=
 OpTo.enter 40 [.iface 28 (pt tb 0)] hp (knew_any (h.at_ i hi) hs) fun _ _ ⟨kb,G,bb,F',K,he,hK,hh⟩=>⟨_,he,kb,G,bb,F',K,_,rfl,hK,rfl,h.call1 i hi hh⟩
/-- Enrol. -/
theorem x_enrol{G:Nat->Prop}{bb:Nat}{us us':List User}{f:SFrom}{er:Int}(h:Hp F0 w0 w ro rs)(i j:Nat)(hi:rs[i]?=some (rTab F tb s))(hj:rs[j]?=some (rBs G bb us))(hij:decide (i≠j)=true)(al:List Value)(hp:pureVal Tryz.prog (execOp a.eval o)=some (.enter 26 al.toArray))
   (hc:Calls Tryz.prog 26 al.toArray w (fun e w'=>e=.returned (.int .i64 er)/\∃ F' G',Hp (fun q=>F q∨G q) w w' [] [rTab F' tb (s.made f),rBs G' bb us'])) :
   OpTo Tryz.prog o a w (fun u w'=>∃ F' G' s',u=.int .i64 er/\s'=s.made f/\Hp F0 w0 w' ro ((rs.set i (rTab F' tb s')).set j (rBs G' bb us'))):=
 OpTo.enter 26 al hp hc fun _ _ ⟨he,F',G',hh⟩=>⟨_,he,F',G',_,rfl,rfl,h.upd2 i j hi hj (of_decide_eq_true hij) hh⟩
/-- As, where it gives. -/
theorem x_asY{s2:STab}{nm:ByteArray}{m1 m2:Bytes}(h:Hp F0 w0 w ro rs)(i:Nat)(hi:rs[i]?=some (rTab F tb s))(al:List Value)(hp:pureVal Tryz.prog (execOp a.eval o)=some (.enter 45 al.toArray))
   (hc:Calls Tryz.prog 45 al.toArray w (fun e w'=>∃ A1 c1 A2 c2 F',e=.returned (.tuple #[.agg #[.string nm,.string ⟨#[107,100,99]⟩,.slice A1 16 c1,.slice A2 16 c2],.int .i64 0])/\Hp F w w' [] [rTab F' tb s2,rSB (.slice A1 16 c1) m1,rSB (.slice A2 16 c2) m2])) :
   OpTo Tryz.prog o a w (fun u w'=>∃ A1 c1 A2 c2 F' s',u=.tuple #[.agg #[.string nm,.string ⟨#[107,100,99]⟩,.slice A1 16 c1,.slice A2 16 c2],.int .i64 0]/\s'=s2/\Hp F0 w0 w' ro (rTab F' tb s'::rSB (.slice A1 16 c1) m1::rSB (.slice A2 16 c2) m2::rs.eraseIdx i)):=
 OpTo.enter 45 al hp hc fun _ _ ⟨A1,c1,A2,c2,F',he,hh⟩=>⟨_,he,A1,c1,A2,c2,F',_,rfl,rfl,h.call1 i hi hh⟩
end
end
section
open Go.RowKit Go.QT
section
variable{o:Oper}{a:Act}{F0 F:Nat->Prop}{w0 w:World}{ro rs:List Res}
theorem e_maxI(x y:Operand)(ts:Array TypeId)(ho:o.op=.call { callee:=.builtin .max,args:=#[x,y],argTypes:=ts })(k k':IntKind)(m n:Int)(hx:a.eval x=.int k m)(hy:a.eval y=.int k' n)(r:Int)(hr:(if n>m then n else m)=r)(W:World) :
   (execOp a.eval o).run Tryz.prog W=.ok (.value (.int k r)) W:=by
 subst hr
 unfold execOp
 simp only [ho,resolve,invoke,builtin,Sem.run_bind,Sem.run_pure,Result.andThen_ok,List.map_toArray,List.map_cons,List.map_nil,hx,hy,run_max_int2]
theorem x_makeBk(h:Hp F0 w0 w ro rs)(ho:o.op=.makeMap 162 none) :
   OpTo Tryz.prog o a w (fun v w'=>∃ mb,v=.map (some mb)/\Hp F0 w0 w' ro rs):=by
 refine OpTo.run (.map (some w.heap.size)) (w':=w.alloc (.map #[] 0)) ?_ ⟨_,rfl,h.below ((Below.refl _ _).alloc (Nat.le_refl _) _)⟩
 have h1:(Instr.makeMap 162 none).run Tryz.prog w=.ok (.map (some w.heap.size)) (w.alloc (.map #[] 0)):=rfl
 unfold execOp
 simp only [ho,Option.map_none,Sem.run_bind,h1,Result.andThen_ok,Sem.run_pure]
theorem x_cnew(h:Hp F0 w0 w ro rs)(hp:pureVal Tryz.prog (execOp a.eval o)=some (.enter 41 #[.int .i64 64]))(hc:Calls Tryz.prog 41 #[.int .i64 64] w (fun e w'=>∃ G cb,e=.returned (pt cb 0)/\Hp (fun _=>False) w w' [] [rCa G cb 64 []])) :
   OpTo Tryz.prog o a w (fun u w'=>∃ G cb,u=pt cb 0/\Hp F0 w0 w' ro (rCa G cb 64 []::rs)):=
 OpTo.enter 41 [.int .i64 64] hp hc fun e w' hq=>by
   obtain ⟨G,cb,he,h2⟩:=hq
   exact ⟨_,he,G,cb,rfl,h.call0 h2⟩
theorem x_bknew(h:Hp F0 w0 w ro rs)(hp:pureVal Tryz.prog (execOp a.eval o)=some (.enter 42 #[]))(hc:Calls Tryz.prog 42 #[] w (fun e w'=>∃ bk mv,e=.returned (pt bk 0)/\Hp (fun _=>False) w w' [] [rBlk bk 164 [mv]])) :
   OpTo Tryz.prog o a w (fun u w'=>∃ bk mv,u=pt bk 0/\Hp F0 w0 w' ro (rBlk bk 164 [mv]::rs)):=
 OpTo.enter 42 [] hp hc fun e w' hq=>by
   obtain ⟨bk,mv,he,h2⟩:=hq
   exact ⟨_,he,bk,mv,rfl,h.call0 h2⟩
end
theorem cnew_any(w:World):Calls Tryz.prog 41 #[.int .i64 64] w (fun e w'=>∃ G cb,e=.returned (pt cb 0)/\Hp (fun _=>False) w w' [] [rCa G cb 64 []]):=by
 have h0:=Hp.nil (fun _=>False) w
 refine mE 8 ?_
 refine mW 4 (v:=(Value.int .i64 64)) (e_min (.tmp 3) (.const (Value.int .i64 64)) #[3,3] (by kernel_rfl) .i64 .i64 64 64 (by kernel_rfl) (by kernel_rfl) 64 rfl _) ?_
 refine mW 5 (v:=(Value.int .i64 64)) (e_maxI (.const (Value.int .i64 1)) (.tmp 4) #[3,3] (by kernel_rfl) .i64 .i64 1 64 (by kernel_rfl) (by kernel_rfl) 64 rfl _) ?_
 refine mN h0 171 ([(Value.slice none 0 0),(Value.int .i64 64)]) fun g3 w3 h3=>?_
 refine mP (pt g3 0) ?_
 have h4:=h3.owNil 187 3 none
 exact ⟨_,_,rfl,(show Hp _ _ _ _ (lCa g3 none 0 64 []++[]) from h4.sel [1,0] [] rfl rfl rfl).closeC⟩
theorem bknew_any(w:World):Calls Tryz.prog 42 #[] w (fun e w'=>∃ bk mv,e=.returned (pt bk 0)/\Hp (fun _=>False) w w' [] [rBlk bk 164 [mv]]):=by
 have h0:=Hp.nil (fun _=>False) w
 refine mE 4 ?_
 refine mT (x_makeBk h0 (by kernel_rfl)) ?_
 rintro _ w3 ⟨m3,rfl,h3⟩
 refine mN h3 164 ([(Value.map (some m3))]) fun g4 w4 h4=>?_
 refine mP (pt g4 0) ?_
 exact ⟨_,_,rfl,h4⟩
/-- What New leaves. -/
def NwPost(F:Nat->Prop)(tb:Nat)(s:STab)(w:World)(e:Ending)(w':World):Prop:=
 ∃ sv kb cb bk G bb Gc K F' mv,e=.returned (pt sv 0)/\kl K=mkB 107 (s.keys.length+1)/\Hp F w w' [] [rBlk sv 73 (svC kb cb bk),rBlk kb 78 (kdcC tb bb K),rBs G bb [],rCa Gc cb 64 [],rBlk bk 164 [mv],rTab F' tb (s.add SFrom.fresh)]
theorem kgnew_any{F:Nat->Prop}{tb:Nat}{s:STab}{w:World}(hT:(rTab F tb s).Φ w)(hs:Room 5 s):Calls Tryz.prog 25 #[(Value.iface 28 (pt tb 0))] w (NwPost F tb s w):=by
 have h0:=Hp.one (rTab F tb s) hT
 refine mE 9 ?_
 refine mT (x_knew h0 0 rfl hs (by kernel_rfl)) ?_
 rintro _ w3 ⟨kb3,G3,bb3,F3,K3,s3,rfl,hK3,hs3,h3⟩
 refine mT (x_cnew h3 (by kernel_rfl) (cnew_any _)) ?_
 rintro _ w4 ⟨G4,g4,rfl,h4⟩
 refine mT (x_bknew h4 (by kernel_rfl) (bknew_any _)) ?_
 rintro _ w5 ⟨g5,m5,rfl,h5⟩
 refine mN h5 73 ([(pt kb3 0),(pt g4 0),(pt g5 0)]) fun g6 w6 h6=>?_
 refine mP (pt g6 0) ?_
 rw [hs3] at h6
 exact ⟨_,_,_,_,_,_,_,_,_,_,rfl,hK3,h6.sel [0,3,4,2,1,5] [] rfl rfl rfl⟩
end
section
open Go.RowKit Go.QT
section
variable{s:STab}{k k':Bytes}{u u':Int}{b b' l β γ:Bytes}{x:SSealed}{t:Thing}{f:SFrom}{i n:Nat}
theorem bx_new(hl:s.boxes.length<1000000):(s.seal k u b).box (mkB 98 (s.boxes.length+1))=some ⟨k,u,b⟩:=
 box_at (s:=s.seal k u b) (n:=s.boxes.length) (by show (s.boxes++[_])[s.boxes.length]?=_;simp) hl
theorem bx_seal(h:s.box l=some x):(s.seal k u b).box l=some x:=by
 unfold STab.box at h ⊢
 cases hm:markOf l with
 | none=>rw [hm] at h;cases h
 | some p =>
   obtain ⟨kd,m⟩:=p
   rw [hm] at h
   simp only at h ⊢
   split at h
   · rename_i hc
     rw [if_pos hc]
     show (s.boxes++[_])[m-1]?=_
     rw [List.getElem?_append_left (List.getElem?_eq_some_iff.1 h).1];exact h
   cases h
theorem seal_len:(s.seal k u b).boxes.length=s.boxes.length+1:=by show (s.boxes++[_]).length=_;simp
theorem bx_dig:(s.digest β).box l=s.box l:=by unfold STab.digest;split <;> rfl
theorem dig_boxes:(s.digest β).boxes=s.boxes:=by unfold STab.digest;split <;> rfl
theorem dig_keys:(s.digest β).keys=s.keys:=by unfold STab.digest;split <;> rfl
theorem op_bx(h:s.box l=some ⟨k,u,b⟩)(hp:packB t=.inr b):openTh s k u l=.inr t:=by
 unfold openTh STab.open_
 rw [h]
 simp only [Option.bind_some,and_self,if_true]
 exact unp_pack hp
/-- Where a sum stands. -/
def SK(s:STab)(β:Bytes)(n:Nat):Prop:=s.sumAt β=n/\n<s.sums.length
theorem sk_new:SK (s.digest β) β (s.sumAt β):=by
 unfold SK STab.digest
 split
 · rename_i h;exact ⟨rfl,h⟩
 rename_i h
 have h0:s.sumAt β=s.sums.length:=by
   have:s.sumAt β<=s.sums.length:=List.findIdx_le_length
   omega
 refine ⟨?_,by show s.sumAt β<(s.sums++[β]).length;rw [h0];simp⟩
 show (s.sums++[β]).findIdx (· = β)=s.sumAt β
 rw [List.findIdx_append]
 have e:s.sums.findIdx (· = β)=s.sums.length:=h0
 rw [if_neg (by omega)]
 simp [STab.sumAt,e]
theorem dig_old(h:SK s β n):s.digest β=s:=by
 unfold STab.digest
 rw [if_pos (by rw [h.1];exact h.2)]
theorem dig_len(h:s.sums.length<=n):(s.digest β).sums.length<=n+1:=by
 unfold STab.digest
 split
 · omega
 show (s.sums++[β]).length<=_;rw [List.length_append];simp;omega
theorem Room.digest{m:Nat}(h:Room m s):Room m (s.digest β):=⟨by rw [dig_boxes];exact h.body,by rw [dig_boxes];exact h.box,by rw [dig_keys];exact h.key⟩
end
section
variable{o:Oper}{a:Act}{F0 F:Nat->Prop}{w0 w:World}{ro rs:List Res}{tb:Nat}{s:STab}
/-- A sum, its table told. -/
theorem x_sumX(h:Hp F0 w0 w ro rs)(i:Nat)(hi:rs[i]?=some (rTab F tb s))(b:Bytes)(al:List Value)(fn:FuncId)(hp:pureVal Tryz.prog (execOp a.eval o)=some (.enter fn al.toArray))(hc:(rTab F tb s).Φ w->Calls Tryz.prog fn al.toArray w (SumPost F tb s b w)) :
   OpTo Tryz.prog o a w (fun u w'=>∃ A c F',u=.slice A 16 c/\Hp F0 w0 w' ro (rTab F' tb (s.digest b)::rSB (.slice A 16 c) (mkB 100 (s.sumAt b+1))::rs.eraseIdx i)):=
 (x_sum h i hi b al fn hp hc).mono fun u w' ⟨A,c,F',s',e,es,h'⟩=>by
   subst es
   exact ⟨A,c,F',e,h'⟩
/-- Text, of what is known. -/
theorem x_textK(h:Hp F0 w0 w ro rs)(i:Nat)(hi:rs[i]?=some (rTab F tb s))(p q:ByteArray)(K:Fin 16->UInt8)(hK:kl K=mkB 107 (s.num (textF p q)))(hm:s.made (textF p q)=s)(hp:pureVal Tryz.prog (execOp a.eval o)=some (.enter 44 #[pt tb 0,.string p,.string q]))(h1:p.size<=1000000)(h2:q.size<=1000000)(hn:s.keys.length<1000000) :
   OpTo Tryz.prog o a w (fun u w'=>∃ F',u=.agg (vb (kl K)).toArray/\Hp F0 w0 w' ro (rs.set i (rTab F' tb s))):=
 (x_text h i hi p q hp h1 h2 hn).mono fun u w' hq=>by
   obtain ⟨K',F',s',e,hK',es,h'⟩:=hq
   obtain rfl:K=K':=kl_inj (hK.trans hK'.symm)
   rw [hm] at es
   subst es
   exact ⟨F',e,h'⟩
/-- tick.Seal, its table told. -/
theorem x_tsX{G:Nat->Prop}(h:Hp F0 w0 w ro rs)(i:Nat)(hi:rs[i]?=some (rTab F tb s))(K:Fin 16->UInt8)(us:Int){x:Value}{t:Thing}{b:Bytes}(hpk:packB t=.inr b)(hp:pureVal Tryz.prog (execOp a.eval o)=some (.enter 28 #[.iface 28 (pt tb 0),.agg (vb (kl K)).toArray,.int .i64 us,x]))(hs:TabOk s)(hu:(rTh G x t).Φ w)(hd:∀ q,G q->¬ F q)(hl:limTh t) :
   OpTo Tryz.prog o a w (fun u w'=>∃ A c F',u=.tuple #[.slice A 16 c,.int .i64 0]/\Hp F0 w0 w' ro (rTab F' tb (s.seal (kl K) us b)::rSB (.slice A 16 c) (mkB 98 (s.boxes.length+1))::rs.eraseIdx i)):=
 (x_tseal h i hi K us hpk hp hs hu hd hl).mono fun u w' hq=>by
   obtain ⟨A,c,F',s',e,es,h'⟩:=hq
   subst es
   exact ⟨A,c,F',e,h'⟩
/-- As, its table told. -/
theorem x_asX{s2:STab}{nm:ByteArray}{m1 m2:Bytes}(h:Hp F0 w0 w ro rs)(i:Nat)(hi:rs[i]?=some (rTab F tb s))(al:List Value)(hp:pureVal Tryz.prog (execOp a.eval o)=some (.enter 45 al.toArray))
   (hc:Calls Tryz.prog 45 al.toArray w (fun e w'=>∃ A1 c1 A2 c2 F',e=.returned (.tuple #[.agg #[.string nm,.string ⟨#[107,100,99]⟩,.slice A1 16 c1,.slice A2 16 c2],.int .i64 0])/\Hp F w w' [] [rTab F' tb s2,rSB (.slice A1 16 c1) m1,rSB (.slice A2 16 c2) m2])) :
   OpTo Tryz.prog o a w (fun u w'=>∃ A1 c1 A2 c2 F',u=.tuple #[.agg #[.string nm,.string ⟨#[107,100,99]⟩,.slice A1 16 c1,.slice A2 16 c2],.int .i64 0]/\Hp F0 w0 w' ro (rTab F' tb s2::rSB (.slice A1 16 c1) m1::rSB (.slice A2 16 c2) m2::rs.eraseIdx i)):=
 (x_asY h i hi al hp hc).mono fun u w' ⟨A1,c1,A2,c2,F',s',e,es,h'⟩=>by
   subst es
   exact ⟨A1,c1,A2,c2,F',e,h'⟩
end
abbrev bANN:ByteArray:=⟨#[97,110,110]⟩
abbrev bBOB:ByteArray:=⟨#[98,111,98]⟩
abbrev bKDC:ByteArray:=⟨#[107,100,99]⟩
/-- A reply's cells. -/
def rpC(fl:Int)(K:Fin 16->UInt8)(n:Int)(s:ByteArray)(a e r:Int):List Value:=[Value.int .i64 fl]++vb (kl K)++[.int .i64 n,.string s,.int .i64 a,.int .i64 e,.int .i64 r]
def dkC(tb sv:Nat)(ra rb:List Value)(x y:Value):List Value:=[pt tb 0,pt sv 0]++ra++rb++[.string bKDC,x,.string bKDC,y]
def zK:Fin 16->UInt8:=fun _=>0
theorem rTh_authent{w:World}{A:Option Addr}{c:Nat}{b:Bytes}(s1:ByteArray)(t q:Int)(K:Fin 16->UInt8)(h:SB w (.slice A b.length c) b):(rTh (rSB (.slice A b.length c) b).F (.iface 100 (.agg (auC s1 t q K (.slice A b.length c)).toArray)) (.authent s1 t q K b)).Φ w:=⟨(rSB _ _).lt h,A,c,rfl,rsg_of h⟩
theorem right_ann:rightN ⟨#[97,110,110]⟩=true:=by decide +kernel
theorem right_bob:rightN ⟨#[98,111,98]⟩=true:=by decide +kernel
theorem right_kdc:rightN ⟨#[107,100,99]⟩=true:=by decide +kernel
theorem pack_authent{s:ByteArray}{t q:Int}{K:Fin 16->UInt8}{c:Bytes}(hr:rightM s [t,q]=true)(hs:s.size<=300)(hc:c.length<=300):∃ b,packB (.authent s t q K c)=.inr b:=by
 refine ⟨_,pack_is hr ?_⟩
 refine Nat.le_trans (val_small (n:=310) ?_ (by simp [valL])) (by decide)
 intro v hv
 simp only [valL,List.mem_cons,List.not_mem_nil,or_false] at hv
 have h1:=wr_bD (kl K)
 have h2:=wr_bD s.data.toList
 have h3:=wr_bD c
 rw [kl_len] at h1
 rw [size_toList] at h2
 rcases hv with rfl|rfl|rfl|rfl|rfl
 · omega
 · have:=wr_nD t;omega
 · have:=wr_nD q;omega
 · omega
 omega
end
section
open Go.RowKit Go.QT
/-- What auth leaves. -/
def AuthPost(F:Nat->Prop)(tb:Nat)(s2:STab)(nb:Nat)(w:World)(e:Ending)(w':World):Prop:=
 ∃ A c F',e=.returned (.slice A 16 c)/\Hp F w w' [] [rTab F' tb s2,rSB (.slice A 16 c) (mkB 98 (nb+1))]
theorem x_auth{o:Oper}{a:Act}{F0 F:Nat->Prop}{w0 w:World}{ro rs:List Res}{tb nb:Nat}{s s2:STab}(h:Hp F0 w0 w ro rs)(i:Nat)(hi:rs[i]?=some (rTab F tb s))(al:List Value)(hp:pureVal Tryz.prog (execOp a.eval o)=some (.enter 11 al.toArray))(hc:Calls Tryz.prog 11 al.toArray w (AuthPost F tb s2 nb w)) :
   OpTo Tryz.prog o a w (fun u w'=>∃ A c F',u=.slice A 16 c/\Hp F0 w0 w' ro (rTab F' tb s2::rSB (.slice A 16 c) (mkB 98 (nb+1))::rs.eraseIdx i)):=
 OpTo.enter 11 al hp hc fun e w' hq=>by
   obtain ⟨A,c,F',he,h2⟩:=hq
   exact ⟨_,he,A,c,F',rfl,h.call1 i hi h2⟩
theorem auth15_any{F:Nat->Prop}{d tb sv:Nat}{s:STab}{df t q n1 a1 e1 r1 f2 n2 a2 e2 r2:Int}{Ka K2:Fin 16->UInt8}{s1 s2:ByteArray}{vx vy:Value}{Rq:Res}{qv:Value}{β b:Bytes}{w:World}(h0:Hp F w w [rBlk d 37 (dkC tb sv (rpC df Ka n1 s1 a1 e1 r1) (rpC f2 K2 n2 s2 a2 e2 r2) vx vy),Rq] [rTab F tb s])(hs:Room 2 s)
   (hSum:∀ w',(rTab F tb s).Φ w'->Rq.Φ w'->Rq.dj (rTab F tb s)->Calls Tryz.prog 23 #[(Value.iface 28 (pt tb 0)),qv] w' (SumPost F tb s β w')) (hp:packB (.authent ⟨#[97,110,110]⟩ t q zK (mkB 100 (s.sumAt β+1)))=.inr b) :
   Calls Tryz.prog 11 #[pt d 0,qv,.int .i64 t,.int .i64 q] w (AuthPost F tb ((s.digest β).seal (kl Ka) 7 b) s.boxes.length w):=by
 have h0:=h0
 refine mE 37 ?_
 refine dG h0 27 26 (fun W=>(rBlk d 37 (dkC tb sv (rpC df Ka n1 s1 a1 e1 r1) (rpC f2 K2 n2 s2 a2 e2 r2) vx vy)).Φ W/\True) (fun w3 h3=>⟨h3.rd 0 rfl,trivial⟩) ?_
 intro w3 h3
 refine dP 14 [0,1,2,5,6,7,8,10,11,12,13,14,17] ?_
 refine dL 3 (fun W hW=>hW.1) ?_
 refine dP 12 [4] ?_
 refine dLs 10 [9,15] (fun W hW=>hW.1) ?_
 refine dP 9 [16] ?_
 refine dT 18 (x_sumX h3 0 rfl β [(Value.iface 28 (pt tb 0)),qv] _ (by kernel_rfl) (fun hT=>hSum _ hT (h3.rd 1 rfl) (h3.rdis 1 0 _ _ rfl rfl))) ?_
 rintro _ w4 ⟨A4,c4,F4,rfl,h4⟩
 refine ⟨⟨h4.rd 0 rfl,trivial⟩,?_⟩
 refine dP 6 [19,20] ?_
 refine dT 21 (x_tsX h4 0 rfl Ka 7 hp (by kernel_rfl) hs.digest.ok (rTh_authent (A:=A4) (c:=c4) (b:=mkB 100 (s.sumAt β+1)) ⟨#[97,110,110]⟩ t q zK (h4.at_ 1 rfl)) (fun q hq=>h4.dis 1 0 _ _ rfl rfl (by decide) q hq) ⟨by decide,by rw [mkB_len];decide⟩) ?_
 rintro _ w5 ⟨A5,c5,F5,rfl,h5⟩
 refine ⟨⟨h5.rd 0 rfl,trivial⟩,?_⟩
 refine dP 1 [22,23,24,25] ?_
 refine dN 26 ?_
 refine dX ?_
 refine mP (Value.slice A5 16 c5) ?_
 rw [dig_boxes] at h5
 exact ⟨_,_,_,rfl,h5.sel [0,1] [] rfl rfl rfl⟩
/-- What login leaves. -/
def LgPost(F:Nat->Prop)(tb:Nat)(s3:STab)(nb:Nat)(rc:List Value)(w:World)(e:Ending)(w':World):Prop:=
 ∃ A c F',e=.returned (.tuple #[.agg rc.toArray,.agg #[.string ⟨#[107,100,99]⟩,.slice A 16 c],.bool true])/\Hp F w w' [] [rTab F' tb s3,rSB (.slice A 16 c) (mkB 98 (nb+2))]
theorem x_login{o:Oper}{a:Act}{F0 F:Nat->Prop}{w0 w:World}{ro rs:List Res}{tb nb:Nat}{s s3:STab}{rc:List Value}(h:Hp F0 w0 w ro rs)(i:Nat)(hi:rs[i]?=some (rTab F tb s))(al:List Value)(hp:pureVal Tryz.prog (execOp a.eval o)=some (.enter 27 al.toArray))(hc:Calls Tryz.prog 27 al.toArray w (LgPost F tb s3 nb rc w)) :
   OpTo Tryz.prog o a w (fun u w'=>∃ A c F',u=.tuple #[.agg rc.toArray,.agg #[.string ⟨#[107,100,99]⟩,.slice A 16 c],.bool true]/\Hp F0 w0 w' ro (rTab F' tb s3::rSB (.slice A 16 c) (mkB 98 (nb+2))::rs.eraseIdx i)):=
 OpTo.enter 27 al hp hc fun e w' hq=>by
   obtain ⟨A,c,F',he,h2⟩:=hq
   exact ⟨_,he,A,c,F',rfl,h.call1 i hi h2⟩
theorem login15_any{F Gb:Nat->Prop}{d tb sv kb cb bk bb:Nat}{s:STab}{us:List User}{u:User}{pw:ByteArray}{at_ fl R:Int}{Kk K:Fin 16->UInt8}{rest:List Value}{b0 b1 b2:Bytes}{w:World}(h0:Hp F w w [rBlk d 37 ([(pt tb 0),(pt sv 0)]++rest),rBlk sv 73 (svC kb cb bk),rBlk kb 78 (kdcC tb bb Kk),rBs Gb bb us] [rTab F tb s])(hs:Room 12 s)(h32:us.length<=1000000)
   (hb2:placeB us u.name=true) (hu:us[placeI us u.name]?=some u) (hK:kl u.key=mkB 107 (s.num (textF pw u.name))) (hm:s.made (textF pw u.name)=s) (hpw:pw.size<=1000) (hnm:u.name.size<=1000) (hat:0<=at_/\at_<=1000000) (hlife:0<=u.life/\u.life<=600)
   (hKK:kl K=mkB 107 (s.keys.length+1)) (hfr:(0<u.renew/\u.renew<=6000/\fl=5/\R=at_+u.renew)∨(u.renew<=0/\fl=4/\R=0)) (hp0:packB (.stamp at_ 0)=.inr b0) (hp1:packB (.inside fl K u.name at_ (min (at_+600) (at_+u.life)) R)=.inr b1) (hp2:packB (.reply fl K 1 ⟨#[107,100,99]⟩ at_ (min (at_+600) (at_+u.life)) R)=.inr b2) :
   Calls Tryz.prog 27 #[pt d 0,.string u.name,.string pw,.int .i64 at_] w (LgPost F tb ((((s.seal (kl u.key) 1 b0).add SFrom.fresh).seal (kl Kk) 2 b1).seal (kl u.key) 3 b2) s.boxes.length ([(Value.int .i64 fl)]++vb (kl K)++[(Value.int .i64 1),(Value.string (⟨#[107,100,99]⟩)),(Value.int .i64 at_),(Value.int .i64 ((min (at_+600) (at_+u.life)))),(Value.int .i64 R)]) w):=by
 have h0:=h0
 refine mE 76 ?_
 refine mN h0 33 ([(Value.int .i64 0)]++vb (List.replicate 16 0)++[(Value.int .i64 0),(Value.string ByteArray.empty),(Value.int .i64 0),(Value.int .i64 0),(Value.int .i64 0)]) fun g2 w2 h2=>?_
 refine mN h2 35 ([(Value.string ByteArray.empty),(Value.slice none 0 0)]) fun g3 w3 h3=>?_
 refine mr h3 0 ?_
 refine mT (x_textK h3 2 rfl pw u.name u.key hK hm (by kernel_rfl) (by omega) (by omega) hs.keys) ?_
 rintro _ w5 ⟨F5,rfl,h5⟩
 refine mN h5 31 (vb (List.replicate 16 0)) fun g6 w6 h6=>?_
 refine mT (xR h6 0 (vb (kl u.key))) fun _ w7 h7=>?_
 refine dG h7 15 14 (fun W=>(rBlk d 37 ([(pt tb 0),(pt sv 0)]++rest)).Φ W/\(rBlk g6 31 (vb (kl u.key))).Φ W/\True) (fun w9 h9=>⟨h9.rd 0 rfl,h9.at_ 0 rfl,trivial⟩) ?_
 intro w9 h9
 refine dP 9 [0,1,2,6,7,8] ?_
 refine dL 3 (fun W hW=>hW.1) ?_
 refine dP 7 [4] ?_
 refine dL 5 (fun W hW=>hW.2.1) ?_
 refine dT 9 (x_tsX h9 3 rfl u.key 1 hp0 (by kernel_rfl) hs.ok (rTh_stamp _ at_ 0) (fun _ hf=>hf.elim) True.intro) ?_
 rintro _ w10 ⟨A10,c10,F10,rfl,h10⟩
 refine ⟨⟨h10.rd 0 rfl,h10.at_ 2 rfl,trivial⟩,?_⟩
 refine dP 1 [10,11,12,13] ?_
 refine dN 14 ?_
 refine dX ?_
 refine mr h10 0 ?_
 refine mr h10 1 ?_
 refine mW 49 (exec_add _ _ _ _ bO at_ 600 (by kernel_rfl) (by kernel_rfl) (at_+600) rfl (by omega) (by omega) _) ?_
 refine mT (x_asX (s2:=((((s.seal (kl u.key) 1 b0).add SFrom.fresh).seal (kl Kk) 2 b1).seal (kl u.key) 3 b2)) (nm:=u.name) (m1:=mkB 98 ((s.seal (kl u.key) 1 b0).boxes.length+1)) (m2:=mkB 98 ((s.seal (kl u.key) 1 b0).boxes.length+2)) h10 0 rfl [(pt kb 0),(Value.int .i64 at_),(Value.agg ([(Value.string u.name),(Value.int .i64 1),(Value.int .i64 (at_+600)),(Value.slice A10 16 c10)]).toArray)] (by kernel_rfl) (as_main (pre:=mkB 98 (s.boxes.length+1)) (h10.at_ 0 rfl) (h10.rd 3 rfl) (fun q h1 h2=>h10.rdis 3 0 _ _ rfl rfl q h2 h1) (hs.seal _ _ (pack_le6 hp0) |>.less (by decide)) (h10.rd 2 rfl) (fun hq=>h10.rdis 2 0 _ _ rfl rfl kb rfl hq) (h10.at_ 1 rfl) (h10.dis 1 0 _ _ rfl rfl (by decide)) h32 hb2 hu (t:=at_) (q:=0) (op_bx (bx_new (by have:=hs.box;omega)) hp0) (decide_eq_true ⟨by omega,by omega,by omega,by omega,by omega,by omega⟩) (by omega) (by omega) hlife hnm K hKK hfr hp1 hp2)) ?_
 rintro _ w12 ⟨A12,c12,B12,d12,F12,rfl,h12⟩
 rw [seal_len] at h12
 refine mN h12 141 ([(Value.string ByteArray.empty),(Value.string ByteArray.empty),(Value.slice none 0 0),(Value.slice none 0 0)]) fun g13 w13 h13=>?_
 refine mT (xR h13 0 ([(Value.string u.name),(Value.string (⟨#[107,100,99]⟩)),(Value.slice A12 16 c12),(Value.slice B12 16 d12)])) fun _ w14 h14=>?_
 have hok:TabOk ((((s.seal (kl u.key) 1 b0).add SFrom.fresh).seal (kl Kk) 2 b1).seal (kl u.key) 3 b2):=((((hs.seal _ _ (pack_le6 hp0)).add SFrom.fresh).seal _ _ (pack_le6 hp1)).seal _ _ (pack_le6 hp2)).ok
 have e2:mkB 98 (s.boxes.length+1+2)=mkB 98 ((((s.seal (kl u.key) 1 b0).add SFrom.fresh).seal (kl Kk) 2 b1).boxes.length+1):=by rw [seal_len];show _=mkB 98 ((s.seal (kl u.key) 1 b0).boxes.length+1+1);rw [seal_len]
 have h16:=h14
 rw [e2] at h16
 refine dG h16 15 14 (fun W=>(rBlk d 37 ([(pt tb 0),(pt sv 0)]++rest)).Φ W/\(rBlk g6 31 (vb (kl u.key))).Φ W/\(rBlk g13 141 ([(Value.string u.name),(Value.string (⟨#[107,100,99]⟩)),(Value.slice A12 16 c12),(Value.slice B12 16 d12)])).Φ W/\True) (fun w17 h17=>⟨h17.rd 0 rfl,h17.at_ 5 rfl,h17.at_ 0 rfl,trivial⟩) ?_
 intro w17 h17
 refine dP 11 [0,1,2,6] ?_
 refine dL 3 (fun W hW=>hW.1) ?_
 refine dP 9 [4] ?_
 refine dL 5 (fun W hW=>hW.2.1) ?_
 refine dL 7 (fun W hW=>hW.2.2.1) ?_
 refine dO 8 12 ?_ ?_
 ·
  refine oT (x_oReply h17 1 rfl u.key 3 (by kernel_rfl) hok (h17.at_ 3 rfl) (r:=.inr (.reply fl K 1 ⟨#[107,100,99]⟩ at_ (min (at_+600) (at_+u.life)) R)) (op_bx (bx_new (s:=((s.seal (kl u.key) 1 b0).add SFrom.fresh).seal (kl Kk) 2 b1) (by have:=hs.box;rw [seal_len];show (s.seal (kl u.key) 1 b0).boxes.length+1<1000000;rw [seal_len];omega)) hp2)) ?_
  rintro _ w18 ⟨rfl,h18⟩
  refine ⟨⟨h18.rd 0 rfl,h18.at_ 5 rfl,h18.at_ 0 rfl,trivial⟩,?_⟩
  refine dP 3 [9,10,11] ?_
  refine dT 12 (xN h18 33 ([(Value.int .i64 0)]++vb (List.replicate 16 0)++[(Value.int .i64 0),(Value.string ByteArray.empty),(Value.int .i64 0),(Value.int .i64 0),(Value.int .i64 0)])) ?_
  rintro _ w19 ⟨g19,rfl,h19⟩
  refine ⟨⟨h19.rd 0 rfl,h19.at_ 6 rfl,h19.at_ 1 rfl,trivial⟩,?_⟩
  refine dT 13 (xR h19 0 ([(Value.int .i64 fl)]++vb (kl K)++[(Value.int .i64 1),(Value.string (⟨#[107,100,99]⟩)),(Value.int .i64 at_),(Value.int .i64 ((min (at_+600) (at_+u.life)))),(Value.int .i64 R)])) ?_
  rintro _ w20 h20
  refine ⟨⟨h20.rd 0 rfl,h20.at_ 6 rfl,h20.at_ 1 rfl,trivial⟩,?_⟩
  refine dN 14 ?_
  refine dX ?_
  refine dG h20 12 11 (fun W=>(rBlk g19 33 ([(Value.int .i64 fl)]++vb (kl K)++[(Value.int .i64 1),(Value.string (⟨#[107,100,99]⟩)),(Value.int .i64 at_),(Value.int .i64 ((min (at_+600) (at_+u.life)))),(Value.int .i64 R)])).Φ W/\(rBlk g13 141 ([(Value.string u.name),(Value.string (⟨#[107,100,99]⟩)),(Value.slice A12 16 c12),(Value.slice B12 16 d12)])).Φ W/\True) (fun w22 h22=>⟨h22.at_ 0 rfl,h22.at_ 1 rfl,trivial⟩) ?_
  intro w22 h22
  refine dP 5 [1,3,4,5,6,7,8] ?_
  refine dL 0 (fun W hW=>hW.1) ?_
  refine dL 2 (fun W hW=>hW.2.1) ?_
  refine dT 9 (xR h22 8 ([(Value.int .i64 fl)]++vb (kl K)++[(Value.int .i64 1),(Value.string (⟨#[107,100,99]⟩)),(Value.int .i64 at_),(Value.int .i64 ((min (at_+600) (at_+u.life)))),(Value.int .i64 R)])) ?_
  rintro _ w23 h23
  refine ⟨⟨h23.at_ 0 rfl,h23.at_ 1 rfl,trivial⟩,?_⟩
  refine dT 10 (xR h23 7 ([(Value.string (⟨#[107,100,99]⟩)),(Value.slice A12 16 c12)])) ?_
  rintro _ w24 h24
  refine ⟨⟨h24.at_ 0 rfl,h24.at_ 1 rfl,trivial⟩,?_⟩
  refine dN 11 ?_
  refine dX ?_
  refine mF (post_3 (r:=.cell 8 33) (s:=.cell 9 35) (t:=.tmp 10) (by kernel_rfl) rfl (rce (h24.at_ 8 rfl)) (rce (h24.at_ 7 rfl)) (rtm (Value.bool true)) ?_)
  exact ⟨_,_,_,rfl,h24.sel [2,3] [] rfl rfl rfl⟩
 refine oT (xN h17 33 ([(Value.int .i64 0)]++vb (List.replicate 16 0)++[(Value.int .i64 0),(Value.string ByteArray.empty),(Value.int .i64 0),(Value.int .i64 0),(Value.int .i64 0)])) ?_
 rintro _ w25 ⟨g25,rfl,h25⟩
 refine ⟨⟨h25.rd 0 rfl,h25.at_ 6 rfl,h25.at_ 1 rfl,trivial⟩,?_⟩
 refine dT 8 (x_oReply h25 2 rfl u.key 3 (by kernel_rfl) hok (h25.at_ 4 rfl) (r:=.inr (.reply fl K 1 ⟨#[107,100,99]⟩ at_ (min (at_+600) (at_+u.life)) R)) (op_bx (bx_new (s:=((s.seal (kl u.key) 1 b0).add SFrom.fresh).seal (kl Kk) 2 b1) (by have:=hs.box;rw [seal_len];show (s.seal (kl u.key) 1 b0).boxes.length+1<1000000;rw [seal_len];omega)) hp2)) ?_
 rintro _ w26 ⟨rfl,h26⟩
 refine ⟨⟨h26.rd 0 rfl,h26.at_ 6 rfl,h26.at_ 1 rfl,trivial⟩,?_⟩
 refine dP 2 [9,10,11] ?_
 refine dT 13 (xR h26 0 ([(Value.int .i64 fl)]++vb (kl K)++[(Value.int .i64 1),(Value.string (⟨#[107,100,99]⟩)),(Value.int .i64 at_),(Value.int .i64 ((min (at_+600) (at_+u.life)))),(Value.int .i64 R)])) ?_
 rintro _ w27 h27
 refine ⟨⟨h27.rd 0 rfl,h27.at_ 6 rfl,h27.at_ 1 rfl,trivial⟩,?_⟩
 refine dN 14 ?_
 refine dX ?_
 refine dG h27 12 11 (fun W=>(rBlk g25 33 ([(Value.int .i64 fl)]++vb (kl K)++[(Value.int .i64 1),(Value.string (⟨#[107,100,99]⟩)),(Value.int .i64 at_),(Value.int .i64 ((min (at_+600) (at_+u.life)))),(Value.int .i64 R)])).Φ W/\(rBlk g13 141 ([(Value.string u.name),(Value.string (⟨#[107,100,99]⟩)),(Value.slice A12 16 c12),(Value.slice B12 16 d12)])).Φ W/\True) (fun w29 h29=>⟨h29.at_ 0 rfl,h29.at_ 1 rfl,trivial⟩) ?_
 intro w29 h29
 refine dP 5 [1,3,4,5,6,7,8] ?_
 refine dL 0 (fun W hW=>hW.1) ?_
 refine dL 2 (fun W hW=>hW.2.1) ?_
 refine dT 9 (xR h29 8 ([(Value.int .i64 fl)]++vb (kl K)++[(Value.int .i64 1),(Value.string (⟨#[107,100,99]⟩)),(Value.int .i64 at_),(Value.int .i64 ((min (at_+600) (at_+u.life)))),(Value.int .i64 R)])) ?_
 rintro _ w30 h30
 refine ⟨⟨h30.at_ 0 rfl,h30.at_ 1 rfl,trivial⟩,?_⟩
 refine dT 10 (xR h30 7 ([(Value.string (⟨#[107,100,99]⟩)),(Value.slice A12 16 c12)])) ?_
 rintro _ w31 h31
 refine ⟨⟨h31.at_ 0 rfl,h31.at_ 1 rfl,trivial⟩,?_⟩
 refine dN 11 ?_
 refine dX ?_
 refine mF (post_3 (r:=.cell 8 33) (s:=.cell 9 35) (t:=.tmp 10) (by kernel_rfl) rfl (rce (h31.at_ 8 rfl)) (rce (h31.at_ 7 rfl)) (rtm (Value.bool true)) ?_)
 exact ⟨_,_,_,rfl,h31.sel [2,3] [] rfl rfl rfl⟩
end
section
open Go.RowKit Go.QT
end
end Go.Proofs.YtdefpmmdpfpipaaGreat
