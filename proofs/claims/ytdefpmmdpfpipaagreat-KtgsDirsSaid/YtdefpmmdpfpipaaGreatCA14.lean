/- Tgs,as the laws ask for it. -/
import Derived.Laws.IdiomRangeMap
import Derived.Test.YtdefpmmdpfpipaaGreatCA13
set_option maxRecDepth 100000
set_option maxHeartbeats 4000000
namespace Go.Proofs.YtdefpmmdpfpipaaGreat
section
open Go.RowKit Go.QT
theorem runeL_len{l:Bytes}{c m:Nat}(h:runeL l=some (c,m))(h0:0<l.length):1<=m/\m<=2/\m<=l.length/\c<2048:=by
 have hb:=nb_lt (gb l 0)
 unfold runeL at h
 split at h
 · injection h with h;injection h with h1 h2;subst h1;subst h2;omega
 split at h
 · injection h with h;injection h with h1 h2;subst h1;subst h2;omega
 cases h
theorem letter_out{r:Int}(h:r = -1∨2048<=r):letterN r=false:=by
 unfold letterN inR ltrL;simp;omega
theorem dig_eq(c:Int):inR c digL=(decide (48<=c/\c<=57) || decide (c=45)):=by
 unfold inR digL
 rw [Bool.eq_iff_iff]
 simp
 omega
theorem right_ways{l:Bytes}{r k:Int}(h:RnP l r k)(i:Nat) :
   (runeL l=none/\letterN r=false/\i=0)∨(runeL l=none/\letterN r=false/\i≠0/\r = -1)∨(runeL l=none/\letterN r=false/\i≠0/\2048<=r)∨(∃ c m:Nat,runeL l=some (c,m)/\r=c/\k=m/\letterN r=true) ∨
   (∃ c m:Nat,runeL l=some (c,m)/\r=c/\k=m/\letterN r=false/\i=0)∨(∃ c m:Nat,runeL l=some (c,m)/\r=c/\k=m/\letterN r=false/\i≠0/\r=45)∨(∃ c m:Nat,runeL l=some (c,m)/\r=c/\k=m/\letterN r=false/\i≠0/\r≠45/\r<48) ∨
   (∃ c m:Nat,runeL l=some (c,m)/\r=c/\k=m/\letterN r=false/\i≠0/\r≠45/\57<r)∨(∃ c m:Nat,runeL l=some (c,m)/\r=c/\k=m/\letterN r=false/\i≠0/\r≠45/\48<=r/\r<=57):=by
 unfold RnP at h
 rcases hr:runeL l with _|⟨c,m⟩
 · rw [hr] at h
   have hl:=letter_out h.1
   by_cases hi:i=0
   · exact .inl ⟨rfl,hl,hi⟩
   rcases h.1 with h1|h1
   · exact .inr (.inl ⟨rfl,hl,hi,h1⟩)
   exact .inr (.inr (.inl ⟨rfl,hl,hi,h1⟩))
 rw [hr] at h
 obtain ⟨h1,h2⟩:=h
 refine .inr (.inr (.inr ?_))
 rcases hl:letterN r with _|_
 · refine .inr ?_
   by_cases hi:i=0
   · exact .inl ⟨c,m,rfl,h1,h2,rfl,hi⟩
   by_cases h45:r=45
   · exact .inr (.inl ⟨c,m,rfl,h1,h2,rfl,hi,h45⟩)
   by_cases h48:r<48
   · exact .inr (.inr (.inl ⟨c,m,rfl,h1,h2,rfl,hi,h45,h48⟩))
   by_cases h57:57<r
   · exact .inr (.inr (.inr (.inl ⟨c,m,rfl,h1,h2,rfl,hi,h45,h57⟩)))
   exact .inr (.inr (.inr (.inr ⟨c,m,rfl,h1,h2,rfl,hi,h45,by omega,by omega⟩)))
 exact .inl ⟨c,m,rfl,h1,h2,rfl⟩
section
variable{s:ByteArray}{f i n:Nat}(hinv:runesN s (s.size+1) 0 0=runesN s (f+1) i n)(hi:i<s.size)
include hinv hi
theorem rg_none(h:runeL (s.data.toList.drop i)=none):rightN s=false:=by
 have hd:=decode_is s i hi
 rw [h] at hd
 refine rightN_none (hinv.trans (runesN_bad rfl hi ?_))
 unfold badN
 have h1:letterN ((Utf8.decode s i).1:Int)=false:=letter_out (.inr (by omega))
 have h2:inR ((Utf8.decode s i).1:Int) digL=false:=by rw [dig_eq];simp;omega
 rw [h1,h2];simp
theorem rg_bad{c m:Nat}(h:runeL (s.data.toList.drop i)=some (c,m))(hl:letterN (c:Int)=false)(hb:i=0∨(c≠45/\(c<48∨57<c))):rightN s=false:=by
 have hd:=decode_is s i hi
 rw [h] at hd
 refine rightN_none (hinv.trans (runesN_bad rfl hi ?_))
 unfold badN
 rw [hd,hl,dig_eq]
 rcases hb with hb|hb
 · simp [hb]
 simp
 right
 omega
theorem rg_go{c m:Nat}(h:runeL (s.data.toList.drop i)=some (c,m))(hb:letterN (c:Int)=true∨(i≠0/\(c=45∨(48<=c/\c<=57)))):runesN s (s.size+1) 0 0=runesN s f (i+m) (n+1):=by
 have hd:=decode_is s i hi
 rw [h] at hd
 have h2:badN i (Utf8.decode s i).1=false:=by
   unfold badN
   rw [hd]
   rcases hb with hb|hb
   · rw [hb];rfl
   have e:inR (((c,m):Nat × Nat).1:Int) digL=true:=by rw [dig_eq];simp;omega
   rw [e]
   simp [hb.1]
 have:=runesN_go (s:=s) (f:=f) (pos:=i) (n:=n) rfl hi h2
 rw [hd] at this
 exact hinv.trans this.symm
end
theorem x_rune{o:Oper}{a:Act}{F0:Nat->Prop}{w0 w:World}{ro rs:List Res}(h:Hp F0 w0 w ro rs)(s:ByteArray)(hp:pureVal Tryz.prog (execOp a.eval o)=some (.enter 35 #[.string s]))(h0:0<s.size)(hs:s.size<=1000000000) :
   OpTo Tryz.prog o a w (fun u w'=>∃ r k,u=.tuple #[.int .i64 r,.int .i64 k]/\RnP s.data.toList r k/\Hp F0 w0 w' ro rs):=
 OpTo.enter 35 [.string s] hp (rune_any s h0 hs w) fun _ _ ⟨r,k,he,hr,hb⟩=>⟨_,he,r,k,rfl,hr,h.below hb⟩
theorem rnp_bd{l:Bytes}{r k:Int}(h:RnP l r k)(h0:0<l.length):-1<=r/\r<=5000000:=by
 unfold RnP at h
 rcases hr:runeL l with _|⟨c,m⟩
 · rw [hr] at h;omega
 rw [hr] at h
 have:=runeL_len hr h0
 omega
theorem rright_any(s:ByteArray)(hs:s.size<=1000000000)(w:World):Calls Tryz.prog 19 #[.string s] w (DPost w (.bool (rightN s))):=by
 have h0:=Hp.nil (fun _=>False) w
 refine mE 48 ?_
 refine mL (fun mM xX aA wL=>∃ (f:Nat) (i:Nat) (n:Nat),(i<=s.size)/\(s.size<i+f)/\(n<=i)/\(runesN s (s.size+1) 0 0=runesN s f i n)/\mM=s.size-i/\aA=patch xX 48 [(0,(Value.string s)),(3,(Value.int .i64 ((n:Int)))),(4,(Value.int .i64 ((i:Int))))]/\Hp (fun _=>False) w wL [] []) ⟨_,_,((s.size+1)),0,0,(Nat.zero_le _),(by omega),(by omega),rfl,rfl,pM,h0.sel [] [] (by kernel_rfl) rfl rfl⟩ ?_
 rintro _ x5 _ w5 ⟨f,i,n,hi,hf,hn,hinv,rfl,rfl,h5⟩ KL5 hKL5
 refine mAt ?_
 refine m_if 10 ((i:Int)<((s).size:Int)) (by kernel_rfl) (fun b8=>?_) (fun b8=>?_)
 ·
  have hlt:i<s.size:=by omega
  obtain ⟨f,rfl⟩:∃ g,f=g+1:=⟨f-1,by omega⟩
  have hdl:(s.data.toList.drop i).length=s.size-i:=by simp
  refine mW 16 (v:=(Value.string (tlS s i))) (e_scut 9 (.tmp 14) (.tmp 15) (by kernel_rfl) s .i64 i (by kernel_rfl) (by kernel_rfl) (by kernel_rfl) hi _) ?_
  refine mT (x_rune h5 (tlS s i) (by kernel_rfl) (by rw [tlS_size];omega) (by rw [tlS_size];omega)) ?_
  rintro _ w11 ⟨r11,k11,rfl,hr11,h11⟩
  rw [tlS_list] at hr11
  have hrb11:=rnp_bd hr11 (by omega)
  rcases right_ways hr11 i with ⟨q1,q2,q3⟩|⟨q1,q2,q3,q4⟩|⟨q1,q2,q3,q4⟩|⟨c,m,q1,q2,q3,q4⟩|⟨c,m,q1,q2,q3,q4,q5⟩|⟨c,m,q1,q2,q3,q4,q5,q6⟩|⟨c,m,q1,q2,q3,q4,q5,q6,q7⟩|⟨c,m,q1,q2,q3,q4,q5,q6,q7⟩|⟨c,m,q1,q2,q3,q4,q5,q6,q7,q8⟩
  ·
   refine mT (x_dp (v:=.bool false) h11 36 [(Value.int .i64 r11),(Value.int .i64 0)] (by kernel_rfl) (q2 ▸ rletter_any _ (by omega) (by omega) _)) ?_
   rintro _ w15 ⟨rfl,h15⟩
   refine mX 25 (.bool true) (Value.bool (((i:Int)) == 0)) (by simp;omega) ?_
   exact mQe (Value.bool false) h15 (by rw [rg_none hinv hlt q1])
  ·
   refine mT (x_dp (v:=.bool false) h11 36 [(Value.int .i64 r11),(Value.int .i64 0)] (by kernel_rfl) (q2 ▸ rletter_any _ (by omega) (by omega) _)) ?_
   rintro _ w17 ⟨rfl,h17⟩
   refine mX 25 (.bool false) (Value.bool (((i:Int)) == 0)) (by simp;omega) ?_
   refine mX 28 (.bool true) (Value.bool (r11 != 45)) (by simp;omega) ?_
   refine mX 31 (.bool true) (Value.bool (decide (r11<48))) (by simp;omega) ?_
   exact mQe (Value.bool false) h17 (by rw [rg_none hinv hlt q1])
  ·
   refine mT (x_dp (v:=.bool false) h11 36 [(Value.int .i64 r11),(Value.int .i64 0)] (by kernel_rfl) (q2 ▸ rletter_any _ (by omega) (by omega) _)) ?_
   rintro _ w19 ⟨rfl,h19⟩
   refine mX 25 (.bool false) (Value.bool (((i:Int)) == 0)) (by simp;omega) ?_
   refine mX 28 (.bool true) (Value.bool (r11 != 45)) (by simp;omega) ?_
   refine mX 31 (.bool false) (Value.bool (decide (r11<48))) (by simp;omega) ?_
   refine mX 34 (.bool true) (Value.bool (decide (r11>57))) (by simp;omega) ?_
   exact mQe (Value.bool false) h19 (by rw [rg_none hinv hlt q1])
  ·
   refine mT (x_dp (v:=.bool true) h11 36 [(Value.int .i64 r11),(Value.int .i64 0)] (by kernel_rfl) (q4 ▸ rletter_any _ (by omega) (by omega) _)) ?_
   rintro _ w21 ⟨rfl,h21⟩
   have hm:=runeL_len q1 (by omega)
   rw [hdl] at hm
   have hgo:=rg_go hinv hlt q1 (.inl (by rw [← q2];exact q4))
   refine mW 41 (exec_add _ _ _ _ bO ((i:Int)) k11 (by kernel_rfl) (by kernel_rfl) (((i+m:Nat):Int)) (by omega) (by omega) (by omega) _) ?_
   refine mW 12 (exec_add _ _ _ _ bO ((n:Int)) 1 (by kernel_rfl) (by kernel_rfl) (((n+1:Nat):Int)) (by omega) (by omega) (by omega) _) ?_
   exact mK KL5 (hKL5 _ _ ⟨s.size-((i+m)),_,(by omega),f,((i+m)),((n+1)),(by omega),(by omega),(by omega),hgo,rfl,pM,h21.sel [] [] (by kernel_rfl) rfl rfl⟩)
  ·
   refine mT (x_dp (v:=.bool false) h11 36 [(Value.int .i64 r11),(Value.int .i64 0)] (by kernel_rfl) (q4 ▸ rletter_any _ (by omega) (by omega) _)) ?_
   rintro _ w22 ⟨rfl,h22⟩
   refine mX 25 (.bool true) (Value.bool (((i:Int)) == 0)) (by simp;omega) ?_
   exact mQe (Value.bool false) h22 (by rw [rg_bad hinv hlt q1 (by rw [← q2];exact q4) (by omega)])
  ·
   refine mT (x_dp (v:=.bool false) h11 36 [(Value.int .i64 r11),(Value.int .i64 0)] (by kernel_rfl) (q4 ▸ rletter_any _ (by omega) (by omega) _)) ?_
   rintro _ w24 ⟨rfl,h24⟩
   refine mX 25 (.bool false) (Value.bool (((i:Int)) == 0)) (by simp;omega) ?_
   refine mX 28 (.bool false) (Value.bool (r11 != 45)) (by simp;omega) ?_
   have hm:=runeL_len q1 (by omega)
   rw [hdl] at hm
   have hgo:=rg_go hinv hlt q1 (.inr ⟨q5,by omega⟩)
   refine mW 41 (exec_add _ _ _ _ bO ((i:Int)) k11 (by kernel_rfl) (by kernel_rfl) (((i+m:Nat):Int)) (by omega) (by omega) (by omega) _) ?_
   refine mW 12 (exec_add _ _ _ _ bO ((n:Int)) 1 (by kernel_rfl) (by kernel_rfl) (((n+1:Nat):Int)) (by omega) (by omega) (by omega) _) ?_
   exact mK KL5 (hKL5 _ _ ⟨s.size-((i+m)),_,(by omega),f,((i+m)),((n+1)),(by omega),(by omega),(by omega),hgo,rfl,pM,h24.sel [] [] (by kernel_rfl) rfl rfl⟩)
  ·
   refine mT (x_dp (v:=.bool false) h11 36 [(Value.int .i64 r11),(Value.int .i64 0)] (by kernel_rfl) (q4 ▸ rletter_any _ (by omega) (by omega) _)) ?_
   rintro _ w25 ⟨rfl,h25⟩
   refine mX 25 (.bool false) (Value.bool (((i:Int)) == 0)) (by simp;omega) ?_
   refine mX 28 (.bool true) (Value.bool (r11 != 45)) (by simp;omega) ?_
   refine mX 31 (.bool true) (Value.bool (decide (r11<48))) (by simp;omega) ?_
   exact mQe (Value.bool false) h25 (by rw [rg_bad hinv hlt q1 (by rw [← q2];exact q4) (by omega)])
  ·
   refine mT (x_dp (v:=.bool false) h11 36 [(Value.int .i64 r11),(Value.int .i64 0)] (by kernel_rfl) (q4 ▸ rletter_any _ (by omega) (by omega) _)) ?_
   rintro _ w27 ⟨rfl,h27⟩
   refine mX 25 (.bool false) (Value.bool (((i:Int)) == 0)) (by simp;omega) ?_
   refine mX 28 (.bool true) (Value.bool (r11 != 45)) (by simp;omega) ?_
   refine mX 31 (.bool false) (Value.bool (decide (r11<48))) (by simp;omega) ?_
   refine mX 34 (.bool true) (Value.bool (decide (r11>57))) (by simp;omega) ?_
   exact mQe (Value.bool false) h27 (by rw [rg_bad hinv hlt q1 (by rw [← q2];exact q4) (by omega)])
  refine mT (x_dp (v:=.bool false) h11 36 [(Value.int .i64 r11),(Value.int .i64 0)] (by kernel_rfl) (q4 ▸ rletter_any _ (by omega) (by omega) _)) ?_
  rintro _ w29 ⟨rfl,h29⟩
  refine mX 25 (.bool false) (Value.bool (((i:Int)) == 0)) (by simp;omega) ?_
  refine mX 28 (.bool true) (Value.bool (r11 != 45)) (by simp;omega) ?_
  refine mX 31 (.bool false) (Value.bool (decide (r11<48))) (by simp;omega) ?_
  refine mX 34 (.bool false) (Value.bool (decide (r11>57))) (by simp;omega) ?_
  have hm:=runeL_len q1 (by omega)
  rw [hdl] at hm
  have hgo:=rg_go hinv hlt q1 (.inr ⟨q5,by omega⟩)
  refine mW 41 (exec_add _ _ _ _ bO ((i:Int)) k11 (by kernel_rfl) (by kernel_rfl) (((i+m:Nat):Int)) (by omega) (by omega) (by omega) _) ?_
  refine mW 12 (exec_add _ _ _ _ bO ((n:Int)) 1 (by kernel_rfl) (by kernel_rfl) (((n+1:Nat):Int)) (by omega) (by omega) (by omega) _) ?_
  exact mK KL5 (hKL5 _ _ ⟨s.size-((i+m)),_,(by omega),f,((i+m)),((n+1)),(by omega),(by omega),(by omega),hgo,rfl,pM,h29.sel [] [] (by kernel_rfl) rfl rfl⟩)
 rcases (by omega:n=0∨(1<=n/\n<=16)∨(1<=n/\16<n)) with hz|hz|hz
 ·
  refine mX 43 (.bool false) (Value.bool (decide ((n:Int) ≥ 1))) (by simp;omega) ?_
  exact mQe (Value.bool false) h5 (by rw [rightN_some (hinv.trans (runesN_end rfl (by omega)))];simp;omega)
 ·
  refine mX 43 (.bool true) (Value.bool (decide ((n:Int) ≥ 1))) (by simp;omega) ?_
  refine mX 46 (.bool true) (Value.bool (decide ((n:Int)<=16))) (by simp;omega) ?_
  exact mQe (Value.bool true) h5 (by rw [rightN_some (hinv.trans (runesN_end rfl (by omega)))];simp;omega)
 refine mX 43 (.bool true) (Value.bool (decide ((n:Int) ≥ 1))) (by simp;omega) ?_
 refine mX 46 (.bool false) (Value.bool (decide ((n:Int)<=16))) (by simp;omega) ?_
 exact mQe (Value.bool false) h5 (by rw [rightN_some (hinv.trans (runesN_end rfl (by omega)))];simp;omega)
end
section
open Go.RowKit Go.QT
section
variable{o:Oper}{a:Act}{F0 F:Nat->Prop}{w0 w w':World}{ro rs:List Res}{tb:Nat}{s:STab}
theorem x_knew(h:Hp F0 w0 w ro rs)(i:Nat)(hi:rs[i]?=some (rTab F tb s))(hs:Room 5 s)(hp:pureVal Tryz.prog (execOp a.eval o)=some (.enter 40 #[.iface 28 (pt tb 0)])) :
   OpTo Tryz.prog o a w (fun u w'=>∃ kb G bb F' K s',u=pt kb 0/\kl K=mkB 107 (s.keys.length+1)/\s'=s.add SFrom.fresh/\Hp F0 w0 w' ro (rBlk kb 78 (kdcC tb bb K)::rBs G bb []::rTab F' tb s'::rs.eraseIdx i)):=
 OpTo.enter 40 [.iface 28 (pt tb 0)] hp (knew_any (h.at_ i hi) hs) fun _ _ ⟨kb,G,bb,F',K,he,hK,hh⟩=>⟨_,he,kb,G,bb,F',K,_,rfl,hK,rfl,h.call1 i hi hh⟩
/-- Enrol. -/
theorem x_enrol{G:Nat->Prop}{bb:Nat}{us us':List User}{f:SFrom}{er:Int}(h:Hp F0 w0 w ro rs)(i j:Nat)(hi:rs[i]?=some (rTab F tb s))(hj:rs[j]?=some (rBs G bb us))(hij:decide (i≠j)=true)(al:List Value)(hp:pureVal Tryz.prog (execOp a.eval o)=some (.enter 26 al.toArray))
   (hc:Calls Tryz.prog 26 al.toArray w (fun e w'=>e=.returned (.int .i64 er)/\∃ F' G',Hp (fun q=>F q∨G q) w w' [] [rTab F' tb (s.made f),rBs G' bb us'])) :
   OpTo Tryz.prog o a w (fun u w'=>∃ F' G' s',u=.int .i64 er/\s'=s.made f/\Hp F0 w0 w' ro ((rs.set i (rTab F' tb s')).set j (rBs G' bb us'))):=
 OpTo.enter 26 al hp hc fun _ _ ⟨he,F',G',hh⟩=>⟨_,he,F',G',_,rfl,rfl,h.upd2 i j hi hj (of_decide_eq_true hij) hh⟩
/-- As, where it gives. -/
theorem x_asY{s2:STab}{nm:ByteArray}{m1 m2:Bytes}(h:Hp F0 w0 w ro rs)(i:Nat)(hi:rs[i]?=some (rTab F tb s))(al:List Value)(hp:pureVal Tryz.prog (execOp a.eval o)=some (.enter 45 al.toArray))
   (hc:Calls Tryz.prog 45 al.toArray w (fun e w'=>∃ A1 c1 A2 c2 F',e=.returned (.tuple #[.agg #[.string nm,.string ⟨#[107,100,99]⟩,.slice A1 16 c1,.slice A2 16 c2],.int .i64 0])/\Hp F w w' [] [rTab F' tb s2,rSB (.slice A1 16 c1) m1,rSB (.slice A2 16 c2) m2])) :
   OpTo Tryz.prog o a w (fun u w'=>∃ A1 c1 A2 c2 F' s',u=.tuple #[.agg #[.string nm,.string ⟨#[107,100,99]⟩,.slice A1 16 c1,.slice A2 16 c2],.int .i64 0]/\s'=s2/\Hp F0 w0 w' ro (rTab F' tb s'::rSB (.slice A1 16 c1) m1::rSB (.slice A2 16 c2) m2::rs.eraseIdx i)):=
 OpTo.enter 45 al hp hc fun _ _ ⟨A1,c1,A2,c2,F',he,hh⟩=>⟨_,he,A1,c1,A2,c2,F',_,rfl,rfl,h.call1 i hi hh⟩
end
end
section
open Go.RowKit Go.QT
theorem undBm:Tryz.prog.underlying 162=some (.map 9 2):=by kernel_rfl
theorem undBs:Tryz.prog.underlying 9=some .string:=by kernel_rfl
theorem zi64(W:World):(zeroValue 2).run Tryz.prog W=.ok (.int .i64 0) W:=by kernel_rfl
theorem ckStr(em:Bool)(n:Nat)(s:ByteArray)(w:World):(Instr.checkKey em (n+1) 9 (.string s)).run Tryz.prog w=.ok () w:=by
 simp only [Instr.checkKey,Sem.run_bind,run_underlying undBs,Result.andThen_ok];rfl
/-- What it holds, and since when. -/
def bmE(o:Option (ByteArray × Int))(b:Nat):Array MapEntry:=match o with
 | none=>#[]
 | some p=>#[{ key:=.string p.1,val:=.int .i64 p.2,born:=b }]
def bmF(o:Option (ByteArray × Int))(s:ByteArray):Option (Nat × Value):=match o with
 | none=>none
 | some p=>if s=p.1 then some (0,.int .i64 p.2) else none
theorem beq_ba(a b:ByteArray):(a == b)=decide (a=b):=by
 rw [beq_toListBytes,ByteArray.toList_eq,ByteArray.toList_eq,Bool.eq_iff_iff,beq_iff_eq,decide_eq_true_eq]
 exact ⟨fun h=>by obtain ⟨⟨a⟩⟩:=a;obtain ⟨⟨b⟩⟩:=b;simp_all,fun h=>by rw [h]⟩
theorem bm_find(o:Option (ByteArray × Int))(b:Nat)(s:ByteArray)(w:World):(Instr.findKey 9 (.string s) (bmE o b).toList).run Tryz.prog w=.ok (bmF o s) w:=by
 cases o with
 | none=>simp only [Instr.findKey,Sem.run_bind,run_underlying undBs,Result.andThen_ok,bmE,Instr.findNow,Sem.run_pure,bmF]
 | some p =>
   simp only [Instr.findKey,Sem.run_bind,run_underlying undBs,Result.andThen_ok,bmE,bmF,Instr.findNow,Instr.sameNow]
   rw [beq_ba]
   by_cases e:s=p.1
   · rw [decide_eq_true e,if_pos e];rfl
   rw [decide_eq_false e,if_neg e];rfl
def rBm(mb:Nat)(o:Option (ByteArray × Int)):Res where
 F:=fun q=>q=mb
 Φ:=fun w=>∃ b clock,w.heap[mb]?=some (.map (bmE o b) clock)/\b<clock+1/\(o≠none->b<clock)
 lt:=fun h q hq=>by
   obtain ⟨b,clock,hm,_⟩:=h
   rw [show q=mb from hq];exact (Array.getElem?_eq_some_iff.1 hm).1
 keep:=fun h _ hk=>by
   obtain ⟨b,clock,hm,h2⟩:=h
   exact ⟨b,clock,(hk mb rfl).trans hm,h2⟩
/-- .. while it is gone through: ph: whether what it held was handed out. -/
def rBi(mb r:Nat)(o:Option (ByteArray × Int))(ph:Bool):Res where
 F:=fun q=>q=mb∨q=r
 Φ:=fun w=>mb≠r/\∃ b clock since last,w.heap[mb]?=some (.map (bmE o b) clock)/\w.heap[r]?=some (.mapIter (some mb) since (if ph then #[b] else #[]) last)/\since<=clock/\last<=clock/\(o≠none->b<since)/\(ph=true->b<last)
 lt:=fun h q hq=>by
   obtain ⟨_,b,clock,since,last,hm,hr,_⟩:=h
   rcases hq with rfl|rfl
   · exact (Array.getElem?_eq_some_iff.1 hm).1
   exact (Array.getElem?_eq_some_iff.1 hr).1
 keep:=fun h _ hk=>by
   obtain ⟨hne,b,clock,since,last,hm,hr,h2⟩:=h
   exact ⟨hne,b,clock,since,last,(hk mb (.inl rfl)).trans hm,(hk r (.inr rfl)).trans hr,h2⟩
section
variable{F0:Nat->Prop}{w0 w w':World}{ro rs:List Res}{mb r:Nat}{o':Option (ByteArray × Int)}{o:Oper}{a:Act}{s:ByteArray}{t:Int}{ph:Bool}
theorem frBm(ob:Obj):Fr (fun q=>q=mb) w { w with heap:=w.heap.setIfInBounds mb ob }:=⟨rfl,rfl,rfl,by simp,fun q _ hq=>by
 have:mb≠q:=fun e=>hq e.symm
 simp [this]⟩
theorem frBi(ob:Obj):Fr (fun q=>q=mb∨q=r) w { w with heap:=w.heap.setIfInBounds mb ob }:=⟨rfl,rfl,rfl,by simp,fun q _ hq=>by
 have:mb≠q:=fun e=>hq (.inl e.symm)
 simp [this]⟩
/-- Asked for a name. -/
theorem e_bmLook(h:(rBm mb o').Φ w)(x y:Operand)(ho:o.op=.lookup 162 x y true)(s:ByteArray)(hx:a.eval x=.map (some mb))(hy:a.eval y=.string s)(v:Value)(hv:(match bmF o' s with|some p=>Value.tuple #[p.2,.bool true] | none=>.tuple #[.int .i64 0,.bool false])=v) :
   (execOp a.eval o).run Tryz.prog w=.ok (.value v) w:=by
 obtain ⟨b,clock,hm,_⟩:=h
 have hobj:(getObj mb).run Tryz.prog w=.ok (.map (bmE o' b) clock) w:=by simp [getObj,Sem.run,hm]
 subst hv
 unfold execOp
 simp only [ho,hx,hy,Instr.lookup,Sem.run_bind,run_underlying undBm,Result.andThen_ok,hobj,Sem.run_pure,ckStr _ 9999 s,bm_find]
 cases bmF o' s with
 | none=>simp only [Sem.run_bind,zi64,Result.andThen_ok,Sem.run_pure];rfl
 | some p=>rfl
/-- How many it holds. -/
theorem e_bmLen(h:(rBm mb o').Φ w)(x:Operand)(ho:o.op=.call { callee:=.builtin .len,args:=#[x],argTypes:=#[162] })(hx:a.eval x=.map (some mb))(n:Int)(hn:((match o' with|none=>0|some _=>1:Nat):Int)=n) :
   (execOp a.eval o).run Tryz.prog w=.ok (.value (.int .i64 n)) w:=by
 obtain ⟨b,clock,hm,_⟩:=h
 subst hn
 have hobj:(getObj mb).run Tryz.prog w=.ok (.map (bmE o' b) clock) w:=by simp [getObj,Sem.run,hm]
 unfold execOp
 simp only [ho,resolve,invoke,builtin,Sem.run_bind,Sem.run_pure,Result.andThen_ok,List.map_toArray,List.map_cons,List.map_nil,hx]
 cases o' <;> simp [Builtin.len_,run_underlying undBm,hobj,bmE,goInt]
/-- A name is let go. -/
theorem x_bmDel(h:Hp F0 w0 w ro rs)(i:Nat)(hi:rs[i]?=some (rBm mb o'))(x y:Operand)(ty:TypeId)(ho:o.op=.call { callee:=.builtin .delete,args:=#[x,y],argTypes:=#[162,ty] })(s:ByteArray)(hx:a.eval x=.map (some mb))(hy:a.eval y=.string s)(hs:∀ p,o'=some p->p.1=s) :
   OpTo Tryz.prog o a w (fun _ w'=>Hp F0 w0 w' ro (rs.set i (rBm mb none))):=by
 obtain ⟨b,clock,hm,h1,h2⟩:=h.own i _ hi
 have hlt:mb<w.heap.size:=(Array.getElem?_eq_some_iff.1 hm).1
 have hobj:(getObj mb).run Tryz.prog w=.ok (.map (bmE o' b) clock) w:=by simp [getObj,Sem.run,hm]
 have he:(bmE o' b).eraseIdxIfInBounds 0=(bmE none b)/\((bmF o' s=none->o'=none)/\∀ p,bmF o' s=some p->p.1=0):=by
   cases o' with
   | none=>exact ⟨rfl,fun _=>rfl,fun p hp=>by cases hp⟩
   | some p =>
     have e:=hs p rfl
     refine ⟨by simp [bmE,Array.eraseIdxIfInBounds],fun hh=>?_,fun p' hp=>?_⟩
     · simp [bmF,e] at hh
     simp [bmF,e] at hp;rw [← hp]
 refine OpTo.run (.tuple #[]) (w':={ w with heap:=w.heap.setIfInBounds mb (.map (bmE none b) clock) }) ?_ (h.upd i hi (frBm _) (rBm mb none) ⟨b,clock,by simp [hlt],h1,fun hh=>absurd rfl hh⟩ (fun q hq=>.inl hq))
 unfold execOp
 simp only [ho,resolve,invoke,builtin,Sem.run_bind,Sem.run_pure,Result.andThen_ok,List.map_toArray,List.map_cons,List.map_nil,hx,hy]
 cases hf:bmF o' s with
 | none =>
   have e:=he.2.1 hf
   subst e
   simp [Builtin.delete_,run_underlying undBm,hobj,ckStr _ 9999 s,bm_find,hf,setObj,Sem.run,hm]
 | some p =>
   have e:=he.2.2 p hf
   obtain ⟨i0,v⟩:=p
   subst e
   simp [Builtin.delete_,run_underlying undBm,hobj,ckStr _ 9999 s,bm_find,hf,setObj,Sem.run,hm,he.1]
/-- A name is set (or set anew). -/
theorem x_bmUpd(h:Hp F0 w0 w ro rs)(i:Nat)(hi:rs[i]?=some (rBm mb o'))(x y z:Operand)(ho:o.op=.mapUpdate 162 x y z)(s:ByteArray)(t:Int)(hx:a.eval x=.map (some mb))(hy:a.eval y=.string s)(hz:a.eval z=.int .i64 t)(hs:∀ p,o'=some p->p.1=s) :
   OpTo Tryz.prog o a w (fun _ w'=>Hp F0 w0 w' ro (rs.set i (rBm mb (some (s,t))))):=by
 obtain ⟨b,clock,hm,h1,h2⟩:=h.own i _ hi
 have hlt:mb<w.heap.size:=(Array.getElem?_eq_some_iff.1 hm).1
 have hobj:(getObj mb).run Tryz.prog w=.ok (.map (bmE o' b) clock) w:=by simp [getObj,Sem.run,hm]
 cases o' with
 | none =>
   refine OpTo.runs (w':={ w with heap:=w.heap.setIfInBounds mb (.map (bmE (some (s,t)) clock) (clock+1)) }) ?_ (h.upd i hi (frBm _) (rBm mb (some (s,t))) ⟨clock,clock+1,by simp [hlt],by omega,fun _=>by omega⟩ (fun q hq=>.inl hq))
   unfold execOp
   simp only [ho,hx,hy,hz,Instr.mapUpdate,Sem.run_bind,run_underlying undBm,Result.andThen_ok,hobj,ckStr _ 9999 s,bm_find,bmF]
   simp [setObj,Sem.run,hm,bmE]
 | some p =>
   obtain ⟨p1,p2⟩:=p
   obtain rfl:p1=s:=hs _ rfl
   refine OpTo.runs (w':={ w with heap:=w.heap.setIfInBounds mb (.map (bmE (some (p1,t)) b) clock) }) ?_ (h.upd i hi (frBm _) (rBm mb (some (p1,t))) ⟨b,clock,by simp [hlt],h1,fun _=>h2 (by simp)⟩ (fun q hq=>.inl hq))
   have hk:Instr.sameBits 10000 (.string p1) (.string p1)=true:=by show (p1 == p1)=true;rw [beq_ba];simp
   have h0:(bmE (some (p1,p2)) b)[0]?=some { key:=.string p1,val:=.int .i64 p2,born:=b }:=rfl
   have hmod:(bmE (some (p1,p2)) b).modify 0 (fun e=>{ e with key:=.string p1,val:=.int .i64 t })=bmE (some (p1,t)) b:=by
     apply Array.ext_getElem?
     intro j
     rw [Array.getElem?_modify]
     by_cases e:0=j
     · subst e;simp [bmE]
     rw [if_neg e]
     cases j with
     | zero=>exact absurd rfl e
     | succ j=>rfl
   unfold execOp
   simp only [ho,hx,hy,hz,Instr.mapUpdate,Sem.run_bind,run_underlying undBm,Result.andThen_ok,hobj,ckStr _ 9999 p1,bm_find,bmF,if_true,Instr.keyThatStays,h0,Option.map_some,Option.getD_some,hk,Sem.run_pure,hmod]
   simp [setObj,Sem.run,hm]
/-- It is gone through. -/
theorem x_bmRange(h:Hp F0 w0 w ro rs)(i:Nat)(hi:rs[i]?=some (rBm mb o'))(x:Operand)(ho:o.op=.range 162 x)(hx:a.eval x=.map (some mb)) :
   OpTo Tryz.prog o a w (fun v w'=>∃ r,v=pt r 0/\Hp F0 w0 w' ro (rs.set i (rBi mb r o' false))):=by
 obtain ⟨b,clock,hm,h1,h2⟩:=h.own i _ hi
 have hlt:mb<w.heap.size:=(Array.getElem?_eq_some_iff.1 hm).1
 have hrun:=run_range_map (P:=Tryz.prog) w 162 9 2 mb _ clock undBm hm
 refine OpTo.run (pt w.heap.size 0) (w':=w.alloc (.mapIter (some mb) clock #[] clock)) ?_ ⟨_,rfl,?_⟩
 · unfold execOp
   simp only [ho,hx,Sem.run_bind,hrun,Result.andThen_ok,Sem.run_pure]
   rfl
 refine h.upd i hi (Fr.of_below _ ((Below.refl _ _).alloc (Nat.le_refl _) _)) (rBi mb w.heap.size o' false) ⟨by omega,b,clock,clock,clock,?_,heap_alloc_new w _,Nat.le_refl _,Nat.le_refl _,h2,fun hh=>by cases hh⟩ (fun q hq=>?_)
 · rw [Below.heap_alloc w _ mb hlt];exact hm
 rcases hq with hq|hq
 · exact .inl hq
 exact .inr (by rw [hq];exact Nat.le_refl _)
theorem rBi_bm(h:(rBi mb r o' ph).Φ w):(rBm mb o').Φ w:=by
 obtain ⟨_,b,clock,since,last,hm,_,h1,h2,h3,h4⟩:=h
 cases o' with
 | none=>exact ⟨0,clock,hm,by omega,fun hh=>absurd rfl hh⟩
 | some p=>exact ⟨b,clock,hm,by have:=h3 (by simp);omega,fun _=>by have:=h3 (by simp);omega⟩
theorem choose_1(w:World):∃ k,(choose (Question.mapNext 1)).run Tryz.prog w=.ok 0 (w.drewN k):=⟨0,by simp [choose,Sem.run,Question.forced];rfl⟩
theorem frR(ob:Obj)(k:Nat):Fr (fun q=>q=mb∨q=r) w { w.drewN k with heap:=w.heap.setIfInBounds r ob }:=⟨rfl,rfl,rfl,by simp,fun q _ hq=>by
 have:r≠q:=fun e=>hq (.inr e.symm)
 simp [this]⟩
/-- Nothing is left. -/
theorem run_bmOver(h:(rBi mb r o' ph).Φ w)(hp:ph=true∨o'=none):∃ k,∀ ty,(Instr.next (pt r 0) false ty).run Tryz.prog w=.ok (.tuple #[.bool false]) (w.drewN k):=by
 obtain ⟨hne,b,clock,since,last,hm,hr,h1,h2,h3,h4⟩:=h
 have ho1:(getObj r).run Tryz.prog w=.ok (.mapIter (some mb) since (if ph then #[b] else #[]) last) w:=by simp [getObj,Sem.run,hr]
 have ho2:(getObj mb).run Tryz.prog w=.ok (.map (bmE o' b) clock) w:=by simp [getObj,Sem.run,hm]
 have htest:(!(if ph then #[b] else #[]:Array Nat).isEmpty && !(bmE o' b).isEmpty && (bmE o' b).all (fun x=>decide (x.born ≥ last)))=false:=by
   cases ph with
   | false=>rfl
   | true =>
     have:=h4 rfl
     cases o' with
     | none=>rfl
     | some p=>simp [bmE];omega
 have hL:(bmE o' b).filter (fun e=>!(if ph then #[b] else #[]:Array Nat).contains e.born)=#[]:=by
   cases o' with
   | none=>rfl
   | some p =>
     rcases hp with rfl|hp
     · simp [bmE]
     cases hp
 obtain ⟨k,hk⟩:=choose_1 w
 refine ⟨k,fun ty=>?_⟩
 unfold Instr.next
 simp only [pt,Sem.run_bind,ho1,ho2,Result.andThen_ok,htest,Bool.false_eq_true,if_false,hL]
 have e0:Array.filter (fun x:MapEntry=>decide (x.born<since)) #[]=#[]:=by simp
 have e1:Array.filter (fun x:MapEntry=>decide (x.born ≥ since)) #[]=#[]:=by simp
 have hC:((if (#[]:Array MapEntry).isEmpty=true then #[none] else #[])++Array.map some (#[]++#[]:Array MapEntry):Array (Option MapEntry))=#[none]:=by simp
 have hk':(choose (Question.mapNext (#[none]:Array (Option MapEntry)).size)).run Tryz.prog w=.ok 0 (w.drewN k):=hk
 simp only [e0,e1,hC,hk',Result.andThen_ok]
 rfl
/-- The one is handed out. -/
theorem run_bmNext{p:ByteArray × Int}(h:(rBi mb r (some p) false).Φ w):∃ w',(∀ ty,(Instr.next (pt r 0) false ty).run Tryz.prog w=.ok (.tuple #[.bool true,.string p.1,.int .i64 p.2]) w')/\(rBi mb r (some p) true).Φ w'/\Fr (fun q=>q=mb∨q=r) w w'/\(Instr.entry (pt r 0)).run Tryz.prog w'=.ok (.tuple #[.string p.1,.int .i64 p.2]) w':=by
 obtain ⟨hne,b,clock,since,last,hm,hr,h1,h2,h3,h4⟩:=h
 have hb:b<since:=h3 (by simp)
 have ho1:(getObj r).run Tryz.prog w=.ok (.mapIter (some mb) since #[] last) w:=by simp [getObj,Sem.run,hr]
 have ho2:(getObj mb).run Tryz.prog w=.ok (.map (bmE (some p) b) clock) w:=by simp [getObj,Sem.run,hm]
 have hlt:r<w.heap.size:=(Array.getElem?_eq_some_iff.1 hr).1
 have hlm:mb<w.heap.size:=(Array.getElem?_eq_some_iff.1 hm).1
 obtain ⟨k,hk⟩:=choose_1 w
 have hL:(bmE (some p) b).filter (fun e=>!(#[]:Array Nat).contains e.born)=bmE (some p) b:=by simp [bmE]
 have hO:(bmE (some p) b).filter (fun x=>decide (x.born<since))=bmE (some p) b:=by simp [bmE,hb]
 have hN:(bmE (some p) b).filter (fun x=>decide (x.born ≥ since))=#[]:=by simp [bmE];omega
 have hset:(setObj r (.mapIter (some mb) since #[b] clock)).run Tryz.prog (w.drewN k)=.ok () { w.drewN k with heap:=w.heap.setIfInBounds r (.mapIter (some mb) since #[b] clock) }:=by
   have:(w.drewN k).heap[r]?=some (.mapIter (some mb) since #[] last):=hr
   simp only [setObj,Sem.run,this]
   rfl
 refine ⟨{ w.drewN k with heap:=w.heap.setIfInBounds r (.mapIter (some mb) since #[b] clock) },fun ty=>?_,⟨hne,b,clock,since,clock,?_,by simp [hlt],h1,Nat.le_refl _,h3,fun _=>by omega⟩,frR _ k,?_⟩
 · unfold Instr.next
   simp only [pt,Sem.run_bind,ho1,ho2,Result.andThen_ok,hL,hO,hN]
   have hC:((if (bmE (some p) b).isEmpty=true then #[none] else #[])++Array.map some (bmE (some p) b++#[]:Array MapEntry):Array (Option MapEntry))=#[some { key:=.string p.1,val:=.int .i64 p.2,born:=b }]:=by simp [bmE]
   have hk':(choose (Question.mapNext (#[some { key:=.string p.1,val:=.int .i64 p.2,born:=b }]:Array (Option MapEntry)).size)).run Tryz.prog w=.ok 0 (w.drewN k):=hk
   have ht:(!(#[]:Array Nat).isEmpty && !(bmE (some p) b).isEmpty && (bmE (some p) b).all (fun x=>decide (x.born ≥ last)))=false:=rfl
   simp only [ht,Bool.false_eq_true,if_false,hC,Sem.run_bind,hk',Result.andThen_ok]
   show ((setObj r (.mapIter (some mb) since (#[].push b) clock) >>= fun _=>pure (Value.tuple #[.bool true,.string p.1,.int .i64 p.2]):Sem Value).run Tryz.prog (w.drewN k))=_
   simp only [Sem.run_bind,show (#[]:Array Nat).push b=#[b] from rfl,hset,Result.andThen_ok,Sem.run_pure]
 · show (w.heap.setIfInBounds r _)[mb]?=_
   rw [Array.getElem?_setIfInBounds_ne (Ne.symm hne)];exact hm
 have ho3:(getObj r).run Tryz.prog { w.drewN k with heap:=w.heap.setIfInBounds r (.mapIter (some mb) since #[b] clock) }=.ok (.mapIter (some mb) since #[b] clock) { w.drewN k with heap:=w.heap.setIfInBounds r (.mapIter (some mb) since #[b] clock) }:=by simp [getObj,Sem.run,hlt]
 have ho4:(getObj mb).run Tryz.prog { w.drewN k with heap:=w.heap.setIfInBounds r (.mapIter (some mb) since #[b] clock) }=.ok (.map (bmE (some p) b) clock) { w.drewN k with heap:=w.heap.setIfInBounds r (.mapIter (some mb) since #[b] clock) }:=by simp [getObj,Sem.run,Array.getElem?_setIfInBounds_ne (Ne.symm hne),hm]
 unfold Instr.entry
 simp only [pt,Sem.run_bind,ho3,ho4,Result.andThen_ok,show (#[b]:Array Nat).back?=some b from rfl,bne_self_eq_false,Bool.false_eq_true,if_false]
 simp [bmE]
/-- A step of it, in a walk. -/
theorem x_bmOver(h:Hp F0 w0 w ro rs)(i:Nat)(hi:rs[i]?=some (rBi mb r o' ph))(hp:ph=true∨o'=none)(x:Operand)(ho:o.op=.next x false)(hx:a.eval x=pt r 0) :
   OpTo Tryz.prog o a w (fun u w'=>u=.tuple #[.bool false]/\Hp F0 w0 w' ro (rs.set i (rBm mb o'))):=by
 obtain ⟨k,hrun⟩:=run_bmOver (h.own i _ hi) hp
 refine OpTo.run _ (w':=w.drewN k) ?_ ⟨rfl,?_⟩
 · unfold execOp
   simp only [ho,hx,Sem.run_bind,hrun,Result.andThen_ok,Sem.run_pure]
 exact h.upd i hi ((Fr.refl _ w).drewN k) (rBm mb o') (rBi_bm ((rBi mb r o' ph).keep (h.own i _ hi) (Nat.le_refl _) fun _ _=>rfl)) (fun q hq=>.inl (.inl hq))
theorem x_bmNext{p:ByteArray × Int}(h:Hp F0 w0 w ro rs)(i:Nat)(hi:rs[i]?=some (rBi mb r (some p) false))(x:Operand)(ho:o.op=.next x false)(hx:a.eval x=pt r 0) :
   OpTo Tryz.prog o a w (fun u w'=>u=.tuple #[.bool true,.string p.1,.int .i64 p.2]/\Hp F0 w0 w' ro (rs.set i (rBi mb r (some p) true))/\(Instr.entry (pt r 0)).run Tryz.prog w'=.ok (.tuple #[.string p.1,.int .i64 p.2]) w'):=by
 obtain ⟨w',hrun,h2,hf,he⟩:=run_bmNext (h.own i _ hi)
 refine OpTo.run _ (w':=w') ?_ ⟨rfl,h.upd i hi hf _ h2 (fun q hq=>.inl hq),he⟩
 unfold execOp
 simp only [ho,hx,Sem.run_bind,hrun,Result.andThen_ok,Sem.run_pure]
theorem e_bmEntry{v:Value}(x:Operand)(ho:o.op=.entry x)(hx:a.eval x=pt r 0)(hr:(Instr.entry (pt r 0)).run Tryz.prog w=.ok v w):(execOp a.eval o).run Tryz.prog w=.ok (.value v) w:=by
 unfold execOp
 simp only [ho,hx,Sem.run_bind,hr,Result.andThen_ok,Sem.run_pure]
/-- What was handed out is let go. -/
theorem x_bmDelI(h:Hp F0 w0 w ro rs)(i:Nat){p:ByteArray × Int}(hi:rs[i]?=some (rBi mb r (some p) true))(x y:Operand)(ty:TypeId)(ho:o.op=.call { callee:=.builtin .delete,args:=#[x,y],argTypes:=#[162,ty] })(hx:a.eval x=.map (some mb))(hy:a.eval y=.string p.1) :
   OpTo Tryz.prog o a w (fun _ w'=>Hp F0 w0 w' ro (rs.set i (rBi mb r none true))):=by
 obtain ⟨hne,b,clock,since,last,hm,hr,h1,h2,h3,h4⟩:=h.own i _ hi
 have hlt:mb<w.heap.size:=(Array.getElem?_eq_some_iff.1 hm).1
 have hobj:(getObj mb).run Tryz.prog w=.ok (.map (bmE (some p) b) clock) w:=by simp [getObj,Sem.run,hm]
 have he:(bmE (some p) b).eraseIdxIfInBounds 0=bmE none b:=by simp [bmE,Array.eraseIdxIfInBounds]
 have hf:bmF (some p) p.1=some (0,.int .i64 p.2):=by simp [bmF]
 refine OpTo.run (.tuple #[]) (w':={ w with heap:=w.heap.setIfInBounds mb (.map (bmE none b) clock) }) ?_ (h.upd i hi (frBi _) (rBi mb r none true) ⟨hne,b,clock,since,last,by simp [hlt],?_,h1,h2,fun hh=>absurd rfl hh,h4⟩ (fun q hq=>.inl hq))
 · unfold execOp
   simp only [ho,resolve,invoke,builtin,Sem.run_bind,Sem.run_pure,Result.andThen_ok,List.map_toArray,List.map_cons,List.map_nil,hx,hy]
   simp [Builtin.delete_,run_underlying undBm,hobj,ckStr _ 9999 p.1,bm_find,hf,setObj,Sem.run,hm,he]
 show (w.heap.setIfInBounds mb _)[r]?=_
 rw [Array.getElem?_setIfInBounds_ne hne];exact hr
end
/-- A book's parts. -/
def lBk(bk mb:Nat)(o:Option (ByteArray × Int)):List Res:=[rBlk bk 164 [.map (some mb)],rBm mb o]
/-- A book. -/
def rBk(G:Nat->Prop)(bk:Nat)(o:Option (ByteArray × Int)):Res where
 F:=G
 Φ:=fun w=>∃ mb,G=(rStar (lBk bk mb o)).F/\(rStar (lBk bk mb o)).Φ w
 lt:=fun ⟨_,hG,h⟩ q hq=>(rStar _).lt h q (hG ▸ hq)
 keep:=fun ⟨mb,hG,h⟩ hs hk=>⟨mb,hG,(rStar _).keep h hs fun q hq=>hk q (hG ▸ hq)⟩
section
variable{F0:Nat->Prop}{w0 w w':World}{ro rs:List Res}{G:Nat->Prop}{bk:Nat}{o:Option (ByteArray × Int)}
theorem Hp.openBk(h:Hp F0 w0 w ro rs)(i:Nat)(hi:rs[i]?=some (rBk G bk o)):∃ mb,G=(rStar (lBk bk mb o)).F/\Hp F0 w0 w ro (lBk bk mb o++rs.eraseIdx i):=by
 obtain ⟨mb,hG,h2⟩:=h.own i _ hi
 exact ⟨mb,hG,h.call1 i hi ⟨Fr.refl _ _,h2.1,fun j r hr q hq=>.inl (hG ▸ ⟨j,r,hr,hq⟩),h2.2,by simp,by simp⟩⟩
theorem Hp.closeBk{mb:Nat}(h:Hp F0 w0 w ro (lBk bk mb o++rs)):Hp F0 w0 w ro (rBk (rStar (lBk bk mb o)).F bk o::rs):=by
 have h1:=h.closeStar
 exact h1.upd 0 rfl (Fr.refl _ _) (rBk (rStar (lBk bk mb o)).F bk o) ⟨mb,rfl,h1.own 0 _ rfl⟩ (fun q hq=>.inl hq)
end
end
section
open Go.RowKit Go.QT
section
variable{o:Oper}{a:Act}{F0 F:Nat->Prop}{w0 w:World}{ro rs:List Res}
theorem e_maxI(x y:Operand)(ts:Array TypeId)(ho:o.op=.call { callee:=.builtin .max,args:=#[x,y],argTypes:=ts })(k k':IntKind)(m n:Int)(hx:a.eval x=.int k m)(hy:a.eval y=.int k' n)(r:Int)(hr:(if n>m then n else m)=r)(W:World) :
   (execOp a.eval o).run Tryz.prog W=.ok (.value (.int k r)) W:=by
 subst hr
 unfold execOp
 simp only [ho,resolve,invoke,builtin,Sem.run_bind,Sem.run_pure,Result.andThen_ok,List.map_toArray,List.map_cons,List.map_nil,hx,hy,run_max_int2]
theorem x_makeBk(h:Hp F0 w0 w ro rs)(ho:o.op=.makeMap 162 none) :
   OpTo Tryz.prog o a w (fun v w'=>∃ mb,v=.map (some mb)/\Hp F0 w0 w' ro (rBm mb none::rs)):=by
 refine OpTo.run (.map (some w.heap.size)) (w':=w.alloc (.map #[] 0)) ?_ ⟨_,rfl,h.newS ((Below.refl _ _).alloc (Nat.le_refl _) _) (rBm w.heap.size none) ⟨0,0,heap_alloc_new w _,by omega,fun hh=>absurd rfl hh⟩ (fun q hq=>by rw [show q=_ from hq];exact Nat.le_refl _)⟩
 have h1:(Instr.makeMap 162 none).run Tryz.prog w=.ok (.map (some w.heap.size)) (w.alloc (.map #[] 0)):=rfl
 unfold execOp
 simp only [ho,Option.map_none,Sem.run_bind,h1,Result.andThen_ok,Sem.run_pure]
theorem x_cnew(h:Hp F0 w0 w ro rs)(hp:pureVal Tryz.prog (execOp a.eval o)=some (.enter 41 #[.int .i64 64]))(hc:Calls Tryz.prog 41 #[.int .i64 64] w (fun e w'=>∃ G cb,e=.returned (pt cb 0)/\Hp (fun _=>False) w w' [] [rCa G cb 64 []])) :
   OpTo Tryz.prog o a w (fun u w'=>∃ G cb,u=pt cb 0/\Hp F0 w0 w' ro (rCa G cb 64 []::rs)):=
 OpTo.enter 41 [.int .i64 64] hp hc fun e w' hq=>by
   obtain ⟨G,cb,he,h2⟩:=hq
   exact ⟨_,he,G,cb,rfl,h.call0 h2⟩
theorem x_bknew(h:Hp F0 w0 w ro rs)(hp:pureVal Tryz.prog (execOp a.eval o)=some (.enter 42 #[]))(hc:Calls Tryz.prog 42 #[] w (fun e w'=>∃ bk mv,e=.returned (pt bk 0)/\Hp (fun _=>False) w w' [] [rBk mv bk none])) :
   OpTo Tryz.prog o a w (fun u w'=>∃ bk mv,u=pt bk 0/\Hp F0 w0 w' ro (rBk mv bk none::rs)):=
 OpTo.enter 42 [] hp hc fun e w' hq=>by
   obtain ⟨bk,mv,he,h2⟩:=hq
   exact ⟨_,he,bk,mv,rfl,h.call0 h2⟩
end
theorem cnew_any(w:World):Calls Tryz.prog 41 #[.int .i64 64] w (fun e w'=>∃ G cb,e=.returned (pt cb 0)/\Hp (fun _=>False) w w' [] [rCa G cb 64 []]):=by
 have h0:=Hp.nil (fun _=>False) w
 refine mE 8 ?_
 refine mW 4 (v:=(Value.int .i64 64)) (e_min (.tmp 3) (.const (Value.int .i64 64)) #[3,3] (by kernel_rfl) .i64 .i64 64 64 (by kernel_rfl) (by kernel_rfl) 64 rfl _) ?_
 refine mW 5 (v:=(Value.int .i64 64)) (e_maxI (.const (Value.int .i64 1)) (.tmp 4) #[3,3] (by kernel_rfl) .i64 .i64 1 64 (by kernel_rfl) (by kernel_rfl) 64 rfl _) ?_
 refine mN h0 171 ([(Value.slice none 0 0),(Value.int .i64 64)]) fun g3 w3 h3=>?_
 refine mP (pt g3 0) ?_
 have h4:=h3.owNil 187 3 none
 exact ⟨_,_,rfl,(show Hp _ _ _ _ (lCa g3 none 0 64 []++[]) from h4.sel [1,0] [] rfl rfl rfl).closeC⟩
theorem bknew_any(w:World):Calls Tryz.prog 42 #[] w (fun e w'=>∃ bk mv,e=.returned (pt bk 0)/\Hp (fun _=>False) w w' [] [rBk mv bk none]):=by
 have h0:=Hp.nil (fun _=>False) w
 refine mE 4 ?_
 refine mT (x_makeBk h0 (by kernel_rfl)) ?_
 rintro _ w3 ⟨m3,rfl,h3⟩
 refine mN h3 164 ([(Value.map (some m3))]) fun g4 w4 h4=>?_
 refine mP (pt g4 0) ?_
 exact ⟨_,_,rfl,(show Hp _ _ _ _ (lBk _ m3 none++[]) from h4.sel [0,1] [] rfl rfl rfl).closeBk⟩
/-- What New leaves. -/
def NwPost(F:Nat->Prop)(tb:Nat)(s:STab)(w:World)(e:Ending)(w':World):Prop:=
 ∃ sv kb cb bk G bb Gc K F' mv,e=.returned (pt sv 0)/\kl K=mkB 107 (s.keys.length+1)/\Hp F w w' [] [rBlk sv 73 (svC kb cb bk),rBlk kb 78 (kdcC tb bb K),rBs G bb [],rCa Gc cb 64 [],rBk mv bk none,rTab F' tb (s.add SFrom.fresh)]
theorem kgnew_any{F:Nat->Prop}{tb:Nat}{s:STab}{w:World}(hT:(rTab F tb s).Φ w)(hs:Room 5 s):Calls Tryz.prog 25 #[(Value.iface 28 (pt tb 0))] w (NwPost F tb s w):=by
 have h0:=Hp.one (rTab F tb s) hT
 refine mE 9 ?_
 refine mT (x_knew h0 0 rfl hs (by kernel_rfl)) ?_
 rintro _ w3 ⟨kb3,G3,bb3,F3,K3,s3,rfl,hK3,hs3,h3⟩
 refine mT (x_cnew h3 (by kernel_rfl) (cnew_any _)) ?_
 rintro _ w4 ⟨G4,g4,rfl,h4⟩
 refine mT (x_bknew h4 (by kernel_rfl) (bknew_any _)) ?_
 rintro _ w5 ⟨g5,m5,rfl,h5⟩
 refine mN h5 73 ([(pt kb3 0),(pt g4 0),(pt g5 0)]) fun g6 w6 h6=>?_
 refine mP (pt g6 0) ?_
 rw [hs3] at h6
 exact ⟨_,_,_,_,_,_,_,_,_,_,rfl,hK3,h6.sel [0,3,4,2,1,5] [] rfl rfl rfl⟩
end
section
open Go.RowKit Go.QT
section
variable{s:STab}{k k':Bytes}{u u':Int}{b b' l β γ:Bytes}{x:SSealed}{t:Thing}{f:SFrom}{i n:Nat}
theorem bx_new(hl:s.boxes.length<1000000):(s.seal k u b).box (mkB 98 (s.boxes.length+1))=some ⟨k,u,b⟩:=
 box_at (s:=s.seal k u b) (n:=s.boxes.length) (by show (s.boxes++[_])[s.boxes.length]?=_;simp) hl
theorem bx_seal(h:s.box l=some x):(s.seal k u b).box l=some x:=by
 unfold STab.box at h ⊢
 cases hm:markOf l with
 | none=>rw [hm] at h;cases h
 | some p =>
   obtain ⟨kd,m⟩:=p
   rw [hm] at h
   simp only at h ⊢
   split at h
   · rename_i hc
     rw [if_pos hc]
     show (s.boxes++[_])[m-1]?=_
     rw [List.getElem?_append_left (List.getElem?_eq_some_iff.1 h).1];exact h
   cases h
theorem seal_len:(s.seal k u b).boxes.length=s.boxes.length+1:=by show (s.boxes++[_]).length=_;simp
theorem bx_dig:(s.digest β).box l=s.box l:=by unfold STab.digest;split <;> rfl
theorem dig_boxes:(s.digest β).boxes=s.boxes:=by unfold STab.digest;split <;> rfl
theorem dig_keys:(s.digest β).keys=s.keys:=by unfold STab.digest;split <;> rfl
theorem op_bx(h:s.box l=some ⟨k,u,b⟩)(hp:packB t=.inr b):openTh s k u l=.inr t:=by
 unfold openTh STab.open_
 rw [h]
 simp only [Option.bind_some,and_self,if_true]
 exact unp_pack hp
/-- Where a sum stands. -/
def SK(s:STab)(β:Bytes)(n:Nat):Prop:=s.sumAt β=n/\n<s.sums.length
theorem sk_new:SK (s.digest β) β (s.sumAt β):=by
 unfold SK STab.digest
 split
 · rename_i h;exact ⟨rfl,h⟩
 rename_i h
 have h0:s.sumAt β=s.sums.length:=by
   have:s.sumAt β<=s.sums.length:=List.findIdx_le_length
   omega
 refine ⟨?_,by show s.sumAt β<(s.sums++[β]).length;rw [h0];simp⟩
 show (s.sums++[β]).findIdx (· = β)=s.sumAt β
 rw [List.findIdx_append]
 have e:s.sums.findIdx (· = β)=s.sums.length:=h0
 rw [if_neg (by omega)]
 simp [STab.sumAt,e]
theorem dig_old(h:SK s β n):s.digest β=s:=by
 unfold STab.digest
 rw [if_pos (by rw [h.1];exact h.2)]
theorem dig_len(h:s.sums.length<=n):(s.digest β).sums.length<=n+1:=by
 unfold STab.digest
 split
 · omega
 show (s.sums++[β]).length<=_;rw [List.length_append];simp;omega
theorem Room.digest{m:Nat}(h:Room m s):Room m (s.digest β):=⟨by rw [dig_boxes];exact h.body,by rw [dig_boxes];exact h.box,by rw [dig_keys];exact h.key⟩
end
section
variable{o:Oper}{a:Act}{F0 F:Nat->Prop}{w0 w:World}{ro rs:List Res}{tb:Nat}{s:STab}
/-- A sum, its table told. -/
theorem x_sumX(h:Hp F0 w0 w ro rs)(i:Nat)(hi:rs[i]?=some (rTab F tb s))(b:Bytes)(al:List Value)(fn:FuncId)(hp:pureVal Tryz.prog (execOp a.eval o)=some (.enter fn al.toArray))(hc:(rTab F tb s).Φ w->Calls Tryz.prog fn al.toArray w (SumPost F tb s b w)) :
   OpTo Tryz.prog o a w (fun u w'=>∃ A c F',u=.slice A 16 c/\Hp F0 w0 w' ro (rTab F' tb (s.digest b)::rSB (.slice A 16 c) (mkB 100 (s.sumAt b+1))::rs.eraseIdx i)):=
 (x_sum h i hi b al fn hp hc).mono fun u w' ⟨A,c,F',s',e,es,h'⟩=>by
   subst es
   exact ⟨A,c,F',e,h'⟩
/-- Text, of what is known. -/
theorem x_textK(h:Hp F0 w0 w ro rs)(i:Nat)(hi:rs[i]?=some (rTab F tb s))(p q:ByteArray)(K:Fin 16->UInt8)(hK:kl K=mkB 107 (s.num (textF p q)))(hm:s.made (textF p q)=s)(hp:pureVal Tryz.prog (execOp a.eval o)=some (.enter 44 #[pt tb 0,.string p,.string q]))(h1:p.size<=1000000)(h2:q.size<=1000000)(hn:s.keys.length<1000000) :
   OpTo Tryz.prog o a w (fun u w'=>∃ F',u=.agg (vb (kl K)).toArray/\Hp F0 w0 w' ro (rs.set i (rTab F' tb s))):=
 (x_text h i hi p q hp h1 h2 hn).mono fun u w' hq=>by
   obtain ⟨K',F',s',e,hK',es,h'⟩:=hq
   obtain rfl:K=K':=kl_inj (hK.trans hK'.symm)
   rw [hm] at es
   subst es
   exact ⟨F',e,h'⟩
/-- tick.Seal, its table told. -/
theorem x_tsX{G:Nat->Prop}(h:Hp F0 w0 w ro rs)(i:Nat)(hi:rs[i]?=some (rTab F tb s))(K:Fin 16->UInt8)(us:Int){x:Value}{t:Thing}{b:Bytes}(hpk:packB t=.inr b)(hp:pureVal Tryz.prog (execOp a.eval o)=some (.enter 28 #[.iface 28 (pt tb 0),.agg (vb (kl K)).toArray,.int .i64 us,x]))(hs:TabOk s)(hu:(rTh G x t).Φ w)(hd:∀ q,G q->¬ F q)(hl:limTh t) :
   OpTo Tryz.prog o a w (fun u w'=>∃ A c F',u=.tuple #[.slice A 16 c,.int .i64 0]/\Hp F0 w0 w' ro (rTab F' tb (s.seal (kl K) us b)::rSB (.slice A 16 c) (mkB 98 (s.boxes.length+1))::rs.eraseIdx i)):=
 (x_tseal h i hi K us hpk hp hs hu hd hl).mono fun u w' hq=>by
   obtain ⟨A,c,F',s',e,es,h'⟩:=hq
   subst es
   exact ⟨A,c,F',e,h'⟩
/-- As, its table told. -/
theorem x_asX{s2:STab}{nm:ByteArray}{m1 m2:Bytes}(h:Hp F0 w0 w ro rs)(i:Nat)(hi:rs[i]?=some (rTab F tb s))(al:List Value)(hp:pureVal Tryz.prog (execOp a.eval o)=some (.enter 45 al.toArray))
   (hc:Calls Tryz.prog 45 al.toArray w (fun e w'=>∃ A1 c1 A2 c2 F',e=.returned (.tuple #[.agg #[.string nm,.string ⟨#[107,100,99]⟩,.slice A1 16 c1,.slice A2 16 c2],.int .i64 0])/\Hp F w w' [] [rTab F' tb s2,rSB (.slice A1 16 c1) m1,rSB (.slice A2 16 c2) m2])) :
   OpTo Tryz.prog o a w (fun u w'=>∃ A1 c1 A2 c2 F',u=.tuple #[.agg #[.string nm,.string ⟨#[107,100,99]⟩,.slice A1 16 c1,.slice A2 16 c2],.int .i64 0]/\Hp F0 w0 w' ro (rTab F' tb s2::rSB (.slice A1 16 c1) m1::rSB (.slice A2 16 c2) m2::rs.eraseIdx i)):=
 (x_asY h i hi al hp hc).mono fun u w' ⟨A1,c1,A2,c2,F',s',e,es,h'⟩=>by
   subst es
   exact ⟨A1,c1,A2,c2,F',e,h'⟩
end
abbrev bANN:ByteArray:=⟨#[97,110,110]⟩
abbrev bBOB:ByteArray:=⟨#[98,111,98]⟩
abbrev bKDC:ByteArray:=⟨#[107,100,99]⟩
/-- A reply's cells. -/
def rpC(fl:Int)(K:Fin 16->UInt8)(n:Int)(s:ByteArray)(a e r:Int):List Value:=[Value.int .i64 fl]++vb (kl K)++[.int .i64 n,.string s,.int .i64 a,.int .i64 e,.int .i64 r]
def dkC(tb sv:Nat)(ra rb:List Value)(x y:Value):List Value:=[pt tb 0,pt sv 0]++ra++rb++[.string bKDC,x,.string bKDC,y]
def zK:Fin 16->UInt8:=fun _=>0
theorem rTh_authent{w:World}{A:Option Addr}{c:Nat}{b:Bytes}(s1:ByteArray)(t q:Int)(K:Fin 16->UInt8)(h:SB w (.slice A b.length c) b):(rTh (rSB (.slice A b.length c) b).F (.iface 100 (.agg (auC s1 t q K (.slice A b.length c)).toArray)) (.authent s1 t q K b)).Φ w:=⟨(rSB _ _).lt h,A,c,rfl,rsg_of h⟩
theorem right_ann:rightN ⟨#[97,110,110]⟩=true:=by decide +kernel
theorem right_bob:rightN ⟨#[98,111,98]⟩=true:=by decide +kernel
theorem right_kdc:rightN ⟨#[107,100,99]⟩=true:=by decide +kernel
theorem pack_authent{s:ByteArray}{t q:Int}{K:Fin 16->UInt8}{c:Bytes}(hr:rightM s [t,q]=true)(hs:s.size<=300)(hc:c.length<=300):∃ b,packB (.authent s t q K c)=.inr b:=by
 refine ⟨_,pack_is hr ?_⟩
 refine Nat.le_trans (val_small (n:=310) ?_ (by simp [valL])) (by decide)
 intro v hv
 simp only [valL,List.mem_cons,List.not_mem_nil,or_false] at hv
 have h1:=wr_bD (kl K)
 have h2:=wr_bD s.data.toList
 have h3:=wr_bD c
 rw [kl_len] at h1
 rw [size_toList] at h2
 rcases hv with rfl|rfl|rfl|rfl|rfl
 · omega
 · have:=wr_nD t;omega
 · have:=wr_nD q;omega
 · omega
 omega
end
section
open Go.RowKit Go.QT
/-- What auth leaves. -/
def AuthPost(F:Nat->Prop)(tb:Nat)(s2:STab)(nb:Nat)(w:World)(e:Ending)(w':World):Prop:=
 ∃ A c F',e=.returned (.slice A 16 c)/\Hp F w w' [] [rTab F' tb s2,rSB (.slice A 16 c) (mkB 98 (nb+1))]
theorem x_auth{o:Oper}{a:Act}{F0 F:Nat->Prop}{w0 w:World}{ro rs:List Res}{tb nb:Nat}{s s2:STab}(h:Hp F0 w0 w ro rs)(i:Nat)(hi:rs[i]?=some (rTab F tb s))(al:List Value)(hp:pureVal Tryz.prog (execOp a.eval o)=some (.enter 11 al.toArray))(hc:Calls Tryz.prog 11 al.toArray w (AuthPost F tb s2 nb w)) :
   OpTo Tryz.prog o a w (fun u w'=>∃ A c F',u=.slice A 16 c/\Hp F0 w0 w' ro (rTab F' tb s2::rSB (.slice A 16 c) (mkB 98 (nb+1))::rs.eraseIdx i)):=
 OpTo.enter 11 al hp hc fun e w' hq=>by
   obtain ⟨A,c,F',he,h2⟩:=hq
   exact ⟨_,he,A,c,F',rfl,h.call1 i hi h2⟩
theorem auth15_any{F:Nat->Prop}{d tb sv:Nat}{s:STab}{df t q n1 a1 e1 r1 f2 n2 a2 e2 r2:Int}{Ka K2:Fin 16->UInt8}{s1 s2:ByteArray}{vx vy:Value}{Rq:Res}{qv:Value}{β b:Bytes}{w:World}(h0:Hp F w w [rBlk d 37 (dkC tb sv (rpC df Ka n1 s1 a1 e1 r1) (rpC f2 K2 n2 s2 a2 e2 r2) vx vy),Rq] [rTab F tb s])(hs:Room 2 s)
   (hSum:∀ w',(rTab F tb s).Φ w'->Rq.Φ w'->Rq.dj (rTab F tb s)->Calls Tryz.prog 23 #[(Value.iface 28 (pt tb 0)),qv] w' (SumPost F tb s β w')) (hp:packB (.authent ⟨#[97,110,110]⟩ t q zK (mkB 100 (s.sumAt β+1)))=.inr b) :
   Calls Tryz.prog 11 #[pt d 0,qv,.int .i64 t,.int .i64 q] w (AuthPost F tb ((s.digest β).seal (kl Ka) 7 b) s.boxes.length w):=by
 have h0:=h0
 refine mE 37 ?_
 refine dG h0 27 26 (fun W=>(rBlk d 37 (dkC tb sv (rpC df Ka n1 s1 a1 e1 r1) (rpC f2 K2 n2 s2 a2 e2 r2) vx vy)).Φ W/\True) (fun w3 h3=>⟨h3.rd 0 rfl,trivial⟩) ?_
 intro w3 h3
 refine dP 14 [0,1,2,5,6,7,8,10,11,12,13,14,17] ?_
 refine dL 3 (fun W hW=>hW.1) ?_
 refine dP 12 [4] ?_
 refine dLs 10 [9,15] (fun W hW=>hW.1) ?_
 refine dP 9 [16] ?_
 refine dT 18 (x_sumX h3 0 rfl β [(Value.iface 28 (pt tb 0)),qv] _ (by kernel_rfl) (fun hT=>hSum _ hT (h3.rd 1 rfl) (h3.rdis 1 0 _ _ rfl rfl))) ?_
 rintro _ w4 ⟨A4,c4,F4,rfl,h4⟩
 refine ⟨⟨h4.rd 0 rfl,trivial⟩,?_⟩
 refine dP 6 [19,20] ?_
 refine dT 21 (x_tsX h4 0 rfl Ka 7 hp (by kernel_rfl) hs.digest.ok (rTh_authent (A:=A4) (c:=c4) (b:=mkB 100 (s.sumAt β+1)) ⟨#[97,110,110]⟩ t q zK (h4.at_ 1 rfl)) (fun q hq=>h4.dis 1 0 _ _ rfl rfl (by decide) q hq) ⟨by decide,by rw [mkB_len];decide⟩) ?_
 rintro _ w5 ⟨A5,c5,F5,rfl,h5⟩
 refine ⟨⟨h5.rd 0 rfl,trivial⟩,?_⟩
 refine dP 1 [22,23,24,25] ?_
 refine dN 26 ?_
 refine dX ?_
 refine mP (Value.slice A5 16 c5) ?_
 rw [dig_boxes] at h5
 exact ⟨_,_,_,rfl,h5.sel [0,1] [] rfl rfl rfl⟩
/-- What login leaves. -/
def LgPost(F:Nat->Prop)(tb:Nat)(s3:STab)(nb:Nat)(rc:List Value)(w:World)(e:Ending)(w':World):Prop:=
 ∃ A c F',e=.returned (.tuple #[.agg rc.toArray,.agg #[.string ⟨#[107,100,99]⟩,.slice A 16 c],.bool true])/\Hp F w w' [] [rTab F' tb s3,rSB (.slice A 16 c) (mkB 98 (nb+2))]
theorem x_login{o:Oper}{a:Act}{F0 F:Nat->Prop}{w0 w:World}{ro rs:List Res}{tb nb:Nat}{s s3:STab}{rc:List Value}(h:Hp F0 w0 w ro rs)(i:Nat)(hi:rs[i]?=some (rTab F tb s))(al:List Value)(hp:pureVal Tryz.prog (execOp a.eval o)=some (.enter 27 al.toArray))(hc:Calls Tryz.prog 27 al.toArray w (LgPost F tb s3 nb rc w)) :
   OpTo Tryz.prog o a w (fun u w'=>∃ A c F',u=.tuple #[.agg rc.toArray,.agg #[.string ⟨#[107,100,99]⟩,.slice A 16 c],.bool true]/\Hp F0 w0 w' ro (rTab F' tb s3::rSB (.slice A 16 c) (mkB 98 (nb+2))::rs.eraseIdx i)):=
 OpTo.enter 27 al hp hc fun e w' hq=>by
   obtain ⟨A,c,F',he,h2⟩:=hq
   exact ⟨_,he,A,c,F',rfl,h.call1 i hi h2⟩
theorem login15_any{F Gb:Nat->Prop}{d tb sv kb cb bk bb:Nat}{s:STab}{us:List User}{u:User}{pw:ByteArray}{at_ fl R:Int}{Kk K:Fin 16->UInt8}{rest:List Value}{b0 b1 b2:Bytes}{w:World}(h0:Hp F w w [rBlk d 37 ([(pt tb 0),(pt sv 0)]++rest),rBlk sv 73 (svC kb cb bk),rBlk kb 78 (kdcC tb bb Kk),rBs Gb bb us] [rTab F tb s])(hs:Room 12 s)(h32:us.length<=1000000)
   (hb2:placeB us u.name=true) (hu:us[placeI us u.name]?=some u) (hK:kl u.key=mkB 107 (s.num (textF pw u.name))) (hm:s.made (textF pw u.name)=s) (hpw:pw.size<=1000) (hnm:u.name.size<=1000) (hat:0<=at_/\at_<=1000000) (hlife:0<=u.life/\u.life<=600)
   (hKK:kl K=mkB 107 (s.keys.length+1)) (hfr:(0<u.renew/\u.renew<=6000/\fl=5/\R=at_+u.renew)∨(u.renew<=0/\fl=4/\R=0)) (hp0:packB (.stamp at_ 0)=.inr b0) (hp1:packB (.inside fl K u.name at_ (min (at_+600) (at_+u.life)) R)=.inr b1) (hp2:packB (.reply fl K 1 ⟨#[107,100,99]⟩ at_ (min (at_+600) (at_+u.life)) R)=.inr b2) :
   Calls Tryz.prog 27 #[pt d 0,.string u.name,.string pw,.int .i64 at_] w (LgPost F tb ((((s.seal (kl u.key) 1 b0).add SFrom.fresh).seal (kl Kk) 2 b1).seal (kl u.key) 3 b2) s.boxes.length ([(Value.int .i64 fl)]++vb (kl K)++[(Value.int .i64 1),(Value.string (⟨#[107,100,99]⟩)),(Value.int .i64 at_),(Value.int .i64 ((min (at_+600) (at_+u.life)))),(Value.int .i64 R)]) w):=by
 have h0:=h0
 refine mE 76 ?_
 refine mN h0 33 ([(Value.int .i64 0)]++vb (List.replicate 16 0)++[(Value.int .i64 0),(Value.string ByteArray.empty),(Value.int .i64 0),(Value.int .i64 0),(Value.int .i64 0)]) fun g2 w2 h2=>?_
 refine mN h2 35 ([(Value.string ByteArray.empty),(Value.slice none 0 0)]) fun g3 w3 h3=>?_
 refine mr h3 0 ?_
 refine mT (x_textK h3 2 rfl pw u.name u.key hK hm (by kernel_rfl) (by omega) (by omega) hs.keys) ?_
 rintro _ w5 ⟨F5,rfl,h5⟩
 refine mN h5 31 (vb (List.replicate 16 0)) fun g6 w6 h6=>?_
 refine mT (xR h6 0 (vb (kl u.key))) fun _ w7 h7=>?_
 refine dG h7 15 14 (fun W=>(rBlk d 37 ([(pt tb 0),(pt sv 0)]++rest)).Φ W/\(rBlk g6 31 (vb (kl u.key))).Φ W/\True) (fun w9 h9=>⟨h9.rd 0 rfl,h9.at_ 0 rfl,trivial⟩) ?_
 intro w9 h9
 refine dP 9 [0,1,2,6,7,8] ?_
 refine dL 3 (fun W hW=>hW.1) ?_
 refine dP 7 [4] ?_
 refine dL 5 (fun W hW=>hW.2.1) ?_
 refine dT 9 (x_tsX h9 3 rfl u.key 1 hp0 (by kernel_rfl) hs.ok (rTh_stamp _ at_ 0) (fun _ hf=>hf.elim) True.intro) ?_
 rintro _ w10 ⟨A10,c10,F10,rfl,h10⟩
 refine ⟨⟨h10.rd 0 rfl,h10.at_ 2 rfl,trivial⟩,?_⟩
 refine dP 1 [10,11,12,13] ?_
 refine dN 14 ?_
 refine dX ?_
 refine mr h10 0 ?_
 refine mr h10 1 ?_
 refine mW 49 (exec_add _ _ _ _ bO at_ 600 (by kernel_rfl) (by kernel_rfl) (at_+600) rfl (by omega) (by omega) _) ?_
 refine mT (x_asX (s2:=((((s.seal (kl u.key) 1 b0).add SFrom.fresh).seal (kl Kk) 2 b1).seal (kl u.key) 3 b2)) (nm:=u.name) (m1:=mkB 98 ((s.seal (kl u.key) 1 b0).boxes.length+1)) (m2:=mkB 98 ((s.seal (kl u.key) 1 b0).boxes.length+2)) h10 0 rfl [(pt kb 0),(Value.int .i64 at_),(Value.agg ([(Value.string u.name),(Value.int .i64 1),(Value.int .i64 (at_+600)),(Value.slice A10 16 c10)]).toArray)] (by kernel_rfl) (as_main (pre:=mkB 98 (s.boxes.length+1)) (h10.at_ 0 rfl) (h10.rd 3 rfl) (fun q h1 h2=>h10.rdis 3 0 _ _ rfl rfl q h2 h1) (hs.seal _ _ (pack_le6 hp0) |>.less (by decide)) (h10.rd 2 rfl) (fun hq=>h10.rdis 2 0 _ _ rfl rfl kb rfl hq) (h10.at_ 1 rfl) (h10.dis 1 0 _ _ rfl rfl (by decide)) h32 hb2 hu (t:=at_) (q:=0) (op_bx (bx_new (by have:=hs.box;omega)) hp0) (decide_eq_true ⟨by omega,by omega,by omega,by omega,by omega,by omega⟩) (by omega) (by omega) hlife hnm K hKK hfr hp1 hp2)) ?_
 rintro _ w12 ⟨A12,c12,B12,d12,F12,rfl,h12⟩
 rw [seal_len] at h12
 refine mN h12 141 ([(Value.string ByteArray.empty),(Value.string ByteArray.empty),(Value.slice none 0 0),(Value.slice none 0 0)]) fun g13 w13 h13=>?_
 refine mT (xR h13 0 ([(Value.string u.name),(Value.string (⟨#[107,100,99]⟩)),(Value.slice A12 16 c12),(Value.slice B12 16 d12)])) fun _ w14 h14=>?_
 have hok:TabOk ((((s.seal (kl u.key) 1 b0).add SFrom.fresh).seal (kl Kk) 2 b1).seal (kl u.key) 3 b2):=((((hs.seal _ _ (pack_le6 hp0)).add SFrom.fresh).seal _ _ (pack_le6 hp1)).seal _ _ (pack_le6 hp2)).ok
 have e2:mkB 98 (s.boxes.length+1+2)=mkB 98 ((((s.seal (kl u.key) 1 b0).add SFrom.fresh).seal (kl Kk) 2 b1).boxes.length+1):=by rw [seal_len];show _=mkB 98 ((s.seal (kl u.key) 1 b0).boxes.length+1+1);rw [seal_len]
 have h16:=h14
 rw [e2] at h16
 refine dG h16 15 14 (fun W=>(rBlk d 37 ([(pt tb 0),(pt sv 0)]++rest)).Φ W/\(rBlk g6 31 (vb (kl u.key))).Φ W/\(rBlk g13 141 ([(Value.string u.name),(Value.string (⟨#[107,100,99]⟩)),(Value.slice A12 16 c12),(Value.slice B12 16 d12)])).Φ W/\True) (fun w17 h17=>⟨h17.rd 0 rfl,h17.at_ 5 rfl,h17.at_ 0 rfl,trivial⟩) ?_
 intro w17 h17
 refine dP 11 [0,1,2,6] ?_
 refine dL 3 (fun W hW=>hW.1) ?_
 refine dP 9 [4] ?_
 refine dL 5 (fun W hW=>hW.2.1) ?_
 refine dL 7 (fun W hW=>hW.2.2.1) ?_
 refine dO 8 12 ?_ ?_
 ·
  refine oT (x_oReply h17 1 rfl u.key 3 (by kernel_rfl) hok (h17.at_ 3 rfl) (r:=.inr (.reply fl K 1 ⟨#[107,100,99]⟩ at_ (min (at_+600) (at_+u.life)) R)) (op_bx (bx_new (s:=((s.seal (kl u.key) 1 b0).add SFrom.fresh).seal (kl Kk) 2 b1) (by have:=hs.box;rw [seal_len];show (s.seal (kl u.key) 1 b0).boxes.length+1<1000000;rw [seal_len];omega)) hp2)) ?_
  rintro _ w18 ⟨rfl,h18⟩
  refine ⟨⟨h18.rd 0 rfl,h18.at_ 5 rfl,h18.at_ 0 rfl,trivial⟩,?_⟩
  refine dP 3 [9,10,11] ?_
  refine dT 12 (xN h18 33 ([(Value.int .i64 0)]++vb (List.replicate 16 0)++[(Value.int .i64 0),(Value.string ByteArray.empty),(Value.int .i64 0),(Value.int .i64 0),(Value.int .i64 0)])) ?_
  rintro _ w19 ⟨g19,rfl,h19⟩
  refine ⟨⟨h19.rd 0 rfl,h19.at_ 6 rfl,h19.at_ 1 rfl,trivial⟩,?_⟩
  refine dT 13 (xR h19 0 ([(Value.int .i64 fl)]++vb (kl K)++[(Value.int .i64 1),(Value.string (⟨#[107,100,99]⟩)),(Value.int .i64 at_),(Value.int .i64 ((min (at_+600) (at_+u.life)))),(Value.int .i64 R)])) ?_
  rintro _ w20 h20
  refine ⟨⟨h20.rd 0 rfl,h20.at_ 6 rfl,h20.at_ 1 rfl,trivial⟩,?_⟩
  refine dN 14 ?_
  refine dX ?_
  refine dG h20 12 11 (fun W=>(rBlk g19 33 ([(Value.int .i64 fl)]++vb (kl K)++[(Value.int .i64 1),(Value.string (⟨#[107,100,99]⟩)),(Value.int .i64 at_),(Value.int .i64 ((min (at_+600) (at_+u.life)))),(Value.int .i64 R)])).Φ W/\(rBlk g13 141 ([(Value.string u.name),(Value.string (⟨#[107,100,99]⟩)),(Value.slice A12 16 c12),(Value.slice B12 16 d12)])).Φ W/\True) (fun w22 h22=>⟨h22.at_ 0 rfl,h22.at_ 1 rfl,trivial⟩) ?_
  intro w22 h22
  refine dP 5 [1,3,4,5,6,7,8] ?_
  refine dL 0 (fun W hW=>hW.1) ?_
  refine dL 2 (fun W hW=>hW.2.1) ?_
  refine dT 9 (xR h22 8 ([(Value.int .i64 fl)]++vb (kl K)++[(Value.int .i64 1),(Value.string (⟨#[107,100,99]⟩)),(Value.int .i64 at_),(Value.int .i64 ((min (at_+600) (at_+u.life)))),(Value.int .i64 R)])) ?_
  rintro _ w23 h23
  refine ⟨⟨h23.at_ 0 rfl,h23.at_ 1 rfl,trivial⟩,?_⟩
  refine dT 10 (xR h23 7 ([(Value.string (⟨#[107,100,99]⟩)),(Value.slice A12 16 c12)])) ?_
  rintro _ w24 h24
  refine ⟨⟨h24.at_ 0 rfl,h24.at_ 1 rfl,trivial⟩,?_⟩
  refine dN 11 ?_
  refine dX ?_
  refine mF (post_3 (r:=.cell 8 33) (s:=.cell 9 35) (t:=.tmp 10) (by kernel_rfl) rfl (rce (h24.at_ 8 rfl)) (rce (h24.at_ 7 rfl)) (rtm (Value.bool true)) ?_)
  exact ⟨_,_,_,rfl,h24.sel [2,3] [] rfl rfl rfl⟩
 refine oT (xN h17 33 ([(Value.int .i64 0)]++vb (List.replicate 16 0)++[(Value.int .i64 0),(Value.string ByteArray.empty),(Value.int .i64 0),(Value.int .i64 0),(Value.int .i64 0)])) ?_
 rintro _ w25 ⟨g25,rfl,h25⟩
 refine ⟨⟨h25.rd 0 rfl,h25.at_ 6 rfl,h25.at_ 1 rfl,trivial⟩,?_⟩
 refine dT 8 (x_oReply h25 2 rfl u.key 3 (by kernel_rfl) hok (h25.at_ 4 rfl) (r:=.inr (.reply fl K 1 ⟨#[107,100,99]⟩ at_ (min (at_+600) (at_+u.life)) R)) (op_bx (bx_new (s:=((s.seal (kl u.key) 1 b0).add SFrom.fresh).seal (kl Kk) 2 b1) (by have:=hs.box;rw [seal_len];show (s.seal (kl u.key) 1 b0).boxes.length+1<1000000;rw [seal_len];omega)) hp2)) ?_
 rintro _ w26 ⟨rfl,h26⟩
 refine ⟨⟨h26.rd 0 rfl,h26.at_ 6 rfl,h26.at_ 1 rfl,trivial⟩,?_⟩
 refine dP 2 [9,10,11] ?_
 refine dT 13 (xR h26 0 ([(Value.int .i64 fl)]++vb (kl K)++[(Value.int .i64 1),(Value.string (⟨#[107,100,99]⟩)),(Value.int .i64 at_),(Value.int .i64 ((min (at_+600) (at_+u.life)))),(Value.int .i64 R)])) ?_
 rintro _ w27 h27
 refine ⟨⟨h27.rd 0 rfl,h27.at_ 6 rfl,h27.at_ 1 rfl,trivial⟩,?_⟩
 refine dN 14 ?_
 refine dX ?_
 refine dG h27 12 11 (fun W=>(rBlk g25 33 ([(Value.int .i64 fl)]++vb (kl K)++[(Value.int .i64 1),(Value.string (⟨#[107,100,99]⟩)),(Value.int .i64 at_),(Value.int .i64 ((min (at_+600) (at_+u.life)))),(Value.int .i64 R)])).Φ W/\(rBlk g13 141 ([(Value.string u.name),(Value.string (⟨#[107,100,99]⟩)),(Value.slice A12 16 c12),(Value.slice B12 16 d12)])).Φ W/\True) (fun w29 h29=>⟨h29.at_ 0 rfl,h29.at_ 1 rfl,trivial⟩) ?_
 intro w29 h29
 refine dP 5 [1,3,4,5,6,7,8] ?_
 refine dL 0 (fun W hW=>hW.1) ?_
 refine dL 2 (fun W hW=>hW.2.1) ?_
 refine dT 9 (xR h29 8 ([(Value.int .i64 fl)]++vb (kl K)++[(Value.int .i64 1),(Value.string (⟨#[107,100,99]⟩)),(Value.int .i64 at_),(Value.int .i64 ((min (at_+600) (at_+u.life)))),(Value.int .i64 R)])) ?_
 rintro _ w30 h30
 refine ⟨⟨h30.at_ 0 rfl,h30.at_ 1 rfl,trivial⟩,?_⟩
 refine dT 10 (xR h30 7 ([(Value.string (⟨#[107,100,99]⟩)),(Value.slice A12 16 c12)])) ?_
 rintro _ w31 h31
 refine ⟨⟨h31.at_ 0 rfl,h31.at_ 1 rfl,trivial⟩,?_⟩
 refine dN 11 ?_
 refine dX ?_
 refine mF (post_3 (r:=.cell 8 33) (s:=.cell 9 35) (t:=.tmp 10) (by kernel_rfl) rfl (rce (h31.at_ 8 rfl)) (rce (h31.at_ 7 rfl)) (rtm (Value.bool true)) ?_)
 exact ⟨_,_,_,rfl,h31.sel [2,3] [] rfl rfl rfl⟩
end
section
open Go.RowKit Go.QT
end
section
open Go.RowKit Go.QT
abbrev fAnn:SFrom:=textF ⟨#[112,97]⟩ bANN
abbrev fBob:SFrom:=textF ⟨#[112,98]⟩ bBOB
theorem place_ann{k k':Fin 16->UInt8}{l r l' r':Int}{m m':Bool}:placeB [User.mk bANN k l r m,User.mk bBOB k' l' r' m'] bANN=true/\[User.mk bANN k l r m,User.mk bBOB k' l' r' m'][placeI [User.mk bANN k l r m,User.mk bBOB k' l' r' m'] bANN]?=some (User.mk bANN k l r m):=⟨by kernel_rfl,by kernel_rfl⟩
theorem place_bob{k k':Fin 16->UInt8}{l r l' r':Int}{m m':Bool}:placeB [User.mk bANN k l r m,User.mk bBOB k' l' r' m'] bBOB=true/\[User.mk bANN k l r m,User.mk bBOB k' l' r' m'][placeI [User.mk bANN k l r m,User.mk bBOB k' l' r' m'] bBOB]?=some (User.mk bBOB k' l' r' m'):=⟨by kernel_rfl,by kernel_rfl⟩
theorem place_new{k:Fin 16->UInt8}{l r:Int}{m:Bool}:placeB [User.mk bANN k l r m] bBOB=false/\placeI [User.mk bANN k l r m] bBOB=1:=⟨by kernel_rfl,by kernel_rfl⟩
/-- The table of a desk. -/
def sO(kk ka kb:Fin 16->UInt8)(b0 b1 b2 b3 b4 b5:Bytes):STab:=
 ⟨[SFrom.fresh,fAnn,fBob,SFrom.fresh,SFrom.fresh],[⟨kl ka,1,b0⟩,⟨kl kk,2,b1⟩,⟨kl ka,3,b2⟩,⟨kl kb,1,b3⟩,⟨kl kk,2,b4⟩,⟨kl kb,3,b5⟩],[],[(fAnn,2),(fBob,3)]⟩
def s0_:STab:=⟨[SFrom.fresh,fAnn,fBob],[],[],[(fAnn,2),(fBob,3)]⟩
def s1_(kk ka:Fin 16->UInt8)(b0 b1 b2:Bytes):STab:=⟨[SFrom.fresh,fAnn,fBob,SFrom.fresh],[⟨kl ka,1,b0⟩,⟨kl kk,2,b1⟩,⟨kl ka,3,b2⟩],[],[(fAnn,2),(fBob,3)]⟩
theorem room_is{s:STab}{n:Nat}(r:Nat)(hb:∀ b ∈ s.boxes,b.body.length<=4096)(hx:s.boxes.length<=n)(hk:s.keys.length<=n)(hn:decide (n+r<1000000)=true):Room r s:=
 ⟨fun b h=>Nat.le_trans (hb b h) (by decide),by have:=of_decide_eq_true hn;omega,by have:=of_decide_eq_true hn;omega⟩
/-- When somebody asks for how long, and what they are given. -/
structure Tim(at_ L Rn Ot:Int)(fl R:Int):Prop where
 at0:0<=at_/\at_<=1023
 l:1<=L/\L<=512
 o:1<=Ot/\Ot<=512
 r:0<=Rn/\Rn<=4095
 fr:(0<Rn/\Rn<=6000/\fl=5/\R=at_+Rn)∨(Rn<=0/\fl=4/\R=0)
/-- What open leaves. -/
def OpnPost(at_ L Rn Ot:Int)(mesh:Bool)(w:World)(e:Ending)(w':World):Prop:=
 ∃ (d sv kb cb bk tb bb:Nat) (G Gc F:Nat->Prop) (kk ka kb_ K1 K2:Fin 16->UInt8) (b0 b1 b2 b3 b4 b5:Bytes) (fl R:Int) (A B:Option Addr) (c c':Nat) (mv:Nat->Prop),
   e=.returned (pt d 0)/\Tim at_ L Rn Ot fl R/\(kl kk=mkB 107 1/\kl ka=mkB 107 2/\kl kb_=mkB 107 3/\kl K1=mkB 107 4/\kl K2=mkB 107 5) /\
   (packB (.stamp at_ 0)=.inr b0/\packB (.inside fl K1 bANN at_ (min (at_+600) (at_+L)) R)=.inr b1/\packB (.reply fl K1 1 bKDC at_ (min (at_+600) (at_+L)) R)=.inr b2/\packB (.stamp at_ 0)=.inr b3/\packB (.inside 4 K2 bBOB at_ (min (at_+600) (at_+Ot)) 0)=.inr b4/\packB (.reply 4 K2 1 bKDC at_ (min (at_+600) (at_+Ot)) 0)=.inr b5) /\
   Hp (fun _=>False) w w' [] [rBlk d 37 (dkC tb sv (rpC fl K1 1 bKDC at_ (min (at_+600) (at_+L)) R) (rpC 4 K2 1 bKDC at_ (min (at_+600) (at_+Ot)) 0) (.slice A 16 c) (.slice B 16 c')),rBlk sv 73 (svC kb cb bk),rBlk kb 78 (kdcC tb bb kk),rBs G bb [User.mk bANN ka L Rn false,User.mk bBOB kb_ Ot 0 mesh],rCa Gc cb 64 [],rBk mv bk none,rTab F tb (sO kk ka kb_ b0 b1 b2 b3 b4 b5),rSB (.slice A 16 c) (mkB 98 2),rSB (.slice B 16 c') (mkB 98 5)]
theorem x_kgnew{o:Oper}{a:Act}{F0 F:Nat->Prop}{w0 w:World}{ro rs:List Res}{tb:Nat}{s:STab}(h:Hp F0 w0 w ro rs)(i:Nat)(hi:rs[i]?=some (rTab F tb s))(hs:Room 5 s)(hp:pureVal Tryz.prog (execOp a.eval o)=some (.enter 25 #[.iface 28 (pt tb 0)])) :
   OpTo Tryz.prog o a w (fun u w'=>∃ sv kb cb bk G bb Gc K F' mv,u=pt sv 0/\kl K=mkB 107 (s.keys.length+1)/\Hp F0 w0 w' ro ([rBlk sv 73 (svC kb cb bk),rBlk kb 78 (kdcC tb bb K),rBs G bb [],rCa Gc cb 64 [],rBk mv bk none,rTab F' tb (s.add SFrom.fresh)]++rs.eraseIdx i)):=
 OpTo.enter 25 [.iface 28 (pt tb 0)] hp (kgnew_any (h.own i _ hi) hs) fun e w' hq=>by
   obtain ⟨sv,kb,cb,bk,G,bb,Gc,K,F',mv,he,hK,h2⟩:=hq
   exact ⟨_,he,sv,kb,cb,bk,G,bb,Gc,K,F',mv,rfl,hK,h.call1 i hi h2⟩
theorem open15_any(La Rn_ Ot_ At_ Lt:Int)(mesh:Bool)(w:World):Calls Tryz.prog 10 #[.agg #[.int .i64 La,.int .i64 Rn_,.int .i64 Ot_,.bool mesh,.int .i64 At_,.int .i64 Lt]] w (OpnPost (bits .and .i64 At_ 1023) (1+bits .and .i64 La 511) (bits .and .i64 Rn_ 4095) (1+bits .and .i64 Ot_ 511) mesh w):=by
 obtain ⟨At,hAt,hAt1⟩:=and_mask At_ 1023 (by decide)
 obtain ⟨L0,hL,hL1⟩:=and_mask La 511 (by decide)
 obtain ⟨Rn,hRn,hRn1⟩:=and_mask Rn_ 4095 (by decide)
 obtain ⟨O0,hO,hO1⟩:=and_mask Ot_ 511 (by decide)
 simp only [show ((1023:Nat):Int)=1023 from rfl,show ((511:Nat):Int)=511 from rfl,show ((4095:Nat):Int)=4095 from rfl] at hAt hL hRn hO
 rw [hAt,hL,hRn,hO]
 obtain ⟨fl,R,hT⟩:∃ fl R,Tim (At:Int) (1+L0) Rn (1+O0) fl R:=by
   by_cases h:0<Rn
   · exact ⟨5,At+Rn,⟨by omega,by omega,by omega,by omega,.inl ⟨by omega,by omega,rfl,rfl⟩⟩⟩
   exact ⟨4,0,⟨by omega,by omega,by omega,by omega,.inr ⟨by omega,rfl,rfl⟩⟩⟩
 obtain ⟨ka,hka⟩:=ex_key 2
 obtain ⟨kb_,hkb⟩:=ex_key 3
 obtain ⟨K1,hK1⟩:=ex_key 4
 obtain ⟨K2,hK2⟩:=ex_key 5
 have hR:0<=R/\R<=10000/\0<=fl/\fl<=5:=by have:=hT.fr;omega
 obtain ⟨b0,hp0⟩:=pack_stamp (t:=(At:Int)) (q:=0) (inN_is (by omega) (by omega)) rfl
 have hin:∀ f u r:Int,(0<=f/\f<=10000)->(0<=u/\u<=10000)->(0<=r/\r<=10000)->∀ x ∈ [f,(At:Int),u,r],inN x=true:=by
   intro f u r h1 h2 h3 x hx
   simp only [List.mem_cons,List.not_mem_nil,or_false] at hx
   rcases hx with rfl|rfl|rfl|rfl <;> exact inN_is (by omega) (by omega)
 have hin2:∀ f u r:Int,(0<=f/\f<=10000)->(0<=u/\u<=10000)->(0<=r/\r<=10000)->∀ x ∈ [f,1,(At:Int),u,r],inN x=true:=by
   intro f u r h1 h2 h3 x hx
   simp only [List.mem_cons,List.not_mem_nil,or_false] at hx
   rcases hx with rfl|rfl|rfl|rfl|rfl <;> exact inN_is (by omega) (by omega)
 obtain ⟨b1,hp1⟩:=pack_inside (K:=K1) (s:=bANN) (rightM_is right_ann (hin fl (min (At+600) (At+(1+L0))) R (by omega) (by omega) (by omega))) (by decide)
 obtain ⟨b2,hp2⟩:=pack_reply (K:=K1) (s:=bKDC) (rightM_is right_kdc (hin2 fl (min (At+600) (At+(1+L0))) R (by omega) (by omega) (by omega))) (by decide)
 obtain ⟨b4,hp4⟩:=pack_inside (K:=K2) (s:=bBOB) (rightM_is right_bob (hin 4 (min (At+600) (At+(1+O0))) 0 (by omega) (by omega) (by omega))) (by decide)
 obtain ⟨b5,hp5⟩:=pack_reply (K:=K2) (s:=bKDC) (rightM_is right_kdc (hin2 4 (min (At+600) (At+(1+O0))) 0 (by omega) (by omega) (by omega))) (by decide)
 have h0:=Hp.nil (fun _=>False) w
 refine mE 102 ?_
 refine mN h0 23 ([(Value.int .i64 La),(Value.int .i64 Rn_),(Value.int .i64 Ot_),(Value.bool mesh),(Value.int .i64 At_),(Value.int .i64 Lt)]) fun g2 w2 h2=>?_
 refine mT (x_snew h2 (by kernel_rfl)) ?_
 rintro _ w4 ⟨tb4,F4,rfl,h4⟩
 refine mT (x_kgnew h4 0 rfl (room_is (n:=0) 5 (fun b hb=>by cases hb) (by decide) (by decide) (by decide)) (by kernel_rfl)) ?_
 rintro _ w6 ⟨sv,kb,cb,bk,G6,bb,Gc,kk,F6,mv,rfl,hkk,h6⟩
 refine mN h6 37 ([(pt tb4 0),(pt sv 0),(Value.int .i64 0)]++vb (List.replicate 16 0)++[(Value.int .i64 0),(Value.string ByteArray.empty),(Value.int .i64 0),(Value.int .i64 0),(Value.int .i64 0),(Value.int .i64 0)]++vb (List.replicate 16 0)++[(Value.int .i64 0),(Value.string ByteArray.empty),(Value.int .i64 0),(Value.int .i64 0),(Value.int .i64 0),(Value.string ByteArray.empty),(Value.slice none 0 0),(Value.string ByteArray.empty),(Value.slice none 0 0)]) fun g7 w7 h7=>?_
 refine ma h7 0 ?_
 refine ma h7 0 ?_
 refine ma h7 1 ?_
 refine ma h7 7 ?_
 refine mX 34 (Value.int .i64 ((At:Int))) (Value.int .i64 (bits .and .i64 At_ 1023)) (congrArg (Value.int .i64) hAt) ?_
 refine dG h7 14 13 (fun W=>(rBlk g2 23 ([(Value.int .i64 La),(Value.int .i64 Rn_),(Value.int .i64 Ot_),(Value.bool mesh),(Value.int .i64 At_),(Value.int .i64 Lt)])).Φ W/\True) (fun w12 h12=>⟨h12.at_ 7 rfl,trivial⟩) ?_
 intro w12 h12
 refine dP 11 [0,4,7] ?_
 refine dL 1 (fun W hW=>hW.1) ?_
 refine dV 2 (v:=(Value.int .i64 ((L0:Int)))) (fun W hW=>eqI (Value.int .i64 (bits .and .i64 La 511)) (congrArg (Value.int .i64) hL)) ?_
 refine dV 3 (fun W hW=>exec_add _ _ _ _ bO 1 (L0:Int) (by kernel_rfl) (by kernel_rfl) (1+(L0:Int)) rfl (by omega) (by omega) _) ?_
 refine dP 7 [11] ?_
 refine dL 5 (fun W hW=>hW.1) ?_
 refine dV 6 (v:=(Value.int .i64 ((Rn:Int)))) (fun W hW=>eqI (Value.int .i64 (bits .and .i64 Rn_ 4095)) (congrArg (Value.int .i64) hRn)) ?_
 refine dP 4 [12] ?_
 refine dL 8 (fun W hW=>hW.1) ?_
 refine dV 9 (v:=(Value.int .i64 ((O0:Int)))) (fun W hW=>eqI (Value.int .i64 (bits .and .i64 Ot_ 511)) (congrArg (Value.int .i64) hO)) ?_
 refine dV 10 (fun W hW=>exec_add _ _ _ _ bO 1 (O0:Int) (by kernel_rfl) (by kernel_rfl) (1+(O0:Int)) rfl (by omega) (by omega) _) ?_
 refine dN 13 ?_
 refine dX ?_
 refine dG h12 25 25 (fun W=>(rBlk g7 37 ([(pt tb4 0),(pt sv 0),(Value.int .i64 0)]++vb (List.replicate 16 0)++[(Value.int .i64 0),(Value.string ByteArray.empty),(Value.int .i64 0),(Value.int .i64 0),(Value.int .i64 0),(Value.int .i64 0)]++vb (List.replicate 16 0)++[(Value.int .i64 0),(Value.string ByteArray.empty),(Value.int .i64 0),(Value.int .i64 0),(Value.int .i64 0),(Value.string ByteArray.empty),(Value.slice none 0 0),(Value.string ByteArray.empty),(Value.slice none 0 0)])).Φ W/\(rBlk sv 73 ([(pt kb 0),(pt cb 0),(pt bk 0)])).Φ W/\(rBlk g2 23 ([(Value.int .i64 La),(Value.int .i64 Rn_),(Value.int .i64 Ot_),(Value.bool mesh),(Value.int .i64 At_),(Value.int .i64 Lt)])).Φ W/\True) (fun w15 h15=>⟨h15.at_ 0 rfl,h15.at_ 1 rfl,h15.at_ 7 rfl,trivial⟩) ?_
 intro w15 h15
 refine dP 20 [0,1,2,7,8] ?_
 refine dL 3 (fun W hW=>hW.1) ?_
 refine dP 17 [4,5] ?_
 refine dL 6 (fun W hW=>hW.2.1) ?_
 refine dT 9 (x_enrol (us':=[User.mk bANN ka (1+(L0:Int)) Rn false]) (f:=fAnn) (er:=0) h15 6 3 rfl rfl rfl [(pt kb 0),(Value.string (⟨#[97,110,110]⟩)),(Value.string (⟨#[112,97]⟩)),(Value.int .i64 (1+(L0:Int))),(Value.int .i64 ((Rn:Int))),(Value.bool false)] (by kernel_rfl) (enrol_ok (name:=bANN) (pw:=⟨#[112,97]⟩) (h15.at_ 6 rfl) (h15.at_ 3 rfl) (h15.dis 6 3 _ _ rfl rfl (by decide)) (room_is (n:=9) 5 (fun b hb=>by cases hb) (by decide) (by decide) (by decide)) (h15.at_ 2 rfl) (fun hq=>h15.dis 6 2 _ _ rfl rfl (by decide) _ hq rfl) (fun hq=>h15.dis 3 2 _ _ rfl rfl (by decide) _ hq rfl) (by decide) (by decide) ka (hka.trans (congrArg (mkB 107) (by kernel_rfl))) (by simp) right_ann (by omega) rfl (by simp) rfl)) ?_
 rintro _ w16 ⟨F16,G16,s16,rfl,hs16,h16⟩
 rw [hs16,show STab.made ((STab.empty.add SFrom.fresh)) fAnn=(⟨[SFrom.fresh,fAnn],[],[],[(fAnn,2)]⟩:STab) from by kernel_rfl] at h16
 refine ⟨⟨h16.at_ 0 rfl,h16.at_ 1 rfl,h16.at_ 7 rfl,trivial⟩,?_⟩
 refine dP 8 [10,11,12,13,14,19,20] ?_
 refine dL 15 (fun W hW=>hW.1) ?_
 refine dP 5 [16,17] ?_
 refine dL 18 (fun W hW=>hW.2.1) ?_
 refine dL 21 (fun W hW=>hW.2.2.1) ?_
 refine dT 22 (x_enrol (us':=[User.mk bANN ka (1+(L0:Int)) Rn false,User.mk bBOB kb_ (1+(O0:Int)) 0 mesh]) (f:=fBob) (er:=0) h16 6 3 rfl rfl rfl [(pt kb 0),(Value.string (⟨#[98,111,98]⟩)),(Value.string (⟨#[112,98]⟩)),(Value.int .i64 (1+(O0:Int))),(Value.int .i64 0),(Value.bool mesh)] (by kernel_rfl) (enrol_ok (name:=bBOB) (pw:=⟨#[112,98]⟩) (h16.at_ 6 rfl) (h16.at_ 3 rfl) (h16.dis 6 3 _ _ rfl rfl (by decide)) (room_is (n:=9) 5 (fun b hb=>by cases hb) (by decide) (by decide) (by decide)) (h16.at_ 2 rfl) (fun hq=>h16.dis 6 2 _ _ rfl rfl (by decide) _ hq rfl) (fun hq=>h16.dis 3 2 _ _ rfl rfl (by decide) _ hq rfl) (by decide) (by decide) kb_ (hkb.trans (congrArg (mkB 107) (by kernel_rfl))) (by simp) right_bob (by omega) place_new.1 (by simp) place_new.2)) ?_
 rintro _ w17 ⟨F17,G17,s17,rfl,hs17,h17⟩
 rw [hs17,show STab.made ((⟨[SFrom.fresh,fAnn],[],[],[(fAnn,2)]⟩:STab)) fBob=s0_ from by kernel_rfl] at h17
 refine ⟨⟨h17.at_ 0 rfl,h17.at_ 1 rfl,h17.at_ 7 rfl,trivial⟩,?_⟩
 refine dP 0 [23,24] ?_
 refine dX ?_
 refine mT (x_login (nb:=0) (s3:=((((s0_.seal (kl ka) 1 b0).add SFrom.fresh).seal (kl kk) 2 b1).seal (kl ka) 3 b2)) (rc:=(rpC fl K1 1 bKDC At (min (At+600) (At+(1+L0))) R)) h17 6 rfl [(pt g7 0),(Value.string (⟨#[97,110,110]⟩)),(Value.string (⟨#[112,97]⟩)),(Value.int .i64 ((At:Int)))] (by kernel_rfl) (login15_any (u:=(User.mk bANN ka (1+(L0:Int)) Rn false)) (pw:=⟨#[112,97]⟩) (h17.carve1 6 rfl [(true,0),(true,1),(true,2),(true,3)] rfl rfl) (room_is (n:=9) 12 (fun b hb=>by cases hb) (by decide) (by decide) (by decide)) (by simp) place_ann.1 place_ann.2 (hka.trans (congrArg (mkB 107) (by kernel_rfl))) (by kernel_rfl) (by decide) (show (3:Nat)<=1000 by decide) (by omega) (by show 0<=1+(L0:Int)/\1+(L0:Int)<=600;omega) (hK1.trans (congrArg (mkB 107) (by kernel_rfl))) hT.fr hp0 hp1 hp2)) ?_
 rintro _ w21 ⟨A21,c21,F21,rfl,h21⟩
 refine mT (xR h21 2 ([(pt tb4 0),(pt sv 0),(Value.int .i64 fl)]++vb (kl K1)++[(Value.int .i64 1),(Value.string bKDC),(Value.int .i64 ((At:Int))),(Value.int .i64 ((min ((At:Int)+600) ((At:Int)+(1+(L0:Int)))))),(Value.int .i64 R),(Value.int .i64 0)]++vb (List.replicate 16 0)++[(Value.int .i64 0),(Value.string ByteArray.empty),(Value.int .i64 0),(Value.int .i64 0),(Value.int .i64 0),(Value.string ByteArray.empty),(Value.slice none 0 0),(Value.string ByteArray.empty),(Value.slice none 0 0)])) fun _ w22 h22=>?_
 refine mT (xR h22 2 ([(pt tb4 0),(pt sv 0),(Value.int .i64 fl)]++vb (kl K1)++[(Value.int .i64 1),(Value.string bKDC),(Value.int .i64 ((At:Int))),(Value.int .i64 ((min ((At:Int)+600) ((At:Int)+(1+(L0:Int)))))),(Value.int .i64 R),(Value.int .i64 0)]++vb (List.replicate 16 0)++[(Value.int .i64 0),(Value.string ByteArray.empty),(Value.int .i64 0),(Value.int .i64 0),(Value.int .i64 0),(Value.string bKDC),(Value.slice A21 16 c21),(Value.string ByteArray.empty),(Value.slice none 0 0)])) fun _ w23 h23=>?_
 have h27:=h23
 rw [show ((((s0_.seal (kl ka) 1 b0).add SFrom.fresh).seal (kl kk) 2 b1).seal (kl ka) 3 b2)=s1_ kk ka b0 b1 b2 from rfl] at h27
 have hrm1:Room 12 (s1_ kk ka b0 b1 b2):=by
   refine room_is (n:=9) 12 ?_ (by show 3<=9;decide) (by show 4<=9;decide) (by decide)
   intro b hb
   simp only [s1_,List.mem_cons,List.not_mem_nil,or_false] at hb
   rcases hb with rfl|rfl|rfl
   · exact pack_le hp0
   · exact pack_le hp1
   exact pack_le hp2
 refine mT (x_login (nb:=3) (s3:=(((((s1_ kk ka b0 b1 b2).seal (kl kb_) 1 b0).add SFrom.fresh).seal (kl kk) 2 b4).seal (kl kb_) 3 b5)) (rc:=(rpC 4 K2 1 bKDC At (min (At+600) (At+(1+O0))) 0)) h27 0 rfl [(pt g7 0),(Value.string (⟨#[98,111,98]⟩)),(Value.string (⟨#[112,98]⟩)),(Value.int .i64 ((At:Int)))] (by kernel_rfl) (login15_any (u:=(User.mk bBOB kb_ (1+(O0:Int)) 0 mesh)) (pw:=⟨#[112,98]⟩) (h27.carve1 0 rfl [(true,2),(true,3),(true,4),(true,5)] rfl rfl) hrm1 (by simp) place_bob.1 place_bob.2 (hkb.trans (congrArg (mkB 107) (by kernel_rfl))) (by kernel_rfl) (by decide) (show (3:Nat)<=1000 by decide) (by omega) (by show 0<=1+(O0:Int)/\1+(O0:Int)<=600;omega) (hK2.trans (congrArg (mkB 107) (by kernel_rfl))) (.inr ⟨show (0:Int)<=0 from by decide,rfl,rfl⟩) hp0 hp4 hp5)) ?_
 rintro _ w28 ⟨A28,c28,F28,rfl,h28⟩
 refine mT (xR h28 3 ([(pt tb4 0),(pt sv 0),(Value.int .i64 fl)]++vb (kl K1)++[(Value.int .i64 1),(Value.string bKDC),(Value.int .i64 ((At:Int))),(Value.int .i64 ((min ((At:Int)+600) ((At:Int)+(1+(L0:Int)))))),(Value.int .i64 R),(Value.int .i64 4)]++vb (kl K2)++[(Value.int .i64 1),(Value.string bKDC),(Value.int .i64 ((At:Int))),(Value.int .i64 ((min ((At:Int)+600) ((At:Int)+(1+(O0:Int)))))),(Value.int .i64 0),(Value.string bKDC),(Value.slice A21 16 c21),(Value.string ByteArray.empty),(Value.slice none 0 0)])) fun _ w29 h29=>?_
 refine mT (xR h29 3 ([(pt tb4 0),(pt sv 0),(Value.int .i64 fl)]++vb (kl K1)++[(Value.int .i64 1),(Value.string bKDC),(Value.int .i64 ((At:Int))),(Value.int .i64 ((min ((At:Int)+600) ((At:Int)+(1+(L0:Int)))))),(Value.int .i64 R),(Value.int .i64 4)]++vb (kl K2)++[(Value.int .i64 1),(Value.string bKDC),(Value.int .i64 ((At:Int))),(Value.int .i64 ((min ((At:Int)+600) ((At:Int)+(1+(O0:Int)))))),(Value.int .i64 0),(Value.string bKDC),(Value.slice A21 16 c21),(Value.string bKDC),(Value.slice A28 16 c28)])) fun _ w30 h30=>?_
 refine mP (pt g7 0) ?_
 exact ⟨_,_,_,_,_,_,_,_,_,_,kk,ka,kb_,K1,K2,b0,b1,b2,b0,b4,b5,fl,R,_,_,_,_,_,rfl,hT,⟨hkk,hka,hkb,hK1,hK2⟩,⟨hp0,hp1,hp2,hp0,hp4,hp5⟩,(show Hp _ _ _ _ [_,_,_,_,_,_,rTab _ _ (sO kk ka kb_ b0 b1 b2 b0 b4 b5),_,_] from h30.sel [3,4,5,6,7,8,0,2,1] [] rfl rfl rfl)⟩
end
section
open Go.RowKit Go.QT
theorem x_open15{o:Oper}{a:Act}{F0:Nat->Prop}{w0 w:World}{ro rs:List Res}{at_ L Rn Ot:Int}{mesh:Bool}(h:Hp F0 w0 w ro rs)(al:List Value)(hp:pureVal Tryz.prog (execOp a.eval o)=some (.enter 10 al.toArray))(hc:Calls Tryz.prog 10 al.toArray w (OpnPost at_ L Rn Ot mesh w)) :
   OpTo Tryz.prog o a w (fun u w'=>∃ (d sv kb cb bk tb bb:Nat) (G Gc F:Nat->Prop) (kk ka kb_ K1 K2:Fin 16->UInt8) (b0 b1 b2 b3 b4 b5:Bytes) (fl R:Int) (A B:Option Addr) (c c':Nat) (mv:Nat->Prop),
   u=pt d 0/\Tim at_ L Rn Ot fl R/\(kl kk=mkB 107 1/\kl ka=mkB 107 2/\kl kb_=mkB 107 3/\kl K1=mkB 107 4/\kl K2=mkB 107 5) /\
   (packB (.stamp at_ 0)=.inr b0/\packB (.inside fl K1 bANN at_ (min (at_+600) (at_+L)) R)=.inr b1/\packB (.reply fl K1 1 bKDC at_ (min (at_+600) (at_+L)) R)=.inr b2/\packB (.stamp at_ 0)=.inr b3/\packB (.inside 4 K2 bBOB at_ (min (at_+600) (at_+Ot)) 0)=.inr b4/\packB (.reply 4 K2 1 bKDC at_ (min (at_+600) (at_+Ot)) 0)=.inr b5) /\
   Hp F0 w0 w' ro ([rBlk d 37 (dkC tb sv (rpC fl K1 1 bKDC at_ (min (at_+600) (at_+L)) R) (rpC 4 K2 1 bKDC at_ (min (at_+600) (at_+Ot)) 0) (.slice A 16 c) (.slice B 16 c')),rBlk sv 73 (svC kb cb bk),rBlk kb 78 (kdcC tb bb kk),rBs G bb [User.mk bANN ka L Rn false,User.mk bBOB kb_ Ot 0 mesh],rCa Gc cb 64 [],rBk mv bk none,rTab F tb (sO kk ka kb_ b0 b1 b2 b3 b4 b5),rSB (.slice A 16 c) (mkB 98 2),rSB (.slice B 16 c') (mkB 98 5)]++rs)):=
 OpTo.enter 10 al hp hc fun e w' hq=>by
   obtain ⟨d,sv,kb,cb,bk,tb,bb,G,Gc,F,kk,ka,kb_,K1,K2,b0,b1,b2,b3,b4,b5,fl,R,A,B,c,c',mv,he,h1,h2,h3,h4⟩:=hq
   exact ⟨_,he,d,sv,kb,cb,bk,tb,bb,G,Gc,F,kk,ka,kb_,K1,K2,b0,b1,b2,b3,b4,b5,fl,R,A,B,c,c',mv,rfl,h1,h2,h3,h.call0 h4⟩
/-- The bytes of a request, without what shows who asks. -/
def qB(srv:ByteArray)(nn till:Int)(r m:Bool)(l:Bytes)(xs:List Xt):Bytes:=wrV (tgsD srv nn till r m (.ticket bKDC l) [] (xs.map Xt.th))
section
variable{F0:Nat->Prop}{w0 w:World}{ro rs:List Res}
theorem rv_one{g:Nat}{T:TypeId}{s:ByteArray}{v:Value}(hb:Blk w g T [.string s,v]):RV w 2 (some ⟨g,0,none⟩) 1 [[.string s,v]]:=by
 refine ⟨Nat.le_refl _,by unfold maxLen;omega,by simp,fun _=>⟨g,0,rfl,hb.lt,fun i x hx j u hu=>?_⟩⟩
 cases i with
 | zero =>
   injection hx with hx
   subst hx
   rw [show 0+0*2+j=j by omega]
   exact (hb.cell _).trans hu
 | succ i=>simp at hx
/-- A request's ticket and the one beside it, as one thing. -/
def rQx(A:Option Addr)(c:Nat)(l:Bytes)(E:Option Addr)(ce:Nat)(xs:List Xt):Res:=rBoth (rSB (.slice A l.length c) l) (rXt E ce xs)
theorem Hp.addQ1(h:Hp F0 w0 w ro rs)(i j k:Nat){A B:Option Addr}{c c' g:Nat}{T:TypeId}{l m:Bytes}{s:ByteArray}(hi:ro[i]?=some (rSB (.slice A l.length c) l))(hj:ro[j]?=some (rSB (.slice B m.length c') m))(hk:ro[k]?=some (rBlk g T [.string s,.slice B m.length c'])) :
   Hp F0 w0 w (rQx A c l (some ⟨g,0,none⟩) 1 [⟨s,m,B,c'⟩]::ro) rs:=by
 refine h.addR _ ⟨h.rd i hi,rv_one (h.rd k hk),fun x hx=>?_⟩ fun n t ht q hq h2=>?_
 · have:x=⟨s,m,B,c'⟩:=by simpa using hx
   subst this;exact h.rd j hj
 rcases hq with hq|hq|⟨x,hx,hq⟩
 · exact h.rdis i n _ t hi ht q hq h2
 · have:g=q:=by simpa [ownA] using hq.2
   exact h.rdis k n _ t hk ht q this.symm h2
 have:x=⟨s,m,B,c'⟩:=by simpa using hx
 subst this;exact h.rdis j n _ t hj ht q hq h2
end
/-- Sum, of a request that is held so. -/
theorem sumQ_any{F:Nat->Prop}{tb:Nat}{st:STab}{srv:ByteArray}{nn till:Int}{r m:Bool}{l:Bytes}{xs:List Xt}{C D E:Option Addr}{cc an ca ce:Nat}(hsm:st.sums.length<=1000)(hx:okXt xs)(hs:rightN srv=true)(hsl:srv.size<=300)(hn:inN nn=true)(ht:inN till=true)(hll:l.length<=300)(hlen:(qB srv nn till r m l xs).length<=4096)
   (w':World) (hT:(rTab F tb st).Φ w') (hq:(rQx C cc l E ce xs).Φ w') (hd:(rQx C cc l E ce xs).dj (rTab F tb st)) :
   Calls Tryz.prog 23 #[.iface 28 (pt tb 0),.iface 40 (.agg #[.string srv,.int .i64 nn,.int .i64 till,.bool r,.bool m,.string bKDC,.slice C l.length cc,.slice D an ca,.slice E xs.length ce])] w' (SumPost F tb st (qB srv nn till r m l xs) w'):=
 sumTgs_any hT (by omega) hq.1 (fun q h1 h2=>hd q (.inl h1) h2) hq.2 (fun q h1 h2=>hd q (.inr h1) h2) hx hs (by omega) hn ht ⟨by decide,by omega⟩ right_kdc hlen
theorem tkD_len{s:ByteArray}{b:Bytes}(h1:s.size<=300)(h2:b.length<=300):(wrV (valD (.ticket s b))).length<=630:=by
 have h0:=wrV_leT (valD (.ticket s b))
 have e:bodyV (valD (.ticket s b))=wrL (valL (.ticket s b)):=rfl
 rw [e] at h0
 have h3:=wr_bD s.data.toList
 have h4:=wr_bD b
 rw [size_toList] at h3
 simp only [valL,wrL,List.length_append,List.length_nil] at h0
 omega
theorem xsD_len:∀ (xs:List Xt),(∀ x ∈ xs,x.s.size<=300/\x.b.length<=300)->xs.length<=1->(wrV (.mk 2 0 0 [] ((xs.map Xt.th).map valD))).length<=640
 | [],_,_=>by
   have h2:=wrV_leT (.mk 2 0 0 [] [])
   have e2:bodyV (.mk 2 0 0 [] [])=wrL []:=rfl
   rw [e2,wrL] at h2
   exact Nat.le_trans h2 (by decide)
 | [x],hx,_=>by
   have h2:=wrV_leT (.mk 2 0 0 [] [valD x.th])
   have e2:bodyV (.mk 2 0 0 [] [valD x.th])=wrL [valD x.th]:=rfl
   rw [e2] at h2
   simp only [wrL,List.length_append,List.length_nil] at h2
   have h3:(wrV (valD x.th)).length<=630:=tkD_len (hx x (by simp)).1 (hx x (by simp)).2
   exact Nat.le_trans h2 (by omega)
 | _::_::_,_,h=>absurd h (by simp)
theorem qB_len{srv:ByteArray}{nn till:Int}{r m:Bool}{l:Bytes}{xs:List Xt}(hs:srv.size<=300)(hl:l.length<=300)(hx:∀ x ∈ xs,x.s.size<=300/\x.b.length<=300)(h1:xs.length<=1):(qB srv nn till r m l xs).length<=4096:=by
 have a8:=xsD_len xs hx h1
 have a6:=tkD_len (s:=bKDC) (show (3:Nat)<=300 by decide) hl
 unfold qB
 generalize xs.map Xt.th=ys at *
 have h0:=wrV_leT (tgsD srv nn till r m (.ticket bKDC l) [] ys)
 have e:bodyV (tgsD srv nn till r m (.ticket bKDC l) [] ys)=wrL [bD srv.data.toList,nD nn,nD till,nD r.toNat,nD m.toNat,valD (.ticket bKDC l),bD [],.mk 2 0 0 [] (ys.map valD)]:=rfl
 rw [e] at h0
 have a1:=wr_bD srv.data.toList
 have a2:=wr_nD nn
 have a3:=wr_nD till
 have a4:=wr_nD (r.toNat:Int)
 have a5:=wr_nD (m.toNat:Int)
 have a7:=wr_bD []
 rw [size_toList] at a1
 simp only [wrL,List.length_append,List.length_nil] at h0 a7
 refine Nat.le_trans h0 ?_
 omega
section
variable{F G Gb:Nat->Prop}{sv kb cb bk tb bb most ce:Nat}{Kk Ki Kx K K2:Fin 16->UInt8}{s:STab}{sl:List Sh}{us:List User}{us_:User}{srv:ByteArray}{now nn till f fo a u r pf pa pu pr t q:Int}{C D E B:Option Addr}{c d e n:Nat}{l au pb b1 b2:Bytes}{w:World}
theorem tgsMet_any(h0:Hp (fun q=>F q∨G q) w w [rBlk sv 73 (svC kb cb bk),rBlk kb 78 (kdcC tb bb Kk),rSB (.slice C l.length c) l,rSB (.slice D au.length d) au,rQx C c l E ce [⟨bKDC,pb,B,e⟩],rBs Gb bb us] [rTab F tb s,rCa G cb most sl])
   (hrm:Room 8 s) (hsm:s.sums.length<=1000) (hx:openTh s (kl Kk) 2 l=.inr (.inside f Ki bANN a u r)) (hu:now<u) (hk:SK s (qB srv nn till false true l [⟨bKDC,pb,B,e⟩]) n) (hau:openTh s (kl Ki) 7 au=.inr (.authent bANN t q K2 (mkB 100 (n+1))))
   (hnear:nearF now t=true) (hsl:∀ y ∈ sl,0<=y.t/\y.t<=1099511627776) (hsn:(⟨bANN,t,q⟩:Sh) ∉ sl) (hmost:sl.length<most) (hmm:most<=1000)
   (hy:openTh s (kl Kk) 2 pb=.inr (.inside pf Kx srv pa pu pr)) (hpu:now<pu) (h32:us.length<=1000) (hb2:placeB us srv=true) (hu2:us[placeI us srv]?=some us_) (hmesh:us_.mesh=true) (hne:srv.toList≠bANN.toList)
   (hsr:rightN srv=true) (hss:srv.size<=300) (hn:inN nn=true) (ht:inN till=true) (hll:l.length<=300) (hpb:pb.length<=300) (hlen:(qB srv nn till false true l [⟨bKDC,pb,B,e⟩]).length<=4096) (hlt:now<till)
   (hK:kl K=mkB 107 (s.keys.length+1)) (hp1:packB (.inside 2 K bANN a (min (min till u) pu) 0)=.inr b1) (hp2:packB (.reply 2 K nn srv a (min (min till u) pu) 0)=.inr b2) :
   Calls Tryz.prog 12 #[pt sv 0,.int .i64 now,.agg ([Value.string srv,.int .i64 nn,.int .i64 till,.bool false,.bool true,.string bKDC,.slice C l.length c,.slice D au.length d,.slice E 1 ce]).toArray] w (TgPost F G tb cb most s.boxes.length bANN srv (((s.add SFrom.fresh).seal (kl Kx) 2 b1).seal (kl Ki) 8 b2) (keptF now sl++[⟨bANN,t,q⟩]) w):=by
 have hd:s.digest (qB srv nn till false true l [⟨bKDC,pb,B,e⟩])=s:=dig_old hk
 refine tgs_met (f:=f) (u:=u) (r:=r) (a:=a) (Ki:=Ki) (c1:=bANN) (s2:=s) (sl2:=keptF now sl++[⟨bANN,t,q⟩]) h0 (fun w' h=>?_) hrm hK hlt (by decide) (by omega) (fun F' w' h=>?_) hp1 hp2
 · have hw:=who_any (β:=qB srv nn till false true l [⟨bKDC,pb,B,e⟩]) (rr:=(0,keptF now sl++[⟨bANN,t,q⟩])) h hrm.ok (by omega) hx hu hau (by rw [hk.1])
     (sumQ_any (xs:=[⟨bKDC,pb,B,e⟩]) (D:=D) (an:=au.length) (ca:=d) hsm ⟨Nat.le_refl _,fun x hx=>by rw [List.mem_singleton.1 hx];exact ⟨right_kdc,show (3:Nat)<=100000 by decide,by show pb.length<=100000;omega⟩⟩ hsr hss hn ht hll hlen)
     (fun w' hC=>show_ok (x:=⟨bANN,t,q⟩) hC hnear hsl (by omega) hsn hmost (by omega))
   rw [hd] at hw
   exact hw
 have hq:=h.rd 4 rfl
 have h1:=((h.addR (rSB (.slice B pb.length e) pb) (hq.2.2 ⟨bKDC,pb,B,e⟩ (by simp)) (by simp)).addR (rRV 2 E ce [[.string bKDC,.slice B pb.length e]]) hq.2.1 (by simp))
 exact met_ok (h1.carve0 [(false,2),(false,3),(false,4),(false,5),(false,0),(false,1)] rfl) hrm.ok (by omega) hy hpu hb2 hu2 hmesh hne
/-- .. refused, as it was shown before. -/
theorem tgsTwice_any{m_ qr:Bool}{xs:List Xt}(h0:Hp (fun q=>F q∨G q) w w [rBlk sv 73 (svC kb cb bk),rBlk kb 78 (kdcC tb bb Kk),rSB (.slice C l.length c) l,rSB (.slice D au.length d) au,rQx C c l E ce xs,rBs Gb bb us] [rTab F tb s,rCa G cb most sl])
   (hrm:Room 8 s) (hsm:s.sums.length<=1000) (hx:openTh s (kl Kk) 2 l=.inr (.inside f Ki bANN a u r)) (hu:now<u) (hk:SK s (qB srv nn till qr m_ l xs) n) (hau:openTh s (kl Ki) 7 au=.inr (.authent bANN t q K2 (mkB 100 (n+1))))
   (hnear:nearF now t=true) (hsl:∀ y ∈ sl,0<=y.t/\y.t<=1099511627776) (hsn:(⟨bANN,t,q⟩:Sh) ∈ sl) (hsl2:sl.length<=1000) (hok:okXt xs)
   (hsr:rightN srv=true) (hss:srv.size<=300) (hn:inN nn=true) (ht:inN till=true) (hll:l.length<=300) (hlen:(qB srv nn till qr m_ l xs).length<=4096) :
   Calls Tryz.prog 12 #[pt sv 0,.int .i64 now,.agg ([Value.string srv,.int .i64 nn,.int .i64 till,.bool qr,.bool m_,.string bKDC,.slice C l.length c,.slice D au.length d,.slice E xs.length ce]).toArray] w (TgNo F G tb cb most 14 s sl w):=by
 have hd:s.digest (qB srv nn till qr m_ l xs)=s:=dig_old hk
 refine tgs_err (f:=f) (u:=u) (r:=r) (a:=a) (Ki:=Ki) (c1:=bANN) (s2:=s) (sl2:=sl) h0 (fun w' h=>?_) (by decide)
 have hw:=who_any (β:=qB srv nn till qr m_ l xs) (rr:=(14,sl)) h hrm.ok (by omega) hx hu hau (by rw [hk.1])
   (sumQ_any (xs:=xs) (D:=D) (an:=au.length) (ca:=d) hsm hok hsr hss hn ht hll hlen)
   (fun w' hC=>show_twice (x:=⟨bANN,t,q⟩) hC hnear hsl (by omega) hsn)
 rw [hd] at hw
 exact hw
end
section
variable{kk ka kb_:Fin 16->UInt8}{b0 b1 b2 b3 b4 b5:Bytes}
theorem bxOx:(sO kk ka kb_ b0 b1 b2 b3 b4 b5).box (mkB 98 2)=some ⟨kl kk,2,b1⟩:=box_at (s:=sO kk ka kb_ b0 b1 b2 b3 b4 b5) (n:=1) rfl (by decide)
theorem bxOy:(sO kk ka kb_ b0 b1 b2 b3 b4 b5).box (mkB 98 5)=some ⟨kl kk,2,b4⟩:=box_at (s:=sO kk ka kb_ b0 b1 b2 b3 b4 b5) (n:=4) rfl (by decide)
theorem roomO{t0 t1 t2 t3 t4 t5:Thing}(h0:packB t0=.inr b0)(h1:packB t1=.inr b1)(h2:packB t2=.inr b2)(h3:packB t3=.inr b3)(h4:packB t4=.inr b4)(h5:packB t5=.inr b5):Room 900000 (sO kk ka kb_ b0 b1 b2 b3 b4 b5):=by
 refine room_is (n:=9) 900000 ?_ (by show 6<=9;decide) (by show 5<=9;decide) (by decide)
 intro b hb
 simp only [sO,List.mem_cons,List.not_mem_nil,or_false] at hb
 rcases hb with rfl|rfl|rfl|rfl|rfl|rfl
 · exact pack_le h0
 · exact pack_le h1
 · exact pack_le h2
 · exact pack_le h3
 · exact pack_le h4
 exact pack_le h5
end
section
variable{s:STab}{β k b l:Bytes}{u:Int}{n:Nat}{x:SSealed}
/-- The table behind auth. -/
theorem au_box(hn:s.boxes.length=n)(hl:n<1000000):((s.digest β).seal k u b).box (mkB 98 (n+1))=some ⟨k,u,b⟩:=by
 subst hn
 have:=bx_new (s:=s.digest β) (k:=k) (u:=u) (b:=b) (by rw [dig_boxes];exact hl)
 rwa [dig_boxes] at this
theorem au_old(h:s.box l=some x):((s.digest β).seal k u b).box l=some x:=bx_seal (bx_dig.trans h)
theorem au_len(hn:s.boxes.length=n):((s.digest β).seal k u b).boxes.length=n+1:=by rw [seal_len,dig_boxes,hn]
theorem au_keys(hn:s.keys.length=n):((s.digest β).seal k u b).keys.length=n:=by show (s.digest β).keys.length=n;rw [dig_keys,hn]
theorem au_sk:SK ((s.digest β).seal k u b) β (s.sumAt β):=sk_new
theorem au_sums(hn:s.sums.length<=n):((s.digest β).seal k u b).sums.length<=n+1:=dig_len hn
end
end
end Go.Proofs.YtdefpmmdpfpipaaGreat
