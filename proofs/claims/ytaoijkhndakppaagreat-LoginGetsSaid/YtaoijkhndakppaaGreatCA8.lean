/- The walk of tick.Value: a fact. -/
import Derived.Test.YtaoijkhndakppaaGreatCA7
set_option maxRecDepth 100000
set_option maxHeartbeats 4000000
namespace Go.Proofs.YtaoijkhndakppaaGreat
section
open Go.RowKit Go.QT
theorem body_step(d:Nat)(ih:∀ (F:Nat->Prop) (cs:List Value) (v:DVal) (w:World),(rDV F cs v).Φ w->rightV v (d+1)=true->(wrV v).length<=1000000->Calls Tryz.prog 103 #[.agg cs.toArray] w (BPost w (wrV v)))
   (F:Nat->Prop) (cs:List Value) (v:DVal) (w:World) (hv:(rDV F cs v).Φ w) (hr:rightV v d=true) (hn:(bodyV v).length<=1000000):Calls Tryz.prog 126 #[.agg cs.toArray] w (BodyPost F w (bodyV v)):=by
 obtain ⟨k,t,n,b,ts⟩:=v
 obtain ⟨B,dd,A,c,xs,rfl,hbb,hxx,hll,hn6,hbF,hLL⟩:=dv_open hv
 simp only [DVal.kind,DVal.tag,DVal.n,DVal.b,DVal.l] at *
 have hcap:ts.length<=9223372036854775807:=by have h1:=hxx.le;have h2:=hxx.cap;unfold maxLen at h2;omega
 have hk2:=rightV_le hr
 have h0:=((Hp.ro1 (rDL F xs ts) hLL).addR (rSB (.slice B b.length dd) b) hbb (by simp)).addR (rRV 5 A c xs) hxx (by simp)
 refine mE 30 ?_
 refine mN h0 196 ([(Value.int .i64 ((k:Int))),(Value.int .i64 ((t:Int))),(Value.int .u64 ((n:Int))),(Value.slice B b.length dd),(Value.slice A ts.length c)]) fun g2 w2 h2=>?_
 refine ma h2 0 ?_
 refine m_ifeq 8 ((k:Int)) 0 (by kernel_rfl) (fun b6=>?_) (fun b6=>?_)
 ·
  have hk0:k=0:=by omega
  refine ma h2 0 ?_
  refine mT (x_sbO h2 140 [(Value.int .u64 ((n:Int)))] (by kernel_rfl) (short_any n hn6 _) (shortB n) ((shortB n).length) rfl rfl) ?_
  rintro _ w8 ⟨A8,c8,rfl,h8⟩
  refine mP (Value.slice A8 ((shortB n).length) c8) ?_
  exact bodypost_sb h8 0 rfl (bodyV_0 hk0).symm
 have hk0:k≠0:=by omega
 refine m_ifeq 13 ((k:Int)) 1 (by kernel_rfl) (fun b10=>?_) (fun b10=>?_)
 ·
  have hk1:k=1:=by omega
  refine ma h2 0 ?_
  refine mP (Value.slice B b.length dd) ?_
  exact bodypost_ro h2 1 rfl hbF (bodyV_1 hk1).symm
 have hk1:k≠1:=by omega
 have h15:=h2.obNil
 have hL:=rightV_l hr hk0 hk1
 have hB:=bodyV_2 (t:=t) (n:=n) (b:=b) (ts:=ts) hk0 hk1
 rw [hB] at hn
 refine ma h15 1 ?_
 refine mL (fun mM xX aA wL=>∃ (i:Nat) (l:Bytes) (Av:Option Addr) (cv:Nat),(i<=ts.length)/\(l=wrL (ts.take i))/\mM=ts.length-i/\aA=patch xX 30 [(2,(Value.slice none 0 0)),(3,(Value.slice Av ((l:Bytes).length) cv)),(18,(Value.slice A ts.length c)),(19,(Value.int .i64 ((ts.length:Int)))),(20,(Value.int .i64 ((i:Int))))]/\Hp (fun _=>False) w wL [rRV 5 A c xs,rSB ((Value.slice B b.length dd)) b,rDL F xs ts] [rOB ((Value.slice Av ((l:Bytes).length) cv)) l,rBlk g2 196 ([(Value.int .i64 ((k:Int))),(Value.int .i64 ((t:Int))),(Value.int .u64 ((n:Int))),(Value.slice B b.length dd),(Value.slice A ts.length c)])]) ⟨_,_,0,(([]:Bytes)),none,0,(by omega),(by simp [wrL]),rfl,pM,h15.sel [0,1] [0,1,2] (by kernel_rfl) rfl rfl⟩ ?_
 rintro _ x16 _ w16 ⟨i,l,Av,cv,hi,hl,rfl,rfl,h16⟩ KL16 hKL16
 refine mAt ?_
 refine m_if 21 ((i:Int)<(ts.length:Int)) (by kernel_rfl) (fun b19=>?_) (fun b19=>?_)
 ·
  obtain ⟨xe,u,hxi,hui,hxe⟩:=dl_at (h16.rd 2 rfl) hll i (by omega)
  obtain ⟨ke,te,ne,be,le⟩:=u
  obtain ⟨Be,de,Ae,ce,xse,rfl,_,_,_,_,_,_⟩:=dv_open hxe
  clear hxe
  simp only [DVal.kind,DVal.tag,DVal.n,DVal.b,DVal.l] at *
  have hz1:=congrArg List.length (wrL_take ts i _ hui)
  rw [List.length_append] at hz1
  have hz2:=wrL_take_le ts (i+1)
  have hz3:=congrArg List.length hl
  have hru:=rightL_at ts (d+1) i _ hui hL
  refine mW 22 (eIx (RV.lenIs (n:=ts.length) (h16.rd 0 rfl) hll).2 i ts.length (RV.lenIs (n:=ts.length) (h16.rd 0 rfl) hll).1 (by omega) 194 (.tmp 18) (.tmp 20) .i64 196) ?_
  refine mW 23 (e_elemsN (RV.lenIs (n:=ts.length) (h16.rd 0 rfl) hll).2 i 0 ([(Value.int .i64 ((ke:Int))),(Value.int .i64 ((te:Int))),(Value.int .u64 ((ne:Int))),(Value.slice Be be.length de),(Value.slice Ae le.length ce)]) hxi 196 (.tmp 22) (by kernel_rfl) ([(Value.int .i64 ((ke:Int))),(Value.int .i64 ((te:Int))),(Value.int .u64 ((ne:Int))),(Value.slice Be be.length de),(Value.slice Ae le.length ce)]) (by kernel_rfl) (by kernel_rfl) (by kernel_rfl)) ?_
  refine mN h16 196 ([(Value.int .i64 0),(Value.int .i64 0),(Value.int .u64 0),(Value.slice none 0 0),(Value.slice none 0 0)]) fun g22 w22 h22=>?_
  refine mT (xSs h22 0 196 (.tmp 5) (.tmp 23) 0 ([(Value.int .i64 ((ke:Int))),(Value.int .i64 ((te:Int))),(Value.int .u64 ((ne:Int))),(Value.slice Be be.length de),(Value.slice Ae le.length ce)]) ([(Value.int .i64 ((ke:Int))),(Value.int .i64 ((te:Int))),(Value.int .u64 ((ne:Int))),(Value.slice Be be.length de),(Value.slice Ae le.length ce)])) fun _ w23 h23=>?_
  refine ma h23 0 ?_
  refine mT (x_bytesE h23 103 [(Value.agg ([(Value.int .i64 ((ke:Int))),(Value.int .i64 ((te:Int))),(Value.int .u64 ((ne:Int))),(Value.slice Be be.length de),(Value.slice Ae le.length ce)]).toArray)] (by kernel_rfl) (ih F _ (DVal.mk ke te ne be le) _ ⟨(h23.rd 2 rfl).1,(h23.rd 2 rfl).2 i _ _ hxi hui⟩ hru (by omega)) (wrV (DVal.mk ke te ne be le)) ((wrV (DVal.mk ke te ne be le)).length) rfl rfl) ?_
  rintro _ w24 ⟨A24,c24,rfl,h24⟩
  refine mT (x_appG h24 2 rfl (.tmp 24) (.tmp 26) (by kernel_rfl) (Value.slice A24 ((wrV (DVal.mk ke te ne be le)).length) c24) (by kernel_rfl) (by kernel_rfl) (OB.sb (h24.at_ 0 rfl)) (by omega) (l++(wrV (DVal.mk ke te ne be le))) ((l++(wrV (DVal.mk ke te ne be le))).length) rfl rfl) ?_
  rintro _ w25 ⟨A25,c25,rfl,h25⟩
  refine mW 28 (exec_add _ _ _ _ bO ((i:Int)) 1 (by kernel_rfl) (by kernel_rfl) (((i+1:Nat):Int)) (by omega) (by omega) (by omega) _) ?_
  exact mK KL16 (hKL16 _ _ ⟨ts.length-(i+1),_,(by omega),(i+1),((l++wrV (DVal.mk ke te ne be le))),A25,c25,(by omega),(by rw [wrL_take ts i _ hui,← hl]),rfl,pM,h25.sel [2,3] [0,1,2] (by kernel_rfl) rfl rfl⟩)
 refine mP (Value.slice Av ((l:Bytes).length) cv) ?_
 exact bodypost_ob h16 0 rfl (by rw [hB,hl,show i=ts.length by omega,List.take_length])
theorem write_step(d:Nat)(ih:∀ (F:Nat->Prop) (cs:List Value) (v:DVal) (w:World),(rDV F cs v).Φ w->rightV v (d+1)=true->(wrV v).length<=1000000->Calls Tryz.prog 103 #[.agg cs.toArray] w (BPost w (wrV v)))
   (F:Nat->Prop) (cs:List Value) (v:DVal) (w:World) (hv:(rDV F cs v).Φ w) (hr:rightV v d=true) (hn:(wrV v).length<=1000000):Calls Tryz.prog 103 #[.agg cs.toArray] w (BPost w (wrV v)):=by
 have hbn:=Nat.le_trans (wrV_len v) hn
 have hbody:=body_step d ih F cs v
 obtain ⟨k,t,n,b,ts⟩:=v
 obtain ⟨B,dd,A,c,xs,rfl,hbb,hxx,hll,hn6,hbF,hLL⟩:=dv_open hv
 simp only [DVal.kind,DVal.tag,DVal.n,DVal.b,DVal.l] at *
 have hcap:ts.length<=9223372036854775807:=by have h1:=hxx.le;have h2:=hxx.cap;unfold maxLen at h2;omega
 have hk2:=rightV_le hr
 have hh:=headB_len k t (bodyV (DVal.mk k t n b ts)).length
 have h0:=Hp.ro1 (rDV F _ _) hv
 refine mE 16 ?_
 refine mN h0 196 ([(Value.int .i64 ((k:Int))),(Value.int .i64 ((t:Int))),(Value.int .u64 ((n:Int))),(Value.slice B b.length dd),(Value.slice A ts.length c)]) fun g2 w2 h2=>?_
 refine ma h2 0 ?_
 refine mT (x_body h2 0 rfl 126 [(Value.agg ([(Value.int .i64 ((k:Int))),(Value.int .i64 ((t:Int))),(Value.int .u64 ((n:Int))),(Value.slice B b.length dd),(Value.slice A ts.length c)]).toArray)] (by kernel_rfl) (hbody _ (h2.rd 0 rfl) hr hbn) (bodyV (DVal.mk k t n b ts)) ((bodyV (DVal.mk k t n b ts)).length) rfl rfl) ?_
 rintro _ w4 ⟨A4,c4,rfl,h4⟩
 refine ma h4 0 ?_
 refine ma h4 0 ?_
 refine mT (x_bytesE h4 128 [(Value.int .i64 ((k:Int))),(Value.int .i64 ((t:Int))),(Value.int .i64 (((bodyV (DVal.mk k t n b ts)).length:Int)))] (by kernel_rfl) (head_any k t (bodyV (DVal.mk k t n b ts)).length hk2.1 hk2.2.1 hbn _) (headB k t (bodyV (DVal.mk k t n b ts)).length) ((headB k t (bodyV (DVal.mk k t n b ts)).length).length) rfl rfl) ?_
 rintro _ w6 ⟨A6,c6,rfl,h6⟩
 refine mT (x_bs h6 25 ([(Value.slice A6 ((headB k t (bodyV (DVal.mk k t n b ts)).length).length) c6),(Value.slice A4 ((bodyV (DVal.mk k t n b ts)).length) c4)]) 2 (by kernel_rfl)) ?_
 rintro _ w7 ⟨g7,rfl,h7⟩
 refine mT (x_bytesE h7 127 [(Value.slice (some ⟨g7,0,none⟩) 2 2)] (by kernel_rfl) (joined_any (Value.slice (some ⟨g7,0,none⟩) 2 2) [headB k t (bodyV (DVal.mk k t n b ts)).length,bodyV (DVal.mk k t n b ts)] _ (bs2 (h7.at_ 0 rfl) (OB.sb (h7.at_ 1 rfl)) (h7.rd 0 rfl)) (by simp only [List.flatten_cons,List.flatten_nil,List.length_append,List.length_nil];omega)) ((headB k t (bodyV (DVal.mk k t n b ts)).length)++(bodyV (DVal.mk k t n b ts))) (((headB k t (bodyV (DVal.mk k t n b ts)).length)++(bodyV (DVal.mk k t n b ts))).length) (by simp) rfl) ?_
 rintro _ w8 ⟨A8,c8,rfl,h8⟩
 refine mP (Value.slice A8 (((headB k t (bodyV (DVal.mk k t n b ts)).length)++(bodyV (DVal.mk k t n b ts))).length) c8) ?_
 exact bpost_of h8 0 rfl (wrV_eq (DVal.mk k t n b ts)).symm
/-- A value's bytes: by the code. -/
theorem write_any(m:Nat):∀ (d:Nat),9<=d+m->∀ (F:Nat->Prop) (cs:List Value) (v:DVal) (w:World),(rDV F cs v).Φ w->rightV v d=true->(wrV v).length<=1000000->Calls Tryz.prog 103 #[.agg cs.toArray] w (BPost w (wrV v)):=by
 induction m with
 | zero=>intro d h F cs v w hv hr hn;obtain ⟨k,t,n,b,ts⟩:=v;exact absurd (rightV_le hr).2.2 (by omega)
 | succ m ih=>intro d h F cs v w hv hr hn;exact write_step d (ih (d+1) (by omega)) F cs v w hv hr hn
theorem Right_any(F:Nat->Prop)(cs:List Value)(v:DVal)(w:World)(hv:(rDV F cs v).Φ w):Calls Tryz.prog 102 #[.agg cs.toArray] w (DPost w (.bool (rightV v 1))):=by
 obtain ⟨k,t,n,b,ts⟩:=v
 obtain ⟨B,dd,A,c,xs,rfl,hbb,hxx,hll,hn6,hbF,hLL⟩:=dv_open hv
 simp only [DVal.kind,DVal.tag,DVal.n,DVal.b,DVal.l] at *
 have hcap:ts.length<=9223372036854775807:=by have h1:=hxx.le;have h2:=hxx.cap;unfold maxLen at h2;omega
 have h0:=Hp.ro1 (rDV F _ _) hv
 refine mE 5 ?_
 refine mN h0 196 ([(Value.int .i64 ((k:Int))),(Value.int .i64 ((t:Int))),(Value.int .u64 ((n:Int))),(Value.slice B b.length dd),(Value.slice A ts.length c)]) fun g2 w2 h2=>?_
 refine ma h2 0 ?_
 refine mD h2 [(Value.agg ([(Value.int .i64 ((k:Int))),(Value.int .i64 ((t:Int))),(Value.int .u64 ((n:Int))),(Value.slice B b.length dd),(Value.slice A ts.length c)]).toArray),(Value.int .i64 1)] (right_any 8 1 (by omega) (by omega) F _ (DVal.mk k t n b ts) _ (h2.rd 0 rfl)) (fun w4 h4=>?_)
 exact mQ h4
/-- What der.Write leaves of a value that may be. -/
def WrPost(w:World)(l:Bytes)(e:Ending)(w':World):Prop:=∃ A c,e=.returned (.tuple #[.slice A l.length c,.int .i64 0])/\Hp (fun _=>False) w w' [] [rOB (.slice A l.length c) l]
theorem Write_any(F:Nat->Prop)(cs:List Value)(v:DVal)(w:World)(hv:(rDV F cs v).Φ w)(hr:rightV v 1=true)(hn:(wrV v).length<=4096):Calls Tryz.prog 73 #[.agg cs.toArray] w (WrPost w (wrV v)):=by
 obtain ⟨k,t,n,b,ts⟩:=v
 obtain ⟨B,dd,A,c,xs,rfl,hbb,hxx,hll,hn6,hbF,hLL⟩:=dv_open hv
 simp only [DVal.kind,DVal.tag,DVal.n,DVal.b,DVal.l] at *
 have hcap:ts.length<=9223372036854775807:=by have h1:=hxx.le;have h2:=hxx.cap;unfold maxLen at h2;omega
 have h0:=Hp.ro1 (rDV F _ _) hv
 refine mE 14 ?_
 refine mN h0 196 ([(Value.int .i64 ((k:Int))),(Value.int .i64 ((t:Int))),(Value.int .u64 ((n:Int))),(Value.slice B b.length dd),(Value.slice A ts.length c)]) fun g2 w2 h2=>?_
 refine ma h2 0 ?_
 refine mT (x_dp (v:=.bool true) h2 102 [(Value.agg ([(Value.int .i64 ((k:Int))),(Value.int .i64 ((t:Int))),(Value.int .u64 ((n:Int))),(Value.slice B b.length dd),(Value.slice A ts.length c)]).toArray)] (by kernel_rfl) (by have hz:=Right_any F _ (DVal.mk k t n b ts) _ (h2.rd 0 rfl);rw [hr] at hz;exact hz)) ?_
 rintro _ w5 ⟨rfl,h5⟩
 refine ma h5 0 ?_
 refine mT (x_bytesE h5 103 [(Value.agg ([(Value.int .i64 ((k:Int))),(Value.int .i64 ((t:Int))),(Value.int .u64 ((n:Int))),(Value.slice B b.length dd),(Value.slice A ts.length c)]).toArray)] (by kernel_rfl) (write_any 8 1 (by omega) F _ (DVal.mk k t n b ts) _ (h5.rd 0 rfl) hr (by omega)) (wrV (DVal.mk k t n b ts)) ((wrV (DVal.mk k t n b ts)).length) rfl rfl) ?_
 rintro _ w7 ⟨A7,c7,rfl,h7⟩
 refine mX 12 (.bool false) (Value.bool (decide (((wrV (DVal.mk k t n b ts)).length:Int)>4096))) (by simp;omega) ?_
 refine mP (Value.tuple #[(Value.slice A7 ((wrV (DVal.mk k t n b ts)).length) c7),(Value.int .i64 0)]) ?_
 exact ⟨_,_,rfl,h7.sel [0] [] (by decide) rfl rfl⟩
end
section
theorem getN_put8(n:Nat)(h:n<18446744073709551616):getN (put8 n)=n:=by
 have e:put8 n=[UInt8.ofNat (n / 72057594037927936),UInt8.ofNat (n / 281474976710656),UInt8.ofNat (n / 1099511627776),UInt8.ofNat (n / 4294967296),UInt8.ofNat (n / 16777216),UInt8.ofNat (n / 65536),UInt8.ofNat (n / 256),UInt8.ofNat (n / 1)]:=rfl
 have f:∀ x,nb (UInt8.ofNat x)=x % 256:=fun x=>by unfold nb;simp
 rw [e]
 simp only [getN,List.foldl_cons,List.foldl_nil,f]
 omega
end
section
open Go.RowKit Go.QT
theorem foldN(r:Bytes):∀ x:Nat,r.foldl (fun n c=>256*n+nb c) x=x*256 ^ r.length+getN r:=by
 induction r with
 | nil=>intro x;simp [getN]
 | cons a r ih =>
   intro x
   have h1:=ih (256*x+nb a)
   have h2:=ih (256*0+nb a)
   unfold getN at *
   rw [List.foldl_cons,List.foldl_cons,h1,h2,List.length_cons,Nat.pow_succ,Nat.add_mul,Nat.add_mul]
   have:256*x*256 ^ r.length=x*(256 ^ r.length*256):=by rw [Nat.mul_comm 256 x,Nat.mul_assoc,Nat.mul_comm 256]
   omega
theorem getN_cons(a:UInt8)(r:Bytes):getN (a::r)=nb a*256 ^ r.length+getN r:=by
 have:=foldN r (nb a)
 show r.foldl (fun n c=>256*n+nb c) (256*0+nb a)=_
 rw [Nat.mul_zero,Nat.zero_add];exact this
theorem getN_zero(r:Bytes):getN (0::r)=getN r:=by
 have:nb (0:UInt8)=0:=by unfold nb;rfl
 rw [getN_cons,this,Nat.zero_mul,Nat.zero_add]
theorem getN_strip:∀ l:Bytes,getN (stripZ l)=getN l
 | []=>rfl
 | [_]=>rfl
 | a::b::r=>by
   rw [stripZ]
   split
   · rename_i h;rw [getN_strip (b::r),h,getN_zero]
   rfl
theorem getN_short{n:Nat}(h:n<18446744073709551616):getN (shortB n)=n:=by
 unfold shortB;rw [getN_strip,getN_put8 n h]
theorem strip_lead:∀ l:Bytes,1<(stripZ l).length->gb (stripZ l) 0≠0
 | [],h=>by simp [stripZ] at h
 | [_],h=>by simp [stripZ] at h
 | a::b::r,h=>by
   rw [stripZ] at h ⊢
   split
   · rename_i h0;rw [if_pos h0] at h;exact strip_lead (b::r) h
   rename_i h0;exact h0
theorem short_lead(n:Nat)(h:1<(shortB n).length):gb (shortB n) 0≠0:=strip_lead _ h
theorem nb_pos{x:UInt8}(h:x≠0):0<nb x:=by
 rcases Nat.eq_zero_or_pos (nb x) with h0|h0
 · exact absurd (UInt8.toNat_inj.1 (by unfold nb at h0;simpa using h0)) h
 exact h0
theorem lead_ge(l:Bytes)(h:1<l.length)(h0:gb l 0≠0):256 ^ (l.length-1)<=getN l:=by
 match l,h with
 | a::r,_ =>
   have h1:=nb_pos (x:=a) h0
   rw [getN_cons,List.length_cons,Nat.add_sub_cancel]
   have:=Nat.mul_le_mul_right (256 ^ r.length) h1
   omega
/-- A length that has bytes of its own has one or two. -/
theorem short_two{m:Nat}(h0:128<=m)(h:m<65536):((shortB m).length=1/\m<256)∨((shortB m).length=2/\256<=m):=by
 have hg:=getN_short (n:=m) (by omega)
 have hne:=List.length_pos_iff.2 (shortB_ne m)
 have hlt:=getN_lt (shortB m) (shortB m).length (Nat.le_refl _)
 rw [List.take_length,hg] at hlt
 by_cases h1:(shortB m).length=1
 · rw [h1] at hlt;exact .inl ⟨h1,by omega⟩
 have hge:=lead_ge (shortB m) (by omega) (short_lead m (by omega))
 rw [hg] at hge
 by_cases h2:(shortB m).length=2
 · rw [h2] at hge;exact .inr ⟨h2,by omega⟩
 exfalso
 have h3:256 ^ 2<=256 ^ ((shortB m).length-1):=Nat.pow_le_pow_right (by omega) (by omega)
 omega
theorem nb_ofNat{n:Nat}(h:n<256):nb (UInt8.ofNat n)=n:=by
 unfold nb;rw [UInt8.toNat_ofNat'];omega
/-- The second byte says how many follow .. -/
theorem head_lo1(k t:Nat){m:Nat}(h:m<128)(r:Bytes):nb (gb (headB k t m++r) 1)=m:=by
 rw [headB_lo _ _ _ h];exact nb_ofNat (by omega)
/-- .. or how many bytes say it. -/
theorem head_hi1(k t:Nat){m:Nat}(h:¬ m<128)(r:Bytes):nb (gb (headB k t m++r) 1)=128+(shortB m).length:=by
 rw [headB_hi _ _ _ h];have:=shortB_len m;exact nb_ofNat (by omega)
theorem head_0(k t m:Nat)(hk:k<=2)(ht:t<=30)(r:Bytes):nb (gb (headB k t m++r) 0)=k*64+t:=by
 by_cases h:m<128
 · rw [headB_lo _ _ _ h];exact nb_ofNat (by omega)
 rw [headB_hi _ _ _ h];exact nb_ofNat (by omega)
theorem head_hi2(k t:Nat){m:Nat}(h:¬ m<128)(r:Bytes):((headB k t m++r).take (2+(shortB m).length)).drop 2=shortB m:=by
 rw [headB_hi _ _ _ h]
 have e:2+(shortB m).length=([UInt8.ofNat (k*64+t),UInt8.ofNat (128+(shortB m).length)]++shortB m).length:=by simp;omega
 rw [e,List.take_left];rfl
theorem head_loL(k t:Nat){m:Nat}(h:m<128):(headB k t m).length=2:=by rw [headB_lo _ _ _ h];rfl
theorem head_hiL(k t:Nat){m:Nat}(h:¬ m<128):(headB k t m).length=2+(shortB m).length:=by rw [headB_hi _ _ _ h];simp;omega
theorem u64_ub(x:UInt8){m:Nat}(h:nb x=m):Value.int .u64 (IntKind.u64.wrap (ub x))=Value.int .u64 (m:Int):=by
 have:=nb_lt x
 congr 1;rw [IntKind.wrap_u64];unfold ub nb at *;omega
theorem i64_nat{m:Nat}(h:m<9223372036854775808):Value.int .i64 (IntKind.i64.wrap ((m:Nat):Int))=Value.int .i64 (m:Int):=by
 congr 1;rw [IntKind.wrap_i64];omega
theorem u64_sub{m n p:Nat}(h:m=n+p)(hm:m<18446744073709551616):Value.int .u64 (IntKind.u64.wrap ((m:Nat)-(n:Nat):Int))=Value.int .u64 (p:Int):=by
 congr 1;rw [IntKind.wrap_u64];omega
section
variable{o:Oper}{a:Act}{w:World}{F0:Nat->Prop}{w0:World}{ro rs:List Res}
theorem x_getD(h:Hp F0 w0 w ro rs)(l:Bytes)(bv:Value)(hp:pureVal Tryz.prog (execOp a.eval o)=some (.enter 61 #[bv]))(hb:SB w bv l)(h0:l.length≠0)(h8:l.length<=8)(n:Nat)(hn:getN l=n) :
   OpTo Tryz.prog o a w (fun u w'=>u=.tuple #[.int .u64 ((n:Nat):Int),.bool true]/\Hp F0 w0 w' ro rs):=
 OpTo.enter 61 [bv] hp (get_any bv l w hb) fun e w' hq=>by
   obtain ⟨he,m,rfl⟩:=hq
   rw [getP_yes l h0 h8,Option.getD_some,hn] at he
   exact ⟨_,he,rfl,h.drewN m⟩
end
end
section
open Go.RowKit Go.QT
theorem size_lo(L:Bytes)(m:Nat)(h1:nb (gb L 1)=m)(hm:m<128)(hl:2+m<=L.length)(hx:L.length<=1000000)(A:Option Addr)(c:Nat)(w:World)(hv:SB w (.slice A L.length c) L):Calls Tryz.prog 129 #[.slice A L.length c] w (DPost w (.tuple #[.int .i64 (m:Int),.int .i64 2,.int .i64 0])):=by
 have h0:=Hp.ro1 (rSB (.slice A L.length c) L) hv
 refine mE 61 ?_
 refine mX 10 (.bool false) (Value.bool (decide ((L.length:Int)<2))) (by simp;omega) ?_
 refine mW 12 (eIx (SB.rvn (h0.rd 0 rfl)).2 1 L.length (SB.rvn (h0.rd 0 rfl)).1 (by omega) 25 (.tmp 11) (.const (Value.int .i64 1)) .i64 5) ?_
 refine mW 13 (eEl (SB.rvn (h0.rd 0 rfl)).2 1 0 ([(Value.int .u8 (ub (gb (L) (1))))]) (bx_get _ _ (by omega)) 5 (.tmp 12) (Value.int .u8 (ub (gb (L) (1))))) ?_
 refine mX 14 (Value.int .u64 ((m:Int))) (Value.int .u64 (IntKind.u64.wrap (ub (gb (L) (1))))) (u64_ub _ h1) ?_
 refine mX 16 (.bool false) (Value.bool (decide ((m:Int) ≥ 128))) (by simp;omega) ?_
 refine mW 55 (exec_sub _ _ _ _ bO ((L.length:Int)) 2 (by kernel_rfl) (by kernel_rfl) ((((L.length)-2:Nat):Int)) (by omega) (by omega) (by omega) _) ?_
 refine mX 56 (Value.int .u64 ((((L.length)-2:Nat):Int))) (Value.int .u64 (IntKind.u64.wrap ((((L.length)-2:Nat):Int)))) (wrap_u64_is (by omega) (by omega)) ?_
 refine mX 57 (.bool false) (Value.bool (decide ((m:Int)>(((L.length)-2:Nat):Int)))) (by simp;omega) ?_
 refine mX 59 (Value.int .i64 ((m:Int))) (Value.int .i64 (IntKind.i64.wrap ((m:Int)))) (i64_nat (by omega)) ?_
 exact mQ h0
theorem size_hi(L S:Bytes)(m K:Nat)(h1:nb (gb L 1)=128+K)(hK:(K=1/\m<256)∨(K=2/\256<=m))(hm:128<=m)(hc:(L.take (2+K)).drop 2=S)(hS:getN S=m)(hSl:S.length=K)(hl:2+K+m<=L.length)(hx:L.length<=1000000)(A:Option Addr)(c:Nat)(w:World)(hv:SB w (.slice A L.length c) L):Calls Tryz.prog 129 #[.slice A L.length c] w (DPost w (.tuple #[.int .i64 (m:Int),.int .i64 ((2+K:Nat):Int),.int .i64 0])):=by
 have h0:=Hp.ro1 (rSB (.slice A L.length c) L) hv
 refine mE 61 ?_
 refine mX 10 (.bool false) (Value.bool (decide ((L.length:Int)<2))) (by simp;omega) ?_
 refine mW 12 (eIx (SB.rvn (h0.rd 0 rfl)).2 1 L.length (SB.rvn (h0.rd 0 rfl)).1 (by omega) 25 (.tmp 11) (.const (Value.int .i64 1)) .i64 5) ?_
 refine mW 13 (eEl (SB.rvn (h0.rd 0 rfl)).2 1 0 ([(Value.int .u8 (ub (gb (L) (1))))]) (bx_get _ _ (by omega)) 5 (.tmp 12) (Value.int .u8 (ub (gb (L) (1))))) ?_
 refine mX 14 (Value.int .u64 (((128+K:Nat):Int))) (Value.int .u64 (IntKind.u64.wrap (ub (gb (L) (1))))) (u64_ub _ h1) ?_
 refine mX 16 (.bool true) (Value.bool (decide (((128+K:Nat):Int) ≥ 128))) (by simp;omega) ?_
 refine mX 18 (Value.int .u64 ((K:Int))) (Value.int .u64 (IntKind.u64.wrap (((128+K:Nat):Int)-128))) (u64_sub (m:=128+K) (n:=128) rfl (by omega)) ?_
 refine mX 19 (Value.int .i64 ((K:Int))) (Value.int .i64 (IntKind.i64.wrap ((K:Int)))) (i64_nat (by omega)) ?_
 refine mX 21 (.bool false) (Value.bool (decide ((K:Int)<1))) (by simp;omega) ?_
 refine mX 24 (.bool false) (Value.bool (decide ((K:Int)>2))) (by simp;omega) ?_
 refine mW 29 (exec_add _ _ _ _ bO 2 ((K:Int)) (by kernel_rfl) (by kernel_rfl) (((2+K:Nat):Int)) (by omega) (by omega) (by omega) _) ?_
 refine mX 30 (.bool false) (Value.bool (decide ((L.length:Int)<((2+K:Nat):Int)))) (by simp;omega) ?_
 refine mW 34 (exec_add _ _ _ _ bO 2 ((K:Int)) (by kernel_rfl) (by kernel_rfl) (((2+K:Nat):Int)) (by omega) (by omega) (by omega) _) ?_
 refine mW 35 (e_cut_lh (h0.rd 0 rfl) (.tmp 32) (.const (Value.int .i64 2)) (.tmp 34) (by kernel_rfl) (by kernel_rfl) .i64 .i64 2 (((2+K))) (by kernel_rfl) (by kernel_rfl) (by omega) (by omega) _) ?_
 refine mT (x_getD h0 (((L).take (((2+K)))).drop 2) (cutS (Value.slice A L.length c) 2 (((2+K)))) (by kernel_rfl) (SB.cut (h0.rd 0 rfl) 2 (((2+K))) (by omega)) (by rw [hc];omega) (by rw [hc];omega) m (by rw [hc,hS])) ?_
 rintro _ w13 ⟨rfl,h13⟩
 refine mW 40 (exec_add _ _ _ _ bO 2 ((K:Int)) (by kernel_rfl) (by kernel_rfl) (((2+K:Nat):Int)) (by omega) (by omega) (by omega) _) ?_
 rcases hK with ⟨hq1,hq2⟩|⟨hq1,hq2⟩
 ·
  refine mX 42 (.bool false) (Value.bool (decide (((m:Nat):Int)<128))) (by simp;omega) ?_
  refine mX 45 (.bool false) (Value.bool (((K:Int)) == 2)) (by rw [hq1];rfl) ?_
  refine mW 55 (exec_sub _ _ _ _ bO ((L.length:Int)) (((2+K:Nat):Int)) (by kernel_rfl) (by kernel_rfl) ((((L.length)-((2+K)):Nat):Int)) (by omega) (by omega) (by omega) _) ?_
  refine mX 56 (Value.int .u64 ((((L.length)-((2+K)):Nat):Int))) (Value.int .u64 (IntKind.u64.wrap ((((L.length)-((2+K)):Nat):Int)))) (wrap_u64_is (by omega) (by omega)) ?_
  refine mX 57 (.bool false) (Value.bool (decide (((m:Nat):Int)>(((L.length)-((2+K)):Nat):Int)))) (by simp;omega) ?_
  refine mX 59 (Value.int .i64 ((m:Int))) (Value.int .i64 (IntKind.i64.wrap (((m:Nat):Int)))) (i64_nat (by omega)) ?_
  exact mQ h13
 refine mX 42 (.bool false) (Value.bool (decide (((m:Nat):Int)<128))) (by simp;omega) ?_
 refine mX 45 (.bool true) (Value.bool (((K:Int)) == 2)) (by rw [hq1];rfl) ?_
 refine mX 48 (.bool false) (Value.bool (decide (((m:Nat):Int)<256))) (by simp;omega) ?_
 refine mW 55 (exec_sub _ _ _ _ bO ((L.length:Int)) (((2+K:Nat):Int)) (by kernel_rfl) (by kernel_rfl) ((((L.length)-((2+K)):Nat):Int)) (by omega) (by omega) (by omega) _) ?_
 refine mX 56 (Value.int .u64 ((((L.length)-((2+K)):Nat):Int))) (Value.int .u64 (IntKind.u64.wrap ((((L.length)-((2+K)):Nat):Int)))) (wrap_u64_is (by omega) (by omega)) ?_
 refine mX 57 (.bool false) (Value.bool (decide (((m:Nat):Int)>(((L.length)-((2+K)):Nat):Int)))) (by simp;omega) ?_
 refine mX 59 (Value.int .i64 ((m:Int))) (Value.int .i64 (IntKind.i64.wrap (((m:Nat):Int)))) (i64_nat (by omega)) ?_
 exact mQ h13
end
section
open Go.RowKit Go.QT
mutual
/-- The numbers fit into 64 bits. -/
def numV:DVal->Bool | .mk _ _ n _ l=>decide (n<18446744073709551616) && numL l
def numL:List DVal->Bool
 | []=>true
 | x::r=>numV x && numL r
end
theorem numL_at:∀ (l:List DVal) (i:Nat) (u:DVal),l[i]?=some u->numL l=true->numV u=true
 | [],i,u,h,_=>by simp at h
 | y::r,0,u,h,hr=>by
   have:y=u:=by simpa using h
   subst this
   rw [numL,Bool.and_eq_true] at hr;exact hr.1
 | y::r,i+1,u,h,hr=>by
   rw [numL,Bool.and_eq_true] at hr
   exact numL_at r i u (by simpa using h) hr.2
theorem head_pos(k t m:Nat):2<=(headB k t m).length:=by
 by_cases h:m<128
 · rw [head_loL k t h];omega
 rw [head_hiL k t h];omega
theorem wrV_pos(v:DVal):2<=(wrV v).length:=by
 rw [wrV_eq,List.length_append];have:=head_pos v.kind v.tag (bodyV v).length;omega
section
variable{P:Program}{o:Oper}{a:Act}{w w':World}{F0:Nat->Prop}{w0:World}{ro rs:List Res}
theorem e_shr8(t t':TypeId)(x y:Operand)(ho:o.op=.binOp .shr t x y t')(m:Nat)(k:IntKind)(n:Nat)(hn:n<=8)(hx:a.eval x=.int .u8 (m:Int))(hy:a.eval y=.int k (n:Int))(hm:m<256)(W:World) :
   (execOp a.eval o).run P W=.ok (.value (.int .u8 ((m / 2 ^ n:Nat):Int))) W:=by
 have h3:(eqGuard .shr t x y (.int .u8 (m:Int)) (.int k (n:Int))).run P W=.ok () W:=by simp [eqGuard]
 have e:((m:Int)).fdiv (2 ^ n)=((m / 2 ^ n:Nat):Int):=by
   have h2:(2:Int) ^ n=((2 ^ n:Nat):Int):=by simp
   rw [h2,Int.fdiv_eq_ediv_of_nonneg _ (Int.natCast_nonneg _),← Int.natCast_ediv]
 have hlt:m / 2 ^ n<256:=Nat.lt_of_le_of_lt (Nat.div_le_self _ _) hm
 have e2:IntKind.u8.wrap ((m / 2 ^ n:Nat):Int)=((m / 2 ^ n:Nat):Int):=by
   rw [IntKind.wrap_u8]
   generalize m / 2 ^ n=q at *
   omega
 have h4:(binOp .shr t (.int .u8 (m:Int)) (.int k (n:Int))).run P W=.ok (.int .u8 ((m / 2 ^ n:Nat):Int)) W:=by
   have hm:min ((n:Int)).toNat IntKind.u8.bits=n:=by
     show min ((n:Int)).toNat 8=n
     omega
   have h0:¬ ((n:Int)<0):=by omega
   unfold binOp Op.shift
   simp only [if_neg h0,hm,e,Sem.run_pure]
 unfold execOp
 simp only [ho,hx,hy,Sem.run_bind,h3,h4,Result.andThen_ok,Sem.run_pure]
theorem and63:((List.range 256).all fun n=>decide (bits .and .u8 ((n:Nat):Int) 63=((n % 64:Nat):Int)))=true:=by decide +kernel
theorem and63'{n:Nat}(h:n<256):bits .and .u8 ((n:Nat):Int) 63=((n % 64:Nat):Int):=
 of_decide_eq_true (List.all_eq_true.1 and63 n (List.mem_range.2 h))
/-- A part of bytes that are read, as a slice of its own. -/
theorem Hp.roCut{v:Value}{l:Bytes}(h:Hp F0 w0 w ro rs)(i:Nat)(hi:ro[i]?=some (rSB v l))(lo hb:Nat)(hh:hb<=l.length)(B:Bytes)(e:(l.take hb).drop lo=B):∃ A c,cutS v lo hb=.slice A B.length c/\Hp F0 w0 w (rSB (.slice A B.length c) B::ro) rs:=by
 have hs:=SB.cut (h.red i _ hi) lo hb hh
 rw [e] at hs
 obtain ⟨A,c,e2,_⟩:=id hs
 refine ⟨A,c,e2,?_⟩
 rw [← e2]
 refine h.sub i hi (rSB _ _) hs (fun q hq=>⟨?_,?_⟩)
 · rintro rfl;exact hq.1 (by rw [← e];simp)
 have h2:(cutS v lo hb).ownBlock=some q:=hq.2
 rw [cutS_block] at h2;exact h2
/-- What der.read leaves: the value, new, and how many bytes it had. -/
def ReadPost(w:World)(v:DVal)(k:Nat)(e:Ending)(w':World):Prop:=∃ F cs,e=.returned (.tuple #[.agg cs.toArray,.int .i64 (k:Int),.int .i64 0])/\Hp (fun _=>False) w w' [] [rDV F cs v]
theorem x_read(h:Hp F0 w0 w ro rs){v:DVal}{k:Nat}(fn:FuncId)(al:List Value)(hp:pureVal P (execOp a.eval o)=some (.enter fn al.toArray))(hc:Calls P fn al.toArray w (ReadPost w v k)) :
   OpTo P o a w (fun u w'=>∃ F cs,u=.tuple #[.agg cs.toArray,.int .i64 (k:Int),.int .i64 0]/\Hp F0 w0 w' ro (rDV F cs v::rs)):=
 OpTo.enter fn al hp hc fun e w' hq=>by
   obtain ⟨F,cs,he,h2⟩:=hq
   exact ⟨_,he,F,cs,rfl,h.call0 h2⟩
end
theorem dv_numT(w:World)(t n:Nat)(hn:n<18446744073709551616):(rDV (fun _=>False) [.int .i64 0,.int .i64 (t:Int),.int .u64 (n:Int),.slice none 0 0,.slice none 0 0] (.mk 0 t n [] [])).Φ w:=
 ⟨fun _ hf=>hf.elim,.mk 0 t n _ [] none 0 [] [] hn (sbf_nil _ _) (rvf_nil _ _ _ _ (by unfold maxLen;omega) _) rfl (by simp)⟩
theorem dv_rawT{w:World}{v:Value}{b:Bytes}(t:Nat)(h:SB w v b):(rDV (rSB v b).F [.int .i64 1,.int .i64 (t:Int),.int .u64 0,v,.slice none 0 0] (.mk 1 t 0 b [])).Φ w:=
 ⟨fun q hq=>(rSB v b).lt h q hq,.mk 1 t 0 v b none 0 [] [] (by omega) ⟨h,fun h1 q hq=>⟨h1,hq⟩⟩ (rvf_nil _ _ _ _ (by unfold maxLen;omega) _) rfl (by simp)⟩
theorem rdl_nil(w:World):(rDL (fun _=>False) [] []).Φ w:=⟨fun _ hf=>hf.elim,by simp⟩
theorem rdl_push{w:World}{G F:Nat->Prop}{xs:List (List Value)}{ts:List DVal}{cs:List Value}{u:DVal}(hl:xs.length=ts.length)(h:(rDL G xs ts).Φ w)(hu:(rDV F cs u).Φ w):(rDL (fun q=>F q∨G q) (xs++[cs]) (ts++[u])).Φ w:=by
 refine ⟨fun q hq=>hq.elim (hu.1 q) (h.1 q),fun i x y hx hy=>?_⟩
 by_cases hi:i<xs.length
 · rw [List.getElem?_append_left hi] at hx
   rw [List.getElem?_append_left (by omega)] at hy
   exact (h.2 i x y hx hy).mono fun q hq=>.inr hq
 have e:i=xs.length:=by
   have:=(List.getElem?_eq_some_iff.1 hx).1
   simp at this;omega
 subst e
 rw [List.getElem?_append_right (Nat.le_refl _),Nat.sub_self] at hx
 rw [hl,List.getElem?_append_right (Nat.le_refl _),Nat.sub_self] at hy
 have hx:cs=x:=by simpa using hx
 have hy:u=y:=by simpa using hy
 subst hx;subst hy
 exact hu.2.mono fun q hq=>.inl hq
theorem dv_seqO{w:World}{G:Nat->Prop}{A:Option Addr}{n c t:Nat}{xs:List (List Value)}{ts:List DVal}(hl:xs.length=ts.length)(hn:n=ts.length)(hx:(rOV 196 5 (.slice A n c) xs).Φ w)(hs:(rDL G xs ts).Φ w) :
   (rDV (fun q=>(rOV 196 5 (.slice A n c) xs).F q∨G q) [.int .i64 2,.int .i64 (t:Int),.int .u64 0,.slice none 0 0,.slice A n c] (.mk 2 t 0 [] ts)).Φ w:=by
 subst hn
 refine ⟨fun q hq=>hq.elim ((rOV 196 5 (.slice A ts.length c) xs).lt hx q) (hs.1 q),.mk 2 t 0 _ [] A c xs ts (by omega) (sbf_nil _ _) ⟨(OV.rvn hx).2,fun _ q hq=>.inl ?_⟩ hl (fun i x u h1 h2=>(hs.2 i x u h1 h2).mono fun q hq=>.inr hq)⟩
 show (Value.slice A ts.length c).ownBlock=some q
 rw [← hq];cases A <;> rfl
section
variable{w:World}{w0:World}{ro rs:List Res}
theorem readpost_0(h:Hp (fun _=>False) w0 w ro rs)(t n k:Nat)(hn:n<18446744073709551616):ReadPost w0 (.mk 0 t n [] []) k (.returned (.tuple #[.agg #[.int .i64 0,.int .i64 (t:Int),.int .u64 (n:Int),.slice none 0 0,.slice none 0 0],.int .i64 (k:Int),.int .i64 0])) w:=
 ⟨_,_,rfl,(h.addS _ (dv_numT w t n hn) (fun _ hf=>hf.elim) (fun _ _ _ _ hf=>hf.elim) (fun _ _ _ _ hf=>hf.elim)).sel [0] [] rfl rfl rfl⟩
theorem readpost_1(h:Hp (fun _=>False) w0 w ro rs)(i:Nat){v:Value}{b:Bytes}(hi:rs[i]?=some (rOB v b))(t k:Nat):ReadPost w0 (.mk 1 t 0 b []) k (.returned (.tuple #[.agg #[.int .i64 1,.int .i64 (t:Int),.int .u64 0,v,.slice none 0 0],.int .i64 (k:Int),.int .i64 0])) w:=by
 have hu:=h.upd i hi (Fr.refl _ _) _ (dv_rawT t (OB.sb (h.own i _ hi))) (fun _ hq=>.inl hq.2)
 have hi2:=List.getElem?_set_self (a:=rDV (rSB v b).F [.int .i64 1,.int .i64 (t:Int),.int .u64 0,v,.slice none 0 0] (.mk 1 t 0 b [])) (List.getElem?_eq_some_iff.1 hi).1
 exact ⟨_,_,rfl,hu.sel (rs':=[rDV (rSB v b).F [.int .i64 1,.int .i64 (t:Int),.int .u64 0,v,.slice none 0 0] (.mk 1 t 0 b [])]) [i] [] rfl rfl (by simp only [List.map_cons,List.map_nil];rw [hi2])⟩
theorem readpost_2(h:Hp (fun _=>False) w0 w ro rs)(i j:Nat)(hij:i<j){G:Nat->Prop}{A:Option Addr}{n c:Nat}{xs:List (List Value)}{ts:List DVal}(hi:rs[i]?=some (rOV 196 5 (.slice A n c) xs))(hj:rs[j]?=some (rDL G xs ts))(hl:xs.length=ts.length)(hn:n=ts.length)(t k:Nat):ReadPost w0 (.mk 2 t 0 [] ts) k (.returned (.tuple #[.agg #[.int .i64 2,.int .i64 (t:Int),.int .u64 0,.slice none 0 0,.slice A n c],.int .i64 (k:Int),.int .i64 0])) w:=
 ⟨_,_,rfl,(h.join i j hi hj hij _ (dv_seqO hl hn (h.own i _ hi) (h.own j _ hj)) (fun _ hq=>hq)).sel [0] [] rfl rfl rfl⟩
end
end
section
open Go.RowKit Go.QT
theorem read_raw(d:Nat)(hd:d<=8)(L:Bytes)(t m H:Nat)(B:Bytes)(ht:t<=30)(h0:nb (gb L 0)=1*64+t)(hcut:(L.take (H+m)).drop H=B)(hB:B.length=m)(hH:2<=H)(hlen:H+m<=L.length)(hL:L.length<=900000)(A:Option Addr)(c:Nat)
   (hsz:∀ w,SB w (.slice A L.length c) L->Calls Tryz.prog 129 #[.slice A L.length c] w (DPost w (.tuple #[.int .i64 (m:Int),.int .i64 (H:Int),.int .i64 0]))) (w:World) (hv:SB w (.slice A L.length c) L)
    : Calls Tryz.prog 104 #[.slice A L.length c,.int .i64 (d:Int)] w (ReadPost w (.mk 1 t 0 B []) (H+m)):=by
 have hL1:0<L.length:=by omega
 have h256:=nb_lt (gb L 0)
 have hk0:nb (gb L 0) / 2 ^ 6=1:=by omega
 have ht0:nb (gb L 0) % 64=t:=by omega
 have h0:=Hp.ro1 (rSB (.slice A L.length c) L) hv
 refine mE 114 ?_
 refine mN h0 196 ([(Value.int .i64 0),(Value.int .i64 0),(Value.int .u64 0),(Value.slice none 0 0),(Value.slice none 0 0)]) fun g2 w2 h2=>?_
 refine mX 18 (.bool false) (Value.bool (decide ((d:Int)>8))) (by simp;omega) ?_
 refine mD h2 [(Value.slice A L.length c)] (hsz _ (h2.rd 0 rfl)) (fun w6 h6=>?_)
 refine dG h6 13 12 (fun W=>(rSB ((Value.slice A L.length c)) L).Φ W/\True) (fun w10 h10=>⟨h10.rd 0 rfl,trivial⟩) ?_
 intro w10 h10
 refine dP 11 [0,5] ?_
 refine dV 1 (fun W hW=>eIx (SB.rvn (h10.rd 0 rfl)).2 0 L.length (SB.rvn (h10.rd 0 rfl)).1 (by omega) 25 (.tmp 30) (.const (Value.int .i64 0)) .i64 5) ?_
 refine dV 6 (fun W hW=>eIx (SB.rvn (h10.rd 0 rfl)).2 0 L.length (SB.rvn (h10.rd 0 rfl)).1 (by omega) 25 (.tmp 35) (.const (Value.int .i64 0)) .i64 5) ?_
 refine dV 2 (fun W hW=>eEl (SB.rvn hW.1).2 0 0 ([(Value.int .u8 (ub (gb (L) (0))))]) (bx_get _ _ (by omega)) 5 (.tmp 31) (Value.int .u8 (ub (gb (L) (0))))) ?_
 refine dV 3 (v:=(Value.int .u8 (((nb (gb L 0) / 2 ^ 6:Nat):Int)))) (fun W hW=>e_shr8 5 228 (.tmp 32) (.const (Value.int .u64 6)) (by kernel_rfl) (nb (gb L 0)) .u64 6 (by decide) (by rw [← ub_nb];kernel_rfl) (by kernel_rfl) h256 _) ?_
 refine dV 4 (v:=(Value.int .i64 1)) (fun W hW=>eqI (Value.int .i64 (IntKind.i64.wrap (((nb (gb L 0) / 2 ^ 6:Nat):Int)))) (by rw [hk0];rfl)) ?_
 refine dV 7 (fun W hW=>eEl (SB.rvn hW.1).2 0 0 ([(Value.int .u8 (ub (gb (L) (0))))]) (bx_get _ _ (by omega)) 5 (.tmp 36) (Value.int .u8 (ub (gb (L) (0))))) ?_
 refine dV 8 (v:=(Value.int .u8 (((nb (gb L 0) % 64:Nat):Int)))) (fun W hW=>eqI (Value.int .u8 (bits .and .u8 (ub (gb L 0)) 63)) (by rw [ub_nb,and63' h256])) ?_
 refine dV 9 (v:=(Value.int .i64 ((t:Int)))) (fun W hW=>eqI (Value.int .i64 (IntKind.i64.wrap (((nb (gb L 0) % 64:Nat):Int)))) (by rw [ht0];exact i64_nat (by omega))) ?_
 refine dP 2 [10] ?_
 refine dT 11 (xN h10 196 ([(Value.int .i64 0),(Value.int .i64 0),(Value.int .u64 0),(Value.slice none 0 0),(Value.slice none 0 0)])) ?_
 rintro _ w11 ⟨g11,rfl,h11⟩
 refine ⟨⟨h11.rd 0 rfl,trivial⟩,?_⟩
 refine dE 12 (xSs h11 0 196 (.tmp 10) (.tmp 40) 0 ([(Value.int .i64 1),(Value.int .i64 ((t:Int))),(Value.int .u64 0),(Value.slice none 0 0),(Value.slice none 0 0)]) ([(Value.int .i64 1),(Value.int .i64 ((t:Int))),(Value.int .u64 0),(Value.slice none 0 0),(Value.slice none 0 0)])) ?_
 rintro _ w12 h12
 refine dX ?_
 refine ma h12 0 ?_
 refine ma h12 0 ?_
 refine mX 47 (.bool false) (Value.bool (decide ((t:Int)>30))) (by simp;omega) ?_
 refine mW 54 (exec_add _ _ _ _ bO ((H:Int)) ((m:Int)) (by kernel_rfl) (by kernel_rfl) (((H+m:Nat):Int)) (by omega) (by omega) (by omega) _) ?_
 obtain ⟨A16,c16,e16,h16⟩:=h12.roCut 0 rfl H (H+m) (by omega) B hcut
 refine mW 55 (v:=(Value.slice A16 B.length c16)) (e16 ▸ e_cut_lh (h12.rd 0 rfl) (.tmp 50) (.tmp 51) (.tmp 54) (by kernel_rfl) (by kernel_rfl) .i64 .i64 H (H+m) (by kernel_rfl) (by kernel_rfl) (by omega) (by omega) _) ?_
 refine ma h16 0 ?_
 have h21:=h16.obNil
 refine mT (x_appG h21 0 rfl (.const (Value.slice none 0 0)) (.tmp 107) (by kernel_rfl) (Value.slice A16 B.length c16) (by kernel_rfl) (by kernel_rfl) (h21.rd 0 rfl) (by simp;omega) (B) (B.length) rfl rfl) ?_
 rintro _ w22 ⟨A22,c22,rfl,h22⟩
 refine mT (xSt h22 1 25 (.tmp 109) (.tmp 108) 3 (Value.slice A22 B.length c22) ([(Value.int .i64 1),(Value.int .i64 ((t:Int))),(Value.int .u64 0),(Value.slice A22 B.length c22),(Value.slice none 0 0)])) fun _ w23 h23=>?_
 refine ma h23 1 ?_
 refine mW 113 (exec_add _ _ _ _ bO ((H:Int)) ((m:Int)) (by kernel_rfl) (by kernel_rfl) (((H+m:Nat):Int)) (by omega) (by omega) (by omega) _) ?_
 refine mT (xSs h23 2 196 (.tmp 4) (.tmp 110) 0 ([(Value.int .i64 1),(Value.int .i64 ((t:Int))),(Value.int .u64 0),(Value.slice A22 B.length c22),(Value.slice none 0 0)]) ([(Value.int .i64 1),(Value.int .i64 ((t:Int))),(Value.int .u64 0),(Value.slice A22 B.length c22),(Value.slice none 0 0)])) fun _ w25 h25=>?_
 refine mF (post_3 (r:=.cell 4 196) (s:=.tmp 5) (t:=.tmp 6) (by kernel_rfl) rfl (rce (h25.at_ 2 rfl)) (rtm (Value.int .i64 (((H+m:Nat):Int)))) (rtm (Value.int .i64 0)) ?_)
 exact readpost_1 h25 0 rfl t (H+m)
end
section
open Go.RowKit Go.QT
theorem rightL_mem{l:List DVal}{d:Nat}{u:DVal}(h:rightL l d=true)(hu:u ∈ l):rightV u d=true:=by
 obtain ⟨i,hi⟩:=List.getElem?_of_mem hu
 exact rightL_at l d i u hi h
theorem numL_mem{l:List DVal}{u:DVal}(h:numL l=true)(hu:u ∈ l):numV u=true:=by
 obtain ⟨i,hi⟩:=List.getElem?_of_mem hu
 exact numL_at l i u hi h
theorem wrL_mem{l:List DVal}{u:DVal}(hu:u ∈ l):(wrV u).length<=(wrL l).length:=by
 obtain ⟨i,hi⟩:=List.getElem?_of_mem hu
 have h1:=congrArg List.length (wrL_take l i u hi)
 have h2:=wrL_take_le l (i+1)
 rw [List.length_append] at h1
 omega
theorem cut_mid(a b r:Bytes):((a++(b++r)).take (a.length+b.length)).drop a.length=b:=by
 rw [← List.append_assoc,← List.length_append,List.take_left]
 exact List.drop_left
/-- What der.Read leaves: the value, new. -/
def ReadOk(w:World)(v:DVal)(e:Ending)(w':World):Prop:=∃ F cs,e=.returned (.tuple #[.agg cs.toArray,.int .i64 0])/\Hp (fun _=>False) w w' [] [rDV F cs v]
end
section
open Go.RowKit Go.QT
section
variable{o:Oper}{a:Act}{w w':World}{F0:Nat->Prop}{w0:World}{ro rs:List Res}
/-- []byte(s). -/
theorem x_convT(h:Hp F0 w0 w ro rs)(x:Operand)(ho:o.op=.convert 9 25 x)(s:ByteArray)(hx:a.eval x=.string s)(hs:s.size<=1048576)(l:Bytes)(hl:l=s.data.toList)(n:Nat)(hn:n=l.length) :
   OpTo Tryz.prog o a w (fun u w'=>∃ A cc,u=.slice A n cc/\Hp F0 w0 w' (rSB (.slice A n cc) l::ro) rs):=by
 subst hl;subst hn
 refine (x_conv h x ho s hx (by unfold maxLen;omega)).mono fun u w' hq=>?_
 obtain ⟨A,cc,rfl,h'⟩:=hq
 exact ⟨A,cc,rfl,h'⟩
theorem x_rawT{P:Program}(h:Hp F0 w0 w ro rs){b:Bytes}(fn:FuncId)(al:List Value)(hp:pureVal P (execOp a.eval o)=some (.enter fn al.toArray))(hc:Calls P fn al.toArray w (RawPost w b)) :
   OpTo P o a w (fun u w'=>∃ A c,u=.agg #[.int .i64 1,.int .i64 0,.int .u64 0,.slice A b.length c,.slice none 0 0]/\Hp F0 w0 w' ro (rSB (.slice A b.length c) b::rs)/\∀ q,(Value.slice A b.length c).ownBlock=some q->w.heap.size<=q):=
 OpTo.enter fn al hp hc fun e w' hq=>by
   obtain ⟨A,c,he,hs,hb,hF⟩:=hq
   refine ⟨_,he,A,c,rfl,?_,hF⟩
   exact (h.newS hb (rSB _ b) hs (fun q hq=>hF q hq.2))
/-- A number as der has it. -/
theorem wrap64_ex(n:Int):∃ m:Nat,IntKind.u64.wrap n=(m:Int)/\m<18446744073709551616/\(0<=n->n<18446744073709551616->(m:Int)=n):=by
 refine ⟨(n % 18446744073709551616).toNat,?_,by omega,fun h1 h2=>by omega⟩
 rw [Int.toNat_of_nonneg (by omega)]
 simp [IntKind.wrap,IntKind.bits,IntKind.signed]
theorem rawpost_sb{w w0:World}{ro rs:List Res}{A:Option Addr}{c:Nat}{b:Bytes}(h:Hp (fun _=>False) w0 w ro rs)(i:Nat)(hi:rs[i]?=some (rSB (.slice A b.length c) b))(hb:b≠[]∨∀ q,(Value.slice A b.length c).ownBlock=some q->w0.heap.size<=q):RawPost w0 b (.returned (.agg #[.int .i64 1,.int .i64 0,.int .u64 0,.slice A b.length c,.slice none 0 0])) w:=by
 refine ⟨A,c,rfl,h.own i _ hi,h.below0,fun q hq=>?_⟩
 rcases hb with hb|hb
 · rcases h.mine i _ hi q ⟨hb,hq⟩ with h3|h3
   · exact h3.elim
   exact h3
 exact hb q hq
end
end
section
open Go.RowKit Go.QT
/-- What a number is in der. -/
def nV(n:Int):List Value:=[.int .i64 0,.int .i64 0,.int .u64 (IntKind.u64.wrap n),.slice none 0 0,.slice none 0 0]
theorem knum_any(n:Int)(w:World):Calls Tryz.prog 122 #[.int .i64 n] w (DPost w (.agg (nV n).toArray)):=by
 obtain ⟨m,hm,hm1,-⟩:=wrap64_ex n
 unfold nV
 rw [hm]
 have h0:=Hp.nil (fun _=>False) w
 refine mE 6 ?_
 refine mN h0 196 ([(Value.int .i64 0),(Value.int .i64 0),(Value.int .u64 0),(Value.slice none 0 0),(Value.slice none 0 0)]) fun g2 w2 h2=>?_
 refine mX 4 (Value.int .u64 ((m:Int))) (Value.int .u64 (IntKind.u64.wrap n)) (by rw [hm]) ?_
 refine mD h2 [(Value.int .u64 ((m:Int)))] (dnum_any m _) (fun w4 h4=>?_)
 refine mT (xSs h4 0 196 (.tmp 2) (.tmp 5) 0 ([(Value.int .i64 0),(Value.int .i64 0),(Value.int .u64 ((m:Int))),(Value.slice none 0 0),(Value.slice none 0 0)]) ([(Value.int .i64 0),(Value.int .i64 0),(Value.int .u64 ((m:Int))),(Value.slice none 0 0),(Value.slice none 0 0)])) fun _ w5 h5=>?_
 refine mF (post_1 (r:=.cell 2 196) (by kernel_rfl) rfl (rce (h5.at_ 0 rfl)) ?_)
 exact ⟨rfl,h5.below0⟩
theorem ktruth_any(b:Bool)(w:World):Calls Tryz.prog 124 #[.bool b] w (DPost w (.agg (nV b.toNat).toArray)):=by
 have hm:IntKind.u64.wrap (b.toNat:Int)=(b.toNat:Int):=by cases b <;> rfl
 unfold nV
 rw [hm]
 cases b
 · skip
   have h0:=Hp.nil (fun _=>False) w
   refine mE 6 ?_
   refine mN h0 196 ([(Value.int .i64 0),(Value.int .i64 0),(Value.int .u64 0),(Value.slice none 0 0),(Value.slice none 0 0)]) fun g2 w2 h2=>?_
   refine mD h2 [(Value.int .u64 0)] (dnum_any 0 _) (fun w6 h6=>?_)
   refine mT (xSs h6 0 196 (.tmp 2) (.tmp 5) 0 ([(Value.int .i64 0),(Value.int .i64 0),(Value.int .u64 ((0:Int))),(Value.slice none 0 0),(Value.slice none 0 0)]) ([(Value.int .i64 0),(Value.int .i64 0),(Value.int .u64 ((0:Int))),(Value.slice none 0 0),(Value.slice none 0 0)])) fun _ w7 h7=>?_
   refine mF (post_1 (r:=.cell 2 196) (by kernel_rfl) rfl (rce (h7.at_ 0 rfl)) ?_)
   exact ⟨rfl,h7.below0⟩
 skip
 have h0:=Hp.nil (fun _=>False) w
 refine mE 6 ?_
 refine mN h0 196 ([(Value.int .i64 0),(Value.int .i64 0),(Value.int .u64 0),(Value.slice none 0 0),(Value.slice none 0 0)]) fun g2 w2 h2=>?_
 refine mD h2 [(Value.int .u64 1)] (dnum_any 1 _) (fun w6 h6=>?_)
 refine mT (xSs h6 0 196 (.tmp 2) (.tmp 4) 0 ([(Value.int .i64 0),(Value.int .i64 0),(Value.int .u64 ((1:Int))),(Value.slice none 0 0),(Value.slice none 0 0)]) ([(Value.int .i64 0),(Value.int .i64 0),(Value.int .u64 ((1:Int))),(Value.slice none 0 0),(Value.slice none 0 0)])) fun _ w7 h7=>?_
 refine mF (post_1 (r:=.cell 2 196) (by kernel_rfl) rfl (rce (h7.at_ 0 rfl)) ?_)
 exact ⟨rfl,h7.below0⟩
theorem ktext_any(s:ByteArray)(w:World)(hs:s.size<=1000000):Calls Tryz.prog 120 #[.string s] w (RawPost w s.data.toList):=by
 have hsl:s.data.toList.length=s.size:=by cases s;simp [ByteArray.size]
 have h0:=Hp.nil (fun _=>False) w
 refine mE 6 ?_
 refine mN h0 196 ([(Value.int .i64 0),(Value.int .i64 0),(Value.int .u64 0),(Value.slice none 0 0),(Value.slice none 0 0)]) fun g2 w2 h2=>?_
 refine mT (x_convT h2 (.tmp 3) (by kernel_rfl) s (by kernel_rfl) (by omega) (s.data.toList) rfl (s.data.toList.length) rfl) ?_
 rintro _ w4 ⟨A4,c4,rfl,h4⟩
 refine mT (x_rawT h4 97 [(Value.slice A4 s.data.toList.length c4)] (by kernel_rfl) (draw_any (Value.slice A4 s.data.toList.length c4) s.data.toList _ (h4.rd 0 rfl) (by omega))) ?_
 rintro _ w5 ⟨A5,c5,rfl,h5,hn5⟩
 refine mT (xSs h5 1 196 (.tmp 2) (.tmp 5) 0 ([(Value.int .i64 1),(Value.int .i64 0),(Value.int .u64 0),(Value.slice A5 s.data.toList.length c5),(Value.slice none 0 0)]) ([(Value.int .i64 1),(Value.int .i64 0),(Value.int .u64 0),(Value.slice A5 s.data.toList.length c5),(Value.slice none 0 0)])) fun _ w6 h6=>?_
 refine mF (post_1 (r:=.cell 2 196) (by kernel_rfl) rfl (rce (h6.at_ 1 rfl)) ?_)
 exact rawpost_sb h6 0 rfl (.inr fun q hq=>Nat.le_trans h4.below0.size (hn5 q hq))
end
section
open Go.RowKit Go.QT
theorem kkey_any(K:Fin 16->UInt8)(w:World):Calls Tryz.prog 123 #[.agg (vb (kl K)).toArray] w (RawPost w (kl K)):=by
 have h0:=Hp.nil (fun _=>False) w
 refine mE 5 ?_
 refine mN h0 41 (vb (kl K)) fun g2 w2 h2=>?_
 refine mN h2 196 ([(Value.int .i64 0),(Value.int .i64 0),(Value.int .u64 0),(Value.slice none 0 0),(Value.slice none 0 0)]) fun g3 w3 h3=>?_
 refine mT (x_rawT h3 97 [(Value.slice (some ⟨g2,0,none⟩) 16 16)] (by kernel_rfl) (draw_any (Value.slice (some ⟨g2,0,none⟩) 16 16) (kl K) _ (SB.blk16 (K:=K) (h3.at_ 1 rfl)) (by rw [kl_len];decide))) ?_
 rintro _ w5 ⟨A5,c5,rfl,h5,hn5⟩
 refine mT (xSs h5 1 196 (.tmp 2) (.tmp 4) 0 ([(Value.int .i64 1),(Value.int .i64 0),(Value.int .u64 0),(Value.slice A5 ((kl K).length) c5),(Value.slice none 0 0)]) ([(Value.int .i64 1),(Value.int .i64 0),(Value.int .u64 0),(Value.slice A5 ((kl K).length) c5),(Value.slice none 0 0)])) fun _ w6 h6=>?_
 refine mF (post_1 (r:=.cell 2 196) (by kernel_rfl) rfl (rce (h6.at_ 1 rfl)) ?_)
 exact rawpost_sb h6 0 rfl (.inr fun q hq=>Nat.le_trans h3.below0.size (hn5 q hq))
def inN(x:Int):Bool:=!(decide (x<0) || decide (x>1099511627776))
/-- What right says of a message. -/
def rightM(s:ByteArray)(l:List Int):Bool:=l.all inN && rightN s
theorem inN_lo{x:Int}(h:x<0):inN x=false:=by unfold inN;simp [h]
theorem inN_hi{x:Int}(h:x>1099511627776):inN x=false:=by unfold inN;simp [h]
theorem inN_in{x:Int}(h:¬ x<0)(h2:¬ x>1099511627776):inN x=true:=by unfold inN;simp;omega
theorem inl_get{l:List Int}{k:Nat}{x:Int}(h:l[k]?=some x):(l.map fun x=>[Value.int .i64 x])[k]?=some [.int .i64 x]:=by rw [List.getElem?_map,h];rfl
theorem rightM_no{s:ByteArray}{l:List Int}{k:Nat}{x:Int}(h:l[k]?=some x)(hx:inN x=false):rightM s l=false:=by
 unfold rightM
 rw [Bool.and_eq_false_iff]
 left
 rw [List.all_eq_false]
 exact ⟨x,List.mem_of_getElem? h,by simp [hx]⟩
theorem rightM_all{s:ByteArray}{l:List Int}{k:Nat}(hk:k=l.length)(h:∀ j x,j<k->l[j]?=some x->inN x=true):rightM s l=rightN s:=by
 unfold rightM
 have:l.all inN=true:=by
   rw [List.all_eq_true]
   intro x hx
   obtain ⟨j,hj,rfl⟩:=List.getElem_of_mem hx
   exact h j _ (by omega) (List.getElem?_eq_getElem hj)
 rw [this,Bool.true_and]
theorem inN_step{l:List Int}{k:Nat}{x:Int}(hp:l[k]?=some x)(hx:inN x=true)(h:∀ j x,j<k->l[j]?=some x->inN x=true):∀ j x,j<k+1->l[j]?=some x->inN x=true:=by
 intro j q hj hq
 by_cases e:j=k
 · subst e;rw [hp] at hq;injection hq with hq;subst hq;exact hx
 exact h j q (by omega) hq
theorem x_nright{F0:Nat->Prop}{w0 w:World}{ro rs:List Res}{o:Oper}{a:Act}(h:Hp F0 w0 w ro rs)(s:ByteArray)(hs:s.size<=1000000000)(hp:pureVal Tryz.prog (execOp a.eval o)=some (.enter 115 #[.string s])) :
   OpTo Tryz.prog o a w (fun u w'=>u=.bool (rightN s)/\Hp F0 w0 w' ro rs):=
 OpTo.enter 115 [.string s] hp (nright_any s w hs) fun _e _w' hq=>⟨_,hq.1,rfl,h.below hq.2⟩
theorem kright_any(s:ByteArray)(hs:s.size<=1000000000)(l:List Int)(A:Option Addr)(c:Nat)(w:World)(hl:l.length<=1000)(h:Hp (fun _=>False) w w [rRV 1 A c (l.map fun x=>[Value.int .i64 x])] []) :
   Calls Tryz.prog 121 #[.string s,.slice A l.length c] w (DPost w (.bool (rightM s l))):=by
 have h0:=h
 refine mE 22 ?_
 refine mL (fun mM xX aA wL=>∃ (k:Nat),(k<=l.length)/\(∀ j x,j<k->l[j]?=some x->inN x=true)/\mM=l.length-k/\aA=patch xX 22 [(0,(Value.string s)),(7,(Value.slice A l.length c)),(8,(Value.int .i64 ((l.length:Int)))),(9,(Value.int .i64 ((k:Int))))]/\Hp (fun _=>False) w wL [rRV 1 A c ((l.map fun x=>[Value.int .i64 x]))] []) ⟨_,_,0,(by omega),(fun _ _ h=>absurd h (Nat.not_lt_zero _)),rfl,pM,h0.sel [] [0] (by kernel_rfl) rfl rfl⟩ ?_
 rintro _ x4 _ w4 ⟨k,hk,hN,rfl,rfl,h4⟩ KL4 hKL4
 refine mAt ?_
 by_cases b6:k<l.length
 ·
  refine mX 10 (.bool true) (Value.bool (decide ((k:Int)<(l.length:Int)))) (by simp;omega) ?_
  obtain ⟨p,hp⟩:∃ p,l[k]?=some p:=⟨_,List.getElem?_eq_getElem (by omega)⟩
  refine mW 11 (eIx (RV.lenIs (n:=l.length) (h4.rd 0 rfl) (by simp)).2 k l.length (RV.lenIs (n:=l.length) (h4.rd 0 rfl) (by simp)).1 (by omega) 278 (.tmp 7) (.tmp 9) .i64 2) ?_
  refine mW 12 (eEl (RV.lenIs (n:=l.length) (h4.rd 0 rfl) (by simp)).2 k 0 ([(Value.int .i64 p)]) (inl_get hp) 2 (.tmp 11) (Value.int .i64 p)) ?_
  rcases (show (p<0)∨(¬ p<0/\p>1099511627776)∨(¬ p<0/\¬ p>1099511627776) by omega) with hq1|⟨hq1,hq2⟩|⟨hq1,hq2⟩
  ·
   refine mX 14 (.bool true) (Value.bool (decide (p<0))) (by simp;omega) ?_
   exact mQe (Value.bool false) h4 (by rw [rightM_no hp (inN_lo hq1)])
  ·
   refine mX 14 (.bool false) (Value.bool (decide (p<0))) (by simp;omega) ?_
   refine mX 17 (.bool true) (Value.bool (decide (p>1099511627776))) (by simp;omega) ?_
   exact mQe (Value.bool false) h4 (by rw [rightM_no hp (inN_hi hq2)])
  refine mX 14 (.bool false) (Value.bool (decide (p<0))) (by simp;omega) ?_
  refine mX 17 (.bool false) (Value.bool (decide (p>1099511627776))) (by simp;omega) ?_
  refine mW 19 (exec_add _ _ _ _ bO ((k:Int)) 1 (by kernel_rfl) (by kernel_rfl) ((k:Int)+1) rfl (by omega) (by omega) _) ?_
  exact mK KL4 (hKL4 _ _ ⟨l.length-(k+1),_,(by omega),(k+1),(by omega),(inN_step hp (inN_in hq1 hq2) hN),rfl,pM,h4.sel [] [0] (by kernel_rfl) rfl rfl⟩)
 refine mX 10 (.bool false) (Value.bool (decide ((k:Int)<(l.length:Int)))) (by simp;omega) ?_
 refine mT (x_nright h4 s hs (by kernel_rfl)) ?_
 rintro _ w16 ⟨rfl,h16⟩
 exact mQe (Value.bool (rightN s)) h16 (by rw [rightM_all (k:=k) (by omega) hN])
end
section
open Go.Value renaming int->iV,slice->lV,string->sV,bool->bV,agg->aV
open Go.RowKit Go.QT
theorem rv_ints{w:World}{g:Nat}{T:TypeId}{cs:List Value}(hb:Blk w g T cs)(l:List Int)(hc:cs=l.map (iV .i64))(hl:l.length<=1000):RV w 1 (some ⟨g,0,none⟩) l.length (l.map fun x=>[iV .i64 x]):=by
 subst hc
 refine ⟨by simp,by unfold maxLen;omega,by simp,fun _=>⟨g,0,rfl,hb.lt,fun i x hx j u hu=>?_⟩⟩
 rw [List.getElem?_map] at hx
 cases h:l[i]? with
 | none=>rw [h] at hx;cases hx
 | some y =>
   rw [h] at hx
   injection hx with hx
   subst hx
   have hj:j=0:=by have:=(List.getElem?_eq_some_iff.1 hu).1;simpa using this
   subst hj
   rw [show 0+i*1+0=i by omega]
   refine (hb.cell _).trans ?_
   rw [List.getElem?_map,h]
   exact hu
theorem x_tiRight{F0:Nat->Prop}{w0 w:World}{ro rs:List Res}{o:Oper}{a:Act}(h:Hp F0 w0 w ro rs)(i:Nat){g:Nat}{T:TypeId}{cs:List Value}(hi:rs[i]?=some (rBlk g T cs))(s:ByteArray)(hs:s.size<=1000000000)(l:List Int)(n:Nat)(hc:cs=l.map (iV .i64))(hn:l.length=n)(hl:n<=1000)
   (hp:pureVal Tryz.prog (execOp a.eval o)=some (.enter 121 #[.string s,.slice (some ⟨g,0,none⟩) n n])) :
   OpTo Tryz.prog o a w (fun u w'=>u=.bool (rightM s l)/\Hp F0 w0 w' ro rs):=by
 subst hn
 have hb:Blk w g T cs:=h.own i _ hi
 refine OpTo.enter 121 [.string s,.slice (some ⟨g,0,none⟩) l.length l.length] hp (kright_any s hs l _ _ w hl ((Hp.nil (fun _=>False) w).addR _ (rv_ints hb l hc hl) (by simp))) fun e w' hq=>?_
 exact ⟨_,hq.1,rfl,h.below hq.2⟩
theorem vStamp_any(t q:Int)(w:World):Calls Tryz.prog 99 #[.iface 104 (.agg [iV .i64 t,.int .i64 q].toArray)] w fun e w'=>∃ g,e=.returned (.tuple #[.agg #[.int .i64 2,.int .i64 5,.int .u64 0,.slice none 0 0,.slice (some ⟨g,0,none⟩) 2 2],.bool (rightM ⟨#[97]⟩ [t,q])])/\Blk w' g 196 (nV t++nV q)/\w.heap.size<=g/\Below w.heap.size w w':=by
 have h0:=Hp.nil (fun _=>False) w
 refine mE 180 ?_
 refine mN h0 196 ([zO,zO,(iV .u64 0),zN,zN]) fun g2 w2 h2=>?_
 refine mN h2 104 ([zO,zO]) fun g11 w11 h11=>?_
 refine mT (xSs h11 0 104 (.tmp 8) (.tmp 131) 0 ([(zD t),(zD q)]) ([(zD t),(zD q)])) fun _ w12 h12=>?_
 refine dG h12 16 15 (fun W=>(rBlk g11 104 ([(zD t),(zD q)])).Φ W/\True) (fun w14 h14=>⟨h14.at_ 0 rfl,trivial⟩) ?_
 intro w14 h14
 refine dP 12 [0,3,8,10] ?_
 refine dLs 8 [1,4,9,11] (fun W hW=>hW.1) ?_
 refine dC 3 8191 (fun KJ=>∀ (gT4_0:Nat),∀ (gT4_1:Nat),∀ (xT15_4:Nat->Value) (aJ:Act) (wT15_4:World),aJ=patch xT15_4 180 [(2,(pt g2 0)),(3,zV),(8,(pt g11 0)),(11,(Value.iface 104 (aV ([(zD t),(zD q)]).toArray))),(139,(aV ([(zD 2),(zD 5),(iV .u64 0),zN,(lV (some ⟨gT4_0,0,none⟩) 2 2)]).toArray)),(144,(lV (some ⟨gT4_1,0,none⟩) 2 2))]->Hp (fun _=>False) w wT15_4 [] [rBlk gT4_0 196 ([zO,zO,(iV .u64 ((IntKind.u64.wrap t))),zN,zN,zO,zO,(iV .u64 ((IntKind.u64.wrap q))),zN,zN]),rBlk gT4_1 2 ([(zD t),(zD q)]),rBlk g11 104 ([(zD t),(zD q)]),rBlk g2 196 ([zO,zO,(iV .u64 0),zN,zN])]->KJ aJ wT15_4) ?_ (fun hT15_4=>?_)
 ·
  rintro gT4_0 gT4_1 xT15_4 _ wT15_4 rfl hTh15_4
  refine dAt ?_
  refine dT 13 (x_tiRight hTh15_4 1 rfl (⟨#[97]⟩) (by decide) [t,q] 2 rfl rfl (by decide) (by kernel_rfl)) ?_
  rintro _ w16 ⟨rfl,h16⟩
  refine ⟨⟨h16.at_ 2 rfl,trivial⟩,?_⟩
  refine dT 14 (xSs h16 3 196 (.tmp 2) (.tmp 139) 0 ([(zD 2),(zD 5),(iV .u64 0),zN,(lV (some ⟨gT4_0,0,none⟩) 2 2)]) ([(zD 2),(zD 5),(iV .u64 0),zN,(lV (some ⟨gT4_0,0,none⟩) 2 2)])) ?_
  rintro _ w17 h17
  refine ⟨⟨h17.at_ 2 rfl,trivial⟩,?_⟩
  refine dN 15 ?_
  refine dX ?_
  refine mF (post_2 (r:=.cell 2 196) (s:=.tmp 3) (by kernel_rfl) rfl (rce (h17.at_ 3 rfl)) (rtm (bV (rightM (⟨#[97]⟩) [t,q]))) ?_)
  exact ⟨gT4_0,rfl,h17.at_ 0 rfl,(h17.mine 0 _ rfl _ rfl).elim (fun h=>h.elim) id,h17.below0⟩
 refine dC 4 8063 (fun KJ=>∀ (gT3_0:Nat),∀ (gT3_1:Nat),∀ (xT15_3:Nat->Value) (aJ:Act) (wT15_3:World),aJ=patch xT15_3 180 [(2,(pt g2 0)),(3,zV),(8,(pt g11 0)),(11,(Value.iface 104 (aV ([(zD t),(zD q)]).toArray))),(138,(lV (some ⟨gT3_0,0,none⟩) 2 2)),(144,(lV (some ⟨gT3_1,0,none⟩) 2 2))]->Hp (fun _=>False) w wT15_3 [] [rBlk gT3_0 196 ([zO,zO,(iV .u64 ((IntKind.u64.wrap t))),zN,zN,zO,zO,(iV .u64 ((IntKind.u64.wrap q))),zN,zN]),rBlk gT3_1 2 ([(zD t),(zD q)]),rBlk g11 104 ([(zD t),(zD q)]),rBlk g2 196 ([zO,zO,(iV .u64 0),zN,zN])]->KJ aJ wT15_3) ?_ (fun hT15_3=>?_)
 ·
  rintro gT3_0 gT3_1 xT15_3 _ wT15_3 rfl hTh15_3
  refine dAt ?_
  refine dD 7 hTh15_3 [(zD 5),(lV (some ⟨gT3_0,0,none⟩) 2 2)] (dseq_any 5 (some ⟨gT3_0,0,none⟩) 2 2 _) (fun w18 h18=>⟨⟨h18.at_ 2 rfl,trivial⟩,?_⟩)
  exact dF (hT15_4 gT3_0 gT3_1 _ _ _ pM (h18.sel [0,1,2,3] [] (by kernel_rfl) rfl rfl))
 refine dC 5 7999 (fun KJ=>∀ (gT2_0:Nat),∀ (xT15_2:Nat->Value) (aJ:Act) (wT15_2:World),aJ=patch xT15_2 180 [(2,(pt g2 0)),(3,zV),(8,(pt g11 0)),(11,(Value.iface 104 (aV ([(zD t),(zD q)]).toArray))),(134,(aV ([zO,zO,(iV .u64 ((IntKind.u64.wrap t))),zN,zN]).toArray)),(137,(aV ([zO,zO,(iV .u64 ((IntKind.u64.wrap q))),zN,zN]).toArray)),(144,(lV (some ⟨gT2_0,0,none⟩) 2 2))]->Hp (fun _=>False) w wT15_2 [] [rBlk gT2_0 2 ([(zD t),(zD q)]),rBlk g11 104 ([(zD t),(zD q)]),rBlk g2 196 ([zO,zO,(iV .u64 0),zN,zN])]->KJ aJ wT15_2) ?_ (fun hT15_2=>?_)
 ·
  rintro gT2_0 xT15_2 _ wT15_2 rfl hTh15_2
  refine dAt ?_
  refine dT 6 (x_bs hTh15_2 196 ([zO,zO,(iV .u64 ((IntKind.u64.wrap t))),zN,zN,zO,zO,(iV .u64 ((IntKind.u64.wrap q))),zN,zN]) 2 (by kernel_rfl)) ?_
  rintro _ w19 ⟨g19,rfl,h19⟩
  refine ⟨⟨h19.at_ 2 rfl,trivial⟩,?_⟩
  exact dF (hT15_3 g19 gT2_0 _ _ _ pM (h19.sel [0,1,2,3] [] (by kernel_rfl) rfl rfl))
 refine dC 6 7967 (fun KJ=>∀ (gT1_0:Nat),∀ (xT15_1:Nat->Value) (aJ:Act) (wT15_1:World),aJ=patch xT15_1 180 [(2,(pt g2 0)),(3,zV),(8,(pt g11 0)),(11,(Value.iface 104 (aV ([(zD t),(zD q)]).toArray))),(134,(aV ([zO,zO,(iV .u64 ((IntKind.u64.wrap t))),zN,zN]).toArray)),(136,(zD q)),(144,(lV (some ⟨gT1_0,0,none⟩) 2 2))]->Hp (fun _=>False) w wT15_1 [] [rBlk gT1_0 2 ([(zD t),(zD q)]),rBlk g11 104 ([(zD t),(zD q)]),rBlk g2 196 ([zO,zO,(iV .u64 0),zN,zN])]->KJ aJ wT15_1) ?_ (fun hT15_1=>?_)
 ·
  rintro gT1_0 xT15_1 _ wT15_1 rfl hTh15_1
  refine dAt ?_
  refine dD 5 hTh15_1 [(zD q)] (knum_any q _) (fun w20 h20=>⟨⟨h20.at_ 1 rfl,trivial⟩,?_⟩)
  exact dF (hT15_2 gT1_0 _ _ _ pM (h20.sel [0,1,2] [] (by kernel_rfl) rfl rfl))
 refine dC 7 7963 (fun KJ=>∀ (gT0_0:Nat),∀ (xT15_0:Nat->Value) (aJ:Act) (wT15_0:World),aJ=patch xT15_0 180 [(2,(pt g2 0)),(3,zV),(8,(pt g11 0)),(11,(Value.iface 104 (aV ([(zD t),(zD q)]).toArray))),(133,(zD t)),(136,(zD q)),(144,(lV (some ⟨gT0_0,0,none⟩) 2 2))]->Hp (fun _=>False) w wT15_0 [] [rBlk gT0_0 2 ([(zD t),(zD q)]),rBlk g11 104 ([(zD t),(zD q)]),rBlk g2 196 ([zO,zO,(iV .u64 0),zN,zN])]->KJ aJ wT15_0) ?_ (fun hT15_0=>?_)
 ·
  rintro gT0_0 xT15_0 _ wT15_0 rfl hTh15_0
  refine dAt ?_
  refine dD 2 hTh15_0 [(zD t)] (knum_any t _) (fun w21 h21=>⟨⟨h21.at_ 1 rfl,trivial⟩,?_⟩)
  exact dF (hT15_1 gT0_0 _ _ _ pM (h21.sel [0,1,2] [] (by kernel_rfl) rfl rfl))
 refine dO 2 12 ?_ ?_
 ·
  refine oD h14 [(zD t)] (knum_any t _) (fun w22 h22=>⟨⟨h22.at_ 0 rfl,trivial⟩,?_⟩)
  refine dO 5 12 ?_ ?_
  ·
   refine oD h22 [(zD q)] (knum_any q _) (fun w23 h23=>⟨⟨h23.at_ 0 rfl,trivial⟩,?_⟩)
   refine dO 6 12 ?_ ?_
   ·
    refine oT (x_bs h23 196 ([zO,zO,(iV .u64 ((IntKind.u64.wrap t))),zN,zN,zO,zO,(iV .u64 ((IntKind.u64.wrap q))),zN,zN]) 2 (by kernel_rfl)) ?_
    rintro _ w24 ⟨g24,rfl,h24⟩
    refine ⟨⟨h24.at_ 1 rfl,trivial⟩,?_⟩
    refine dO 7 12 ?_ ?_
    ·
     refine oD h24 [(zD 5),(lV (some ⟨g24,0,none⟩) 2 2)] (dseq_any 5 (some ⟨g24,0,none⟩) 2 2 _) (fun w25 h25=>⟨⟨h25.at_ 1 rfl,trivial⟩,?_⟩)
     refine dT 12 (x_bs h25 2 ([(zD t),(zD q)]) 2 (by kernel_rfl)) ?_
     rintro _ w26 ⟨g26,rfl,h26⟩
     refine ⟨⟨h26.at_ 2 rfl,trivial⟩,?_⟩
     exact dF (hT15_4 g24 g26 _ _ _ pM (h26.sel [1,0,2,3] [] (by kernel_rfl) rfl rfl))
    refine oT (x_bs h24 2 ([(zD t),(zD q)]) 2 (by kernel_rfl)) ?_
    rintro _ w27 ⟨g27,rfl,h27⟩
    refine ⟨⟨h27.at_ 2 rfl,trivial⟩,?_⟩
    exact dF (hT15_3 g24 g27 _ _ _ pM (h27.sel [1,0,2,3] [] (by kernel_rfl) rfl rfl))
   refine oT (x_bs h23 2 ([(zD t),(zD q)]) 2 (by kernel_rfl)) ?_
   rintro _ w28 ⟨g28,rfl,h28⟩
   refine ⟨⟨h28.at_ 1 rfl,trivial⟩,?_⟩
   exact dF (hT15_2 g28 _ _ _ pM (h28.sel [0,1,2] [] (by kernel_rfl) rfl rfl))
  refine oT (x_bs h22 2 ([(zD t),(zD q)]) 2 (by kernel_rfl)) ?_
  rintro _ w29 ⟨g29,rfl,h29⟩
  refine ⟨⟨h29.at_ 1 rfl,trivial⟩,?_⟩
  exact dF (hT15_1 g29 _ _ _ pM (h29.sel [0,1,2] [] (by kernel_rfl) rfl rfl))
 refine oT (x_bs h14 2 ([(zD t),(zD q)]) 2 (by kernel_rfl)) ?_
 rintro _ w30 ⟨g30,rfl,h30⟩
 refine ⟨⟨h30.at_ 1 rfl,trivial⟩,?_⟩
 exact dF (hT15_0 g30 _ _ _ pM (h30.sel [0,1,2] [] (by kernel_rfl) rfl rfl))
end
section
open Go.Value renaming int->iV,slice->lV,string->sV,bool->bV,agg->aV
open Go.RowKit Go.QT
theorem vFact_any(n t:Int)(s:ByteArray)(b:Bool)(hs:s.size<=1000000)(w:World):Calls Tryz.prog 99 #[.iface 49 (.agg [iV .i64 n,.string s,.bool b,.int .i64 t].toArray)] w fun e w'=>∃ g A c,e=.returned (.tuple #[.agg #[.int .i64 2,.int .i64 6,.int .u64 0,.slice none 0 0,.slice (some ⟨g,0,none⟩) 4 4],.bool (rightM s [n,t])])/\Blk w' g 196 (nV n++[.int .i64 1,.int .i64 0,.int .u64 0,.slice A s.data.toList.length c,.slice none 0 0]++nV b.toNat++nV t)/\SB w' (.slice A s.data.toList.length c) s.data.toList/\w.heap.size<=g/\(∀ q,(lV A s.data.toList.length c).ownBlock=some q->w.heap.size<=q)/\Below w.heap.size w w':=by
 have h0:=Hp.nil (fun _=>False) w
 refine mE 180 ?_
 refine mN h0 196 ([zO,zO,(iV .u64 0),zN,zN]) fun g2 w2 h2=>?_
 refine mN h2 49 ([zO,zE,zV,zO]) fun g12 w12 h12=>?_
 refine mT (xSs h12 0 49 (.tmp 9) (.tmp 148) 0 ([(zD n),(sV s),(bV b),(zD t)]) ([(zD n),(sV s),(bV b),(zD t)])) fun _ w13 h13=>?_
 refine dG h13 24 23 (fun W=>(rBlk g12 49 ([(zD n),(sV s),(bV b),(zD t)])).Φ W/\True) (fun w15 h15=>⟨h15.at_ 0 rfl,trivial⟩) ?_
 intro w15 h15
 refine dP 17 [0,3,6,9,14,16,18] ?_
 refine dLs 10 [1,4,7,10,15,17,19] (fun W hW=>hW.1) ?_
 refine dO 2 20 ?_ ?_
 ·
  refine oD h15 [(zD n)] (knum_any n _) (fun w16 h16=>⟨⟨h16.at_ 0 rfl,trivial⟩,?_⟩)
  refine dO 5 20 ?_ ?_
  ·
   refine oT (x_rawT h16 120 [(sV s)] (by kernel_rfl) (ktext_any s _ (by omega))) ?_
   rintro _ w17 ⟨A17,c17,rfl,h17,hn17⟩
   refine ⟨⟨h17.at_ 1 rfl,trivial⟩,?_⟩
   refine dO 8 20 ?_ ?_
   ·
    refine oD h17 [(bV b)] (ktruth_any b _) (fun w18 h18=>⟨⟨h18.at_ 1 rfl,trivial⟩,?_⟩)
    refine dO 11 20 ?_ ?_
    ·
     refine oD h18 [(zD t)] (knum_any t _) (fun w19 h19=>⟨⟨h19.at_ 1 rfl,trivial⟩,?_⟩)
     refine dO 12 20 ?_ ?_
     ·
      refine oT (x_bs h19 196 ([zO,zO,(iV .u64 ((IntKind.u64.wrap n))),zN,zN,(zD 1),zO,(iV .u64 0),(lV A17 s.data.toList.length c17),zN,zO,zO,(iV .u64 ((IntKind.u64.wrap ((b.toNat:Nat):Int)))),zN,zN,zO,zO,(iV .u64 ((IntKind.u64.wrap t))),zN,zN]) 4 (by kernel_rfl)) ?_
      rintro _ w20 ⟨g20,rfl,h20⟩
      refine ⟨⟨h20.at_ 2 rfl,trivial⟩,?_⟩
      refine dO 13 20 ?_ ?_
      ·
       refine oD h20 [(zD 6),(lV (some ⟨g20,0,none⟩) 4 4)] (dseq_any 6 (some ⟨g20,0,none⟩) 4 4 _) (fun w21 h21=>⟨⟨h21.at_ 2 rfl,trivial⟩,?_⟩)
       refine dT 20 (x_bs h21 2 ([(zD n),(zD t)]) 2 (by kernel_rfl)) ?_
       rintro _ w22 ⟨g22,rfl,h22⟩
       refine ⟨⟨h22.at_ 3 rfl,trivial⟩,?_⟩
       refine dT 21 (x_tiRight h22 0 rfl s (by omega) [n,t] 2 rfl rfl (by decide) (by kernel_rfl)) ?_
       rintro _ w23 ⟨rfl,h23⟩
       refine ⟨⟨h23.at_ 3 rfl,trivial⟩,?_⟩
       refine dT 22 (xSs h23 4 196 (.tmp 2) (.tmp 162) 0 ([(zD 2),(zD 6),(iV .u64 0),zN,(lV (some ⟨g20,0,none⟩) 4 4)]) ([(zD 2),(zD 6),(iV .u64 0),zN,(lV (some ⟨g20,0,none⟩) 4 4)])) ?_
       rintro _ w24 h24
       refine ⟨⟨h24.at_ 3 rfl,trivial⟩,?_⟩
       refine dN 23 ?_
       refine dX ?_
       refine mF (post_2 (r:=.cell 2 196) (s:=.tmp 3) (by kernel_rfl) rfl (rce (h24.at_ 4 rfl)) (rtm (bV (rightM s [n,t]))) ?_)
       exact ⟨g20,_,_,rfl,h24.at_ 1 rfl,h24.at_ 2 rfl,(h24.mine 1 _ rfl _ rfl).elim (fun h=>h.elim) id,fun q hq=>Nat.le_trans h16.below0.size (hn17 q hq),h24.below0⟩
      refine oT (x_bs h20 2 ([(zD n),(zD t)]) 2 (by kernel_rfl)) ?_
      rintro _ w25 ⟨g25,rfl,h25⟩
      refine ⟨⟨h25.at_ 3 rfl,trivial⟩,?_⟩
      refine dD 13 h25 [(zD 6),(lV (some ⟨g20,0,none⟩) 4 4)] (dseq_any 6 (some ⟨g20,0,none⟩) 4 4 _) (fun w26 h26=>⟨⟨h26.at_ 3 rfl,trivial⟩,?_⟩)
      refine dT 21 (x_tiRight h26 0 rfl s (by omega) [n,t] 2 rfl rfl (by decide) (by kernel_rfl)) ?_
      rintro _ w27 ⟨rfl,h27⟩
      refine ⟨⟨h27.at_ 3 rfl,trivial⟩,?_⟩
      refine dT 22 (xSs h27 4 196 (.tmp 2) (.tmp 162) 0 ([(zD 2),(zD 6),(iV .u64 0),zN,(lV (some ⟨g20,0,none⟩) 4 4)]) ([(zD 2),(zD 6),(iV .u64 0),zN,(lV (some ⟨g20,0,none⟩) 4 4)])) ?_
      rintro _ w28 h28
      refine ⟨⟨h28.at_ 3 rfl,trivial⟩,?_⟩
      refine dN 23 ?_
      refine dX ?_
      refine mF (post_2 (r:=.cell 2 196) (s:=.tmp 3) (by kernel_rfl) rfl (rce (h28.at_ 4 rfl)) (rtm (bV (rightM s [n,t]))) ?_)
      exact ⟨g20,_,_,rfl,h28.at_ 1 rfl,h28.at_ 2 rfl,(h28.mine 1 _ rfl _ rfl).elim (fun h=>h.elim) id,fun q hq=>Nat.le_trans h16.below0.size (hn17 q hq),h28.below0⟩
     refine oT (x_bs h19 2 ([(zD n),(zD t)]) 2 (by kernel_rfl)) ?_
     rintro _ w29 ⟨g29,rfl,h29⟩
     refine ⟨⟨h29.at_ 2 rfl,trivial⟩,?_⟩
     refine dT 12 (x_bs h29 196 ([zO,zO,(iV .u64 ((IntKind.u64.wrap n))),zN,zN,(zD 1),zO,(iV .u64 0),(lV A17 s.data.toList.length c17),zN,zO,zO,(iV .u64 ((IntKind.u64.wrap ((b.toNat:Nat):Int)))),zN,zN,zO,zO,(iV .u64 ((IntKind.u64.wrap t))),zN,zN]) 4 (by kernel_rfl)) ?_
     rintro _ w30 ⟨g30,rfl,h30⟩
     refine ⟨⟨h30.at_ 3 rfl,trivial⟩,?_⟩
     refine dD 13 h30 [(zD 6),(lV (some ⟨g30,0,none⟩) 4 4)] (dseq_any 6 (some ⟨g30,0,none⟩) 4 4 _) (fun w31 h31=>⟨⟨h31.at_ 3 rfl,trivial⟩,?_⟩)
     refine dT 21 (x_tiRight h31 1 rfl s (by omega) [n,t] 2 rfl rfl (by decide) (by kernel_rfl)) ?_
     rintro _ w32 ⟨rfl,h32⟩
     refine ⟨⟨h32.at_ 3 rfl,trivial⟩,?_⟩
     refine dT 22 (xSs h32 4 196 (.tmp 2) (.tmp 162) 0 ([(zD 2),(zD 6),(iV .u64 0),zN,(lV (some ⟨g30,0,none⟩) 4 4)]) ([(zD 2),(zD 6),(iV .u64 0),zN,(lV (some ⟨g30,0,none⟩) 4 4)])) ?_
     rintro _ w33 h33
     refine ⟨⟨h33.at_ 3 rfl,trivial⟩,?_⟩
     refine dN 23 ?_
     refine dX ?_
     refine mF (post_2 (r:=.cell 2 196) (s:=.tmp 3) (by kernel_rfl) rfl (rce (h33.at_ 4 rfl)) (rtm (bV (rightM s [n,t]))) ?_)
     exact ⟨g30,_,_,rfl,h33.at_ 0 rfl,h33.at_ 2 rfl,(h33.mine 0 _ rfl _ rfl).elim (fun h=>h.elim) id,fun q hq=>Nat.le_trans h16.below0.size (hn17 q hq),h33.below0⟩
    refine oT (x_bs h18 2 ([(zD n),(zD t)]) 2 (by kernel_rfl)) ?_
    rintro _ w34 ⟨g34,rfl,h34⟩
    refine ⟨⟨h34.at_ 2 rfl,trivial⟩,?_⟩
    refine dD 11 h34 [(zD t)] (knum_any t _) (fun w35 h35=>⟨⟨h35.at_ 2 rfl,trivial⟩,?_⟩)
    refine dT 12 (x_bs h35 196 ([zO,zO,(iV .u64 ((IntKind.u64.wrap n))),zN,zN,(zD 1),zO,(iV .u64 0),(lV A17 s.data.toList.length c17),zN,zO,zO,(iV .u64 ((IntKind.u64.wrap ((b.toNat:Nat):Int)))),zN,zN,zO,zO,(iV .u64 ((IntKind.u64.wrap t))),zN,zN]) 4 (by kernel_rfl)) ?_
    rintro _ w36 ⟨g36,rfl,h36⟩
    refine ⟨⟨h36.at_ 3 rfl,trivial⟩,?_⟩
    refine dD 13 h36 [(zD 6),(lV (some ⟨g36,0,none⟩) 4 4)] (dseq_any 6 (some ⟨g36,0,none⟩) 4 4 _) (fun w37 h37=>⟨⟨h37.at_ 3 rfl,trivial⟩,?_⟩)
    refine dT 21 (x_tiRight h37 1 rfl s (by omega) [n,t] 2 rfl rfl (by decide) (by kernel_rfl)) ?_
    rintro _ w38 ⟨rfl,h38⟩
    refine ⟨⟨h38.at_ 3 rfl,trivial⟩,?_⟩
    refine dT 22 (xSs h38 4 196 (.tmp 2) (.tmp 162) 0 ([(zD 2),(zD 6),(iV .u64 0),zN,(lV (some ⟨g36,0,none⟩) 4 4)]) ([(zD 2),(zD 6),(iV .u64 0),zN,(lV (some ⟨g36,0,none⟩) 4 4)])) ?_
    rintro _ w39 h39
    refine ⟨⟨h39.at_ 3 rfl,trivial⟩,?_⟩
    refine dN 23 ?_
    refine dX ?_
    refine mF (post_2 (r:=.cell 2 196) (s:=.tmp 3) (by kernel_rfl) rfl (rce (h39.at_ 4 rfl)) (rtm (bV (rightM s [n,t]))) ?_)
    exact ⟨g36,_,_,rfl,h39.at_ 0 rfl,h39.at_ 2 rfl,(h39.mine 0 _ rfl _ rfl).elim (fun h=>h.elim) id,fun q hq=>Nat.le_trans h16.below0.size (hn17 q hq),h39.below0⟩
   refine oT (x_bs h17 2 ([(zD n),(zD t)]) 2 (by kernel_rfl)) ?_
   rintro _ w40 ⟨g40,rfl,h40⟩
   refine ⟨⟨h40.at_ 2 rfl,trivial⟩,?_⟩
   refine dD 8 h40 [(bV b)] (ktruth_any b _) (fun w41 h41=>⟨⟨h41.at_ 2 rfl,trivial⟩,?_⟩)
   refine dD 11 h41 [(zD t)] (knum_any t _) (fun w42 h42=>⟨⟨h42.at_ 2 rfl,trivial⟩,?_⟩)
   refine dT 12 (x_bs h42 196 ([zO,zO,(iV .u64 ((IntKind.u64.wrap n))),zN,zN,(zD 1),zO,(iV .u64 0),(lV A17 s.data.toList.length c17),zN,zO,zO,(iV .u64 ((IntKind.u64.wrap ((b.toNat:Nat):Int)))),zN,zN,zO,zO,(iV .u64 ((IntKind.u64.wrap t))),zN,zN]) 4 (by kernel_rfl)) ?_
   rintro _ w43 ⟨g43,rfl,h43⟩
   refine ⟨⟨h43.at_ 3 rfl,trivial⟩,?_⟩
   refine dD 13 h43 [(zD 6),(lV (some ⟨g43,0,none⟩) 4 4)] (dseq_any 6 (some ⟨g43,0,none⟩) 4 4 _) (fun w44 h44=>⟨⟨h44.at_ 3 rfl,trivial⟩,?_⟩)
   refine dT 21 (x_tiRight h44 1 rfl s (by omega) [n,t] 2 rfl rfl (by decide) (by kernel_rfl)) ?_
   rintro _ w45 ⟨rfl,h45⟩
   refine ⟨⟨h45.at_ 3 rfl,trivial⟩,?_⟩
   refine dT 22 (xSs h45 4 196 (.tmp 2) (.tmp 162) 0 ([(zD 2),(zD 6),(iV .u64 0),zN,(lV (some ⟨g43,0,none⟩) 4 4)]) ([(zD 2),(zD 6),(iV .u64 0),zN,(lV (some ⟨g43,0,none⟩) 4 4)])) ?_
   rintro _ w46 h46
   refine ⟨⟨h46.at_ 3 rfl,trivial⟩,?_⟩
   refine dN 23 ?_
   refine dX ?_
   refine mF (post_2 (r:=.cell 2 196) (s:=.tmp 3) (by kernel_rfl) rfl (rce (h46.at_ 4 rfl)) (rtm (bV (rightM s [n,t]))) ?_)
   exact ⟨g43,_,_,rfl,h46.at_ 0 rfl,h46.at_ 2 rfl,(h46.mine 0 _ rfl _ rfl).elim (fun h=>h.elim) id,fun q hq=>Nat.le_trans h16.below0.size (hn17 q hq),h46.below0⟩
  refine oT (x_bs h16 2 ([(zD n),(zD t)]) 2 (by kernel_rfl)) ?_
  rintro _ w47 ⟨g47,rfl,h47⟩
  refine ⟨⟨h47.at_ 1 rfl,trivial⟩,?_⟩
  refine dT 5 (x_rawT h47 120 [(sV s)] (by kernel_rfl) (ktext_any s _ (by omega))) ?_
  rintro _ w48 ⟨A48,c48,rfl,h48,hn48⟩
  refine ⟨⟨h48.at_ 2 rfl,trivial⟩,?_⟩
  refine dD 8 h48 [(bV b)] (ktruth_any b _) (fun w49 h49=>⟨⟨h49.at_ 2 rfl,trivial⟩,?_⟩)
  refine dD 11 h49 [(zD t)] (knum_any t _) (fun w50 h50=>⟨⟨h50.at_ 2 rfl,trivial⟩,?_⟩)
  refine dT 12 (x_bs h50 196 ([zO,zO,(iV .u64 ((IntKind.u64.wrap n))),zN,zN,(zD 1),zO,(iV .u64 0),(lV A48 s.data.toList.length c48),zN,zO,zO,(iV .u64 ((IntKind.u64.wrap ((b.toNat:Nat):Int)))),zN,zN,zO,zO,(iV .u64 ((IntKind.u64.wrap t))),zN,zN]) 4 (by kernel_rfl)) ?_
  rintro _ w51 ⟨g51,rfl,h51⟩
  refine ⟨⟨h51.at_ 3 rfl,trivial⟩,?_⟩
  refine dD 13 h51 [(zD 6),(lV (some ⟨g51,0,none⟩) 4 4)] (dseq_any 6 (some ⟨g51,0,none⟩) 4 4 _) (fun w52 h52=>⟨⟨h52.at_ 3 rfl,trivial⟩,?_⟩)
  refine dT 21 (x_tiRight h52 2 rfl s (by omega) [n,t] 2 rfl rfl (by decide) (by kernel_rfl)) ?_
  rintro _ w53 ⟨rfl,h53⟩
  refine ⟨⟨h53.at_ 3 rfl,trivial⟩,?_⟩
  refine dT 22 (xSs h53 4 196 (.tmp 2) (.tmp 162) 0 ([(zD 2),(zD 6),(iV .u64 0),zN,(lV (some ⟨g51,0,none⟩) 4 4)]) ([(zD 2),(zD 6),(iV .u64 0),zN,(lV (some ⟨g51,0,none⟩) 4 4)])) ?_
  rintro _ w54 h54
  refine ⟨⟨h54.at_ 3 rfl,trivial⟩,?_⟩
  refine dN 23 ?_
  refine dX ?_
  refine mF (post_2 (r:=.cell 2 196) (s:=.tmp 3) (by kernel_rfl) rfl (rce (h54.at_ 4 rfl)) (rtm (bV (rightM s [n,t]))) ?_)
  exact ⟨g51,_,_,rfl,h54.at_ 0 rfl,h54.at_ 1 rfl,(h54.mine 0 _ rfl _ rfl).elim (fun h=>h.elim) id,fun q hq=>Nat.le_trans h47.below0.size (hn48 q hq),h54.below0⟩
 refine oT (x_bs h15 2 ([(zD n),(zD t)]) 2 (by kernel_rfl)) ?_
 rintro _ w55 ⟨g55,rfl,h55⟩
 refine ⟨⟨h55.at_ 1 rfl,trivial⟩,?_⟩
 refine dD 2 h55 [(zD n)] (knum_any n _) (fun w56 h56=>⟨⟨h56.at_ 1 rfl,trivial⟩,?_⟩)
 refine dT 5 (x_rawT h56 120 [(sV s)] (by kernel_rfl) (ktext_any s _ (by omega))) ?_
 rintro _ w57 ⟨A57,c57,rfl,h57,hn57⟩
 refine ⟨⟨h57.at_ 2 rfl,trivial⟩,?_⟩
 refine dD 8 h57 [(bV b)] (ktruth_any b _) (fun w58 h58=>⟨⟨h58.at_ 2 rfl,trivial⟩,?_⟩)
 refine dD 11 h58 [(zD t)] (knum_any t _) (fun w59 h59=>⟨⟨h59.at_ 2 rfl,trivial⟩,?_⟩)
 refine dT 12 (x_bs h59 196 ([zO,zO,(iV .u64 ((IntKind.u64.wrap n))),zN,zN,(zD 1),zO,(iV .u64 0),(lV A57 s.data.toList.length c57),zN,zO,zO,(iV .u64 ((IntKind.u64.wrap ((b.toNat:Nat):Int)))),zN,zN,zO,zO,(iV .u64 ((IntKind.u64.wrap t))),zN,zN]) 4 (by kernel_rfl)) ?_
 rintro _ w60 ⟨g60,rfl,h60⟩
 refine ⟨⟨h60.at_ 3 rfl,trivial⟩,?_⟩
 refine dD 13 h60 [(zD 6),(lV (some ⟨g60,0,none⟩) 4 4)] (dseq_any 6 (some ⟨g60,0,none⟩) 4 4 _) (fun w61 h61=>⟨⟨h61.at_ 3 rfl,trivial⟩,?_⟩)
 refine dT 21 (x_tiRight h61 2 rfl s (by omega) [n,t] 2 rfl rfl (by decide) (by kernel_rfl)) ?_
 rintro _ w62 ⟨rfl,h62⟩
 refine ⟨⟨h62.at_ 3 rfl,trivial⟩,?_⟩
 refine dT 22 (xSs h62 4 196 (.tmp 2) (.tmp 162) 0 ([(zD 2),(zD 6),(iV .u64 0),zN,(lV (some ⟨g60,0,none⟩) 4 4)]) ([(zD 2),(zD 6),(iV .u64 0),zN,(lV (some ⟨g60,0,none⟩) 4 4)])) ?_
 rintro _ w63 h63
 refine ⟨⟨h63.at_ 3 rfl,trivial⟩,?_⟩
 refine dN 23 ?_
 refine dX ?_
 refine mF (post_2 (r:=.cell 2 196) (s:=.tmp 3) (by kernel_rfl) rfl (rce (h63.at_ 4 rfl)) (rtm (bV (rightM s [n,t]))) ?_)
 exact ⟨g60,_,_,rfl,h63.at_ 0 rfl,h63.at_ 1 rfl,(h63.mine 0 _ rfl _ rfl).elim (fun h=>h.elim) id,fun q hq=>Nat.le_trans h56.below0.size (hn57 q hq),h63.below0⟩
end
end Go.Proofs.YtaoijkhndakppaaGreat
