/- Things in boxes as bytes,and back: plain. -/
import Derived.Test.YtaoijkhndakppaaGreatCA9
set_option maxRecDepth 100000
set_option maxHeartbeats 4000000
namespace Go.Proofs.YtaoijkhndakppaaGreat
section
open Go.RowKit Go.QT
theorem truth_eq(ts:List DVal)(b:Bool):(((nxV 0 ts).n:Int) == 1)=truthO (ts,b):=by
 show _=decide ((nxV 0 ts).n=1)
 rw [Bool.eq_iff_iff,beq_iff_eq,decide_eq_true_iff];omega
theorem len_eq0(ts:List DVal):((ts.length:Int) == 0)=decide (ts.length=0):=by
 rw [Bool.eq_iff_iff,beq_iff_eq,decide_eq_true_iff];omega
theorem i64_nat''{n:Nat}(h:n<=1099511627776):IntKind.i64.wrap ((n:Nat):Int)=(n:Int):=by have:=i64_nat (m:=n) (by omega);injection this
theorem kl_keyO(T:TkSt):kl (keyO T)=keyF (nxV 1 T.1).b:=by
 have h:(keyF (nxV 1 T.1).b).length=16:=by
   unfold keyF
   split
   · assumption
   rfl
 obtain ⟨K,hK⟩:=kl_of _ h
 unfold keyO
 rw [hK]
 congr 1
 funext i
 revert i;intro ⟨i,hi⟩
 unfold gb kl
 simp [-List.ofFn_succ,hi]
theorem tk_okey{w:World}{v:Value}{ts:List DVal}{bad:Bool}(h:SB w v (nxV 1 ts).b):Calls Tryz.prog 139 #[v] w (DPost w (.tuple #[.agg (vb (kl (keyO (ts,bad)))).toArray,.bool (decide ((nxV 1 ts).b.length=16))])):=by
 rw [kl_keyO]
 exact okey_any v _ w h
theorem name_sz{T:TkSt}(h:Sm T.1):(nameO T).size<=1000000000:=by
 have:=h.nxV 1
 show (nxV 1 T.1).b.toArray.size<=_
 rw [List.size_toArray];omega
theorem tkNum_any{tb:Nat}{G:Nat->Prop}{A:Option Addr}{c:Nat}{bad:Bool}{ts:List DVal}{w:World}(hL:(rLst G A c ts).Φ w)(hb:Blk w tb 287 [.slice A ts.length c,.bool bad])(hd:¬ G tb):Calls Tryz.prog 107 #[pt tb 0] w (TkPost w tb G (numT (ts,bad)) (.int .i64 (numO (ts,bad)))):=by
 have hdd:∀ (j:Nat) (s:Res),[rBlk tb 287 [.slice A ts.length c,.bool bad]][j]?=some s->(rLst G A c ts).dj s:=fun j s hj q h1 h2=>by
   have h3:=sel1 hj
   injection h3 with h3
   subst h3
   exact hd (by rw [show q=tb from h2] at h1;exact h1)
 have h0:=((Hp.one (rBlk tb 287 [.slice A ts.length c,.bool bad]) hb).weaken (F:=fun q=>q=tb) (fun q hq=>hq)).addR (rLst G A c ts) hL hdd
 refine mE 14 ?_
 refine mT (x_nx h0 0 rfl 0 rfl 130 [(pt tb 0),(Value.int .i64 0)] (by kernel_rfl) (next_any 0 (h0.rd 0 rfl) (h0.at_ 0 rfl) hd)) ?_
 rintro _ w3 ⟨A3,c3,B3,d3,C3,e3,ts3,b3,hts3,hb3,rfl,hn3,h3⟩
 refine mX 6 (Value.int .u64 (((nxV 0 ts).n:Int))) (Value.int .u64 (((nxV 0 ts).n:Int))) rfl ?_
 refine m_if 8 (((nxV 0 ts).n:Int)>1099511627776) (by kernel_rfl) (fun b6=>?_) (fun b6=>?_)
 ·
  refine mT (xSt h3 0 4 (.tmp 11) (.const (Value.bool true)) 1 (Value.bool true) ([(Value.slice A3 ts3.length c3),(Value.bool true)])) fun _ w8 h8=>?_
  refine mP (Value.int .i64 0) ?_
  exact ⟨A3,c3,ts3,true,hts3,(by simp [numT,show (nxV 0 ts).n>1099511627776 from by omega]),(by rw [numO,if_pos (show (nxV 0 ts).n>1099511627776 from by omega)]),h8.sel [0] [0] rfl rfl rfl⟩
 refine mX 13 (Value.int .i64 (((nxV 0 ts).n:Int))) (Value.int .i64 (IntKind.i64.wrap ((nxV 0 ts).n:Int))) (congrArg (Value.int .i64) (i64_nat'' (by omega))) ?_
 refine mP (Value.int .i64 (((nxV 0 ts).n:Int))) ?_
 exact ⟨A3,c3,ts3,b3,hts3,(by rw [hb3];simp [numT,show ¬ (nxV 0 ts).n>1099511627776 from by omega]),(by rw [numO,if_neg (show ¬ (nxV 0 ts).n>1099511627776 from by omega)]),h3.sel [0] [0] rfl rfl rfl⟩
theorem tkTruth_any{tb:Nat}{G:Nat->Prop}{A:Option Addr}{c:Nat}{bad:Bool}{ts:List DVal}{w:World}(hL:(rLst G A c ts).Φ w)(hb:Blk w tb 287 [.slice A ts.length c,.bool bad])(hd:¬ G tb):Calls Tryz.prog 110 #[pt tb 0] w (TkPost w tb G (truthT (ts,bad)) (.bool (truthO (ts,bad)))):=by
 have hdd:∀ (j:Nat) (s:Res),[rBlk tb 287 [.slice A ts.length c,.bool bad]][j]?=some s->(rLst G A c ts).dj s:=fun j s hj q h1 h2=>by
   have h3:=sel1 hj
   injection h3 with h3
   subst h3
   exact hd (by rw [show q=tb from h2] at h1;exact h1)
 have h0:=((Hp.one (rBlk tb 287 [.slice A ts.length c,.bool bad]) hb).weaken (F:=fun q=>q=tb) (fun q hq=>hq)).addR (rLst G A c ts) hL hdd
 refine mE 14 ?_
 refine mT (x_nx h0 0 rfl 0 rfl 130 [(pt tb 0),(Value.int .i64 0)] (by kernel_rfl) (next_any 0 (h0.rd 0 rfl) (h0.at_ 0 rfl) hd)) ?_
 rintro _ w3 ⟨A3,c3,B3,d3,C3,e3,ts3,b3,hts3,hb3,rfl,hn3,h3⟩
 refine mX 6 (Value.int .u64 (((nxV 0 ts).n:Int))) (Value.int .u64 (((nxV 0 ts).n:Int))) rfl ?_
 refine m_if 8 (((nxV 0 ts).n:Int)>1) (by kernel_rfl) (fun b6=>?_) (fun b6=>?_)
 ·
  refine mT (xSt h3 0 4 (.tmp 11) (.const (Value.bool true)) 1 (Value.bool true) ([(Value.slice A3 ts3.length c3),(Value.bool true)])) fun _ w7 h7=>?_
  refine mX 13 (Value.bool (truthO (ts,bad))) (Value.bool (((nxV 0 ts).n:Int) == 1)) (congrArg Value.bool (truth_eq _ _)) ?_
  refine mP (Value.bool (truthO (ts,bad))) ?_
  exact ⟨A3,c3,ts3,true,hts3,(by simp [truthT,show (nxV 0 ts).n>1 from by omega]),rfl,h7.sel [0] [0] rfl rfl rfl⟩
 refine mX 13 (Value.bool (truthO (ts,bad))) (Value.bool (((nxV 0 ts).n:Int) == 1)) (congrArg Value.bool (truth_eq _ _)) ?_
 refine mP (Value.bool (truthO (ts,bad))) ?_
 exact ⟨A3,c3,ts3,b3,hts3,(by rw [hb3];simp [truthT,show ¬ (nxV 0 ts).n>1 from by omega]),rfl,h3.sel [0] [0] rfl rfl rfl⟩
theorem tkName_any{tb:Nat}{G:Nat->Prop}{A:Option Addr}{c:Nat}{bad:Bool}{ts:List DVal}{w:World}(hL:(rLst G A c ts).Φ w)(hb:Blk w tb 287 [.slice A ts.length c,.bool bad])(hd:¬ G tb)(hsm:Sm ts):Calls Tryz.prog 106 #[pt tb 0] w (TkPost w tb G (nameT (ts,bad)) (.string (nameO (ts,bad)))):=by
 have hdd:∀ (j:Nat) (s:Res),[rBlk tb 287 [.slice A ts.length c,.bool bad]][j]?=some s->(rLst G A c ts).dj s:=fun j s hj q h1 h2=>by
   have h3:=sel1 hj
   injection h3 with h3
   subst h3
   exact hd (by rw [show q=tb from h2] at h1;exact h1)
 have h0:=((Hp.one (rBlk tb 287 [.slice A ts.length c,.bool bad]) hb).weaken (F:=fun q=>q=tb) (fun q hq=>hq)).addR (rLst G A c ts) hL hdd
 refine mE 15 ?_
 refine mT (x_nx h0 0 rfl 0 rfl 130 [(pt tb 0),(Value.int .i64 1)] (by kernel_rfl) (next_any 1 (h0.rd 0 rfl) (h0.at_ 0 rfl) hd)) ?_
 rintro _ w3 ⟨A3,c3,B3,d3,C3,e3,ts3,b3,hts3,hb3,rfl,hn3,h3⟩
 refine mX 6 (Value.slice B3 ((nxV 1 ts).b.length) d3) (Value.slice B3 ((nxV 1 ts).b.length) d3) rfl ?_
 have h4:=h3.sub 1 rfl (rSB (Value.slice B3 ((nxV 1 ts).b.length) d3) (nxV 1 ts).b) (h3.rd 1 rfl).2.1 (fun q hq=>(h3.rd 1 rfl).2.2 hq.1 q hq.2)
 refine mW 7 (v:=(Value.string (nameO (ts,bad)))) (exec_sb_conv (.tmp 6) (by kernel_rfl) _ (nxV 1 ts).b (by kernel_rfl) (h4.rd 0 rfl)) ?_
 refine mT (x_nright h4 (nameO (ts,bad)) (name_sz (T:=(ts,bad)) hsm) (by kernel_rfl)) ?_
 rintro _ w7 ⟨rfl,h7⟩
 refine m_split 10 (!(rightN (nameO (ts,bad)))) (by kernel_rfl) (fun b8=>?_) (fun b8=>?_)
 ·
  refine mT (xSt h7 0 4 (.tmp 13) (.const (Value.bool true)) 1 (Value.bool true) ([(Value.slice A3 ts3.length c3),(Value.bool true)])) fun _ w9 h9=>?_
  refine mP (Value.string (nameO (ts,bad))) ?_
  exact ⟨A3,c3,ts3,true,hts3,(by simp [nameT,show rightN (nameO (ts,bad))=false from by simpa using b8]),rfl,h9.sel [0] [1] rfl rfl rfl⟩
 refine mP (Value.string (nameO (ts,bad))) ?_
 exact ⟨A3,c3,ts3,b3,hts3,(by rw [hb3];simp [nameT,show rightN (nameO (ts,bad))=true from by simpa using b8]),rfl,h7.sel [0] [1] rfl rfl rfl⟩
theorem tkKey_any{tb:Nat}{G:Nat->Prop}{A:Option Addr}{c:Nat}{bad:Bool}{ts:List DVal}{w:World}(hL:(rLst G A c ts).Φ w)(hb:Blk w tb 287 [.slice A ts.length c,.bool bad])(hd:¬ G tb):Calls Tryz.prog 118 #[pt tb 0] w (TkPost w tb G (keyT (ts,bad)) (.agg (vb (kl (keyO (ts,bad)))).toArray)):=by
 have hdd:∀ (j:Nat) (s:Res),[rBlk tb 287 [.slice A ts.length c,.bool bad]][j]?=some s->(rLst G A c ts).dj s:=fun j s hj q h1 h2=>by
   have h3:=sel1 hj
   injection h3 with h3
   subst h3
   exact hd (by rw [show q=tb from h2] at h1;exact h1)
 have h0:=((Hp.one (rBlk tb 287 [.slice A ts.length c,.bool bad]) hb).weaken (F:=fun q=>q=tb) (fun q hq=>hq)).addR (rLst G A c ts) hL hdd
 refine mE 18 ?_
 refine mN h0 41 (vb (List.replicate 16 0)) fun g2 w2 h2=>?_
 refine mT (x_nx h2 1 rfl 0 rfl 130 [(pt tb 0),(Value.int .i64 1)] (by kernel_rfl) (next_any 1 (h2.rd 0 rfl) (h2.at_ 1 rfl) hd)) ?_
 rintro _ w4 ⟨A4,c4,B4,d4,C4,e4,ts4,b4,hts4,hb4,rfl,hn4,h4⟩
 refine mX 8 (Value.slice B4 ((nxV 1 ts).b.length) d4) (Value.slice B4 ((nxV 1 ts).b.length) d4) rfl ?_
 have h5:=h4.sub 1 rfl (rSB (Value.slice B4 ((nxV 1 ts).b.length) d4) (nxV 1 ts).b) (h4.rd 1 rfl).2.1 (fun q hq=>(h4.rd 1 rfl).2.2 hq.1 q hq.2)
 refine mD h5 [(Value.slice B4 ((nxV 1 ts).b.length) d4)] (tk_okey (bad:=bad) (h5.rd 0 rfl)) (fun w6 h6=>?_)
 refine mN h6 41 (vb (List.replicate 16 0)) fun g7 w7 h7=>?_
 refine mT (xSs h7 0 41 (.tmp 3) (.tmp 10) 0 (vb (kl (keyO (ts,bad)))) (vb (kl (keyO (ts,bad))))) fun _ w8 h8=>?_
 refine m_split 13 (!(decide ((nxV 1 ts).b.length=16))) (by kernel_rfl) (fun b11=>?_) (fun b11=>?_)
 ·
  refine mT (xSt h8 2 4 (.tmp 16) (.const (Value.bool true)) 1 (Value.bool true) ([(Value.slice A4 ts4.length c4),(Value.bool true)])) fun _ w12 h12=>?_
  refine ma h12 0 ?_
  refine mT (xSs h12 1 41 (.tmp 2) (.tmp 17) 0 (vb (kl (keyO (ts,bad)))) (vb (kl (keyO (ts,bad))))) fun _ w14 h14=>?_
  refine mF (post_1 (r:=.cell 2 41) (by kernel_rfl) rfl (rce (h14.at_ 1 rfl)) ?_)
  exact ⟨A4,c4,ts4,true,hts4,(by simp [keyT,show ¬ (nxV 1 ts).b.length=16 from by simpa using b11]),rfl,h14.sel [2] [1] rfl rfl rfl⟩
 refine ma h8 0 ?_
 refine mT (xSs h8 1 41 (.tmp 2) (.tmp 17) 0 (vb (kl (keyO (ts,bad)))) (vb (kl (keyO (ts,bad))))) fun _ w16 h16=>?_
 refine mF (post_1 (r:=.cell 2 41) (by kernel_rfl) rfl (rce (h16.at_ 1 rfl)) ?_)
 exact ⟨A4,c4,ts4,b4,hts4,(by rw [hb4];simp [keyT,show (nxV 1 ts).b.length=16 from by simpa using b11]),rfl,h16.sel [2] [1] rfl rfl rfl⟩
theorem tkBytes_any{tb:Nat}{G:Nat->Prop}{A:Option Addr}{c:Nat}{bad:Bool}{ts:List DVal}{w:World}(hL:(rLst G A c ts).Φ w)(hb:Blk w tb 287 [.slice A ts.length c,.bool bad])(hd:¬ G tb):Calls Tryz.prog 108 #[pt tb 0] w (BkPost w tb G (bytesT (ts,bad)) (bytesO (ts,bad))):=by
 have hdd:∀ (j:Nat) (s:Res),[rBlk tb 287 [.slice A ts.length c,.bool bad]][j]?=some s->(rLst G A c ts).dj s:=fun j s hj q h1 h2=>by
   have h3:=sel1 hj
   injection h3 with h3
   subst h3
   exact hd (by rw [show q=tb from h2] at h1;exact h1)
 have h0:=((Hp.one (rBlk tb 287 [.slice A ts.length c,.bool bad]) hb).weaken (F:=fun q=>q=tb) (fun q hq=>hq)).addR (rLst G A c ts) hL hdd
 refine mE 6 ?_
 refine mT (x_nx h0 0 rfl 0 rfl 130 [(pt tb 0),(Value.int .i64 1)] (by kernel_rfl) (next_any 1 (h0.rd 0 rfl) (h0.at_ 0 rfl) hd)) ?_
 rintro _ w3 ⟨A3,c3,B3,d3,C3,e3,ts3,b3,hts3,hb3,rfl,hn3,h3⟩
 refine mX 5 (Value.slice B3 ((nxV 1 ts).b.length) d3) (Value.slice B3 ((nxV 1 ts).b.length) d3) rfl ?_
 refine mP (Value.slice B3 ((nxV 1 ts).b.length) d3) ?_
 exact ⟨A3,c3,ts3,b3,B3,d3,hts3,hb3,rfl,h3.sel [0] [0,1] rfl rfl rfl⟩
theorem tkDone_any{tb:Nat}{A:Option Addr}{c:Nat}{bad:Bool}{ts:List DVal}{w:World}(hb:Blk w tb 287 [.slice A ts.length c,.bool bad]):Calls Tryz.prog 112 #[pt tb 0] w (DPost w (.bool (doneO (ts,bad)))):=by
 have h0:=Hp.ro1 (rBlk tb 287 [.slice A ts.length c,.bool bad]) hb
 refine mE 16 ?_
 by_cases b3:bad=true
 ·
  refine mr h0 0 ?_
  refine mX 7 (Value.bool false) (Value.bool (!bad)) (congrArg Value.bool (by simp [b3])) ?_
  exact mQe (Value.bool false) h0 (by simp [doneO,b3] )
 refine mr h0 0 ?_
 refine mX 7 (Value.bool true) (Value.bool (!bad)) (congrArg Value.bool (by simp [b3])) ?_
 refine mr h0 0 ?_
 refine mX 14 (Value.bool (decide (ts.length=0))) (Value.bool ((ts.length:Int) == 0)) (congrArg Value.bool (len_eq0 _)) ?_
 exact mQe (Value.bool (decide (ts.length=0))) h0 (by simp [doneO,b3] )
end
section
open Go.RowKit Go.QT
/-- What stands in boxes. -/
inductive Thing
 | ticket (s:ByteArray) (b:Bytes)
 | inside (f:Int) (K:Fin 16->UInt8) (s:ByteArray) (a u r:Int)
 | reply (f:Int) (K:Fin 16->UInt8) (n:Int) (s:ByteArray) (a u r:Int)
 | authent (s:ByteArray) (t q:Int) (K:Fin 16->UInt8) (b:Bytes)
 | stamp (t q:Int)
 | fact (n:Int) (s:ByteArray) (f:Bool) (t:Int)
 | plain (b:Bytes)
/-- Its cells. -/
def ThR(G:Nat->Prop)(w:World)(u:Value):Thing->Prop
 | .ticket s b=>∃ A c,u=.iface 39 (.agg #[.string s,.slice A b.length c])/\(rSG G (.slice A b.length c) b).Φ w
 | .inside f K s a e r=>u=.iface 187 (.agg ([Value.int .i64 f]++vb (kl K)++[Value.string s,.int .i64 a,.int .i64 e,.int .i64 r]).toArray)
 | .reply f K n s a e r=>u=.iface 211 (.agg ([Value.int .i64 f]++vb (kl K)++[Value.int .i64 n,.string s,.int .i64 a,.int .i64 e,.int .i64 r]).toArray)
 | .authent s t q K b=>∃ A c,u=.iface 71 (.agg ([Value.string s,.int .i64 t,.int .i64 q]++vb (kl K)++[Value.slice A b.length c]).toArray)/\(rSG G (.slice A b.length c) b).Φ w
 | .stamp t q=>u=.iface 104 (.agg #[.int .i64 t,.int .i64 q])
 | .fact n s f t=>u=.iface 49 (.agg #[.int .i64 n,.string s,.bool f,.int .i64 t])
 | .plain b=>∃ A c,u=.iface 276 (.agg #[.slice A b.length c])/\(rSG G (.slice A b.length c) b).Φ w
def ofTicket(T:TkSt):Thing × TkSt:=(.ticket (nameO T) (bytesO (nameT T)),bytesT (nameT T))
def ofInside(T:TkSt):Thing × TkSt:=
 (.inside (numO T) (keyO (numT T)) (nameO (keyT (numT T))) (numO (nameT (keyT (numT T)))) (numO (numT (nameT (keyT (numT T))))) (numO (numT (numT (nameT (keyT (numT T)))))),numT (numT (numT (nameT (keyT (numT T))))))
def ofReply(T:TkSt):Thing × TkSt:=
 (.reply (numO T) (keyO (numT T)) (numO (keyT (numT T))) (nameO (numT (keyT (numT T)))) (numO (nameT (numT (keyT (numT T))))) (numO (numT (nameT (numT (keyT (numT T)))))) (numO (numT (numT (nameT (numT (keyT (numT T))))))),numT (numT (numT (nameT (numT (keyT (numT T)))))))
def ofAuthent(T:TkSt):Thing × TkSt:=
 (.authent (nameO T) (numO (nameT T)) (numO (numT (nameT T))) (keyO (numT (numT (nameT T)))) (bytesO (keyT (numT (numT (nameT T))))),bytesT (keyT (numT (numT (nameT T)))))
def ofStamp(T:TkSt):Thing × TkSt:=(.stamp (numO T) (numO (numT T)),numT (numT T))
def ofFact(T:TkSt):Thing × TkSt:=(.fact (numO T) (nameO (numT T)) (truthO (nameT (numT T))) (numO (truthT (nameT (numT T)))),numT (truthT (nameT (numT T))))
def ofPlain(T:TkSt):Thing × TkSt:=(.plain (bytesO T),bytesT T)
/-- What a list of a tag would be, and what is left then. -/
def ofTag(t:Nat)(T:TkSt):Option (Thing × TkSt):=
 match t with
 | 1=>some (ofTicket T)
 | 2=>some (ofInside T)
 | 3=>some (ofReply T)
 | 4=>some (ofAuthent T)
 | 5=>some (ofStamp T)
 | 6=>some (ofFact T)
 | 7=>some (ofPlain T)
 | _=>none
def ofEnd(k:Nat)(r:Option (Thing × TkSt)):Option Thing:=
 match r with
 | some (t,T)=>if k=2/\doneO T=true then some t else none
 | none=>none
def ofF(v:DVal):Option Thing:=ofEnd v.kind (ofTag v.tag (v.l,false))
def OfPost(w:World)(G:Nat->Prop)(r:Option Thing)(e:Ending)(w':World):Prop:=
 Below w.heap.size w w'/\match r with
 | some t=>∃ u,e=.returned (.tuple #[u,.bool true])/\ThR G w' u t
 | none=>e=.returned (.tuple #[.nilIface,.bool false])
section
variable{o:Oper}{a:Act}{F0:Nat->Prop}{w0 w w':World}{ro rs:List Res}{tb:Nat}{G:Nat->Prop}{A:Option Addr}{c:Nat}{T:TkSt}
theorem Hp.offTk(h:Hp F0 w0 w ro rs)(i k:Nat){cs:List Value}(hi:rs[i]?=some (rBlk tb 287 cs)){ts:List DVal}(hk:ro[k]?=some (rLst G A c ts)):¬ G tb:=fun hg=>h.rdis k i _ _ hk hi tb hg rfl
theorem x_tkT(h:Hp F0 w0 w ro rs)(i:Nat)(hi:rs[i]?=some (rBlk tb 287 [.slice A T.1.length c,.bool T.2]))(k:Nat)(hk:ro[k]?=some (rLst G A c T.1)){T1:TkSt}{u:Value}(fn:FuncId)(al:List Value)(hp:pureVal Tryz.prog (execOp a.eval o)=some (.enter fn al.toArray))
   (hc:Calls Tryz.prog fn al.toArray w (TkPost w tb G T1 u)) :
   OpTo Tryz.prog o a w (fun u' w'=>∃ A c T',T'=T1/\u'=u/\Hp F0 w0 w' (rLst G A c T'.1::ro) (rs.set i (rBlk tb 287 [.slice A T'.1.length c,.bool T'.2]))):=by
 have:=x_tk h i hi k hk fn al hp hc
 refine ⟨fun next Q hh=>this.goes next Q fun v w' ⟨A,c,ts,b,h1,h2,h3,h4⟩=>hh v w' ⟨A,c,(ts,b),by rw [h1,h2],h3,h4⟩⟩
theorem x_bkT(h:Hp F0 w0 w ro rs)(i:Nat)(hi:rs[i]?=some (rBlk tb 287 [.slice A T.1.length c,.bool T.2]))(k:Nat)(hk:ro[k]?=some (rLst G A c T.1)){T1:TkSt}{l:Bytes}(fn:FuncId)(al:List Value)(hp:pureVal Tryz.prog (execOp a.eval o)=some (.enter fn al.toArray))
   (hc:Calls Tryz.prog fn al.toArray w (BkPost w tb G T1 l)) :
   OpTo Tryz.prog o a w (fun u' w'=>∃ A c T' B d,T'=T1/\u'=.slice B l.length d/\Hp F0 w0 w' (rLst G A c T'.1::rSG G (.slice B l.length d) l::ro) (rs.set i (rBlk tb 287 [.slice A T'.1.length c,.bool T'.2]))):=by
 have:=x_bk h i hi k hk fn al hp hc
 refine ⟨fun next Q hh=>this.goes next Q fun v w' ⟨A,c,ts,b,B,d,h1,h2,h3,h4⟩=>hh v w' ⟨A,c,(ts,b),B,d,by rw [h1,h2],h3,h4⟩⟩
def TakePost(w:World)(A:Option Addr)(n c:Nat)(e:Ending)(w':World):Prop:=∃ tb,e=.returned (pt tb 0)/\Hp (fun _=>False) w w' [] [rBlk tb 287 [.slice A n c,.bool false]]
theorem x_take{n:Nat}(h:Hp F0 w0 w ro rs)(al:List Value)(hp:pureVal Tryz.prog (execOp a.eval o)=some (.enter 105 al.toArray))(hc:Calls Tryz.prog 105 al.toArray w (TakePost w A n c)) :
   OpTo Tryz.prog o a w (fun u w'=>∃ tb,u=pt tb 0/\Hp F0 w0 w' ro (rBlk tb 287 [.slice A n c,.bool false]::rs)):=
 OpTo.enter 105 al hp hc fun _ _ ⟨tb,he,hh⟩=>⟨_,he,tb,rfl,h.call0 hh⟩
end
end
section
open Go.Value renaming int->iV,slice->lV,string->sV,bool->bV,agg->aV
open Go.RowKit Go.QT
theorem take_any(k t n:Nat)(B A:Option Addr)(m d p c:Nat)(w:World):Calls Tryz.prog 105 #[.agg #[.int .i64 (k:Int),.int .i64 (t:Int),.int .u64 (n:Int),.slice B m d,.slice A p c]] w (TakePost w A p c):=by
 have h0:=Hp.nil (fun _=>False) w
 refine mE 7 ?_
 refine mN h0 196 ([(zD ((k:Int))),(zD ((t:Int))),(iV .u64 ((n:Int))),(lV B m d),(lV A p c)]) fun g2 w2 h2=>?_
 refine ma h2 0 ?_
 refine mN h2 287 ([(lV A p c),zV]) fun g4 w4 h4=>?_
 refine mP (pt g4 0) ?_
 exact ⟨_,rfl,h4.sel [0] [] rfl rfl rfl⟩
theorem tag_eq{n k:Nat}(h:n=k):bV ((n:Int) == (k:Int))=bV true:=by subst h;simp
theorem tag_ne{n k j:Nat}(h:n=k)(hj:k≠j):bV ((n:Int) == (j:Int))=bV false:=by
 subst h;congr 1;rw [beq_eq_false_iff_ne];omega
theorem tag_none{n j:Nat}(h:n=0∨7<n)(h1:1<=j)(h2:j<=7):bV ((n:Int) == (j:Int))=bV false:=by
 congr 1;rw [beq_eq_false_iff_ne];omega
theorem of_no{v:DVal}{t:Thing}{T:TkSt}(h:ofTag v.tag (v.l,false)=some (t,T))(hn:¬ (v.kind=2/\doneO T=true)):ofF v=none:=by
 unfold ofF;rw [h];exact if_neg hn
theorem of_yes{v:DVal}{t:Thing}{T:TkSt}(h:ofTag v.tag (v.l,false)=some (t,T))(hk:v.kind=2)(hd:doneO T=true):ofF v=some t:=by
 unfold ofF;rw [h];exact if_pos ⟨hk,hd⟩
theorem ofpost_no{w w':World}{G:Nat->Prop}{r:Option Thing}(hr:r=none)(hb:Below w.heap.size w w'):OfPost w G r (.returned (.tuple #[.nilIface,.bool false])) w':=by
 subst hr;exact ⟨hb,rfl⟩
theorem ofpost_yes{w w':World}{G:Nat->Prop}{r:Option Thing}{t:Thing}{u:Value}(hr:r=some t)(hu:ThR G w' u t)(hb:Below w.heap.size w w'):OfPost w G r (.returned (.tuple #[u,.bool true])) w':=by
 subst hr;exact ⟨hb,u,rfl,hu⟩
theorem ofTag_none{t:Nat}(h:t=0∨7<t)(T:TkSt):ofTag t T=none:=by
 unfold ofTag
 split <;> first|omega|rfl
theorem of_cases(k:Nat)(b:Bool):k≠2∨(k=2/\b=false)∨(k=2/\b=true):=by
 cases b <;> simp <;> omega
theorem of_stamp{G:Nat->Prop}{B A:Option Addr}{d c:Nat}{v:DVal}{w:World}(hsm:Sm v.l)(hL:(rLst G A c v.l).Φ w)(ht:v.tag=5):Calls Tryz.prog 90 #[.agg #[.int .i64 (v.kind:Int),.int .i64 (v.tag:Int),.int .u64 (v.n:Int),.slice B v.b.length d,.slice A v.l.length c]] w (OfPost w G (ofF v)):=by
 have h0:=Hp.ro1 (rLst G A c v.l) hL
 refine mE 105 ?_
 refine mN h0 196 ([(zD ((v.kind:Int))),(zD ((v.tag:Int))),(iV .u64 ((v.n:Int))),(lV B v.b.length d),(lV A v.l.length c)]) fun g2 w2 h2=>?_
 refine ma h2 0 ?_
 refine mT (x_take h2 [(aV ([(zD ((v.kind:Int))),(zD ((v.tag:Int))),(iV .u64 ((v.n:Int))),(lV B v.b.length d),(lV A v.l.length c)]).toArray)] (by kernel_rfl) (take_any v.kind v.tag v.n B A v.b.length d v.l.length c _)) ?_
 rintro _ w4 ⟨tb,rfl,h4⟩
 obtain ⟨T0,hT0⟩:∃ T,T=((v.l,false):TkSt):=⟨_,rfl⟩
 have e1:v.l=T0.1:=by rw [hT0]
 have e2:false=T0.2:=by rw [hT0]
 have hsm0:Sm T0.1:=by rw [← e1];exact hsm
 have h5:=h4.below (Below.refl _ _)
 rw [e1,e2] at h5
 refine ma h5 1 ?_
 refine mX 11 zV (bV (((v.tag:Int)) == 1)) (tag_ne ht (by decide)) ?_
 refine mX 19 zV (bV (((v.tag:Int)) == 2)) (tag_ne ht (by decide)) ?_
 refine mX 35 zV (bV (((v.tag:Int)) == 3)) (tag_ne ht (by decide)) ?_
 refine mX 53 zV (bV (((v.tag:Int)) == 4)) (tag_ne ht (by decide)) ?_
 refine mX 67 zI (bV (((v.tag:Int)) == 5)) (tag_eq ht) ?_
 refine mT (x_tkT h5 0 rfl 0 rfl (T:=T0) (T1:=numT T0) (u:=.int .i64 (numO T0)) 107 [(pt tb 0)] (by kernel_rfl) (tkNum_any (h5.rd 0 rfl) (h5.at_ 0 rfl) (h5.offTk 0 0 rfl rfl))) ?_
 rintro _ w14 ⟨A14,c14,T14,hT14,rfl,h14⟩
 have hsm14:Sm T14.1:=by rw [hT14];exact Sm.nxT (T:=T0) hsm0 0
 refine mT (x_tkT h14 0 rfl 0 rfl (T:=T14) (T1:=numT T14) (u:=.int .i64 (numO T14)) 107 [(pt tb 0)] (by kernel_rfl) (tkNum_any (h14.rd 0 rfl) (h14.at_ 0 rfl) (h14.offTk 0 0 rfl rfl))) ?_
 rintro _ w15 ⟨A15,c15,T15,hT15,rfl,h15⟩
 have hsm15:Sm T15.1:=by rw [hT15];exact Sm.nxT (T:=T14) hsm14 0
 obtain hk|⟨hk,hdn⟩|⟨hk,hdn⟩:v.kind≠2∨(v.kind=2/\doneO T15=false)∨(v.kind=2/\doneO T15=true):=of_cases _ _
 ·
  refine ma h15 1 ?_
  refine mX 94 zI (bV (((v.kind:Int)) != 2)) (ine (b:=2) hk) ?_
  refine mP (Value.tuple #[Value.nilIface,zV]) ?_
  exact ofpost_no (of_no (by rw [ht];subst hT0 hT14 hT15;rfl:ofTag v.tag (v.l,false)=some (Thing.stamp (numO T0) (numO T14),T15)) (by rintro ⟨h1,h2⟩;first|exact hk h1|(rw [hdn] at h2;cases h2))) h15.below0
 ·
  refine ma h15 1 ?_
  refine mX 94 zV (bV (((v.kind:Int)) != 2)) (ieq (b:=2) hk) ?_
  refine mW 97 (v:=zV) (pureOp_run (by kernel_rfl) _) ?_
  refine mD h15 [(pt tb 0)] (tkDone_any (bad:=T15.2) (ts:=T15.1) (h15.at_ 0 rfl)) (fun w20 h20=>?_)
  refine mX 102 zI (bV (!(doneO T15))) (congrArg bV (by rw [hdn];rfl)) ?_
  refine mP (Value.tuple #[Value.nilIface,zV]) ?_
  exact ofpost_no (of_no (by rw [ht];subst hT0 hT14 hT15;rfl:ofTag v.tag (v.l,false)=some (Thing.stamp (numO T0) (numO T14),T15)) (by rintro ⟨h1,h2⟩;first|exact hk h1|(rw [hdn] at h2;cases h2))) h20.below0
 refine ma h15 1 ?_
 refine mX 94 zV (bV (((v.kind:Int)) != 2)) (ieq (b:=2) hk) ?_
 refine mW 97 (v:=zV) (pureOp_run (by kernel_rfl) _) ?_
 refine mD h15 [(pt tb 0)] (tkDone_any (bad:=T15.2) (ts:=T15.1) (h15.at_ 0 rfl)) (fun w22 h22=>?_)
 refine mX 102 zV (bV (!(doneO T15))) (congrArg bV (by rw [hdn];rfl)) ?_
 refine mP (Value.tuple #[(Value.iface 104 (aV ([(zD (numO T0)),(zD (numO T14))]).toArray)),zI]) ?_
 exact ofpost_yes (of_yes (by rw [ht];subst hT0 hT14 hT15;rfl:ofTag v.tag (v.l,false)=some (Thing.stamp (numO T0) (numO T14),T15)) hk hdn) (show ThR G _ _ (Thing.stamp (numO T0) (numO T14)) from rfl) h22.below0
theorem of_ticket{G:Nat->Prop}{B A:Option Addr}{d c:Nat}{v:DVal}{w:World}(hsm:Sm v.l)(hL:(rLst G A c v.l).Φ w)(ht:v.tag=1):Calls Tryz.prog 90 #[.agg #[.int .i64 (v.kind:Int),.int .i64 (v.tag:Int),.int .u64 (v.n:Int),.slice B v.b.length d,.slice A v.l.length c]] w (OfPost w G (ofF v)):=by
 have h0:=Hp.ro1 (rLst G A c v.l) hL
 refine mE 105 ?_
 refine mN h0 196 ([(zD ((v.kind:Int))),(zD ((v.tag:Int))),(iV .u64 ((v.n:Int))),(lV B v.b.length d),(lV A v.l.length c)]) fun g2 w2 h2=>?_
 refine ma h2 0 ?_
 refine mT (x_take h2 [(aV ([(zD ((v.kind:Int))),(zD ((v.tag:Int))),(iV .u64 ((v.n:Int))),(lV B v.b.length d),(lV A v.l.length c)]).toArray)] (by kernel_rfl) (take_any v.kind v.tag v.n B A v.b.length d v.l.length c _)) ?_
 rintro _ w4 ⟨tb,rfl,h4⟩
 obtain ⟨T0,hT0⟩:∃ T,T=((v.l,false):TkSt):=⟨_,rfl⟩
 have e1:v.l=T0.1:=by rw [hT0]
 have e2:false=T0.2:=by rw [hT0]
 have hsm0:Sm T0.1:=by rw [← e1];exact hsm
 have h5:=h4.below (Below.refl _ _)
 rw [e1,e2] at h5
 refine ma h5 1 ?_
 refine mX 11 zI (bV (((v.tag:Int)) == 1)) (tag_eq ht) ?_
 refine mT (x_tkT h5 0 rfl 0 rfl (T:=T0) (T1:=nameT T0) (u:=.string (nameO T0)) 106 [(pt tb 0)] (by kernel_rfl) (tkName_any (h5.rd 0 rfl) (h5.at_ 0 rfl) (h5.offTk 0 0 rfl rfl) hsm0)) ?_
 rintro _ w10 ⟨A10,c10,T10,hT10,rfl,h10⟩
 have hsm10:Sm T10.1:=by rw [hT10];exact Sm.nxT (T:=T0) hsm0 1
 refine mT (x_bkT h10 0 rfl 0 rfl (T:=T10) (T1:=bytesT T10) (l:=bytesO T10) 108 [(pt tb 0)] (by kernel_rfl) (tkBytes_any (h10.rd 0 rfl) (h10.at_ 0 rfl) (h10.offTk 0 0 rfl rfl))) ?_
 rintro _ w11 ⟨A11,c11,T11,B11,d11,hT11,rfl,h11⟩
 have hsm11:Sm T11.1:=by rw [hT11];exact Sm.nxT (T:=T10) hsm10 1
 obtain hk|⟨hk,hdn⟩|⟨hk,hdn⟩:v.kind≠2∨(v.kind=2/\doneO T11=false)∨(v.kind=2/\doneO T11=true):=of_cases _ _
 ·
  refine ma h11 1 ?_
  refine mX 94 zI (bV (((v.kind:Int)) != 2)) (ine (b:=2) hk) ?_
  refine mP (Value.tuple #[Value.nilIface,zV]) ?_
  exact ofpost_no (of_no (by rw [ht];subst hT0 hT10 hT11;rfl:ofTag v.tag (v.l,false)=some (Thing.ticket (nameO T0) (bytesO T10),T11)) (by rintro ⟨h1,h2⟩;first|exact hk h1|(rw [hdn] at h2;cases h2))) h11.below0
 ·
  refine ma h11 1 ?_
  refine mX 94 zV (bV (((v.kind:Int)) != 2)) (ieq (b:=2) hk) ?_
  refine mW 97 (v:=zV) (pureOp_run (by kernel_rfl) _) ?_
  refine mD h11 [(pt tb 0)] (tkDone_any (bad:=T11.2) (ts:=T11.1) (h11.at_ 0 rfl)) (fun w16 h16=>?_)
  refine mX 102 zI (bV (!(doneO T11))) (congrArg bV (by rw [hdn];rfl)) ?_
  refine mP (Value.tuple #[Value.nilIface,zV]) ?_
  exact ofpost_no (of_no (by rw [ht];subst hT0 hT10 hT11;rfl:ofTag v.tag (v.l,false)=some (Thing.ticket (nameO T0) (bytesO T10),T11)) (by rintro ⟨h1,h2⟩;first|exact hk h1|(rw [hdn] at h2;cases h2))) h16.below0
 refine ma h11 1 ?_
 refine mX 94 zV (bV (((v.kind:Int)) != 2)) (ieq (b:=2) hk) ?_
 refine mW 97 (v:=zV) (pureOp_run (by kernel_rfl) _) ?_
 refine mD h11 [(pt tb 0)] (tkDone_any (bad:=T11.2) (ts:=T11.1) (h11.at_ 0 rfl)) (fun w18 h18=>?_)
 refine mX 102 zV (bV (!(doneO T11))) (congrArg bV (by rw [hdn];rfl)) ?_
 refine mP (Value.tuple #[(Value.iface 39 (aV ([(sV (nameO T0)),(lV B11 ((bytesO T10).length) d11)]).toArray)),zI]) ?_
 exact ofpost_yes (of_yes (by rw [ht];subst hT0 hT10 hT11;rfl:ofTag v.tag (v.l,false)=some (Thing.ticket (nameO T0) (bytesO T10),T11)) hk hdn) (show ThR G _ _ (Thing.ticket (nameO T0) (bytesO T10)) from ⟨_,_,rfl,h18.rd 1 rfl⟩) h18.below0
theorem of_inside{G:Nat->Prop}{B A:Option Addr}{d c:Nat}{v:DVal}{w:World}(hsm:Sm v.l)(hL:(rLst G A c v.l).Φ w)(ht:v.tag=2):Calls Tryz.prog 90 #[.agg #[.int .i64 (v.kind:Int),.int .i64 (v.tag:Int),.int .u64 (v.n:Int),.slice B v.b.length d,.slice A v.l.length c]] w (OfPost w G (ofF v)):=by
 have h0:=Hp.ro1 (rLst G A c v.l) hL
 refine mE 105 ?_
 refine mN h0 196 ([(zD ((v.kind:Int))),(zD ((v.tag:Int))),(iV .u64 ((v.n:Int))),(lV B v.b.length d),(lV A v.l.length c)]) fun g2 w2 h2=>?_
 refine ma h2 0 ?_
 refine mT (x_take h2 [(aV ([(zD ((v.kind:Int))),(zD ((v.tag:Int))),(iV .u64 ((v.n:Int))),(lV B v.b.length d),(lV A v.l.length c)]).toArray)] (by kernel_rfl) (take_any v.kind v.tag v.n B A v.b.length d v.l.length c _)) ?_
 rintro _ w4 ⟨tb,rfl,h4⟩
 obtain ⟨T0,hT0⟩:∃ T,T=((v.l,false):TkSt):=⟨_,rfl⟩
 have e1:v.l=T0.1:=by rw [hT0]
 have e2:false=T0.2:=by rw [hT0]
 have hsm0:Sm T0.1:=by rw [← e1];exact hsm
 have h5:=h4.below (Below.refl _ _)
 rw [e1,e2] at h5
 refine ma h5 1 ?_
 refine mX 11 zV (bV (((v.tag:Int)) == 1)) (tag_ne ht (by decide)) ?_
 refine mX 19 zI (bV (((v.tag:Int)) == 2)) (tag_eq ht) ?_
 refine mT (x_tkT h5 0 rfl 0 rfl (T:=T0) (T1:=numT T0) (u:=.int .i64 (numO T0)) 107 [(pt tb 0)] (by kernel_rfl) (tkNum_any (h5.rd 0 rfl) (h5.at_ 0 rfl) (h5.offTk 0 0 rfl rfl))) ?_
 rintro _ w11 ⟨A11,c11,T11,hT11,rfl,h11⟩
 have hsm11:Sm T11.1:=by rw [hT11];exact Sm.nxT (T:=T0) hsm0 0
 refine mT (x_tkT h11 0 rfl 0 rfl (T:=T11) (T1:=keyT T11) (u:=.agg (vb (kl (keyO T11))).toArray) 118 [(pt tb 0)] (by kernel_rfl) (tkKey_any (h11.rd 0 rfl) (h11.at_ 0 rfl) (h11.offTk 0 0 rfl rfl))) ?_
 rintro _ w12 ⟨A12,c12,T12,hT12,rfl,h12⟩
 have hsm12:Sm T12.1:=by rw [hT12];exact Sm.nxT (T:=T11) hsm11 1
 refine mT (x_tkT h12 0 rfl 0 rfl (T:=T12) (T1:=nameT T12) (u:=.string (nameO T12)) 106 [(pt tb 0)] (by kernel_rfl) (tkName_any (h12.rd 0 rfl) (h12.at_ 0 rfl) (h12.offTk 0 0 rfl rfl) hsm12)) ?_
 rintro _ w13 ⟨A13,c13,T13,hT13,rfl,h13⟩
 have hsm13:Sm T13.1:=by rw [hT13];exact Sm.nxT (T:=T12) hsm12 1
 refine mT (x_tkT h13 0 rfl 0 rfl (T:=T13) (T1:=numT T13) (u:=.int .i64 (numO T13)) 107 [(pt tb 0)] (by kernel_rfl) (tkNum_any (h13.rd 0 rfl) (h13.at_ 0 rfl) (h13.offTk 0 0 rfl rfl))) ?_
 rintro _ w14 ⟨A14,c14,T14,hT14,rfl,h14⟩
 have hsm14:Sm T14.1:=by rw [hT14];exact Sm.nxT (T:=T13) hsm13 0
 refine mT (x_tkT h14 0 rfl 0 rfl (T:=T14) (T1:=numT T14) (u:=.int .i64 (numO T14)) 107 [(pt tb 0)] (by kernel_rfl) (tkNum_any (h14.rd 0 rfl) (h14.at_ 0 rfl) (h14.offTk 0 0 rfl rfl))) ?_
 rintro _ w15 ⟨A15,c15,T15,hT15,rfl,h15⟩
 have hsm15:Sm T15.1:=by rw [hT15];exact Sm.nxT (T:=T14) hsm14 0
 refine mT (x_tkT h15 0 rfl 0 rfl (T:=T15) (T1:=numT T15) (u:=.int .i64 (numO T15)) 107 [(pt tb 0)] (by kernel_rfl) (tkNum_any (h15.rd 0 rfl) (h15.at_ 0 rfl) (h15.offTk 0 0 rfl rfl))) ?_
 rintro _ w16 ⟨A16,c16,T16,hT16,rfl,h16⟩
 have hsm16:Sm T16.1:=by rw [hT16];exact Sm.nxT (T:=T15) hsm15 0
 obtain hk|⟨hk,hdn⟩|⟨hk,hdn⟩:v.kind≠2∨(v.kind=2/\doneO T16=false)∨(v.kind=2/\doneO T16=true):=of_cases _ _
 ·
  refine ma h16 1 ?_
  refine mX 94 zI (bV (((v.kind:Int)) != 2)) (ine (b:=2) hk) ?_
  refine mP (Value.tuple #[Value.nilIface,zV]) ?_
  exact ofpost_no (of_no (by rw [ht];subst hT0 hT11 hT12 hT13 hT14 hT15 hT16;rfl:ofTag v.tag (v.l,false)=some (Thing.inside (numO T0) (keyO T11) (nameO T12) (numO T13) (numO T14) (numO T15),T16)) (by rintro ⟨h1,h2⟩;first|exact hk h1|(rw [hdn] at h2;cases h2))) h16.below0
 ·
  refine ma h16 1 ?_
  refine mX 94 zV (bV (((v.kind:Int)) != 2)) (ieq (b:=2) hk) ?_
  refine mW 97 (v:=zV) (pureOp_run (by kernel_rfl) _) ?_
  refine mD h16 [(pt tb 0)] (tkDone_any (bad:=T16.2) (ts:=T16.1) (h16.at_ 0 rfl)) (fun w21 h21=>?_)
  refine mX 102 zI (bV (!(doneO T16))) (congrArg bV (by rw [hdn];rfl)) ?_
  refine mP (Value.tuple #[Value.nilIface,zV]) ?_
  exact ofpost_no (of_no (by rw [ht];subst hT0 hT11 hT12 hT13 hT14 hT15 hT16;rfl:ofTag v.tag (v.l,false)=some (Thing.inside (numO T0) (keyO T11) (nameO T12) (numO T13) (numO T14) (numO T15),T16)) (by rintro ⟨h1,h2⟩;first|exact hk h1|(rw [hdn] at h2;cases h2))) h21.below0
 refine ma h16 1 ?_
 refine mX 94 zV (bV (((v.kind:Int)) != 2)) (ieq (b:=2) hk) ?_
 refine mW 97 (v:=zV) (pureOp_run (by kernel_rfl) _) ?_
 refine mD h16 [(pt tb 0)] (tkDone_any (bad:=T16.2) (ts:=T16.1) (h16.at_ 0 rfl)) (fun w23 h23=>?_)
 refine mX 102 zV (bV (!(doneO T16))) (congrArg bV (by rw [hdn];rfl)) ?_
 refine mP (Value.tuple #[(Value.iface 187 (aV ([(zD (numO T0))]++vb (kl (keyO T11))++[(sV (nameO T12)),(zD (numO T13)),(zD (numO T14)),(zD (numO T15))]).toArray)),zI]) ?_
 exact ofpost_yes (of_yes (by rw [ht];subst hT0 hT11 hT12 hT13 hT14 hT15 hT16;rfl:ofTag v.tag (v.l,false)=some (Thing.inside (numO T0) (keyO T11) (nameO T12) (numO T13) (numO T14) (numO T15),T16)) hk hdn) (show ThR G _ _ (Thing.inside (numO T0) (keyO T11) (nameO T12) (numO T13) (numO T14) (numO T15)) from rfl) h23.below0
theorem of_reply{G:Nat->Prop}{B A:Option Addr}{d c:Nat}{v:DVal}{w:World}(hsm:Sm v.l)(hL:(rLst G A c v.l).Φ w)(ht:v.tag=3):Calls Tryz.prog 90 #[.agg #[.int .i64 (v.kind:Int),.int .i64 (v.tag:Int),.int .u64 (v.n:Int),.slice B v.b.length d,.slice A v.l.length c]] w (OfPost w G (ofF v)):=by
 have h0:=Hp.ro1 (rLst G A c v.l) hL
 refine mE 105 ?_
 refine mN h0 196 ([(zD ((v.kind:Int))),(zD ((v.tag:Int))),(iV .u64 ((v.n:Int))),(lV B v.b.length d),(lV A v.l.length c)]) fun g2 w2 h2=>?_
 refine ma h2 0 ?_
 refine mT (x_take h2 [(aV ([(zD ((v.kind:Int))),(zD ((v.tag:Int))),(iV .u64 ((v.n:Int))),(lV B v.b.length d),(lV A v.l.length c)]).toArray)] (by kernel_rfl) (take_any v.kind v.tag v.n B A v.b.length d v.l.length c _)) ?_
 rintro _ w4 ⟨tb,rfl,h4⟩
 obtain ⟨T0,hT0⟩:∃ T,T=((v.l,false):TkSt):=⟨_,rfl⟩
 have e1:v.l=T0.1:=by rw [hT0]
 have e2:false=T0.2:=by rw [hT0]
 have hsm0:Sm T0.1:=by rw [← e1];exact hsm
 have h5:=h4.below (Below.refl _ _)
 rw [e1,e2] at h5
 refine ma h5 1 ?_
 refine mX 11 zV (bV (((v.tag:Int)) == 1)) (tag_ne ht (by decide)) ?_
 refine mX 19 zV (bV (((v.tag:Int)) == 2)) (tag_ne ht (by decide)) ?_
 refine mX 35 zI (bV (((v.tag:Int)) == 3)) (tag_eq ht) ?_
 refine mT (x_tkT h5 0 rfl 0 rfl (T:=T0) (T1:=numT T0) (u:=.int .i64 (numO T0)) 107 [(pt tb 0)] (by kernel_rfl) (tkNum_any (h5.rd 0 rfl) (h5.at_ 0 rfl) (h5.offTk 0 0 rfl rfl))) ?_
 rintro _ w12 ⟨A12,c12,T12,hT12,rfl,h12⟩
 have hsm12:Sm T12.1:=by rw [hT12];exact Sm.nxT (T:=T0) hsm0 0
 refine mT (x_tkT h12 0 rfl 0 rfl (T:=T12) (T1:=keyT T12) (u:=.agg (vb (kl (keyO T12))).toArray) 118 [(pt tb 0)] (by kernel_rfl) (tkKey_any (h12.rd 0 rfl) (h12.at_ 0 rfl) (h12.offTk 0 0 rfl rfl))) ?_
 rintro _ w13 ⟨A13,c13,T13,hT13,rfl,h13⟩
 have hsm13:Sm T13.1:=by rw [hT13];exact Sm.nxT (T:=T12) hsm12 1
 refine mT (x_tkT h13 0 rfl 0 rfl (T:=T13) (T1:=numT T13) (u:=.int .i64 (numO T13)) 107 [(pt tb 0)] (by kernel_rfl) (tkNum_any (h13.rd 0 rfl) (h13.at_ 0 rfl) (h13.offTk 0 0 rfl rfl))) ?_
 rintro _ w14 ⟨A14,c14,T14,hT14,rfl,h14⟩
 have hsm14:Sm T14.1:=by rw [hT14];exact Sm.nxT (T:=T13) hsm13 0
 refine mT (x_tkT h14 0 rfl 0 rfl (T:=T14) (T1:=nameT T14) (u:=.string (nameO T14)) 106 [(pt tb 0)] (by kernel_rfl) (tkName_any (h14.rd 0 rfl) (h14.at_ 0 rfl) (h14.offTk 0 0 rfl rfl) hsm14)) ?_
 rintro _ w15 ⟨A15,c15,T15,hT15,rfl,h15⟩
 have hsm15:Sm T15.1:=by rw [hT15];exact Sm.nxT (T:=T14) hsm14 1
 refine mT (x_tkT h15 0 rfl 0 rfl (T:=T15) (T1:=numT T15) (u:=.int .i64 (numO T15)) 107 [(pt tb 0)] (by kernel_rfl) (tkNum_any (h15.rd 0 rfl) (h15.at_ 0 rfl) (h15.offTk 0 0 rfl rfl))) ?_
 rintro _ w16 ⟨A16,c16,T16,hT16,rfl,h16⟩
 have hsm16:Sm T16.1:=by rw [hT16];exact Sm.nxT (T:=T15) hsm15 0
 refine mT (x_tkT h16 0 rfl 0 rfl (T:=T16) (T1:=numT T16) (u:=.int .i64 (numO T16)) 107 [(pt tb 0)] (by kernel_rfl) (tkNum_any (h16.rd 0 rfl) (h16.at_ 0 rfl) (h16.offTk 0 0 rfl rfl))) ?_
 rintro _ w17 ⟨A17,c17,T17,hT17,rfl,h17⟩
 have hsm17:Sm T17.1:=by rw [hT17];exact Sm.nxT (T:=T16) hsm16 0
 refine mT (x_tkT h17 0 rfl 0 rfl (T:=T17) (T1:=numT T17) (u:=.int .i64 (numO T17)) 107 [(pt tb 0)] (by kernel_rfl) (tkNum_any (h17.rd 0 rfl) (h17.at_ 0 rfl) (h17.offTk 0 0 rfl rfl))) ?_
 rintro _ w18 ⟨A18,c18,T18,hT18,rfl,h18⟩
 have hsm18:Sm T18.1:=by rw [hT18];exact Sm.nxT (T:=T17) hsm17 0
 obtain hk|⟨hk,hdn⟩|⟨hk,hdn⟩:v.kind≠2∨(v.kind=2/\doneO T18=false)∨(v.kind=2/\doneO T18=true):=of_cases _ _
 ·
  refine ma h18 1 ?_
  refine mX 94 zI (bV (((v.kind:Int)) != 2)) (ine (b:=2) hk) ?_
  refine mP (Value.tuple #[Value.nilIface,zV]) ?_
  exact ofpost_no (of_no (by rw [ht];subst hT0 hT12 hT13 hT14 hT15 hT16 hT17 hT18;rfl:ofTag v.tag (v.l,false)=some (Thing.reply (numO T0) (keyO T12) (numO T13) (nameO T14) (numO T15) (numO T16) (numO T17),T18)) (by rintro ⟨h1,h2⟩;first|exact hk h1|(rw [hdn] at h2;cases h2))) h18.below0
 ·
  refine ma h18 1 ?_
  refine mX 94 zV (bV (((v.kind:Int)) != 2)) (ieq (b:=2) hk) ?_
  refine mW 97 (v:=zV) (pureOp_run (by kernel_rfl) _) ?_
  refine mD h18 [(pt tb 0)] (tkDone_any (bad:=T18.2) (ts:=T18.1) (h18.at_ 0 rfl)) (fun w23 h23=>?_)
  refine mX 102 zI (bV (!(doneO T18))) (congrArg bV (by rw [hdn];rfl)) ?_
  refine mP (Value.tuple #[Value.nilIface,zV]) ?_
  exact ofpost_no (of_no (by rw [ht];subst hT0 hT12 hT13 hT14 hT15 hT16 hT17 hT18;rfl:ofTag v.tag (v.l,false)=some (Thing.reply (numO T0) (keyO T12) (numO T13) (nameO T14) (numO T15) (numO T16) (numO T17),T18)) (by rintro ⟨h1,h2⟩;first|exact hk h1|(rw [hdn] at h2;cases h2))) h23.below0
 refine ma h18 1 ?_
 refine mX 94 zV (bV (((v.kind:Int)) != 2)) (ieq (b:=2) hk) ?_
 refine mW 97 (v:=zV) (pureOp_run (by kernel_rfl) _) ?_
 refine mD h18 [(pt tb 0)] (tkDone_any (bad:=T18.2) (ts:=T18.1) (h18.at_ 0 rfl)) (fun w25 h25=>?_)
 refine mX 102 zV (bV (!(doneO T18))) (congrArg bV (by rw [hdn];rfl)) ?_
 refine mP (Value.tuple #[(Value.iface 211 (aV ([(zD (numO T0))]++vb (kl (keyO T12))++[(zD (numO T13)),(sV (nameO T14)),(zD (numO T15)),(zD (numO T16)),(zD (numO T17))]).toArray)),zI]) ?_
 exact ofpost_yes (of_yes (by rw [ht];subst hT0 hT12 hT13 hT14 hT15 hT16 hT17 hT18;rfl:ofTag v.tag (v.l,false)=some (Thing.reply (numO T0) (keyO T12) (numO T13) (nameO T14) (numO T15) (numO T16) (numO T17),T18)) hk hdn) (show ThR G _ _ (Thing.reply (numO T0) (keyO T12) (numO T13) (nameO T14) (numO T15) (numO T16) (numO T17)) from rfl) h25.below0
theorem of_authent{G:Nat->Prop}{B A:Option Addr}{d c:Nat}{v:DVal}{w:World}(hsm:Sm v.l)(hL:(rLst G A c v.l).Φ w)(ht:v.tag=4):Calls Tryz.prog 90 #[.agg #[.int .i64 (v.kind:Int),.int .i64 (v.tag:Int),.int .u64 (v.n:Int),.slice B v.b.length d,.slice A v.l.length c]] w (OfPost w G (ofF v)):=by
 have h0:=Hp.ro1 (rLst G A c v.l) hL
 refine mE 105 ?_
 refine mN h0 196 ([(zD ((v.kind:Int))),(zD ((v.tag:Int))),(iV .u64 ((v.n:Int))),(lV B v.b.length d),(lV A v.l.length c)]) fun g2 w2 h2=>?_
 refine ma h2 0 ?_
 refine mT (x_take h2 [(aV ([(zD ((v.kind:Int))),(zD ((v.tag:Int))),(iV .u64 ((v.n:Int))),(lV B v.b.length d),(lV A v.l.length c)]).toArray)] (by kernel_rfl) (take_any v.kind v.tag v.n B A v.b.length d v.l.length c _)) ?_
 rintro _ w4 ⟨tb,rfl,h4⟩
 obtain ⟨T0,hT0⟩:∃ T,T=((v.l,false):TkSt):=⟨_,rfl⟩
 have e1:v.l=T0.1:=by rw [hT0]
 have e2:false=T0.2:=by rw [hT0]
 have hsm0:Sm T0.1:=by rw [← e1];exact hsm
 have h5:=h4.below (Below.refl _ _)
 rw [e1,e2] at h5
 refine ma h5 1 ?_
 refine mX 11 zV (bV (((v.tag:Int)) == 1)) (tag_ne ht (by decide)) ?_
 refine mX 19 zV (bV (((v.tag:Int)) == 2)) (tag_ne ht (by decide)) ?_
 refine mX 35 zV (bV (((v.tag:Int)) == 3)) (tag_ne ht (by decide)) ?_
 refine mX 53 zI (bV (((v.tag:Int)) == 4)) (tag_eq ht) ?_
 refine mT (x_tkT h5 0 rfl 0 rfl (T:=T0) (T1:=nameT T0) (u:=.string (nameO T0)) 106 [(pt tb 0)] (by kernel_rfl) (tkName_any (h5.rd 0 rfl) (h5.at_ 0 rfl) (h5.offTk 0 0 rfl rfl) hsm0)) ?_
 rintro _ w13 ⟨A13,c13,T13,hT13,rfl,h13⟩
 have hsm13:Sm T13.1:=by rw [hT13];exact Sm.nxT (T:=T0) hsm0 1
 refine mT (x_tkT h13 0 rfl 0 rfl (T:=T13) (T1:=numT T13) (u:=.int .i64 (numO T13)) 107 [(pt tb 0)] (by kernel_rfl) (tkNum_any (h13.rd 0 rfl) (h13.at_ 0 rfl) (h13.offTk 0 0 rfl rfl))) ?_
 rintro _ w14 ⟨A14,c14,T14,hT14,rfl,h14⟩
 have hsm14:Sm T14.1:=by rw [hT14];exact Sm.nxT (T:=T13) hsm13 0
 refine mT (x_tkT h14 0 rfl 0 rfl (T:=T14) (T1:=numT T14) (u:=.int .i64 (numO T14)) 107 [(pt tb 0)] (by kernel_rfl) (tkNum_any (h14.rd 0 rfl) (h14.at_ 0 rfl) (h14.offTk 0 0 rfl rfl))) ?_
 rintro _ w15 ⟨A15,c15,T15,hT15,rfl,h15⟩
 have hsm15:Sm T15.1:=by rw [hT15];exact Sm.nxT (T:=T14) hsm14 0
 refine mT (x_tkT h15 0 rfl 0 rfl (T:=T15) (T1:=keyT T15) (u:=.agg (vb (kl (keyO T15))).toArray) 118 [(pt tb 0)] (by kernel_rfl) (tkKey_any (h15.rd 0 rfl) (h15.at_ 0 rfl) (h15.offTk 0 0 rfl rfl))) ?_
 rintro _ w16 ⟨A16,c16,T16,hT16,rfl,h16⟩
 have hsm16:Sm T16.1:=by rw [hT16];exact Sm.nxT (T:=T15) hsm15 1
 refine mT (x_bkT h16 0 rfl 0 rfl (T:=T16) (T1:=bytesT T16) (l:=bytesO T16) 108 [(pt tb 0)] (by kernel_rfl) (tkBytes_any (h16.rd 0 rfl) (h16.at_ 0 rfl) (h16.offTk 0 0 rfl rfl))) ?_
 rintro _ w17 ⟨A17,c17,T17,B17,d17,hT17,rfl,h17⟩
 have hsm17:Sm T17.1:=by rw [hT17];exact Sm.nxT (T:=T16) hsm16 1
 obtain hk|⟨hk,hdn⟩|⟨hk,hdn⟩:v.kind≠2∨(v.kind=2/\doneO T17=false)∨(v.kind=2/\doneO T17=true):=of_cases _ _
 ·
  refine ma h17 1 ?_
  refine mX 94 zI (bV (((v.kind:Int)) != 2)) (ine (b:=2) hk) ?_
  refine mP (Value.tuple #[Value.nilIface,zV]) ?_
  exact ofpost_no (of_no (by rw [ht];subst hT0 hT13 hT14 hT15 hT16 hT17;rfl:ofTag v.tag (v.l,false)=some (Thing.authent (nameO T0) (numO T13) (numO T14) (keyO T15) (bytesO T16),T17)) (by rintro ⟨h1,h2⟩;first|exact hk h1|(rw [hdn] at h2;cases h2))) h17.below0
 ·
  refine ma h17 1 ?_
  refine mX 94 zV (bV (((v.kind:Int)) != 2)) (ieq (b:=2) hk) ?_
  refine mW 97 (v:=zV) (pureOp_run (by kernel_rfl) _) ?_
  refine mD h17 [(pt tb 0)] (tkDone_any (bad:=T17.2) (ts:=T17.1) (h17.at_ 0 rfl)) (fun w22 h22=>?_)
  refine mX 102 zI (bV (!(doneO T17))) (congrArg bV (by rw [hdn];rfl)) ?_
  refine mP (Value.tuple #[Value.nilIface,zV]) ?_
  exact ofpost_no (of_no (by rw [ht];subst hT0 hT13 hT14 hT15 hT16 hT17;rfl:ofTag v.tag (v.l,false)=some (Thing.authent (nameO T0) (numO T13) (numO T14) (keyO T15) (bytesO T16),T17)) (by rintro ⟨h1,h2⟩;first|exact hk h1|(rw [hdn] at h2;cases h2))) h22.below0
 refine ma h17 1 ?_
 refine mX 94 zV (bV (((v.kind:Int)) != 2)) (ieq (b:=2) hk) ?_
 refine mW 97 (v:=zV) (pureOp_run (by kernel_rfl) _) ?_
 refine mD h17 [(pt tb 0)] (tkDone_any (bad:=T17.2) (ts:=T17.1) (h17.at_ 0 rfl)) (fun w24 h24=>?_)
 refine mX 102 zV (bV (!(doneO T17))) (congrArg bV (by rw [hdn];rfl)) ?_
 refine mP (Value.tuple #[(Value.iface 71 (aV ([(sV (nameO T0)),(zD (numO T13)),(zD (numO T14))]++vb (kl (keyO T15))++[(lV B17 ((bytesO T16).length) d17)]).toArray)),zI]) ?_
 exact ofpost_yes (of_yes (by rw [ht];subst hT0 hT13 hT14 hT15 hT16 hT17;rfl:ofTag v.tag (v.l,false)=some (Thing.authent (nameO T0) (numO T13) (numO T14) (keyO T15) (bytesO T16),T17)) hk hdn) (show ThR G _ _ (Thing.authent (nameO T0) (numO T13) (numO T14) (keyO T15) (bytesO T16)) from ⟨_,_,rfl,h24.rd 1 rfl⟩) h24.below0
theorem of_fact{G:Nat->Prop}{B A:Option Addr}{d c:Nat}{v:DVal}{w:World}(hsm:Sm v.l)(hL:(rLst G A c v.l).Φ w)(ht:v.tag=6):Calls Tryz.prog 90 #[.agg #[.int .i64 (v.kind:Int),.int .i64 (v.tag:Int),.int .u64 (v.n:Int),.slice B v.b.length d,.slice A v.l.length c]] w (OfPost w G (ofF v)):=by
 have h0:=Hp.ro1 (rLst G A c v.l) hL
 refine mE 105 ?_
 refine mN h0 196 ([(zD ((v.kind:Int))),(zD ((v.tag:Int))),(iV .u64 ((v.n:Int))),(lV B v.b.length d),(lV A v.l.length c)]) fun g2 w2 h2=>?_
 refine ma h2 0 ?_
 refine mT (x_take h2 [(aV ([(zD ((v.kind:Int))),(zD ((v.tag:Int))),(iV .u64 ((v.n:Int))),(lV B v.b.length d),(lV A v.l.length c)]).toArray)] (by kernel_rfl) (take_any v.kind v.tag v.n B A v.b.length d v.l.length c _)) ?_
 rintro _ w4 ⟨tb,rfl,h4⟩
 obtain ⟨T0,hT0⟩:∃ T,T=((v.l,false):TkSt):=⟨_,rfl⟩
 have e1:v.l=T0.1:=by rw [hT0]
 have e2:false=T0.2:=by rw [hT0]
 have hsm0:Sm T0.1:=by rw [← e1];exact hsm
 have h5:=h4.below (Below.refl _ _)
 rw [e1,e2] at h5
 refine ma h5 1 ?_
 refine mX 11 zV (bV (((v.tag:Int)) == 1)) (tag_ne ht (by decide)) ?_
 refine mX 19 zV (bV (((v.tag:Int)) == 2)) (tag_ne ht (by decide)) ?_
 refine mX 35 zV (bV (((v.tag:Int)) == 3)) (tag_ne ht (by decide)) ?_
 refine mX 53 zV (bV (((v.tag:Int)) == 4)) (tag_ne ht (by decide)) ?_
 refine mX 67 zV (bV (((v.tag:Int)) == 5)) (tag_ne ht (by decide)) ?_
 refine mX 75 zI (bV (((v.tag:Int)) == 6)) (tag_eq ht) ?_
 refine mT (x_tkT h5 0 rfl 0 rfl (T:=T0) (T1:=numT T0) (u:=.int .i64 (numO T0)) 107 [(pt tb 0)] (by kernel_rfl) (tkNum_any (h5.rd 0 rfl) (h5.at_ 0 rfl) (h5.offTk 0 0 rfl rfl))) ?_
 rintro _ w15 ⟨A15,c15,T15,hT15,rfl,h15⟩
 have hsm15:Sm T15.1:=by rw [hT15];exact Sm.nxT (T:=T0) hsm0 0
 refine mT (x_tkT h15 0 rfl 0 rfl (T:=T15) (T1:=nameT T15) (u:=.string (nameO T15)) 106 [(pt tb 0)] (by kernel_rfl) (tkName_any (h15.rd 0 rfl) (h15.at_ 0 rfl) (h15.offTk 0 0 rfl rfl) hsm15)) ?_
 rintro _ w16 ⟨A16,c16,T16,hT16,rfl,h16⟩
 have hsm16:Sm T16.1:=by rw [hT16];exact Sm.nxT (T:=T15) hsm15 1
 refine mT (x_tkT h16 0 rfl 0 rfl (T:=T16) (T1:=truthT T16) (u:=.bool (truthO T16)) 110 [(pt tb 0)] (by kernel_rfl) (tkTruth_any (h16.rd 0 rfl) (h16.at_ 0 rfl) (h16.offTk 0 0 rfl rfl))) ?_
 rintro _ w17 ⟨A17,c17,T17,hT17,rfl,h17⟩
 have hsm17:Sm T17.1:=by rw [hT17];exact Sm.nxT (T:=T16) hsm16 0
 refine mT (x_tkT h17 0 rfl 0 rfl (T:=T17) (T1:=numT T17) (u:=.int .i64 (numO T17)) 107 [(pt tb 0)] (by kernel_rfl) (tkNum_any (h17.rd 0 rfl) (h17.at_ 0 rfl) (h17.offTk 0 0 rfl rfl))) ?_
 rintro _ w18 ⟨A18,c18,T18,hT18,rfl,h18⟩
 have hsm18:Sm T18.1:=by rw [hT18];exact Sm.nxT (T:=T17) hsm17 0
 obtain hk|⟨hk,hdn⟩|⟨hk,hdn⟩:v.kind≠2∨(v.kind=2/\doneO T18=false)∨(v.kind=2/\doneO T18=true):=of_cases _ _
 ·
  refine ma h18 1 ?_
  refine mX 94 zI (bV (((v.kind:Int)) != 2)) (ine (b:=2) hk) ?_
  refine mP (Value.tuple #[Value.nilIface,zV]) ?_
  exact ofpost_no (of_no (by rw [ht];subst hT0 hT15 hT16 hT17 hT18;rfl:ofTag v.tag (v.l,false)=some (Thing.fact (numO T0) (nameO T15) (truthO T16) (numO T17),T18)) (by rintro ⟨h1,h2⟩;first|exact hk h1|(rw [hdn] at h2;cases h2))) h18.below0
 ·
  refine ma h18 1 ?_
  refine mX 94 zV (bV (((v.kind:Int)) != 2)) (ieq (b:=2) hk) ?_
  refine mW 97 (v:=zV) (pureOp_run (by kernel_rfl) _) ?_
  refine mD h18 [(pt tb 0)] (tkDone_any (bad:=T18.2) (ts:=T18.1) (h18.at_ 0 rfl)) (fun w23 h23=>?_)
  refine mX 102 zI (bV (!(doneO T18))) (congrArg bV (by rw [hdn];rfl)) ?_
  refine mP (Value.tuple #[Value.nilIface,zV]) ?_
  exact ofpost_no (of_no (by rw [ht];subst hT0 hT15 hT16 hT17 hT18;rfl:ofTag v.tag (v.l,false)=some (Thing.fact (numO T0) (nameO T15) (truthO T16) (numO T17),T18)) (by rintro ⟨h1,h2⟩;first|exact hk h1|(rw [hdn] at h2;cases h2))) h23.below0
 refine ma h18 1 ?_
 refine mX 94 zV (bV (((v.kind:Int)) != 2)) (ieq (b:=2) hk) ?_
 refine mW 97 (v:=zV) (pureOp_run (by kernel_rfl) _) ?_
 refine mD h18 [(pt tb 0)] (tkDone_any (bad:=T18.2) (ts:=T18.1) (h18.at_ 0 rfl)) (fun w25 h25=>?_)
 refine mX 102 zV (bV (!(doneO T18))) (congrArg bV (by rw [hdn];rfl)) ?_
 refine mP (Value.tuple #[(Value.iface 49 (aV ([(zD (numO T0)),(sV (nameO T15)),(bV (truthO T16)),(zD (numO T17))]).toArray)),zI]) ?_
 exact ofpost_yes (of_yes (by rw [ht];subst hT0 hT15 hT16 hT17 hT18;rfl:ofTag v.tag (v.l,false)=some (Thing.fact (numO T0) (nameO T15) (truthO T16) (numO T17),T18)) hk hdn) (show ThR G _ _ (Thing.fact (numO T0) (nameO T15) (truthO T16) (numO T17)) from rfl) h25.below0
theorem of_plain{G:Nat->Prop}{B A:Option Addr}{d c:Nat}{v:DVal}{w:World}(hsm:Sm v.l)(hL:(rLst G A c v.l).Φ w)(ht:v.tag=7):Calls Tryz.prog 90 #[.agg #[.int .i64 (v.kind:Int),.int .i64 (v.tag:Int),.int .u64 (v.n:Int),.slice B v.b.length d,.slice A v.l.length c]] w (OfPost w G (ofF v)):=by
 have h0:=Hp.ro1 (rLst G A c v.l) hL
 refine mE 105 ?_
 refine mN h0 196 ([(zD ((v.kind:Int))),(zD ((v.tag:Int))),(iV .u64 ((v.n:Int))),(lV B v.b.length d),(lV A v.l.length c)]) fun g2 w2 h2=>?_
 refine ma h2 0 ?_
 refine mT (x_take h2 [(aV ([(zD ((v.kind:Int))),(zD ((v.tag:Int))),(iV .u64 ((v.n:Int))),(lV B v.b.length d),(lV A v.l.length c)]).toArray)] (by kernel_rfl) (take_any v.kind v.tag v.n B A v.b.length d v.l.length c _)) ?_
 rintro _ w4 ⟨tb,rfl,h4⟩
 obtain ⟨T0,hT0⟩:∃ T,T=((v.l,false):TkSt):=⟨_,rfl⟩
 have e1:v.l=T0.1:=by rw [hT0]
 have e2:false=T0.2:=by rw [hT0]
 have hsm0:Sm T0.1:=by rw [← e1];exact hsm
 have h5:=h4.below (Below.refl _ _)
 rw [e1,e2] at h5
 refine ma h5 1 ?_
 refine mX 11 zV (bV (((v.tag:Int)) == 1)) (tag_ne ht (by decide)) ?_
 refine mX 19 zV (bV (((v.tag:Int)) == 2)) (tag_ne ht (by decide)) ?_
 refine mX 35 zV (bV (((v.tag:Int)) == 3)) (tag_ne ht (by decide)) ?_
 refine mX 53 zV (bV (((v.tag:Int)) == 4)) (tag_ne ht (by decide)) ?_
 refine mX 67 zV (bV (((v.tag:Int)) == 5)) (tag_ne ht (by decide)) ?_
 refine mX 75 zV (bV (((v.tag:Int)) == 6)) (tag_ne ht (by decide)) ?_
 refine mX 87 zI (bV (((v.tag:Int)) == 7)) (tag_eq ht) ?_
 refine mT (x_bkT h5 0 rfl 0 rfl (T:=T0) (T1:=bytesT T0) (l:=bytesO T0) 108 [(pt tb 0)] (by kernel_rfl) (tkBytes_any (h5.rd 0 rfl) (h5.at_ 0 rfl) (h5.offTk 0 0 rfl rfl))) ?_
 rintro _ w16 ⟨A16,c16,T16,B16,d16,hT16,rfl,h16⟩
 have hsm16:Sm T16.1:=by rw [hT16];exact Sm.nxT (T:=T0) hsm0 1
 obtain hk|⟨hk,hdn⟩|⟨hk,hdn⟩:v.kind≠2∨(v.kind=2/\doneO T16=false)∨(v.kind=2/\doneO T16=true):=of_cases _ _
 ·
  refine ma h16 1 ?_
  refine mX 94 zI (bV (((v.kind:Int)) != 2)) (ine (b:=2) hk) ?_
  refine mP (Value.tuple #[Value.nilIface,zV]) ?_
  exact ofpost_no (of_no (by rw [ht];subst hT0 hT16;rfl:ofTag v.tag (v.l,false)=some (Thing.plain (bytesO T0),T16)) (by rintro ⟨h1,h2⟩;first|exact hk h1|(rw [hdn] at h2;cases h2))) h16.below0
 ·
  refine ma h16 1 ?_
  refine mX 94 zV (bV (((v.kind:Int)) != 2)) (ieq (b:=2) hk) ?_
  refine mW 97 (v:=zV) (pureOp_run (by kernel_rfl) _) ?_
  refine mD h16 [(pt tb 0)] (tkDone_any (bad:=T16.2) (ts:=T16.1) (h16.at_ 0 rfl)) (fun w21 h21=>?_)
  refine mX 102 zI (bV (!(doneO T16))) (congrArg bV (by rw [hdn];rfl)) ?_
  refine mP (Value.tuple #[Value.nilIface,zV]) ?_
  exact ofpost_no (of_no (by rw [ht];subst hT0 hT16;rfl:ofTag v.tag (v.l,false)=some (Thing.plain (bytesO T0),T16)) (by rintro ⟨h1,h2⟩;first|exact hk h1|(rw [hdn] at h2;cases h2))) h21.below0
 refine ma h16 1 ?_
 refine mX 94 zV (bV (((v.kind:Int)) != 2)) (ieq (b:=2) hk) ?_
 refine mW 97 (v:=zV) (pureOp_run (by kernel_rfl) _) ?_
 refine mD h16 [(pt tb 0)] (tkDone_any (bad:=T16.2) (ts:=T16.1) (h16.at_ 0 rfl)) (fun w23 h23=>?_)
 refine mX 102 zV (bV (!(doneO T16))) (congrArg bV (by rw [hdn];rfl)) ?_
 refine mP (Value.tuple #[(Value.iface 276 (aV ([(lV B16 ((bytesO T0).length) d16)]).toArray)),zI]) ?_
 exact ofpost_yes (of_yes (by rw [ht];subst hT0 hT16;rfl:ofTag v.tag (v.l,false)=some (Thing.plain (bytesO T0),T16)) hk hdn) (show ThR G _ _ (Thing.plain (bytesO T0)) from ⟨_,_,rfl,h23.rd 1 rfl⟩) h23.below0
theorem of_none{G:Nat->Prop}{B A:Option Addr}{d c:Nat}{v:DVal}{w:World}(hsm:Sm v.l)(hL:(rLst G A c v.l).Φ w)(ht:v.tag=0∨7<v.tag):Calls Tryz.prog 90 #[.agg #[.int .i64 (v.kind:Int),.int .i64 (v.tag:Int),.int .u64 (v.n:Int),.slice B v.b.length d,.slice A v.l.length c]] w (OfPost w G (ofF v)):=by
 have h0:=Hp.ro1 (rLst G A c v.l) hL
 refine mE 105 ?_
 refine mN h0 196 ([(zD ((v.kind:Int))),(zD ((v.tag:Int))),(iV .u64 ((v.n:Int))),(lV B v.b.length d),(lV A v.l.length c)]) fun g2 w2 h2=>?_
 refine ma h2 0 ?_
 refine mT (x_take h2 [(aV ([(zD ((v.kind:Int))),(zD ((v.tag:Int))),(iV .u64 ((v.n:Int))),(lV B v.b.length d),(lV A v.l.length c)]).toArray)] (by kernel_rfl) (take_any v.kind v.tag v.n B A v.b.length d v.l.length c _)) ?_
 rintro _ w4 ⟨tb,rfl,h4⟩
 obtain ⟨T0,hT0⟩:∃ T,T=((v.l,false):TkSt):=⟨_,rfl⟩
 have e1:v.l=T0.1:=by rw [hT0]
 have e2:false=T0.2:=by rw [hT0]
 have hsm0:Sm T0.1:=by rw [← e1];exact hsm
 have h5:=h4.below (Below.refl _ _)
 rw [e1,e2] at h5
 refine ma h5 1 ?_
 refine mX 11 zV (bV (((v.tag:Int)) == 1)) (tag_none ht (by decide) (by decide)) ?_
 refine mX 19 zV (bV (((v.tag:Int)) == 2)) (tag_none ht (by decide) (by decide)) ?_
 refine mX 35 zV (bV (((v.tag:Int)) == 3)) (tag_none ht (by decide) (by decide)) ?_
 refine mX 53 zV (bV (((v.tag:Int)) == 4)) (tag_none ht (by decide) (by decide)) ?_
 refine mX 67 zV (bV (((v.tag:Int)) == 5)) (tag_none ht (by decide) (by decide)) ?_
 refine mX 75 zV (bV (((v.tag:Int)) == 6)) (tag_none ht (by decide) (by decide)) ?_
 refine mX 87 zV (bV (((v.tag:Int)) == 7)) (tag_none ht (by decide) (by decide)) ?_
 rcases Classical.em (v.kind=2) with hk|hk
 ·
  refine ma h5 1 ?_
  refine mX 94 zV (bV (((v.kind:Int)) != 2)) (ieq (b:=2) hk) ?_
  refine mW 97 (v:=zI) (pureOp_run (by kernel_rfl) _) ?_
  refine mP (Value.tuple #[Value.nilIface,zV]) ?_
  exact ofpost_no (by unfold ofF;rw [ofTag_none ht];rfl) h5.below0
 refine ma h5 1 ?_
 refine mX 94 zI (bV (((v.kind:Int)) != 2)) (ine (b:=2) hk) ?_
 refine mP (Value.tuple #[Value.nilIface,zV]) ?_
 exact ofpost_no (by unfold ofF;rw [ofTag_none ht];rfl) h5.below0
theorem of_any{G:Nat->Prop}{cs:List Value}{v:DVal}{w:World}(hsm:Sm v.l)(hv:(rDV G cs v).Φ w):Calls Tryz.prog 90 #[.agg cs.toArray] w (OfPost w G (ofF v)):=by
 obtain ⟨B,d,A,c,rfl,hsg,hls,hn⟩:=dv_lst hv
 rcases Nat.lt_or_ge 7 v.tag with h7|h7
 · exact of_none hsm hls (.inr h7)
 rcases (by omega:v.tag=0∨v.tag=1∨v.tag=2∨v.tag=3∨v.tag=4∨v.tag=5∨v.tag=6∨v.tag=7) with h|h|h|h|h|h|h|h
 · exact of_none hsm hls (.inl h)
 · exact of_ticket hsm hls h
 · exact of_inside hsm hls h
 · exact of_reply hsm hls h
 · exact of_authent hsm hls h
 · exact of_stamp hsm hls h
 · exact of_fact hsm hls h
 exact of_plain hsm hls h
end
section
open Go.RowKit Go.QT
theorem szB_head(k t m:Nat)(r:Bytes)(hm:m<65536)(hr:m<=r.length):szB (headB k t m++r)=(0,m,(headB k t m).length):=by
 by_cases h:m<128
 · have hl:=head_loL k t h
   have h1:=head_lo1 k t h r
   unfold szB
   rw [h1,hl,if_neg (by rw [List.length_append,hl];omega),if_pos h,if_pos (by rw [List.length_append,hl];omega)]
 have hl:=head_hiL k t h
 have h1:=head_hi1 k t h r
 have h2:=short_two (m:=m) (by omega) hm
 have h3:=head_hi2 k t h r
 have h4:=getN_short (n:=m) (by omega)
 have hL:(headB k t m++r).length=2+(shortB m).length+r.length:=by rw [List.length_append,hl]
 unfold szB
 rw [h1,hl,show 128+(shortB m).length-128=(shortB m).length by omega,h3,h4,hL]
 rw [if_neg (by omega),if_neg (by omega),if_neg (by omega),if_neg (by omega),if_neg (by omega),if_pos (by omega)]
theorem rdB_wr(m:Nat):∀ (d:Nat),d+m=9->∀ (v:DVal) (r:Bytes),rightV v d=true->numV v=true->(wrV v).length<65536->rdB m (wrV v++r)=.inr (v,(wrV v).length):=by
 induction m with
 | zero=>intro d h v r hr;obtain ⟨k,t,n,b,ts⟩:=v;exact absurd (rightV_le hr).2.2 (by omega)
 | succ m ih =>
   intro d h v r hr hnum hb
   obtain ⟨k,t,n,b,ts⟩:=v
   obtain ⟨hk,ht,hd⟩:=rightV_le hr
   have hbl:=wrV_len (.mk k t n b ts)
   have ew:wrV (.mk k t n b ts)=headB k t (bodyV (.mk k t n b ts)).length++bodyV (.mk k t n b ts):=wrV_eq _
   have el:(wrV (.mk k t n b ts)).length=(headB k t (bodyV (.mk k t n b ts)).length).length+(bodyV (.mk k t n b ts)).length:=by rw [ew,List.length_append]
   have eL:wrV (.mk k t n b ts)++r=headB k t (bodyV (.mk k t n b ts)).length++(bodyV (.mk k t n b ts)++r):=by rw [ew,List.append_assoc]
   rw [numV,Bool.and_eq_true,decide_eq_true_eq] at hnum
   have h0:=head_0 k t (bodyV (.mk k t n b ts)).length hk ht (bodyV (.mk k t n b ts)++r)
   have hc:=cut_mid (headB k t (bodyV (.mk k t n b ts)).length) (bodyV (.mk k t n b ts)) r
   have hs:=szB_head k t (bodyV (.mk k t n b ts)).length (bodyV (.mk k t n b ts)++r) (by omega) (by rw [List.length_append];omega)
   rw [rdB,eL,hs,h0]
   simp only
   rw [if_neg (fun hh=>hh rfl),if_neg (by omega),hc,← el,show (k*64+t) / 64=k by omega,show (k*64+t) % 64=t by omega]
   rw [rightV] at hr
   simp only [Bool.and_eq_true] at hr
   have hr:=hr.2
   match k,hk with
   | 0,_ =>
     rw [if_pos rfl,Bool.and_eq_true,List.isEmpty_iff,List.isEmpty_iff] at hr
     obtain ⟨rfl,rfl⟩:=hr
     have hbd:bodyV (.mk 0 t n [] [])=shortB n:=rfl
     have hs1:=List.length_pos_iff.2 (shortB_ne n)
     have hs8:=shortB_len n
     rw [hbd,ptB,if_pos rfl,getN_short hnum.1]
     rw [if_neg (fun hh=>hh.elim (fun h=>by omega) (fun hh=>hh.elim (fun h=>by omega) (fun h=>short_lead n h.1 h.2)))]
   | 1,_ =>
     rw [if_neg (by decide),if_pos rfl,Bool.and_eq_true,decide_eq_true_eq,List.isEmpty_iff] at hr
     obtain ⟨rfl,rfl⟩:=hr
     rw [ptB,if_neg (by decide),if_pos rfl];rfl
   | 2,_ =>
     rw [if_neg (by decide),if_neg (by decide),if_pos rfl,Bool.and_eq_true,Bool.and_eq_true,decide_eq_true_eq,List.isEmpty_iff] at hr
     obtain ⟨⟨hr,rfl⟩,rfl⟩:=hr
     have hbd:bodyV (.mk 2 t 0 [] ts)=wrL ts:=rfl
     rw [hbd] at hbl ⊢
     rw [ptB,if_neg (by decide),if_neg (by decide)]
     have key:∀ (us:List DVal),(∀ u ∈ us,u ∈ ts)->∀ f,(wrL us).length<=f->lsB (rdB m) f (wrL us)=.inr us:=by
       intro us
       induction us with
       | nil=>intro _ f _;cases f with
         | zero=>rfl
         | succ f=>rw [lsB,wrL];rfl
       | cons u us ih2 =>
         intro hm f hf
         have hu:=wrV_pos u
         have e1:wrL (u::us)=wrV u++wrL us:=by rw [wrL]
         have hmu:=hm u (by simp)
         have hle:=wrL_mem hmu
         rw [e1,List.length_append] at hf
         obtain ⟨g,rfl⟩:∃ g,f=g+1:=⟨f-1,by omega⟩
         rw [lsB,e1,if_neg (by rw [List.length_append];omega),ih (d+1) (by omega) u (wrL us) (rightL_mem hr hmu) (numL_mem hnum.2 hmu) (by omega)]
         simp only
         rw [List.drop_left,ih2 (fun x hx=>hm x (by simp [hx])) g (by omega)]
     rw [key ts (fun _ h=>h) _ (Nat.le_refl _)]
/-- What der.Write wrote is read. -/
theorem RdB_wr(v:DVal)(hr:rightV v 1=true)(hn:numV v=true)(hl:(wrV v).length<=4096):RdB (wrV v)=.inr v:=by
 have h:=rdB_wr 8 1 rfl v [] hr hn (by omega)
 rw [List.append_nil] at h
 unfold RdB
 rw [if_neg (by omega),h]
 simp only
 rw [if_neg (by omega)]
end
section
open Go.RowKit Go.QT
def nD(n:Int):DVal:=.mk 0 0 n.toNat [] []
def bD(b:Bytes):DVal:=.mk 1 0 0 b []
def valL:Thing->List DVal
 | .ticket s b=>[bD s.data.toList,bD b]
 | .inside f K s a u r=>[nD f,bD (kl K),bD s.data.toList,nD a,nD u,nD r]
 | .reply f K n s a u r=>[nD f,bD (kl K),nD n,bD s.data.toList,nD a,nD u,nD r]
 | .authent s t q K b=>[bD s.data.toList,nD t,nD q,bD (kl K),bD b]
 | .stamp t q=>[nD t,nD q]
 | .fact n s f t=>[nD n,bD s.data.toList,nD f.toNat,nD t]
 | .plain b=>[bD b]
def tagTh:Thing->Nat
 | .ticket ..=>1
 | .inside ..=>2
 | .reply ..=>3
 | .authent ..=>4
 | .stamp ..=>5
 | .fact ..=>6
 | .plain ..=>7
/-- A thing as a value. -/
def valD(t:Thing):DVal:=.mk 2 (tagTh t) 0 [] (valL t)
def rightTh:Thing->Bool
 | .ticket s _=>rightM s []
 | .inside f _ s a u r=>rightM s [f,a,u,r]
 | .reply f _ n s a u r=>rightM s [f,n,a,u,r]
 | .authent s t q _ _=>rightM s [t,q]
 | .stamp t q=>rightM ⟨#[97]⟩ [t,q]
 | .fact n s _ t=>rightM s [n,t]
 | .plain _=>true
/-- tick.Pack. -/
def packB(t:Thing):Nat ⊕ Bytes:=if rightTh t=true then (if (wrV (valD t)).length<=4096 then .inr (wrV (valD t)) else .inl 20) else .inl 7
/-- tick.Unpack. -/
def unpB(b:Bytes):Nat ⊕ Thing:=
 match RdB b with
 | .inl e=>.inl e
 | .inr v=>match ofF v with
   | some t=>.inr t
   | none=>.inl 4
section
variable{r:List DVal}{b:Bool}{f:Int}{s:ByteArray}{K:Fin 16->UInt8}
theorem inN_nat(h:inN f=true):∃ n:Nat,f=n/\n<=1099511627776:=by
 unfold inN at h
 simp only [Bool.not_eq_true',Bool.or_eq_false_iff,decide_eq_false_iff_not] at h
 exact ⟨f.toNat,by omega,by omega⟩
theorem num_nD(h:inN f=true):numO (nD f::r,b)=f/\numT (nD f::r,b)=(r,b):=by
 obtain ⟨n,rfl,hn⟩:=inN_nat h
 have e:=nx_good (k:=0) (v:=nD (n:Int)) (r:=r) rfl rfl b
 unfold numO numT
 simp only [e.1,e.2]
 have e2:(nD (n:Int)).n=n:=rfl
 rw [e2,if_neg (by omega),decide_eq_false (by omega),Bool.or_false]
 exact ⟨rfl,rfl⟩
theorem name_bD(h:rightN s=true):nameO (bD s.data.toList::r,b)=s/\nameT (bD s.data.toList::r,b)=(r,b):=by
 have e:=nx_good (k:=1) (v:=bD s.data.toList) (r:=r) rfl rfl b
 have e2:nameO (bD s.data.toList::r,b)=s:=by
   unfold nameO
   simp only [e.1]
   rfl
 refine ⟨e2,?_⟩
 unfold nameT
 rw [e2,e.2,h]
 simp
theorem key_bD:keyO (bD (kl K)::r,b)=K/\keyT (bD (kl K)::r,b)=(r,b):=by
 have e:=nx_good (k:=1) (v:=bD (kl K)) (r:=r) rfl rfl b
 have h16:(bD (kl K)).b.length=16:=kl_len K
 constructor
 · apply kl_inj
   rw [kl_keyO]
   simp only [e.1]
   unfold keyF
   rw [if_pos h16];rfl
 unfold keyT
 simp only [e.1,e.2]
 rw [decide_eq_true h16]
 simp
theorem truth_nD(x:Bool):truthO (nD x.toNat::r,b)=x/\truthT (nD x.toNat::r,b)=(r,b):=by
 have e:=nx_good (k:=0) (v:=nD x.toNat) (r:=r) rfl rfl b
 unfold truthO truthT
 simp only [e.1,e.2]
 cases x <;> simp [nD,DVal.n]
theorem bytes_bD(c:Bytes):bytesO (bD c::r,b)=c/\bytesT (bD c::r,b)=(r,b):=by
 have e:=nx_good (k:=1) (v:=bD c) (r:=r) rfl rfl b
 unfold bytesO bytesT
 simp only [e.1,e.2]
 exact ⟨rfl,trivial⟩
end
theorem rightM_parts{s:ByteArray}{l:List Int}(h:rightM s l=true):(∀ x ∈ l,inN x=true)/\rightN s=true:=by
 unfold rightM at h
 rw [Bool.and_eq_true,List.all_eq_true] at h
 exact h
theorem of_val{t:Thing}(h:rightTh t=true):ofF (valD t)=some t:=by
 have key:ofTag (tagTh t) (valL t,false)=some (t,([],false)):=by
   cases t with
   | ticket s b =>
     obtain ⟨_,hs⟩:=rightM_parts h
     show some (ofTicket _)=_
     unfold ofTicket
     simp only [valL,name_bD hs,bytes_bD]
   | inside f K s a u r =>
     obtain ⟨hl,hs⟩:=rightM_parts h
     have h1:=hl f (by simp);have h2:=hl a (by simp);have h3:=hl u (by simp);have h4:=hl r (by simp)
     show some (ofInside _)=_
     unfold ofInside
     simp only [valL,name_bD hs,num_nD h1,num_nD h2,num_nD h3,num_nD h4,key_bD]
   | reply f K n s a u r =>
     obtain ⟨hl,hs⟩:=rightM_parts h
     have h1:=hl f (by simp);have h2:=hl a (by simp);have h3:=hl u (by simp);have h4:=hl r (by simp);have h5:=hl n (by simp)
     show some (ofReply _)=_
     unfold ofReply
     simp only [valL,name_bD hs,num_nD h1,num_nD h2,num_nD h3,num_nD h4,num_nD h5,key_bD]
   | authent s t q K b =>
     obtain ⟨hl,hs⟩:=rightM_parts h
     have h1:=hl t (by simp);have h2:=hl q (by simp)
     show some (ofAuthent _)=_
     unfold ofAuthent
     simp only [valL,name_bD hs,num_nD h1,num_nD h2,key_bD,bytes_bD]
   | stamp t q =>
     obtain ⟨hl,hs⟩:=rightM_parts h
     have h1:=hl t (by simp);have h2:=hl q (by simp)
     show some (ofStamp _)=_
     unfold ofStamp
     simp only [valL,num_nD h1,num_nD h2]
   | fact n s f t =>
     obtain ⟨hl,hs⟩:=rightM_parts h
     have h1:=hl n (by simp);have h2:=hl t (by simp)
     show some (ofFact _)=_
     unfold ofFact
     simp only [valL,name_bD hs,num_nD h1,num_nD h2,truth_nD]
   | plain b =>
     show some (ofPlain _)=_
     unfold ofPlain
     simp only [valL,bytes_bD]
 unfold ofF
 show ofEnd 2 (ofTag (tagTh t) (valL t,false))=_
 rw [key]
 rfl
theorem rightV_nD(n:Int):rightV (nD n) 2=true:=by unfold nD;rw [rightV];rfl
theorem rightV_bD(b:Bytes):rightV (bD b) 2=true:=by unfold bD;rw [rightV];rfl
theorem rightL_of{l:List DVal}(h:∀ v ∈ l,rightV v 2=true):rightL l 2=true:=rightL_all l 2 h
theorem valL_all(P:DVal->Prop)(hn:∀ n,P (nD n))(hb:∀ b,P (bD b))(t:Thing):∀ v ∈ valL t,P v:=by
 cases t <;> simp [valL,hn,hb]
theorem rightV_val(t:Thing):rightV (valD t) 1=true:=by
 unfold valD
 rw [rightV,rightL_of]
 · cases t <;> rfl
 exact valL_all _ rightV_nD rightV_bD t
theorem numV_nD{n:Int}(h:inN n=true):numV (nD n)=true:=by
 obtain ⟨m,rfl,hm⟩:=inN_nat h
 unfold nD
 rw [numV,decide_eq_true (by omega)];rfl
theorem numV_bD(b:Bytes):numV (bD b)=true:=by unfold bD;rw [numV];rfl
theorem numV_val{t:Thing}(h:rightTh t=true):numV (valD t)=true:=by
 unfold valD
 rw [numV,decide_eq_true (by omega),Bool.true_and]
 cases t with
 | ticket s b=>simp [valL,numL,numV_bD]
 | inside f K s a u r =>
   obtain ⟨hl,_⟩:=rightM_parts h
   simp [valL,numL,numV_bD,numV_nD (hl f (by simp)),numV_nD (hl a (by simp)),numV_nD (hl u (by simp)),numV_nD (hl r (by simp))]
 | reply f K n s a u r =>
   obtain ⟨hl,_⟩:=rightM_parts h
   simp [valL,numL,numV_bD,numV_nD (hl f (by simp)),numV_nD (hl a (by simp)),numV_nD (hl u (by simp)),numV_nD (hl r (by simp)),numV_nD (hl n (by simp))]
 | authent s t q K b =>
   obtain ⟨hl,_⟩:=rightM_parts h
   simp [valL,numL,numV_bD,numV_nD (hl t (by simp)),numV_nD (hl q (by simp))]
 | stamp t q =>
   obtain ⟨hl,_⟩:=rightM_parts h
   simp [valL,numL,numV_nD (hl t (by simp)),numV_nD (hl q (by simp))]
 | fact n s f t =>
   obtain ⟨hl,_⟩:=rightM_parts h
   have hf:numV (nD (f.toNat:Int))=true:=by cases f <;> (unfold nD;rw [numV];rfl)
   simp [valL,numL,numV_bD,numV_nD (hl n (by simp)),numV_nD (hl t (by simp)),hf]
 | plain b=>simp [valL,numL,numV_bD]
theorem unp_pack{t:Thing}{b:Bytes}(h:packB t=.inr b):unpB b=.inr t:=by
 unfold packB at h
 split at h
 · rename_i hr
   split at h
   · rename_i hl
     injection h with h;subst h
     unfold unpB
     rw [RdB_wr _ (rightV_val t) (numV_val hr) hl]
     simp only
     rw [of_val hr]
   cases h
 cases h
/-- The bytes of a value that was read are no longer than what was read. -/
def Lim(n:Nat)(v:DVal):Prop:=v.b.length<=n/\∀ u ∈ v.l,u.b.length<=n
theorem lsB_lim{rd:Bytes->Nat ⊕ (DVal × Nat)}(h:∀ l v k,rd l=.inr (v,k)->v.b.length<=l.length):∀ (f:Nat) (l:Bytes) (ts:List DVal),lsB rd f l=.inr ts->∀ u ∈ ts,u.b.length<=l.length
 | 0,_,_,hh=>by injection hh with hh;subst hh;simp
 | f+1,l,ts,hh=>by
   rw [lsB] at hh
   split at hh
   · injection hh with hh;subst hh;simp
   split at hh
   · cases hh
   rename_i v k hr
   split at hh
   · cases hh
   rename_i r hr2
   injection hh with hh;subst hh
   intro u hu
   rcases List.mem_cons.1 hu with rfl|hu
   · exact h l _ k hr
   have:=lsB_lim h f _ _ hr2 u hu
   rw [List.length_drop] at this;omega
theorem rdB_lim:∀ (m:Nat) (L:Bytes) (v:DVal) (k:Nat),rdB m L=.inr (v,k)->Lim L.length v
 | 0,_,_,_,h=>by cases h
 | m+1,L,v,k,h=>by
   rw [rdB] at h
   split at h
   · cases h
   split at h
   · cases h
   have hB:((L.take ((szB L).2.2+(szB L).2.1)).drop (szB L).2.2).length<=L.length:=by rw [List.length_drop,List.length_take];omega
   unfold ptB at h
   split at h
   · split at h
     · cases h
     injection h with h;injection h with h1 h2;subst h1;exact ⟨Nat.zero_le _,by simp [DVal.l]⟩
   split at h
   · injection h with h;injection h with h1 h2;subst h1;exact ⟨hB,by simp [DVal.l]⟩
   split at h
   · cases h
   rename_i ts hr
   injection h with h;injection h with h1 h2;subst h1
   exact ⟨Nat.zero_le _,fun u hu=>Nat.le_trans (lsB_lim (fun l v k hh=>(rdB_lim m l v k hh).1) _ _ _ hr u hu) hB⟩
theorem RdB_sm{L:Bytes}{v:DVal}(h:RdB L=.inr v):Sm v.l:=by
 unfold RdB at h
 split at h
 · cases h
 rename_i hl
 split at h
 · cases h
 rename_i u n hr
 split at h
 · cases h
 injection h with h;subst h
 intro x hx
 have:=(rdB_lim 8 L u n hr).2 x hx
 omega
end
end Go.Proofs.YtaoijkhndakppaaGreat
