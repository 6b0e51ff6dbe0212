/- copy of a slice of bytes into a row that is known whole;a val or a run as a step of a walk. -/
import Derived.Laws.BitsAllLaws
import Derived.Laws.BitsLemmas
import Derived.ChangeKeysEq
import Derived.Laws.CopyRow
import Derived.Test.YtaoijkhndakppaaGreatCA1
set_option maxRecDepth 100000
set_option maxHeartbeats 4000000
namespace Go.Proofs.YtaoijkhndakppaaGreat
section
open Go.RowKit Go.QT
noncomputable def look (x:Nat → Value) (l:List (Nat × Value)) (i:Nat):Value:=
 List.rec (x i) (fun p _ ih=>bif Nat.beq p.1 i then p.2 else ih) l
noncomputable def frL (f:Nat → Value) (n:Nat):Nat → List Value:=
 Nat.rec (fun _=>[]) (fun _ ih i=>f i::ih (i+1)) n
noncomputable def patch (x:Nat → Value) (n:Nat) (l:List (Nat × Value)):Act:={ tmps:=(frL (look x l) n 0).toArray,defers:=[] }
theorem frL_get(f:Nat → Value):∀ (n k i:Nat),(frL f n k)[i]?=if i<n then some (f (k+i)) else none
 | 0,k,i=>by show ([]:List Value)[i]?=_;simp
 | n+1,k,0=>by show (f k::frL f n (k+1))[0]?=_;simp
 | n+1,k,i+1=>by
   have h:=frL_get f n (k+1) i
   show (f k::frL f n (k+1))[i+1]?=_
   rw [List.getElem?_cons_succ,h]
   by_cases hi:i<n
   · rw [if_pos hi,if_pos (by omega)];congr 2;omega
   rw [if_neg hi,if_neg (by omega)]
theorem look_dead(x:Nat → Value)(l:List (Nat × Value))(h:l.map (fun p=>x p.1)=l.map (·.2))(i:Nat):look x l i=x i:=by
 induction l with
 | nil=>rfl
 | cons p l ih =>
   simp only [List.map_cons,List.cons.injEq] at h
   show (bif Nat.beq p.1 i then p.2 else look x l i)=x i
   cases hb:Nat.beq p.1 i with
   | true=>have:=Nat.eq_of_beq_eq_true hb;subst this;exact h.1.symm
   | false=>exact ih h.2
theorem patch_eq(a:Act)(n:Nat)(l:List (Nat × Value))(hs:a.tmps.size=n)(hd:a.defers=[])(h:l.map (fun p=>dead a p.1)=l.map (·.2)):a=patch (dead a) n l:=by
 obtain ⟨tmps,defers⟩:=a
 simp only at hs hd
 subst hd
 unfold patch
 congr 1
 apply Array.ext'
 apply List.ext_getElem?
 intro i
 rw [frL_get,Nat.zero_add,look_dead _ _ h]
 by_cases hi:i<n
 · rw [if_pos hi]
   simp [dead,hs,hi]
 rw [if_neg hi]
 simp [hs];omega
theorem wp_reset{P:Program}{Q:Exit → Act → World → Prop}{a:Act}{w:World}{c:Code}(n:Nat)(l:List (Nat × Value))(k:∀ x,c.wp P Q (patch x n l) w)(hs:a.tmps.size=n:=by kernel_rfl)(hd:a.defers=[]:=by kernel_rfl)(h:l.map (fun p=>dead a p.1)=l.map (·.2):=by kernel_rfl):c.wp P Q a w:=by
 have:=k (dead a)
 rwa [← patch_eq a n l hs hd h] at this
/-! ### Steps that keep the frame so -/
def putL:Option Nat → Value → List (Nat × Value) → List (Nat × Value)
 | some d,v,l=>(d,v)::l
 | none,_,l=>l
def okD(n:Nat):Option Nat → Bool
 | some d=>decide (d<n)
 | none=>true
theorem put_patch(x:Nat → Value)(n:Nat)(l:List (Nat × Value))(d:Option Nat)(v:Value)(h:okD n d=true):(patch x n l).put d v=patch x n (putL d v l):=by
 cases d with
 | none=>rfl
 | some d =>
   have hd:d<n:=of_decide_eq_true h
   show ({ tmps:=(patch x n l).tmps.setIfInBounds d v,defers:=_ }:Act)=_
   unfold patch
   congr 1
   apply Array.ext'
   simp only [Array.toList_setIfInBounds]
   apply List.ext_getElem?
   intro i
   rw [List.getElem?_set,frL_get,frL_get,Nat.zero_add]
   have hlen:(frL (look x l) n 0).length=n:=by
     have h1:=frL_get (look x l) n 0 n
     have h2:n ≤ (frL (look x l) n 0).length∨(frL (look x l) n 0).length<n:=by omega
     rcases h2 with h2|h2
     · rw [if_neg (Nat.lt_irrefl n)] at h1
       have:=List.getElem?_eq_none_iff.1 h1
       omega
     have h3:=frL_get (look x l) n 0 (frL (look x l) n 0).length
     rw [if_pos h2,List.getElem?_eq_none (Nat.le_refl _)] at h3
     cases h3
   show _=if i<n then some (bif Nat.beq d i then v else look x l i) else none
   by_cases e:d=i
   · subst e
     rw [if_pos rfl,if_pos (by rw [hlen];exact hd),if_pos hd,Nat.beq_refl];rfl
   rw [if_neg e]
   have:Nat.beq d i=false:=by
     cases hb:Nat.beq d i with
     | false=>rfl
     | true=>exact absurd (Nat.eq_of_beq_eq_true hb) e
   rw [this];rfl
noncomputable def evP (x:Nat → Value) (n:Nat) (e:List (Nat × Value)):Operand → Value
 | .tmp i=>bif Nat.blt i n then look x e i else undef
 | y=>(patch x 0 []).eval y
theorem patch_get(x:Nat → Value)(n:Nat)(e:List (Nat × Value))(i:Nat):(patch x n e).tmps[i]?=if i<n then some (look x e i) else none:=by
 show (frL (look x e) n 0).toArray[i]?=_
 rw [List.getElem?_toArray,frL_get,Nat.zero_add]
theorem blt_dec(i n:Nat):Nat.blt i n=decide (i<n):=by
 cases h:Nat.blt i n with
 | true=>exact (decide_eq_true (by rw [Nat.blt_eq] at h;exact h)).symm
 | false=>exact (decide_eq_false (fun hh=>by rw [← Nat.blt_eq,h] at hh;cases hh)).symm
theorem eval_patch(x:Nat → Value)(n:Nat)(e:List (Nat × Value)):(patch x n e).eval=evP x n e:=by
 funext y
 cases y with
 | tmp i =>
   show (patch x n e).tmps.getD i undef=bif Nat.blt i n then look x e i else undef
   rw [Array.getD_eq_getD_getElem?,patch_get,blt_dec]
   by_cases h:i<n <;> simp [h]
 | _=>rfl
noncomputable def yieldP (ops:Array Oper) (x:Nat → Value) (n:Nat) (e:List (Nat × Value)) (j:Nat):Option Bool:=
 match (ops[j]?).bind (·.dst) with
 | some d=>if Nat.blt d n then (match look x e d with | .bool b=>some b|_=>none) else none
 | none=>none
theorem yield_patch(ops:Array Oper)(x:Nat → Value)(n:Nat)(e:List (Nat × Value)):yielded ops (patch x n e).tmps=yieldP ops x n e:=by
 funext j
 unfold yielded yieldP
 cases hd:(ops[j]?).bind (·.dst) with
 | none=>rfl
 | some d =>
   show (match (patch x n e).tmps[d]? with|some (.bool b)=>some b|_=>none)=(if Nat.blt d n=true then (match look x e d with | .bool b=>some b|_=>none) else none)
   rw [patch_get,blt_dec]
   by_cases h:d<n
   · simp only [h,if_true,decide_true]
     cases look x e d <;> rfl
   simp [h]
noncomputable def pureE (P:Program) (o:Oper) (ev:Operand → Value):Option Value:=
 match pureVal P (execOp ev o) with
 | some (.value v)=>some v
 | _=>none
theorem pureE_eq(P:Program)(o:Oper)(x:Nat → Value)(n:Nat)(e:List (Nat × Value)):pureE P o (evP x n e)=pureOp P o (patch x n e):=by
 unfold pureE pureOp;rw [eval_patch] <;> rfl
noncomputable def runP (P:Program) (ops:Array Oper) (x:Nat → Value) (n:Nat):Nat → List Oper → List (Nat × Value) → Option (List Oper × List (Nat × Value))
 | 0,l,e=>some (l,e)
 | _+1,[],_=>none
 | k+1,o::l,e =>
   if okD n o.dst then
     if Region.wanted o (yieldP ops x n e) then
       match pureE P o (evP x n e) with
       | some v=>runP P ops x n k l (putL o.dst v e)
       | none=>none
     else runP P ops x n k l (putL o.dst undef e)
   else none
section
variable{P:Program}{ops:Array Oper}{rest l l':List Oper}{o:Oper}{w w':World}{Q:Exit → Act → World → Prop}{R:Value → World → Prop}{x:Nat → Value}{n:Nat}{e:List (Nat × Value)}
theorem wq_pr:∀ (k:Nat) (l:List Oper) (e:List (Nat × Value)) (l':List Oper) (e':List (Nat × Value)),runP P ops x n k l e=some (l',e') → wpList P ops Q l' (patch x n e') w → wpList P ops Q l (patch x n e) w
 | 0,l,e,l',e',h,k=>by simp only [runP,Option.some.injEq,Prod.mk.injEq] at h;obtain ⟨rfl,rfl⟩:=h;exact k
 | _+1,[],_,_,_,h,_=>by simp [runP] at h
 | m+1,o::l,e,l',e',h,k=>by
   unfold runP at h
   split at h
   · rename_i hd
     split at h
     · rename_i hw
       rw [← yield_patch] at hw
       split at h
       · rename_i v hv
         rw [pureE_eq] at hv
         refine wpList_step fun K hK=>?_
         rw [if_pos hw]
         unfold Oper.wp
         rw [pureOp_run hv]
         refine hK _ _ ?_
         rw [put_patch _ _ _ _ _ hd]
         exact wq_pr m l _ l' e' h k
       cases h
     rename_i hw
     rw [← yield_patch] at hw
     refine wpList_step fun K hK=>?_
     rw [if_neg hw]
     refine hK _ _ ?_
     rw [put_patch _ _ _ _ _ hd]
     exact wq_pr m l _ l' e' h k
   cases h
theorem wq_p(k:Nat)(vs:List (Nat × Value))(hk:WL P ops Q (l.drop k) (patch x n (vs++e)) w)(h:runP P ops x n k l e=some (l.drop k,vs++e):=by kernel_rfl):WL P ops Q l (patch x n e) w:=
 ⟨wq_pr k l e _ _ h hk.run⟩
theorem wq_to(d:Option Nat)(h:OpTo P o (patch x n e) w R)(k:∀ v w',R v w' → WL P ops Q rest (patch x n (putL d v e)) w')(hd:o.dst=d:=by kernel_rfl)(ho:okD n d=true:=by kernel_rfl)(hw:Region.wanted o (yieldP ops x n e)=true:=by kernel_rfl):WL P ops Q (o::rest) (patch x n e) w:=by
 subst hd
 rw [← yield_patch] at hw
 exact wl_to hw h fun v w' hr=>by rw [put_patch _ _ _ _ _ ho];exact k v w' hr
theorem wq_v(d:Option Nat)(v:Value)(hv:(execOp (patch x n e).eval o).run P w=.ok (.value v) w)(k:WL P ops Q rest (patch x n (putL d v e)) w)(hd:o.dst=d:=by kernel_rfl)(ho:okD n d=true:=by kernel_rfl)(hw:Region.wanted o (yieldP ops x n e)=true:=by kernel_rfl):WL P ops Q (o::rest) (patch x n e) w:=by
 subst hd
 rw [← yield_patch] at hw
 exact wl_v hw v hv (by rw [put_patch _ _ _ _ _ ho];exact k)
/-! ### Regions that draw -/
noncomputable def freeP (P:Program) (md:Region.Mode) (ops:Array Oper) (p:Nat) (x:Nat → Value) (n:Nat):List Nat → Array Bool → List (Nat × Value) → Option (List (Nat × Value))
 | [],_,e=>some e
 | i::r,L,e =>
   match ops[i]? with
   | none=>none
   | some o =>
     if (decide (i<p) && okD n o.dst && (Region.ready md ops L).contains i && Region.free md ops L i) then
       if Region.wanted o (yieldP ops x n e) then
         match pureE P o (evP x n e) with
         | some v=>freeP P md ops p x n r (L.setIfInBounds i true) (putL o.dst v e)
         | none=>none
       else freeP P md ops p x n r (L.setIfInBounds i true) (putL o.dst undef e)
     else none
variable{md:Region.Mode}{S:World → Prop}{p:Nat}{L:Array Bool}
theorem pQ_pr(hs:Region.noSelect ops=true)(hph:phaseB md ops p=true)(hQ:∀ c d v a w,Q (.panic c) (Act.put a d v) w → Q (.panic c) a w)(hS:S w)(f:Nat) :
   ∀ (is:List Nat) (L:Array Bool) (e e':List (Nat × Value)),freeP P md ops p x n is L e=some e' → wpAnyT P md ops Q S p f (marks L is) (patch x n e') w → wpAnyT P md ops Q S p (f+is.length) L (patch x n e) w
 | [],L,e,e',h,k=>by simp only [freeP,Option.some.injEq] at h;subst h;exact k
 | i::r,L,e,e',h,k=>by
   unfold freeP at h
   split at h
   · cases h
   rename_i o ho
   split at h
   · rename_i hc
     simp only [Bool.and_eq_true,decide_eq_true_eq] at hc
     obtain ⟨⟨⟨hip,hok⟩,hr⟩,hf⟩:=hc
     split at h
     · rename_i hw
       rw [← yield_patch] at hw
       split at h
       · rename_i v hv
         rw [pureE_eq] at hv
         exact pH_val o.dst v ho rfl hs hf hr hph (decide_eq_true hip) hQ hw hS (fun W _=>pureOp_run hv W) (by rw [put_patch _ _ _ _ _ hok];exact pQ_pr hs hph hQ hS f r _ _ e' h k)
       cases h
     rename_i hw
     rw [← yield_patch] at hw
     exact pH_skip o.dst ho rfl hs hf hr hph (decide_eq_true hip) hQ (by simpa using hw) hS (by rw [put_patch _ _ _ _ _ hok];exact pQ_pr hs hph hQ hS f r _ _ e' h k)
   cases h
theorem pQ_v{f:Nat}(i:Nat)(d:Option Nat)(v:Value)(L':Array Bool)(hL:marks L [i]=L')(hi:ops[i]?=some o)(hd:o.dst=d)(hok:okD n d=true)(hs:Region.noSelect ops=true)(hf:Region.free md ops L i=true)(hr:(Region.ready md ops L).contains i=true)
   (hph:phaseB md ops p=true) (hip:decide (i<p)=true) (hQ:∀ c d v a w,Q (.panic c) (Act.put a d v) w → Q (.panic c) a w) (hw:Region.wanted o (yieldP ops x n e)=true) (hS:S w)
   (hv:∀ W,S W → (execOp (patch x n e).eval o).run P W=.ok (.value v) W) (k:wpAnyT P md ops Q S p f L' (patch x n (putL d v e)) w):wpAnyT P md ops Q S p (f+1) L (patch x n e) w:=by
 rw [← put_patch _ _ _ _ _ hok] at k
 rw [← yield_patch] at hw
 exact pH_v i d v L' hL hi hd hs hf hr hph hip hQ hw hS hv k
theorem pQ_to{f:Nat}(i:Nat)(d:Option Nat)(L':Array Bool)(hL:marks L [i]=L')(hi:ops[i]?=some o)(hd:o.dst=d)(hok:okD n d=true)(hr:Region.ready md ops L=[i])(hw:Region.wanted o (yieldP ops x n e)=true)
   (h:OpTo P o (patch x n e) w R) (k:∀ v w',R v w' → (i<p → S w') ∧ wpAnyT P md ops Q S p f L' (patch x n (putL d v e)) w'):wpAnyT P md ops Q S p (f+1) L (patch x n e) w:=
 pH_to i d L' hL hi hd hr (by rw [yield_patch];exact hw) h fun v w' hr=>by rw [put_patch _ _ _ _ _ hok];exact k v w' hr
theorem pQ_op{f:Nat}(i:Nat)(d:Option Nat)(L':Array Bool)(hL:marks L [i]=L')(hi:ops[i]?=some o)(hd:o.dst=d)(hok:okD n d=true)(hw:Region.wanted o (yieldP ops x n e)=true)
   (h:OpTo P o (patch x n e) w R) (k:∀ v w',R v w' → (i<p → S w') ∧ wpAnyT P md ops Q S p f L' (patch x n (putL d v e)) w') :
   wpOp P ops Q i (fun a' w'=>(i<p → S w') ∧ wpAnyT P md ops Q S p f (L.setIfInBounds i true) a' w') (patch x n e) w:=
 pH_op i d L' hL hi hd (by rw [yield_patch];exact hw) h fun v w' hr=>by rw [put_patch _ _ _ _ _ hok];exact k v w' hr
theorem eq_is{v u:Value}(h:pureE P o (evP x n e)=some v)(hv:v=u){W:World}:(execOp (patch x n e).eval o).run P W=.ok (.value u) W:=
 e_is (by rw [← pureE_eq];exact h) hv
end
theorem eqI{P:Program}{o:Oper}{x:Nat → Value}{n:Nat}{e:List (Nat × Value)}{u:Value}(v:Value)(hv:v=u){W:World}(h:pureE P o (evP x n e)=some v:=by kernel_rfl):(execOp (patch x n e).eval o).run P W=.ok (.value u) W:=eq_is h hv
theorem pEq{a:Act}{l:List (Nat × Value)}(n:Nat)(hs:a.tmps.size=n:=by kernel_rfl)(hd:a.defers=[]:=by kernel_rfl)(h:l.map (fun p=>dead a p.1)=l.map (·.2):=by kernel_rfl):a=patch (dead a) n l:=patch_eq a n l hs hd h
theorem wT{P:Program}{ops:Array Oper}{rest:List Oper}{o:Oper}{w:World}{Q:Exit → Act → World → Prop}{R:Value → World → Prop}{x:Nat → Value}{n:Nat}{e:List (Nat × Value)}(d:Nat)(h:OpTo P o (patch x n e) w R)(k:∀ v w',R v w' → WL P ops Q rest (patch x n (putL (some d) v e)) w')(hd:o.dst=some d:=by kernel_rfl)(ho:okD n (some d)=true:=by kernel_rfl)(hw:Region.wanted o (yieldP ops x n e)=true:=by kernel_rfl):WL P ops Q (o::rest) (patch x n e) w:=wq_to (some d) h k hd ho hw
theorem wV{P:Program}{ops:Array Oper}{rest:List Oper}{o:Oper}{w:World}{Q:Exit → Act → World → Prop}{x:Nat → Value}{n:Nat}{e:List (Nat × Value)}(d:Nat)(v:Value)(hv:(execOp (patch x n e).eval o).run P w=.ok (.value v) w)(k:WL P ops Q rest (patch x n (putL (some d) v e)) w)(hd:o.dst=some d:=by kernel_rfl)(ho:okD n (some d)=true:=by kernel_rfl)(hw:Region.wanted o (yieldP ops x n e)=true:=by kernel_rfl):WL P ops Q (o::rest) (patch x n e) w:=wq_v (some d) v hv k hd ho hw
end
section
open Go.RowKit Go.QT
def fmask(l:List Nat):Nat:=l.foldl (fun m d=>m ||| (1 <<< d)) 0
theorem bit1(d i:Nat):Nat.testBit (1 <<< d) i=decide (d=i):=by
 rw [Nat.one_shiftLeft,Nat.testBit_two_pow]
theorem fmask_go(l:List Nat):∀ (m i:Nat),Nat.testBit (l.foldl (fun m d=>m ||| (1 <<< d)) m) i=(Nat.testBit m i || l.contains i):=by
 induction l with
 | nil=>intro m i;simp
 | cons d l ih =>
   intro m i
   rw [List.foldl_cons,ih,Nat.testBit_or,bit1,List.contains_cons,Bool.or_assoc]
   congr 2
   rw [Bool.eq_iff_iff,decide_eq_true_eq,beq_iff_eq];exact eq_comm
theorem fmask_bit(l:List Nat)(i:Nat):Nat.testBit (fmask l) i=l.contains i:=by unfold fmask;rw [fmask_go];simp
def edgesOf(md:Region.Mode)(o:Oper):List Nat:=o.after.toList.filterMap fun e=>if Region.binds md e then some e.on else none
def memN(i:Nat):List Nat->Bool
 | []=>false
 | d::l=>Nat.beq d i || memN i l
theorem memN_eq(i:Nat):∀ l:List Nat,memN i l=l.contains i
 | []=>rfl
 | d::l=>by
   rw [List.contains_cons,memN,memN_eq i l]
   congr 1
   rw [Bool.eq_iff_iff,beq_iff_eq]
   exact ⟨fun h=>(Nat.eq_of_beq_eq_true h).symm,fun h=>by subst h;exact Nat.beq_refl _⟩
def sumO(md:Region.Mode)(ops:Array Oper)(o:Oper):Nat × List Nat × Nat:=(match o.dst with|some d=>d+1|none=>0,o.looksAt ops,fmask (edgesOf md o))
def sumOf(md:Region.Mode)(ops:Array Oper):List (Nat × List Nat × Nat):=ops.toList.map (sumO md ops)
def apS(x y:Nat × List Nat × Nat):Bool:=
 (match x.1 with|0=>true|d+1=>!(memN d y.2.1) && !(Nat.beq y.1 (d+1))) && (match y.1 with|0=>true|d+1=>!(memN d x.2.1))
def goF(x:Nat × List Nat × Nat)(M i:Nat):List (Nat × List Nat × Nat)->Nat->Bool
 | [],_=>true
 | y::r,j=>(Nat.beq j i || Nat.testBit M j || Nat.testBit y.2.2 i || apS x y) && goF x M i r (j+1)
def freeS(sm:List (Nat × List Nat × Nat))(M i:Nat):Bool:=match sm[i]? with|none=>false|some x=>goF x M i sm 0
def rdyY(M i:Nat)(y:Nat × List Nat × Nat):Bool:=!(Nat.testBit M i) && Nat.beq (y.2.2 &&& M) y.2.2
def rdyS(sm:List (Nat × List Nat × Nat))(M i:Nat):Bool:=match sm[i]? with|none=>false|some y=>rdyY M i y
def goR(M:Nat):List (Nat × List Nat × Nat)->Nat->List Nat
 | [],_=>[]
 | y::r,j=>if rdyY M j y then j::goR M r (j+1) else goR M r (j+1)
theorem ap_of(md:Region.Mode)(ops:Array Oper)(x y:Oper)(h:apS (sumO md ops x) (sumO md ops y)=true):x.apart ops y=true:=by
 unfold apS sumO at h
 unfold Oper.apart
 simp only at h
 cases hx:x.dst <;> cases hy:y.dst <;> simp only [hx,hy,memN_eq,Bool.and_eq_true,Bool.true_and,Bool.and_true] at h ⊢ <;> try trivial
 rename_i d d'
 refine ⟨⟨h.1.1,?_⟩,h.2⟩
 have h2:=h.1.2
 simp only [Bool.not_eq_true'] at h2
 have h3:d'+1≠d+1:=Nat.ne_of_beq_eq_false h2
 have hne:d'≠d:=fun e=>h3 (by rw [e])
 simpa using hne
theorem gofall(x:Nat × List Nat × Nat)(M i:Nat):∀ (sm:List (Nat × List Nat × Nat)) (k:Nat),goF x M i sm k=true->∀ j y,sm[j]?=some y->(Nat.beq (k+j) i || Nat.testBit M (k+j) || Nat.testBit y.2.2 i || apS x y)=true
 | [],_,_,j,y,hy=>by simp at hy
 | z::r,k,h,j,y,hy=>by
   unfold goF at h
   rw [Bool.and_eq_true] at h
   cases j with
   | zero=>simp at hy;subst hy;exact h.1
   | succ j =>
     have:=gofall x M i r (k+1) h.2 j y (by simpa using hy)
     rwa [show k+1+j=k+(j+1) by omega] at this
theorem bl_getD(n M i:Nat)(b:Bool):(bl n M).getD i b=if i<n then Nat.testBit M i else b:=by
 rw [Array.getD_eq_getD_getElem?]
 unfold bl
 rw [List.getElem?_toArray,List.getElem?_map]
 by_cases h:i<n
 · rw [List.getElem?_range h];simp [h]
 rw [List.getElem?_eq_none (by simpa using h)];simp [h]
theorem sum_get{md:Region.Mode}{ops:Array Oper}{sm:List (Nat × List Nat × Nat)}(hs:sumOf md ops=sm)(i:Nat):sm[i]?=(ops[i]?).map (sumO md ops):=by
 subst hs;unfold sumOf;rw [List.getElem?_map,Array.getElem?_toList]
theorem free_of{md:Region.Mode}{ops:Array Oper}{sm:List (Nat × List Nat × Nat)}{N M i:Nat}(hs:sumOf md ops=sm)(hn:ops.size=N)(h:freeS sm M i=true):Region.free md ops (bl N M) i=true:=by
 unfold freeS at h
 rw [sum_get hs] at h
 unfold Region.free
 cases ho:ops[i]? with
 | none=>rw [ho] at h;cases h
 | some oi =>
   rw [ho] at h
   simp only [Option.map_some] at h
   simp only
   rw [List.all_eq_true]
   intro j hj
   have hj:=List.mem_range.1 hj
   have hoj:ops[j]?=some ops[j]:=Array.getElem?_eq_getElem hj
   have h2:=gofall _ M i sm 0 h j (sumO md ops ops[j]) (by rw [sum_get hs,hoj];rfl)
   rw [Nat.zero_add] at h2
   rw [bl_getD,if_pos (by omega),hoj]
   simp only [Bool.or_eq_true] at h2 ⊢
   rcases h2 with ((h2|h2)|h2)|h2
   · left;left;simpa using Nat.eq_of_beq_eq_true h2
   · left;right;exact h2
   · right;left
     have h3:(edgesOf md ops[j]).contains i=true:=by rw [← fmask_bit];exact h2
     have h4:i ∈ edgesOf md ops[j]:=by simpa using h3
     unfold edgesOf at h4
     rw [List.mem_filterMap] at h4
     obtain ⟨e,he,hi⟩:=h4
     split at hi
     · rename_i hb
       injection hi with hi
       rw [Array.any_eq_true']
       exact ⟨e,by simpa using he,by rw [hb,Bool.true_and];simpa using hi⟩
     cases hi
   right;right;exact ap_of md ops _ _ h2
theorem and_self_iff(m M:Nat):Nat.beq (m &&& M) m=true↔∀ i,Nat.testBit m i=true->Nat.testBit M i=true:=by
 constructor
 · intro h i hi
   have e:=Nat.eq_of_beq_eq_true h
   have:=congrArg (fun z=>Nat.testBit z i) e
   simp only [Nat.testBit_and,hi,Bool.true_and] at this
   exact this
 intro h
 have e:m &&& M=m:=by
   apply Nat.eq_of_testBit_eq
   intro i
   rw [Nat.testBit_and]
   cases hm:Nat.testBit m i with
   | false=>rfl
   | true=>rw [h i hm];rfl
 rw [e];exact Nat.beq_refl m
theorem rdy_of{md:Region.Mode}{ops:Array Oper}{N M i:Nat}(hn:ops.size=N)(hM:M<2 ^ N)(hi:i<N) :
   (!(bl N M).getD i true && ((ops[i]?).map (·.after.all fun e=>!Region.binds md e || (bl N M).getD e.on false)).getD false)=rdyY M i (sumO md ops (ops[i]'(by omega))):=by
 have ho:ops[i]?=some ops[i]:=Array.getElem?_eq_getElem (by omega)
 rw [bl_getD,if_pos hi,ho]
 unfold rdyY
 congr 1
 simp only [Option.map_some,Option.getD_some]
 rw [Bool.eq_iff_iff,and_self_iff,Array.all_eq_true']
 constructor
 · intro h j hj
   have h3:(edgesOf md ops[i]).contains j=true:=by rw [← fmask_bit];exact hj
   have h4:j ∈ edgesOf md ops[i]:=by simpa using h3
   unfold edgesOf at h4
   rw [List.mem_filterMap] at h4
   obtain ⟨e,he,hj'⟩:=h4
   split at hj'
   · rename_i hb
     injection hj' with hj'
     have:=h e (by simpa using he)
     rw [hb,bl_getD,hj'] at this
     by_cases hlt:j<N
     · simpa [hlt] using this
     simp [hlt] at this
   cases hj'
 intro h e he
 cases hb:Region.binds md e with
 | false=>rfl
 | true =>
   have h3:e.on ∈ edgesOf md ops[i]:=by
     unfold edgesOf
     rw [List.mem_filterMap]
     exact ⟨e,by simpa using he,by rw [if_pos hb]⟩
   have h4:=h e.on (by show Nat.testBit (fmask (edgesOf md ops[i])) e.on=true;rw [fmask_bit];simpa using h3)
   rw [bl_getD]
   by_cases hlt:e.on<N
   · simp [hlt,h4]
   have:=Nat.testBit_lt_two_pow (x:=M) (i:=e.on) (Nat.lt_of_lt_of_le hM (Nat.pow_le_pow_right (by omega) (by omega)))
   rw [this] at h4;cases h4
theorem goR_filter(M:Nat):∀ (sm:List (Nat × List Nat × Nat)) (k:Nat),goR M sm k=(List.range' k sm.length).filter fun i=>match sm[i-k]? with|some y=>rdyY M i y|none=>false
 | [],k=>rfl
 | z::r,k=>by
   rw [List.length_cons,List.range'_succ,List.filter_cons]
   simp only [Nat.sub_self,List.getElem?_cons_zero]
   have e:(List.range' (k+1) r.length).filter (fun i=>match (z::r)[i-k]? with|some y=>rdyY M i y|none=>false)=goR M r (k+1):=by
     rw [goR_filter M r (k+1)]
     apply List.filter_congr
     intro i hi
     have:=(List.mem_range'_1.1 hi).1
     rw [show i-k=(i-(k+1))+1 by omega,List.getElem?_cons_succ]
   rw [e]
   rfl
theorem ready_of{md:Region.Mode}{ops:Array Oper}{sm:List (Nat × List Nat × Nat)}{N M:Nat}(hs:sumOf md ops=sm)(hn:ops.size=N)(hM:Nat.blt M (2 ^ N)=true):Region.ready md ops (bl N M)=goR M sm 0:=by
 have hM:M<2 ^ N:=by rw [Nat.blt_eq] at hM;exact hM
 rw [goR_filter]
 have hl:sm.length=ops.size:=by subst hs;simp [sumOf]
 unfold Region.ready
 rw [hl,List.range_eq_range']
 apply List.filter_congr
 intro i hi
 have hi:=(List.mem_range'_1.1 hi).2
 rw [rdy_of hn hM (by omega),Nat.sub_zero,sum_get hs,Array.getElem?_eq_getElem (by omega)]
 rfl
theorem rdy_mem{md:Region.Mode}{ops:Array Oper}{sm:List (Nat × List Nat × Nat)}{N M i:Nat}(hs:sumOf md ops=sm)(hn:ops.size=N)(hM:Nat.blt M (2 ^ N)=true)(h:rdyS sm M i=true):(Region.ready md ops (bl N M)).contains i=true:=by
 unfold rdyS at h
 rw [sum_get hs] at h
 cases ho:ops[i]? with
 | none=>rw [ho] at h;cases h
 | some o =>
   rw [ho] at h
   have hi:i<ops.size:=(Array.getElem?_eq_some_iff.1 ho).1
   have he:ops[i]=o:=by rw [Array.getElem?_eq_getElem hi] at ho;injection ho
   have hM':M<2 ^ N:=by rw [Nat.blt_eq] at hM;exact hM
   rw [List.contains_iff_mem]
   unfold Region.ready
   rw [List.mem_filter,List.mem_range]
   refine ⟨hi,?_⟩
   rw [rdy_of hn hM' (by omega),he]
   exact h
theorem bl_set(N M i:Nat):(bl N M).setIfInBounds i true=bl N (M ||| (1 <<< i)):=by
 apply Array.ext'
 simp only [Array.toList_setIfInBounds]
 apply List.ext_getElem?
 intro j
 unfold bl
 rw [List.getElem?_set]
 simp only [List.getElem?_map,List.length_map,List.length_range]
 by_cases hj:j<N
 · rw [List.getElem?_range hj]
   simp only [Option.map_some]
   rw [Nat.testBit_or,bit1]
   by_cases e:i=j
   · subst e;simp [hj]
   simp [e]
 rw [List.getElem?_eq_none (by simpa using hj)]
 by_cases e:i=j
 · subst e;simp [hj]
 simp [e]
def maskOf(M:Nat)(is:List Nat):Nat:=is.foldl (fun M i=>M ||| (1 <<< i)) M
theorem marks_bl(N:Nat):∀ (is:List Nat) (M:Nat),marks (bl N M) is=bl N (maskOf M is)
 | [],_=>rfl
 | i::is,M=>by
   show marks ((bl N M).setIfInBounds i true) is=_
   rw [bl_set,marks_bl N is];rfl
noncomputable def freeR (P:Program) (ops:Array Oper) (sm:List (Nat × List Nat × Nat)) (p N:Nat) (x:Nat->Value) (n:Nat):List Nat->Nat->List (Nat × Value)->Option (List (Nat × Value))
 | [],_,e=>some e
 | i::r,M,e =>
   match ops[i]? with
   | none=>none
   | some o =>
     if (Nat.blt i p && okD n o.dst && rdyS sm M i && freeS sm M i && Nat.blt M (2 ^ N)) then
       if Region.wanted o (yieldP ops x n e) then
         match pureE P o (evP x n e) with
         | some v=>freeR P ops sm p N x n r (M ||| (1 <<< i)) (putL o.dst v e)
         | none=>none
       else freeR P ops sm p N x n r (M ||| (1 <<< i)) (putL o.dst undef e)
     else none
section
variable{P:Program}{ops:Array Oper}{o:Oper}{w w':World}{Q:Exit->Act->World->Prop}{R:Value->World->Prop}{x:Nat->Value}{n:Nat}{e:List (Nat × Value)}{md:Region.Mode}{S:World->Prop}{p N M:Nat}{sm:List (Nat × List Nat × Nat)}
/-- What is known of a region. -/
structure Rg(md:Region.Mode)(ops:Array Oper)(Q:Exit->Act->World->Prop)(p N:Nat)(sm:List (Nat × List Nat × Nat)):Prop where
 ns:Region.noSelect ops=true
 ph:phaseB md ops p=true
 sum:sumOf md ops=sm
 sz:ops.size=N
 hQ:∀ c d v a w,Q (.panic c) (Act.put a d v) w->Q (.panic c) a w
theorem free_freeR(hsum:sumOf md ops=sm)(hN:ops.size=N):∀ (is:List Nat) (M:Nat) (e e':List (Nat × Value)),freeR P ops sm p N x n is M e=some e'->freeP P md ops p x n is (bl N M) e=some e'
 | [],_,_,_,h=>h
 | i::r,M,e,e',h=>by
   have h0:freeR P ops sm p N x n (i::r) M e=(match ops[i]? with
     | none=>none
     | some o =>
       if (Nat.blt i p && okD n o.dst && rdyS sm M i && freeS sm M i && Nat.blt M (2 ^ N))=true then
         if Region.wanted o (yieldP ops x n e)=true then
           (match pureE P o (evP x n e) with
           | some v=>freeR P ops sm p N x n r (M ||| (1 <<< i)) (putL o.dst v e)
           | none=>none)
         else freeR P ops sm p N x n r (M ||| (1 <<< i)) (putL o.dst undef e)
       else none):=rfl
   have g0:freeP P md ops p x n (i::r) (bl N M) e=(match ops[i]? with
     | none=>none
     | some o =>
       if (decide (i<p) && okD n o.dst && (Region.ready md ops (bl N M)).contains i && Region.free md ops (bl N M) i)=true then
         if Region.wanted o (yieldP ops x n e)=true then
           (match pureE P o (evP x n e) with
           | some v=>freeP P md ops p x n r ((bl N M).setIfInBounds i true) (putL o.dst v e)
           | none=>none)
         else freeP P md ops p x n r ((bl N M).setIfInBounds i true) (putL o.dst undef e)
       else none):=rfl
   rw [h0] at h
   rw [g0]
   clear h0 g0
   generalize ops[i]?=oi at h ⊢
   cases oi with
   | none=>exact h
   | some o =>
     by_cases hc:(Nat.blt i p && okD n o.dst && rdyS sm M i && freeS sm M i && Nat.blt M (2 ^ N))=true
     · have h:=(if_pos hc).symm.trans h
       simp only [Bool.and_eq_true] at hc
       obtain ⟨⟨⟨⟨h1,h2⟩,h3⟩,h4⟩,h5⟩:=hc
       rw [Nat.blt_eq] at h1
       refine (if_pos (by rw [decide_eq_true h1,h2,rdy_mem hsum hN h5 h3,free_of hsum hN h4];rfl)).trans ?_
       by_cases hw:Region.wanted o (yieldP ops x n e)=true
       · have h:=(if_pos hw).symm.trans h
         refine (if_pos hw).trans ?_
         generalize pureE P o (evP x n e)=ov at h ⊢
         cases ov with
         | none=>exact h
         | some v =>
           have g:=free_freeR hsum hN r _ _ e' h
           rw [← bl_set] at g
           exact g
       have h:=(if_neg hw).symm.trans h
       refine (if_neg hw).trans ?_
       have g:=free_freeR hsum hN r _ _ e' h
       rw [← bl_set] at g
       exact g
     have h:=(if_neg hc).symm.trans h
     cases h
theorem pR_v{f:Nat}(i:Nat)(d:Option Nat)(v:Value)(M':Nat)(hi:ops[i]?=some o)(hs:Rg md ops Q p N sm)(hS:S w)
   (hv:∀ W,S W->(execOp (patch x n e).eval o).run P W=.ok (.value v) W) (k:wpAnyT P md ops Q S p f (bl N M') (patch x n (putL d v e)) w)
   (hM:M ||| (1 <<< i)=M':=by kernel_rfl) (hd:o.dst=d:=by kernel_rfl) (hok:okD n d=true:=by kernel_rfl) (hf:(freeS sm M i && rdyS sm M i && Nat.blt M (2 ^ N) && Nat.blt i p)=true:=by kernel_rfl) (hw:Region.wanted o (yieldP ops x n e)=true:=by kernel_rfl):wpAnyT P md ops Q S p (f+1) (bl N M) (patch x n e) w:=by
 simp only [Bool.and_eq_true,Nat.blt_eq] at hf
 obtain ⟨⟨⟨h1,h2⟩,h3⟩,h4⟩:=hf
 have h3':Nat.blt M (2 ^ N)=true:=by rw [Nat.blt_eq];exact h3
 exact pQ_v i d v (bl N M') (by rw [marks_bl];show bl N (M ||| (1 <<< i))=_;rw [hM]) hi hd hok hs.ns (free_of hs.sum hs.sz h1) (rdy_mem hs.sum hs.sz h3' h2) hs.ph (decide_eq_true h4) hs.hQ hw hS hv k
theorem pR_to{f:Nat}(i:Nat)(d:Option Nat)(M':Nat)(hi:ops[i]?=some o)(hs:Rg md ops Q p N sm)
   (h:OpTo P o (patch x n e) w R) (k:∀ v w',R v w'->(i<p->S w')/\wpAnyT P md ops Q S p f (bl N M') (patch x n (putL d v e)) w')
   (hM:M ||| (1 <<< i)=M':=by kernel_rfl) (hd:o.dst=d:=by kernel_rfl) (hok:okD n d=true:=by kernel_rfl) (hb:Nat.blt M (2 ^ N)=true:=by kernel_rfl) (hr:goR M sm 0=[i]:=by kernel_rfl) (hw:Region.wanted o (yieldP ops x n e)=true:=by kernel_rfl):wpAnyT P md ops Q S p (f+1) (bl N M) (patch x n e) w:=
 pQ_to i d (bl N M') (by rw [marks_bl];show bl N (M ||| (1 <<< i))=_;rw [hM]) hi hd hok (by rw [ready_of hs.sum hs.sz hb,hr]) hw h k
theorem pR_op{f:Nat}(i:Nat)(d:Option Nat)(M':Nat)(hi:ops[i]?=some o)
   (h:OpTo P o (patch x n e) w R) (k:∀ v w',R v w'->(i<p->S w')/\wpAnyT P md ops Q S p f (bl N M') (patch x n (putL d v e)) w')
   (hM:M ||| (1 <<< i)=M':=by kernel_rfl) (hd:o.dst=d:=by kernel_rfl) (hok:okD n d=true:=by kernel_rfl) (hw:Region.wanted o (yieldP ops x n e)=true:=by kernel_rfl) :
   wpOp P ops Q i (fun a' w'=>(i<p->S w')/\wpAnyT P md ops Q S p f ((bl N M).setIfInBounds i true) a' w') (patch x n e) w:=
 pQ_op i d (bl N M') (by rw [marks_bl];show bl N (M ||| (1 <<< i))=_;rw [hM]) hi hd hok hw h k
theorem pR_or{f:Nat}(i j:Nat)(hs:Rg md ops Q p N sm)
   (h1:wpOp P ops Q i (fun a' w'=>(i<p->S w')/\wpAnyT P md ops Q S p f ((bl N M).setIfInBounds i true) a' w') (patch x n e) w)
   (h2:wpOp P ops Q j (fun a' w'=>(j<p->S w')/\wpAnyT P md ops Q S p f ((bl N M).setIfInBounds j true) a' w') (patch x n e) w) (hb:Nat.blt M (2 ^ N)=true:=by kernel_rfl) (hr:goR M sm 0=[i,j]:=by kernel_rfl):wpAnyT P md ops Q S p (f+1) (bl N M) (patch x n e) w:=
 pH_or i j (by rw [ready_of hs.sum hs.sz hb,hr]) h1 h2
theorem pR_done{a:Act}(hs:Rg md ops Q p N sm)(h:Q .normal a w)(fuel:Nat)(hb:Nat.blt M (2 ^ N)=true:=by kernel_rfl)(hr:goR M sm 0=[]:=by kernel_rfl):wpAnyT P md ops Q S p fuel (bl N M) a w:=
 pH_done (by rw [ready_of hs.sum hs.sz hb,hr]) h fuel
end
end
section
open Go.RowKit Go.QT
/-- What stands behind. -/
inductive Kn where
 | seq (c:Code)
 | blk (i:Nat)
 | stop (K:Act->World->Prop)
inductive Cu where
 | code (c:Code)
 | ops (all:Array Oper) (l:List Oper)
 | ex (e:Exit)
structure St where
 cu:Cu
 ks:List Kn
 e:List (Nat × Value)
def KQ(P:Program)(Q:Exit->Act->World->Prop):List Kn->Exit->Act->World->Prop
 | []=>Q
 | .seq c::ks=>Exit.then (c.wp P (KQ P Q ks)) (KQ P Q ks)
 | .blk i::ks=>Exit.inBlock i (KQ P Q ks)
 | .stop K::ks=>Exit.then K (KQ P Q ks)
def runC(P:Program)(Q:Exit->Act->World->Prop)(cu:Cu)(ks:List Kn)(a:Act)(w:World):Prop:=
 match cu with
 | .code c=>c.wp P (KQ P Q ks) a w
 | .ops all l=>wpList P all (KQ P Q ks) l a w
 | .ex e=>KQ P Q ks e a w
structure M(P:Program)(fn:Func)(R:Ending->World->Prop)(x:Nat->Value)(n:Nat)(s:St)(w:World):Prop where
 run:runC P (bodyPost P fn R) s.cu s.ks (patch x n s.e) w
def isD(t:Nat):Option Nat->Bool
 | some d=>Nat.beq d t
 | none=>false
/-- What may need no world. -/
def softB:Op->Bool
 | .move _ | .assign _ | .pick .. | .nilCheck _ | .fieldAddr .. | .extract .. | .binOp .. | .unOp .. | .slice .. | .build .. | .typeAssert .. | .makeInterface .. | .makeFunc ..=>true
 | .call c=>match c.callee with | .builtin .len=>true|_=>false
 | _=>false
def isC(t:Nat):Operand->Bool
 | .tmp d=>Nat.beq (d+1000000) t
 | _=>false
/-- One step, where no world is asked; it stops ahead of the operation that gives the slot t, of a test of the slot t - 1000000, of the region t - 2000000. -/
noncomputable def stp (P:Program) (x:Nat->Value) (n t:Nat) (cu:Cu) (ks:List Kn) (e:List (Nat × Value)):Option St:=
 match cu with
 | .code c =>
   match c with
   | .skip=>some ⟨.ex .normal,ks,e⟩
   | .ret=>some ⟨.ex .ret,ks,e⟩
   | .exit i=>some ⟨.ex (.exit i),ks,e⟩
   | .seq a b=>some ⟨.code a,.seq b::ks,e⟩
   | .block i b=>some ⟨.code b,.blk i::ks,e⟩
   | .cond o a b =>
     bif isC t o then none else
     match evP x n e o with
     | .bool true=>some ⟨.code a,ks,e⟩
     | .bool false=>some ⟨.code b,ks,e⟩
     | _=>none
   | .region i ops false=>bif Nat.beq (i+2000000) t then none else some ⟨.ops ops ops.toList,ks,e⟩
   | _=>none
 | .ops all l =>
   match l with
   | []=>some ⟨.ex .normal,ks,e⟩
   | o::l =>
     bif isD t o.dst then none else
     bif okD n o.dst then
       bif Region.wanted o (yieldP all x n e) then
         bif softB o.op then
           match pureE P o (evP x n e) with
           | some v=>some ⟨.ops all l,ks,putL o.dst v e⟩
           | none=>none
         else none
       else some ⟨.ops all l,ks,putL o.dst undef e⟩
     else none
 | .ex ex =>
   match ks with
   | []=>none
   | .seq c::ks =>
     match ex with
     | .normal=>some ⟨.code c,ks,e⟩
     | ex=>some ⟨.ex ex,ks,e⟩
   | .blk i::ks =>
     match ex with
     | .exit j=>bif Nat.beq j i then some ⟨.ex .normal,ks,e⟩ else some ⟨.ex (.exit j),ks,e⟩
     | ex=>some ⟨.ex ex,ks,e⟩
   | .stop _::ks =>
     match ex with
     | .normal=>none
     | ex=>some ⟨.ex ex,ks,e⟩
noncomputable def go (P:Program) (x:Nat->Value) (n t:Nat) (s:St):St:=
 Nat.rec (fun s=>s) (fun _ ih (s:St)=>match stp P x n t s.cu s.ks s.e with|some s'=>ih s' | none=>s) 100000 s
section
variable{P:Program}{fn:Func}{R:Ending->World->Prop}{x:Nat->Value}{n:Nat}{w:World}
theorem stp_ok{Q:Exit->Act->World->Prop}(t:Nat)(cu:Cu)(ks:List Kn)(e:List (Nat × Value))(s':St)(h:stp P x n t cu ks e=some s')(k:runC P Q s'.cu s'.ks (patch x n s'.e) w):runC P Q cu ks (patch x n e) w:=by
 cases cu with
 | code c =>
   cases c with
   | skip=>injection h with h;subst h;exact wp_skip k
   | ret=>injection h with h;subst h;exact wp_ret k
   | exit i=>injection h with h;subst h;exact wp_exit k
   | seq a b=>injection h with h;subst h;exact wp_seq k
   | block i b=>injection h with h;subst h;exact wp_block k
   | cond o a b =>
     simp only [stp] at h
     cases hi:isC t o with
     | true=>rw [hi] at h;cases h
     | false =>
     rw [hi] at h
     simp only [cond_false] at h
     split at h
     · rename_i hb
       injection h with h;subst h
       exact wp_cond_true (by rw [eval_patch];exact hb) k
     · rename_i hb
       injection h with h;subst h
       exact wp_cond_false (by rw [eval_patch];exact hb) k
     cases h
   | region i ops d =>
     cases d with
     | false =>
       simp only [stp] at h
       cases hi:Nat.beq (i+2000000) t with
       | true=>rw [hi] at h;cases h
       | false =>
         rw [hi] at h
         injection h with h;subst h;exact wp_region_list k
     | true=>cases h
   | _=>cases h
 | ops all l =>
   cases l with
   | nil=>injection h with h;subst h;exact k
   | cons o l =>
     simp only [stp] at h
     cases hi:isD t o.dst with
     | true=>rw [hi] at h;cases h
     | false =>
       rw [hi] at h
       cases hd:okD n o.dst with
       | false=>rw [hd] at h;cases h
       | true =>
         rw [hd] at h
         simp only [cond_true,cond_false] at h
         show wpList P all (KQ P Q ks) (o::l) _ w
         refine wpList_step fun K hK=>?_
         rw [yield_patch]
         cases hw:Region.wanted o (yieldP all x n e) with
         | false =>
           rw [hw] at h
           injection h with h;subst h
           rw [if_neg (by simp),put_patch _ _ _ _ _ hd]
           exact hK _ _ k
         | true =>
           rw [hw] at h
           simp only [cond_true] at h
           cases hso:softB o.op with
           | false=>rw [hso] at h;cases h
           | true =>
           rw [hso] at h
           simp only [cond_true] at h
           split at h
           · rename_i v hv
             injection h with h;subst h
             rw [pureE_eq] at hv
             rw [if_pos rfl]
             unfold Oper.wp
             rw [pureOp_run hv]
             refine hK _ _ ?_
             rw [put_patch _ _ _ _ _ hd]
             exact k
           cases h
 | ex ex =>
   cases ks with
   | nil=>cases h
   | cons y ks =>
     cases y with
     | seq c =>
       cases ex <;> (injection h with h;subst h;exact k)
     | blk i =>
       cases ex with
       | exit j =>
         simp only [stp] at h
         show (if j=i then KQ P Q ks .normal _ w else KQ P Q ks (.exit j) _ w)
         cases hj:Nat.beq j i with
         | true =>
           rw [hj] at h
           injection h with h;subst h
           rw [if_pos (Nat.eq_of_beq_eq_true hj)];exact k
         | false =>
           rw [hj] at h
           injection h with h;subst h
           rw [if_neg (Nat.ne_of_beq_eq_false hj)];exact k
       | _=>injection h with h;subst h;exact k
     | stop K =>
       cases ex with
       | normal=>cases h
       | _=>injection h with h;subst h;exact k
theorem go_ok(t:Nat){s:St}(k:M P fn R x n (go P x n t s) w):M P fn R x n s w:=by
 have key:∀ (m:Nat) (s:St),M P fn R x n (Nat.rec (motive:=fun _=>St->St) (fun s=>s) (fun _ ih (s:St)=>match stp P x n t s.cu s.ks s.e with|some s'=>ih s' | none=>s) m s) w->M P fn R x n s w:=by
   intro m
   induction m with
   | zero=>exact fun s h=>h
   | succ m ih =>
     intro s h
     dsimp only at h
     split at h
     · rename_i s' hs
       exact ⟨stp_ok t s.cu s.ks s.e s' hs (ih s' h).run⟩
     exact h
 exact key 100000 s k
/-! ### What it stopped at -/
def hdO(s:St):Oper:=match s.cu with | .ops _ (o::_)=>o|_=>default
noncomputable def opOk (x:Nat->Value) (n:Nat) (s:St):Bool:=
 match s.cu with
 | .ops all (o::_)=>okD n o.dst && Region.wanted o (yieldP all x n s.e)
 | _=>false
def putS(s:St)(v:Value):St:=
 match s.cu with
 | .ops all (o::l)=>⟨.ops all l,s.ks,putL o.dst v s.e⟩
 | _=>s
theorem op_step{s:St}(ok:opOk x n s=true)(h:∀ K:Act->World->Prop,(∀ v w',M P fn R x n (putS s v) w'->K ((patch x n s.e).put (hdO s).dst v) w')->(hdO s).wp P (patch x n s.e) w K (KQ P (bodyPost P fn R) s.ks)):M P fn R x n s w:=by
 obtain ⟨cu,ks,e⟩:=s
 cases cu with
 | code c=>cases ok
 | ex e=>cases ok
 | ops all l =>
   cases l with
   | nil=>cases ok
   | cons o l =>
     have ok:(okD n o.dst && Region.wanted o (yieldP all x n e))=true:=ok
     rw [Bool.and_eq_true] at ok
     refine ⟨wpList_step fun K hK=>?_⟩
     rw [yield_patch,if_pos ok.2]
     refine h K fun v w' hm=>?_
     show K ((patch x n e).put o.dst v) w'
     rw [put_patch _ _ _ _ _ ok.1]
     exact hK _ _ hm.run
/-- What an operation comes to. -/
theorem mT{s:St}{U:Value->World->Prop}(h:OpTo P (hdO (go P x n n s)) (patch x n (go P x n n s).e) w U)(k:∀ v w',U v w'->M P fn R x n (putS (go P x n n s) v) w')(ok:opOk x n (go P x n n s)=true:=by kernel_rfl):M P fn R x n s w:=
 go_ok n (op_step ok fun _K hK=>h.goes _ _ fun v w' hr=>hK v w' (k v w' hr))
/-- The same at the slot t. -/
theorem mU{s:St}{U:Value->World->Prop}(t:Nat)(h:OpTo P (hdO (go P x n t s)) (patch x n (go P x n t s).e) w U)(k:∀ v w',U v w'->M P fn R x n (putS (go P x n t s) v) w')(ok:opOk x n (go P x n t s)=true:=by kernel_rfl):M P fn R x n s w:=
 go_ok t (op_step ok fun _K hK=>h.goes _ _ fun v w' hr=>hK v w' (k v w' hr))
theorem mV{s:St}{v:Value}(hv:(execOp (patch x n (go P x n n s).e).eval (hdO (go P x n n s))).run P w=.ok (.value v) w)(k:M P fn R x n (putS (go P x n n s) v) w)(ok:opOk x n (go P x n n s)=true:=by kernel_rfl):M P fn R x n s w:=
 mT (U:=fun u w'=>u=v/\w'=w) (OpTo.run v hv ⟨rfl,rfl⟩) (fun _ _ h=>by obtain ⟨rfl,rfl⟩:=h;exact k) ok
theorem mW{s:St}{v:Value}(t:Nat)(hv:(execOp (patch x n (go P x n t s).e).eval (hdO (go P x n t s))).run P w=.ok (.value v) w)(k:M P fn R x n (putS (go P x n t s) v) w)(ok:opOk x n (go P x n t s)=true:=by kernel_rfl):M P fn R x n s w:=
 mU (U:=fun u w'=>u=v/\w'=w) t (OpTo.run v hv ⟨rfl,rfl⟩) (fun _ _ h=>by obtain ⟨rfl,rfl⟩:=h;exact k) ok
/-! ### Loads of what is held -/
noncomputable def szT (P:Program) (t:TypeId):Nat:=match P.info? t with|some i=>i.size|none=>0
noncomputable def ldv (P:Program) (o:Oper) (ev:Operand->Value) (cs:List Value):Nat × Value:=
 match o.op with
 | .load t y =>
   match ev y with
   | .pointer (some ⟨b,k,none⟩) =>
     match pureVal P (isAgg t) with
     | some false=>match cs[k]? with|some v=>(b,v)|none=>(0,undef)
     | _=>(b,.agg ((cs.drop k).take (szT P t)).toArray)
   | _=>(0,undef)
 | _=>(0,undef)
noncomputable def ldOk (P:Program) (o:Oper) (ev:Operand->Value) (cs:List Value):Bool:=
 match o.op with
 | .load t y =>
   match ev y with
   | .pointer (some ⟨_,k,none⟩) =>
     match pureVal P (isAgg t) with
     | some false=>match cs[k]? with|some _=>true|none=>false
     | _=>rowB P t (szT P t) && Nat.ble (k+szT P t) cs.length
   | _=>false
 | _=>false
theorem ld_run{o:Oper}{a:Act}{g:Nat}{T:TypeId}{cs:List Value}(hb:Blk w g T cs)(hg:(ldv P o a.eval cs).1=g)(ok:ldOk P o a.eval cs=true):(execOp a.eval o).run P w=.ok (.value (ldv P o a.eval cs).2) w:=by
 unfold ldOk at ok
 split at ok
 · rename_i t y ho
   split at ok
   · rename_i b k hx
     split at ok
     · rename_i ht
       split at ok
       · rename_i v hk
         have e:ldv P o a.eval cs=(b,v):=by unfold ldv;simp only [ho,hx,ht,hk]
         rw [e] at hg ⊢
         subst hg
         exact e_load hb t y ho k v hx hk ht
       cases ok
     rename_i hn
     rw [Bool.and_eq_true] at ok
     have hle:=Nat.le_of_ble_eq_true ok.2
     have e:ldv P o a.eval cs=(b,.agg ((cs.drop k).take (szT P t)).toArray):=by
       unfold ldv;simp only [ho,hx]
     rw [e] at hg ⊢
     subst hg
     have hl:((cs.drop k).take (szT P t)).length=szT P t:=by rw [List.length_take,List.length_drop];omega
     exact e_loads hb t y ho k _ hx (by rw [hl]) (by rw [hl];exact ok.1)
   cases ok
 cases ok
section
variable{F0:Nat->Prop}{w0:World}{ro rs:List Res}{g:Nat}{T:TypeId}{cs:List Value}
theorem ml{s:St}(hb:Blk w g T cs)(k:M P fn R x n (putS (go P x n n s) (ldv P (hdO (go P x n n s)) (evP x n (go P x n n s).e) cs).2) w)(hg:(ldv P (hdO (go P x n n s)) (evP x n (go P x n n s).e) cs).1=g:=by kernel_rfl)(ok:ldOk P (hdO (go P x n n s)) (evP x n (go P x n n s).e) cs=true:=by kernel_rfl)(oo:opOk x n (go P x n n s)=true:=by kernel_rfl):M P fn R x n s w:=by
 rw [← eval_patch] at hg ok k
 exact mV (ld_run hb hg ok) k oo
theorem mr{s:St}(h:Hp F0 w0 w ro rs)(i:Nat)(k:M P fn R x n (putS (go P x n n s) (ldv P (hdO (go P x n n s)) (evP x n (go P x n n s).e) cs).2) w)(hi:ro[i]?=some (rBlk g T cs):=by rfl)(hg:(ldv P (hdO (go P x n n s)) (evP x n (go P x n n s).e) cs).1=g:=by kernel_rfl)(ok:ldOk P (hdO (go P x n n s)) (evP x n (go P x n n s).e) cs=true:=by kernel_rfl)(oo:opOk x n (go P x n n s)=true:=by kernel_rfl):M P fn R x n s w:=
 ml (h.rd i hi) k hg ok oo
theorem ma{s:St}(h:Hp F0 w0 w ro rs)(i:Nat)(k:M P fn R x n (putS (go P x n n s) (ldv P (hdO (go P x n n s)) (evP x n (go P x n n s).e) cs).2) w)(hi:rs[i]?=some (rBlk g T cs):=by rfl)(hg:(ldv P (hdO (go P x n n s)) (evP x n (go P x n n s).e) cs).1=g:=by kernel_rfl)(ok:ldOk P (hdO (go P x n n s)) (evP x n (go P x n n s).e) cs=true:=by kernel_rfl)(oo:opOk x n (go P x n n s)=true:=by kernel_rfl):M P fn R x n s w:=
 ml (h.at_ i hi) k hg ok oo
end
def opT(o:Oper):TypeId:=match o.op with | .store t _ _=>t | .load t _=>t|_=>0
def opX(o:Oper):Operand:=match o.op with | .store _ y _=>y | .load _ y=>y|_=>.const .nilIface
def opY(o:Oper):Operand:=match o.op with | .store _ _ z=>z|_=>.const .nilIface
def cutP:Value->Nat × Nat | .pointer (some ⟨b,k,none⟩)=>(b,k)|_=>(0,0)
section
variable{F0:Nat->Prop}{w0:World}{ro rs:List Res}{g:Nat}{T:TypeId}{cs:List Value}{o:Oper}{a:Act}
/-- A store of one cell into a block that is held. -/
theorem xS(h:Hp F0 w0 w ro rs)(i:Nat)(es:List Value)(hi:rs[i]?=some (rBlk g T cs):=by rfl)(ho:o.op=.store (opT o) (opX o) (opY o):=by kernel_rfl)(hx:a.eval (opX o)=pt g (cutP (a.eval (opX o))).2:=by kernel_rfl)(hk:decide ((cutP (a.eval (opX o))).2<cs.length)=true:=by kernel_rfl)
   (hsz:(P.info? (opT o)).map (·.size)=some 1:=by kernel_rfl) (h1:(a.eval (opY o)).oneCell'=true:=by kernel_rfl) (hv:(a.eval (opY o)).cells=#[a.eval (opY o)]:=by kernel_rfl) (he:es=cs.set (cutP (a.eval (opX o))).2 (a.eval (opY o)):=by kernel_rfl) :
   OpTo P o a w (fun _ w'=>Hp F0 w0 w' ro (rs.set i (rBlk g T es))):=x_store h i hi _ _ _ ho _ _ es hx rfl hk hsz h1 hv he
/-- A store of a row. -/
theorem xR(h:Hp F0 w0 w ro rs)(i:Nat)(es:List Value)(hi:rs[i]?=some (rBlk g T cs):=by rfl)(ho:o.op=.store (opT o) (opX o) (opY o):=by kernel_rfl)(hx:a.eval (opX o)=pt g (cutP (a.eval (opX o))).2:=by kernel_rfl)(hy:a.eval (opY o)=.agg (a.eval (opY o)).cells.toList.toArray:=by kernel_rfl)(hk:decide ((cutP (a.eval (opX o))).2+(a.eval (opY o)).cells.toList.length<=cs.length)=true:=by kernel_rfl)
   (hsz:(P.info? (opT o)).map (·.size)=some (a.eval (opY o)).cells.toList.length:=by kernel_rfl) (h1:(a.eval (opY o)).cells.toList.all (·.oneCell')=true:=by kernel_rfl) (he:es=cs.take (cutP (a.eval (opX o))).2++(a.eval (opY o)).cells.toList++cs.drop ((cutP (a.eval (opX o))).2+(a.eval (opY o)).cells.toList.length):=by kernel_rfl) :
   OpTo P o a w (fun _ w'=>Hp F0 w0 w' ro (rs.set i (rBlk g T es))):=x_stores h i hi _ _ _ ho _ _ es hx hy hk hsz h1 he
end
def bT(o:Oper):TypeId:=match o.op with | .binOp _ t _ _ _=>t|_=>0
def bX(o:Oper):Operand:=match o.op with | .binOp _ _ y _ _=>y|_=>.const .nilIface
def bY(o:Oper):Operand:=match o.op with | .binOp _ _ _ z _=>z|_=>.const .nilIface
def bU(o:Oper):TypeId:=match o.op with | .binOp _ _ _ _ u=>u|_=>0
def bK(o:Oper):Option BinOp:=match o.op with | .binOp k _ _ _ _=>some k|_=>none
/-- An operation on two numbers. -/
theorem bO{o:Oper}{k:BinOp}(h:bK o=some k:=by kernel_rfl):o.op=.binOp k (bT o) (bX o) (bY o) (bU o):=by
 unfold bK at h
 split at h
 · rename_i ho
   injection h with h;subst h
   unfold bT bX bY bU;simp only [ho]
 cases h
/-! ### Branches -/
noncomputable def cnd (x:Nat->Value) (n:Nat) (s:St):Value:=match s.cu with | .code (.cond o _ _)=>evP x n s.e o|_=>undef
def pick(b:Bool)(s:St):St:=match s.cu with | .code (.cond _ c d)=>⟨.code (bif b then c else d),s.ks,s.e⟩|_=>s
theorem pick_ok{s:St}{b:Bool}(hc:cnd x n s=.bool b)(k:M P fn R x n (pick b s) w):M P fn R x n s w:=by
 obtain ⟨cu,ks,e⟩:=s
 cases cu with
 | code c =>
   cases c with
   | cond o c d =>
     have hc:evP x n e o=.bool b:=hc
     refine ⟨wp_cond (t:=b) (by rw [eval_patch];exact hc) ?_⟩
     have:=k.run
     cases b
     · exact this
     exact this
   | _=>exact k
 | _=>exact k
theorem mB{s:St}(t:Nat)(b:Bool)(hc:cnd x n (go P x n (t+1000000) s)=.bool b)(k:M P fn R x n (pick b (go P x n (t+1000000) s)) w):M P fn R x n s w:=go_ok (t+1000000) (pick_ok hc k)
theorem m_if{s:St}(t:Nat)(p:Prop)[Decidable p](hc:cnd x n (go P x n (t+1000000) s)=.bool (decide p))(ht:p->M P fn R x n (pick true (go P x n (t+1000000) s)) w)(hf:¬ p->M P fn R x n (pick false (go P x n (t+1000000) s)) w):M P fn R x n s w:=by
 by_cases h:p
 · exact mB t true (by rw [hc,decide_eq_true h]) (ht h)
 exact mB t false (by rw [hc,decide_eq_false h]) (hf h)
theorem m_ifeq{s:St}(t:Nat)(a b:Int)(hc:cnd x n (go P x n (t+1000000) s)=.bool (a == b))(ht:a=b->M P fn R x n (pick true (go P x n (t+1000000) s)) w)(hf:a≠b->M P fn R x n (pick false (go P x n (t+1000000) s)) w):M P fn R x n s w:=by
 by_cases h:a=b
 · exact mB t true (by rw [hc,beq_iff_eq.2 h]) (ht h)
 exact mB t false (by rw [hc];simp [h]) (hf h)
theorem m_split{s:St}(t:Nat)(b:Bool)(hc:cnd x n (go P x n (t+1000000) s)=.bool b)(ht:b=true->M P fn R x n (pick true (go P x n (t+1000000) s)) w)(hf:b=false->M P fn R x n (pick false (go P x n (t+1000000) s)) w):M P fn R x n s w:=by
 cases b
 · exact mB t false hc (hf rfl)
 exact mB t true hc (ht rfl)
/-- What comes behind is told once: K. -/
structure At(P:Program)(fn:Func)(R:Ending->World->Prop)(cu:Cu)(ks:List Kn)(a:Act)(w:World):Prop where
 run:runC P (bodyPost P fn R) cu ks a w
theorem pM{e l:List (Nat × Value)}(h:l.map (fun p=>look x e p.1)=l.map (·.2):=by kernel_rfl):patch x n e=patch (look x e) n l:=by
 unfold patch
 congr 2
 have:look x e=look (look x e) l:=funext fun i=>(look_dead (look x e) l h i).symm
 rw [← this]
theorem mAt{cu:Cu}{ks:List Kn}{e:List (Nat × Value)}(h:M P fn R x n ⟨cu,ks,e⟩ w):At P fn R cu ks (patch x n e) w:=⟨h.run⟩
def atK(s:St):Option (Act->World->Prop):=match s.cu,s.ks with | .ex .normal,.stop K::_=>some K|_,_=>none
theorem mK{s:St}(K:Act->World->Prop)(h:K (patch x n (go P x n n s).e) w)(ok:atK (go P x n n s)=some K:=by kernel_rfl):M P fn R x n s w:=by
 refine go_ok n ?_
 generalize go P x n n s=t at h ok
 obtain ⟨cu,ks,e⟩:=t
 cases cu with
 | ex ex =>
   cases ex with
   | normal =>
     cases ks with
     | nil=>cases ok
     | cons y ks=>cases y with
       | stop K' =>
         have e:K'=K:=Option.some.inj ok
         subst e;exact ⟨h⟩
       | _=>cases ok
   | _=>cases ok
 | _=>cases ok
def lpc(s:St):Code:=match s.cu with | .code (.loop c)=>c|_=>.skip
def isL(s:St):Bool:=match s.cu with | .code (.loop _)=>true|_=>false
theorem mL{s:St}(J:Nat->(Nat->Value)->Act->World->Prop)(h0:∃ m y,J m y (patch x n (go P x n n s).e) w)
   (round:∀ m y a w,J m y a w->∀ K:Act->World->Prop,(∀ a' w',(∃ m' y',m'<m/\J m' y' a' w')->K a' w')->At P fn R (.code (lpc (go P x n n s))) (.stop K::(go P x n n s).ks) a w) (ok:isL (go P x n n s)=true:=by kernel_rfl):M P fn R x n s w:=by
 refine go_ok n ?_
 generalize go P x n n s=t at h0 round ok
 obtain ⟨cu,ks,e⟩:=t
 cases cu with
 | code c =>
   cases c with
   | loop c =>
     refine ⟨wp_loopm (fun m _ a w=>∃ y,J m y a w) h0 fun m _ a w ⟨y,hy⟩=>?_⟩
     exact (round m y a w hy _ fun a' w' ⟨m',y',h1,h2⟩=>⟨m',h1,y',h2⟩).run
   | _=>cases ok
 | _=>cases ok
/-! ### A call's begin and end -/
def fnOf(P:Program)(f:FuncId):Func:=(P.funcs[f]?).getD default
def ent(fn:Func)(args:List Value):St:=⟨.code (fn.body.getD .skip),[],args.zipIdx.map fun p=>(p.2,p.1)⟩
def udA(args:List Value)(n:Nat):Act:=act0 args (n-args.length)
def enOk(P:Program)(f:FuncId)(n:Nat):Bool:=match P.funcs[f]? with|some fn=>fn.body.isSome && fn.ntmps == n|none=>false
theorem mE{f:FuncId}{args:List Value}{R:Ending->World->Prop}(n:Nat)(h:M P (fnOf P f) R (dead (udA args n)) n (ent (fnOf P f) args) w)(ok:enOk P f n=true:=by kernel_rfl)(hl:Nat.ble args.length n=true:=by kernel_rfl)
   (hd:(args.zipIdx.map fun p=>(p.2,p.1)).map (fun p=>dead (udA args n) p.1)=(args.zipIdx.map fun p=>(p.2,p.1)).map (·.2):=by kernel_rfl):Calls P f args.toArray w R:=by
 have hl:=Nat.le_of_ble_eq_true hl
 unfold enOk at ok
 split at ok
 · rename_i fn hf
   rw [Bool.and_eq_true] at ok
   have e:fnOf P f=fn:=by unfold fnOf;rw [hf];rfl
   rw [e] at h
   cases hb:fn.body with
   | none=>rw [hb] at ok;cases ok.1
   | some c =>
     have hn:fn.ntmps=n:=by simpa using ok.2
     refine enter (n-args.length) hf hb (by rw [hn]) ?_
     have h1:=h.run
     have e1:ent fn args=⟨.code c,[],args.zipIdx.map fun p=>(p.2,p.1)⟩:=by unfold ent;rw [hb];rfl
     rw [e1] at h1
     have e2:=patch_eq (udA args n) n _ (by simp [udA,act0];omega) rfl hd
     have h2:c.wp P (bodyPost P fn R) (patch (dead (udA args n)) n (args.zipIdx.map fun p=>(p.2,p.1))) w:=h1
     rw [← e2] at h2
     exact h2
 cases ok
def isE(s:St):Bool:=match s.cu,s.ks with | .ex .ret,[]=>true | .ex .normal,[]=>true|_,_=>false
theorem mF{s:St}(h:bodyPost P fn R .ret (patch x n (go P x n n s).e) w)(ok:isE (go P x n n s)=true:=by kernel_rfl):M P fn R x n s w:=by
 refine go_ok n ?_
 generalize go P x n n s=t at h ok
 obtain ⟨cu,ks,e⟩:=t
 cases cu with
 | ex ex =>
   cases ks with
   | nil =>
     cases ex with
     | ret=>exact ⟨h⟩
     | normal=>exact ⟨h⟩
     | _=>cases ok
   | cons y ks=>cases ex <;> cases ok
 | _=>cases ok
noncomputable def rsl (x:Nat->Value) (n:Nat) (e:List (Nat × Value)) (t:Tmp):Value:=bif Nat.blt t n then look x e t else undef
noncomputable def rv (fn:Func) (x:Nat->Value) (n:Nat) (e:List (Nat × Value)):Option Value:=
 match fn.results.toList with
 | []=>some (.tuple #[])
 | [.tmp i]=>some (rsl x n e i)
 | [.tmp i,.tmp j]=>some (.tuple #[rsl x n e i,rsl x n e j])
 | [.tmp i,.tmp j,.tmp k]=>some (.tuple #[rsl x n e i,rsl x n e j,rsl x n e k])
 | _=>none
theorem rsl_eq(e:List (Nat × Value))(t:Tmp):(patch x n e).tmps.getD t undef=rsl x n e t:=congrFun (eval_patch x n e) (.tmp t)
theorem rv_ok{e:List (Nat × Value)}{v:Value}(hv:rv fn x n e=some v)(h:R (.returned v) w):bodyPost P fn R .ret (patch x n e) w:=by
 unfold rv at hv
 have hf:∀ l,fn.results.toList=l->fn.results=l.toArray:=fun l hl=>by rw [← hl]
 split at hv
 · rename_i hl;injection hv with hv;subst hv;exact post_0 (hf _ hl) rfl h
 · rename_i i hl;injection hv with hv;subst hv;exact post_1 (hf _ hl) rfl (rtmp (rsl_eq e i)) h
 · rename_i i j hl;injection hv with hv;subst hv;exact post_2 (hf _ hl) rfl (rtmp (rsl_eq e i)) (rtmp (rsl_eq e j)) h
 · rename_i i j k hl;injection hv with hv;subst hv;exact post_3 (hf _ hl) rfl (rtmp (rsl_eq e i)) (rtmp (rsl_eq e j)) (rtmp (rsl_eq e k)) h
 cases hv
theorem mP{s:St}(v:Value)(h:R (.returned v) w)(hv:rv fn x n (go P x n n s).e=some v:=by kernel_rfl)(ok:isE (go P x n n s)=true:=by kernel_rfl):M P fn R x n s w:=mF (rv_ok hv h) ok
/-! ### Regions that draw -/
def opsD(s:St):Array Oper:=match s.cu with | .code (.region _ ops true)=>ops|_=>#[]
def isDr(s:St):Bool:=match s.cu with | .code (.region _ _ true)=>true|_=>false
def p1(p m:Nat):Bool:=!(Nat.beq (m &&& (2 ^ p-1)) (2 ^ p-1))
structure Dd(P:Program)(fn:Func)(R:Ending->World->Prop)(x:Nat->Value)(n:Nat)(ops:Array Oper)(ks:List Kn)(S:World->Prop)(p N f m:Nat)(e:List (Nat × Value))(w:World):Prop where
 run:Rg .any ops (KQ P (bodyPost P fn R) ks) p N (sumOf .any ops)->(p1 p m=true->S w)->wpAnyT P .any ops (KQ P (bodyPost P fn R) ks) S p f (bl N m) (patch x n e) w
theorem KQ_panic(c:List PanicEntry):∀ (ks:List Kn) (a:Act) (w:World),KQ P (bodyPost P fn R) ks (.panic c) a w=bodyPost P fn R (.panic c) a w
 | [],_,_=>rfl
 | .seq _::ks,a,w=>KQ_panic c ks a w
 | .blk _::ks,a,w=>KQ_panic c ks a w
 | .stop _::ks,a,w=>KQ_panic c ks a w
theorem dG{s:St}{F0:Nat->Prop}{w0:World}{ro rs:List Res}(h:Hp F0 w0 w ro rs)(N p:Nat)(S:World->Prop)(hS:∀ w',Hp F0 w0 w' ro rs->S w')
   (k:∀ w',Hp F0 w0 w' ro rs->Dd P fn R x n (opsD (go P x n n s)) (go P x n n s).ks S p N N 0 (go P x n n s).e w')
   (ok:isDr (go P x n n s)=true:=by kernel_rfl) (hN:(opsD (go P x n n s)).size=N:=by kernel_rfl) (hm:P.follows .mixedOrders=true:=by kernel_rfl) (hL:Array.replicate N false=bl N 0:=by kernel_rfl) (hs:Region.noSelect (opsD (go P x n n s))=true:=by kernel_rfl) (hph:phaseB .any (opsD (go P x n n s)) p=true:=by kernel_rfl):M P fn R x n s w:=by
 refine go_ok n ?_
 generalize go P x n n s=t at *
 obtain ⟨cu,ks,e⟩:=t
 cases cu with
 | code c =>
   cases c with
   | region i ops d =>
     cases d with
     | false=>cases ok
     | true =>
       obtain ⟨l⟩:=ops
       refine ⟨?_⟩
       have hN:l.length=N:=by simpa [opsD] using hN
       refine pH_go h p S hm hN hL hs hph fun h1 h2 w' hw=>?_
       refine (k w' hw).run ⟨h1,h2,rfl,by simpa [opsD] using hN,fun c d v a w hq=>?_⟩ fun _=>hS w' hw
       rw [KQ_panic] at hq ⊢
       cases d <;> exact hq
   | _=>cases ok
 | _=>cases ok
section
variable{ops:Array Oper}{ks:List Kn}{S:World->Prop}{p N f m:Nat}{e:List (Nat × Value)}
noncomputable def frE (P:Program) (ops:Array Oper) (p N:Nat) (x:Nat->Value) (n:Nat) (is:List Nat) (m:Nat) (e:List (Nat × Value)):List (Nat × Value):=(freeR P ops (sumOf .any ops) p N x n is m e).getD []
/-- Operations that need no world, taken first. -/
theorem dP{f':Nat}(f:Nat)(is:List Nat)(k:Dd P fn R x n ops ks S p N f (maskOf m is) (frE P ops p N x n is m e) w)(hn:f'=f+is.length:=by kernel_rfl)(ok:(freeR P ops (sumOf .any ops) p N x n is m e).isSome=true:=by kernel_rfl)(hp:p1 p m=true:=by kernel_rfl):Dd P fn R x n ops ks S p N f' m e w:=⟨fun hs hS=>by
 have hw:=hS hp
 have k:=k.run hs fun _=>hw
 unfold frE at k
 cases hr:freeR P ops (sumOf .any ops) p N x n is m e with
 | none=>rw [hr] at ok;cases ok
 | some e' =>
   rw [hr] at k
   subst hn
   refine pQ_pr hs.ns hs.ph hs.hQ hw f is (bl N m) e e' (free_freeR hs.sum hs.sz is m e e' hr) ?_
   rw [marks_bl];exact k⟩
def opD(ops:Array Oper)(i:Nat):Oper:=(ops[i]?).getD default
theorem opD_get{i:Nat}(h:Nat.blt i ops.size=true):ops[i]?=some (opD ops i):=by
 rw [Nat.blt_eq] at h
 unfold opD
 rw [Array.getElem?_eq_getElem h];rfl
noncomputable def dOk (x:Nat->Value) (n _p N:Nat) (ops:Array Oper) (m:Nat) (e:List (Nat × Value)) (i:Nat):Bool:=
 Nat.blt i ops.size && okD n (opD ops i).dst && Region.wanted (opD ops i) (yieldP ops x n e) && Nat.blt m (2 ^ N)
noncomputable def vOk (x:Nat->Value) (n p N:Nat) (ops:Array Oper) (m:Nat) (e:List (Nat × Value)) (i:Nat):Bool:=
 dOk x n p N ops m e i && freeS (sumOf .any ops) m i && rdyS (sumOf .any ops) m i && Nat.blt i p && p1 p m
/-- What leaves the world, as long as S holds of it. -/
theorem dV(i:Nat){v:Value}(hv:∀ W,S W->(execOp (patch x n e).eval (opD ops i)).run P W=.ok (.value v) W)(k:Dd P fn R x n ops ks S p N f (m ||| (1 <<< i)) (putL (opD ops i).dst v e) w)(ok:vOk x n p N ops m e i=true:=by kernel_rfl):Dd P fn R x n ops ks S p N (f+1) m e w:=⟨fun hs hS=>by
 unfold vOk dOk at ok
 simp only [Bool.and_eq_true] at ok
 obtain ⟨⟨⟨⟨⟨⟨⟨h1,h2⟩,h3⟩,h4⟩,h5⟩,h6⟩,h7⟩,h8⟩:=ok
 have hw:=hS h8
 exact pR_v i _ v (m ||| (1 <<< i)) (opD_get h1) hs hw hv (k.run hs fun _=>hw) rfl rfl h2 (by rw [h5,h6,h4,h7];rfl) h3⟩
/-- A load of what S holds. -/
theorem dL(i:Nat){g:Nat}{T:TypeId}{cs:List Value}(hb:∀ W,S W->Blk W g T cs)(k:Dd P fn R x n ops ks S p N f (m ||| (1 <<< i)) (putL (opD ops i).dst (ldv P (opD ops i) (evP x n e) cs).2 e) w)(hg:(ldv P (opD ops i) (evP x n e) cs).1=g:=by kernel_rfl)(lo:ldOk P (opD ops i) (evP x n e) cs=true:=by kernel_rfl)(ok:vOk x n p N ops m e i=true:=by kernel_rfl):Dd P fn R x n ops ks S p N (f+1) m e w:=by
 rw [← eval_patch] at hg lo k
 exact dV i (fun W hW=>ld_run (hb W hW) hg lo) k ok
noncomputable def dlE (P:Program) (ops:Array Oper) (x:Nat->Value) (n:Nat) (cs:List Value):List Nat->List (Nat × Value)->List (Nat × Value)
 | [],e=>e
 | i::r,e=>dlE P ops x n cs r (putL (opD ops i).dst (ldv P (opD ops i) (evP x n e) cs).2 e)
noncomputable def dlG (P:Program) (ops:Array Oper) (x:Nat->Value) (n:Nat) (cs:List Value):List Nat->List (Nat × Value)->List Nat
 | [],_=>[]
 | i::r,e=>(ldv P (opD ops i) (evP x n e) cs).1::dlG P ops x n cs r (putL (opD ops i).dst (ldv P (opD ops i) (evP x n e) cs).2 e)
noncomputable def dlB (P:Program) (ops:Array Oper) (p N:Nat) (x:Nat->Value) (n:Nat) (cs:List Value):List Nat->Nat->List (Nat × Value)->Bool
 | [],_,_=>true
 | i::r,m,e=>ldOk P (opD ops i) (evP x n e) cs && vOk x n p N ops m e i && dlB P ops p N x n cs r (m ||| (1 <<< i)) (putL (opD ops i).dst (ldv P (opD ops i) (evP x n e) cs).2 e)
theorem dLs_go{g:Nat}{T:TypeId}{cs:List Value}(hb:∀ W,S W->Blk W g T cs)(f:Nat):∀ (is:List Nat) (m:Nat) (e:List (Nat × Value)),Dd P fn R x n ops ks S p N f (maskOf m is) (dlE P ops x n cs is e) w->dlG P ops x n cs is e=List.replicate is.length g->dlB P ops p N x n cs is m e=true->Dd P fn R x n ops ks S p N (f+is.length) m e w
 | [],_,_,k,_,_=>k
 | i::r,m,e,k,hg,ok=>by
   unfold dlB at ok
   simp only [Bool.and_eq_true] at ok
   unfold dlG at hg
   rw [List.length_cons,List.replicate_succ] at hg
   injection hg with h1 h2
   exact dL i hb (dLs_go hb f r _ _ k h2 ok.2) h1 ok.1.1 ok.1.2
/-- Loads of what S holds. -/
theorem dLs{f':Nat}(f:Nat)(is:List Nat){g:Nat}{T:TypeId}{cs:List Value}(hb:∀ W,S W->Blk W g T cs)(k:Dd P fn R x n ops ks S p N f (maskOf m is) (dlE P ops x n cs is e) w)(hn:f'=f+is.length:=by kernel_rfl)(hg:dlG P ops x n cs is e=List.replicate is.length g:=by kernel_rfl)(ok:dlB P ops p N x n cs is m e=true:=by kernel_rfl):Dd P fn R x n ops ks S p N f' m e w:=by
 subst hn;exact dLs_go hb f is m e k hg ok
noncomputable def tOk (x:Nat->Value) (n p N:Nat) (ops:Array Oper) (m:Nat) (e:List (Nat × Value)) (i:Nat):Bool:=
 dOk x n p N ops m e i && (match goR m (sumOf .any ops) 0 with | [j]=>Nat.beq j i|_=>false)
theorem goR_one{sm:List (Nat × List Nat × Nat)}{i:Nat}(h:(match goR m sm 0 with | [j]=>Nat.beq j i|_=>false)=true):goR m sm 0=[i]:=by
 split at h
 · rename_i j hj;rw [hj,Nat.eq_of_beq_eq_true h]
 cases h
/-- What comes up alone, in the first phase. -/
theorem dT(i:Nat){U:Value->World->Prop}(h:OpTo P (opD ops i) (patch x n e) w U)(k:∀ v w',U v w'->S w'/\Dd P fn R x n ops ks S p N f (m ||| (1 <<< i)) (putL (opD ops i).dst v e) w')(ok:tOk x n p N ops m e i=true:=by kernel_rfl):Dd P fn R x n ops ks S p N (f+1) m e w:=⟨fun hs _=>by
 unfold tOk dOk at ok
 simp only [Bool.and_eq_true] at ok
 obtain ⟨⟨⟨⟨h1,h2⟩,h3⟩,h4⟩,h5⟩:=ok
 exact pR_to i _ (m ||| (1 <<< i)) (opD_get h1) hs h (fun v w' hr=>⟨fun _=>(k v w' hr).1,(k v w' hr).2.run hs fun _=>(k v w' hr).1⟩) rfl rfl h2 h4 (goR_one h5) h3⟩
/-- The same, in the second phase. -/
theorem dE(i:Nat){U:Value->World->Prop}(h:OpTo P (opD ops i) (patch x n e) w U)(k:∀ v w',U v w'->Dd P fn R x n ops ks S p N f (m ||| (1 <<< i)) (putL (opD ops i).dst v e) w')(ok:tOk x n p N ops m e i=true:=by kernel_rfl)(hp:Nat.blt i p=false:=by kernel_rfl)(hq:p1 p (m ||| (1 <<< i))=false:=by kernel_rfl):Dd P fn R x n ops ks S p N (f+1) m e w:=⟨fun hs _=>by
 unfold tOk dOk at ok
 simp only [Bool.and_eq_true] at ok
 obtain ⟨⟨⟨⟨h1,h2⟩,h3⟩,h4⟩,h5⟩:=ok
 have hp:¬ i<p:=fun hh=>by rw [← Nat.blt_eq,hp] at hh;cases hh
 exact pR_to i _ (m ||| (1 <<< i)) (opD_get h1) hs h (fun v w' hr=>⟨fun hh=>absurd hh hp,(k v w' hr).run hs fun hh=>by rw [hq] at hh;cases hh⟩) rfl rfl h2 h4 (goR_one h5) h3⟩
/-- What leaves the world, and comes up alone in the second phase. -/
theorem dU(i:Nat){v:Value}(hv:(execOp (patch x n e).eval (opD ops i)).run P w=.ok (.value v) w)(k:Dd P fn R x n ops ks S p N f (m ||| (1 <<< i)) (putL (opD ops i).dst v e) w)(ok:tOk x n p N ops m e i=true:=by kernel_rfl)(hp:Nat.blt i p=false:=by kernel_rfl)(hq:p1 p (m ||| (1 <<< i))=false:=by kernel_rfl):Dd P fn R x n ops ks S p N (f+1) m e w:=
 dE i (U:=fun u w'=>u=v/\w'=w) (OpTo.run v hv ⟨rfl,rfl⟩) (fun _ _ h=>by obtain ⟨rfl,rfl⟩:=h;exact k) ok hp hq
noncomputable def pvD (P:Program) (o:Oper) (ev:Operand->Value):Value:=(pureE P o ev).getD undef
/-- One that needs no world. -/
theorem dN(i:Nat)(k:Dd P fn R x n ops ks S p N f (m ||| (1 <<< i)) (putL (opD ops i).dst (pvD P (opD ops i) (evP x n e)) e) w)(hv:(pureE P (opD ops i) (evP x n e)).isSome=true:=by kernel_rfl)(ok:tOk x n p N ops m e i=true:=by kernel_rfl)(hp:Nat.blt i p=false:=by kernel_rfl)(hq:p1 p (m ||| (1 <<< i))=false:=by kernel_rfl):Dd P fn R x n ops ks S p N (f+1) m e w:=by
 refine dU i (v:=pvD P (opD ops i) (evP x n e)) ?_ k ok hp hq
 unfold pvD
 cases h:pureE P (opD ops i) (evP x n e) with
 | none=>rw [h] at hv;cases hv
 | some v=>rw [pureE_eq] at h;exact pureOp_run h w
/-- One of two that come up together. -/
structure Do(P:Program)(fn:Func)(R:Ending->World->Prop)(x:Nat->Value)(n:Nat)(ops:Array Oper)(ks:List Kn)(S:World->Prop)(p N f m:Nat)(e:List (Nat × Value))(w:World)(i:Nat):Prop where
 run:Rg .any ops (KQ P (bodyPost P fn R) ks) p N (sumOf .any ops)->wpOp P ops (KQ P (bodyPost P fn R) ks) i (fun a' w'=>(i<p->S w')/\wpAnyT P .any ops (KQ P (bodyPost P fn R) ks) S p f ((bl N m).setIfInBounds i true) a' w') (patch x n e) w
theorem dO(i j:Nat)(h1:Do P fn R x n ops ks S p N f m e w i)(h2:Do P fn R x n ops ks S p N f m e w j)(hb:Nat.blt m (2 ^ N)=true:=by kernel_rfl)(hr:goR m (sumOf .any ops) 0=[i,j]:=by kernel_rfl):Dd P fn R x n ops ks S p N (f+1) m e w:=⟨fun hs _=>pR_or i j hs (h1.run hs) (h2.run hs) hb hr⟩
theorem oT{i:Nat}{U:Value->World->Prop}(h:OpTo P (opD ops i) (patch x n e) w U)(k:∀ v w',U v w'->S w'/\Dd P fn R x n ops ks S p N f (m ||| (1 <<< i)) (putL (opD ops i).dst v e) w')(ok:dOk x n p N ops m e i=true:=by kernel_rfl):Do P fn R x n ops ks S p N f m e w i:=⟨fun hs=>by
 unfold dOk at ok
 simp only [Bool.and_eq_true] at ok
 obtain ⟨⟨⟨h1,h2⟩,h3⟩,h4⟩:=ok
 exact pR_op i _ (m ||| (1 <<< i)) (opD_get h1) h (fun v w' hr=>⟨fun _=>(k v w' hr).1,(k v w' hr).2.run hs fun _=>(k v w' hr).1⟩) rfl rfl h2 h3⟩
theorem dX(k:M P fn R x n ⟨.ex .normal,ks,e⟩ w)(hb:Nat.blt m (2 ^ N)=true:=by kernel_rfl)(hr:goR m (sumOf .any ops) 0=[]:=by kernel_rfl):Dd P fn R x n ops ks S p N f m e w:=⟨fun hs _=>pR_done hs k.run f hb hr⟩
/-- What is left of a region, at any frame. -/
structure KD(P:Program)(fn:Func)(R:Ending->World->Prop)(ops:Array Oper)(ks:List Kn)(S:World->Prop)(p N f m:Nat)(a:Act)(w:World):Prop where
 run:Rg .any ops (KQ P (bodyPost P fn R) ks) p N (sumOf .any ops)->(p1 p m=true->S w)->wpAnyT P .any ops (KQ P (bodyPost P fn R) ks) S p f (bl N m) a w
/-- What is left is told once. -/
theorem dC(f' m':Nat)(Z:(Act->World->Prop)->Prop)(h1:Z (KD P fn R ops ks S p N f' m'))(h2:Z (KD P fn R ops ks S p N f' m')->Dd P fn R x n ops ks S p N f m e w):Dd P fn R x n ops ks S p N f m e w:=h2 h1
theorem dAt(h:Dd P fn R x n ops ks S p N f m e w):KD P fn R ops ks S p N f m (patch x n e) w:=⟨h.run⟩
theorem dF{m':Nat}(h:KD P fn R ops ks S p N f m' (patch x n e) w)(hm:m=m':=by kernel_rfl):Dd P fn R x n ops ks S p N f m e w:=by subst hm;exact ⟨h.run⟩
end
end
theorem mX{P:Program}{fn:Func}{R:Ending → World → Prop}{x:Nat → Value}{n:Nat}{w:World}{s:St}(t:Nat)(u v:Value)(hv:v=u)(k:M P fn R x n (putS (go P x n t s) u) w)(h:pureE P (hdO (go P x n t s)) (evP x n (go P x n t s).e)=some v:=by kernel_rfl)(ok:opOk x n (go P x n t s)=true:=by kernel_rfl):M P fn R x n s w:=mW t (eqI v hv h) k ok
theorem mN{P:Program}{fn:Func}{R:Ending → World → Prop}{x:Nat → Value}{n:Nat}{F0:Nat → Prop}{w0 w:World}{ro rs:List Res}{s:St}(h:Hp F0 w0 w ro rs)(T:TypeId)(cs:List Value)(k:∀ g w',Hp F0 w0 w' ro (rBlk g T cs::rs) → M P fn R x n (putS (go P x n n s) (pt g 0)) w')(hn:newVal P (execOp (patch x n (go P x n n s).e).eval (hdO (go P x n n s)))=some (.cells cs.toArray T,fun r=>some (.value (pt r 0))):=by kernel_rfl)(ok:opOk x n (go P x n n s)=true:=by kernel_rfl):M P fn R x n s w:=
 mT (xN h T cs hn) (fun _ w' ⟨g,e,h⟩=>e ▸ k g w' h) ok
end
section
/-- The eight bytes of a number. -/
def put8(n:Nat):Bytes:=(List.range 8).map fun i=>UInt8.ofNat (n / 256 ^ (7-i))
/-- The number of some bytes. -/
def getN(b:Bytes):Nat:=b.foldl (fun n c=>256*n+nb c) 0
/-- A mark. -/
def mkB(k:UInt8)(n:Nat):Bytes:=[255,254,k,0,0,0,0,0]++put8 n
/-- Whether sixteen bytes are a mark, and which. -/
def markOf(b:Bytes):Option (UInt8 × Nat):=
 if b.length=16/\(gb b 2=107∨gb b 2=98∨gb b 2=100)/\getN (b.drop 8)<=1099511627776/\b=mkB (gb b 2) (getN (b.drop 8)) then some (gb b 2,getN (b.drop 8)) else none
/-- How a key came. -/
structure SFrom where
 of:Bytes
 label:ByteArray
 text:Bool
deriving DecidableEq
structure SSealed where
 by_:Bytes
 usage:Int
 body:Bytes
deriving DecidableEq
structure STab where
 keys:List SFrom
 boxes:List SSealed
 sums:List Bytes
 known:List (SFrom × Nat)
def STab.empty:STab:=⟨[],[],[],[]⟩
def STab.add(s:STab)(f:SFrom):STab:={ s with keys:=s.keys++[f] }
/-- Which key is known to come so. -/
def STab.at_(s:STab)(f:SFrom):Option Nat:=(s.known.find? fun p=>p.1=f).map (·.2)
def STab.made(s:STab)(f:SFrom):STab:=
 match s.at_ f with
 | some _=>s
 | none=>{ s with keys:=s.keys++[f],known:=s.known++[(f,s.keys.length+1)] }
/-- Its number. -/
def STab.num(s:STab)(f:SFrom):Nat:=(s.at_ f).getD (s.keys.length+1)
def zKey:Bytes:=List.replicate 16 0
def SFrom.fresh:SFrom:=⟨zKey,ByteArray.empty,false⟩
def textF(p q:ByteArray):SFrom:=⟨zKey,⟨(put8 p.size++p.data.toList++q.data.toList).toArray⟩,true⟩
def STab.seal(s:STab)(k:Bytes)(u:Int)(b:Bytes):STab:={ s with boxes:=s.boxes++[⟨k,u,b⟩] }
/-- Which sum is of these bytes: its place. -/
def STab.sumAt(s:STab)(b:Bytes):Nat:=s.sums.findIdx (· = b)
def STab.digest(s:STab)(b:Bytes):STab:=if s.sumAt b<s.sums.length then s else { s with sums:=s.sums++[b] }
def STab.box(s:STab)(b:Bytes):Option SSealed:=
 match markOf b with
 | some (k,n)=>if k=98/\1<=n then s.boxes[n-1]? else none
 | none=>none
end
section
open Go.RowKit
theorem ub_nb(a:UInt8):ub a=(nb a:Int):=by unfold ub nb;rfl
theorem ub_ofNat(N:Nat):ub (UInt8.ofNat N)=(N:Int) % 256:=by unfold ub;simp
end
section
open Go.RowKit
def BPost(w:World)(l:Bytes)(e:Ending)(w':World):Prop:=∃ v,e=.returned v/\OB w' w.heap.size v l/\Below w.heap.size w w'
theorem ty42:Tryz.prog.underlying 41=some (.array 16 5):=by kernel_rfl
theorem i42:(Tryz.prog.info? 41).map (·.size)=some 16:=by kernel_rfl
theorem ub_ne(a:UInt8)(c:UInt8)(k:Int)(hk:ub c=k):(ub a != k) = !decide (a=c):=by
 rw [← hk]
 have:(ub a == ub c)=(a == c):=ub_beq a c
 by_cases h:a=c
 · subst h;simp
 simp only [bne,this];simp [h]
theorem l16(l:Bytes)(h:l.length=16):∃ a0 a1 a2 a3 a4 a5 a6 a7 a8 a9 a10 a11 a12 a13 a14 a15:UInt8,l=[a0,a1,a2,a3,a4,a5,a6,a7,a8,a9,a10,a11,a12,a13,a14,a15]:=by
 match l,h with
 | [a0,a1,a2,a3,a4,a5,a6,a7,a8,a9,a10,a11,a12,a13,a14,a15],_=>exact ⟨_,_,_,_,_,_,_,_,_,_,_,_,_,_,_,_,rfl⟩
end
section
open Go.RowKit Go.QT
attribute [local go_sem] bits_xor8 bits_or8 bits_and8 u8_ub
def zrow(n:Nat):Array Value:=(vb (List.replicate n 0)).toArray
theorem put_byte(n k:Nat)(hk:k<8):((n:Int) / 2 ^ (56-8*k) % 256)=ub (UInt8.ofNat (n / 256 ^ (7-k))):=by
 have e:(256:Nat) ^ (7-k)=2 ^ (56-8*k):=by
   rw [show (256:Nat)=2 ^ 8 from rfl,← Nat.pow_mul];congr 1;omega
 rw [ub_ofNat,e]
 simp
def putRow(n:Nat):Nat->Bytes
 | 0=>List.replicate 8 0
 | k+1=>(putRow n k).set k (UInt8.ofNat (n / 256 ^ (7-k)))
theorem putRow_eq(n:Nat):putRow n 8=put8 n:=rfl
theorem putRow_len(n k:Nat):(putRow n k).length=8:=by
 induction k with
 | zero=>rfl
 | succ k ih=>exact List.length_set.trans ih
theorem put8_len(n:Nat):(put8 n).length=8:=rfl
theorem put_any(n:Nat)(w:World):Calls Tryz.prog 93 #[.int .u64 (n:Int)] w (BPost w (put8 n)):=by
 have Hfin:=Hd.mk (putRow_eq n)
 have HL:=Hd.mk (putRow_len n)
 have hmk:∀ W,(Instr.makeSlice 25 (.int .i64 8) (.int .i64 8)).run Tryz.prog W=.ok (.slice (some ⟨W.heap.size,0,none⟩) 8 8) (W.alloc (.cells (zrow 8) 5)):=fun W=>by kernel_rfl
 go_enter Tryz.func93,Tryz.ntmps93
 go_upto_region 2 with (fail)
 have hv:OB (w.alloc (.cells (zrow 8) 5)) w.heap.size (.slice (some ⟨w.heap.size,0,none⟩) 8 8) (putRow n 0):=OB.new _ _ (List.replicate 8 0) (by simp [maxLen]) (Row.new w 5 (List.replicate 8 0)) (Nat.le_refl _)
 have hB:Below w.heap.size w (w.alloc (.cells (zrow 8) 5)):=(Below.refl _ _).alloc (Nat.le_refl _) _
 generalize w.alloc (.cells (zrow 8) 5)=w1 at *
 clear hmk
 go_wp2
 go_loopw [8] (fun i wr=>∃ k:Nat,k<=8/\i=.int .i64 (k:Int)/\OB wr w.heap.size (.slice (some ⟨w.heap.size,0,none⟩) 8 8) (putRow n k)/\Below w.heap.size w wr) (fun i _=>8-(intOf i).toNat)
 case atStart=>exact ⟨0,by omega,rfl,hv,hB⟩
 case round =>
   clear hv hB
   obtain ⟨k,hk,rfl,hv,hB⟩:=hrel
   by_cases hlt:k<8
   · have Hs:Hd (putRow n (k+1)=(putRow n k).set k (UInt8.ofNat (n / 256 ^ (7-k)))):=⟨rfl⟩
     have e3:=hv.frozen_ k
     obtain ⟨g',cap',e,_,h3,_,_,hcell⟩:=hv.open_ (by intro e;have:=HL.out k;rw [e] at this;simp at this)
     have hx:=hcell k (by rw [HL.out];omega)
     injection e with e1 e2 e4
     injection e1 with e1
     injection e1 with e1
     subst e1
     have Hv:=Hd.mk hv
     clear hv hcell e2 e4
     go_wp2
     refine ⟨⟨k+1,by omega,by go_num,?_,hB.setCell (Nat.le_refl _) _⟩,by simp [intOf];omega⟩
     rw [Hs.out,put_byte n k hlt]
     exact Hv.out.set _ _
   have hk8:k=8:=by omega
   rw [hk8,Hfin.out] at hv
   clear hk8
   have Hv:=Hd.mk hv
   clear hv
   go_wp2
   go_ret
   exact ⟨_,rfl,Hv.out,hB⟩
end
section
open Go.RowKit Go.QT
theorem getN_snoc(l:Bytes)(c:UInt8):getN (l++[c])=256*getN l+nb c:=by simp [getN]
theorem getN_take(l:Bytes)(k:Nat)(h:k<l.length):getN (l.take (k+1))=256*getN (l.take k)+nb (gb l k):=by
 have e:l.take (k+1)=l.take k++[gb l k]:=by
   rw [List.take_succ_eq_append_getElem h];simp [gb,h]
 rw [e,getN_snoc]
theorem getN_lt(l:Bytes)(k:Nat)(h:k<=l.length):getN (l.take k)<256 ^ k:=by
 induction k with
 | zero=>simp [getN]
 | succ k ih =>
   rw [getN_take l k (by omega)]
   have:=ih (by omega)
   have:=nb_lt (gb l k)
   rw [Nat.pow_succ];omega
theorem getN_lt8(l:Bytes)(k:Nat)(h:k<=l.length)(h8:k<=8):getN (l.take k)<18446744073709551616:=by
 have h1:=getN_lt l k h
 have h2:256 ^ k<=256 ^ 8:=Nat.pow_le_pow_right (by omega) h8
 have h3:(256:Nat) ^ 8=18446744073709551616:=rfl
 omega
theorem getN_lt7(l:Bytes)(k:Nat)(h:k<=l.length)(h8:k<=7):getN (l.take k)<72057594037927936:=by
 have h1:=getN_lt l k h
 have h2:256 ^ k<=256 ^ 7:=Nat.pow_le_pow_right (by omega) h8
 have h3:(256:Nat) ^ 7=72057594037927936:=rfl
 omega
theorem or_byte(N:Nat)(c:UInt8)(hN:N<72057594037927936):bits .or .u64 ((N:Int)*256) (IntKind.u64.wrap (ub c))=((256*N+nb c:Nat):Int):=by
 have hc:=nb_lt c
 have h1:IntKind.u64.wrap (ub c)=((nb c:Nat):Int):=by rw [IntKind.wrap_u64];unfold ub nb at *;omega
 have h2:(N:Int)*256=((N*256:Nat):Int):=by omega
 rw [h1,h2]
 show IntKind.u64.wrap (((BitVec.ofInt 64 ((N*256:Nat):Int) ||| BitVec.ofInt 64 ((nb c:Nat):Int)).toNat:Nat):Int)=_
 rw [BitVec.toNat_or,BitVec.ofInt_natCast,BitVec.ofInt_natCast,BitVec.toNat_ofNat,BitVec.toNat_ofNat,Nat.mod_eq_of_lt (by omega),Nat.mod_eq_of_lt (by omega)]
 have h3:=Nat.two_pow_add_eq_or_of_lt (i:=8) (b:=nb c) (by omega) N
 rw [show (2:Nat) ^ 8*N=N*256 by omega] at h3
 rw [← h3,IntKind.wrap_u64]
 omega
/-- The number of one to eight bytes. -/
def getP(l:Bytes):Option Nat:=if l.length=0∨8<l.length then none else some (getN l)
def GPost(w:World)(l:Bytes)(e:Ending)(w':World):Prop:=
 e=.returned (.tuple #[.int .u64 ((getP l).getD 0:Nat),.bool (getP l).isSome])/\∃ n,w'=w.drewN n
theorem getP_yes(l:Bytes)(h0:l.length≠0)(h8:l.length<=8):getP l=some (getN l):=if_neg (by omega)
theorem getP_no(l:Bytes)(h:l.length=0∨8<l.length):getP l=none:=if_pos h
theorem get_any(v:Value)(l:Bytes)(w:World)(hv:SB w v l):Calls Tryz.prog 61 #[v] w (GPost w l):=by
 have hbv:∃ A c,v=.slice A l.length c/\l.length<=c/\c<=2 ^ 63-1/\(l≠[]->∃ bb o,A=some ⟨bb,o,none⟩/\∀ i,i<l.length->w.cell? ⟨bb,o+i,none⟩=some (.int .u8 (ub (gb l i)))):=by
   obtain ⟨A,c,e,h1,h2,h3⟩:=hv
   exact ⟨A,c,e,h1,by unfold maxLen at h2;exact h2,fun hne=>by obtain ⟨b,o,h4,_,h5⟩:=h3 hne;exact ⟨b,o,h4,h5⟩⟩
 obtain ⟨A,c,rfl,hc1,hc2,hcell⟩:=hbv
 have Hcell:=Hd.mk hcell
 clear hcell hv
 by_cases h0:l.length=0
 · have Hp:=Hd.mk (getP_no l (.inl h0))
   have hd:(((l.length:Nat):Int) == 0)=true:=by rw [beq_iff_eq];omega
   have H0:=Hd.mk h0
   clear h0
   go_enter Tryz.func61,Tryz.ntmps61
   go_wp2
   go_ret2
   exact ⟨by rw [Hp.out];rfl,0,rfl⟩
 have hd:(((l.length:Nat):Int) == 0)=false:=beq_eq_false_iff_ne.2 (by omega)
 by_cases h8:l.length<=8
 · have Hp:=Hd.mk (getP_yes l h0 h8)
   have hd2:decide ((l.length:Int)>8)=false:=by simp;omega
   obtain ⟨bb,o,rfl,hcell⟩:=Hcell.out (by rintro rfl;exact h0 rfl)
   have Hcell2:=Hd.mk hcell
   have H0:=Hd.mk h0
   clear h0 hcell Hcell
   go_enter Tryz.func61,Tryz.ntmps61
   go_upto_region 4 with (fail)
   go_wp2
   go_loop [4,17] (fun n i=>∃ k:Nat,k<=l.length/\i=.int .i64 (k:Int)/\n=.int .u64 (getN (l.take k):Nat)) (fun _ i=>l.length-(intOf i).toNat)
   case atStart=>exact ⟨0,by omega,rfl,rfl⟩
   case round =>
     obtain ⟨k,hk,rfl,rfl⟩:=hrel
     by_cases hlt:k<l.length
     · have hx:=Hcell2.out k hlt
       have hN:=getN_lt7 l k hk (by omega)
       have Hs:=Hd.mk (getN_take l k hlt)
       generalize getN (l.take k)=N at *
       go_wp2
       refine ⟨⟨k+1,by omega,by go_num,by rw [or_byte N _ hN,Hs.out]⟩,by simp [intOf];omega⟩
     have hk2:k=l.length:=by omega
     have Hk2:=Hd.mk hk2
     clear hk2
     go_wp2
     go_ret2
     refine ⟨?_,0,rfl⟩
     rw [Hp.out,Hk2.out,List.take_length];rfl
 have Hp:=Hd.mk (getP_no l (.inr (by omega)))
 have hd2:decide ((l.length:Int)>8)=true:=by simp;omega
 have H0:=Hd.mk h0
 clear h0
 go_enter Tryz.func61,Tryz.ntmps61
 go_wp2
 go_ret2
 exact ⟨by rw [Hp.out];rfl,0,rfl⟩
end
section
/-- A value: its kind, its tag, a number, bytes, a list. -/
inductive DVal where
 | mk (kind tag n:Nat) (b:Bytes) (l:List DVal)
def DVal.kind:DVal->Nat | .mk k _ _ _ _=>k
def DVal.tag:DVal->Nat | .mk _ t _ _ _=>t
def DVal.n:DVal->Nat | .mk _ _ n _ _=>n
def DVal.b:DVal->Bytes | .mk _ _ _ b _=>b
def DVal.l:DVal->List DVal | .mk _ _ _ _ l=>l
/-- The noughts ahead are struck, but for the last byte. -/
def stripZ:Bytes->Bytes
 | []=>[]
 | [a]=>[a]
 | a::b::r=>if a=0 then stripZ (b::r) else a::b::r
def shortB(n:Nat):Bytes:=stripZ (put8 n)
theorem stripZ_ne:∀ (l:Bytes),l≠[]->stripZ l≠[]
 | [],h=>h
 | [_],_=>by simp [stripZ]
 | a::b::r,_=>by
   rw [stripZ]
   split
   · exact stripZ_ne (b::r) (by simp)
   simp
theorem stripZ_len:∀ (l:Bytes),(stripZ l).length<=l.length
 | []=>Nat.le_refl _
 | [_]=>Nat.le_refl _
 | a::b::r=>by
   rw [stripZ]
   split
   · exact Nat.le_trans (stripZ_len (b::r)) (by simp)
   exact Nat.le_refl _
theorem stripZ_step(l:Bytes)(h:1<l.length)(h0:gb l 0=0):stripZ (l.drop 1)=stripZ l:=by
 match l,h with
 | a::b::r,_ =>
   have:a=0:=h0
   rw [List.drop_one,List.tail_cons,stripZ,if_pos this]
theorem stripZ_end(l:Bytes)(h:¬ (1<l.length/\gb l 0=0)):stripZ l=l:=by
 match l with
 | []=>rfl
 | [_]=>rfl
 | a::b::r =>
   have:a≠0:=fun h0=>h ⟨by simp,h0⟩
   rw [stripZ,if_neg this]
theorem shortB_len(n:Nat):(shortB n).length<=8:=stripZ_len (put8 n)
theorem shortB_ne(n:Nat):shortB n≠[]:=stripZ_ne _ (by intro h;have:=congrArg List.length h;rw [put8_len] at this;cases this)
/-- The first bytes of a value. -/
def headB(k t m:Nat):Bytes:=
 if m<128 then [UInt8.ofNat (k*64+t),UInt8.ofNat m] else [UInt8.ofNat (k*64+t),UInt8.ofNat (128+(shortB m).length)]++shortB m
mutual
/-- May a value be? -/
def rightV:DVal->Nat->Bool
 | .mk k t n b l,d=>decide (t<=30) && decide (d<=8) && (if k=0 then b.isEmpty && l.isEmpty else if k=1 then decide (n=0) && l.isEmpty else if k=2 then rightL l (d+1) && decide (n=0) && b.isEmpty else false)
def rightL:List DVal->Nat->Bool
 | [],_=>true
 | x::r,d=>rightV x d && rightL r d
end
mutual
/-- A value's bytes. -/
def wrV:DVal->Bytes
 | .mk k t n b l=>headB k t (if k=0 then shortB n else if k=1 then b else wrL l).length++(if k=0 then shortB n else if k=1 then b else wrL l)
def wrL:List DVal->Bytes
 | []=>[]
 | x::r=>wrV x++wrL r
end
def bodyV:DVal->Bytes | .mk k _ n b l=>if k=0 then shortB n else if k=1 then b else wrL l
theorem wrV_eq(v:DVal):wrV v=headB v.kind v.tag (bodyV v).length++bodyV v:=by
 cases v;rw [wrV];rfl
theorem wrL_take:∀ (l:List DVal) (i:Nat) (x:DVal),l[i]?=some x->wrL (l.take (i+1))=wrL (l.take i)++wrV x
 | [],i,x,h=>by simp at h
 | y::r,0,x,h=>by
   have:y=x:=by simpa using h
   subst this
   simp [wrL]
 | y::r,i+1,x,h=>by
   have:=wrL_take r i x (by simpa using h)
   simp only [List.take_succ_cons,wrL,this,List.append_assoc]
end
section
open Go.RowKit Go.QT
/-- Cells laid over others, from a place on. -/
def lay(z:List Value)(off:Nat)(cs:List Value):List Value:=z.take off++cs++z.drop (off+cs.length)
theorem lay_len(z:List Value)(off:Nat)(cs:List Value)(h:off+cs.length<=z.length):(lay z off cs).length=z.length:=by
 simp [lay];omega
theorem lay_fold(off:Nat):∀ (cs:List Value) (k:Nat) (z:List Value),off+k+cs.length<=z.length ->
   (cs.zipIdx k).foldl (fun (a:List Value) (x:Value × Nat)=>a.set (off+x.2) x.1) z=lay z (off+k) cs
 | [],k,z,_=>by simp [lay]
 | c::cs,k,z,h=>by
   simp only [List.length_cons] at h
   have ih:=lay_fold off cs (k+1) (z.set (off+k) c) (by simp;omega)
   simp only [List.zipIdx_cons,List.foldl_cons,ih,lay]
   have h1:(z.set (off+k) c).take (off+(k+1))=z.take (off+k)++[c]:=by
     rw [← Nat.add_assoc,List.take_succ_eq_append_getElem (by simp;omega),List.take_set_of_le (Nat.le_refl _)]
     simp
   have h2:(z.set (off+k) c).drop (off+(k+1)+cs.length)=z.drop (off+k+(cs.length+1)):=by
     rw [List.drop_set_of_lt (by omega)]
     congr 1;omega
   rw [h1,h2];simp
theorem fold_list(off:Nat):∀ (l:List (Value × Nat)) (z:List Value),l.foldl (fun (a:Array Value) (x:Value × Nat)=>a.setIfInBounds (off+x.2) x.1) z.toArray=(l.foldl (fun (a:List Value) (x:Value × Nat)=>a.set (off+x.2) x.1) z).toArray
 | [],_=>rfl
 | x::l,z=>by
   simp only [List.foldl_cons,List.setIfInBounds_toArray]
   exact fold_list off l _
theorem fill_one(place:Nat->Option (Nat × Nat))(z:List Value)(i off size:Nat)(v:Value)(rest:List (Nat × Value))(hp:place i=some (off,size))(hv:v.cells.size=size)(hfit:off+size<=z.length) :
   Instr.fill place z.toArray ((i,v)::rest)=Instr.fill place (lay z off v.cells.toList).toArray rest:=by
 have h1:(decide (v.cells.size≠size) || decide (off+v.cells.size>z.toArray.size))=false:=by
   simp [hv];exact hfit
 rw [Instr.fill]
 simp only [hp]
 rw [if_neg (by simpa using h1)]
 congr 1
 rw [← Array.foldl_toList,Array.toList_zipIdx]
 have:=lay_fold off v.cells.toList 0 z (by simp [hv];exact hfit)
 rw [Nat.add_zero] at this
 rw [← this]
 exact fold_list off _ z
theorem lay_all(z cs:List Value)(h:z.length=cs.length):lay z 0 cs=cs:=by
 simp [lay,h]
section
variable{P:Program}
/-- []T{x}. -/
theorem exec_bs1{o:Oper}{a:Act}(t E:TypeId)(x:Operand)(ho:o.op=.buildSlice t 1 #[(0,x)])(v z:Value)(sz:Nat)(hx:a.eval x=v)(ht:P.underlying t=some (.slice E))(hi:(P.info? E).map (·.size)=some sz)(hz:∀ W,(zeroValue E).run P W=.ok z W)
   (hsz:0<sz) (hsz2:sz<=1000) (hzs:z.cells.size=sz) (hv:v.cells.size=sz) (w:World) :
   (execOp a.eval o).run P w=.ok (.value (.slice (some ⟨w.heap.size,0,none⟩) 1 1)) (w.alloc (.cells v.cells E)):=by
 cases hq:P.info? E with
 | none=>simp [hq] at hi
 | some i =>
   have hs:i.size=sz:=by simpa [hq] using hi
   have hzero:((Array.range (1*sz)).map fun k=>z.cells[k % z.cells.size]!)=z.cells:=by
     apply Array.ext
     · simp [hzs]
     intro j h1 h2
     have hj:j<sz:=by simpa using h1
     simp [hzs,Nat.mod_eq_of_lt hj]
     rw [getElem!_pos z.cells j (by omega)]
   have hfill:Instr.fill (fun i=>some (i*sz,sz)) z.cells [(0,v)]=some v.cells:=by
     have h:=fill_one (fun i=>some (i*sz,sz)) z.cells.toList 0 0 sz v [] (by simp) hv (by simp [hzs])
     simp only [Array.toArray_toList] at h
     rw [h,lay_all _ _ (by simp [hv,hzs])]
     simp [Instr.fill]
   have hrun:(Instr.buildSlice t 1 #[(0,v)]).run P w=.ok (.slice (some ⟨w.heap.size,0,none⟩) 1 1) (w.alloc (.cells v.cells E)):=by
     have h0:¬ (1*sz>2 ^ 24):=by omega
     have h1:¬ (1*sz=0):=by omega
     simp only [Instr.buildSlice,Sem.run_bind,run_underlying ht,Result.andThen_ok,sizeOf,typeInfo,run_program,hq]
     simp only [Sem.run_pure,Result.andThen_ok,hs]
     rw [if_neg h0,if_neg h1]
     simp only [Sem.run_bind,hz w,Result.andThen_ok,Sem.run_pure,hzero,hfill]
     simp [newRow]
   unfold execOp
   simp [ho,hx,hrun]
end
end
section
open Go.RowKit Go.QT
def fromCells(f:SFrom):List Value:=vb f.of++[.string f.label,.bool f.text]
def fromV(f:SFrom):Value:=.agg (fromCells f).toArray
def sealCells(s:SSealed)(v:Value):List Value:=vb s.by_++[.int .i64 s.usage,v]
theorem fromCells_len(f:SFrom)(h:f.of.length=16):(fromCells f).length=18:=by simp [fromCells,h]
theorem fromCells_one(f:SFrom):∀ u ∈ fromCells f,u.oneCell'=true:=by
 intro u hu
 simp only [fromCells,List.mem_append,List.mem_cons,List.not_mem_nil,or_false] at hu
 rcases hu with h|rfl|rfl
 · exact vb_ones _ u h
 · rfl
 rfl
/-- A table, its parts named. -/
structure TabR(w:World)(F:Nat->Prop)(tb mb:Nat)(vk vx vs:Value)(bodies sums:List Value)(es:Array MapEntry)(clock:Nat)(s:STab):Prop where
 t:Blk w tb 169 [vk,vx,vs,.map (some mb)]
 k:OV w 0 173 18 vk (s.keys.map fromCells)
 kl:∀ f ∈ s.keys,f.of.length=16
 x:OV w 0 320 18 vx (List.zipWith sealCells s.boxes bodies)
 xn:bodies.length=s.boxes.length
 xl:∀ b ∈ s.boxes,b.by_.length=16
 xb:∀ (i:Nat) (b:SSealed) (v:Value),s.boxes[i]?=some b->bodies[i]?=some v->OB w 0 v b.body/\(∀ q,v.ownBlock=some q->F q)/\v.oneCell'=true
 u:OV w 0 25 1 vs (sums.map fun v=>[v])
 un:sums.length=s.sums.length
 ub:∀ (i:Nat) (b:Bytes) (v:Value),s.sums[i]?=some b->sums[i]?=some v->OB w 0 v b/\(∀ q,v.ownBlock=some q->F q)/\v.oneCell'=true
 m:w.heap[mb]?=some (.map es clock)
 me:es.toList.map (fun e=>(e.key,e.val))=s.known.map fun p=>(fromV p.1,Value.agg (vb (mkB 107 p.2)).toArray)
 ml:∀ p ∈ s.known,p.1.of.length=16
 ft:F tb
 fm:F mb
 fk:∀ q,vk.ownBlock=some q->F q
 fx:∀ q,vx.ownBlock=some q->F q
 fu:∀ q,vs.ownBlock=some q->F q
 fl:∀ q,F q->q<w.heap.size
def TabAt(w:World)(F:Nat->Prop)(tb:Nat)(s:STab):Prop:=∃ mb vk vx vs bodies sums es clock,TabR w F tb mb vk vx vs bodies sums es clock s
theorem TabR.keep{w w':World}{F:Nat->Prop}{tb mb:Nat}{vk vx vs:Value}{bodies sums:List Value}{es:Array MapEntry}{clock:Nat}{s:STab}(h:TabR w F tb mb vk vx vs bodies sums es clock s)
   (hs:w.heap.size<=w'.heap.size) (hk:∀ q,F q->w'.heap[q]?=w.heap[q]?):TabR w' F tb mb vk vx vs bodies sums es clock s:=
 { h with
   t:=(hk tb h.ft).trans h.t
   k:=h.k.keep fun q hq=>hk q (h.fk q hq)
   x:=h.x.keep fun q hq=>hk q (h.fx q hq)
   u:=h.u.keep fun q hq=>hk q (h.fu q hq)
   xb:=fun i b v h1 h2=>by
     obtain ⟨a1,a2,a3⟩:=h.xb i b v h1 h2
     exact ⟨OB.keep a1 fun q hq=>hk q (a2 q hq),a2,a3⟩
   ub:=fun i b v h1 h2=>by
     obtain ⟨a1,a2,a3⟩:=h.ub i b v h1 h2
     exact ⟨OB.keep a1 fun q hq=>hk q (a2 q hq),a2,a3⟩
   m:=(hk mb h.fm).trans h.m
   fl:=fun q hq=>Nat.lt_of_lt_of_le (h.fl q hq) hs }
theorem TabAt.keep{w w':World}{F:Nat->Prop}{tb:Nat}{s:STab}(h:TabAt w F tb s)(hs:w.heap.size<=w'.heap.size)(hk:∀ q,F q->w'.heap[q]?=w.heap[q]?):TabAt w' F tb s:=by
 obtain ⟨mb,vk,vx,vs,bodies,sums,es,clock,h⟩:=h
 exact ⟨_,_,_,_,_,_,_,_,h.keep hs hk⟩
theorem TabAt.lt{w:World}{F:Nat->Prop}{tb:Nat}{s:STab}(h:TabAt w F tb s):∀ q,F q->q<w.heap.size:=by
 obtain ⟨_,_,_,_,_,_,_,_,h⟩:=h
 exact h.fl
theorem TabAt.below{w w':World}{F:Nat->Prop}{tb:Nat}{s:STab}(h:TabAt w F tb s)(hb:Below w.heap.size w w'):TabAt w' F tb s:=
 h.keep hb.size fun q hq=>hb.block q (h.lt q hq)
/-- What a method leaves that answers v and may turn the table. -/
def TPost(w:World)(F:Nat->Prop)(tb:Nat)(s:STab)(v:Value)(e:Ending)(w':World):Prop:=
 e=.returned v/\∃ F',TabAt w' F' tb s/\(∀ q,F' q->F q∨w.heap.size<=q)/\(∀ q,F q->F' q)/\Fr F w w'
theorem own_ne{w:World}{base E sz n:Nat}{v:Value}{xs:List Value}(h:w.ownsRow base E sz v n xs){c:Nat}{U:TypeId}{ds:List Value}(k:Blk w c U ds)(hne:E≠U):∀ q,v.ownBlock=some q->q≠c:=by
 intro q hq e
 rcases h.2 with ⟨rfl,_⟩|⟨g,cap,cur,rfl,_,hg,_⟩
 · simp [Value.ownBlock] at hq
 have:g=q:=by simpa [Value.ownBlock] using hq
 subst this;subst e
 unfold Blk at k
 rw [hg] at k
 injection k with k
 injection k with _ k2 _
 exact hne k2
theorem own_ne_map{w:World}{base E sz n:Nat}{v:Value}{xs:List Value}(h:w.ownsRow base E sz v n xs){c:Nat}{es:Array MapEntry}{clock:Nat}(k:w.heap[c]?=some (.map es clock)):∀ q,v.ownBlock=some q->q≠c:=by
 intro q hq e
 rcases h.2 with ⟨rfl,_⟩|⟨g,cap,cur,rfl,_,hg,_⟩
 · simp [Value.ownBlock] at hq
 have:g=q:=by simpa [Value.ownBlock] using hq
 subst this;subst e
 rw [hg] at k
 cases k
theorem own_disj{w:World}{base base' E E' sz sz' n n':Nat}{v v':Value}{xs xs':List Value}(h:w.ownsRow base E sz v n xs)(k:w.ownsRow base' E' sz' v' n' xs')(hne:E≠E'):Disj v v':=by
 intro q hq hq'
 rcases k.2 with ⟨rfl,_⟩|⟨g,cap,cur,rfl,_,hg,_⟩
 · simp [Value.ownBlock] at hq'
 have:g=q:=by simpa [Value.ownBlock] using hq'
 subst this
 exact own_ne h (c:=g) (ds:=cur.toList) (by unfold Blk;simpa using hg) hne g hq rfl
theorem blk_ne_map{w:World}{b c:Nat}{T:TypeId}{cs:List Value}(h:Blk w b T cs){es:Array MapEntry}{clock:Nat}(k:w.heap[c]?=some (.map es clock)):b≠c:=by
 rintro rfl
 unfold Blk at h
 rw [h] at k
 cases k
end
section
open Go.RowKit Go.QT
theorem same_eq(a b:Bytes)(h:a.length=b.length)(hk:∀ k,k<a.length->gb a k=gb b k):a=b:=by
 apply List.ext_getElem h
 intro i h1 h2
 have:=hk i h1
 simpa [gb,h1,h2] using this
end
section
open Go.RowKit
theorem pk5:Tryz.prog.plainKey 5=true:=by kernel_rfl
theorem cc5:Tryz.prog.cellsOf 5=1:=by kernel_rfl
theorem run_eqItems_vb(d:Nat)(a b:Bytes)(w:World):∀ is:List Nat,(∀ i ∈ is,i<a.length/\i<b.length) ->
   (Op.eqItems (d+1) 5 1 (vb a).toArray (vb b).toArray is).run Tryz.prog w=.ok (is.all fun i=>gb a i == gb b i) w
 | [],_=>by simp [Op.eqItems]
 | i::is,h=>by
   have hi:=h i (by simp)
   have ha:(vb a).toArray[i*1]?=some (.int .u8 (ub (gb a i))):=by rw [Nat.mul_one];simpa using vb_get a i hi.1
   have hb:(vb b).toArray[i*1]?=some (.int .u8 (ub (gb b i))):=by rw [Nat.mul_one];simpa using vb_get b i hi.2
   have e:((ub (gb a i)) == (ub (gb b i)))=(gb a i == gb b i):=ub_beq _ _
   have ih:=run_eqItems_vb d a b w is (fun j hj=>h j (by simp [hj]))
   simp only [Op.eqItems,Sem.run_bind,run_part_plain w pk5 ha,run_part_plain w pk5 hb,Result.andThen_ok,run_equalIn_int w d 5 .u8 .u8 _ _ Tryz.underlying5,e]
   cases hc:gb a i == gb b i
   · simp [hc]
   simp [hc,ih]
theorem all_eq16(a b:Bytes)(ha:a.length=16)(hb:b.length=16):((List.range 16).all fun i=>gb a i == gb b i)=decide (a=b):=by
 rw [Bool.eq_iff_iff]
 simp only [List.all_eq_true,List.mem_range,beq_iff_eq,decide_eq_true_eq]
 constructor
 · intro h;exact same_eq a b (ha.trans hb.symm) fun k hk=>h k (by omega)
 rintro rfl i _;rfl
theorem info5:∃ i,Tryz.prog.info? 5=some i:=by
 have h:(Tryz.prog.info? 5).isSome=true:=by kernel_rfl
 exact Option.isSome_iff_exists.1 h
/-- Two keys. -/
theorem run_equalIn16(d:Nat)(t:TypeId)(a b:Bytes)(w:World)(ht:Tryz.prog.underlying t=some (.array 16 5))(ha:a.length=16)(hb:b.length=16) :
   (Op.equalIn (d+2) t (.agg (vb a).toArray) (.agg (vb b).toArray)).run Tryz.prog w=.ok (decide (a=b)) w:=by
 obtain ⟨i,hi⟩:=info5
 rw [run_equalIn_array w (d+1) _ _ ht hi,cc5,run_eqItems_vb d a b w _ (fun j hj=>by have:=List.mem_range.1 hj;omega),all_eq16 a b ha hb]
theorem run_eql16(t:TypeId)(a b:Bytes)(w:World)(ht:Tryz.prog.underlying t=some (.array 16 5))(ha:a.length=16)(hb:b.length=16) :
   (binOp .eql t (.agg (vb a).toArray) (.agg (vb b).toArray)).run Tryz.prog w=.ok (.bool (decide (a=b))) w:=by
 rw [run_eql_struct,run_equalIn16 9998 t a b w ht ha hb];rfl
theorem run_neq16(t:TypeId)(a b:Bytes)(w:World)(ht:Tryz.prog.underlying t=some (.array 16 5))(ha:a.length=16)(hb:b.length=16) :
   (binOp .neq t (.agg (vb a).toArray) (.agg (vb b).toArray)).run Tryz.prog w=.ok (.bool (!decide (a=b))) w:=by
 rw [run_neq_struct,run_equalIn16 9998 t a b w ht ha hb];rfl
/-- The operation. -/
theorem exec_eql16{o:Oper}{a:Act}(op:BinOp)(hop:op=.eql∨op=.neq)(t t':TypeId)(x y:Operand)(ho:o.op=.binOp op t x y t')(k l:Bytes)(hx:a.eval x=.agg (vb k).toArray)(hy:a.eval y=.agg (vb l).toArray)
   (ht:Tryz.prog.underlying t=some (.array 16 5)) (hg:Tryz.prog.eqGuardType Tryz.prog.depth t=false) (hk:k.length=16) (hl:l.length=16) (w:World) :
   (execOp a.eval o).run Tryz.prog w=.ok (.value (.bool (if op=.eql then decide (k=l) else !decide (k=l)))) w:=by
 unfold execOp
 rcases hop with rfl|rfl
 · simp only [ho,hx,hy,Sem.run_bind,run_eqGuard_agg w _ t x y _ _ hg,Result.andThen_ok,run_eql16 t k l w ht hk hl,Sem.run_pure];rfl
 simp only [ho,hx,hy,Sem.run_bind,run_eqGuard_agg w _ t x y _ _ hg,Result.andThen_ok,run_neq16 t k l w ht hk hl,Sem.run_pure];rfl
theorem exec_eq16{o:Oper}{a:Act}(t t':TypeId)(x y:Operand)(ho:o.op=.binOp .eql t x y t')(k l:Bytes)(hx:a.eval x=.agg (vb k).toArray)(hy:a.eval y=.agg (vb l).toArray)
   (ht:Tryz.prog.underlying t=some (.array 16 5)) (hg:Tryz.prog.eqGuardType Tryz.prog.depth t=false) (hk:k.length=16) (hl:l.length=16) (w:World) :
   (execOp a.eval o).run Tryz.prog w=.ok (.value (.bool (decide (k=l)))) w:=by
 have:=exec_eql16 .eql (.inl rfl) t t' x y ho k l hx hy ht hg hk hl w
 simpa using this
theorem exec_ne16{o:Oper}{a:Act}(t t':TypeId)(x y:Operand)(ho:o.op=.binOp .neq t x y t')(k l:Bytes)(hx:a.eval x=.agg (vb k).toArray)(hy:a.eval y=.agg (vb l).toArray)
   (ht:Tryz.prog.underlying t=some (.array 16 5)) (hg:Tryz.prog.eqGuardType Tryz.prog.depth t=false) (hk:k.length=16) (hl:l.length=16) (w:World) :
   (execOp a.eval o).run Tryz.prog w=.ok (.value (.bool (!decide (k=l)))) w:=by
 have:=exec_eql16 .neq (.inr rfl) t t' x y ho k l hx hy ht hg hk hl w
 simpa using this
theorem eg42:Tryz.prog.eqGuardType Tryz.prog.depth 41=false:=by kernel_rfl
end
section
open Go.RowKit
/-- v[lo:hi]. -/
def cutS(v:Value)(lo hi:Nat):Value:=
 match v with
 | .slice A _ c=>.slice (if c=lo then A else A.map (·.add lo)) (hi-lo) (c-lo)
 | _=>undef
theorem gb_cut(l:Bytes)(lo hi i:Nat)(h:lo+i<hi):gb ((l.take hi).drop lo) i=gb l (lo+i):=by
 simp [gb,h]
theorem len_cut(l:Bytes)(lo hi:Nat)(hhi:hi<=l.length):((l.take hi).drop lo).length=hi-lo:=by
 simp;omega
theorem SB.cut{w:World}{v:Value}{l:Bytes}(h:SB w v l)(lo hi:Nat)(hhi:hi<=l.length):SB w (cutS v lo hi) ((l.take hi).drop lo):=by
 obtain ⟨A,c,rfl,hc,hm,hcell⟩:=h
 have hl:=len_cut l lo hi hhi
 refine ⟨_,c-lo,by rw [hl];rfl,by rw [hl];omega,by omega,fun hne=>?_⟩
 have hpos:lo<hi:=by
   have:(((l.take hi).drop lo)).length≠0:=fun h0=>hne (List.eq_nil_of_length_eq_zero h0)
   omega
 obtain ⟨b,o,rfl,hb,hcl⟩:=hcell (by rintro rfl;simp at hhi;omega)
 refine ⟨b,o+lo,?_,hb,fun i hi'=>?_⟩
 · rw [if_neg (by omega)];simp [Addr.add]
 rw [gb_cut l lo hi i (by omega),Nat.add_assoc]
 exact hcl (lo+i) (by omega)
theorem cutS_block{v:Value}{lo hi:Nat}:(cutS v lo hi).ownBlock=v.ownBlock:=by
 cases v <;> try rfl
 rename_i A n c
 simp only [cutS]
 by_cases h:c=lo
 · rw [if_pos h];cases A <;> rfl
 rw [if_neg h]
 cases A with
 | none=>rfl
 | some p=>exact congrArg some (block_of_add p lo)
theorem elem28:Tryz.prog.elem 25=5:=by kernel_rfl
theorem und28:Tryz.prog.underlying 25=some (.slice (Tryz.prog.elem 25)):=by kernel_rfl
theorem run_size5(w:World):(sizeOf 5).run Tryz.prog w=.ok 1 w:=by
 obtain ⟨i0,hi0,hz0,hz1,hz2⟩:=info_parts i5
 simp [sizeOf,typeInfo,hi0,hz1]
theorem run_cut_lh(w:World)(v:Value)(l:Bytes)(h:SB w v l)(k k':IntKind)(lo hi:Int)(h0:0<=lo)(h1:lo<=hi)(h2:hi<=l.length)(W:World) :
   (Instr.sliceAt 25 v (some (.int k lo)) (some (.int k' hi)) none).run Tryz.prog W=.ok (cutS v lo.toNat hi.toNat) W:=by
 obtain ⟨A,c,rfl,hc,hm,hcell⟩:=h
 rw [run_sliceAt_slice W 25 _ _ _ _ und28,run_slice_lh W 25 A _ c und28 k k' lo hi h0 h1 (by omega),elem28,run_size5]
 simp only [Result.andThen_ok,sliced,cutS,Nat.mul_one]
theorem run_cut_h(w:World)(v:Value)(l:Bytes)(h:SB w v l)(k':IntKind)(hi:Int)(h1:0<=hi)(h2:hi<=l.length)(W:World) :
   (Instr.sliceAt 25 v none (some (.int k' hi)) none).run Tryz.prog W=.ok (cutS v 0 hi.toNat) W:=by
 obtain ⟨A,c,rfl,hc,hm,hcell⟩:=h
 rw [run_sliceAt_slice W 25 _ _ _ _ und28,run_slice_h W 25 A _ c und28 k' hi h1 (by omega),elem28,run_size5]
 simp only [Result.andThen_ok,sliced,cutS,Nat.mul_one]
theorem run_cut_l(w:World)(v:Value)(l:Bytes)(h:SB w v l)(k:IntKind)(lo:Int)(h1:0<=lo)(h2:lo<=l.length)(W:World) :
   (Instr.sliceAt 25 v (some (.int k lo)) none none).run Tryz.prog W=.ok (cutS v lo.toNat l.length) W:=by
 obtain ⟨A,c,rfl,hc,hm,hcell⟩:=h
 rw [run_sliceAt_slice W 25 _ _ _ _ und28,run_slice_l W 25 A _ c und28 k lo h1 h2,elem28,run_size5]
 simp only [Result.andThen_ok,sliced,cutS,Nat.mul_one]
section
variable{ops:Array Oper}{rest:List Oper}{o:Oper}{a:Act}{w:World}{Q:Exit->Act->World->Prop}
theorem exec_cut_lh(x lo hi:Operand)(ho:o.op=.slice 25 x (some lo) (some hi) none)(v:Value)(l:Bytes)(hx:a.eval x=v)(h:SB w v l)(k k':IntKind)(i j:Int)(hlo:a.eval lo=.int k i)(hhi:a.eval hi=.int k' j)
   (h0:0<=i) (h1:i<=j) (h2:j<=l.length) (W:World):(execOp a.eval o).run Tryz.prog W=.ok (.value (cutS v i.toNat j.toNat)) W:=by
 unfold execOp
 simp only [ho,hx,Option.map_some,Option.map_none,hlo,hhi,Sem.run_bind,run_cut_lh w v l h k k' i j h0 h1 h2 W,Result.andThen_ok,Sem.run_pure]
theorem exec_cut_h(x hi:Operand)(ho:o.op=.slice 25 x none (some hi) none)(v:Value)(l:Bytes)(hx:a.eval x=v)(h:SB w v l)(k':IntKind)(j:Int)(hhi:a.eval hi=.int k' j)
   (h1:0<=j) (h2:j<=l.length) (W:World):(execOp a.eval o).run Tryz.prog W=.ok (.value (cutS v 0 j.toNat)) W:=by
 unfold execOp
 simp only [ho,hx,Option.map_some,Option.map_none,hhi,Sem.run_bind,run_cut_h w v l h k' j h1 h2 W,Result.andThen_ok,Sem.run_pure]
theorem exec_cut_l(x lo:Operand)(ho:o.op=.slice 25 x (some lo) none none)(v:Value)(l:Bytes)(hx:a.eval x=v)(h:SB w v l)(k:IntKind)(i:Int)(hlo:a.eval lo=.int k i)
   (h0:0<=i) (h2:i<=l.length) (W:World):(execOp a.eval o).run Tryz.prog W=.ok (.value (cutS v i.toNat l.length)) W:=by
 unfold execOp
 simp only [ho,hx,Option.map_some,Option.map_none,hlo,Sem.run_bind,run_cut_l w v l h k i h0 h2 W,Result.andThen_ok,Sem.run_pure]
/-- In a walk. -/
theorem wl_val(hgd:o.guard=none)(v:Value)(hv:(execOp a.eval o).run Tryz.prog w=.ok (.value v) w)(h:wpList Tryz.prog ops Q rest (a.put o.dst v) w):wpList Tryz.prog ops Q (o::rest) a w:=
 wpList_plain hgd fun K hK=>by
   unfold Oper.wp
   rw [hv]
   exact hK _ _ h
end
end
section
open Go.RowKit Go.QT
theorem s5:(Tryz.prog.info? 5).map (·.size)=some 1:=by kernel_rfl
theorem u28:Tryz.prog.underlying 25=some (.slice 5):=by kernel_rfl
/-- What a row becomes. -/
def ovr(cur:Bytes)(off:Nat)(l:Bytes):Bytes:=cur.take off++l++cur.drop (off+l.length)
theorem ovr_len(cur:Bytes)(off:Nat)(l:Bytes)(h:off+l.length<=cur.length):(ovr cur off l).length=cur.length:=by
 simp [ovr];omega
theorem exec_copy{o:Oper}{a:Act}{w:World}(d s:Operand)(ho:o.op=.call { callee:=.builtin .copy,args:=#[d,s],argTypes:=#[25,25] })
   (g off dLen dCap:Nat) (T:TypeId) (cur l:Bytes) (v:Value) (hd:a.eval d=.slice (some ⟨g,off,none⟩) dLen dCap) (hs:a.eval s=v) (hr:Row w g T cur) (hv:SB w v l) (hne:l≠[]) (hle:l.length<=dLen) (hfit:off+l.length<=cur.length) :
   (execOp a.eval o).run Tryz.prog w=.ok (.value (goInt l.length)) (w.setRow g (vb (ovr cur off l)).toArray):=by
 obtain ⟨b,ob,c,rfl,hc,hm,hb,hcell⟩:=hv.open_ hne
 have hcur:(vb cur).toArray.size=cur.length:=by simp
 have hrun:=run_copy_row (P:=Tryz.prog) w 25 25 o.type 5 g off dLen dCap ⟨b,ob,none⟩ l.length c (vb cur).toArray T (vb l) u28 s5 hr (by rw [vb_length];exact (Nat.min_eq_left hle).symm)
   (fun j u hj=>by
     have hjl:j<l.length:=by
       rcases Nat.lt_or_ge j l.length with h|h
       · exact h
       rw [List.getElem?_eq_none (by simpa using h)] at hj;cases hj
     rw [vb_get l j hjl] at hj
     rw [Addr.add_mid,hcell j hjl,hj]) (by rw [hcur];simpa using hfit) (vb_ones l)
 have e:((vb cur).toArray.toList.take off++vb l++(vb cur).toArray.toList.drop (off+(vb l).length)).toArray=(vb (ovr cur off l)).toArray:=by
   simp [ovr,vb]
 rw [e] at hrun
 unfold execOp
 simp only [ho,resolve,invoke,builtin,Sem.run_bind,Sem.run_pure,Result.andThen_ok,List.map_toArray,List.map_cons,List.map_nil,hs,hd,hrun]
 simp
theorem wl_copy{ops:Array Oper}{rest:List Oper}{o:Oper}{a:Act}{w:World}{Q:Exit->Act->World->Prop}(hgd:o.guard=none)(d s:Operand)(ho:o.op=.call { callee:=.builtin .copy,args:=#[d,s],argTypes:=#[25,25] })
   (g off dLen dCap:Nat) (T:TypeId) (cur l:Bytes) (v:Value) (hd:a.eval d=.slice (some ⟨g,off,none⟩) dLen dCap) (hs:a.eval s=v) (hr:Row w g T cur) (hv:SB w v l) (hne:l≠[]) (hle:l.length<=dLen) (hfit:off+l.length<=cur.length)
   (h:∀ w',Row w' g T (ovr cur off l)->w.grownBy w' (some g)->w'.heap.size=w.heap.size->wpList Tryz.prog ops Q rest (a.put o.dst (goInt l.length)) w'):wpList Tryz.prog ops Q (o::rest) a w:=
 wpList_plain hgd fun K hK=>by
   unfold Oper.wp
   rw [exec_copy d s ho g off dLen dCap T cur l v hd hs hr hv hne hle hfit]
   exact hK _ _ (h _ (Blk.setRow hr _) (only_setRow g _) (by simp))
end
end Go.Proofs.YtaoijkhndakppaaGreat
