/- Five parameters. -/
import Derived.ProofKit
import Derived.Carry
import Derived.ChangeShapes
import Derived.Test.YtaoijkhndakppaaGreatCA14
set_option maxRecDepth 100000
set_option maxHeartbeats 4000000
namespace Go.Proofs.YtaoijkhndakppaaGreat
section
open Go.RowKit Go.QT
/-- A call that leaves nothing. -/
theorem pu_s{f:FuncId}{nx:Nat}{al:List AV}{ro:List Ent}{u:Value}{v:AV}(hv:∀ κ:Kp,v.den κ=u)(h:∀ (κ:Kp) (w:World),HE (fun _=>False) w w κ ro []->Calls Tryz.prog f (AV.denL κ al).toArray w (DPost w u)):Spec Tryz.prog ⟨f,nx,al,ro,[],v,[]⟩:=⟨fun κ w hh=>by
 have hh:HE (fun _=>False) w w κ ro []:=by rw [← foot_nil κ];exact hh
 refine (h κ w hh).mono fun e w' ⟨e1,hb⟩=>⟨⟨κ,fun _ _=>⟨rfl,rfl⟩,by rw [e1,hv],⟨?_,fun e he=>absurd he List.not_mem_nil,fun e he=>absurd he List.not_mem_nil⟩⟩⟩
 rw [foot_nil]
 exact ((Hp.nil _ w).below hb).ha⟩
/-- Things of a kind that a place and a footprint tell. -/
def reC(R:(Nat->Prop)->Nat->Res)(kv:Kv):Prop:=∃ G,kv.r=R G kv.n
abbrev eR(k:Nat)(R:(Nat->Prop)->Nat->Res):Ent:=.opq k (reC R)
theorem re_ent{F0:Nat->Prop}{w0 w:World}{κ:Kp}{ro H:List Ent}{j:Nat}{R:(Nat->Prop)->Nat->Res}(h:HE F0 w0 w κ ro H)(he:eR j R ∈ H++ro):∃ G,(R G (κ j).n).Φ w/\(κ j).r=R G (κ j).n:=by
 obtain ⟨h1,G,h2⟩:=h.ent he
 exact ⟨G,h2 ▸ h1,h2⟩
/-- A call that holds one such thing and nothing else. -/
theorem own_s{f:FuncId}{nx:Nat}{al:List AV}{ro:List Ent}{u:Value}{v:AV}{R R2:(Nat->Prop)->Nat->Res}(hR:∀ G n,(R G n).F=G)(hv:∀ κ:Kp,v.den κ=u)
   (h:∀ (κ:Kp) (w:World) (G:Nat->Prop),HE (foot κ [eR 0 R]) w w κ ro [eR 0 R]->(R G (κ 0).n).Φ w->Calls Tryz.prog f (AV.denL κ al).toArray w (fun e w'=>e=.returned u/\∃ G',Hp G w w' [] [R2 G' (κ 0).n])):Spec Tryz.prog ⟨f,nx,al,ro,[eR 0 R],v,[eR 0 R2]⟩:=⟨fun κ w hh=>by
 obtain ⟨G,hG⟩:=hh.hh (eR 0 R) (List.mem_singleton.2 rfl)
 have h1:(R G (κ 0).n).Φ w:=by rw [← hG];exact hh.ha.own _ (List.mem_singleton.2 rfl)
 refine (h κ w G hh h1).mono fun e w' ⟨e1,G',hp⟩=>⟨⟨upT κ (R2 G' (κ 0).n),upT_agr _ _ _,by rw [e1,hv],⟨?_,fun e he=>absurd he List.not_mem_nil,fun e he=>?_⟩⟩⟩
 · rw [show foot κ (Sp.pre ⟨f,nx,al,ro,[eR 0 R],v,[eR 0 R2]⟩)=G from by rw [foot_one];show ((κ 0).r).F=G;rw [hG,hR]]
   show HA _ _ _ _ [(upT κ (R2 G' (κ 0).n) 0).r]
   unfold upT;rw [upK_at];exact hp.ha
 rw [List.mem_singleton.1 he]
 show ∃ G,(upT κ (R2 G' (κ 0).n) 0).r=R2 G (upT κ (R2 G' (κ 0).n) 0).n
 unfold upT;rw [upK_at];exact ⟨G',rfl⟩⟩
/-- A call that makes one such thing. -/
theorem make_s{f:FuncId}{al:List AV}{R:(Nat->Prop)->Nat->Res}(h:∀ (κ:Kp) (w:World),Calls Tryz.prog f (AV.denL κ al).toArray w (fun e w'=>∃ G n,e=.returned (pt n 0)/\Hp (fun _=>False) w w' [] [R G n])):Spec Tryz.prog ⟨f,0,al,[],[],.p 0 0,[eR 0 R]⟩:=⟨fun κ w hh=>by
 refine (h κ w).mono fun e w' ⟨G,n,e1,hp⟩=>⟨⟨upK κ 0 ⟨n,(κ 0).a,R G n⟩,fun k hk=>absurd hk (Nat.not_lt_zero k),?_,⟨?_,fun e he=>absurd he List.not_mem_nil,fun e he=>?_⟩⟩⟩
 · rw [e1];show _=Ending.returned (pt (upK κ 0 ⟨n,(κ 0).a,R G n⟩ 0).n 0)
   rw [upK_at]
 · rw [show foot κ (Sp.pre ⟨f,0,al,[],[],.p 0 0,[eR 0 R]⟩)=fun _=>False from foot_nil κ]
   show HA _ _ _ _ [(upK κ 0 ⟨n,(κ 0).a,R G n⟩ 0).r]
   rw [upK_at];exact hp.ha
 rw [List.mem_singleton.1 he]
 show ∃ G',(upK κ 0 ⟨n,(κ 0).a,R G n⟩ 0).r=R G' (upK κ 0 ⟨n,(κ 0).a,R G n⟩ 0).n
 rw [upK_at];exact ⟨G,rfl⟩⟩
/-- Users. -/
abbrev eU(k:Nat)(us:List User):Ent:=eR k fun G n=>rBs G n us
abbrev uA(u:User):AV:=.c ([aS u.name]++aK u.key++[aI u.life,aI u.renew,aB u.mesh])
section
variable{us:List User}{u:User}{s:ByteArray}{now t:Int}
theorem uA_den(κ:Kp):(uA u).den κ=Value.agg ([(Value.string u.name)]++vb (kl u.key)++[(Value.int .i64 u.life),(Value.int .i64 u.renew),(Value.bool u.mesh)]).toArray:=by
 simp only [AV.den,AV.denL,denL_app,denL_rg]
theorem near_s(h:nearF now t=true):Spec Tryz.prog ⟨83,0,[aI now,aI t],[],[],aB true,[]⟩:=
 pu_s (fun κ=>rfl) fun κ w _=>by rw [← h];exact near_any now t w
theorem bsNew_s:Spec Tryz.prog ⟨113,0,[],[],[],.p 0 0,[eU 0 []]⟩:=
 make_s fun _ w=>(bnew_any w).mono fun _ _ ⟨G,bb,e1,h⟩=>⟨G,bb,e1,h⟩
theorem bsGet_s(h32:us.length<=1000000)(hb:placeB us s=true)(hu:us[placeI us s]?=some u):Spec Tryz.prog ⟨82,1,[.p 0 0,aS s],[eU 0 us],[],.t [uA u,aI 0],[]⟩:=
 pu_s (u:=.tuple #[(Value.agg ([(Value.string u.name)]++vb (kl u.key)++[(Value.int .i64 u.life),(Value.int .i64 u.renew),(Value.bool u.mesh)]).toArray),.int .i64 0]) (fun κ=>by show Value.tuple #[(uA u).den κ,.int .i64 0]=_;rw [uA_den]) fun κ w hh=>by
   obtain ⟨G,h1,_⟩:=re_ent (j:=0) (R:=fun G n=>rBs G n us) hh (by simp)
   exact get_yes h1 h32 hb hu
theorem bsAdd_s(u:User)(h32:us.length<=1000000)(hsz:u.name.size<=1000000000)(hr:rightN u.name=true)(ha:1<=u.life/\u.life<=600/\0<=u.renew/\u.renew<=6000)(ht:placeB us u.name=false)(hf:us.length<32)(hi:placeI us u.name=us.length):Spec Tryz.prog ⟨78,1,[.p 0 0,uA u],[],[eU 0 us],aI 0,[eU 0 (us++[u])]⟩:=
 own_s (fun _ _=>rfl) (fun _=>rfl) fun κ w G hh h1=>by
   rw [show (AV.denL κ [.p 0 0,uA u]).toArray=#[pt (κ 0).n 0,(uA u).den κ] from rfl,uA_den]
   exact add_ok h1 h32 hsz hr ha ht hf hi
theorem sealInside_s{t:STab}{K Ky:Fin 16->UInt8}{us f a e r:Int}{n:Nat}{b:Bytes}{s1:ByteArray}(hp:packB (.inside f Ky s1 a e r)=.inr b)(hn:t.boxes.length=n)(hs:TabOk t)(hl:s1.size<=100000):Spec Tryz.prog ⟨48,1,[tI,.c (aK K),aI us,.i 187 (.c ([aI f]++aK Ky++[aS s1,aI a,aI e,aI r]))],[],[eT 0 t],.t [.o 1 16,aI 0],[eT 0 (t.seal (kl K) us b),eB 1 (mkB 98 (n+1))]⟩:=
 tab_s fun κ w F hh hF hT=>by
   have h4:=tseal_any (K:=K) (us:=us) hT hs (rTh_inside w f Ky s1 a e r) (fun _ hf=>hf.elim) hl
   rw [show (AV.denL κ [tI,.c (aK K),aI us,.i 187 (.c ([aI f]++aK Ky++[aS s1,aI a,aI e,aI r]))]).toArray=#[(Value.iface 30 (pt (κ 0).n 0)),(Value.agg (vb (kl K)).toArray),.int .i64 us,(.iface 187 (.agg ([Value.int .i64 f]++vb (kl Ky)++[Value.string s1,.int .i64 a,.int .i64 e,.int .i64 r]).toArray))] from by simp only [AV.denL,AV.den,denL_app,denL_rg]]
   exact h4.mono fun e w' h=>seal_post (by omega) hp hn h
theorem sealReply_s{t:STab}{K Ky:Fin 16->UInt8}{us f nn a e r:Int}{n:Nat}{b:Bytes}{s1:ByteArray}(hp:packB (.reply f Ky nn s1 a e r)=.inr b)(hn:t.boxes.length=n)(hs:TabOk t)(hl:s1.size<=100000):Spec Tryz.prog ⟨48,1,[tI,.c (aK K),aI us,.i 211 (.c ([aI f]++aK Ky++[aI nn,aS s1,aI a,aI e,aI r]))],[],[eT 0 t],.t [.o 1 16,aI 0],[eT 0 (t.seal (kl K) us b),eB 1 (mkB 98 (n+1))]⟩:=
 tab_s fun κ w F hh hF hT=>by
   have h4:=tseal_any (K:=K) (us:=us) hT hs (rTh_reply w f Ky nn s1 a e r) (fun _ hf=>hf.elim) hl
   rw [show (AV.denL κ [tI,.c (aK K),aI us,.i 211 (.c ([aI f]++aK Ky++[aI nn,aS s1,aI a,aI e,aI r]))]).toArray=#[(Value.iface 30 (pt (κ 0).n 0)),(Value.agg (vb (kl K)).toArray),.int .i64 us,(.iface 211 (.agg ([Value.int .i64 f]++vb (kl Ky)++[Value.int .i64 nn,Value.string s1,.int .i64 a,.int .i64 e,.int .i64 r]).toArray))] from by simp only [AV.denL,AV.den,denL_app,denL_rg]]
   exact h4.mono fun e w' h=>seal_post (by omega) hp hn h
theorem imin(a b:Int):Value.int .i64 (if b<a then b else a)=.int .i64 (min a b):=by
 congr 1;rw [Int.min_def];split <;> split <;> omega
/-- Who gives tickets: a block of what is only read. -/
abbrev eK(k u:Nat)(Kk:Fin 16->UInt8):Ent:=.blk k 127 ([tI,.p u 0]++aK Kk)
section
variable{t:STab}{K Kk Kx Ky Ki:Fin 16->UInt8}{nb:Nat}{sv s0 pw nm:ByteArray}{f a e r nn now till life renew:Int}{b1 b2 pre:Bytes}{mesh:Bool}
set_option maxRecDepth 100000
set_option maxHeartbeats 4000000
theorem kasNew_s(hK:kl Kk=mkB 107 (t.keys.length+1))(hn:t.keys.length<1000000):Spec Tryz.prog ⟨76,1,[tI],[],[eT 0 t],.p 1 0,[eT 0 (t.add SFrom.fresh),eK 1 2 Kk,eU 2 []]⟩:=
 s1 [cA 1001 bsNew_s [],cTb 1003 (fresh_s hK hn)]
theorem enrol_s(hK:kl K=mkB 107 (t.num (textF pw nm)))(hp:pw.size<=1000000)(hnm:nm.size<=1000000)(hk:t.keys.length<1000000)(h32:us.length<=1000000)(hr:rightN nm=true)(ha:1<=life/\life<=600/\0<=renew/\renew<=6000)(ht:placeB us nm=false)(hf:us.length<32)(hi:placeI us nm=us.length) :
   Spec Tryz.prog ⟨47,3,[.p 1 0,aS nm,aS pw,aI life,aI renew,aB mesh],[eK 1 2 Kk],[eT 0 t,eU 2 us],aI 0,[eT 0 (t.made (textF pw nm)),eU 2 (us++[⟨nm,K,life,renew,mesh⟩])]⟩:=
 s1 [cTb 1011 (text_s hK hp hnm hk),cA 1016 (bsAdd_s ⟨nm,K,life,renew,mesh⟩ h32 (show nm.size<=_ by omega) hr ha ht hf hi) []]
/-- The table behind a ticket that was given. -/
abbrev gvS(t:STab)(Kx Ky:Fin 16->UInt8)(us:Int)(b1 b2:Bytes):STab:=(t.seal (kl Kx) 2 b1).seal (kl Ky) us b2
theorem give_s{ug:Int}(hr:Room 8 t)(hnb:t.boxes.length=nb)(h1:packB (.inside f Ki s0 a e r)=.inr b1)(h2:packB (.reply f Ki nn sv a e r)=.inr b2)(hl:s0.size<=100000)(hl2:sv.size<=100000) :
   Spec Tryz.prog ⟨84,3,[.p 1 0,aS sv,.c (aK Kx),.c ([aI f]++aK Ki++[aS s0,aI a,aI e,aI r]),aI nn,.c (aK Ky),aI ug],[eK 1 2 Kk],[eT 0 t],.t [.c [aS sv,.o 3 16],.o 4 16,aI 0],[eT 0 (gvS t Kx Ky ug b1 b2),eB 3 (mkB 98 (nb+1)),eB 4 (mkB 98 (nb+2))]⟩:=
 s1 [cTb 1007 (sealInside_s (K:=Kx) (us:=2) h1 hnb hr.ok hl),cTb 5008 (sealReply_s (t:=t.seal (kl Kx) 2 b1) (K:=Ky) (us:=ug) (n:=nb+1) h2 (by rw [← hnb];simp [STab.seal]) (hr.seal _ _ (by have:=pack_le h1;omega)).ok hl2)]
end
end
end
section
open Go.RowKit Go.QT
section
variable{t:STab}{K Kk:Fin 16->UInt8}{nb:Nat}{nm:ByteArray}{now till nn st sq:Int}{b1 b2 pre:Bytes}{us:List User}
set_option maxRecDepth 100000
set_option maxHeartbeats 4000000
theorem as_s(u:User)(hr:Room 9 t)(hnb:t.boxes.length=nb)(hK:kl K=mkB 107 (t.keys.length+1))(h32:us.length<=1000000)(hb:placeB us nm=true)(hu:us[placeI us nm]?=some u)(ho:openTh t (kl u.key) 1 pre=.inr (.stamp st sq))(hnear:nearF now st=true)(ht:¬ till<=now)
   (hnow:0<=now/\now<=1099511627776) (hlife:0<=u.life/\u.life<=600) (hren:0<u.renew/\u.renew<=6000) (hl:u.name.size<=1000)
   (h1:packB (.inside 5 K u.name now (min till (now+u.life)) (now+u.renew))=.inr b1) (h2:packB (.reply 5 K nn bKDC now (min till (now+u.life)) (now+u.renew))=.inr b2) :
   Spec Tryz.prog ⟨53,4,[.p 1 0,aI now,.c [aS nm,aI nn,aI till,.o 3 pre.length]],[eK 1 2 Kk,eU 2 us,eB 3 pre],[eT 0 t],.t [.c [aS u.name,aS bKDC,.o 4 16,.o 5 16],aI 0],
     [eT 0 (gvS (t.add SFrom.fresh) Kk u.key 3 b1 b2),eB 4 (mkB 98 (nb+1)),eB 5 (mkB 98 (nb+2))]⟩:=
 s1 [cA 1006 (bsGet_s h32 hb hu) [],cTb 4008 (openStamp_s ho hr.ok),cA 7003 (near_s hnear) [],fA 9003 (isF ht),cTb 11004 (fresh_s hK hr.keys),fA 11013 (w64 (x:=now+u.life) (by omega) (by omega)),fA 11014 (imin till (now+u.life)),
   fA 12002 (isT hren.1),fA 14003 (w64 (x:=now+u.renew) (by omega) (by omega)),cTb 15010 (give_s (ug:=3) (Kx:=Kk) (Ky:=u.key) (Kk:=Kk) (hr.add SFrom.fresh) hnb h1 h2 (by omega) (by decide))]
end
end
section
open Go.RowKit Go.QT
/-- A ticket, and what is known of it. -/
abbrev crC(sv:ByteArray)(bx:AV)(K:List AV)(fl en rn:Int):List AV:=[aS sv,bx]++K++[aI fl,aI en,aI rn]
abbrev cr0:List AV:=crC ByteArray.empty aN aZ 0 0 0
def crs0:Nat->List AV:=fun n=>Nat.rec [] (fun _ l=>cr0++l) n
/-- A store in which nothing is; one ticket; two. -/
def st0:List AV:=crs0 16++rg (List.replicate 16 (.bool false))
def st1(c:List AV):List AV:=c++crs0 15++rg (.bool true::List.replicate 15 (.bool false))
def st2(c d:List AV):List AV:=c++d++crs0 14++rg (.bool true::.bool true::List.replicate 14 (.bool false))
/-- A ticket's box, key, marks and times. -/
structure Ck where
 m:Bytes
 K:Fin 16->UInt8
 fl:Int
 en:Int
 rn:Int
 hm:m.length<=1000000
abbrev Ck.at(c:Ck)(sv:ByteArray)(k:Nat):List AV:=crC sv (.o k c.m.length) (aK c.K) c.fl c.en c.rn
abbrev Ck.s1(c:Ck)(k:Nat):Ent:=.blk 0 162 (st1 (c.at bKDC k))
abbrev Ck.s2(c d:Ck)(k i:Nat):Ent:=.blk 0 162 (st2 (c.at bKDC k) (d.at bBOB i))
section
variable(sv:ByteArray)(now:Int)(c d:Ck)
set_option maxRecDepth 100000
set_option maxHeartbeats 4000000
theorem crPl0_s:Spec Tryz.prog ⟨56,1,[.p 0 0,aS sv],[],[.blk 0 162 st0],aI 0,[.blk 0 162 st0]⟩:=s1 []
theorem crPl1_s:Spec Tryz.prog ⟨56,2,[.p 0 0,aS bKDC],[],[c.s1 1],aI 0,[c.s1 1]⟩:=s1 []
theorem crPl1n_s:Spec Tryz.prog ⟨56,2,[.p 0 0,aS bBOB],[],[c.s1 1],aI 1,[c.s1 1]⟩:=s1 []
theorem crPl2_s:Spec Tryz.prog ⟨56,3,[.p 0 0,aS bBOB],[],[c.s2 d 1 2],aI 1,[c.s2 d 1 2]⟩:=s1 []
theorem crWi0_s:Spec Tryz.prog ⟨91,1,[.p 0 0,aI 0],[],[.blk 0 162 st0],.t [],[.blk 0 162 st0]⟩:=s1 []
theorem crWi1_s:Spec Tryz.prog ⟨91,2,[.p 0 0,aI 0],[],[c.s1 1],.t [],[.blk 0 162 st0]⟩:=s1 []
theorem crWi1n_s:Spec Tryz.prog ⟨91,2,[.p 0 0,aI 1],[],[c.s1 1],.t [],[c.s1 1]⟩:=s1 []
theorem crGet0_s:Spec Tryz.prog ⟨15,1,[.p 0 0,aI now,aS sv],[],[.blk 0 162 st0],.t [.c cr0,aI 9],[.blk 0 162 st0]⟩:=
 s1 [cA 1002 (crPl0_s sv) []]
theorem crGet1_s(hk:¬ c.en<=now):Spec Tryz.prog ⟨15,2,[.p 0 0,aI now,aS bKDC],[eB 1 c.m],[c.s1 1],.t [.c (c.at bKDC 2),aI 0],[c.s1 1,eB 2 c.m]⟩:=
 s1 [cA 1002 (crPl1_s c) [],fA 4008 (isF hk),appA 7003 c.m c.hm]
theorem crGet2_s(hk:¬ d.en<=now):Spec Tryz.prog ⟨15,3,[.p 0 0,aI now,aS bBOB],[eB 2 d.m],[c.s2 d 1 2],.t [.c (d.at bBOB 3),aI 0],[c.s2 d 1 2,eB 3 d.m]⟩:=
 s1 [cA 1002 (crPl2_s c d) [],fA 4008 (isF hk),appA 7003 d.m d.hm]
theorem crPut0_s:Spec Tryz.prog ⟨81,2,[.p 0 0,.c (c.at bKDC 1)],[eB 1 c.m],[.blk 0 162 st0],aI 0,[c.s1 2,eB 2 c.m]⟩:=
 s1 [cA 1004 (crPl0_s bKDC) [],cA 4002 crWi0_s [],appA 5003 c.m c.hm]
theorem crPut1_s:Spec Tryz.prog ⟨81,3,[.p 0 0,.c (d.at bKDC 2)],[eB 2 d.m],[c.s1 1],aI 0,[d.s1 3,eB 3 d.m]⟩:=
 s1 [cA 1004 (crPl1_s c) [],cA 4002 (crWi1_s c) [],appA 5003 d.m d.hm]
theorem crPut2_s:Spec Tryz.prog ⟨81,3,[.p 0 0,.c (d.at bBOB 2)],[eB 2 d.m],[c.s1 1],aI 0,[c.s2 d 1 3,eB 3 d.m]⟩:=
 s1 [cA 1004 (crPl1n_s c) [],cA 4002 (crWi1n_s c) [],appA 5003 d.m d.hm]
theorem crLen0_s:Spec Tryz.prog ⟨17,1,[.p 0 0],[],[.blk 0 162 st0],aI 0,[.blk 0 162 st0]⟩:=s1 []
theorem crLen1_s:Spec Tryz.prog ⟨17,2,[.p 0 0],[],[c.s1 1],aI 1,[c.s1 1]⟩:=s1 []
theorem crWipe_s:Spec Tryz.prog ⟨64,2,[.p 0 0],[],[c.s1 1],.t [],[.blk 0 162 st0]⟩:=s1 [] [91]
end
end
section
open Go.RowKit Go.QT
section
variable{K:Fin 16->UInt8}{n:Nat}{s:STab}
theorem drop11(hK:kl K=mkB 107 n)(hn:n<1000000):getP ((kl K).drop 11)=some n:=by
 rw [hK,getP_yes _ (by rw [List.length_drop,mkB_len];decide) (by rw [List.length_drop,mkB_len];decide)]
 have h1:getN (put8 n)=n:=getN_put8 n (by omega)
 have h2:(mkB 107 n).drop 11=(put8 n).drop 3:=rfl
 have h3:put8 n=0::0::0::(put8 n).drop 3:=by
   have e0:UInt8.ofNat (n / 256 ^ 7)=0:=by rw [Nat.div_eq_of_lt (by omega)];rfl
   have e1:UInt8.ofNat (n / 256 ^ 6)=0:=by rw [Nat.div_eq_of_lt (by omega)];rfl
   have e2:UInt8.ofNat (n / 256 ^ 5)=0:=by rw [Nat.div_eq_of_lt (by omega)];rfl
   show [UInt8.ofNat (n / 256 ^ 7),UInt8.ofNat (n / 256 ^ 6),UInt8.ofNat (n / 256 ^ 5),_,_,_,_,_]=_
   rw [e0,e1,e2];rfl
 have h4:=congrArg getN h3
 rw [getN_zero,getN_zero,getN_zero,h1] at h4
 rw [h2,← h4]
theorem get5_s(hK:kl K=mkB 107 n)(hn:n<1000000):Spec Tryz.prog ⟨61,1,[.s 0 11 5 5],[.blk 0 41 (aK K)],[],.t [.v (.int .u64 (n:Int)),aB true],[]⟩:=⟨fun κ w hh=>by
 have hb:Blk w (κ 0).n 41 (AV.denL κ (aK K)):=hh.ha.red _ (List.mem_map.2 ⟨_,List.mem_singleton.2 rfl,rfl⟩)
 rw [denL_rg] at hb
 have hsb:SB w (.slice (some ⟨(κ 0).n,11,none⟩) 5 5) ((kl K).drop 11):=⟨some ⟨(κ 0).n,11,none⟩,5,by rw [List.length_drop,kl_len],by rw [List.length_drop,kl_len];decide,by decide,fun _=>⟨_,11,rfl,hb.lt,fun i hi=>by
   rw [List.length_drop,kl_len] at hi
   rw [hb.cell]
   show (vb (kl K))[11+i]?=_
   unfold vb
   rw [List.getElem?_map,List.getElem?_eq_getElem (by rw [kl_len];omega)]
   congr 3
   unfold gb
   rw [List.getD_eq_getElem?_getD,List.getElem?_drop,List.getElem?_eq_getElem (by rw [kl_len];omega)];rfl⟩⟩
 refine (get_any _ _ w hsb).mono fun e w' ⟨e1,m,e2⟩=>⟨⟨κ,fun _ _=>⟨rfl,rfl⟩,?_,?_,fun e he=>absurd he List.not_mem_nil,fun e he=>absurd he List.not_mem_nil⟩⟩
 · rw [e1,drop11 hK hn];rfl
 rw [foot_nil,e2];exact ((Hp.nil _ w).drewN m).ha⟩
set_option maxRecDepth 100000
set_option maxHeartbeats 4000000
theorem number_s(hK:kl K=mkB 107 (s.keys.length+1))(hl:s.keys.length+1=n)(hn:n<1000000):Spec Tryz.prog ⟨24,1,[tI],[],[eT 0 s],aI (n:Int),[eT 0 (s.add SFrom.fresh)]⟩:=
 s1 [cA 1001 (fresh_s hK (by omega)) [(0,0)],cA 2001 (get5_s (by rw [hK,hl]) hn),fA 3001 (w64 (x:=(n:Int)) (by omega) (by omega))] [] [(0,0)]
end
/-- Somebody, and what they have asked for. -/
structure Cl where
 nm:ByteArray
 q:Int
 ak:Int
 nn:Int
 wh:ByteArray
 K:Fin 16->UInt8
 fn:Int
 fs:ByteArray
 ff:Bool
 ft:Int
abbrev Cl.c(c:Cl)(st:Nat):List AV:=[tI,aS c.nm,.p st 0,aI c.q,aI c.ak,aI c.nn,aS c.wh]++aK c.K++[aI c.fn,aS c.fs,aB c.ff,aI c.ft]
def zKy:Fin 16->UInt8:=fun _=>0
abbrev Cl.new(nm:ByteArray):Cl:=⟨nm,0,0,0,ByteArray.empty,zKy,0,ByteArray.empty,false,0⟩
/-- Something is asked for. -/
abbrev Cl.asks(c:Cl)(k:Int)(s:ByteArray)(K:Fin 16->UInt8)(n:Int):Cl:={ c with ak:=k,wh:=s,K:=K,nn:=n }
abbrev Cl.shown(c:Cl):Cl:={ c with q:=c.q+1 }
section
variable(c:Cl)(k:Int)(s:ByteArray)(K:Fin 16->UInt8)(n:Int)(nm:ByteArray)
set_option maxRecDepth 100000
set_option maxHeartbeats 4000000
theorem loNew_s(t:STab):Spec Tryz.prog ⟨20,1,[tI,aS nm],[eT 0 t],[],.p 1 0,[.blk 1 51 ((Cl.new nm).c 2),.blk 2 162 st0]⟩:=s1 [] [58]
theorem begin_s:Spec Tryz.prog ⟨49,3,[.p 1 0,aI k,aS s,.c (aK K),aI n],[],[.blk 1 51 (c.c 2)],.t [],[.blk 1 51 ((c.asks k s K n).c 2)]⟩:=s1 []
end
end
section
open Go.RowKit Go.QT
theorem rvOne{w:World}{g:Nat}{T:TypeId}{s:ByteArray}{v:Value}(hb:Blk w g T [.string s,v]):RV w 2 (some ⟨g,0,none⟩) 1 [[.string s,v]]:=by
 refine ⟨Nat.le_refl _,by unfold maxLen;omega,by simp,fun _=>⟨g,0,rfl,hb.lt,fun i x hx j u hu=>?_⟩⟩
 match i,hx with
 | 0,hx =>
   injection hx with hx;subst hx
   rw [show 0+0*2+j=j from by omega]
   exact (hb.cell j).trans hu
/-- The bytes of a request for a ticket. -/
abbrev qTg(srv:ByteArray)(nn till:Int)(r m:Bool)(l:Bytes)(xs:List Thing):Bytes:=wrV (tgsD srv nn till r m (.ticket bKDC l) [] xs)
section
variable{κ:Kp}{w w':World}{ro:List Ent}{nx:Nat}{s:STab}{F:Nat->Prop}{l β:Bytes}{e:Ending}
theorem sb_dj(hh:HE (foot κ [eT 0 s]) w w κ ro [eT 0 s])(hF:(κ 0).r=rTab F (κ 0).n s){j:Nat}(hj:eB j l ∈ ro):(rSB (.slice (κ j).a l.length (κ j).n) l).dj (rTab F (κ 0).n s):=by
 have h2:=hh.ha.rdis ((eB j l).res κ) (List.mem_map.2 ⟨_,hj,rfl⟩) ((eT 0 s).res κ) (by simp)
 have h3:(κ j).r=rSB (.slice (κ j).a l.length (κ j).n) l:=hh.hr _ hj
 intro q hq hf
 exact h2 q (show ((κ j).r).F q from by rw [h3];exact hq) (show ((κ 0).r).F q from by rw [hF];exact hf)
theorem sum_post(h0:0<nx)(h:SumPost F (κ 0).n s β w e w'):∃ κ':Kp,Agr (· < nx) κ κ'/\e=.returned ((AV.o nx 16).den κ')/\Hp F w w' [] ([eT 0 (s.digest β),eB nx (mkB 100 (s.sumAt β+1))].map (Ent.res κ'))/\∀ e ∈ [eT 0 (s.digest β),eB nx (mkB 100 (s.sumAt β+1))],e.holds κ':=by
 obtain ⟨A,c,F',e1,h1⟩:=h
 rw [show (Value.slice A 16 c)=.slice A (mkB 100 (s.sumAt β+1)).length c from by rw [mkB_len]] at h1
 obtain ⟨κ',k1,k2,k3,k4,k5⟩:=mkT1 (κ:=κ) h0 h1
 refine ⟨κ',k1,?_,k4,k5⟩
 rw [e1]
 show _=Ending.returned (.slice (κ' nx).a 16 (κ' nx).n)
 rw [k2,k3]
end
section
variable{s:STab}{srv ts2:ByteArray}{nn till:Int}{l m2:Bytes}
theorem sumMeet_s(r m:Bool)(hsm:s.sums.length<=1000)(hs:rightN srv=true)(hsl:srv.size<=300)(hn:inN nn=true)(ht:inN till=true)(hl:l.length<=300)(hts:rightN ts2=true)(hts2:ts2.size<=300)(hm:m2.length<=300)(hlen:(qTg srv nn till r m l [.ticket ts2 m2]).length<=4096) :
   Spec Tryz.prog ⟨26,4,[tI,.i 58 (.c [aS srv,aI nn,aI till,aB r,aB m,aS bKDC,.o 1 l.length,aN,.s 2 0 1 1])],[eB 1 l,.blk 2 39 [aS ts2,.o 3 m2.length],eB 3 m2],[eT 0 s],.o 4 16,[eT 0 (s.digest (qTg srv nn till r m l [.ticket ts2 m2])),eB 4 (mkB 100 (s.sumAt (qTg srv nn till r m l [.ticket ts2 m2])+1))]⟩:=
 tab_s fun κ w F hh hF hT=>by
   have h1:=sb_ent (j:=1) (l:=l) hh (by simp)
   have h3:=sb_ent (j:=3) (l:=m2) hh (by simp)
   have hb:=(hh.ent (e:=.blk 2 39 [aS ts2,.o 3 m2.length]) (by simp)).1
   have hE:(rXt (some ⟨(κ 2).n,0,none⟩) 1 [⟨ts2,m2,(κ 3).a,(κ 3).n⟩]).Φ w:=⟨rvOne hb,fun x hx=>by rw [List.mem_singleton.1 hx];exact h3⟩
   have hd:(rXt (some ⟨(κ 2).n,0,none⟩) 1 [⟨ts2,m2,(κ 3).a,(κ 3).n⟩]).dj (rTab F (κ 0).n s):=by
     intro q hq hf
     rcases hq with hq|⟨x,hx,hq⟩
     · have h4:=hh.ha.rdis ((Ent.blk 2 39 [aS ts2,.o 3 m2.length]).res κ) (by simp) ((eT 0 s).res κ) (by simp)
       refine h4 q ?_ (show ((κ 0).r).F q from by rw [hF];exact hf)
       have:(κ 2).n=q:=by simpa [ownA] using hq.2
       exact this.symm
     rw [List.mem_singleton.1 hx] at hq
     exact sb_dj hh hF (j:=3) (l:=m2) (by simp) q hq hf
   have h:=sumTgs_any (C:=(κ 1).a) (D:=none) (E:=some ⟨(κ 2).n,0,none⟩) (cc:=(κ 1).n) (an:=0) (ca:=0) (ce:=1) (r:=r) (m:=m) hT (by omega) h1 (sb_dj hh hF (j:=1) (l:=l) (by simp)) hE hd ⟨Nat.le_refl _,fun x hx=>by rw [List.mem_singleton.1 hx];exact ⟨hts,by show ts2.size<=100000;omega,by show m2.length<=100000;omega⟩⟩ hs (by omega) hn ht ⟨by decide,by omega⟩ right_kdc hlen
   exact h.mono fun e w' h=>sum_post (by omega) h
theorem sumRenew_s(r m:Bool)(hsm:s.sums.length<=1000)(hs:rightN srv=true)(hsl:srv.size<=300)(hn:inN nn=true)(ht:inN till=true)(hl:l.length<=300)(hlen:(qTg srv nn till r m l []).length<=4096) :
   Spec Tryz.prog ⟨26,2,[tI,.i 58 (.c [aS srv,aI nn,aI till,aB r,aB m,aS bKDC,.o 1 l.length,aN,aN])],[eB 1 l],[eT 0 s],.o 2 16,[eT 0 (s.digest (qTg srv nn till r m l [])),eB 2 (mkB 100 (s.sumAt (qTg srv nn till r m l [])+1))]⟩:=
 tab_s fun κ w F hh hF hT=>by
   have h1:=sb_ent (j:=1) (l:=l) hh (by simp)
   have h:=sumTgs_any (xs:=[]) (C:=(κ 1).a) (D:=none) (E:=none) (cc:=(κ 1).n) (an:=0) (ca:=0) (ce:=0) (r:=r) (m:=m) hT (by omega) h1 (sb_dj hh hF (j:=1) (l:=l) (by simp)) ⟨⟨Nat.zero_le _,by unfold maxLen;omega,by simp,fun h=>absurd rfl h⟩,by simp⟩ (fun q hq _=>by
     rcases hq with hq|⟨x,hx,_⟩
     · exact hq.1 rfl
     simp at hx) ⟨Nat.zero_le _,by simp⟩ hs (by omega) hn ht ⟨by decide,by omega⟩ right_kdc hlen
   exact h.mono fun e w' h=>sum_post (by omega) h
/-- The same requests, with what shows who asks. -/
theorem sumMeetA_s{an:Nat}(r m:Bool)(hsm:s.sums.length<=1000)(hs:rightN srv=true)(hsl:srv.size<=300)(hn:inN nn=true)(ht:inN till=true)(hl:l.length<=300)(hts:rightN ts2=true)(hts2:ts2.size<=300)(hm:m2.length<=300)(hlen:(qTg srv nn till r m l [.ticket ts2 m2]).length<=4096){au:Bytes} :
   Spec Tryz.prog ⟨26,5,[tI,.i 58 (.c [aS srv,aI nn,aI till,aB r,aB m,aS bKDC,.o 1 l.length,.o 4 an,.s 2 0 1 1])],[eB 1 l,.blk 2 39 [aS ts2,.o 3 m2.length],eB 3 m2,eB 4 au],[eT 0 s],.o 5 16,[eT 0 (s.digest (qTg srv nn till r m l [.ticket ts2 m2])),eB 5 (mkB 100 (s.sumAt (qTg srv nn till r m l [.ticket ts2 m2])+1))]⟩:=
 tab_s fun κ w F hh hF hT=>by
   have h1:=sb_ent (j:=1) (l:=l) hh (by simp)
   have h3:=sb_ent (j:=3) (l:=m2) hh (by simp)
   have hb:=(hh.ent (e:=.blk 2 39 [aS ts2,.o 3 m2.length]) (by simp)).1
   have hE:(rXt (some ⟨(κ 2).n,0,none⟩) 1 [⟨ts2,m2,(κ 3).a,(κ 3).n⟩]).Φ w:=⟨rvOne hb,fun x hx=>by rw [List.mem_singleton.1 hx];exact h3⟩
   have hd:(rXt (some ⟨(κ 2).n,0,none⟩) 1 [⟨ts2,m2,(κ 3).a,(κ 3).n⟩]).dj (rTab F (κ 0).n s):=by
     intro q hq hf
     rcases hq with hq|⟨x,hx,hq⟩
     · have h4:=hh.ha.rdis ((Ent.blk 2 39 [aS ts2,.o 3 m2.length]).res κ) (by simp) ((eT 0 s).res κ) (by simp)
       refine h4 q ?_ (show ((κ 0).r).F q from by rw [hF];exact hf)
       have:(κ 2).n=q:=by simpa [ownA] using hq.2
       exact this.symm
     rw [List.mem_singleton.1 hx] at hq
     exact sb_dj hh hF (j:=3) (l:=m2) (by simp) q hq hf
   have h:=sumTgs_any (C:=(κ 1).a) (D:=(κ 4).a) (E:=some ⟨(κ 2).n,0,none⟩) (cc:=(κ 1).n) (an:=an) (ca:=(κ 4).n) (ce:=1) (r:=r) (m:=m) hT (by omega) h1 (sb_dj hh hF (j:=1) (l:=l) (by simp)) hE hd ⟨Nat.le_refl _,fun x hx=>by rw [List.mem_singleton.1 hx];exact ⟨hts,by show ts2.size<=100000;omega,by show m2.length<=100000;omega⟩⟩ hs (by omega) hn ht ⟨by decide,by omega⟩ right_kdc hlen
   exact h.mono fun e w' h=>sum_post (by omega) h
theorem sumRenewA_s{an:Nat}(r m:Bool)(hsm:s.sums.length<=1000)(hs:rightN srv=true)(hsl:srv.size<=300)(hn:inN nn=true)(ht:inN till=true)(hl:l.length<=300)(hlen:(qTg srv nn till r m l []).length<=4096){au:Bytes} :
   Spec Tryz.prog ⟨26,3,[tI,.i 58 (.c [aS srv,aI nn,aI till,aB r,aB m,aS bKDC,.o 1 l.length,.o 2 an,aN])],[eB 1 l,eB 2 au],[eT 0 s],.o 3 16,[eT 0 (s.digest (qTg srv nn till r m l [])),eB 3 (mkB 100 (s.sumAt (qTg srv nn till r m l [])+1))]⟩:=
 tab_s fun κ w F hh hF hT=>by
   have h1:=sb_ent (j:=1) (l:=l) hh (by simp)
   have h:=sumTgs_any (xs:=[]) (C:=(κ 1).a) (D:=(κ 2).a) (E:=none) (cc:=(κ 1).n) (an:=an) (ca:=(κ 2).n) (ce:=0) (r:=r) (m:=m) hT (by omega) h1 (sb_dj hh hF (j:=1) (l:=l) (by simp)) ⟨⟨Nat.zero_le _,by unfold maxLen;omega,by simp,fun h=>absurd rfl h⟩,by simp⟩ (fun q hq _=>by
     rcases hq with hq|⟨x,hx,_⟩
     · exact hq.1 rfl
     simp at hx) ⟨Nat.zero_le _,by simp⟩ hs (by omega) hn ht ⟨by decide,by omega⟩ right_kdc hlen
   exact h.mono fun e w' h=>sum_post (by omega) h
end
end
section
open Go.RowKit Go.QT
abbrev eC(k:Nat)(l:List Sh):Ent:=eR k fun G n=>rCa G n 64 l
abbrev eM(k:Nat)(o:Option (ByteArray × Int)):Ent:=eR k fun G n=>rBk G n o
abbrev eSv:Ent:=.blk 3 124 [.p 1 0,.p 4 0,.p 5 0]
section
variable{t:STab}{K Kk Ki Ky:Fin 16->UInt8}{s0 c1:ByteArray}{us ta q now f a u r:Int}{l au b:Bytes}{sl:List Sh}
theorem cNew_s:Spec Tryz.prog ⟨66,0,[aI 64],[],[],.p 0 0,[eC 0 []]⟩:=make_s fun _ w=>(cnew_any w).mono fun _ _ ⟨G,cb,e1,h⟩=>⟨G,cb,e1,h⟩
theorem bkNew_s:Spec Tryz.prog ⟨77,0,[],[],[],.p 0 0,[eM 0 none]⟩:=make_s fun _ w=>(bknew_any w).mono fun _ _ ⟨bk,mv,e1,h⟩=>⟨mv,bk,e1,h⟩
theorem show_s(x:Sh)(hnear:nearF now x.t=true)(hl:∀ y ∈ sl,0<=y.t/\y.t<=1099511627776)(hx0:x ∉ sl)(hmost:sl.length<64):Spec Tryz.prog ⟨70,1,[.p 0 0,aI now,aS x.c,aI x.t,aI x.q],[],[eC 0 sl],aI 0,[eC 0 (keptF now sl++[x])]⟩:=
 own_s (fun _ _=>rfl) (fun _=>rfl) fun κ w G hh h1=>show_ok h1 hnear hl (by omega) hx0 hmost (by decide)
theorem equal_s{l m:Bytes}(h:l=m):Spec Tryz.prog ⟨69,2,[.o 0 l.length,.o 1 m.length],[eB 0 l,eB 1 m],[],aB true,[]⟩:=
 pu_s (fun _=>rfl) fun κ w hh=>(equal_any _ _ l m w (sb_ent (j:=0) hh (by simp)) (sb_ent (j:=1) hh (by simp))).mono fun e w' ⟨e1,e2⟩=>⟨by rw [e1,decide_eq_true h],e2 ▸ Below.refl _ _⟩
theorem openAuth_s(ho:openTh t (kl K) us l=.inr (.authent s0 ta q Ky b))(hs:TabOk t):Spec Tryz.prog ⟨23,2,[tI,.c (aK K),aI us,.o 1 l.length],[eT 0 t,eB 1 l],[],.t [.c ([aS s0,aI ta,aI q]++aK Ky++[.o 2 b.length]),aI 0],[eB 2 b]⟩:=⟨fun κ w hh=>by
 have hh:HE (fun _=>False) w w κ [eT 0 t,eB 1 l] []:=by rw [← foot_nil κ];exact hh
 have h0:=hh.ent (e:=eT 0 t) (by simp)
 obtain ⟨F,hF⟩:=h0.2
 have h1:(rTab F (κ 0).n t).Φ w:=by rw [← hF];exact h0.1
 have h2:=sb_ent (j:=1) (l:=l) hh (by simp)
 rw [show (AV.denL κ [tI,.c (aK K),aI us,.o 1 l.length]).toArray=#[(Value.iface 30 (pt (κ 0).n 0)),(Value.agg (vb (kl K)).toArray),.int .i64 us,(Value.slice (κ 1).a l.length (κ 1).n)] from by simp only [AV.denL,AV.den,denL_rg]]
 refine (auth_any h1 hs h2 ho).mono fun e w' ⟨A,c,e1,hp⟩=>⟨⟨upK κ 2 ⟨c,A,rSB (.slice A b.length c) b⟩,up1 _,?_,⟨?_,fun e he=>absurd he List.not_mem_nil,fun e he=>?_⟩⟩⟩
 · rw [e1]
   simp only [AV.den,AV.denL,denL_app,denL_rg,upK_at]
   rfl
 · rw [show foot κ (Sp.pre ⟨23,2,[tI,.c (aK K),aI us,.o 1 l.length],[eT 0 t,eB 1 l],[],.t [.c ([aS s0,aI ta,aI q]++aK Ky++[.o 2 b.length]),aI 0],[eB 2 b]⟩)=fun _=>False from foot_nil κ]
   show HA _ _ _ _ [(upK κ 2 _ 2).r]
   rw [upK_at];exact hp.ha
 rw [List.mem_singleton.1 he]
 show sbC b _
 rw [upK_at];rfl⟩
set_option maxRecDepth 100000
set_option maxHeartbeats 4000000
theorem kgNew_s(hK:kl Kk=mkB 107 (t.keys.length+1))(hn:t.keys.length<1000000):Spec Tryz.prog ⟨46,1,[tI],[],[eT 0 t],.p 3 0,[eT 0 (t.add SFrom.fresh),eK 1 2 Kk,eU 2 [],eSv,eC 4 [],eM 5 none]⟩:=
 s1 [cTb 1001 (kasNew_s hK hn),cA 1002 cNew_s [],cA 1003 bkNew_s []]
theorem opened_s(hs:TabOk t)(ho:openTh t (kl Kk) 2 l=.inr (.inside f Ki c1 a u r))(hu:¬ u<=now):Spec Tryz.prog ⟨117,7,[.p 3 0,aI now,.c [aS bKDC,.o 6 l.length]],[eT 0 t,eK 1 2 Kk,eSv,eB 6 l],[],.t [.c ([aI f]++aK Ki++[aS c1,aI a,aI u,aI r]),aI 0],[]⟩:=
 s1 [cTb 3016 (openInside_s ho hs),fA 6003 (isF hu)]
end
end
section
open Go.RowKit Go.QT
section
variable{n nb:Nat}{s:STab}{pw:ByteArray}{now till us:Int}{ka Kn K K2:Fin 16->UInt8}{b0 b β:Bytes}{c:Cl}
set_option maxRecDepth 100000
set_option maxHeartbeats 4000000
/-- The table behind Login. -/
abbrev lgS(s:STab)(pw nm:ByteArray)(ka:Fin 16->UInt8)(b0:Bytes):STab:=((s.made (textF pw nm)).seal (kl ka) 1 b0).add SFrom.fresh
theorem login_s(c:Cl)(hka:kl ka=mkB 107 (s.num (textF pw c.nm)))(hp:pw.size<=1000000)(hnm:c.nm.size<=1000000)(hr:Room 9 s)(hb0:packB (.stamp now (c.q+1))=.inr b0)(hnb:(s.made (textF pw c.nm)).boxes.length=nb)(hn:(s.made (textF pw c.nm)).keys.length+1=n)(hKn:kl Kn=mkB 107 n)(hq:0<=c.q/\c.q<=1000000) :
   Spec Tryz.prog ⟨12,3,[.p 1 0,aI now,aS pw,aI till],[],[eT 0 s,.blk 1 51 (c.c 2)],.t [.c [aS c.nm,aI (n:Int),aI till,.o 3 16],aI 0],[eT 0 (lgS s pw c.nm ka b0),.blk 1 51 ((c.shown.asks 1 bKDC ka (n:Int)).c 2),eB 3 (mkB 98 (nb+1))]⟩:=
 s1 [cTb 1011 (text_s hka hp hnm hr.keys),fA 2004 (w64 (x:=c.q+1) (by omega) (by omega)),cTb 3012 (sealStamp_s (K:=ka) (us:=1) hb0 hnb (hr.made _).ok),
   cTb 6006 (number_s (s:=(s.made (textF pw c.nm)).seal (kl ka) 1 b0) (n:=n) (K:=Kn) (by rw [hKn,← hn];rfl) hn (by have:=(hr.made (textF pw c.nm)).key;omega)),cA 6007 (begin_s c.shown 1 bKDC ka (n:Int))]
/-- The table behind a request that is shown. -/
abbrev shS(s:STab)(β:Bytes)(K:Fin 16->UInt8)(u:Int)(b:Bytes):STab:=(s.digest β).seal (kl K) u b
theorem meet_s(c:Cl)(d:Ck){peer ts2:ByteArray}{m2:Bytes}(hr:Room 9 s)(hsm:s.sums.length<=1000)(hp:rightN peer=true)(hpl:peer.size<=300)(hn:s.keys.length+1=n)(hKn:kl Kn=mkB 107 n)(ht:inN till=true)(hq:0<=c.q/\c.q<=1000000)(hk:¬ d.en<=now)
   (hm:d.m.length=16) (hts:rightN ts2=true) (hts2:ts2.size<=300) (hm2:m2.length=16) (hβ:qTg peer (n:Int) till false true d.m [.ticket ts2 m2]=β) (hlen:β.length<=4096) (hnb:s.boxes.length=nb) (hnm:c.nm.size<=1000)
   (hb:packB (.authent c.nm now (c.q+1) zKy (mkB 100 ((s.add SFrom.fresh).sumAt β+1)))=.inr b) :
   Spec Tryz.prog ⟨45,5,[.p 1 0,aI now,aI till,aS peer,.c [aS ts2,.o 4 m2.length]],[eB 3 d.m,eB 4 m2],[eT 0 s,.blk 1 51 (c.c 2),.blk 2 162 (st1 (d.at bKDC 3))],
     .t [.c [aS peer,aI (n:Int),aI till,aB false,aB true,aS bKDC,.o 5 d.m.length,.o 6 16,.s 7 0 1 1],aI 0],[eT 0 (shS (s.add SFrom.fresh) β d.K 7 b),.blk 1 51 ((c.shown.asks 3 peer d.K (n:Int)).c 2),.blk 2 162 (st1 (d.at bKDC 3)),eB 5 d.m,eB 6 (mkB 98 (nb+1)),.blk 7 39 [aS ts2,.o 4 m2.length]]⟩:=by
 subst hβ
 have hk9:=hr.key
 exact s1 [cA 1001005 (crGet1_s now d hk),cTb 1004006 (number_s (by rw [hKn,hn]) hn (by omega)),fA 2001004 (w64 (x:=c.q+1) (by omega) (by omega)),
   cTb 2002021 (sumMeet_s (s:=s.add SFrom.fresh) (nn:=(n:Int)) false true hsm hp hpl (inN_is (by omega) (by omega)) ht (by omega) hts hts2 (by omega) hlen),
   cTb 2002024 (sealAuth_s (K:=d.K) (us:=7) hb (n:=nb) (by rw [dig_boxes];exact hnb) (Room.digest (β:=qTg peer (n:Int) till false true d.m [.ticket ts2 m2]) (hr.add SFrom.fresh)).ok (by omega) (by rw [mkB_len];decide))] [57,22,49]
end
end
section
open Go.RowKit Go.QT
theorem neI(n:Int):Value.bool (n != n)=.bool false:=by rw [bne_self_eq_false]
theorem neS(s:ByteArray):Value.bool (!(s.toList == s.toList))=.bool false:=by rw [beq_self_eq_true];rfl
/-- Nothing is asked for any more. -/
abbrev Cl.ended(c:Cl):Cl:={ c with ak:=0,wh:=ByteArray.empty,K:=zKy }
section
variable{s:STab}{l:Bytes}{n a:Int}{K:Fin 16->UInt8}
set_option maxRecDepth 100000
set_option maxHeartbeats 4000000
theorem end_s(c:Cl):Spec Tryz.prog ⟨52,3,[.p 1 0],[],[.blk 1 51 (c.c 2)],.t [],[.blk 1 51 (c.ended.c 2)]⟩:=s1 []
theorem gotAs_s(c:Cl)(d:Ck)(hs:TabOk s)(ho:openTh s (kl K) 3 l=.inr (.reply d.fl d.K n bKDC a d.en d.rn)) :
   Spec Tryz.prog ⟨13,5,[.p 1 0,.i 143 (.c [aS c.nm,aS bKDC,.o 3 d.m.length,.o 4 l.length])],[eT 0 s,eB 3 d.m,eB 4 l],[.blk 1 51 ((c.asks 1 bKDC K n).c 2),.blk 2 162 st0],aI 0,
     [.blk 1 51 ((c.asks 1 bKDC K n).ended.c 2),.blk 2 162 (st1 (d.at bKDC 5)),eB 5 d.m]⟩:=
 s1 [fA 4012 (neS c.nm),cTb 1001010 (openReply_s ho hs),fA 1004006 (neI n),cA 1006014 (crPut0_s d),cA 1008001 (end_s (c.asks 1 bKDC K n))] [50]
theorem gotAs1_s(c:Cl)(e d:Ck)(hs:TabOk s)(ho:openTh s (kl K) 3 l=.inr (.reply d.fl d.K n bKDC a d.en d.rn)) :
   Spec Tryz.prog ⟨13,6,[.p 1 0,.i 143 (.c [aS c.nm,aS bKDC,.o 3 d.m.length,.o 4 l.length])],[eT 0 s,eB 3 d.m,eB 4 l],[.blk 1 51 ((c.asks 1 bKDC K n).c 2),.blk 2 162 (st1 (e.at bKDC 5))],aI 0,
     [.blk 1 51 ((c.asks 1 bKDC K n).ended.c 2),.blk 2 162 (st1 (d.at bKDC 6)),eB 6 d.m]⟩:=
 s1 [fA 4012 (neS c.nm),cTb 1001010 (openReply_s ho hs),fA 1004006 (neI n),cA 1006014 (crPut1_s e d),cA 1008001 (end_s (c.asks 1 bKDC K n))] [50]
theorem gotRenew_s(c:Cl)(e d:Ck)(hs:TabOk s)(ho:openTh s (kl K) 8 l=.inr (.reply d.fl d.K n bKDC a d.en d.rn)) :
   Spec Tryz.prog ⟨13,6,[.p 1 0,.i 145 (.c [aS c.nm,aS bKDC,.o 3 d.m.length,.o 4 l.length])],[eT 0 s,eB 3 d.m,eB 4 l],[.blk 1 51 ((c.asks 2 bKDC K n).c 2),.blk 2 162 (st1 (e.at bKDC 5))],aI 0,
     [.blk 1 51 ((c.asks 2 bKDC K n).ended.c 2),.blk 2 162 (st1 (d.at bKDC 6)),eB 6 d.m]⟩:=
 s1 [fA 9019 (neS c.nm),cTb 1001010 (openReply_s ho hs),fA 1004006 (neI n),cA 1006014 (crPut1_s e d),cA 1008001 (end_s (c.asks 2 bKDC K n))] [50]
theorem gotMeet_s(c:Cl)(e d:Ck)(hs:TabOk s)(ho:openTh s (kl K) 8 l=.inr (.reply d.fl d.K n bBOB a d.en d.rn)) :
   Spec Tryz.prog ⟨13,6,[.p 1 0,.i 145 (.c [aS c.nm,aS bBOB,.o 3 d.m.length,.o 4 l.length])],[eT 0 s,eB 3 d.m,eB 4 l],[.blk 1 51 ((c.asks 3 bBOB K n).c 2),.blk 2 162 (st1 (e.at bKDC 5))],aI 0,
     [.blk 1 51 ((c.asks 3 bBOB K n).ended.c 2),.blk 2 162 (st2 (e.at bKDC 5) (d.at bBOB 6)),eB 6 d.m]⟩:=
 s1 [fA 9019 (neS c.nm),cTb 1001010 (openReply_s ho hs),fA 1004006 (neI n),cA 1006014 (crPut2_s e d),cA 1008001 (end_s (c.asks 3 bBOB K n))] [50]
theorem openFact_s{us fn ft:Int}{s1:ByteArray}{ff:Bool}{body:Bytes}(hs:TabOk s)(ho:s.open_ (kl K) us l=some body)(hu:unpB body=.inr (.fact fn s1 ff ft)):Spec Tryz.prog ⟨51,2,[tI,.c (aK K),aI us,.o 1 l.length],[eT 0 s,eB 1 l],[],.t [.c [aI fn,aS s1,aB ff,aI ft],aI 0],[]⟩:=
 ro2_s (u:=.tuple #[(Value.agg ([(Value.int .i64 fn),(Value.string s1),(Value.bool ff),(Value.int .i64 ft)]).toArray),.int .i64 0]) (fun κ=>by simp only [AV.den,AV.denL]) fun κ w F hT hb=>by
   have h:=oFact_yes (K:=K) (us:=us) hT hs hb fn s1 ff ft ho hu
   simp only [AV.denL,AV.den,denL_rg];exact h
/-- What is known of who was asked for. -/
abbrev Cl.told(c:Cl)(n:Int)(s:ByteArray)(f:Bool)(t:Int):Cl:={ c.ended with fn:=n,fs:=s,ff:=f,ft:=t }
theorem gotDir_s(c:Cl)(nm:ByteArray)(ff:Bool)(ft:Int){body:Bytes}(hs:TabOk s)(ho:s.open_ (kl K) 13 l=some body)(hu:unpB body=.inr (.fact n nm ff ft)) :
   Spec Tryz.prog ⟨13,4,[.p 1 0,.i 147 (.c [aS c.nm,.o 3 l.length])],[eT 0 s,eB 3 l],[.blk 1 51 ((c.asks 4 nm K n).c 2)],aI 0,[.blk 1 51 (((c.asks 4 nm K n).told n nm ff ft).c 2)]⟩:=
 s1 [fA 14012 (neS c.nm),cTb 16010 (openFact_s hs ho hu),fA 19006 (neI n),fA 19014 (neS nm),cA 22001 (end_s { c.asks 4 nm K n with fn:=n,fs:=nm,ff:=ff,ft:=ft })]
end
end
section
open Go.RowKit Go.QT
theorem imin3(a b c:Int):Value.int .i64 (if c<(if b<a then b else a) then c else (if b<a then b else a))=.int .i64 (min (min a b) c):=by
 congr 1;rw [Int.min_def,Int.min_def];repeat' split <;> omega
theorem neT{s t:ByteArray}(h:s.toList≠t.toList):Value.bool (s.toList == t.toList)=.bool false:=by rw [beq_eq_false_iff_ne.2 h]
/-- What somebody shows: an opened ticket, a number, a time. -/
structure Tk where
 K:Fin 16->UInt8
 c:ByteArray
 f:Int
 a:Int
 u:Int
 r:Int
 l:Bytes
abbrev Tk.A(k:Tk):AV:=.c ([aI k.f]++aK k.K++[aS k.c,aI k.a,aI k.u,aI k.r])
section
variable{t:STab}{K Kk Kx K0:Fin 16->UInt8}{nb:Nat}{now ta q till nn:Int}{au m2 b1 b2 β:Bytes}{sl:List Sh}{us:List User}{srv:ByteArray}
set_option maxRecDepth 100000
set_option maxHeartbeats 4000000
abbrev rqA(srv:ByteArray)(nn till:Int)(r m:Bool)(nl na:Nat)(x:AV):AV:=.c [aS srv,aI nn,aI till,aB r,aB m,aS bKDC,.o 6 nl,.o 7 na,x]
theorem whoMeet_s(k:Tk)(hs:TabOk t)(ho:openTh t (kl Kk) 2 k.l=.inr (.inside k.f k.K k.c k.a k.u k.r))(hu:¬ k.u<=now)(ha:openTh t (kl k.K) 7 au=.inr (.authent k.c ta q K0 (mkB 100 (t.sumAt β+1))))
   (hnear:nearF now ta=true) (hsl:∀ y ∈ sl,0<=y.t/\y.t<=1099511627776) (hx0:(⟨k.c,ta,q⟩:Sh) ∉ sl) (hmost:sl.length<64)
   (hsm:t.sums.length<=1000) (hs1:rightN srv=true) (hs2:srv.size<=300) (hn:inN nn=true) (ht:inN till=true) (hl:k.l.length=16) (hm:m2.length=16) (hβ:qTg srv nn till false true k.l [.ticket bKDC m2]=β) (hlen:β.length<=4096) :
   Spec Tryz.prog ⟨85,10,[.p 3 0,aI now,.c [aS bKDC,.o 6 k.l.length],.o 7 au.length,.i 58 (rqA srv nn till false true k.l.length au.length (.s 8 0 1 1))],[eK 1 2 Kk,eSv,eB 6 k.l,eB 7 au,.blk 8 39 [aS bKDC,.o 9 m2.length],eB 9 m2],[eT 0 t,eC 4 sl],
     .t [k.A,aI 0],[eT 0 (t.digest β),eC 4 (keptF now sl++[⟨k.c,ta,q⟩])]⟩:=by
 subst hβ
 exact s1 [cTb 1003 (opened_s (now:=now) hs ho hu),cTb 4010 (openAuth_s (us:=7) ha hs),fA 7004 (neS k.c),cTb 7016 (sumMeetA_s (an:=au.length) (au:=au) false true hsm hs1 hs2 hn ht (by omega) right_kdc (by decide) (by omega) hlen),cA 7017 (equal_s (l:=mkB 100 (t.sumAt (qTg srv nn till false true k.l [.ticket bKDC m2])+1)) rfl) [],cA 9012 (show_s ⟨k.c,ta,q⟩ hnear hsl hx0 hmost) []]
theorem met_s(k p:Tk)(hs:TabOk t)(ho:openTh t (kl Kk) 2 p.l=.inr (.inside p.f p.K p.c p.a p.u p.r))(hu:¬ p.u<=now)(h32:us.length<=1000000){u:User}(hb:placeB us p.c=true)(hg:us[placeI us p.c]?=some u)(hne:p.c.toList≠k.c.toList)(hme:u.mesh=true) :
   Spec Tryz.prog ⟨87,10,[.p 3 0,aI now,k.A,rqA p.c nn till false true k.l.length au.length (.s 8 0 1 1)],[eT 0 t,eK 1 2 Kk,eU 2 us,eSv,eB 6 k.l,eB 7 au,.blk 8 39 [aS bKDC,.o 9 p.l.length],eB 9 p.l],[],
     .t [.c ([aI 2]++aZ++[aS k.c,aI k.a,aI (min (min till k.u) p.u),aI 0]),.c (aK p.K),aI 0],[]⟩:=
 s1 [cTb 3006 (opened_s (now:=now) hs ho hu),cA 6009 (bsGet_s h32 hb hg) [],fA 9004 (neS p.c),fA 9010 (neT hne),fA 11002 (show Value.bool (!u.mesh)=.bool false by rw [hme];rfl),fA 13010 (imin3 till k.u p.u)]
theorem renewed_s(k:Tk)(hf:k.f=5)(hr:¬ k.r<=now)(h32:us.length<=1000000){u:User}(hb:placeB us k.c=true)(hg:us[placeI us k.c]?=some u)(hnow:0<=now/\now<=1099511627776)(hlife:0<=u.life/\u.life<=600) :
   Spec Tryz.prog ⟨86,8,[.p 3 0,aI now,k.A,rqA bKDC nn till true false k.l.length au.length aN],[eK 1 2 Kk,eU 2 us,eSv,eB 6 k.l,eB 7 au],[],
     .t [.c ([aI 1]++aK k.K++[aS k.c,aI k.a,aI (min (min till (now+u.life)) k.r),aI k.r]),aI 0],[]⟩:=by
 obtain ⟨K,c,f,a,u',r,l⟩:=k
 obtain rfl:f=5:=hf
 exact s1 [cA 1009 (bsGet_s h32 hb hg) [],fA 6003 (isF hr),fA 9005 (w64 (x:=now+u.life) (by omega) (by omega)),fA 9008 (imin3 till (now+u.life) r)]
theorem tgsMeet_s(k p:Tk)(hr:Room 9 t)(hnb:t.boxes.length=nb)(hK:kl K=mkB 107 (t.keys.length+1))(ho:openTh t (kl Kk) 2 k.l=.inr (.inside k.f k.K k.c k.a k.u k.r))(hu:¬ k.u<=now)(ha:openTh t (kl k.K) 7 au=.inr (.authent k.c ta q K0 (mkB 100 (t.sumAt β+1))))
   (hnear:nearF now ta=true) (hsl:∀ y ∈ sl,0<=y.t/\y.t<=1099511627776) (hx0:(⟨k.c,ta,q⟩:Sh) ∉ sl) (hmost:sl.length<64)
   (hsm:t.sums.length<=1000) (hs1:rightN p.c=true) (hs2:p.c.size<=300) (hn:inN nn=true) (ht:inN till=true) (hl:k.l.length=16) (hm:p.l.length=16) (hβ:qTg p.c nn till false true k.l [.ticket bKDC p.l]=β) (hlen:β.length<=4096)
   (htl:¬ till<=now) (ho2:openTh (t.digest β) (kl Kk) 2 p.l=.inr (.inside p.f p.K p.c p.a p.u p.r)) (hu2:¬ p.u<=now) (h32:us.length<=1000000) {u:User} (hb:placeB us p.c=true) (hg:us[placeI us p.c]?=some u) (hne:p.c.toList≠k.c.toList) (hme:u.mesh=true) (hkc:k.c.size<=1000)
   (h1:packB (.inside 2 K k.c k.a (min (min till k.u) p.u) 0)=.inr b1) (h2:packB (.reply 2 K nn p.c k.a (min (min till k.u) p.u) 0)=.inr b2) :
   Spec Tryz.prog ⟨54,10,[.p 3 0,aI now,rqA p.c nn till false true k.l.length au.length (.s 8 0 1 1)],[eK 1 2 Kk,eU 2 us,eSv,eB 6 k.l,eB 7 au,.blk 8 39 [aS bKDC,.o 9 p.l.length],eB 9 p.l],[eT 0 t,eC 4 sl],
     .t [.c [aS k.c,aS p.c,.o 10 16,.o 11 16],aI 0],[eT 0 (gvS ((t.digest β).add SFrom.fresh) p.K k.K 8 b1 b2),eC 4 (keptF now sl++[⟨k.c,ta,q⟩]),eB 10 (mkB 98 (nb+1)),eB 11 (mkB 98 (nb+2))]⟩:=
 s1 [cTb 1008 (whoMeet_s (q:=q) (srv:=p.c) (m2:=p.l) k hr.ok ho hu ha hnear hsl hx0 hmost hsm hs1 hs2 hn ht hl hm hβ hlen),fA 6003 (isF htl),cTb 5004 (met_s (t:=t.digest β) (nn:=nn) (till:=till) (au:=au) k p (Room.digest hr).ok ho2 hu2 h32 hb hg hne hme),cTb 14007 (fresh_s (s:=t.digest β) (by rw [dig_keys];exact hK) (by rw [dig_keys];exact hr.keys)),
   cTb 15012 (give_s (Kx:=p.K) (Ky:=k.K) (Kk:=Kk) (ug:=8) ((Room.digest (β:=β) hr).add SFrom.fresh) (nb:=nb) (by show (t.digest β).boxes.length=nb;rw [dig_boxes,hnb]) h1 h2 (by omega) (by omega))]
end
end
section
open Go.RowKit Go.QT
abbrev pwA:ByteArray:=⟨#[112,97]⟩
abbrev pwB:ByteArray:=⟨#[112,98]⟩
/-- Who is enrolled. -/
abbrev uAn(K:Fin 16->UInt8):User:=⟨bANN,K,100,500,true⟩
abbrev uBo(K:Fin 16->UInt8):User:=⟨bBOB,K,60,500,true⟩
abbrev eG:Ent:=.blk 6 34 [.p 0 0,.p 3 0,.p 7 0,.p 8 0]
section
variable{t:STab}{K Kk ka kb Kn:Fin 16->UInt8}{nb n:Nat}{nm pw:ByteArray}{now till nn st sq:Int}{b0 b1 b2 pre:Bytes}{us:List User}
theorem sNew_s:Spec Tryz.prog ⟨19,0,[],[],[],.p 0 0,[eT 0 STab.empty]⟩:=
 make_s (R:=fun F n=>rTab F n STab.empty) fun _ w=>(snew_any w).mono fun _ _ ⟨tb,F,e1,hT,hF,hb⟩=>⟨F,tb,e1,(Hp.nil _ w).newS hb (rTab F tb STab.empty) hT hF⟩
set_option maxRecDepth 100000
set_option maxHeartbeats 4000000
/-- The table of the stage. -/
abbrev opS:STab:=((STab.empty.add SFrom.fresh).made (textF pwA bANN)).made (textF pwB bBOB)
theorem open17_s(hk:kl Kk=mkB 107 1)(ha:kl ka=mkB 107 2)(hb:kl kb=mkB 107 3):Spec Tryz.prog ⟨11,0,[],[],[],.p 6 0,[eG,eSv,eK 1 2 Kk,.blk 7 51 ((Cl.new bANN).c 9),.blk 8 51 ((Cl.new bBOB).c 10),eT 0 opS,eU 2 [uAn ka,uBo kb],eC 4 [],eM 5 none,.blk 9 162 st0,.blk 10 162 st0]⟩:=
 s1 [cA 1000 sNew_s [],cA 2003 (kgNew_s (t:=STab.empty) hk (by decide)) [],cA 2006 (loNew_s bANN (STab.empty.add SFrom.fresh)) [],cA 2009 (loNew_s bBOB (STab.empty.add SFrom.fresh)) [],
   cA 5007 (enrol_s (t:=STab.empty.add SFrom.fresh) (pw:=pwA) (nm:=bANN) (K:=ka) (us:=[]) (life:=100) (renew:=500) (mesh:=true) (Kk:=Kk) ha (by decide) (by decide) (by decide) (by decide) right_ann (by decide) rfl (by decide) rfl) [],
   cA 5017 (enrol_s (t:=(STab.empty.add SFrom.fresh).made (textF pwA bANN)) (pw:=pwB) (nm:=bBOB) (K:=kb) (us:=[uAn ka]) (life:=60) (renew:=500) (mesh:=true) (Kk:=Kk) (by rw [hb];decide +kernel) (by decide) (by decide) (by decide +kernel) (by simp) right_bob (by decide) (place_other (show bANN≠bBOB from by decide)) (by simp) (by rw [placeI_one];exact show (if cmpS bANN bBOB<0 then 1 else 0)=1 from by decide +kernel)) []]
theorem askAs_s{nm0:ByteArray}(u:User)(hr:Room 9 t)(hnb:t.boxes.length=nb)(hK:kl K=mkB 107 (t.keys.length+1))(h32:us.length<=1000000)(hb:placeB us nm=true)(hu:us[placeI us nm]?=some u)(ho:openTh t (kl u.key) 1 pre=.inr (.stamp st sq))(hnear:nearF now st=true)(ht:¬ till<=now)
   (hnow:0<=now/\now<=1099511627776) (hlife:0<=u.life/\u.life<=600) (hren:0<u.renew/\u.renew<=6000) (hl:u.name.size<=1000)
   (h1:packB (.inside 5 K u.name now (min till (now+u.life)) (now+u.renew))=.inr b1) (h2:packB (.reply 5 K nn bKDC now (min till (now+u.life)) (now+u.renew))=.inr b2) :
   Spec Tryz.prog ⟨14,10,[.p 6 0,aI now,aS nm0,.i 27 (.c [aS nm,aI nn,aI till,.o 9 pre.length])],[eG,eSv,eK 1 2 Kk,eU 2 us,eB 9 pre],[eT 0 t],.i 143 (.c [aS u.name,aS bKDC,.o 10 16,.o 11 16]),
     [eT 0 (gvS (t.add SFrom.fresh) Kk u.key 3 b1 b2),eB 10 (mkB 98 (nb+1)),eB 11 (mkB 98 (nb+2))]⟩:=
 s1 [cTb 4009 (as_s (Kk:=Kk) u hr hnb hK h32 hb hu ho hnear ht hnow hlife hren hl h1 h2)]
/-- The table behind who logged in; what they have. -/
abbrev inS(t:STab)(pw:ByteArray)(u:User)(Kk:Fin 16->UInt8)(b0 b1 b2:Bytes):STab:=gvS ((lgS t pw u.name u.key b0).add SFrom.fresh) Kk u.key 3 b1 b2
theorem near_now{now:Int}(h1:0<=now)(h2:now<=1099511627776):nearF now now=true:=by unfold nearF;exact decide_eq_true (by omega)
theorem mk_le(k:UInt8)(n:Nat):(mkB k n).length<=1000000:=by rw [mkB_len];decide
abbrev inC(nb:Nat)(K:Fin 16->UInt8)(now till:Int)(u:User):Ck:=⟨mkB 98 (nb+1),K,5,min till (now+u.life),now+u.renew,mk_le 98 (nb+1)⟩
theorem in17_s(c:Cl)(u:User)(hc:c.nm=u.name)(hr:Room 20 t)(hnb:t.boxes.length=nb)(hn:(t.made (textF pw u.name)).keys.length+1=n)(hka:kl u.key=mkB 107 (t.num (textF pw u.name)))(hKn:kl Kn=mkB 107 n)(hK:kl K=mkB 107 (n+1))(hpw:pw.size<=1000)
   (h32:us.length<=1000000) (hb:placeB us u.name=true) (hu:us[placeI us u.name]?=some u) (hq:0<=c.q/\c.q<=1000000) (hnow:0<=now/\now<=1000000000000) (hlife:0<u.life/\u.life<=600) (hren:0<u.renew/\u.renew<=6000) (hl:u.name.size<=1000)
   (h0:packB (.stamp now (c.q+1))=.inr b0) (h1:packB (.inside 5 K u.name now (min (now+600) (now+u.life)) (now+u.renew))=.inr b1) (h2:packB (.reply 5 K (n:Int) bKDC now (min (now+600) (now+u.life)) (now+u.renew))=.inr b2) :
   Spec Tryz.prog ⟨28,11,[.p 6 0,.p 9 0,aS u.name,aS pw,aI now],[eG,eSv,eK 1 2 Kk,eU 2 us],[eT 0 t,.blk 9 51 (c.c 10),.blk 10 162 st0],aB true,
     [eT 0 (inS t pw u Kk b0 b1 b2),.blk 9 51 ((c.shown.asks 1 bKDC u.key (n:Int)).ended.c 10),.blk 10 162 (st1 ((inC (nb+1) K now (now+600) u).at bKDC 11)),eB 11 (mkB 98 (nb+2))]⟩:=by
 obtain ⟨nm,q,ak,nn,wh,cK,fn,fs,ff,ft⟩:=c
 obtain rfl:nm=u.name:=hc
 have hnb2:(t.made (textF pw u.name)).boxes.length=nb:=by rw [← hnb,made_bx]
 have e1:((t.made (textF pw u.name)).seal (kl u.key) 1 b0).boxes.length=nb+1:=by rw [seal_len,hnb2]
 have hr1:Room 17 (lgS t pw u.name u.key b0):=((hr.made _).seal _ _ (pack_le6 h0)).add SFrom.fresh
 have ho1:openTh (lgS t pw u.name u.key b0) (kl u.key) 1 (mkB 98 (nb+1))=.inr (.stamp now (q+1)):=op_bx (by rw [bx_add,← hnb2];exact bx_new (by have:=(hr.made (textF pw u.name)).box;omega)) h0
 have hr2:Room 14 (inS t pw u Kk b0 b1 b2):=((hr1.add SFrom.fresh).seal _ _ (pack_le6 h1)).seal _ _ (pack_le6 h2)
 have ho2:openTh (inS t pw u Kk b0 b1 b2) (kl u.key) 3 (mkB 98 (nb+3))=.inr (.reply 5 K (n:Int) bKDC now (min (now+600) (now+u.life)) (now+u.renew)):=
   op_bx (by rw [show nb+3=(((lgS t pw u.name u.key b0).add SFrom.fresh).seal (kl Kk) 2 b1).boxes.length+1 from by rw [seal_len];exact congrArg (· + 2) e1.symm];exact bx_new (by have:=hr2.box;rw [seal_len] at this;omega)) h2
 exact s1 [fA 1004 (w64 (x:=now+600) (by omega) (by omega)),cTb 1005 (login_s (till:=now+600) (Kn:=Kn) ⟨u.name,q,ak,nn,wh,cK,fn,fs,ff,ft⟩ hka (by omega) (show u.name.size<=1000000 by omega) (hr.less (m:=9) (by decide)) h0 hnb2 hn hKn hq),
   cTb 2009 (askAs_s (nm0:=u.name) (Kk:=Kk) (nb:=nb+1) u (hr1.less (m:=9) (by decide)) e1 (by rw [hK];congr 1;show n+1=((t.made _).keys++[_]).length+1;rw [List.length_append];exact congrArg (· + 1) hn.symm) h32 hb hu ho1 (near_now hnow.1 (by omega)) (by omega) (by omega) (by omega) hren hl h1 h2),
   cTb 2010 (gotAs_s (n:=(n:Int)) ⟨u.name,q+1,ak,nn,wh,cK,fn,fs,ff,ft⟩ (inC (nb+1) K now (now+600) u) hr2.ok ho2),cA 2018 (crLen1_s (inC (nb+1) K now (now+600) u)) []]
end
end
section
open Go.RowKit Go.QT
theorem qTk_len{s:ByteArray}{b:Bytes}(h1:s.size<=300)(h2:b.length<=300):(wrV (valD (.ticket s b))).length<=630:=by
 have h0:=wrV_leT (valD (.ticket s b))
 have e:bodyV (valD (.ticket s b))=wrL (valL (.ticket s b)):=rfl
 rw [e] at h0
 have h3:=wr_bD s.data.toList
 have h4:=wr_bD b
 rw [size_toList] at h3
 simp only [valL,wrL,List.length_append,List.length_nil] at h0
 omega
theorem qXs_len:∀ (xs:List Thing),(∀ x ∈ xs,(wrV (valD x)).length<=630)->xs.length<=1->(wrV (.mk 2 0 0 [] (xs.map valD))).length<=640
 | [],_,_=>by
   have h2:=wrV_leT (.mk 2 0 0 [] [])
   have e2:bodyV (.mk 2 0 0 [] [])=wrL []:=rfl
   rw [e2,wrL] at h2
   exact Nat.le_trans h2 (by decide)
 | [x],hx,_=>by
   have h2:=wrV_leT (.mk 2 0 0 [] [valD x])
   have e2:bodyV (.mk 2 0 0 [] [valD x])=wrL [valD x]:=rfl
   rw [e2] at h2
   simp only [wrL,List.length_append,List.length_nil] at h2
   have h3:=hx x (by simp)
   exact Nat.le_trans h2 (by omega)
 | _::_::_,_,h=>absurd h (by simp)
theorem qTg_len{srv:ByteArray}{nn till:Int}{r m:Bool}{l:Bytes}{xs:List Thing}(hs:srv.size<=300)(hl:l.length<=300)(hx:∀ x ∈ xs,(wrV (valD x)).length<=630)(h1:xs.length<=1):(qTg srv nn till r m l xs).length<=4096:=by
 have a8:=qXs_len xs hx h1
 have a6:=qTk_len (s:=bKDC) (show (3:Nat)<=300 by decide) hl
 have h0:=wrV_leT (tgsD srv nn till r m (.ticket bKDC l) [] xs)
 have e:bodyV (tgsD srv nn till r m (.ticket bKDC l) [] xs)=wrL [bD srv.data.toList,nD nn,nD till,nD r.toNat,nD m.toNat,valD (.ticket bKDC l),bD [],.mk 2 0 0 [] (xs.map valD)]:=rfl
 rw [e] at h0
 have a1:=wr_bD srv.data.toList
 have a2:=wr_nD nn
 have a3:=wr_nD till
 have a4:=wr_nD (r.toNat:Int)
 have a5:=wr_nD (m.toNat:Int)
 have a7:=wr_bD []
 rw [size_toList] at a1
 simp only [wrL,List.length_append,List.length_nil] at h0 a7
 refine Nat.le_trans h0 ?_
 omega
end
section
open Go.RowKit Go.QT
section
variable{t:STab}{K Kk Kx K0 ka kb Kn:Fin 16->UInt8}{nb n:Nat}{now ta q till nn:Int}{au m2 b0 b1 b2 β:Bytes}{sl:List Sh}{us:List User}{pw:ByteArray}{bx:List SSealed}{kn:List (SFrom × Nat)}
theorem TS.dig(h:TS t n bx kn)(β:Bytes):TS (t.digest β) n bx kn:=⟨by rw [dig_keys];exact h.keys,by rw [dig_boxes];exact h.boxes,by unfold STab.digest;split <;> exact h.known,h.body⟩
theorem TS.gv(h:TS t n bx kn){Kx Ky:Fin 16->UInt8}{us:Int}(h1:b1.length<=1000000)(h2:b2.length<=1000000):TS (gvS t Kx Ky us b1 b2) n (bx++[⟨kl Kx,2,b1⟩]++[⟨kl Ky,us,b2⟩]) kn:=(h.seal rfl h1).seal rfl h2
theorem TS.inn(h:TS t n bx kn)(u:User){m:Nat}(hf:kn.find? (fun p=>decide (p.1=textF pw u.name))=some (textF pw u.name,m))(h0:b0.length<=1000000)(h1:b1.length<=1000000)(h2:b2.length<=1000000):TS (inS t pw u Kk b0 b1 b2) (n+1+1) (bx++[⟨kl u.key,1,b0⟩]++[⟨kl Kk,2,b1⟩]++[⟨kl u.key,3,b2⟩]) kn:=
 ((((h.made_old rfl hf).1.seal rfl h0).add rfl).add rfl).gv h1 h2
set_option maxRecDepth 100000
set_option maxHeartbeats 4000000
theorem askMeet_s{nm0:ByteArray}(k p:Tk)(hr:Room 9 t)(hnb:t.boxes.length=nb)(hK:kl K=mkB 107 (t.keys.length+1))(ho:openTh t (kl Kk) 2 k.l=.inr (.inside k.f k.K k.c k.a k.u k.r))(hu:¬ k.u<=now)(ha:openTh t (kl k.K) 7 au=.inr (.authent k.c ta q K0 (mkB 100 (t.sumAt β+1))))
   (hnear:nearF now ta=true) (hsl:∀ y ∈ sl,0<=y.t/\y.t<=1099511627776) (hx0:(⟨k.c,ta,q⟩:Sh) ∉ sl) (hmost:sl.length<64)
   (hsm:t.sums.length<=1000) (hs1:rightN p.c=true) (hs2:p.c.size<=300) (hn:inN nn=true) (ht:inN till=true) (hl:k.l.length=16) (hm:p.l.length=16) (hβ:qTg p.c nn till false true k.l [.ticket bKDC p.l]=β) (hlen:β.length<=4096)
   (htl:¬ till<=now) (ho2:openTh (t.digest β) (kl Kk) 2 p.l=.inr (.inside p.f p.K p.c p.a p.u p.r)) (hu2:¬ p.u<=now) (h32:us.length<=1000000) {u:User} (hb:placeB us p.c=true) (hg:us[placeI us p.c]?=some u) (hne:p.c.toList≠k.c.toList) (hme:u.mesh=true) (hkc:k.c.size<=1000)
   (h1:packB (.inside 2 K k.c k.a (min (min till k.u) p.u) 0)=.inr b1) (h2:packB (.reply 2 K nn p.c k.a (min (min till k.u) p.u) 0)=.inr b2) :
   Spec Tryz.prog ⟨14,13,[.p 6 0,aI now,aS nm0,.i 58 (.c [aS p.c,aI nn,aI till,aB false,aB true,aS bKDC,.o 9 k.l.length,.o 10 au.length,.s 11 0 1 1])],[eG,eSv,eK 1 2 Kk,eU 2 us,eB 9 k.l,eB 10 au,.blk 11 39 [aS bKDC,.o 12 p.l.length],eB 12 p.l],[eT 0 t,eC 4 sl],
     .i 145 (.c [aS k.c,aS p.c,.o 13 16,.o 14 16]),[eT 0 (gvS ((t.digest β).add SFrom.fresh) p.K k.K 8 b1 b2),eC 4 (keptF now sl++[⟨k.c,ta,q⟩]),eB 13 (mkB 98 (nb+1)),eB 14 (mkB 98 (nb+2))]⟩:=
 s1 [cTb 10006 (tgsMeet_s (Kk:=Kk) (q:=q) k p hr hnb hK ho hu ha hnear hsl hx0 hmost hsm hs1 hs2 hn ht hl hm hβ hlen htl ho2 hu2 h32 hb hg hne hme hkc h1 h2)]
abbrev knS:List (SFrom × Nat):=[(textF pwA bANN,2),(textF pwB bBOB,3)]
theorem TS.op:TS opS 3 [] knS:=
 (((TS.empty.add (f:=SFrom.fresh) rfl).made_new (f:=textF pwA bANN) rfl (by simp)).1.made_new (f:=textF pwB bBOB) rfl (by decide +kernel)).1
theorem made_sums(f:SFrom):(t.made f).sums=t.sums:=(made_boxes rfl).2
theorem in_sums(u:User):(inS t pw u Kk b0 b1 b2).sums=t.sums:=made_sums (textF pw u.name)
theorem sh_sumAt{d:Bytes}{u:Int}:(shS t β K u d).sumAt β=t.sumAt β:=(sk_new (s:=t) (β:=β)).1
theorem plA{k k':Fin 16->UInt8}:placeB [uAn k,uBo k'] bANN=true/\[uAn k,uBo k'][placeI [uAn k,uBo k'] bANN]?=some (uAn k):=⟨by kernel_rfl,by kernel_rfl⟩
theorem plB{k k':Fin 16->UInt8}:placeB [uAn k,uBo k'] bBOB=true/\[uAn k,uBo k'][placeI [uAn k,uBo k'] bBOB]?=some (uBo k'):=⟨by kernel_rfl,by kernel_rfl⟩
theorem fnA:knS.find? (fun p=>decide (p.1=textF pwA bANN))=some (textF pwA bANN,2):=by decide +kernel
theorem fnB:knS.find? (fun p=>decide (p.1=textF pwB bBOB))=some (textF pwB bBOB,3):=by decide +kernel
theorem alive17_s:Spec Tryz.prog ⟨10,0,[],[],[],aB true,[]⟩:=by
 obtain ⟨Kk,hk⟩:=ex_key 1
 obtain ⟨ka,ha⟩:=ex_key 2
 obtain ⟨kb,hb⟩:=ex_key 3
 obtain ⟨N1,hN1⟩:=ex_key 4
 obtain ⟨K1,hK1⟩:=ex_key 5
 obtain ⟨N2,hN2⟩:=ex_key 6
 obtain ⟨K2,hK2⟩:=ex_key 7
 obtain ⟨N3,hN3⟩:=ex_key 8
 obtain ⟨K3,hK3⟩:=ex_key 9
 obtain ⟨b0,p0⟩:=pack_stamp (t:=100) (q:=0+1) (by decide) (by decide)
 obtain ⟨b1,p1⟩:=pack_inside (f:=5) (K:=K1) (s:=bANN) (a:=100) (u:=min (100+600) (100+100)) (r:=100+500) (rightM_is right_ann (by decide)) (by decide)
 obtain ⟨b2,p2⟩:=pack_reply (f:=5) (K:=K1) (n:=(4:Nat)) (s:=bKDC) (a:=100) (u:=min (100+600) (100+100)) (r:=100+500) (rightM_is right_kdc (by decide)) (by decide)
 obtain ⟨c1,r1⟩:=pack_inside (f:=5) (K:=K2) (s:=bBOB) (a:=100) (u:=min (100+600) (100+60)) (r:=100+500) (rightM_is right_bob (by decide)) (by decide)
 obtain ⟨c2,r2⟩:=pack_reply (f:=5) (K:=K2) (n:=(6:Nat)) (s:=bKDC) (a:=100) (u:=min (100+600) (100+60)) (r:=100+500) (rightM_is right_kdc (by decide)) (by decide)
 have T0:=TS.op
 have T1:TS (inS opS pwA (uAn ka) Kk b0 b1 b2) 5 _ knS:=T0.inn (uAn ka) (m:=2) fnA (pack_le6 p0) (pack_le6 p1) (pack_le6 p2)
 have T2:TS (inS (inS opS pwA (uAn ka) Kk b0 b1 b2) pwB (uBo kb) Kk b0 c1 c2) 7 _ knS:=T1.inn (uBo kb) (m:=3) fnB (pack_le6 p0) (pack_le6 r1) (pack_le6 r2)
 generalize hβ:qTg bBOB (8:Nat) 999 false true (mkB 98 2) [.ticket bKDC (mkB 98 5)]=β
 have hlen:β.length<=4096:=by rw [← hβ];exact qTg_len (by decide) (by decide) (by intro x hx;rw [List.mem_singleton.1 hx];exact qTk_len (by decide) (by decide)) (by decide)
 have hs2:(inS (inS opS pwA (uAn ka) Kk b0 b1 b2) pwB (uBo kb) Kk b0 c1 c2).sums=[]:=by rw [in_sums,in_sums];unfold opS;rw [made_sums,made_sums];rfl
 generalize ht1:inS opS pwA (uAn ka) Kk b0 b1 b2=t1 at *
 generalize ht2:inS t1 pwB (uBo kb) Kk b0 c1 c2=t2 at *
 obtain ⟨d,q0⟩:=pack_authent (s:=bANN) (t:=110) (q:=0+1+1) (K:=zKy) (c:=mkB 100 ((t2.add SFrom.fresh).sumAt β+1)) (rightM_is right_ann (by decide)) (by decide) (by rw [mkB_len];decide)
 have T3:TS (shS (t2.add SFrom.fresh) β K1 7 d) 8 _ knS:=((T2.add (f:=SFrom.fresh) rfl).dig β).seal rfl (pack_le6 q0)
 have hs3:(shS (t2.add SFrom.fresh) β K1 7 d).sums.length<=1000:=by
   have:=dig_len (s:=t2.add SFrom.fresh) (β:=β) (n:=0) (by show t2.sums.length<=0;rw [hs2];exact Nat.le_refl _)
   exact Nat.le_trans this (by decide)
 have hsa:(shS (t2.add SFrom.fresh) β K1 7 d).sumAt β=(t2.add SFrom.fresh).sumAt β:=sh_sumAt
 have h32:[uAn ka,uBo kb].length<=1000000:=by simp
 have m0:=T0.made_old (f:=textF pwA bANN) rfl fnA
 have m1:=T1.made_old (f:=textF pwB bBOB) rfl fnB
 have i1:=in17_s (Kk:=Kk) (K:=K1) (Kn:=N1) (t:=opS) (nb:=0) (n:=4) (pw:=pwA) (now:=100) (us:=[uAn ka,uBo kb]) (Cl.new bANN) (uAn ka) rfl (T0.room 20 (by decide) (by decide)) (congrArg List.length T0.boxes) (congrArg (· + 1) m0.1.keys) (ha.trans (congrArg (mkB 107) m0.2.symm)) hN1 hK1 (by decide) h32 plA.1 plA.2 (by decide) (by decide) (show (0:Int)<100/\(100:Int)<=600 by decide) (show (0:Int)<500/\(500:Int)<=6000 by decide) (show (3:Nat)<=1000 by decide) p0 p1 p2
 have i2:=in17_s (Kk:=Kk) (K:=K2) (Kn:=N2) (t:=t1) (nb:=3) (n:=6) (pw:=pwB) (now:=100) (us:=[uAn ka,uBo kb]) (Cl.new bBOB) (uBo kb) rfl (T1.room 20 (by decide) (show 3+20<1000000 by decide)) (congrArg List.length T1.boxes) (congrArg (· + 1) m1.1.keys) (hb.trans (congrArg (mkB 107) m1.2.symm)) hN2 hK2 (by decide) h32 plB.1 plB.2 (by decide) (by decide) (show (0:Int)<60/\(60:Int)<=600 by decide) (show (0:Int)<500/\(500:Int)<=6000 by decide) (show (3:Nat)<=1000 by decide) p0 r1 r2
 rw [ht1] at i1
 rw [ht2] at i2
 obtain ⟨e1,v1⟩:=pack_inside (f:=2) (K:=K3) (s:=bANN) (a:=100) (u:=min (min 999 (min (100+600) (100+100))) (min (100+600) (100+60))) (r:=0) (rightM_is right_ann (by decide)) (by decide)
 obtain ⟨e2,v2⟩:=pack_reply (f:=2) (K:=K3) (n:=(8:Nat)) (s:=bBOB) (a:=100) (u:=min (min 999 (min (100+600) (100+100))) (min (100+600) (100+60))) (r:=0) (rightM_is right_bob (by decide)) (by decide)
 have T4:TS (gvS (((shS (t2.add SFrom.fresh) β K1 7 d).digest β).add SFrom.fresh) K2 K1 8 e1 e2) 9 _ knS:=((T3.dig β).add rfl).gv (pack_le6 v1) (pack_le6 v2)
 have g1:=crGet1_s 110 (inC 4 K2 100 (100+600) (uBo kb)) (show ¬ min ((100:Int)+600) (100+60)<=110 by decide)
 have mt:=meet_s (s:=t2) (Kn:=N3) (n:=8) (nb:=6) (now:=110) (till:=999) (b:=d) (peer:=bBOB) (ts2:=bKDC) (m2:=mkB 98 5) ((Cl.new bANN).shown.asks 1 bKDC ka ((4:Nat):Int)).ended (inC 1 K1 100 (100+600) (uAn ka)) (T2.room 9 (by decide) (show 6+9<1000000 by decide)) (by rw [hs2];decide) right_bob (by decide) (congrArg (· + 1) T2.keys) hN3 (by decide) (show (0:Int)<=0+1/\(0:Int)+1<=1000000 by decide) (show ¬ min ((100:Int)+600) (100+100)<=110 by decide) (mkB_len _ _) right_kdc (by decide) (mkB_len _ _) hβ hlen (congrArg List.length T2.boxes) (show (3:Nat)<=1000 by decide) q0
 have ak:=askMeet_s (nm0:=bANN) (t:=shS (t2.add SFrom.fresh) β K1 7 d) (K:=K3) (Kk:=Kk) (nb:=7) (now:=110) (nn:=((8:Nat):Int)) (till:=999) (au:=mkB 98 7) (β:=β) (sl:=[]) (us:=[uAn ka,uBo kb]) (q:=0+1+1) (ta:=110) (K0:=zKy) (b1:=e1) (b2:=e2) (u:=uBo kb) ⟨K1,bANN,5,100,min (100+600) (100+100),100+500,mkB 98 2⟩ ⟨K2,bBOB,5,100,min (100+600) (100+60),100+500,mkB 98 5⟩ (T3.room 9 (by decide) (show 7+9<1000000 by decide)) (congrArg List.length T3.boxes) (by rw [T3.keys];exact hK3) (T3.opn (i:=1) rfl p1 (by decide)) (show ¬ min ((100:Int)+600) (100+100)<=110 by decide) (by rw [hsa];exact T3.opn (i:=6) rfl q0 (by decide)) (near_now (by decide) (by decide)) (by simp) (by simp) (by decide) hs3 right_bob (show (3:Nat)<=300 by decide) (by decide) (by decide) (mkB_len _ _) (mkB_len _ _) hβ hlen (by decide) ((T3.dig β).opn (i:=4) rfl r1 (by decide)) (show ¬ min ((100:Int)+600) (100+60)<=110 by decide) h32 plB.1 plB.2 (show bBOB.toList≠bANN.toList by decide +kernel) rfl (show (3:Nat)<=1000 by decide) v1 v2
 have gm:=gotMeet_s (n:=((8:Nat):Int)) (K:=K1) (a:=100) (l:=mkB 98 9) ((Cl.new bANN).shown.asks 1 bKDC ka ((4:Nat):Int)).ended.shown (inC 1 K1 100 (100+600) (uAn ka)) ⟨mkB 98 8,K3,2,min (min 999 (min (100+600) (100+100))) (min (100+600) (100+60)),0,mk_le _ _⟩ (T4.room 9 (by decide) (show 9+9<1000000 by decide)).ok (T4.opn (i:=8) rfl v2 (by decide))
 have g2:=crGet2_s 110 (inC 1 K1 100 (100+600) (uAn ka)) ⟨mkB 98 8,K3,2,min (min 999 (min (100+600) (100+100))) (min (100+600) (100+60)),0,mk_le _ _⟩ (show ¬ min (min (999:Int) (min (100+600) (100+100))) (min (100+600) (100+60))<=110 by decide)
 exact s1 [cA 1000 (open17_s hk ha hb) [],cA 2008 i1 [],cA 2017 i2 [],cA 4007 g1 [],cA 5006 mt [],cA 7007 ak [],cA 7008 gm [],cA 8007 g2 []] [16,25]
end
end
section
open Go.RowKit Go.QT
section
variable{t s:STab}{K Kk K0 Kn ka:Fin 16->UInt8}{nb n:Nat}{now ta q till nn st sq:Int}{au m2 b0 b1 b2 b β pre l:Bytes}{sl:List Sh}{us:List User}{nm nm0:ByteArray}
set_option maxRecDepth 100000
set_option maxHeartbeats 4000000
abbrev tqNo:AV:=.c [aS ByteArray.empty,aI 0,aI 0,aB false,aB false,aS ByteArray.empty,aN,aN,aN]
theorem renew_s(c:Cl)(d:Ck)(hr:Room 9 s)(hsm:s.sums.length<=1000)(hn:s.keys.length+1=n)(hKn:kl Kn=mkB 107 n)(ht:inN till=true)(hq:0<=c.q/\c.q<=1000000)(hk:¬ d.en<=now)
   (hm:d.m.length=16) (hβ:qTg bKDC (n:Int) till true false d.m []=β) (hlen:β.length<=4096) (hnb:s.boxes.length=nb) (hnm:c.nm.size<=1000)
   (hb:packB (.authent c.nm now (c.q+1) zKy (mkB 100 ((s.add SFrom.fresh).sumAt β+1)))=.inr b) :
   Spec Tryz.prog ⟨18,4,[.p 1 0,aI now,aI till],[eB 3 d.m],[eT 0 s,.blk 1 51 (c.c 2),.blk 2 162 (st1 (d.at bKDC 3))],
     .t [.c [aS bKDC,aI (n:Int),aI till,aB true,aB false,aS bKDC,.o 4 d.m.length,.o 5 16,aN],aI 0],[eT 0 (shS (s.add SFrom.fresh) β d.K 7 b),.blk 1 51 ((c.shown.asks 2 bKDC d.K (n:Int)).c 2),.blk 2 162 (st1 (d.at bKDC 3)),eB 4 d.m,eB 5 (mkB 98 (nb+1))]⟩:=by
 subst hβ
 have hk9:=hr.key
 exact s1 [cA 1001005 (crGet1_s now d hk) [],cTb 1004006 (number_s (by rw [hKn,hn]) hn (by omega)),fA 2001004 (w64 (x:=c.q+1) (by omega) (by omega)),
   cTb 2002021 (sumRenew_s (s:=s.add SFrom.fresh) (nn:=(n:Int)) true false hsm right_kdc (by decide) (inN_is (by omega) (by omega)) ht (by omega) hlen),
   cTb 2002024 (sealAuth_s (K:=d.K) (us:=7) hb (n:=nb) (by rw [dig_boxes];exact hnb) (Room.digest (β:=qTg bKDC (n:Int) till true false d.m []) (hr.add SFrom.fresh)).ok (by omega) (by rw [mkB_len];decide))] [57,22,49]
theorem whoRenew_s(k:Tk)(hs:TabOk t)(ho:openTh t (kl Kk) 2 k.l=.inr (.inside k.f k.K k.c k.a k.u k.r))(hu:¬ k.u<=now)(ha:openTh t (kl k.K) 7 au=.inr (.authent k.c ta q K0 (mkB 100 (t.sumAt β+1))))
   (hnear:nearF now ta=true) (hsl:∀ y ∈ sl,0<=y.t/\y.t<=1099511627776) (hx0:(⟨k.c,ta,q⟩:Sh) ∉ sl) (hmost:sl.length<64)
   (hsm:t.sums.length<=1000) (hn:inN nn=true) (ht:inN till=true) (hl:k.l.length=16) (hβ:qTg bKDC nn till true false k.l []=β) (hlen:β.length<=4096) :
   Spec Tryz.prog ⟨85,8,[.p 3 0,aI now,.c [aS bKDC,.o 6 k.l.length],.o 7 au.length,.i 58 (rqA bKDC nn till true false k.l.length au.length aN)],[eK 1 2 Kk,eSv,eB 6 k.l,eB 7 au],[eT 0 t,eC 4 sl],
     .t [k.A,aI 0],[eT 0 (t.digest β),eC 4 (keptF now sl++[⟨k.c,ta,q⟩])]⟩:=by
 subst hβ
 exact s1 [cTb 1003 (opened_s (now:=now) hs ho hu),cTb 4010 (openAuth_s (us:=7) ha hs),fA 7004 (neS k.c),cTb 7016 (sumRenewA_s (an:=au.length) (au:=au) true false hsm right_kdc (by decide) hn ht (by omega) hlen),cA 7017 (equal_s (l:=mkB 100 (t.sumAt (qTg bKDC nn till true false k.l [])+1)) rfl) [],cA 9012 (show_s ⟨k.c,ta,q⟩ hnear hsl hx0 hmost) []]
theorem tgsRenew_s(k:Tk)(hf:k.f=5)(hr:Room 9 t)(hnb:t.boxes.length=nb)(hK:kl K=mkB 107 (t.keys.length+1))(ho:openTh t (kl Kk) 2 k.l=.inr (.inside k.f k.K k.c k.a k.u k.r))(hu:¬ k.u<=now)(ha:openTh t (kl k.K) 7 au=.inr (.authent k.c ta q K0 (mkB 100 (t.sumAt β+1))))
   (hnear:nearF now ta=true) (hsl:∀ y ∈ sl,0<=y.t/\y.t<=1099511627776) (hx0:(⟨k.c,ta,q⟩:Sh) ∉ sl) (hmost:sl.length<64)
   (hsm:t.sums.length<=1000) (hn:inN nn=true) (ht:inN till=true) (hl:k.l.length=16) (hβ:qTg bKDC nn till true false k.l []=β) (hlen:β.length<=4096)
   (htl:¬ till<=now) (hrn:¬ k.r<=now) (h32:us.length<=1000000) {u:User} (hb:placeB us k.c=true) (hg:us[placeI us k.c]?=some u) (hkc:k.c.size<=1000) (hnow:0<=now/\now<=1099511627776) (hlife:0<=u.life/\u.life<=600)
   (h1:packB (.inside 1 K k.c k.a (min (min till (now+u.life)) k.r) k.r)=.inr b1) (h2:packB (.reply 1 K nn bKDC k.a (min (min till (now+u.life)) k.r) k.r)=.inr b2) :
   Spec Tryz.prog ⟨54,8,[.p 3 0,aI now,rqA bKDC nn till true false k.l.length au.length aN],[eK 1 2 Kk,eU 2 us,eSv,eB 6 k.l,eB 7 au],[eT 0 t,eC 4 sl],
     .t [.c [aS k.c,aS bKDC,.o 8 16,.o 9 16],aI 0],[eT 0 (gvS ((t.digest β).add SFrom.fresh) Kk k.K 8 b1 b2),eC 4 (keptF now sl++[⟨k.c,ta,q⟩]),eB 8 (mkB 98 (nb+1)),eB 9 (mkB 98 (nb+2))]⟩:=
 s1 [cTb 1008 (whoRenew_s (q:=q) k hr.ok ho hu ha hnear hsl hx0 hmost hsm hn ht hl hβ hlen),fA 6003 (isF htl),cA 11004 (renewed_s (Kk:=Kk) (nn:=nn) (till:=till) (au:=au) k hf hrn h32 hb hg hnow hlife) [],cTb 14007 (fresh_s (s:=t.digest β) (by rw [dig_keys];exact hK) (by rw [dig_keys];exact hr.keys)),
   cTb 15012 (give_s (Kx:=Kk) (Ky:=k.K) (Kk:=Kk) (ug:=8) ((Room.digest (β:=β) hr).add SFrom.fresh) (nb:=nb) (by show (t.digest β).boxes.length=nb;rw [dig_boxes,hnb]) h1 h2 (by omega) (by decide))]
theorem askRenew_s(k:Tk)(hf:k.f=5)(hr:Room 9 t)(hnb:t.boxes.length=nb)(hK:kl K=mkB 107 (t.keys.length+1))(ho:openTh t (kl Kk) 2 k.l=.inr (.inside k.f k.K k.c k.a k.u k.r))(hu:¬ k.u<=now)(ha:openTh t (kl k.K) 7 au=.inr (.authent k.c ta q K0 (mkB 100 (t.sumAt β+1))))
   (hnear:nearF now ta=true) (hsl:∀ y ∈ sl,0<=y.t/\y.t<=1099511627776) (hx0:(⟨k.c,ta,q⟩:Sh) ∉ sl) (hmost:sl.length<64)
   (hsm:t.sums.length<=1000) (hn:inN nn=true) (ht:inN till=true) (hl:k.l.length=16) (hβ:qTg bKDC nn till true false k.l []=β) (hlen:β.length<=4096)
   (htl:¬ till<=now) (hrn:¬ k.r<=now) (h32:us.length<=1000000) {u:User} (hb:placeB us k.c=true) (hg:us[placeI us k.c]?=some u) (hkc:k.c.size<=1000) (hnow:0<=now/\now<=1099511627776) (hlife:0<=u.life/\u.life<=600)
   (h1:packB (.inside 1 K k.c k.a (min (min till (now+u.life)) k.r) k.r)=.inr b1) (h2:packB (.reply 1 K nn bKDC k.a (min (min till (now+u.life)) k.r) k.r)=.inr b2) :
   Spec Tryz.prog ⟨14,11,[.p 6 0,aI now,aS nm0,.i 58 (.c [aS bKDC,aI nn,aI till,aB true,aB false,aS bKDC,.o 9 k.l.length,.o 10 au.length,aN])],[eG,eSv,eK 1 2 Kk,eU 2 us,eB 9 k.l,eB 10 au],[eT 0 t,eC 4 sl],
     .i 145 (.c [aS k.c,aS bKDC,.o 11 16,.o 12 16]),[eT 0 (gvS ((t.digest β).add SFrom.fresh) Kk k.K 8 b1 b2),eC 4 (keptF now sl++[⟨k.c,ta,q⟩]),eB 11 (mkB 98 (nb+1)),eB 12 (mkB 98 (nb+2))]⟩:=
 s1 [cTb 10006 (tgsRenew_s (Kk:=Kk) (q:=q) k hf hr hnb hK ho hu ha hnear hsl hx0 hmost hsm hn ht hl hβ hlen htl hrn h32 hb hg hkc hnow hlife h1 h2)]
end
end
section
open Go.RowKit Go.QT
end
section
open Go.RowKit Go.QT
end
section
open Go.RowKit Go.QT
end
section
open Go.ChangeShapes Go.WideShapes Go.ChangeAt Go.RowKit
set_option maxRecDepth 100000
variable{H:Type}{enc:TypeId × Value->H}{w:World}{base:Nat}{spare:Nat->Bool}{held:Bool}
theorem c22:Tryz.prog.cellsOf 40=16:=by kernel_rfl
theorem c5:Tryz.prog.cellsOf 5=1:=by kernel_rfl
end
section
open Go.ChangeShapes Go.WideShapes Go.ChangeAt Go.RowKit
theorem Tryz.own:ownKnob Tryz.prog.godebug=none:=by kernel_rfl
theorem Tryz.laidOut:laidOutB Tryz.prog=true:=by kernel_rfl
section
variable{H:Type}{enc:TypeId × Value->H}{P:Program}
theorem trodAll_stays{W W':World}{sp':Nat->Bool}(hl:laidOutB P=true):∀ (ts:List TypeId) (vs:List Value) (ds:List (DataW H)) (ps:List MemPlace),
   (ts.all fun t=>P.readableRec t && decide (t<P.types.size))=true->DataW.TrodAll enc P W 0 (fun _=>true) true ts vs ds ps ->
   (∀ p ∈ ps,W.sameAt W' p)->(∀ p ∈ ps,sp' p.block=true)->DataW.TrodAll enc P W' 0 sp' true ts vs ds ps
 | [],_,_,_,_,h,_,_=>by
   obtain ⟨rfl,rfl,rfl⟩:=trodAll_nil h
   exact rfl
 | t::ts,_,_,_,ht,h,hs,hsp=>by
   obtain ⟨v,vs,d,ds,a,b,rfl,rfl,rfl,h1,h2⟩:=trodAll_cons h
   rw [List.all_cons,Bool.and_eq_true,Bool.and_eq_true,decide_eq_true_eq] at ht
   exact ⟨a,b,WideElems.Trod_stays hl ht.1.1 ht.1.2 h1 (fun p hp=>hs p (by simp [hp])) (fun p hp=>hsp p (by simp [hp])),
     trodAll_stays hl ts vs ds b ht.2 h2 (fun p hp=>hs p (by simp [hp])) (fun p hp=>hsp p (by simp [hp])),rfl⟩
theorem post_of_below{f:Func}{s:ChangeSpec}{apart fresh handsOn again:Bool}{W W':World}{args:Array Value}{v:Value}{ds gs:List (DataW H)}{before pa pv:List MemPlace}
   (hW:DataW.Whole enc P f.params.toList s.vars apart W args.toList ds gs before)
   (hres:∀ (b:Nat) (sp:Nat->Bool) (hd:Bool),DataW.TrodAll enc P W' b sp hd f.resultTypes.toList (v.resultList f.resultTypes.size) (s.fn H (ds++gs)).results [])
   (hargs:∀ sp:Nat->Bool,(∀ p ∈ before,sp p.block=true)->DataW.TrodAll enc P W' 0 sp true f.params.toList args.toList (s.fn H (ds++gs)).args pa)
   (hvars:∀ sp:Nat->Bool,(∀ p ∈ before,sp p.block=true)->DataW.TrodVars enc P W' sp s.vars (s.fn H (ds++gs)).vars pv)
   (hps:before=pa++pv) (hb:Below W.heap.size W W')
   (hok:∀ (j:Nat) (t:TypeId) (r:Value),f.resultTypes[j]?=some t->(v.resultList f.resultTypes.size)[j]?=some r->Value.okWide P W' .any 0 t r) :
   s.post enc P f apart fresh handsOn again W args v W':=by
 have hlt:∀ p ∈ before,p.block<W.heap.size:=fun p hp=>hW.lt p hp
 have hold:∀ p ∈ before,(fun b=>decide (b<W.heap.size)) p.block=true:=fun p hp=>by simpa using hlt p hp
 refine ⟨ds,gs,before,[],pa,pv,hW,hres _ _ _,hargs _ hold,hvars _ hold,World.keptBut_mono (fun p hp=>⟨hp,?_⟩) (hb.frame (· ∈ before)),fun _=>?_⟩
 · rw [hps,List.mem_append] at hp
   exact Or.inr hp
 obtain ⟨_,_,_,_,_,hz,hn⟩:=hW
 refine ⟨hok,_,_,([]++pa)++pv,⟨[]++pa,pv,trodAll_append (hargs _ (fun _ _=>rfl)) (hres _ _ _),hvars _ (fun _ _=>rfl),rfl,?_,?_⟩,?_⟩
 · intro b off hp
   have hin:MemPlace.cell b off ∈ before:=by rw [hps];simpa using hp
   rw [hb.frozen (hlt _ hin)]
   exact hz b off hin
 · intro ha
   have:=hn ha
   rw [hps] at this
   simpa using this
 intro p hp _
 rw [hps]
 simpa using hp
/-- A law's post: it returned true, and what was there is as it was. -/
theorem law_post{f:Func}{s:ChangeSpec}{apart fresh handsOn again:Bool}{W W':World}{args:Array Value}{ds gs:List (DataW H)}{before:List MemPlace}{tb:TypeId}
   (hl:laidOutB P=true) (hts:(f.params.toList.all fun t=>P.readableRec t && decide (t<P.types.size))=true) (htb:P.underlying tb=some .bool) (hr:f.resultTypes=#[tb]) (hv:s.vars=[])
   (hfn:∀ ds:List (DataW H),ds.length=f.params.size->s.fn H ds=⟨[.lit (.bool true)],ds,[]⟩)
   (hW:DataW.Whole enc P f.params.toList s.vars apart W args.toList ds gs before) (hb:Below W.heap.size W W') :
   s.post enc P f apart fresh handsOn again W args (.bool true) W':=by
 have hW':=hW
 have hlt:∀ p ∈ before,p.block<W.heap.size:=fun p hp=>hW.lt p hp
 obtain ⟨p,q,hA,hV,rfl,hfz,hnd⟩:=hW
 rw [hv] at hV
 obtain ⟨rfl,rfl⟩:=trodVars_none hV
 have hlen:ds.length=f.params.size:=by
   have:∀ (ts:List TypeId) (vs:List Value) (ds:List (DataW H)) (p:List MemPlace),DataW.TrodAll enc P W 0 (fun _=>true) true ts vs ds p->ds.length=ts.length:=by
     intro ts
     induction ts with
     | nil=>intro vs ds p h;obtain ⟨rfl,rfl,rfl⟩:=trodAll_nil h;rfl
     | cons t ts ih =>
       intro vs ds p h
       obtain ⟨v,vs,d,ds,a,b,rfl,rfl,rfl,h1,h2⟩:=trodAll_cons h
       simp [ih _ _ _ h2]
   simpa using this _ _ _ _ hA
 simp only [List.append_nil] at hW' hlt
 have hds:s.fn H (ds++[])=⟨[.lit (.bool true)],ds,[]⟩:=by rw [List.append_nil];exact hfn ds hlen
 refine post_of_below (pa:=p) (pv:=[]) (gs:=[]) hW' ?_ ?_ ?_ (by simp) hb ?_
 · intro b sp hd
   rw [hds,hr]
   exact trodAll_mk1 (shut_bool htb true)
 · intro sp hsp
   rw [hds]
   exact trodAll_stays hl _ _ _ _ hts hA (fun x hx=>hb.same (hlt x hx)) hsp
 · intro sp _
   rw [hds,hv]
   exact rfl
 exact ok_one hr rfl (okWide_bool_mk htb true)
end
section
variable{H:Type}{enc:TypeId × Value->H}{w:World}{base:Nat}
end
end
section
open Go.ChangeShapes
variable{H:Type}{enc:TypeId × Value->H}{P:Program}{w:World}{base:Nat}{spare:Nat->Bool}{held:Bool}
end
end Go.Proofs.YtaoijkhndakppaaGreat
