/- The walks of the talk: open. -/
import Derived.Test.YtjalodhdjollhaaCA12
set_option maxRecDepth 100000
set_option maxHeartbeats 4000000
namespace Go.Proofs.Ytjalodhdjollhaa
section
open Go.RowKit Go.QT
/-- A frame's cells, or those of none. -/
def FrmO (L : List (Value × Bytes)) (m : Option Frm) (cs : List Value) : Prop := match m with | none => cs = zFrm | some f => FrmAt L f cs
/-- What Send does to a table and a session, and the frame that it answers. -/
inductive SendR (s : STab) (S : Ses) : STab -> Ses -> Option Frm -> Prop
 | over (h : S.over = true) : SendR s S s S none
 | frame (ho : S.over = false) (f : Frm) (h : S.frame = some f) : SendR s S s S (some f)
 | none (ho : S.over = false) (h : S.frame = none) (hq : S.queue = []) : SendR s S s S none
 | data (ho : S.over = false) (h : S.frame = none) (k : Nat) (b : Bytes) (qs : List (Nat × Bytes)) (hq : S.queue = (k, b) :: qs) (hk : k ≠ 3) : SendR s S (sealT s S k (S.sent + 1) b) { S with frame := some (sealF s S (S.sent + 1)) } (some (sealF s S (S.sent + 1)))
 | rekey (ho : S.over = false) (h : S.frame = none) (b : Bytes) (qs : List (Nat × Bytes)) (hq : S.queue = (3, b) :: qs) : SendR s S (sealRT s S 3 (S.sent + 1) b) (sealRS s S 3 (S.sent + 1) b) (some (sealF s S (S.sent + 1)))
/-- For whom a frame is. -/
structure ForS (S : Ses) (f : Frm) : Prop where
 ho : S.over = false
 h1 : f.src = S.peer
 h2 : f.dst = S.me
 h3 : f.sid = S.sid
/-- What a frame says to a session: nothing, or a record. -/
def Said (s : STab) (S : Ses) (f : Frm) : Option (Nat × Nat × Bytes) -> Prop
 | none => (openT s S).open_ (openK s S) 14 f.box = none ∨ ∃ k n b, k < 1000 /\ n < 900000 /\ b.length <= 2048 /\ (openT s S).open_ (openK s S) 14 f.box = some (wrV (contV k n b)) /\ Value.bool (!((n : Int) == IntKind.u64.wrap f.seq)) = Value.bool true
 | some (k, n, b) => k < 1000 /\ n < 900000 /\ b.length <= 2048 /\ (openT s S).open_ (openK s S) 14 f.box = some (wrV (contV k n b)) /\ f.seq = (n : Int)
def markedR (S : Ses) (n : Nat) : Ses := if S.frame.isSome /\ n = S.sent + 1 then markR S else S
/-- What Take does, and answers: bytes, a mark, an error's number. -/
inductive TakeR (s : STab) (S : Ses) (f : Frm) (r : Option (Nat × Nat × Bytes)) : STab -> Ses -> Option Bytes -> Option Frm -> Int -> Prop
 | over (h : S.over = true) : TakeR s S f r s S none none 21
 | wrong (ho : S.over = false) (h : f.src ≠ S.peer ∨ f.dst ≠ S.me ∨ f.sid ≠ S.sid) : TakeR s S f r s S none none 17
 | old (h : ForS S f) (hlt : f.epoch < (S.ei : Int)) (hle : f.seq <= (S.got : Int)) : TakeR s S f r (sealT s S 2 S.got []) S none (some (sealF s S S.got)) 18
 | epoch (h : ForS S f) (hne : f.epoch ≠ (S.ei : Int)) (hn : ¬ (f.epoch < (S.ei : Int) /\ f.seq <= (S.got : Int))) : TakeR s S f r s S none none 18
 | shut (h : ForS S f) (he : f.epoch = (S.ei : Int)) (hr : r = none) : TakeR s S f r (openT s S) S none none 13
 | mark (h : ForS S f) (he : f.epoch = (S.ei : Int)) (n : Nat) (b : Bytes) (hr : r = some (2, n, b)) : TakeR s S f r (openT s S) (markedR S n) none none 0
 | again (h : ForS S f) (he : f.epoch = (S.ei : Int)) (k n : Nat) (b : Bytes) (hr : r = some (k, n, b)) (hk : k ≠ 2) (hle : n <= S.got) : TakeR s S f r (sealT (openT s S) S 2 S.got []) S none (some (sealF (openT s S) S S.got)) 18
 | ahead (h : ForS S f) (he : f.epoch = (S.ei : Int)) (k n : Nat) (b : Bytes) (hr : r = some (k, n, b)) (hk : k ≠ 2) (hlt : S.got + 1 < n) : TakeR s S f r (openT s S) S none none 18
 | data (h : ForS S f) (he : f.epoch = (S.ei : Int)) (k : Nat) (b : Bytes) (hr : r = some (k, S.got + 1, b)) (hk : k ≠ 2) (hk3 : k ≠ 3) :
     TakeR s S f r (sealT (openT s S) { S with got := S.got + 1 } 2 (S.got + 1) []) { S with got := S.got + 1 } (some b) (some (sealF (openT s S) { S with got := S.got + 1 } (S.got + 1))) 0
 | rekey (h : ForS S f) (he : f.epoch = (S.ei : Int)) (b : Bytes) (hr : r = some (3, S.got + 1, b)) :
     TakeR s S f r (inT (sealT (openT s S) { S with got := S.got + 1 } 2 (S.got + 1) []) { S with got := S.got + 1 }) (inS (sealT (openT s S) { S with got := S.got + 1 } 2 (S.got + 1) []) { S with got := S.got + 1 }) none (some (sealF (openT s S) { S with got := S.got + 1 } (S.got + 1))) 0
theorem ba_ne {a b : ByteArray} (h : a ≠ b) : a.toList ≠ b.toList := fun e => h (by
 rw [ByteArray.toList_eq, ByteArray.toList_eq] at e
 cases a; cases b; simp only [ByteArray.mk.injEq]; exact Array.ext' e)
section
variable {F G : Nat -> Prop} {tb sb : Nat} {s : STab} {L : List (Value × Bytes)} {S : Ses} {w : World}
end
end
section
abbrev nxtF (k : Bytes) : SFrom := deriveF k ⟨#[110, 101, 120, 116]⟩
abbrev useF (k : Bytes) : SFrom := deriveF k ⟨#[117, 115, 101]⟩
theorem use_nxt (k l : Bytes) : useF k ≠ nxtF l := fun h => absurd (derive_inj.1 h).2 (by decide)
theorem STab.at_made_ne (s : STab) {f g : SFrom} (h : f ≠ g) : (s.made g).at_ f = s.at_ f := by
 unfold STab.made
 cases hg : s.at_ g with
 | some m => rfl
 | none =>
   unfold STab.at_
   simp only [List.find?_append]
   have : List.find? (fun p : SFrom × Nat => decide (p.1 = f)) [(g, s.keys.length + 1)] = none := by
     simp [Ne.symm h]
   rw [this]
   cases s.known.find? (fun p => decide (p.1 = f)) <;> rfl
/-- How often the key goes on. -/
def rks (l : List (Nat × Bytes)) : Nat := l.countP (fun p => decide (p.1 = 3))
/-- What was said. -/
def datas (l : List (Nat × Bytes)) : List Bytes := (l.filter (fun p => decide (p.1 = 1))).map (·.2)
theorem rks_snoc (l : List (Nat × Bytes)) (p : Nat × Bytes) : rks (l ++ [p]) = rks l + if p.1 = 3 then 1 else 0 := by
 unfold rks; rw [List.countP_append]; simp [List.countP_cons]
theorem datas_snoc (l : List (Nat × Bytes)) (p : Nat × Bytes) : datas (l ++ [p]) = datas l ++ if p.1 = 1 then [p.2] else [] := by
 unfold datas; rw [List.filter_append, List.map_append]; congr 1
 by_cases h : p.1 = 1 <;> simp [h]
theorem take_snoc {l : List (Nat × Bytes)} {n : Nat} {p : Nat × Bytes} (h : l[n]? = some p) : l.take (n + 1) = l.take n ++ [p] := by
 rw [List.take_add_one, h]; rfl
theorem rks_take_le (l : List (Nat × Bytes)) {m n : Nat} (h : m <= n) : rks (l.take m) <= rks (l.take n) := by
 have : l.take m = (l.take n).take m := by rw [List.take_take, Nat.min_eq_left h]
 rw [this]
 exact (List.take_sublist _ _).countP_le
theorem rks_take_all (l : List (Nat × Bytes)) (m : Nat) : rks (l.take m) <= rks l := (List.take_sublist _ _).countP_le
theorem rks_len (l : List (Nat × Bytes)) : rks l <= l.length := List.countP_le_length
def Ses.fn (S : Ses) : Nat := if S.frame.isSome then 1 else 0
/-- A way of a session: all parts that were let wait, and its keys. -/
structure Way where
 P : List (Nat × Bytes)
 ks : List Bytes
structure KsI (s : STab) (W : Way) (S : Ses) : Prop where
 len : W.ks.length = S.eo + 1
 ko : W.ks[S.eo]? = some S.ko
 nx : ∀ (e : Nat) (k k' : Bytes), W.ks[e]? = some k -> W.ks[e + 1]? = some k' -> ∃ m, s.at_ (nxtF k) = some m /\ k' = mkB 107 m
 last : s.at_ (nxtF S.ko) = none
 mkk : ∀ k ∈ W.ks, ∃ m, k = mkB 107 m /\ m <= s.keys.length
 nd : W.ks.Nodup
/-- The frame that is out. -/
structure FrI (s : STab) (W : Way) (S : Ses) (f : Frm) : Prop where
 src : f.src = S.me
 dst : f.dst = S.peer
 sid : f.sid = S.sid
 seq : f.seq = ((S.sent + 1 : Nat) : Int)
 ex : ∃ (e : Nat) (K : Bytes) (m k : Nat) (b : Bytes) (j : Nat), f.epoch = (e : Int) /\ f.box = mkB 98 (j + 1) /\ s.boxes[j]? = some ⟨mkB 107 m, 14, wrV (contV k (S.sent + 1) b)⟩ /\ W.ks[e]? = some K /\ s.at_ (useF K) = some m /\ W.P[S.sent]? = some (k, b) /\ e = rks (W.P.take S.sent)
/-- One way: S sends, R receives. -/
structure WayI (s : STab) (W : Way) (S R : Ses) : Prop where
 ov : S.over = false
 q : S.queue = W.P.drop S.sent
 q8 : S.queue.length <= 8
 sl : S.sent + S.fn <= W.P.length
 g1 : S.sent <= R.got
 g2 : R.got <= S.sent + S.fn
 kd : ∀ p ∈ W.P, (p.1 = 1 ∨ p.1 = 3) /\ p.2.length <= 2048
 eo : S.eo = rks (W.P.take (S.sent + S.fn))
 ei : R.ei = rks (W.P.take R.got)
 ks : KsI s W S
 ki : W.ks[R.ei]? = some R.ki
 fr : ∀ f, S.frame = some f -> FrI s W S f
/-- A box that S sealed on its way. -/
structure BoxI (s : STab) (W : Way) (S : Ses) (x : SSealed) (e k n : Nat) (b : Bytes) : Prop where
 ex : ∃ K m, W.ks[e]? = some K /\ s.at_ (useF K) = some m /\ x = ⟨mkB 107 m, 14, wrV (contV k n b)⟩
 bk : k < 1000
 bn : n < 900000
 bb : b.length <= 2048
 mrk : k = 2 -> n <= S.got
 pt : k ≠ 2 -> 1 <= n /\ n <= S.sent + S.fn /\ W.P[n - 1]? = some (k, b) /\ e = rks (W.P.take (n - 1))
structure RecI (s : STab) (a b : Ses) (Wa Wb : Way) : Prop where
 wf : s.WF
 of : ∀ f m, s.at_ f = some m -> ∃ j, j <= s.keys.length /\ f.of = mkB 107 j
 ab : WayI s Wa a b
 ba : WayI s Wb b a
 dis : ∀ k ∈ Wa.ks, k ∉ Wb.ks
 box : ∀ x ∈ s.boxes, (∃ e k n c, BoxI s Wa a x e k n c) ∨ (∃ e k n c, BoxI s Wb b x e k n c)
theorem RecI.symm {s : STab} {a b : Ses} {Wa Wb : Way} (h : RecI s a b Wa Wb) : RecI s b a Wb Wa :=
 ⟨h.wf, h.of, h.ba, h.ab, fun k hb ha => h.dis k ha hb, fun x hx => (h.box x hx).symm⟩
/-- A table that has grown, by nothing that a chain would go on by. -/
structure Grow (s s' : STab) : Prop where
 le : s.keys.length <= s'.keys.length
 at_ : ∀ f m, s.at_ f = some m -> s'.at_ f = some m
 nx : ∀ k, s.at_ (nxtF k) = none -> s'.at_ (nxtF k) = none
 bx : ∀ (j : Nat) (x : SSealed), s.boxes[j]? = some x -> s'.boxes[j]? = some x
section
variable {s s' s'' : STab} {a b a' b' S R S' R' : Ses} {W Wa Wb : Way} {f : Frm} {x : SSealed} {e k n m : Nat} {c : Bytes} {r : Option (Nat × Nat × Bytes)}
theorem Grow.refl (s : STab) : Grow s s := ⟨Nat.le_refl _, fun _ _ h => h, fun _ h => h, fun _ _ h => h⟩
theorem Grow.trans (h : Grow s s') (h' : Grow s' s'') : Grow s s'' := ⟨Nat.le_trans h.le h'.le, fun f m hf => h'.at_ f m (h.at_ f m hf), fun k hk => h'.nx k (h.nx k hk), fun j x hj => h'.bx j x (h.bx j x hj)⟩
theorem Grow.use (s : STab) (k : Bytes) : Grow s (s.made (useF k)) :=
 ⟨STab.made_mono s _, fun f m hf => STab.at_made_of s f _ m hf, fun l hl => by rw [STab.at_made_ne s (Ne.symm (use_nxt k l))]; exact hl, fun j x hj => by rw [(made_boxes (s' := s.made (useF k)) rfl).1]; exact hj⟩
theorem Grow.seal (s : STab) (k : Bytes) (u : Int) (c : Bytes) : Grow s (s.seal k u c) :=
 ⟨Nat.le_refl _, fun _ _ h => h, fun _ h => h, fun j x hj => by show (s.boxes ++ _)[j]? = _; rw [List.getElem?_append_left (List.getElem?_eq_some_iff.1 hj).1]; exact hj⟩
theorem openT_grow (s : STab) (S : Ses) : Grow s (openT s S) := Grow.use s _
theorem sealT_grow (s : STab) (S : Ses) (k n : Nat) (c : Bytes) : Grow s (sealT s S k n c) := (Grow.use s _).trans (Grow.seal _ _ _ _)
theorem KsI.grow (h : KsI s W S) (g : Grow s s') : KsI s' W S :=
 ⟨h.len, h.ko, fun e k k' h1 h2 => by obtain ⟨m, hm, e⟩ := h.nx e k k' h1 h2; exact ⟨m, g.at_ _ _ hm, e⟩, g.nx _ h.last, fun k hk => by obtain ⟨m, e, hm⟩ := h.mkk k hk; exact ⟨m, e, Nat.le_trans hm g.le⟩, h.nd⟩
theorem FrI.grow (h : FrI s W S f) (g : Grow s s') : FrI s' W S f :=
 ⟨h.src, h.dst, h.sid, h.seq, by obtain ⟨e, K, m, k, b, j, h1, h2, h3, h4, h5, h6⟩ := h.ex; exact ⟨e, K, m, k, b, j, h1, h2, g.bx _ _ h3, h4, g.at_ _ _ h5, h6⟩⟩
theorem WayI.grow (h : WayI s W S R) (g : Grow s s') : WayI s' W S R :=
 ⟨h.ov, h.q, h.q8, h.sl, h.g1, h.g2, h.kd, h.eo, h.ei, h.ks.grow g, h.ki, fun f hf => (h.fr f hf).grow g⟩
theorem BoxI.grow (h : BoxI s W S x e k n c) (g : Grow s s') : BoxI s' W S x e k n c :=
 ⟨by obtain ⟨K, m, h1, h2, h3⟩ := h.ex; exact ⟨K, m, h1, g.at_ _ _ h2, h3⟩, h.bk, h.bn, h.bb, h.mrk, h.pt⟩
theorem of_made (h : ∀ f m, s.at_ f = some m -> ∃ j, j <= s.keys.length /\ f.of = mkB 107 j) {g : SFrom} (hg : ∃ j, j <= s.keys.length /\ g.of = mkB 107 j) : ∀ f m, (s.made g).at_ f = some m -> ∃ j, j <= (s.made g).keys.length /\ f.of = mkB 107 j := fun f m hf => by
 have hl := STab.made_mono s g
 by_cases e : f = g
 · subst e; obtain ⟨j, h1, h2⟩ := hg; exact ⟨j, by omega, h2⟩
 · rw [STab.at_made_ne s e] at hf
   obtain ⟨j, h1, h2⟩ := h f m hf
   exact ⟨j, by omega, h2⟩
theorem WayI.koMem (h : WayI s W S R) : S.ko ∈ W.ks := List.mem_of_getElem? h.ks.ko
theorem WayI.kiMem (h : WayI s W S R) : R.ki ∈ W.ks := List.mem_of_getElem? h.ki
theorem RecI.mkK (h : RecI s a b Wa Wb) {K : Bytes} (hK : K ∈ Wa.ks ∨ K ∈ Wb.ks) : ∃ j, j <= s.keys.length /\ K = mkB 107 j := by
 rcases hK with hK | hK
 · obtain ⟨m, e, hm⟩ := h.ab.ks.mkk K hK; exact ⟨m, hm, e⟩
 · obtain ⟨m, e, hm⟩ := h.ba.ks.mkk K hK; exact ⟨m, hm, e⟩
theorem RecI.useT (h : RecI s a b Wa Wb) {K : Bytes} (hK : K ∈ Wa.ks ∨ K ∈ Wb.ks) : RecI (s.made (useF K)) a b Wa Wb :=
 ⟨h.wf.made _, of_made h.of (h.mkK hK), h.ab.grow (Grow.use s K), h.ba.grow (Grow.use s K), h.dis, fun x hx => by
   rw [(made_boxes (s' := s.made (useF K)) rfl).1] at hx
   rcases h.box x hx with ⟨e, k, n, c, hb⟩ | ⟨e, k, n, c, hb⟩
   · exact .inl ⟨e, k, n, c, hb.grow (Grow.use s K)⟩
   · exact .inr ⟨e, k, n, c, hb.grow (Grow.use s K)⟩⟩
theorem RecI.openA (h : RecI s a b Wa Wb) : RecI (openT s a) a b Wa Wb := h.useT (.inr h.ba.kiMem)
/-- A box that a seals. -/
theorem RecI.sealA (h : RecI s a b Wa Wb) (hb : ∀ x, x = SSealed.mk (mkB 107 (s.num (useF a.ko))) 14 (wrV (contV k n c)) -> BoxI (sealT s a k n c) Wa a x a.eo k n c) : RecI (sealT s a k n c) a b Wa Wb := by
 have h1 := h.useT (K := a.ko) (.inl h.ab.koMem)
 have g := Grow.seal (s.made (useF a.ko)) (mkB 107 (s.num (useF a.ko))) 14 (wrV (contV k n c))
 refine ⟨⟨h1.wf.le, h1.wf.inj⟩, h1.of, h1.ab.grow g, h1.ba.grow g, h.dis, fun x hx => ?_⟩
 have hx : x ∈ (s.made (useF a.ko)).boxes ++ [SSealed.mk (mkB 107 (s.num (useF a.ko))) 14 (wrV (contV k n c))] := hx
 rcases List.mem_append.1 hx with hx | hx
 · rcases h1.box x hx with ⟨e, k, n, c, hb⟩ | ⟨e, k, n, c, hb⟩
   · exact .inl ⟨e, k, n, c, hb.grow g⟩
   · exact .inr ⟨e, k, n, c, hb.grow g⟩
 · exact .inl ⟨_, _, _, _, hb x (List.mem_singleton.1 hx)⟩
theorem sealT_at (s : STab) (S : Ses) (k n : Nat) (c : Bytes) : (sealT s S k n c).at_ (useF S.ko) = some (s.num (useF S.ko)) := STab.at_made s _
theorem sealT_boxes (s : STab) (S : Ses) (k n : Nat) (c : Bytes) : (sealT s S k n c).boxes = s.boxes ++ [⟨mkB 107 (s.num (useF S.ko)), 14, wrV (contV k n c)⟩] := by
 show (s.made (useF S.ko)).boxes ++ _ = _
 rw [(made_boxes (s' := s.made (useF S.ko)) rfl).1]
end
end
section
structure Grow0 (s s' : STab) : Prop where
 le : s.keys.length <= s'.keys.length
 at_ : ∀ f m, s.at_ f = some m -> s'.at_ f = some m
 bx : ∀ (j : Nat) (x : SSealed), s.boxes[j]? = some x -> s'.boxes[j]? = some x
theorem Grow.z {s s' : STab} (g : Grow s s') : Grow0 s s' := ⟨g.le, g.at_, g.bx⟩
theorem Grow0.trans {s s' s'' : STab} (h : Grow0 s s') (h' : Grow0 s' s'') : Grow0 s s'' := ⟨Nat.le_trans h.le h'.le, fun f m hf => h'.at_ f m (h.at_ f m hf), fun j x hj => h'.bx j x (h.bx j x hj)⟩
theorem Grow0.made (s : STab) (f : SFrom) : Grow0 s (s.made f) :=
 ⟨STab.made_mono s _, fun g m hf => STab.at_made_of s g f m hf, fun j x hj => by rw [(made_boxes (s' := s.made f) rfl).1]; exact hj⟩
theorem made_new2 {s : STab} {f : SFrom} (h : s.at_ f = none) : s.num f = s.keys.length + 1 /\ (s.made f).keys.length = s.keys.length + 1 := by
 unfold STab.num STab.made
 rw [h]
 exact ⟨rfl, by simp⟩
section
variable {s s' s'' : STab} {m' : Option Frm} {a b a' b' S R S' R' : Ses} {W Wa Wb W' : Way} {f : Frm} {x : SSealed} {e k n m : Nat} {c : Bytes} {r : Option (Nat × Nat × Bytes)}
theorem FrI.grow0 (h : FrI s W S f) (g : Grow0 s s') (hp : W'.P = W.P) (hk : ∀ (i : Nat) (K : Bytes), W.ks[i]? = some K -> W'.ks[i]? = some K) : FrI s' W' S f :=
 ⟨h.src, h.dst, h.sid, h.seq, by obtain ⟨e, K, m, k, b, j, h1, h2, h3, h4, h5, h6, h7⟩ := h.ex; exact ⟨e, K, m, k, b, j, h1, h2, g.bx _ _ h3, hk _ _ h4, g.at_ _ _ h5, by rw [hp]; exact h6, by rw [hp]; exact h7⟩⟩
theorem KsI.grow0 (h : KsI s W S) (g : Grow0 s s') (hl : s'.at_ (nxtF S.ko) = none) : KsI s' W S :=
 ⟨h.len, h.ko, fun e k k' h1 h2 => by obtain ⟨m, hm, e⟩ := h.nx e k k' h1 h2; exact ⟨m, g.at_ _ _ hm, e⟩, hl, fun k hk => by obtain ⟨m, e, hm⟩ := h.mkk k hk; exact ⟨m, e, Nat.le_trans hm g.le⟩, h.nd⟩
theorem WayI.grow0 (h : WayI s W S R) (g : Grow0 s s') (hl : s'.at_ (nxtF S.ko) = none) : WayI s' W S R :=
 ⟨h.ov, h.q, h.q8, h.sl, h.g1, h.g2, h.kd, h.eo, h.ei, h.ks.grow0 g hl, h.ki, fun f hf => (h.fr f hf).grow0 g rfl (fun _ _ h => h)⟩
theorem BoxI.up (h : BoxI s W S x e k n c) (g : Grow0 s s') (hg : S.got <= S'.got) (hs : S.sent + S.fn <= S'.sent + S'.fn) (hp : ∀ (i : Nat) (p : Nat × Bytes), W.P[i]? = some p -> W'.P[i]? = some p) (ht : ∀ i, i <= W.P.length -> W'.P.take i = W.P.take i) (hk : ∀ (i : Nat) (K : Bytes), W.ks[i]? = some K -> W'.ks[i]? = some K) : BoxI s' W' S' x e k n c :=
 ⟨by obtain ⟨K, m, h1, h2, h3⟩ := h.ex; exact ⟨K, m, hk _ _ h1, g.at_ _ _ h2, h3⟩, h.bk, h.bn, h.bb, fun e => Nat.le_trans (h.mrk e) hg, fun e => by
   obtain ⟨h1, h2, h3, h4⟩ := h.pt e
   exact ⟨h1, Nat.le_trans h2 hs, hp _ _ h3, by rw [ht _ (Nat.le_of_lt (List.getElem?_eq_some_iff.1 h3).1)]; exact h4⟩⟩
theorem BoxI.same (h : BoxI s W S x e k n c) (g : Grow0 s s') (hg : S.got <= S'.got) (hs : S.sent + S.fn <= S'.sent + S'.fn) : BoxI s' W S' x e k n c := h.up g hg hs (fun _ _ h => h) (fun _ _ => rfl) (fun _ _ h => h)
theorem fn_none (h : S.frame = none) : S.fn = 0 := by simp [Ses.fn, h]
theorem fn_some (h : S.frame = some f) : S.fn = 1 := by simp [Ses.fn, h]
theorem WayI.front (h : WayI s W S R) {p : Nat × Bytes} {qs : List (Nat × Bytes)} (hq : S.queue = p :: qs) : W.P[S.sent]? = some p /\ S.sent < W.P.length := by
 have h1 : (W.P.drop S.sent)[0]? = some p := by rw [← h.q, hq]; rfl
 rw [List.getElem?_drop] at h1
 exact ⟨h1, (List.getElem?_eq_some_iff.1 h1).1⟩
theorem WayI.fresh (h : WayI s W S R) (hf : S.frame = some f) : S.queue ≠ [] := by
 intro hq
 have h1 := h.sl
 rw [fn_some hf] at h1
 rw [h.q, List.drop_eq_nil_iff] at hq
 omega
/-- What Send leaves. -/
structure SentI (s s' : STab) (a a' b : Ses) (Wa Wb Wa' : Way) (m : Option Frm) : Prop where
 inv : RecI s' a' b Wa' Wb
 p : Wa'.P = Wa.P
 me : a'.me = a.me
 peer : a'.peer = a.peer
 sid : a'.sid = a.sid
 got : a'.got = a.got
 sent : a'.sent = a.sent
 q : a'.queue = a.queue
 ei : a'.ei = a.ei
 fn : a'.fn <= a.fn + 1
 is : m.isSome = decide (a.queue ≠ [])
 fr : ∀ f, m = some f -> a'.frame = some f
 ks : s'.keys.length <= s.keys.length + 2
 bs : s'.boxes.length <= s.boxes.length + 1
theorem RecI.send (h : RecI s a b Wa Wb) (hr : SendR s a s' a' m') (hk : s.keys.length < 100000) (hse : a.sent < 800000) : ∃ Wa', SentI s s' a a' b Wa Wb Wa' m' := by
 have hw := h.ab
 cases hr with
 | over ho => exact absurd ho (by rw [hw.ov]; decide)
 | frame ho f hf => exact ⟨Wa, h, rfl, rfl, rfl, rfl, rfl, rfl, rfl, rfl, by omega, by simpa using hw.fresh hf, fun g hg => by rw [← hg]; exact hf, by omega, by omega⟩
 | none ho hf hq => exact ⟨Wa, h, rfl, rfl, rfl, rfl, rfl, rfl, rfl, rfl, by omega, by simp [hq], fun g hg => (by cases hg), by omega, by omega⟩
 | data ho hf k c qs hq hk3 =>
   obtain ⟨hp, hlt⟩ := hw.front hq
   have g := sealT_grow s a k (a.sent + 1) c
   have hfn := fn_none hf
   have hkd : (k = 1 ∨ k = 3) /\ c.length <= 2048 := hw.kd _ (List.mem_of_getElem? hp)
   have hT := take_snoc hp
   have heo := hw.eo
   rw [hfn, Nat.add_zero] at heo
   have hbx := sealT_boxes s a k (a.sent + 1) c
   have hex : (sealT s a k (a.sent + 1) c).boxes[s.boxes.length]? = some ⟨mkB 107 (s.num (useF a.ko)), 14, wrV (contV k (a.sent + 1) c)⟩ := by rw [hbx]; simp
   refine ⟨Wa, ⟨?_, rfl, rfl, rfl, rfl, rfl, rfl, rfl, rfl, ?_, by simp [hq], fun g hg => hg, ?_, by rw [hbx]; simp⟩⟩
   · have h1 := hw.grow g
     have h2 := h.ba.grow g
     refine ⟨⟨(h.wf.made _).le, (h.wf.made _).inj⟩, of_made h.of (h.mkK (.inl hw.koMem)), ⟨h1.ov, h1.q, h1.q8, hlt, h1.g1, Nat.le_trans h1.g2 (by rw [hfn]; exact Nat.le_add_right a.sent _), h1.kd, ?_, h1.ei, ⟨h1.ks.len, h1.ks.ko, h1.ks.nx, h1.ks.last, h1.ks.mkk, h1.ks.nd⟩, h1.ki, fun f hf => ?_⟩, ⟨h2.ov, h2.q, h2.q8, h2.sl, h2.g1, h2.g2, h2.kd, h2.eo, h2.ei, h2.ks, h2.ki, h2.fr⟩, h.dis, fun x hx => ?_⟩
     · show a.eo = rks (Wa.P.take (a.sent + 1))
       rw [hT, rks_snoc, if_neg hk3, heo]; rfl
     · obtain rfl : sealF s a (a.sent + 1) = f := Option.some.inj hf
       exact ⟨rfl, rfl, rfl, rfl, a.eo, a.ko, s.num (useF a.ko), k, c, s.boxes.length, rfl, rfl, hex, hw.ks.ko, sealT_at s a k (a.sent + 1) c, hp, heo⟩
     · rw [hbx, List.mem_append] at hx
       rcases hx with hx | hx
       · rcases h.box x hx with ⟨e, k, n, c, hb⟩ | ⟨e, k, n, c, hb⟩
         · exact .inl ⟨e, k, n, c, hb.same g.z (Nat.le_refl _) (by rw [hfn]; exact Nat.le_succ _)⟩
         · exact .inr ⟨e, k, n, c, hb.grow g⟩
       · refine .inl ⟨a.eo, k, a.sent + 1, c, ⟨a.ko, s.num (useF a.ko), hw.ks.ko, sealT_at s a k (a.sent + 1) c, List.mem_singleton.1 hx⟩, by omega, by omega, hkd.2, fun e => by omega, fun _ => ⟨by omega, Nat.le_refl _, hp, heo⟩⟩
   · show Ses.fn _ <= _
     rw [fn_some rfl]; omega
   · have := sealT_keys s a k (a.sent + 1) c; omega
 | rekey ho hf c qs hq =>
   obtain ⟨hp, hlt⟩ := hw.front hq
   have g1 := sealT_grow s a 3 (a.sent + 1) c
   have hfn := fn_none hf
   have hkd : (3 = 1 ∨ 3 = 3) /\ c.length <= 2048 := hw.kd _ (List.mem_of_getElem? hp)
   have hT := take_snoc hp
   have heo := hw.eo
   rw [hfn, Nat.add_zero] at heo
   have hbx := sealT_boxes s a 3 (a.sent + 1) c
   have hex : (sealT s a 3 (a.sent + 1) c).boxes[s.boxes.length]? = some ⟨mkB 107 (s.num (useF a.ko)), 14, wrV (contV 3 (a.sent + 1) c)⟩ := by rw [hbx]; simp
   have hno : (sealT s a 3 (a.sent + 1) c).at_ (nxtF a.ko) = none := g1.nx _ hw.ks.last
   obtain ⟨hnum, hlen⟩ := made_new2 hno
   have g2 := Grow0.made (sealT s a 3 (a.sent + 1) c) (nxtF a.ko)
   have g := g1.z.trans g2
   have hkl := sealT_keys s a 3 (a.sent + 1) c
   have hof1 := of_made (g := useF a.ko) h.of (h.mkK (.inl hw.koMem))
   have hof : ∀ f m, (sealT s a 3 (a.sent + 1) c).at_ f = some m -> ∃ j, j <= (sealT s a 3 (a.sent + 1) c).keys.length /\ f.of = mkB 107 j := hof1
   have hmk := h.mkK (.inl hw.koMem)
   obtain ⟨jk, hjk, ek⟩ := hmk
   have hbx2 : (sealRT s a 3 (a.sent + 1) c).boxes = s.boxes ++ [⟨mkB 107 (s.num (useF a.ko)), 14, wrV (contV 3 (a.sent + 1) c)⟩] := by
     show ((sealT s a 3 (a.sent + 1) c).made (nxtF a.ko)).boxes = _
     rw [(made_boxes (s' := (sealT s a 3 (a.sent + 1) c).made (nxtF a.ko)) rfl).1, hbx]
   -- the new key
   have hnew : ∀ K, K ∈ Wa.ks ∨ K ∈ Wb.ks -> K ≠ mkB 107 ((sealT s a 3 (a.sent + 1) c).num (nxtF a.ko)) := fun K hK e => by
     obtain ⟨j, hj, e2⟩ := h.mkK hK
     rw [e2, hnum] at e
     have := mkB_inj (by omega) (by omega) e
     have := g1.le
     omega
   have hko : ∀ (i : Nat) (K : Bytes), Wa.ks[i]? = some K -> (Wa.ks ++ [mkB 107 ((sealT s a 3 (a.sent + 1) c).num (nxtF a.ko))])[i]? = some K := fun i K hi => by
     rw [List.getElem?_append_left (List.getElem?_eq_some_iff.1 hi).1]; exact hi
   have hnl : Wa.ks.length = a.eo + 1 := hw.ks.len
   have hlast : (Wa.ks ++ [mkB 107 ((sealT s a 3 (a.sent + 1) c).num (nxtF a.ko))])[a.eo + 1]? = some (mkB 107 ((sealT s a 3 (a.sent + 1) c).num (nxtF a.ko))) := by
     rw [← hnl]; simp
   refine ⟨⟨Wa.P, Wa.ks ++ [mkB 107 ((sealT s a 3 (a.sent + 1) c).num (nxtF a.ko))]⟩, ⟨?_, rfl, rfl, rfl, rfl, rfl, rfl, rfl, rfl, ?_, by simp [hq], fun g hg => hg, ?_, by rw [hbx2]; simp⟩⟩
   · have hbl : ((sealT s a 3 (a.sent + 1) c).made (nxtF a.ko)).at_ (nxtF b.ko) = none := by
       rw [STab.at_made_ne]
       · exact g1.nx _ h.ba.ks.last
       · exact fun e => h.dis _ hw.koMem (by rw [← (derive_inj.1 e).1]; exact h.ba.koMem)
     have h2 := h.ba.grow0 g hbl
     have hwf := h.wf.made (useF a.ko)
     have hwf1 : (sealT s a 3 (a.sent + 1) c).WF := ⟨hwf.le, hwf.inj⟩
     refine ⟨hwf1.made _, of_made hof ⟨jk, Nat.le_trans hjk g1.le, ek⟩, ⟨hw.ov, hw.q, hw.q8, hlt, hw.g1, Nat.le_trans hw.g2 (by rw [hfn]; exact Nat.le_add_right a.sent _), hw.kd, ?_, hw.ei, ⟨?_, hlast, ?_, ?_, ?_, ?_⟩, hko _ _ hw.ki, fun f hf => ?_⟩, ⟨h2.ov, h2.q, h2.q8, h2.sl, h2.g1, h2.g2, h2.kd, h2.eo, h2.ei, h2.ks, h2.ki, h2.fr⟩, ?_, fun x hx => ?_⟩
     · show a.eo + 1 = rks (Wa.P.take (a.sent + 1))
       rw [hT, rks_snoc, if_pos rfl, heo]
     · show (Wa.ks ++ _).length = a.eo + 1 + 1
       rw [List.length_append, hnl]; rfl
     · intro e k k' h1 h2
       by_cases he : e + 1 < Wa.ks.length
       · rw [List.getElem?_append_left (by omega)] at h1
         rw [List.getElem?_append_left he] at h2
         obtain ⟨m, hm, e⟩ := hw.ks.nx e k k' h1 h2
         exact ⟨m, g.at_ _ _ hm, e⟩
       · have he2 : e + 1 = Wa.ks.length := by
           have := (List.getElem?_eq_some_iff.1 h2).1
           simp at this; omega
         obtain rfl : e = a.eo := by omega
         rw [List.getElem?_append_left (by omega), hw.ks.ko] at h1
         obtain rfl := Option.some.inj h1
         have h2' := hlast.symm.trans h2
         obtain rfl := Option.some.inj h2'
         exact ⟨_, STab.at_made _ _, rfl⟩
     · show (sealRT s a 3 (a.sent + 1) c).at_ (nxtF (mkB 107 _)) = none
       cases hc : (sealRT s a 3 (a.sent + 1) c).at_ (nxtF (mkB 107 ((sealT s a 3 (a.sent + 1) c).num (nxtF a.ko)))) with
       | none => rfl
       | some m =>
         have hne : nxtF (mkB 107 ((sealT s a 3 (a.sent + 1) c).num (nxtF a.ko))) ≠ nxtF a.ko := fun e => hnew _ (.inl hw.koMem) (derive_inj.1 e).1.symm
         have hc : ((sealT s a 3 (a.sent + 1) c).made (nxtF a.ko)).at_ _ = some m := hc
         rw [STab.at_made_ne _ hne] at hc
         obtain ⟨j, hj, e⟩ := hof _ _ hc
         have e : mkB 107 ((sealT s a 3 (a.sent + 1) c).num (nxtF a.ko)) = mkB 107 j := e
         rw [hnum] at e
         have := mkB_inj (by omega) (by omega) e
         omega
     · intro K hK
       rcases List.mem_append.1 hK with hK | hK
       · obtain ⟨m, e, hm⟩ := hw.ks.mkk K hK
         exact ⟨m, e, Nat.le_trans hm g.le⟩
       · refine ⟨_, List.mem_singleton.1 hK, ?_⟩
         show _ <= ((sealT s a 3 (a.sent + 1) c).made (nxtF a.ko)).keys.length
         rw [hnum, hlen]; omega
     · refine List.nodup_append.2 ⟨hw.ks.nd, by simp, fun x hx y hy => ?_⟩
       rw [List.mem_singleton.1 hy]
       exact hnew x (.inl hx)
     · obtain rfl : sealF s a (a.sent + 1) = f := Option.some.inj hf
       exact ⟨rfl, rfl, rfl, rfl, a.eo, a.ko, s.num (useF a.ko), 3, c, s.boxes.length, rfl, rfl, g2.bx _ _ hex, hko _ _ hw.ks.ko, g2.at_ _ _ (sealT_at s a 3 (a.sent + 1) c), hp, heo⟩
     · intro K hK hb
       rcases List.mem_append.1 hK with hK | hK
       · exact h.dis K hK hb
       · exact hnew K (.inr hb) (List.mem_singleton.1 hK)
     · rw [hbx2, List.mem_append] at hx
       rcases hx with hx | hx
       · rcases h.box x hx with ⟨e, k, n, c, hb⟩ | ⟨e, k, n, c, hb⟩
         · exact .inl ⟨e, k, n, c, hb.up g (Nat.le_refl _) (by rw [hfn]; exact Nat.le_succ _) (fun _ _ h => h) (fun _ _ => rfl) hko⟩
         · exact .inr ⟨e, k, n, c, hb.same g (Nat.le_refl _) (Nat.le_refl _)⟩
       · refine .inl ⟨a.eo, 3, a.sent + 1, c, ⟨a.ko, s.num (useF a.ko), hko _ _ hw.ks.ko, g2.at_ _ _ (sealT_at s a 3 (a.sent + 1) c), List.mem_singleton.1 hx⟩, by omega, by omega, hkd.2, fun e => by omega, fun _ => ⟨by omega, Nat.le_refl _, hp, heo⟩⟩
   · show Ses.fn _ <= _
     rw [fn_some rfl]; omega
   · show ((sealT s a 3 (a.sent + 1) c).made (nxtF a.ko)).keys.length <= _
     omega
end
end
section
section
variable {s s' s'' : STab} {m' n' : Option Frm} {b' : Option Bytes} {er : Int} {a b a' S R S' R' : Ses} {W Wa Wb W' : Way} {f : Frm} {x : SSealed} {e k n m : Nat} {c l : Bytes} {r : Option (Nat × Nat × Bytes)}
theorem box_of (h : s'.boxes = s.boxes) (l : Bytes) : s'.box l = s.box l := by unfold STab.box; rw [h]
theorem box_mem (h : s.box l = some x) : x ∈ s.boxes := by
 unfold STab.box at h
 split at h
 · split at h
   · exact List.mem_of_getElem? h
   · cases h
 · cases h
/-- What was told of a record that is opened. -/
def Told (a b : Ses) (Wb : Way) : Option (Nat × Nat × Bytes) -> Prop
 | none => True
 | some (k, n, c) => (k = 2 -> n <= b.got) /\ (k ≠ 2 -> 1 <= n /\ n <= b.sent + b.fn /\ Wb.P[n - 1]? = some (k, c) /\ a.ei = rks (Wb.P.take (n - 1)))
theorem nodup_at {ks : List Bytes} (h : ks.Nodup) {i j : Nat} {K : Bytes} (hi : ks[i]? = some K) (hj : ks[j]? = some K) : i = j := by
 obtain ⟨h1, e1⟩ := List.getElem?_eq_some_iff.1 hi
 obtain ⟨h2, e2⟩ := List.getElem?_eq_some_iff.1 hj
 exact (List.getElem_inj h).1 (e1.trans e2.symm)
theorem RecI.said (h : RecI s a b Wa Wb) (hk : s.keys.length < 100000) (f : Frm) (h1 : -1000000000 <= f.seq) (h2 : f.seq <= 1000000000) : ∃ r, Said s a f r /\ Told a b Wb r := by
 have hbo := box_of (openT_boxes s a) f.box
 cases hb : s.box f.box with
 | none => exact ⟨none, .inl (by unfold STab.open_; rw [hbo, hb]; rfl), trivial⟩
 | some x =>
   by_cases hx : x.by_ = openK s a /\ x.usage = 14
   · have hop : (openT s a).open_ (openK s a) 14 f.box = some x.body := by unfold STab.open_; rw [hbo, hb]; exact if_pos hx
     have hkey : ∀ K m, s.at_ (useF K) = some m -> x.by_ = mkB 107 m -> K = a.ki := fun K m hm e => by
       have h3 := hx.1
       rw [e] at h3
       exact (derive_inj.1 ((mk_iff h.wf hm (by omega) (useF a.ki)).1 h3)).1
     rcases h.box x (box_mem hb) with ⟨e, k, n, c, hB⟩ | ⟨e, k, n, c, hB⟩
     · obtain ⟨K, m, hK, hm, rfl⟩ := hB.ex
       have := hkey K m hm rfl
       subst this
       exact absurd h.ba.kiMem (h.dis _ (List.mem_of_getElem? hK))
     · obtain ⟨K, m, hK, hm, rfl⟩ := hB.ex
       have := hkey K m hm rfl
       subst this
       have he := nodup_at h.ba.ks.nd hK h.ba.ki
       subst he
       by_cases hs : f.seq = (n : Int)
       · exact ⟨some (k, n, c), ⟨hB.bk, hB.bn, hB.bb, hop, hs⟩, hB.mrk, hB.pt⟩
       · refine ⟨none, .inr ⟨k, n, c, hB.bk, hB.bn, hB.bb, hop, ?_⟩, trivial⟩
         have hn := hB.bn
         congr 1
         rw [Bool.not_eq_true', beq_eq_false_iff_ne]
         intro e
         by_cases h0 : 0 <= f.seq
         · have := wrap_u64_is h0 (by omega)
           injection this with _ this
           omega
         · have h4 : IntKind.u64.wrap f.seq = f.seq + 18446744073709551616 := by
             have e1 : IntKind.u64.wrap f.seq = f.seq % 18446744073709551616 := by
               unfold IntKind.wrap
               have h5 : IntKind.u64.signed = false := rfl
               simp only [h5, Bool.false_and]
               rfl
             rw [e1]; omega
           omega
   · exact ⟨none, .inl (by unfold STab.open_; rw [hbo, hb]; exact if_neg hx), trivial⟩
/-- What Take leaves. -/
structure TookI (s s' : STab) (a a' b : Ses) (Wa Wb : Way) (m : Option Bytes) (n : Option Frm) (e : Int) : Prop where
 inv : RecI s' a' b Wa Wb
 me : a'.me = a.me
 peer : a'.peer = a.peer
 sid : a'.sid = a.sid
 eo : a'.eo = a.eo
 ko : a'.ko = a.ko
 g1 : a.got <= a'.got
 g2 : a'.got <= a.got + 1
 s1 : a.sent <= a'.sent
 s2 : a'.sent <= a.sent + 1
 fn : a'.sent + a'.fn = a.sent + a.fn
 come : datas (Wb.P.take a'.got) = datas (Wb.P.take a.got) ++ m.toList
 err : m.isSome -> e = 0
 mark : ∀ g, n = some g -> g.src = a.me /\ g.dst = a.peer /\ g.sid = a.sid /\ g.epoch = (a.eo : Int) /\ g.seq = (a'.got : Int) /\ g.box.length = 16
 ks : s'.keys.length <= s.keys.length + 4
 bs : s'.boxes.length <= s.boxes.length + 1
theorem RecI.markA (h : RecI s a b Wa Wb) (hg : a.got < 900000) : RecI (sealT s a 2 a.got []) a b Wa Wb :=
 h.sealA fun _ hx => ⟨⟨a.ko, _, h.ab.ks.ko, sealT_at s a 2 a.got [], hx⟩, by omega, hg, by simp, fun _ => Nat.le_refl _, fun h => absurd rfl h⟩
theorem sealFMk (s : STab) (S : Ses) (n : Nat) : (sealF s S n).box.length = 16 := mkB_len _ _
theorem kd_one {p : Nat × Bytes} (h : (p.1 = 1 ∨ p.1 = 3) /\ p.2.length <= 2048) (h3 : p.1 ≠ 3) : p.1 = 1 := by omega
theorem RecI.took (h : RecI s a b Wa Wb) (hr : TakeR s a f r s' a' b' n' er) (ht : Told a b Wb r) (_hk : s.keys.length < 100000) (hg : a.got < 800000) : TookI s s' a a' b Wa Wb b' n' er := by
 have hw := h.ab
 have hwb := h.ba
 have ho := openT_keys s a
 have same : ∀ {s' : STab} {n' : Option Frm} {er : Int}, RecI s' a b Wa Wb -> (∀ g, n' = some g -> g.src = a.me /\ g.dst = a.peer /\ g.sid = a.sid /\ g.epoch = (a.eo : Int) /\ g.seq = (a.got : Int) /\ g.box.length = 16) -> s'.keys.length <= s.keys.length + 4 -> s'.boxes.length <= s.boxes.length + 1 -> TookI s s' a a b Wa Wb none n' er := fun h1 h2 h3 h4 =>
   ⟨h1, rfl, rfl, rfl, rfl, rfl, Nat.le_refl _, Nat.le_succ _, Nat.le_refl _, Nat.le_succ _, rfl, by simp, by simp, h2, h3, h4⟩
 have mk : ∀ {s' : STab} {S : Ses}, (∀ g, some (sealF s' S S.got) = some g -> g.src = S.me /\ g.dst = S.peer /\ g.sid = S.sid /\ g.epoch = (S.eo : Int) /\ g.seq = (S.got : Int) /\ g.box.length = 16) := fun g e => by
   obtain rfl := Option.some.inj e
   exact ⟨rfl, rfl, rfl, rfl, rfl, sealFMk _ _ _⟩
 cases hr with
 | over ho => exact absurd ho (by rw [hw.ov]; decide)
 | wrong ho hn => exact same h (fun g e => by cases e) (by omega) (by omega)
 | epoch hF hne hn => exact same h (fun g e => by cases e) (by omega) (by omega)
 | old hF hlt hle => exact same (h.markA (by omega)) mk (by have := sealT_keys s a 2 a.got []; omega) (by rw [sealT_boxes]; simp)
 | shut hF he hr => exact same h.openA (fun g e => by cases e) (by omega) (by rw [openT_boxes]; omega)
 | ahead hF he k n c hr hk hlt => exact same h.openA (fun g e => by cases e) (by omega) (by rw [openT_boxes]; omega)
 | again hF he k n c hr hk hle => exact same (h.openA.markA (by omega)) mk (by have := sealT_keys (openT s a) a 2 a.got []; omega) (by rw [sealT_boxes, openT_boxes]; simp)
 | mark hF he n c hr =>
   subst hr
   have h1 := h.openA
   unfold markedR
   by_cases hm : a.frame.isSome /\ n = a.sent + 1
   · rw [if_pos hm]
     obtain ⟨hfs, rfl⟩ := hm
     obtain ⟨g, hf⟩ := Option.isSome_iff_exists.1 hfs
     have hfn := fn_some hf
     have hgot : a.sent + 1 <= b.got := ht.1 rfl
     have hw1 := h1.ab
     have hfm : (markR a).fn = 0 := rfl
     have hsl := hw.sl
     have hg2 := hw.g2
     have heo := hw.eo
     rw [hfn] at hsl hg2 heo
     refine ⟨⟨h1.wf, h1.of, ⟨hw1.ov, ?_, ?_, ?_, hgot, ?_, hw1.kd, ?_, hw1.ei, ⟨hw1.ks.len, hw1.ks.ko, hw1.ks.nx, hw1.ks.last, hw1.ks.mkk, hw1.ks.nd⟩, hw1.ki, fun f hf => by cases hf⟩, ?_, h1.dis, fun x hx => ?_⟩, rfl, rfl, rfl, rfl, rfl, Nat.le_refl _, Nat.le_succ _, Nat.le_succ _, Nat.le_refl _, ?_, by simp [markR], by simp, fun g e => (by cases e), by omega, by rw [openT_boxes]; omega⟩
     · show a.queue.tail = Wa.P.drop (a.sent + 1)
       rw [hw.q, List.tail_drop]
     · show a.queue.tail.length <= 8
       have := hw.q8; simp; omega
     · show a.sent + 1 + (markR a).fn <= _
       rw [hfm]; exact hsl
     · show b.got <= a.sent + 1 + (markR a).fn
       rw [hfm]; exact hg2
     · show a.eo = rks (Wa.P.take (a.sent + 1 + (markR a).fn))
       rw [hfm]; exact heo
     · have h2 := h1.ba
       exact ⟨h2.ov, h2.q, h2.q8, h2.sl, h2.g1, h2.g2, h2.kd, h2.eo, h2.ei, h2.ks, h2.ki, h2.fr⟩
     · rcases h1.box x hx with ⟨e, k, n, c, hb⟩ | ⟨e, k, n, c, hb⟩
       · refine .inl ⟨e, k, n, c, hb.same (Grow.refl _).z (Nat.le_refl _) ?_⟩
         show a.sent + a.fn <= a.sent + 1 + (markR a).fn
         omega
       · exact .inr ⟨e, k, n, c, hb⟩
     · show a.sent + 1 + (markR a).fn = _
       omega
   · rw [if_neg hm]
     exact same h1 (fun g e => by cases e) (by omega) (by rw [openT_boxes]; omega)
 | data hF he k c hr hk2 hk3 =>
   subst hr
   obtain ⟨t1, t2, t3, t4⟩ := ht.2 hk2
   rw [Nat.add_sub_cancel] at t3 t4
   have h1 := h.openA
   have hT := take_snoc t3
   have hk1 : k = 1 := kd_one (hwb.kd _ (List.mem_of_getElem? t3)) hk3
   have h2 : RecI (openT s a) { a with got := a.got + 1 } b Wa Wb := by
     have hw1 := h1.ab
     have hw2 := h1.ba
     refine ⟨h1.wf, h1.of, ⟨hw1.ov, hw1.q, hw1.q8, hw1.sl, hw1.g1, hw1.g2, hw1.kd, hw1.eo, hw1.ei, ⟨hw1.ks.len, hw1.ks.ko, hw1.ks.nx, hw1.ks.last, hw1.ks.mkk, hw1.ks.nd⟩, hw1.ki, fun f hf => ⟨(hw1.fr f hf).src, (hw1.fr f hf).dst, (hw1.fr f hf).sid, (hw1.fr f hf).seq, (hw1.fr f hf).ex⟩⟩, ⟨hw2.ov, hw2.q, hw2.q8, hw2.sl, Nat.le_succ_of_le hw2.g1, t2, hw2.kd, hw2.eo, ?_, hw2.ks, hw2.ki, hw2.fr⟩, h1.dis, fun x hx => ?_⟩
     · show a.ei = rks (Wb.P.take (a.got + 1))
       rw [hT, rks_snoc, if_neg hk3, ← t4]; rfl
     · rcases h1.box x hx with ⟨e, k, n, c, hb⟩ | ⟨e, k, n, c, hb⟩
       · exact .inl ⟨e, k, n, c, hb.same (Grow.refl _).z (Nat.le_succ _) (Nat.le_refl _)⟩
       · exact .inr ⟨e, k, n, c, hb⟩
   refine ⟨h2.markA (show a.got + 1 < 900000 by omega), rfl, rfl, rfl, rfl, rfl, Nat.le_succ _, Nat.le_refl _, Nat.le_refl _, Nat.le_succ _, rfl, ?_, fun _ => rfl, mk, ?_, by rw [sealT_boxes, openT_boxes]; simp⟩
   · show datas (Wb.P.take (a.got + 1)) = _
     rw [hT, datas_snoc, if_pos hk1]; rfl
   · have := sealT_keys (openT s a) { a with got := a.got + 1 } 2 (a.got + 1) []; omega
 | rekey hF he c hr =>
   subst hr
   obtain ⟨t1, t2, t3, t4⟩ := ht.2 (by decide)
   rw [Nat.add_sub_cancel] at t3 t4
   have h1 := h.openA
   have hT := take_snoc t3
   have hei : a.ei + 1 = rks (Wb.P.take (a.got + 1)) := by rw [hT, rks_snoc, if_pos rfl, ← t4]
   have hle : a.ei + 1 <= b.eo := by rw [hei, hwb.eo]; exact rks_take_le _ t2
   obtain ⟨K, hK⟩ : ∃ K, Wb.ks[a.ei + 1]? = some K := ⟨_, List.getElem?_eq_getElem (by rw [hwb.ks.len]; omega)⟩
   obtain ⟨m, hm, eK⟩ := h1.ba.ks.nx _ _ _ h1.ba.ki hK
   have g := sealT_grow (openT s a) { a with got := a.got + 1 } 2 (a.got + 1) []
   have hm2 := g.at_ _ _ hm
   have hnum : (sealT (openT s a) { a with got := a.got + 1 } 2 (a.got + 1) []).num (nxtF a.ki) = m := STab.num_of _ _ _ hm2
   have e1 : inT (sealT (openT s a) { a with got := a.got + 1 } 2 (a.got + 1) []) { a with got := a.got + 1 } = sealT (openT s a) { a with got := a.got + 1 } 2 (a.got + 1) [] := by
     show STab.made _ (nxtF a.ki) = _
     unfold STab.made; rw [hm2]
   have e2 : inS (sealT (openT s a) { a with got := a.got + 1 } 2 (a.got + 1) []) { a with got := a.got + 1 } = { a with got := a.got + 1, ei := a.ei + 1, ki := K } := by
     show Ses.mk _ _ _ _ _ (mkB 107 _) _ _ _ _ _ _ = _
     rw [hnum, eK]
   rw [e1, e2]
   have h2 : RecI (openT s a) { a with got := a.got + 1, ei := a.ei + 1, ki := K } b Wa Wb := by
     have hw1 := h1.ab
     have hw2 := h1.ba
     refine ⟨h1.wf, h1.of, ⟨hw1.ov, hw1.q, hw1.q8, hw1.sl, hw1.g1, hw1.g2, hw1.kd, hw1.eo, hw1.ei, ⟨hw1.ks.len, hw1.ks.ko, hw1.ks.nx, hw1.ks.last, hw1.ks.mkk, hw1.ks.nd⟩, hw1.ki, fun f hf => ⟨(hw1.fr f hf).src, (hw1.fr f hf).dst, (hw1.fr f hf).sid, (hw1.fr f hf).seq, (hw1.fr f hf).ex⟩⟩, ⟨hw2.ov, hw2.q, hw2.q8, hw2.sl, Nat.le_succ_of_le hw2.g1, t2, hw2.kd, hw2.eo, hei, hw2.ks, hK, hw2.fr⟩, h1.dis, fun x hx => ?_⟩
     rcases h1.box x hx with ⟨e, k, n, c, hb⟩ | ⟨e, k, n, c, hb⟩
     · exact .inl ⟨e, k, n, c, hb.same (Grow.refl _).z (Nat.le_succ _) (Nat.le_refl _)⟩
     · exact .inr ⟨e, k, n, c, hb⟩
   have h3 := h2.markA (show a.got + 1 < 900000 by omega)
   refine ⟨h3, rfl, rfl, rfl, rfl, rfl, Nat.le_succ _, Nat.le_refl _, Nat.le_refl _, Nat.le_succ _, rfl, ?_, by simp, mk, ?_, by rw [sealT_boxes, openT_boxes]; simp⟩
   · show datas (Wb.P.take (a.got + 1)) = _
     rw [hT, datas_snoc, if_neg (fun e => absurd (show (3 : Nat) = 1 from e) (by decide))]; simp
   · have := sealT_keys (openT s a) { a with got := a.got + 1 } 2 (a.got + 1) []; omega
end
end
section
/-- Two ends, the table, all frames that were sent, what each end has let wait and what came to it, and how often it let its key go on. -/
structure Tk where
 s : STab
 a : Ses
 b : Ses
 wire : List Frm
 sd0 : List Bytes
 sd1 : List Bytes
 cm0 : List Bytes
 cm1 : List Bytes
 k0 : Nat
 k1 : Nat
def Tk.swap (T : Tk) : Tk := ⟨T.s, T.b, T.a, T.wire, T.sd1, T.sd0, T.cm1, T.cm0, T.k1, T.k0⟩
structure FrB (f : Frm) : Prop where
 e0 : 0 <= f.epoch
 e1 : f.epoch <= 1000
 s0 : 0 <= f.seq
 s1 : f.seq <= 1000000
 sid : f.sid = 7
 box : f.box.length = 16
structure TI (p q : ByteArray) (n : Nat) (T : Tk) (Wa Wb : Way) : Prop where
 inv : RecI T.s T.a T.b Wa Wb
 am : T.a.me = p
 ap : T.a.peer = q
 bm : T.b.me = q
 bp : T.b.peer = p
 asid : T.a.sid = 7
 bsid : T.b.sid = 7
 sd0 : T.sd0 = datas Wa.P
 sd1 : T.sd1 = datas Wb.P
 cm0 : T.cm0 = datas (Wb.P.take T.a.got)
 cm1 : T.cm1 = datas (Wa.P.take T.b.got)
 k0 : T.k0 = rks Wa.P
 k1 : T.k1 = rks Wb.P
 pa : Wa.P.length <= 60
 pb : Wb.P.length <= 60
 ks : T.s.keys.length <= 10 + 4 * n
 bs : T.s.boxes.length <= n
 wl : T.wire.length <= n
 wi : ∀ f ∈ T.wire, FrB f
structure Cnt (n : Nat) (T : Tk) (Wa Wb : Way) : Prop where
 ca : Wa.P.length + (T.a.sent + T.a.fn) + T.b.got + T.a.sent <= n
 cb : Wb.P.length + (T.b.sent + T.b.fn) + T.a.got + T.b.sent <= n
section
variable {p q : ByteArray} {n : Nat} {T : Tk} {Wa Wb : Way} {c : Bytes} {s s' : STab} {a b a' : Ses} {m' n' : Option Frm} {b' : Option Bytes} {er : Int} {f : Frm} {r : Option (Nat × Nat × Bytes)} {k : Nat}
theorem TI.swap (h : TI p q n T Wa Wb) : TI q p n T.swap Wb Wa :=
 ⟨h.inv.symm, h.bm, h.bp, h.am, h.ap, h.bsid, h.asid, h.sd1, h.sd0, h.cm1, h.cm0, h.k1, h.k0, h.pb, h.pa, h.ks, h.bs, h.wl, h.wi⟩
theorem Cnt.swap (h : Cnt n T Wa Wb) : Cnt n T.swap Wb Wa := ⟨h.cb, h.ca⟩
theorem TI.idle (h : TI p q n T Wa Wb) : TI p q (n + 1) T Wa Wb :=
 ⟨h.inv, h.am, h.ap, h.bm, h.bp, h.asid, h.bsid, h.sd0, h.sd1, h.cm0, h.cm1, h.k0, h.k1, h.pa, h.pb, by have := h.ks; omega, by have := h.bs; omega, by have := h.wl; omega, h.wi⟩
theorem Cnt.idle (h : Cnt n T Wa Wb) : Cnt (n + 1) T Wa Wb := ⟨Nat.le_succ_of_le h.ca, Nat.le_succ_of_le h.cb⟩
/-- Numbers, in bounds. -/
structure Sml (T : Tk) : Prop where
 sent : T.a.sent <= 60
 got : T.a.got <= 60
 eo : T.a.eo <= 60
 ei : T.a.ei <= 60
 q : ∀ p ∈ T.a.queue, p.1 < 1000 /\ p.2.length <= 2048
 q8 : T.a.queue.length <= 8
 fq : T.a.frame.isSome -> T.a.queue ≠ []
theorem TI.small (h : TI p q n T Wa Wb) : Sml T := by
 have hw := h.inv.ab
 have hv := h.inv.ba
 have h1 := hw.sl
 have h2 := hv.sl
 have h3 := hv.g2
 have h4 := h.pa
 have h5 := h.pb
 refine ⟨by omega, by omega, ?_, ?_, fun p hp => ?_, hw.q8, fun hf => ?_⟩
 · have := rks_take_all Wa.P (T.a.sent + T.a.fn); have := rks_len Wa.P; have := hw.eo; omega
 · have := rks_take_all Wb.P T.a.got; have := rks_len Wb.P; have := hv.ei; omega
 · rw [hw.q] at hp
   have := hw.kd p (List.mem_of_mem_drop hp); omega
 · obtain ⟨f, hf⟩ := Option.isSome_iff_exists.1 hf
   exact hw.fresh hf
theorem Cnt.room (h : Cnt n T Wa Wb) (hi : TI p q n T Wa Wb) (hn : n <= 200) : Wa.P.length <= 56 := by
 have h1 := h.ca
 have hw := hi.inv.ab
 have h2 := hw.g1
 have h3 := hw.q8
 have h4 : T.a.queue.length = Wa.P.length - T.a.sent := by rw [hw.q, List.length_drop]
 omega
theorem TI.bodies (h : TI p q n T Wa Wb) : ∀ x ∈ T.s.boxes, x.body.length <= 1000000 := fun x hx => by
 rcases h.inv.box x hx with ⟨e, k, n, c, hb⟩ | ⟨e, k, n, c, hb⟩
 · obtain ⟨K, m, _, _, rfl⟩ := hb.ex
   have := cont_len k n c; have := hb.bb; show (wrV (contV k n c)).length <= _; omega
 · obtain ⟨K, m, _, _, rfl⟩ := hb.ex
   have := cont_len k n c; have := hb.bb; show (wrV (contV k n c)).length <= _; omega
theorem RecI.push (h : RecI s a b Wa Wb) (hl : a.queue.length < 8) (hk : k = 1 ∨ k = 3) (hc : c.length <= 2048) : RecI s { a with queue := a.queue ++ [(k, c)] } b ⟨Wa.P ++ [(k, c)], Wa.ks⟩ Wb := by
 have hw := h.ab
 have hv := h.ba
 have hs := hw.sl
 have ht : ∀ i, i <= Wa.P.length -> (Wa.P ++ [(k, c)]).take i = Wa.P.take i := fun i hi => List.take_append_of_le_length hi
 have hp : ∀ (i : Nat) (x : Nat × Bytes), Wa.P[i]? = some x -> (Wa.P ++ [(k, c)])[i]? = some x := fun i x hi => by
   rw [List.getElem?_append_left (List.getElem?_eq_some_iff.1 hi).1]; exact hi
 have hg : b.got <= Wa.P.length := Nat.le_trans hw.g2 hs
 refine ⟨h.wf, h.of, ⟨hw.ov, ?_, ?_, ?_, hw.g1, hw.g2, fun p hm => ?_, ?_, ?_, ⟨hw.ks.len, hw.ks.ko, hw.ks.nx, hw.ks.last, hw.ks.mkk, hw.ks.nd⟩, hw.ki, fun f hf => ?_⟩, ⟨hv.ov, hv.q, hv.q8, hv.sl, hv.g1, hv.g2, hv.kd, hv.eo, hv.ei, hv.ks, hv.ki, hv.fr⟩, h.dis, fun x hx => ?_⟩
 · show a.queue ++ [(k, c)] = (Wa.P ++ [(k, c)]).drop a.sent
   rw [List.drop_append_of_le_length (by omega), hw.q]
 · show (a.queue ++ [(k, c)]).length <= 8
   rw [List.length_append]; simp; omega
 · show a.sent + a.fn <= (Wa.P ++ [(k, c)]).length
   rw [List.length_append]; omega
 · rcases List.mem_append.1 hm with hm | hm
   · exact hw.kd p hm
   · rw [List.mem_singleton.1 hm]; exact ⟨hk, hc⟩
 · show a.eo = rks ((Wa.P ++ [(k, c)]).take (a.sent + a.fn))
   rw [ht _ hs]; exact hw.eo
 · show b.ei = rks ((Wa.P ++ [(k, c)]).take b.got)
   rw [ht _ hg]; exact hw.ei
 · have hF := hw.fr f hf
   refine ⟨hF.src, hF.dst, hF.sid, hF.seq, ?_⟩
   obtain ⟨e, K, m, k, b, j, h1, h2, h3, h4, h5, h6, h7⟩ := hF.ex
   exact ⟨e, K, m, k, b, j, h1, h2, h3, h4, h5, hp _ _ h6, by show e = rks ((Wa.P ++ [_]).take a.sent); rw [ht _ (by omega)]; exact h7⟩
 · rcases h.box x hx with ⟨e, k, n, c, hb⟩ | ⟨e, k, n, c, hb⟩
   · exact .inl ⟨e, k, n, c, hb.up (Grow.refl _).z (Nat.le_refl _) (Nat.le_refl _) hp ht (fun _ _ h => h)⟩
   · exact .inr ⟨e, k, n, c, hb⟩
theorem TI.push (h : TI p q n T Wa Wb) (hl : T.a.queue.length < 8) (hp : Wa.P.length < 60) (hc : c.length <= 2048) : ∃ Wa', TI p q (n + 1) { T with a := { T.a with queue := T.a.queue ++ [(1, c)] }, sd0 := T.sd0 ++ [c] } Wa' Wb /\ Wa'.P = Wa.P ++ [(1, c)] /\ (Cnt n T Wa Wb -> Cnt (n + 1) { T with a := { T.a with queue := T.a.queue ++ [(1, c)] }, sd0 := T.sd0 ++ [c] } Wa' Wb) := by
 have hg : T.b.got <= Wa.P.length := Nat.le_trans h.inv.ab.g2 h.inv.ab.sl
 refine ⟨_, ⟨h.inv.push hl (.inl rfl) hc, h.am, h.ap, h.bm, h.bp, h.asid, h.bsid, ?_, h.sd1, h.cm0, ?_, ?_, h.k1, ?_, h.pb, by have := h.ks; show T.s.keys.length <= _; omega, by have := h.bs; show T.s.boxes.length <= _; omega, by have := h.wl; show T.wire.length <= _; omega, h.wi⟩, rfl, fun hcn => ⟨?_, Nat.le_succ_of_le hcn.cb⟩⟩
 · show T.sd0 ++ [c] = datas (Wa.P ++ [(1, c)])
   rw [datas_snoc, if_pos rfl, h.sd0]
 · show T.cm1 = datas ((Wa.P ++ [(1, c)]).take T.b.got)
   rw [List.take_append_of_le_length hg]; exact h.cm1
 · show T.k0 = rks (Wa.P ++ [(1, c)])
   rw [rks_snoc, if_neg (fun e => absurd (show (1 : Nat) = 3 from e) (by decide))]; exact h.k0
 · show (Wa.P ++ [(1, c)]).length <= 60
   rw [List.length_append]; simp; omega
 · have := hcn.ca
   show (Wa.P ++ [(1, c)]).length + (T.a.sent + T.a.fn) + T.b.got + T.a.sent <= _
   rw [List.length_append]; simp; omega
theorem TI.rekey (h : TI p q n T Wa Wb) (hl : T.a.queue.length < 8) (hp : Wa.P.length < 60) : ∃ Wa', TI p q (n + 1) { T with a := { T.a with queue := T.a.queue ++ [(3, [])] }, k0 := T.k0 + 1 } Wa' Wb /\ (Cnt n T Wa Wb -> Cnt (n + 1) { T with a := { T.a with queue := T.a.queue ++ [(3, [])] }, k0 := T.k0 + 1 } Wa' Wb) := by
 have hg : T.b.got <= Wa.P.length := Nat.le_trans h.inv.ab.g2 h.inv.ab.sl
 refine ⟨_, ⟨h.inv.push (c := []) hl (.inr rfl) (by simp), h.am, h.ap, h.bm, h.bp, h.asid, h.bsid, ?_, h.sd1, h.cm0, ?_, ?_, h.k1, ?_, h.pb, by have := h.ks; show T.s.keys.length <= _; omega, by have := h.bs; show T.s.boxes.length <= _; omega, by have := h.wl; show T.wire.length <= _; omega, h.wi⟩, fun hcn => ⟨?_, Nat.le_succ_of_le hcn.cb⟩⟩
 · show T.sd0 = datas (Wa.P ++ [(3, [])])
   rw [datas_snoc, if_neg (fun e => absurd (show (3 : Nat) = 1 from e) (by decide)), List.append_nil, h.sd0]
 · show T.cm1 = datas ((Wa.P ++ [(3, [])]).take T.b.got)
   rw [List.take_append_of_le_length hg]; exact h.cm1
 · show T.k0 + 1 = rks (Wa.P ++ [(3, [])])
   rw [rks_snoc, if_pos rfl, h.k0]
 · show (Wa.P ++ [(3, ([] : Bytes))]).length <= 60
   rw [List.length_append]; simp; omega
 · have := hcn.ca
   show (Wa.P ++ [(3, ([] : Bytes))]).length + (T.a.sent + T.a.fn) + T.b.got + T.a.sent <= _
   rw [List.length_append]; simp; omega
theorem FrI.bd {W : Way} {S : Ses} (h : FrI s W S f) (hp : W.P.length <= 60) (hs : S.sid = 7) : FrB f := by
 obtain ⟨e, K, m, k, b, j, h1, h2, h3, h4, h5, h6, h7⟩ := h.ex
 have h8 := rks_take_all W.P S.sent
 have h9 := rks_len W.P
 have h10 := (List.getElem?_eq_some_iff.1 h6).1
 have h11 := h.seq
 exact ⟨by omega, by omega, by omega, by omega, h.sid.trans hs, by rw [h2]; exact mkB_len _ _⟩
theorem TI.send (h : TI p q n T Wa Wb) (hr : SendR T.s T.a s' a' m') (hn : n <= 10000) : ∃ Wa', TI p q (n + 1) { T with s := s', a := a', wire := T.wire ++ m'.toList } Wa' Wb /\ SentI T.s s' T.a a' T.b Wa Wb Wa' m' /\
   (Cnt n T Wa Wb -> Cnt (n + 1) { T with s := s', a := a', wire := T.wire ++ m'.toList } Wa' Wb) := by
 have hsm := h.small
 have h1 := h.ks
 have h2 := h.bs
 have h3 := h.wl
 obtain ⟨Wa', hI⟩ := h.inv.send hr (by omega) (by have := hsm.sent; omega)
 have hP := hI.p
 refine ⟨Wa', ⟨hI.inv, hI.me.trans h.am, hI.peer.trans h.ap, h.bm, h.bp, hI.sid.trans h.asid, h.bsid, by rw [hP]; exact h.sd0, h.sd1, ?_, by rw [hP]; exact h.cm1, by rw [hP]; exact h.k0, h.k1, by rw [hP]; exact h.pa, h.pb, ?_, ?_, ?_, fun f hf => ?_⟩, hI, fun hcn => ⟨?_, ?_⟩⟩
 · show T.cm0 = datas (Wb.P.take a'.got)
   rw [hI.got]; exact h.cm0
 · have := hI.ks; show s'.keys.length <= _; omega
 · have := hI.bs; show s'.boxes.length <= _; omega
 · show (T.wire ++ m'.toList).length <= _
   rw [List.length_append]; cases m' <;> simp <;> omega
 · rcases List.mem_append.1 hf with hf | hf
   · exact h.wi f hf
   · have hf := Option.mem_toList.1 hf
     exact (hI.inv.ab.fr f (hI.fr f hf)).bd (by rw [hP]; exact h.pa) (hI.sid.trans h.asid)
 · have h5 := hcn.ca
   have h6 := hI.fn
   have h7 := hI.sent
   show Wa'.P.length + (a'.sent + a'.fn) + T.b.got + a'.sent <= _
   rw [hP, h7]; omega
 · have h5 := hcn.cb
   have h7 := hI.got
   show Wb.P.length + (T.b.sent + T.b.fn) + a'.got + T.b.sent <= _
   rw [h7]; omega
theorem TI.take (h : TI p q n T Wa Wb) (hr : TakeR T.s T.a f r s' a' b' n' er) (ht : Told T.a T.b Wb r) (hn : n <= 10000) : TI p q (n + 1) { T with s := s', a := a', wire := T.wire ++ n'.toList, cm0 := T.cm0 ++ b'.toList } Wa Wb /\ TookI T.s s' T.a a' T.b Wa Wb b' n' er /\
   (Cnt n T Wa Wb -> Cnt (n + 1) { T with s := s', a := a', wire := T.wire ++ n'.toList, cm0 := T.cm0 ++ b'.toList } Wa Wb) := by
 have hsm := h.small
 have h1 := h.ks
 have h2 := h.bs
 have h3 := h.wl
 have hI := h.inv.took hr ht (by omega) (by have := hsm.got; omega)
 refine ⟨⟨hI.inv, hI.me.trans h.am, hI.peer.trans h.ap, h.bm, h.bp, hI.sid.trans h.asid, h.bsid, h.sd0, h.sd1, ?_, h.cm1, h.k0, h.k1, h.pa, h.pb, ?_, ?_, ?_, fun f hf => ?_⟩, hI, fun hcn => ⟨?_, ?_⟩⟩
 · show T.cm0 ++ b'.toList = datas (Wb.P.take a'.got)
   rw [hI.come, h.cm0]
 · have := hI.ks; show s'.keys.length <= _; omega
 · have := hI.bs; show s'.boxes.length <= _; omega
 · show (T.wire ++ n'.toList).length <= _
   rw [List.length_append]; cases n' <;> simp <;> omega
 · rcases List.mem_append.1 hf with hf | hf
   · exact h.wi f hf
   · obtain ⟨g1, g2, g3, g4, g5, g6⟩ := hI.mark f (Option.mem_toList.1 hf)
     have := hsm.eo; have := hsm.got; have := hI.g2
     exact ⟨by omega, by omega, by omega, by omega, g3.trans h.asid, g6⟩
 · have h5 := hcn.ca
   have h6 := hI.fn
   have h7 := hI.s2
   show Wa.P.length + (a'.sent + a'.fn) + T.b.got + a'.sent <= _
   omega
 · have h5 := hcn.cb
   have h7 := hI.g2
   show Wb.P.length + (T.b.sent + T.b.fn) + a'.got + T.b.sent <= _
   omega
end
end
section
open Go.RowKit Go.QT
/-- A row's elements, each by itself. -/
def RowOk {α : Type} (R : α -> List Value -> Prop) (xs : List (List Value)) (az : List α) : Prop := xs.length = az.length /\ ∀ (i : Nat) (x : List Value) (a : α), xs[i]? = some x -> az[i]? = some a -> R a x
def BAt (L : List (Value × Bytes)) (b : Bytes) (x : List Value) : Prop := ∃ A c, x = [.slice A b.length c] /\ (Value.slice A b.length c, b) ∈ L
section
variable {α : Type} {R R' : α -> List Value -> Prop} {xs : List (List Value)} {az : List α} {L L' : List (Value × Bytes)}
theorem RowOk.nil : RowOk R [] [] := ⟨rfl, by simp⟩
theorem RowOk.mono (h : RowOk R xs az) (hr : ∀ a x, R a x -> R' a x) : RowOk R' xs az := ⟨h.1, fun i x a hx ha => hr _ _ (h.2 i x a hx ha)⟩
theorem RowOk.push (h : RowOk R xs az) {x : List Value} {a : α} (hx : R a x) : RowOk R (xs ++ [x]) (az ++ [a]) := by
 refine ⟨by simp [h.1], fun i y b hy hb => ?_⟩
 by_cases hi : i < xs.length
 · rw [List.getElem?_append_left hi] at hy
   rw [List.getElem?_append_left (by rw [← h.1]; exact hi)] at hb
   exact h.2 i y b hy hb
 · have e : i = xs.length := by
     have := (List.getElem?_eq_some_iff.1 hy).1
     simp at this; omega
   subst e
   rw [List.getElem?_append_right (Nat.le_refl _), Nat.sub_self] at hy
   rw [h.1, List.getElem?_append_right (Nat.le_refl _), Nat.sub_self] at hb
   have hy : x = y := by simpa using hy
   have hb : a = b := by simpa using hb
   subst hy; subst hb
   exact hx
theorem RowOk.get (h : RowOk R xs az) {i : Nat} {a : α} (ha : az[i]? = some a) : ∃ x, xs[i]? = some x /\ R a x := by
 have h1 := (List.getElem?_eq_some_iff.1 ha).1
 have h2 : xs[i]? = some (xs[i]'(by rw [h.1]; exact h1)) := List.getElem?_eq_getElem _
 exact ⟨_, h2, h.2 i _ a h2 ha⟩
theorem BAt.mono {b : Bytes} {x : List Value} (h : BAt L b x) (hL : ∀ p, p ∈ L -> p ∈ L') : BAt L' b x := by
 obtain ⟨A, c, e, hm⟩ := h; exact ⟨A, c, e, hL _ hm⟩
theorem FrmAt.mono {f : Frm} {x : List Value} (h : FrmAt L f x) (hL : ∀ p, p ∈ L -> p ∈ L') : FrmAt L' f x := by
 obtain ⟨A, c, e, hm⟩ := h; exact ⟨A, c, e, hL _ hm⟩
end
/-- Where it all lies. -/
structure TEnv where
 tb : Nat
 sa : Nat
 sb : Nat
 F : Nat -> Prop
 Ga : Nat -> Prop
 Gb : Nat -> Prop
 wA : Option Addr
 wc : Nat
 wx : List (List Value)
 A0 : Option Addr
 c0 : Nat
 x0 : List (List Value)
 A1 : Option Addr
 c1 : Nat
 x1 : List (List Value)
 A2 : Option Addr
 c2 : Nat
 x2 : List (List Value)
 A3 : Option Addr
 c3 : Nat
 x3 : List (List Value)
def tCells (e : TEnv) (T : Tk) : List Value :=
 [pt e.tb 0, pt e.sa 0, pt e.sb 0, .slice e.wA T.wire.length e.wc, .slice e.A0 T.sd0.length e.c0, .slice e.A1 T.sd1.length e.c1, .slice e.A2 T.cm0.length e.c2, .slice e.A3 T.cm1.length e.c3, .int .i64 (T.k0 : Int), .int .i64 (T.k1 : Int)]
def lT (p : Nat) (L : List (Value × Bytes)) (e : TEnv) (T : Tk) : List Res :=
 [rBlk p 34 (tCells e T), rTab e.F e.tb T.s, rS e.Ga e.tb e.sa L T.a, rS e.Gb e.tb e.sb L T.b, rOV 38 6 (.slice e.wA T.wire.length e.wc) e.wx,
  rOV 26 1 (.slice e.A0 T.sd0.length e.c0) e.x0, rOV 26 1 (.slice e.A1 T.sd1.length e.c1) e.x1, rOV 26 1 (.slice e.A2 T.cm0.length e.c2) e.x2, rOV 26 1 (.slice e.A3 T.cm1.length e.c3) e.x3]
structure TOk (L : List (Value × Bytes)) (e : TEnv) (T : Tk) : Prop where
 w : RowOk (FrmAt L) e.wx T.wire
 x0 : RowOk (BAt L) e.x0 T.sd0
 x1 : RowOk (BAt L) e.x1 T.sd1
 x2 : RowOk (BAt L) e.x2 T.cm0
 x3 : RowOk (BAt L) e.x3 T.cm1
 nil : (Value.slice none 0 0, ([] : Bytes)) ∈ L
/-- It all, in memory, az one thing. -/
def rT (G : Nat -> Prop) (p : Nat) (L : List (Value × Bytes)) (T : Tk) : Res where
 F := G
 Φ := fun w => ∃ e, TOk L e T /\ G = (rStar (lT p L e T)).F /\ (rStar (lT p L e T)).Φ w
 lt := fun ⟨e, _, hG, h⟩ q hq => (rStar (lT p L e T)).lt h q (hG ▸ hq)
 keep := fun ⟨e, h1, hG, h⟩ hs hk => ⟨e, h1, hG, (rStar (lT p L e T)).keep h hs fun q hq => hk q (hG ▸ hq)⟩
section
variable {F0 G : Nat -> Prop} {w0 w w' : World} {ro rs : List Res} {p : Nat} {L L' : List (Value × Bytes)} {T T' : Tk} {o : Oper} {a : Act} {v : Value} {P : Program}
theorem Hp.openT (h : Hp F0 w0 w ro rs) (i : Nat) (hi : rs[i]? = some (rT G p L T)) : ∃ e, TOk L e T /\ Hp F0 w0 w ro (lT p L e T ++ rs.eraseIdx i) := by
 obtain ⟨e, h1, hG, h2⟩ := h.own i _ hi
 refine ⟨e, h1, ?_⟩
 refine h.call1 i hi (r := rT G p L T) ⟨Fr.refl _ _, h2.1, fun k r hr q hq => .inl ?_, h2.2, by simp, by simp⟩
 show G q
 rw [hG]; exact ⟨k, r, hr, hq⟩
theorem Hp.closeT {e : TEnv} (h : Hp F0 w0 w ro (lT p L e T ++ rs)) (hk : TOk L e T) : Hp F0 w0 w ro (rT (rStar (lT p L e T)).F p L T :: rs) := by
 have h1 := h.closeStar
 exact h1.upd 0 rfl (Fr.refl _ _) (rT (rStar (lT p L e T)).F p L T) ⟨e, hk, rfl, h1.own 0 _ rfl⟩ (fun q hq => .inl hq)
end
end
section
open Go.RowKit Go.QT
theorem tEnd_0 {p tb sa sb : Nat} {v3 v4 v5 v6 v7 v8 v9 : Value} {w : World} (hb : Blk w p 34 [(pt tb 0), (pt sa 0), (pt sb 0), v3, v4, v5, v6, v7, v8, v9]) : Calls Try.prog 18 #[pt p 0, .int .i64 0] w (DPost w (pt sa 0)) := by
 have h0 := Hp.ro1 (rBlk p 34 _) hb
 refine enter 14 Try.func18 rfl rfl ?_
 refine wp_reset 16 [(0, (pt p 0)), (1, (Value.int .i64 0))] (fun x0 => ?_)
 refine wp_seq_k fun K1 hK1 => reg_lit ?_
 refine wq_p 1 [(4, (Value.pointer none))] ?_
 refine wl_end rfl (seq_n hK1 (wp_seq_k fun K2 hK2 => wp_seq_k fun K3 hK3 => reg_lit ?_))
 refine wq_p 1 [(5, (Value.int .i64 0))] (wq_v (some 6) (Value.int .i64 0) (eqI (Value.int .i64 (bits .and .i64 0 1)) (congrArg (Value.int .i64) (by kernel_rfl))) (wq_p 1 [(7, (Value.bool true))] ?_))
 refine wl_end rfl (seq_n hK3 (cT (wp_seq_k fun K4 hK4 => reg_lit ?_)))
 refine wq_p 3 [(10, (pt p 1)), (9, (pt p 0)), (8, (pt p 0))] (wq_v (some 11) (pt sa 0) (eL (h0.rd 0 rfl) 29 (.tmp 10) 1 _) (wq_p 1 [(4, (pt sa 0))] ?_))
 refine wl_end rfl (seq_n hK4 (wp_ret (seq_r ?_)))
 refine post_1 rfl (by kernel_rfl) (rtm (pt sa 0)) ?_
 exact ⟨rfl, h0.below0⟩
theorem tEnd_1 {p tb sa sb : Nat} {v3 v4 v5 v6 v7 v8 v9 : Value} {w : World} (hb : Blk w p 34 [(pt tb 0), (pt sa 0), (pt sb 0), v3, v4, v5, v6, v7, v8, v9]) : Calls Try.prog 18 #[pt p 0, .int .i64 1] w (DPost w (pt sb 0)) := by
 have h0 := Hp.ro1 (rBlk p 34 _) hb
 refine enter 14 Try.func18 rfl rfl ?_
 refine wp_reset 16 [(0, (pt p 0)), (1, (Value.int .i64 1))] (fun x0 => ?_)
 refine wp_seq_k fun K1 hK1 => reg_lit ?_
 refine wq_p 1 [(4, (Value.pointer none))] ?_
 refine wl_end rfl (seq_n hK1 (wp_seq_k fun K2 hK2 => wp_seq_k fun K3 hK3 => reg_lit ?_))
 refine wq_p 1 [(5, (Value.int .i64 1))] (wq_v (some 6) (Value.int .i64 1) (eqI (Value.int .i64 (bits .and .i64 1 1)) (congrArg (Value.int .i64) (by kernel_rfl))) (wq_p 1 [(7, (Value.bool false))] ?_))
 refine wl_end rfl (seq_n hK3 (cF (wp_skip (seq_n hK2 (wp_seq_k fun K4 hK4 => reg_lit ?_)))))
 refine wq_p 3 [(14, (pt p 2)), (13, (pt p 0)), (12, (pt p 0))] (wq_v (some 15) (pt sb 0) (eL (h0.rd 0 rfl) 29 (.tmp 14) 2 _) (wq_p 1 [(4, (pt sb 0))] ?_))
 refine wl_end rfl (seq_n hK4 (wp_ret ?_))
 refine post_1 rfl (by kernel_rfl) (rtm (pt sb 0)) ?_
 exact ⟨rfl, h0.below0⟩
end
section
open Go.Value renaming int -> iV, slice -> lV, string -> sV, bool -> bV, agg -> aV
open Go.RowKit Go.QT
/-- What turned leaves: a frame. -/
def TurnPost (w : World) (L : List (Value × Bytes)) (e : Ending) (w' : World) : Prop :=
 ∃ (f : Frm) (A : Option Addr) (c : Nat) (L' : List (Value × Bytes)), -10 <= f.seq /\ f.seq <= 2000000 /\ f.box.length = 16 /\ e = .returned (.agg (f.cells (.slice A f.box.length c)).toArray) /\ (lV A f.box.length c, f.box) ∈ L' /\ LExt (fun _ => False) w L L' /\ Hp (fun _ => False) w w' [rF L'] []
theorem tTurned_any {L : List (Value × Bytes)} {w : World} (hL : (rF L).Φ w) (f : Frm) (hf : FrB f) (Ab : Option Addr) (cb : Nat) (hmf : (lV Ab f.box.length cb, f.box) ∈ L) (n : Int) :
   Calls Try.prog 35 #[.agg (f.cells (.slice Ab f.box.length cb)).toArray, .int .i64 n] w (TurnPost w L) := by
 have he0 := hf.e0
 have he1 := hf.e1
 have hs0 := hf.s0
 have hs1 := hf.s1
 have hsid := hf.sid
 have hbx := hf.box
 have h0 := (Hp.ro1 (rF L) hL).roF 0 rfl hmf
 refine enter 65 Try.func35 rfl rfl ?_
 refine wp_reset 67 [(0, (aV ([(sV f.src), (sV f.dst), (iV .i64 f.sid), (iV .i64 f.epoch), (iV .i64 f.seq), (lV Ab f.box.length cb)]).toArray)), (1, (iV .i64 n))] (fun x0 => ?_)
 refine wp_seq_k fun K1 hK1 => reg_lit ?_
 refine wq_to (some 2) (xN h0 38 ([(sV f.src), (sV f.dst), (iV .i64 f.sid), (iV .i64 f.epoch), (iV .i64 f.seq), (lV Ab f.box.length cb)])) ?_
 rintro _ w2 ⟨g2, rfl, h2⟩
 refine wq_to (some 4) (xN h2 38 ([(sV ByteArray.empty), (sV ByteArray.empty), (iV .i64 0), (iV .i64 0), (iV .i64 0), (lV none 0 0)])) ?_
 rintro _ w3 ⟨g3, rfl, h3⟩
 refine wl_end rfl (seq_n hK1 (wp_seq_k fun K4 hK4 => wp_seq_k fun K5 hK5 => reg_lit ?_))
 refine wq_p 1 [(5, (iV .i64 n))] ?_
 obtain ⟨M6, hM6, hb6⟩ := and_mask n 15 (by decide)
 refine wq_v (some 6) (iV .i64 ((M6 : Int))) (eqI (iV .i64 (bits .and .i64 n 15)) (congrArg (iV .i64) hM6)) ?_
 refine wl_end rfl (seq_n hK5 (wp_block (wp_seq_k fun K7 hK7 => reg_lit ?_)))
 refine wq_p 2 [(7, (bV (((M6 : Int)) == 1))), (8, (bV (((M6 : Int)) == 1)))] ?_
 refine wl_end rfl (seq_n hK7 ?_)
 refine wp_ifeq ((M6 : Int)) 1 (by kernel_rfl) (fun b8 => ?_) (fun b8 => ?_)
 ·
  refine reg_lit ?_
  refine wq_p 1 [(9, (pt g2 3))] (wq_v (some 10) (iV .i64 f.epoch) (eL (h3.at_ 1 rfl) 2 (.tmp 9) 3 _) (wq_v (some 11) (iV .i64 (f.epoch + 1)) (exec_add _ _ _ _ rfl f.epoch 1 (by kernel_rfl) (by kernel_rfl) (f.epoch + 1) rfl (by omega) (by omega) _) (wq_p 1 [(12, (pt g2 3))] ?_)))
  refine wq_to none (xSt h3 1 2 (.tmp 12) (.tmp 11) 3 (iV .i64 (f.epoch + 1)) ([(sV f.src), (sV f.dst), (iV .i64 f.sid), (iV .i64 (f.epoch + 1)), (iV .i64 f.seq), (lV Ab f.box.length cb)])) ?_
  rintro _ w9 h9
  refine wl_end rfl (blk_n (seq_n hK4 (wp_seq_k fun K10 hK10 => reg_lit ?_)))
  refine wq_v (some 66) (aV ([(sV f.src), (sV f.dst), (iV .i64 f.sid), (iV .i64 (f.epoch + 1)), (iV .i64 f.seq), (lV Ab f.box.length cb)]).toArray) (eLs (h9.at_ 1 rfl) 38 (.tmp 2) 0 ([(sV f.src), (sV f.dst), (iV .i64 f.sid), (iV .i64 (f.epoch + 1)), (iV .i64 f.seq), (lV Ab f.box.length cb)])) ?_
  refine wq_to none (xSs h9 0 38 (.tmp 4) (.tmp 66) 0 ([(sV f.src), (sV f.dst), (iV .i64 f.sid), (iV .i64 (f.epoch + 1)), (iV .i64 f.seq), (lV Ab f.box.length cb)]) ([(sV f.src), (sV f.dst), (iV .i64 f.sid), (iV .i64 (f.epoch + 1)), (iV .i64 f.seq), (lV Ab f.box.length cb)])) ?_
  rintro _ w11 h11
  refine wl_end rfl (seq_n hK10 (wp_ret ?_))
  refine post_1 rfl (by kernel_rfl) (rce (h11.at_ 0 rfl)) ?_
  exact ⟨Frm.mk f.src f.dst f.sid (f.epoch + 1) f.seq f.box, Ab, cb, L, (by show -10 <= f.seq; omega), (by show f.seq <= 2000000; omega), hbx, rfl, hmf, LExt.refl _ _ _, h11.sel [] [1] rfl rfl rfl⟩
 ·
  refine wp_seq_k fun K12 hK12 => reg_lit ?_
  refine wq_p 2 [(13, (bV (((M6 : Int)) == 2))), (14, (bV (((M6 : Int)) == 2)))] ?_
  refine wl_end rfl (seq_n hK12 ?_)
  refine wp_ifeq ((M6 : Int)) 2 (by kernel_rfl) (fun b13 => ?_) (fun b13 => ?_)
  ·
   refine reg_lit ?_
   refine wq_p 1 [(15, (pt g2 3))] (wq_v (some 16) (iV .i64 f.epoch) (eL (h3.at_ 1 rfl) 2 (.tmp 15) 3 _) (wq_v (some 17) (iV .i64 (f.epoch - 1)) (exec_sub _ _ _ _ rfl f.epoch 1 (by kernel_rfl) (by kernel_rfl) (f.epoch - 1) rfl (by omega) (by omega) _) (wq_p 1 [(18, (pt g2 3))] ?_)))
   refine wq_to none (xSt h3 1 2 (.tmp 18) (.tmp 17) 3 (iV .i64 (f.epoch - 1)) ([(sV f.src), (sV f.dst), (iV .i64 f.sid), (iV .i64 (f.epoch - 1)), (iV .i64 f.seq), (lV Ab f.box.length cb)])) ?_
   rintro _ w14 h14
   refine wl_end rfl (blk_n (seq_n hK4 (wp_seq_k fun K15 hK15 => reg_lit ?_)))
   refine wq_v (some 66) (aV ([(sV f.src), (sV f.dst), (iV .i64 f.sid), (iV .i64 (f.epoch - 1)), (iV .i64 f.seq), (lV Ab f.box.length cb)]).toArray) (eLs (h14.at_ 1 rfl) 38 (.tmp 2) 0 ([(sV f.src), (sV f.dst), (iV .i64 f.sid), (iV .i64 (f.epoch - 1)), (iV .i64 f.seq), (lV Ab f.box.length cb)])) ?_
   refine wq_to none (xSs h14 0 38 (.tmp 4) (.tmp 66) 0 ([(sV f.src), (sV f.dst), (iV .i64 f.sid), (iV .i64 (f.epoch - 1)), (iV .i64 f.seq), (lV Ab f.box.length cb)]) ([(sV f.src), (sV f.dst), (iV .i64 f.sid), (iV .i64 (f.epoch - 1)), (iV .i64 f.seq), (lV Ab f.box.length cb)])) ?_
   rintro _ w16 h16
   refine wl_end rfl (seq_n hK15 (wp_ret ?_))
   refine post_1 rfl (by kernel_rfl) (rce (h16.at_ 0 rfl)) ?_
   exact ⟨Frm.mk f.src f.dst f.sid (f.epoch - 1) f.seq f.box, Ab, cb, L, (by show -10 <= f.seq; omega), (by show f.seq <= 2000000; omega), hbx, rfl, hmf, LExt.refl _ _ _, h16.sel [] [1] rfl rfl rfl⟩
  ·
   refine wp_seq_k fun K17 hK17 => reg_lit ?_
   refine wq_p 2 [(19, (bV (((M6 : Int)) == 3))), (20, (bV (((M6 : Int)) == 3)))] ?_
   refine wl_end rfl (seq_n hK17 ?_)
   refine wp_ifeq ((M6 : Int)) 3 (by kernel_rfl) (fun b18 => ?_) (fun b18 => ?_)
   ·
    refine reg_lit ?_
    refine wq_p 1 [(21, (pt g2 4))] (wq_v (some 22) (iV .i64 f.seq) (eL (h3.at_ 1 rfl) 2 (.tmp 21) 4 _) (wq_v (some 23) (iV .i64 (f.seq + 1)) (exec_add _ _ _ _ rfl f.seq 1 (by kernel_rfl) (by kernel_rfl) (f.seq + 1) rfl (by omega) (by omega) _) (wq_p 1 [(24, (pt g2 4))] ?_)))
    refine wq_to none (xSt h3 1 2 (.tmp 24) (.tmp 23) 4 (iV .i64 (f.seq + 1)) ([(sV f.src), (sV f.dst), (iV .i64 f.sid), (iV .i64 f.epoch), (iV .i64 (f.seq + 1)), (lV Ab f.box.length cb)])) ?_
    rintro _ w19 h19
    refine wl_end rfl (blk_n (seq_n hK4 (wp_seq_k fun K20 hK20 => reg_lit ?_)))
    refine wq_v (some 66) (aV ([(sV f.src), (sV f.dst), (iV .i64 f.sid), (iV .i64 f.epoch), (iV .i64 (f.seq + 1)), (lV Ab f.box.length cb)]).toArray) (eLs (h19.at_ 1 rfl) 38 (.tmp 2) 0 ([(sV f.src), (sV f.dst), (iV .i64 f.sid), (iV .i64 f.epoch), (iV .i64 (f.seq + 1)), (lV Ab f.box.length cb)])) ?_
    refine wq_to none (xSs h19 0 38 (.tmp 4) (.tmp 66) 0 ([(sV f.src), (sV f.dst), (iV .i64 f.sid), (iV .i64 f.epoch), (iV .i64 (f.seq + 1)), (lV Ab f.box.length cb)]) ([(sV f.src), (sV f.dst), (iV .i64 f.sid), (iV .i64 f.epoch), (iV .i64 (f.seq + 1)), (lV Ab f.box.length cb)])) ?_
    rintro _ w21 h21
    refine wl_end rfl (seq_n hK20 (wp_ret ?_))
    refine post_1 rfl (by kernel_rfl) (rce (h21.at_ 0 rfl)) ?_
    exact ⟨Frm.mk f.src f.dst f.sid f.epoch (f.seq + 1) f.box, Ab, cb, L, (by show -10 <= f.seq + 1; omega), (by show f.seq + 1 <= 2000000; omega), hbx, rfl, hmf, LExt.refl _ _ _, h21.sel [] [1] rfl rfl rfl⟩
   ·
    refine wp_seq_k fun K22 hK22 => reg_lit ?_
    refine wq_p 2 [(25, (bV (((M6 : Int)) == 4))), (26, (bV (((M6 : Int)) == 4)))] ?_
    refine wl_end rfl (seq_n hK22 ?_)
    refine wp_ifeq ((M6 : Int)) 4 (by kernel_rfl) (fun b23 => ?_) (fun b23 => ?_)
    ·
     refine reg_lit ?_
     refine wq_p 1 [(27, (pt g2 4))] (wq_v (some 28) (iV .i64 f.seq) (eL (h3.at_ 1 rfl) 2 (.tmp 27) 4 _) (wq_v (some 29) (iV .i64 (f.seq - 1)) (exec_sub _ _ _ _ rfl f.seq 1 (by kernel_rfl) (by kernel_rfl) (f.seq - 1) rfl (by omega) (by omega) _) (wq_p 1 [(30, (pt g2 4))] ?_)))
     refine wq_to none (xSt h3 1 2 (.tmp 30) (.tmp 29) 4 (iV .i64 (f.seq - 1)) ([(sV f.src), (sV f.dst), (iV .i64 f.sid), (iV .i64 f.epoch), (iV .i64 (f.seq - 1)), (lV Ab f.box.length cb)])) ?_
     rintro _ w24 h24
     refine wl_end rfl (blk_n (seq_n hK4 (wp_seq_k fun K25 hK25 => ?_)))
     refine wp_reset 67 [(0, (aV ([(sV f.src), (sV f.dst), (iV .i64 f.sid), (iV .i64 f.epoch), (iV .i64 f.seq), (lV Ab f.box.length cb)]).toArray)), (1, (iV .i64 n)), (2, (pt g2 0)), (4, (pt g3 0)), (6, (iV .i64 ((M6 : Int)))), (7, (bV (((M6 : Int)) == 1))), (13, (bV (((M6 : Int)) == 2))), (19, (bV (((M6 : Int)) == 3))), (25, (bV (((M6 : Int)) == 4)))] (fun x26 => ?_)
     refine reg_lit ?_
     refine wq_v (some 66) (aV ([(sV f.src), (sV f.dst), (iV .i64 f.sid), (iV .i64 f.epoch), (iV .i64 (f.seq - 1)), (lV Ab f.box.length cb)]).toArray) (eLs (h24.at_ 1 rfl) 38 (.tmp 2) 0 ([(sV f.src), (sV f.dst), (iV .i64 f.sid), (iV .i64 f.epoch), (iV .i64 (f.seq - 1)), (lV Ab f.box.length cb)])) ?_
     refine wq_to none (xSs h24 0 38 (.tmp 4) (.tmp 66) 0 ([(sV f.src), (sV f.dst), (iV .i64 f.sid), (iV .i64 f.epoch), (iV .i64 (f.seq - 1)), (lV Ab f.box.length cb)]) ([(sV f.src), (sV f.dst), (iV .i64 f.sid), (iV .i64 f.epoch), (iV .i64 (f.seq - 1)), (lV Ab f.box.length cb)])) ?_
     rintro _ w27 h27
     refine wl_end rfl (seq_n hK25 (wp_ret ?_))
     refine post_1 rfl (by kernel_rfl) (rce (h27.at_ 0 rfl)) ?_
     exact ⟨Frm.mk f.src f.dst f.sid f.epoch (f.seq - 1) f.box, Ab, cb, L, (by show -10 <= f.seq - 1; omega), (by show f.seq - 1 <= 2000000; omega), hbx, rfl, hmf, LExt.refl _ _ _, h27.sel [] [1] rfl rfl rfl⟩
    ·
     refine wp_seq_k fun K28 hK28 => reg_lit ?_
     refine wq_p 2 [(31, (bV (((M6 : Int)) == 5))), (32, (bV (((M6 : Int)) == 5)))] ?_
     refine wl_end rfl (seq_n hK28 ?_)
     refine wp_ifeq ((M6 : Int)) 5 (by kernel_rfl) (fun b29 => ?_) (fun b29 => ?_)
     ·
      refine wp_reset 67 [(0, (aV ([(sV f.src), (sV f.dst), (iV .i64 f.sid), (iV .i64 f.epoch), (iV .i64 f.seq), (lV Ab f.box.length cb)]).toArray)), (1, (iV .i64 n)), (2, (pt g2 0)), (4, (pt g3 0)), (6, (iV .i64 ((M6 : Int)))), (7, (bV (((M6 : Int)) == 1))), (13, (bV (((M6 : Int)) == 2))), (19, (bV (((M6 : Int)) == 3))), (25, (bV (((M6 : Int)) == 4))), (31, (bV (((M6 : Int)) == 5)))] (fun x30 => ?_)
      refine reg_lit ?_
      refine wq_p 1 [(33, (pt g2 2))] (wq_v (some 34) (iV .i64 f.sid) (eL (h3.at_ 1 rfl) 2 (.tmp 33) 2 _) (wq_v (some 35) (iV .i64 (f.sid + 1)) (exec_add _ _ _ _ rfl f.sid 1 (by kernel_rfl) (by kernel_rfl) (f.sid + 1) rfl (by omega) (by omega) _) (wq_p 1 [(36, (pt g2 2))] ?_)))
      refine wq_to none (xSt h3 1 2 (.tmp 36) (.tmp 35) 2 (iV .i64 (f.sid + 1)) ([(sV f.src), (sV f.dst), (iV .i64 (f.sid + 1)), (iV .i64 f.epoch), (iV .i64 f.seq), (lV Ab f.box.length cb)])) ?_
      rintro _ w31 h31
      refine wl_end rfl (blk_n (seq_n hK4 (wp_seq_k fun K32 hK32 => reg_lit ?_)))
      refine wq_v (some 66) (aV ([(sV f.src), (sV f.dst), (iV .i64 (f.sid + 1)), (iV .i64 f.epoch), (iV .i64 f.seq), (lV Ab f.box.length cb)]).toArray) (eLs (h31.at_ 1 rfl) 38 (.tmp 2) 0 ([(sV f.src), (sV f.dst), (iV .i64 (f.sid + 1)), (iV .i64 f.epoch), (iV .i64 f.seq), (lV Ab f.box.length cb)])) ?_
      refine wq_to none (xSs h31 0 38 (.tmp 4) (.tmp 66) 0 ([(sV f.src), (sV f.dst), (iV .i64 (f.sid + 1)), (iV .i64 f.epoch), (iV .i64 f.seq), (lV Ab f.box.length cb)]) ([(sV f.src), (sV f.dst), (iV .i64 (f.sid + 1)), (iV .i64 f.epoch), (iV .i64 f.seq), (lV Ab f.box.length cb)])) ?_
      rintro _ w33 h33
      refine wl_end rfl (seq_n hK32 (wp_ret ?_))
      refine post_1 rfl (by kernel_rfl) (rce (h33.at_ 0 rfl)) ?_
      exact ⟨Frm.mk f.src f.dst (f.sid + 1) f.epoch f.seq f.box, Ab, cb, L, (by show -10 <= f.seq; omega), (by show f.seq <= 2000000; omega), hbx, rfl, hmf, LExt.refl _ _ _, h33.sel [] [1] rfl rfl rfl⟩
     ·
      refine wp_seq_k fun K34 hK34 => ?_
      refine wp_reset 67 [(0, (aV ([(sV f.src), (sV f.dst), (iV .i64 f.sid), (iV .i64 f.epoch), (iV .i64 f.seq), (lV Ab f.box.length cb)]).toArray)), (1, (iV .i64 n)), (2, (pt g2 0)), (4, (pt g3 0)), (6, (iV .i64 ((M6 : Int)))), (7, (bV (((M6 : Int)) == 1))), (13, (bV (((M6 : Int)) == 2))), (19, (bV (((M6 : Int)) == 3))), (25, (bV (((M6 : Int)) == 4))), (31, (bV (((M6 : Int)) == 5)))] (fun x35 => ?_)
      refine reg_lit ?_
      refine wq_p 2 [(37, (bV (((M6 : Int)) == 6))), (38, (bV (((M6 : Int)) == 6)))] ?_
      refine wl_end rfl (seq_n hK34 ?_)
      refine wp_ifeq ((M6 : Int)) 6 (by kernel_rfl) (fun b36 => ?_) (fun b36 => ?_)
      ·
       refine wp_seq_k fun K37 hK37 => reg_lit ?_
       refine wq_to (some 39) (x_bs0B h3 (by kernel_rfl)) ?_
       rintro _ w38 ⟨A38, rfl, h38⟩
       refine wq_p 1 [(40, (pt g2 5))] (wq_v (some 41) (lV Ab f.box.length cb) (eL (h38.at_ 2 rfl) 26 (.tmp 40) 5 _) ?_)
       refine wq_to (some 42) (x_appG h38 0 rfl (.tmp 39) (.tmp 41) (by kernel_rfl) (lV Ab f.box.length cb) (by kernel_rfl) (by kernel_rfl) (h38.rd 0 rfl) (by simp; omega) (f.box) (f.box.length) rfl rfl) ?_
       rintro _ w39 ⟨A39, c39, rfl, h39⟩
       refine wq_p 1 [(43, (pt g2 5))] ?_
       refine wq_to none (xSt h39 2 26 (.tmp 43) (.tmp 42) 5 (lV A39 f.box.length c39) ([(sV f.src), (sV f.dst), (iV .i64 f.sid), (iV .i64 f.epoch), (iV .i64 f.seq), (lV A39 f.box.length c39)])) ?_
       rintro _ w40 h40
       refine wl_end rfl (seq_n hK37 (wp_seq_k fun K41 hK41 => reg_lit ?_))
       refine wq_p 1 [(44, (pt g2 5))] (wq_v (some 45) (lV A39 f.box.length c39) (eL (h40.at_ 2 rfl) 26 (.tmp 44) 5 _) (wq_p 1 [(46, (iV .i64 ((f.box.length : Int))))] (wq_v (some 47) (.bool true) (eqI (bV (decide ((f.box.length : Int) > 0))) (congrArg bV (by simp; omega))) ?_)))
       refine wl_end rfl (seq_n hK41 (cT (reg_lit ?_)))
       refine wq_p 1 [(48, (pt g2 5))] (wq_v (some 49) (lV A39 f.box.length c39) (eL (h40.at_ 2 rfl) 26 (.tmp 48) 5 _) (wq_p 1 [(50, (pt g2 5))] (wq_v (some 51) (lV A39 f.box.length c39) (eL (h40.at_ 2 rfl) 26 (.tmp 50) 5 _) ?_)))
       refine wq_p 1 [(52, (iV .i64 ((f.box.length : Int))))] (wq_v (some 53) (iV .i64 ((((f.box.length) - 1 : Nat) : Int))) (exec_sub _ _ _ _ rfl ((f.box.length : Int)) 1 (by kernel_rfl) (by kernel_rfl) ((((f.box.length) - 1 : Nat) : Int)) (by omega) (by omega) (by omega) _) (wq_v (some 54) (eAt A39 (((((f.box.length) - 1))) * 1 + 0)) (eIx (SB.rvn (OB.sb (h40.at_ 0 rfl))).2 ((((f.box.length) - 1))) f.box.length (SB.rvn (OB.sb (h40.at_ 0 rfl))).1 (by first | omega | (simp; omega)) 26 (.tmp 49) (.tmp 53) .i64 5) (wq_v (some 55) (iV .u8 (ub (gb (f.box) ((((f.box.length) - 1)))))) (eEl (SB.rvn (OB.sb (h40.at_ 0 rfl))).2 ((((f.box.length) - 1))) 0 ([(iV .u8 (ub (gb (f.box) ((((f.box.length) - 1))))))]) (bx_get _ _ (by first | omega | (simp; omega))) 5 (.tmp 54) (iV .u8 (ub (gb (f.box) ((((f.box.length) - 1))))))) ?_)))
       obtain ⟨b42, hb42⟩ := u8_wrap ((ub (gb (f.box) ((((f.box.length) - 1))))) + 1)
       refine wq_v (some 56) (iV .u8 (ub b42)) (eqI (iV .u8 (IntKind.u8.wrap ((ub (gb (f.box) ((((f.box.length) - 1))))) + 1))) (congrArg (iV .u8) hb42)) (wq_v (some 57) (eAt A39 (((((f.box.length) - 1))) * 1 + 0)) (eIx (SB.rvn (OB.sb (h40.at_ 0 rfl))).2 ((((f.box.length) - 1))) f.box.length (SB.rvn (OB.sb (h40.at_ 0 rfl))).1 (by first | omega | (simp; omega)) 26 (.tmp 49) (.tmp 53) .i64 5) ?_)
       refine wq_to none (x_storeB h40 0 rfl ((((f.box.length) - 1))) (by first | omega | (simp; omega)) 5 (.tmp 57) (.tmp 56) (by kernel_rfl) b42 (by kernel_rfl) (by kernel_rfl) (by kernel_rfl)) ?_
       rintro _ w43 h43
       refine wl_end rfl (blk_n (seq_n hK4 (wp_seq_k fun K44 hK44 => reg_lit ?_)))
       refine wq_v (some 66) (aV ([(sV f.src), (sV f.dst), (iV .i64 f.sid), (iV .i64 f.epoch), (iV .i64 f.seq), (lV A39 f.box.length c39)]).toArray) (eLs (h43.at_ 2 rfl) 38 (.tmp 2) 0 ([(sV f.src), (sV f.dst), (iV .i64 f.sid), (iV .i64 f.epoch), (iV .i64 f.seq), (lV A39 f.box.length c39)])) ?_
       refine wq_to none (xSs h43 1 38 (.tmp 4) (.tmp 66) 0 ([(sV f.src), (sV f.dst), (iV .i64 f.sid), (iV .i64 f.epoch), (iV .i64 f.seq), (lV A39 f.box.length c39)]) ([(sV f.src), (sV f.dst), (iV .i64 f.sid), (iV .i64 f.epoch), (iV .i64 f.seq), (lV A39 f.box.length c39)])) ?_
       rintro _ w45 h45
       refine wl_end rfl (seq_n hK44 (wp_ret ?_))
       refine post_1 rfl (by kernel_rfl) (rce (h45.at_ 1 rfl)) ?_
       have hlb : (f.box.set ((((f.box.length) - 1))) b42).length = f.box.length := by simp
       have hz1 := h45.lext (LExt.refl (fun _ => False) w L) 0 (v := (lV A39 f.box.length c39)) (b := f.box.set ((((f.box.length) - 1))) b42) rfl (fun _ hq => hq.2)
       have hz2 := h45.freeze 1 rfl 0 (v := (lV A39 f.box.length c39)) (b := f.box.set ((((f.box.length) - 1))) b42) rfl (fun hb => OB.sb hb) (fun _ hq => hq.2)
       exact ⟨Frm.mk f.src f.dst f.sid f.epoch f.seq (f.box.set ((((f.box.length) - 1))) b42), A39, c39, _, (by show -10 <= f.seq; omega), (by show f.seq <= 2000000; omega), hlb.trans hbx, (by rw [hlb]; rfl), (by rw [hlb]; exact List.mem_cons_self), hz1, hz2.sel [] [0] rfl rfl rfl⟩
      ·
       refine wp_seq_k fun K46 hK46 => reg_lit ?_
       refine wq_p 2 [(58, (bV (((M6 : Int)) == 7))), (59, (bV (((M6 : Int)) == 7)))] ?_
       refine wl_end rfl (seq_n hK46 ?_)
       refine wp_ifeq ((M6 : Int)) 7 (by kernel_rfl) (fun b47 => ?_) (fun b47 => ?_)
       ·
        refine reg_lit ?_
        refine wq_p 1 [(60, (pt g2 1))] (wq_v (some 61) (sV f.dst) (eL (h3.at_ 1 rfl) 9 (.tmp 60) 1 _) (wq_p 1 [(62, (pt g2 0))] (wq_v (some 63) (sV f.src) (eL (h3.at_ 1 rfl) 9 (.tmp 62) 0 _) ?_)))
        refine wq_p 1 [(64, (pt g2 0))] ?_
        refine wq_to none (xSt h3 1 9 (.tmp 64) (.tmp 61) 0 (sV f.dst) ([(sV f.dst), (sV f.dst), (iV .i64 f.sid), (iV .i64 f.epoch), (iV .i64 f.seq), (lV Ab f.box.length cb)])) ?_
        rintro _ w48 h48
        refine wq_p 1 [(65, (pt g2 1))] ?_
        refine wq_to none (xSt h48 1 9 (.tmp 65) (.tmp 63) 1 (sV f.src) ([(sV f.dst), (sV f.src), (iV .i64 f.sid), (iV .i64 f.epoch), (iV .i64 f.seq), (lV Ab f.box.length cb)])) ?_
        rintro _ w49 h49
        refine wl_end rfl (blk_n (seq_n hK4 (wp_seq_k fun K50 hK50 => reg_lit ?_)))
        refine wq_v (some 66) (aV ([(sV f.dst), (sV f.src), (iV .i64 f.sid), (iV .i64 f.epoch), (iV .i64 f.seq), (lV Ab f.box.length cb)]).toArray) (eLs (h49.at_ 1 rfl) 38 (.tmp 2) 0 ([(sV f.dst), (sV f.src), (iV .i64 f.sid), (iV .i64 f.epoch), (iV .i64 f.seq), (lV Ab f.box.length cb)])) ?_
        refine wq_to none (xSs h49 0 38 (.tmp 4) (.tmp 66) 0 ([(sV f.dst), (sV f.src), (iV .i64 f.sid), (iV .i64 f.epoch), (iV .i64 f.seq), (lV Ab f.box.length cb)]) ([(sV f.dst), (sV f.src), (iV .i64 f.sid), (iV .i64 f.epoch), (iV .i64 f.seq), (lV Ab f.box.length cb)])) ?_
        rintro _ w51 h51
        refine wl_end rfl (seq_n hK50 (wp_ret ?_))
        refine post_1 rfl (by kernel_rfl) (rce (h51.at_ 0 rfl)) ?_
        exact ⟨Frm.mk f.dst f.src f.sid f.epoch f.seq f.box, Ab, cb, L, (by show -10 <= f.seq; omega), (by show f.seq <= 2000000; omega), hbx, rfl, hmf, LExt.refl _ _ _, h51.sel [] [1] rfl rfl rfl⟩
       ·
        refine wp_skip (blk_n (seq_n hK4 (wp_seq_k fun K52 hK52 => reg_lit ?_)))
        refine wq_v (some 66) (aV ([(sV f.src), (sV f.dst), (iV .i64 f.sid), (iV .i64 f.epoch), (iV .i64 f.seq), (lV Ab f.box.length cb)]).toArray) (eLs (h3.at_ 1 rfl) 38 (.tmp 2) 0 ([(sV f.src), (sV f.dst), (iV .i64 f.sid), (iV .i64 f.epoch), (iV .i64 f.seq), (lV Ab f.box.length cb)])) ?_
        refine wq_to none (xSs h3 0 38 (.tmp 4) (.tmp 66) 0 ([(sV f.src), (sV f.dst), (iV .i64 f.sid), (iV .i64 f.epoch), (iV .i64 f.seq), (lV Ab f.box.length cb)]) ([(sV f.src), (sV f.dst), (iV .i64 f.sid), (iV .i64 f.epoch), (iV .i64 f.seq), (lV Ab f.box.length cb)])) ?_
        rintro _ w53 h53
        refine wl_end rfl (seq_n hK52 (wp_ret ?_))
        refine post_1 rfl (by kernel_rfl) (rce (h53.at_ 0 rfl)) ?_
        exact ⟨Frm.mk f.src f.dst f.sid f.epoch f.seq f.box, Ab, cb, L, (by show -10 <= f.seq; omega), (by show f.seq <= 2000000; omega), hbx, rfl, hmf, LExt.refl _ _ _, h53.sel [] [1] rfl rfl rfl⟩
end
section
theorem STab.made_same {s : STab} {f : SFrom} {m : Nat} (h : s.at_ f = some m) : s.made f = s := by unfold STab.made; rw [h]
theorem newKeys_again (s : STab) (k : Bytes) : newKeys (newKeys s k).2.2 k = newKeys s k := by
 have h1 : ((s.made (deriveF k lOne)).made (deriveF k lTwo)).at_ (deriveF k lOne) = some (s.num (deriveF k lOne)) := STab.at_made_of _ _ _ _ (STab.at_made s _)
 have h2 : ((s.made (deriveF k lOne)).made (deriveF k lTwo)).at_ (deriveF k lTwo) = some ((s.made (deriveF k lOne)).num (deriveF k lTwo)) := STab.at_made _ _
 unfold newKeys
 simp only [STab.made_same h1, STab.made_same h2, STab.num_of _ _ _ h1, STab.num_of _ _ _ h2]
def sAnn : ByteArray := ⟨#[97, 110, 110]⟩
def sBob : ByteArray := ⟨#[98, 111, 98]⟩
/-- The table and the ends, as they begin. -/
def sTab0 : STab := (newKeys (STab.empty.add SFrom.fresh) (mkB 107 1)).2.2
def sA0 : Ses := ⟨sAnn, sBob, 7, (newKeys (STab.empty.add SFrom.fresh) (mkB 107 1)).1, 0, (newKeys (STab.empty.add SFrom.fresh) (mkB 107 1)).2.1, 0, [], 0, 0, none, false⟩
def sB0 : Ses := ⟨sBob, sAnn, 7, (newKeys (STab.empty.add SFrom.fresh) (mkB 107 1)).2.1, 0, (newKeys (STab.empty.add SFrom.fresh) (mkB 107 1)).1, 0, [], 0, 0, none, false⟩
def tk0 : Tk := ⟨sTab0, sA0, sB0, [], [], [], [], [], 0, 0⟩
theorem one_two (k : Bytes) : deriveF k lTwo ≠ deriveF k lOne := fun h => absurd (derive_inj.1 h).2 (by decide)
theorem num_one : (STab.empty.add SFrom.fresh).num (deriveF (mkB 107 1) lOne) = 2 := rfl
theorem num_two : ((STab.empty.add SFrom.fresh).made (deriveF (mkB 107 1) lOne)).num (deriveF (mkB 107 1) lTwo) = 3 := by
 have h : ((STab.empty.add SFrom.fresh).made (deriveF (mkB 107 1) lOne)).at_ (deriveF (mkB 107 1) lTwo) = none := by
   rw [STab.at_made_ne _ (one_two _)]; rfl
 rw [(made_new2 h).1]; rfl
theorem keys0 : sTab0.keys.length = 3 := by
 have h : ((STab.empty.add SFrom.fresh).made (deriveF (mkB 107 1) lOne)).at_ (deriveF (mkB 107 1) lTwo) = none := by
   rw [STab.at_made_ne _ (one_two _)]; rfl
 show (((STab.empty.add SFrom.fresh).made (deriveF (mkB 107 1) lOne)).made (deriveF (mkB 107 1) lTwo)).keys.length = 3
 rw [(made_new2 h).2]; rfl
theorem boxes0 : sTab0.boxes = [] := by
 show (((STab.empty.add SFrom.fresh).made (deriveF (mkB 107 1) lOne)).made (deriveF (mkB 107 1) lTwo)).boxes = []
 rw [(made_boxes rfl).1, (made_boxes rfl).1]; rfl
theorem at0 {f : SFrom} {m : Nat} (h : sTab0.at_ f = some m) : f.of = mkB 107 1 /\ (f.label = lOne ∨ f.label = lTwo) := by
 have h : (((STab.empty.add SFrom.fresh).made (deriveF (mkB 107 1) lOne)).made (deriveF (mkB 107 1) lTwo)).at_ f = some m := h
 by_cases e2 : f = deriveF (mkB 107 1) lTwo
 · subst e2; exact ⟨rfl, .inr rfl⟩
 · rw [STab.at_made_ne _ e2] at h
   by_cases e1 : f = deriveF (mkB 107 1) lOne
   · subst e1; exact ⟨rfl, .inl rfl⟩
   · rw [STab.at_made_ne _ e1] at h; cases h
theorem nxt0 (k : Bytes) : sTab0.at_ (nxtF k) = none := by
 cases h : sTab0.at_ (nxtF k) with
 | none => rfl
 | some m => rcases (at0 h).2 with e | e <;> exact absurd e (by show (⟨#[110, 101, 120, 116]⟩ : ByteArray) ≠ _; decide)
theorem ko0 : sA0.ko = mkB 107 2 := congrArg (mkB 107) num_one
theorem ki0 : sA0.ki = mkB 107 3 := congrArg (mkB 107) num_two
theorem ti0 : TI sAnn sBob 0 tk0 ⟨[], [sA0.ko]⟩ ⟨[], [sA0.ki]⟩ := by
 have hks : ∀ (S : Ses) (k : Bytes) (j : Nat), k = mkB 107 j -> j <= 3 -> S.eo = 0 -> S.ko = k -> KsI sTab0 ⟨[], [k]⟩ S := fun S k j hk hj he ho =>
   ⟨by rw [he]; rfl, by rw [he, ho]; rfl, fun e k1 k2 h1 h2 => by
     have := (List.getElem?_eq_some_iff.1 h2).1
     simp at this, nxt0 _, fun k1 h1 => ⟨j, by rw [List.mem_singleton.1 h1, hk], by rw [keys0]; exact hj⟩, by simp⟩
 have hw : (STab.empty.add SFrom.fresh).WF := STab.WF.empty.add _
 have hw2 : tk0.s.WF := (hw.made (deriveF (mkB 107 1) lOne)).made (deriveF (mkB 107 1) lTwo)
 refine ⟨⟨hw2, fun f m hf => ⟨1, by rw [show tk0.s = sTab0 from rfl, keys0]; omega, (at0 hf).1⟩, ?_, ?_, ?_, ?_⟩, rfl, rfl, rfl, rfl, rfl, rfl, rfl, rfl, rfl, rfl, rfl, rfl, by simp, by simp, by rw [show tk0.s = sTab0 from rfl, keys0]; omega, by rw [show tk0.s = sTab0 from rfl, boxes0]; simp, by simp [tk0], by simp [tk0]⟩
 · exact ⟨rfl, rfl, by simp [tk0, sA0], Nat.le_refl _, Nat.le_refl _, Nat.le_refl _, by simp, rfl, rfl, hks _ _ 2 ko0 (by omega) rfl rfl, rfl, fun f hf => by cases hf⟩
 · exact ⟨rfl, rfl, by simp [tk0, sB0], Nat.le_refl _, Nat.le_refl _, Nat.le_refl _, by simp, rfl, rfl, hks _ _ 3 ki0 (by omega) rfl rfl, rfl, fun f hf => by cases hf⟩
 · intro k h1 h2
   have h1 := List.mem_singleton.1 h1
   have h2 := List.mem_singleton.1 h2
   rw [h1, ko0, ki0] at h2
   exact absurd (mkB_inj (by omega) (by omega) h2) (by decide)
 · intro x hx
   rw [show tk0.s = sTab0 from rfl, boxes0] at hx
   cases hx
theorem cnt0 {Wa Wb : Way} (ha : Wa.P = []) (hb : Wb.P = []) : Cnt 0 tk0 Wa Wb := ⟨by rw [ha]; exact Nat.le_refl _, by rw [hb]; exact Nat.le_refl _⟩
end
section
open Go.RowKit Go.QT
section
variable {F0 F : Nat -> Prop} {w0 w : World} {ro rs : List Res} {tb : Nat} {s s' : STab} {S : Ses} {o : Oper} {a : Act} {P : Program}
theorem x_sNew (h : Hp F0 w0 w ro rs) (i : Nat) (hi : rs[i]? = some (rTab F tb s)) (L : List (Value × Bytes)) (fn : FuncId) (al : List Value) (hp : pureVal P (execOp a.eval o) = some (.enter fn al.toArray)) (hc : Calls P fn al.toArray w (NewPost F tb w s' S)) :
   OpTo P o a w (fun u w' => ∃ sb G F', u = pt sb 0 /\ Hp F0 w0 w' ro ([rTab F' tb s', rS G tb sb L S] ++ rs.eraseIdx i)) :=
 OpTo.enter fn al hp hc fun e w' hq => by
   obtain ⟨sb, G, F', he, h2⟩ := hq
   exact ⟨_, he, sb, G, F', rfl, h.call1 i hi (h2 L)⟩
end
/-- What open leaves. -/
def TOpenPost (w : World) (L : List (Value × Bytes)) (e : Ending) (w' : World) : Prop := ∃ p G, e = .returned (pt p 0) /\ Hp (fun _ => False) w w' [] [rT G p L tk0]
theorem tOpen_any {L : List (Value × Bytes)} (hnil : (Value.slice none 0 0, ([] : Bytes)) ∈ L) (w : World) : Calls Try.prog 8 #[] w (TOpenPost w L) := by
 have h0 := Hp.nil (fun _ => False) w
 refine enter 17 Try.func8 rfl rfl ?_
 refine wp_reset 17 [] (fun x0 => ?_)
 refine wp_seq_k fun K1 hK1 => reg_lit ?_
 refine wq_p 1 [(0, (Value.pointer none))] ?_
 refine wl_end rfl (seq_n hK1 (wp_seq_k fun K2 hK2 => reg_lit ?_))
 refine wq_to (some 3) (x_snew h0 (by kernel_rfl)) ?_
 rintro _ w3 ⟨tb3, F3, rfl, h3⟩
 refine wq_p 1 [(1, (pt tb3 0))] ?_
 refine wl_end rfl (seq_n hK2 (wp_seq_k fun K4 hK4 => reg_lit ?_))
 refine wq_p 1 [(4, (pt tb3 0))] ?_
 refine wq_to (some 5) (x_fresh h3 0 rfl  (by kernel_rfl) (by decide)) ?_
 rintro _ w5 ⟨K5, F5, s5, rfl, hK5, hs5, h5⟩
 obtain rfl : s5 = STab.empty.add SFrom.fresh := hs5
 have hK0 : kl K5 = mkB 107 1 := hK5
 refine wq_to (some 2) (xN h5 59 (vb (List.replicate 16 0))) ?_
 rintro _ w6 ⟨g6, rfl, h6⟩
 refine wq_to none (xSs h6 0 59 (.tmp 2) (.tmp 5) 0 (vb (kl K5)) (vb (kl K5))) ?_
 rintro _ w7 h7
 refine wl_end rfl (seq_n hK4 (wp_seq_k fun K8 hK8 => ?_))
 refine pR_go h7 11 (fun W => (rBlk g6 59 (vb (kl K5))).Φ W /\ True) [(7, [1], 0), (8, [1], 0), (9, [7], 2), (10, [2], 0), (11, [8, 9], 12), (12, [1], 0), (13, [11], 32), (14, [2], 0), (15, [12, 13], 208), (16, [6, 10, 14], 273), (17, [15], 512), (1, [16], 2047)] rfl (fun _ d _ _ _ h => by cases d <;> exact h) ?_
 intro hs9 w9 h9
 refine pR_p 7 [0, 1, 2, 5, 6] [(12, (Value.iface 28 (pt tb3 0))), (11, (pt tb3 0)), (8, (Value.iface 28 (pt tb3 0))), (7, (pt tb3 0)), (6, (pt tb3 0))] 103 hs9 ⟨h9.at_ 0 rfl, trivial⟩ ?_
 refine pR_v 3 (some 9) (Value.agg (vb (kl K5)).toArray) 111 rfl hs9 ⟨h9.at_ 0 rfl, trivial⟩ (fun W hW => eLs hW.1 59 (.tmp 2) 0 (vb (kl K5))) ?_
 refine pR_v 7 (some 13) (Value.agg (vb (kl K5)).toArray) 239 rfl hs9 ⟨h9.at_ 0 rfl, trivial⟩ (fun W hW => eLs hW.1 59 (.tmp 2) 0 (vb (kl K5))) ?_
 refine pR_to 4 (some 10) 255 rfl hs9 (x_sNew (s' := (newKeys (STab.empty.add SFrom.fresh) (kl K5)).2.2) (S := (Ses.mk (⟨#[97, 110, 110]⟩) (⟨#[98, 111, 98]⟩) 7 (newKeys (STab.empty.add SFrom.fresh) (kl K5)).1 0 (newKeys (STab.empty.add SFrom.fresh) (kl K5)).2.1 0 [] 0 0 none false)) h9 1 rfl L 25 [(Value.iface 28 (pt tb3 0)), (Value.string (⟨#[97, 110, 110]⟩)), (Value.string (⟨#[98, 111, 98]⟩)), (Value.int .i64 7), (Value.agg (vb (kl K5)).toArray), (Value.bool true)] (by kernel_rfl) (sNew_true _ tb3 _ K5 (⟨#[97, 110, 110]⟩) (⟨#[98, 111, 98]⟩) 7 _ (h9.at_ 1 rfl) (by decide))) ?_
 rintro _ w10 ⟨sb10, G10, F10, rfl, h10⟩
 refine ⟨fun _ => ⟨h10.at_ 2 rfl, trivial⟩, ?_⟩
 have hnk2 : (newKeys (STab.empty.add SFrom.fresh) (kl K5)).2.2.keys.length < 900000 := by rw [hK0]; exact Nat.lt_of_le_of_lt (Nat.le_of_eq keys0) (by decide)
 refine pR_to 8 (some 14) 511 rfl hs9 (x_sNew (s' := (newKeys (newKeys (STab.empty.add SFrom.fresh) (kl K5)).2.2 (kl K5)).2.2) (S := (Ses.mk (⟨#[98, 111, 98]⟩) (⟨#[97, 110, 110]⟩) 7 (newKeys (newKeys (STab.empty.add SFrom.fresh) (kl K5)).2.2 (kl K5)).2.1 0 (newKeys (newKeys (STab.empty.add SFrom.fresh) (kl K5)).2.2 (kl K5)).1 0 [] 0 0 none false)) h10 0 rfl L 25 [(Value.iface 28 (pt tb3 0)), (Value.string (⟨#[98, 111, 98]⟩)), (Value.string (⟨#[97, 110, 110]⟩)), (Value.int .i64 7), (Value.agg (vb (kl K5)).toArray), (Value.bool false)] (by kernel_rfl) (sNew_false _ tb3 _ K5 (⟨#[98, 111, 98]⟩) (⟨#[97, 110, 110]⟩) 7 _ (h10.at_ 0 rfl) hnk2)) ?_
 rintro _ w11 ⟨sb11, G11, F11, rfl, h11⟩
 refine ⟨fun _ => ⟨h11.at_ 3 rfl, trivial⟩, ?_⟩
 refine pR_p 2 [9] [(15, (Value.agg ([(pt tb3 0), (pt sb10 0), (pt sb11 0), (Value.slice none 0 0), (Value.slice none 0 0), (Value.slice none 0 0), (Value.slice none 0 0), (Value.slice none 0 0), (Value.int .i64 0), (Value.int .i64 0)]).toArray))] 1023 hs9 ⟨h11.at_ 3 rfl, trivial⟩ ?_
 refine pR_to 10 (some 16) 2047 rfl hs9 (xN h11 34 ([(pt tb3 0), (pt sb10 0), (pt sb11 0), (Value.slice none 0 0), (Value.slice none 0 0), (Value.slice none 0 0), (Value.slice none 0 0), (Value.slice none 0 0), (Value.int .i64 0), (Value.int .i64 0)])) ?_
 rintro _ w12 ⟨g12, rfl, h12⟩
 refine ⟨fun _ => ⟨h12.at_ 4 rfl, trivial⟩, ?_⟩
 refine pR_to 11 (some 0) 4095 rfl hs9 (OpTo.run (pt g12 0) (pureOp_run (by kernel_rfl) _) (R := fun v w => v = (pt g12 0) /\ w12 = w) ⟨rfl, rfl⟩) ?_
 rintro _ _ ⟨rfl, rfl⟩
 refine ⟨fun h => absurd h (by decide), ?_⟩
 refine pR_done hs9 ?_ _
 refine seq_n hK8 (wp_ret ?_)
 refine post_1 rfl (by kernel_rfl) (rtm (pt g12 0)) ?_
 have hz1 := (((((h12.ovNil 38 6).ovNil 26 1).ovNil 26 1).ovNil 26 1).ovNil 26 1)
 rw [hK0, newKeys_again] at hz1
 have hz2 := (show Hp _ _ _ [] (lT g12 L (TEnv.mk tb3 sb10 sb11 F11 G10 G11 none 0 [] none 0 [] none 0 [] none 0 [] none 0 []) tk0 ++ []) from hz1.sel [5, 6, 8, 7, 4, 3, 2, 1, 0] [] rfl rfl rfl).closeT ⟨RowOk.nil, RowOk.nil, RowOk.nil, RowOk.nil, RowOk.nil, hnil⟩
 exact ⟨g12, _, rfl, hz2⟩
end
end Go.Proofs.Ytjalodhdjollhaa
