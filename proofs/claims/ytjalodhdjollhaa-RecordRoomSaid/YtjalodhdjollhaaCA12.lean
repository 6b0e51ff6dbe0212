/- An array of sixteen bytes, opened and shut. -/
import Derived.ProofKit
import Derived.Test.YtjalodhdjollhaaCA11
set_option maxRecDepth 100000
set_option maxHeartbeats 4000000
namespace Go.Proofs.Ytjalodhdjollhaa
section
open Go.RowKit Go.QT
/-- A frame's cells, or those of none. -/
def FrmO (L : List (Value × Bytes)) (m : Option Frm) (cs : List Value) : Prop := match m with | none => cs = zFrm | some f => FrmAt L f cs
/-- What Send does to a table and a session, and the frame that it answers. -/
inductive SendR (s : STab) (S : Ses) : STab -> Ses -> Option Frm -> Prop
 | over (h : S.over = true) : SendR s S s S none
 | frame (ho : S.over = false) (f : Frm) (h : S.frame = some f) : SendR s S s S (some f)
 | none (ho : S.over = false) (h : S.frame = none) (hq : S.queue = []) : SendR s S s S none
 | data (ho : S.over = false) (h : S.frame = none) (k : Nat) (b : Bytes) (qs : List (Nat × Bytes)) (hq : S.queue = (k, b) :: qs) (hk : k ≠ 3) : SendR s S (sealT s S k (S.sent + 1) b) { S with frame := some (sealF s S (S.sent + 1)) } (some (sealF s S (S.sent + 1)))
 | rekey (ho : S.over = false) (h : S.frame = none) (b : Bytes) (qs : List (Nat × Bytes)) (hq : S.queue = (3, b) :: qs) : SendR s S (sealRT s S 3 (S.sent + 1) b) (sealRS s S 3 (S.sent + 1) b) (some (sealF s S (S.sent + 1)))
/-- For whom a frame is. -/
structure ForS (S : Ses) (f : Frm) : Prop where
 ho : S.over = false
 h1 : f.src = S.peer
 h2 : f.dst = S.me
 h3 : f.sid = S.sid
/-- What a frame says to a session: nothing, or a record. -/
def Said (s : STab) (S : Ses) (f : Frm) : Option (Nat × Nat × Bytes) -> Prop
 | none => (openT s S).open_ (openK s S) 14 f.box = none ∨ ∃ k n b, k < 1000 /\ n < 900000 /\ b.length <= 2048 /\ (openT s S).open_ (openK s S) 14 f.box = some (wrV (contV k n b)) /\ Value.bool (!((n : Int) == IntKind.u64.wrap f.seq)) = Value.bool true
 | some (k, n, b) => k < 1000 /\ n < 900000 /\ b.length <= 2048 /\ (openT s S).open_ (openK s S) 14 f.box = some (wrV (contV k n b)) /\ f.seq = (n : Int)
def markedR (S : Ses) (n : Nat) : Ses := if S.frame.isSome /\ n = S.sent + 1 then markR S else S
/-- What Take does, and answers: bytes, a mark, an error's number. -/
inductive TakeR (s : STab) (S : Ses) (f : Frm) (r : Option (Nat × Nat × Bytes)) : STab -> Ses -> Option Bytes -> Option Frm -> Int -> Prop
 | over (h : S.over = true) : TakeR s S f r s S none none 21
 | wrong (ho : S.over = false) (h : f.src ≠ S.peer ∨ f.dst ≠ S.me ∨ f.sid ≠ S.sid) : TakeR s S f r s S none none 17
 | old (h : ForS S f) (hlt : f.epoch < (S.ei : Int)) (hle : f.seq <= (S.got : Int)) : TakeR s S f r (sealT s S 2 S.got []) S none (some (sealF s S S.got)) 18
 | epoch (h : ForS S f) (hne : f.epoch ≠ (S.ei : Int)) (hn : ¬ (f.epoch < (S.ei : Int) /\ f.seq <= (S.got : Int))) : TakeR s S f r s S none none 18
 | shut (h : ForS S f) (he : f.epoch = (S.ei : Int)) (hr : r = none) : TakeR s S f r (openT s S) S none none 13
 | mark (h : ForS S f) (he : f.epoch = (S.ei : Int)) (n : Nat) (b : Bytes) (hr : r = some (2, n, b)) : TakeR s S f r (openT s S) (markedR S n) none none 0
 | again (h : ForS S f) (he : f.epoch = (S.ei : Int)) (k n : Nat) (b : Bytes) (hr : r = some (k, n, b)) (hk : k ≠ 2) (hle : n <= S.got) : TakeR s S f r (sealT (openT s S) S 2 S.got []) S none (some (sealF (openT s S) S S.got)) 18
 | ahead (h : ForS S f) (he : f.epoch = (S.ei : Int)) (k n : Nat) (b : Bytes) (hr : r = some (k, n, b)) (hk : k ≠ 2) (hlt : S.got + 1 < n) : TakeR s S f r (openT s S) S none none 18
 | data (h : ForS S f) (he : f.epoch = (S.ei : Int)) (k : Nat) (b : Bytes) (hr : r = some (k, S.got + 1, b)) (hk : k ≠ 2) (hk3 : k ≠ 3) :
     TakeR s S f r (sealT (openT s S) { S with got := S.got + 1 } 2 (S.got + 1) []) { S with got := S.got + 1 } (some b) (some (sealF (openT s S) { S with got := S.got + 1 } (S.got + 1))) 0
 | rekey (h : ForS S f) (he : f.epoch = (S.ei : Int)) (b : Bytes) (hr : r = some (3, S.got + 1, b)) :
     TakeR s S f r (inT (sealT (openT s S) { S with got := S.got + 1 } 2 (S.got + 1) []) { S with got := S.got + 1 }) (inS (sealT (openT s S) { S with got := S.got + 1 } 2 (S.got + 1) []) { S with got := S.got + 1 }) none (some (sealF (openT s S) { S with got := S.got + 1 } (S.got + 1))) 0
theorem ba_ne {a b : ByteArray} (h : a ≠ b) : a.toList ≠ b.toList := fun e => h (by
 rw [ByteArray.toList_eq, ByteArray.toList_eq] at e
 cases a; cases b; simp only [ByteArray.mk.injEq]; exact Array.ext' e)
section
variable {F G : Nat -> Prop} {tb sb : Nat} {s : STab} {L : List (Value × Bytes)} {S : Ses} {w : World}
end
end
section
abbrev nxtF (k : Bytes) : SFrom := deriveF k ⟨#[110, 101, 120, 116]⟩
abbrev useF (k : Bytes) : SFrom := deriveF k ⟨#[117, 115, 101]⟩
theorem use_nxt (k l : Bytes) : useF k ≠ nxtF l := fun h => absurd (derive_inj.1 h).2 (by decide)
theorem STab.at_made_ne (s : STab) {f g : SFrom} (h : f ≠ g) : (s.made g).at_ f = s.at_ f := by
 unfold STab.made
 cases hg : s.at_ g with
 | some m => rfl
 | none =>
   unfold STab.at_
   simp only [List.find?_append]
   have : List.find? (fun p : SFrom × Nat => decide (p.1 = f)) [(g, s.keys.length + 1)] = none := by
     simp [Ne.symm h]
   rw [this]
   cases s.known.find? (fun p => decide (p.1 = f)) <;> rfl
/-- How often the key goes on. -/
def rks (l : List (Nat × Bytes)) : Nat := l.countP (fun p => decide (p.1 = 3))
/-- What was said. -/
def datas (l : List (Nat × Bytes)) : List Bytes := (l.filter (fun p => decide (p.1 = 1))).map (·.2)
theorem rks_snoc (l : List (Nat × Bytes)) (p : Nat × Bytes) : rks (l ++ [p]) = rks l + if p.1 = 3 then 1 else 0 := by
 unfold rks; rw [List.countP_append]; simp [List.countP_cons]
theorem datas_snoc (l : List (Nat × Bytes)) (p : Nat × Bytes) : datas (l ++ [p]) = datas l ++ if p.1 = 1 then [p.2] else [] := by
 unfold datas; rw [List.filter_append, List.map_append]; congr 1
 by_cases h : p.1 = 1 <;> simp [h]
theorem take_snoc {l : List (Nat × Bytes)} {n : Nat} {p : Nat × Bytes} (h : l[n]? = some p) : l.take (n + 1) = l.take n ++ [p] := by
 rw [List.take_add_one, h]; rfl
theorem rks_take_le (l : List (Nat × Bytes)) {m n : Nat} (h : m <= n) : rks (l.take m) <= rks (l.take n) := by
 have : l.take m = (l.take n).take m := by rw [List.take_take, Nat.min_eq_left h]
 rw [this]
 exact (List.take_sublist _ _).countP_le
theorem rks_take_all (l : List (Nat × Bytes)) (m : Nat) : rks (l.take m) <= rks l := (List.take_sublist _ _).countP_le
theorem rks_len (l : List (Nat × Bytes)) : rks l <= l.length := List.countP_le_length
def Ses.fn (S : Ses) : Nat := if S.frame.isSome then 1 else 0
/-- A way of a session: all parts that were let wait, and its keys. -/
structure Way where
 P : List (Nat × Bytes)
 ks : List Bytes
structure KsI (s : STab) (W : Way) (S : Ses) : Prop where
 len : W.ks.length = S.eo + 1
 ko : W.ks[S.eo]? = some S.ko
 nx : ∀ (e : Nat) (k k' : Bytes), W.ks[e]? = some k -> W.ks[e + 1]? = some k' -> ∃ m, s.at_ (nxtF k) = some m /\ k' = mkB 107 m
 last : s.at_ (nxtF S.ko) = none
 mkk : ∀ k ∈ W.ks, ∃ m, k = mkB 107 m /\ m <= s.keys.length
 nd : W.ks.Nodup
/-- The frame that is out. -/
structure FrI (s : STab) (W : Way) (S : Ses) (f : Frm) : Prop where
 src : f.src = S.me
 dst : f.dst = S.peer
 sid : f.sid = S.sid
 seq : f.seq = ((S.sent + 1 : Nat) : Int)
 ex : ∃ (e : Nat) (K : Bytes) (m k : Nat) (b : Bytes) (j : Nat), f.epoch = (e : Int) /\ f.box = mkB 98 (j + 1) /\ s.boxes[j]? = some ⟨mkB 107 m, 14, wrV (contV k (S.sent + 1) b)⟩ /\ W.ks[e]? = some K /\ s.at_ (useF K) = some m /\ W.P[S.sent]? = some (k, b) /\ e = rks (W.P.take S.sent)
/-- One way: S sends, R receives. -/
structure WayI (s : STab) (W : Way) (S R : Ses) : Prop where
 ov : S.over = false
 q : S.queue = W.P.drop S.sent
 q8 : S.queue.length <= 8
 sl : S.sent + S.fn <= W.P.length
 g1 : S.sent <= R.got
 g2 : R.got <= S.sent + S.fn
 kd : ∀ p ∈ W.P, (p.1 = 1 ∨ p.1 = 3) /\ p.2.length <= 2048
 eo : S.eo = rks (W.P.take (S.sent + S.fn))
 ei : R.ei = rks (W.P.take R.got)
 ks : KsI s W S
 ki : W.ks[R.ei]? = some R.ki
 fr : ∀ f, S.frame = some f -> FrI s W S f
/-- A box that S sealed on its way. -/
structure BoxI (s : STab) (W : Way) (S : Ses) (x : SSealed) (e k n : Nat) (b : Bytes) : Prop where
 ex : ∃ K m, W.ks[e]? = some K /\ s.at_ (useF K) = some m /\ x = ⟨mkB 107 m, 14, wrV (contV k n b)⟩
 bk : k < 1000
 bn : n < 900000
 bb : b.length <= 2048
 mrk : k = 2 -> n <= S.got
 pt : k ≠ 2 -> 1 <= n /\ n <= S.sent + S.fn /\ W.P[n - 1]? = some (k, b) /\ e = rks (W.P.take (n - 1))
structure RecI (s : STab) (a b : Ses) (Wa Wb : Way) : Prop where
 wf : s.WF
 of : ∀ f m, s.at_ f = some m -> ∃ j, j <= s.keys.length /\ f.of = mkB 107 j
 ab : WayI s Wa a b
 ba : WayI s Wb b a
 dis : ∀ k ∈ Wa.ks, k ∉ Wb.ks
 box : ∀ x ∈ s.boxes, (∃ e k n c, BoxI s Wa a x e k n c) ∨ (∃ e k n c, BoxI s Wb b x e k n c)
theorem RecI.symm {s : STab} {a b : Ses} {Wa Wb : Way} (h : RecI s a b Wa Wb) : RecI s b a Wb Wa :=
 ⟨h.wf, h.of, h.ba, h.ab, fun k hb ha => h.dis k ha hb, fun x hx => (h.box x hx).symm⟩
/-- A table that has grown, by nothing that a chain would go on by. -/
structure Grow (s s' : STab) : Prop where
 le : s.keys.length <= s'.keys.length
 at_ : ∀ f m, s.at_ f = some m -> s'.at_ f = some m
 nx : ∀ k, s.at_ (nxtF k) = none -> s'.at_ (nxtF k) = none
 bx : ∀ (j : Nat) (x : SSealed), s.boxes[j]? = some x -> s'.boxes[j]? = some x
section
variable {s s' s'' : STab} {a b a' b' S R S' R' : Ses} {W Wa Wb : Way} {f : Frm} {x : SSealed} {e k n m : Nat} {c : Bytes} {r : Option (Nat × Nat × Bytes)}
theorem Grow.refl (s : STab) : Grow s s := ⟨Nat.le_refl _, fun _ _ h => h, fun _ h => h, fun _ _ h => h⟩
theorem Grow.trans (h : Grow s s') (h' : Grow s' s'') : Grow s s'' := ⟨Nat.le_trans h.le h'.le, fun f m hf => h'.at_ f m (h.at_ f m hf), fun k hk => h'.nx k (h.nx k hk), fun j x hj => h'.bx j x (h.bx j x hj)⟩
theorem Grow.use (s : STab) (k : Bytes) : Grow s (s.made (useF k)) :=
 ⟨STab.made_mono s _, fun f m hf => STab.at_made_of s f _ m hf, fun l hl => by rw [STab.at_made_ne s (Ne.symm (use_nxt k l))]; exact hl, fun j x hj => by rw [(made_boxes (s' := s.made (useF k)) rfl).1]; exact hj⟩
theorem Grow.seal (s : STab) (k : Bytes) (u : Int) (c : Bytes) : Grow s (s.seal k u c) :=
 ⟨Nat.le_refl _, fun _ _ h => h, fun _ h => h, fun j x hj => by show (s.boxes ++ _)[j]? = _; rw [List.getElem?_append_left (List.getElem?_eq_some_iff.1 hj).1]; exact hj⟩
theorem openT_grow (s : STab) (S : Ses) : Grow s (openT s S) := Grow.use s _
theorem sealT_grow (s : STab) (S : Ses) (k n : Nat) (c : Bytes) : Grow s (sealT s S k n c) := (Grow.use s _).trans (Grow.seal _ _ _ _)
theorem KsI.grow (h : KsI s W S) (g : Grow s s') : KsI s' W S :=
 ⟨h.len, h.ko, fun e k k' h1 h2 => by obtain ⟨m, hm, e⟩ := h.nx e k k' h1 h2; exact ⟨m, g.at_ _ _ hm, e⟩, g.nx _ h.last, fun k hk => by obtain ⟨m, e, hm⟩ := h.mkk k hk; exact ⟨m, e, Nat.le_trans hm g.le⟩, h.nd⟩
theorem FrI.grow (h : FrI s W S f) (g : Grow s s') : FrI s' W S f :=
 ⟨h.src, h.dst, h.sid, h.seq, by obtain ⟨e, K, m, k, b, j, h1, h2, h3, h4, h5, h6⟩ := h.ex; exact ⟨e, K, m, k, b, j, h1, h2, g.bx _ _ h3, h4, g.at_ _ _ h5, h6⟩⟩
theorem WayI.grow (h : WayI s W S R) (g : Grow s s') : WayI s' W S R :=
 ⟨h.ov, h.q, h.q8, h.sl, h.g1, h.g2, h.kd, h.eo, h.ei, h.ks.grow g, h.ki, fun f hf => (h.fr f hf).grow g⟩
theorem BoxI.grow (h : BoxI s W S x e k n c) (g : Grow s s') : BoxI s' W S x e k n c :=
 ⟨by obtain ⟨K, m, h1, h2, h3⟩ := h.ex; exact ⟨K, m, h1, g.at_ _ _ h2, h3⟩, h.bk, h.bn, h.bb, h.mrk, h.pt⟩
theorem of_made (h : ∀ f m, s.at_ f = some m -> ∃ j, j <= s.keys.length /\ f.of = mkB 107 j) {g : SFrom} (hg : ∃ j, j <= s.keys.length /\ g.of = mkB 107 j) : ∀ f m, (s.made g).at_ f = some m -> ∃ j, j <= (s.made g).keys.length /\ f.of = mkB 107 j := fun f m hf => by
 have hl := STab.made_mono s g
 by_cases e : f = g
 · subst e; obtain ⟨j, h1, h2⟩ := hg; exact ⟨j, by omega, h2⟩
 · rw [STab.at_made_ne s e] at hf
   obtain ⟨j, h1, h2⟩ := h f m hf
   exact ⟨j, by omega, h2⟩
theorem WayI.koMem (h : WayI s W S R) : S.ko ∈ W.ks := List.mem_of_getElem? h.ks.ko
theorem WayI.kiMem (h : WayI s W S R) : R.ki ∈ W.ks := List.mem_of_getElem? h.ki
theorem RecI.mkK (h : RecI s a b Wa Wb) {K : Bytes} (hK : K ∈ Wa.ks ∨ K ∈ Wb.ks) : ∃ j, j <= s.keys.length /\ K = mkB 107 j := by
 rcases hK with hK | hK
 · obtain ⟨m, e, hm⟩ := h.ab.ks.mkk K hK; exact ⟨m, hm, e⟩
 · obtain ⟨m, e, hm⟩ := h.ba.ks.mkk K hK; exact ⟨m, hm, e⟩
theorem RecI.useT (h : RecI s a b Wa Wb) {K : Bytes} (hK : K ∈ Wa.ks ∨ K ∈ Wb.ks) : RecI (s.made (useF K)) a b Wa Wb :=
 ⟨h.wf.made _, of_made h.of (h.mkK hK), h.ab.grow (Grow.use s K), h.ba.grow (Grow.use s K), h.dis, fun x hx => by
   rw [(made_boxes (s' := s.made (useF K)) rfl).1] at hx
   rcases h.box x hx with ⟨e, k, n, c, hb⟩ | ⟨e, k, n, c, hb⟩
   · exact .inl ⟨e, k, n, c, hb.grow (Grow.use s K)⟩
   · exact .inr ⟨e, k, n, c, hb.grow (Grow.use s K)⟩⟩
theorem RecI.openA (h : RecI s a b Wa Wb) : RecI (openT s a) a b Wa Wb := h.useT (.inr h.ba.kiMem)
/-- A box that a seals. -/
theorem RecI.sealA (h : RecI s a b Wa Wb) (hb : ∀ x, x = SSealed.mk (mkB 107 (s.num (useF a.ko))) 14 (wrV (contV k n c)) -> BoxI (sealT s a k n c) Wa a x a.eo k n c) : RecI (sealT s a k n c) a b Wa Wb := by
 have h1 := h.useT (K := a.ko) (.inl h.ab.koMem)
 have g := Grow.seal (s.made (useF a.ko)) (mkB 107 (s.num (useF a.ko))) 14 (wrV (contV k n c))
 refine ⟨⟨h1.wf.le, h1.wf.inj⟩, h1.of, h1.ab.grow g, h1.ba.grow g, h.dis, fun x hx => ?_⟩
 have hx : x ∈ (s.made (useF a.ko)).boxes ++ [SSealed.mk (mkB 107 (s.num (useF a.ko))) 14 (wrV (contV k n c))] := hx
 rcases List.mem_append.1 hx with hx | hx
 · rcases h1.box x hx with ⟨e, k, n, c, hb⟩ | ⟨e, k, n, c, hb⟩
   · exact .inl ⟨e, k, n, c, hb.grow g⟩
   · exact .inr ⟨e, k, n, c, hb.grow g⟩
 · exact .inl ⟨_, _, _, _, hb x (List.mem_singleton.1 hx)⟩
theorem sealT_at (s : STab) (S : Ses) (k n : Nat) (c : Bytes) : (sealT s S k n c).at_ (useF S.ko) = some (s.num (useF S.ko)) := STab.at_made s _
theorem sealT_boxes (s : STab) (S : Ses) (k n : Nat) (c : Bytes) : (sealT s S k n c).boxes = s.boxes ++ [⟨mkB 107 (s.num (useF S.ko)), 14, wrV (contV k n c)⟩] := by
 show (s.made (useF S.ko)).boxes ++ _ = _
 rw [(made_boxes (s' := s.made (useF S.ko)) rfl).1]
end
end
section
structure Grow0 (s s' : STab) : Prop where
 le : s.keys.length <= s'.keys.length
 at_ : ∀ f m, s.at_ f = some m -> s'.at_ f = some m
 bx : ∀ (j : Nat) (x : SSealed), s.boxes[j]? = some x -> s'.boxes[j]? = some x
theorem Grow.z {s s' : STab} (g : Grow s s') : Grow0 s s' := ⟨g.le, g.at_, g.bx⟩
theorem Grow0.trans {s s' s'' : STab} (h : Grow0 s s') (h' : Grow0 s' s'') : Grow0 s s'' := ⟨Nat.le_trans h.le h'.le, fun f m hf => h'.at_ f m (h.at_ f m hf), fun j x hj => h'.bx j x (h.bx j x hj)⟩
theorem Grow0.made (s : STab) (f : SFrom) : Grow0 s (s.made f) :=
 ⟨STab.made_mono s _, fun g m hf => STab.at_made_of s g f m hf, fun j x hj => by rw [(made_boxes (s' := s.made f) rfl).1]; exact hj⟩
theorem made_new2 {s : STab} {f : SFrom} (h : s.at_ f = none) : s.num f = s.keys.length + 1 /\ (s.made f).keys.length = s.keys.length + 1 := by
 unfold STab.num STab.made
 rw [h]
 exact ⟨rfl, by simp⟩
section
variable {s s' s'' : STab} {m' : Option Frm} {a b a' b' S R S' R' : Ses} {W Wa Wb W' : Way} {f : Frm} {x : SSealed} {e k n m : Nat} {c : Bytes} {r : Option (Nat × Nat × Bytes)}
theorem FrI.grow0 (h : FrI s W S f) (g : Grow0 s s') (hp : W'.P = W.P) (hk : ∀ (i : Nat) (K : Bytes), W.ks[i]? = some K -> W'.ks[i]? = some K) : FrI s' W' S f :=
 ⟨h.src, h.dst, h.sid, h.seq, by obtain ⟨e, K, m, k, b, j, h1, h2, h3, h4, h5, h6, h7⟩ := h.ex; exact ⟨e, K, m, k, b, j, h1, h2, g.bx _ _ h3, hk _ _ h4, g.at_ _ _ h5, by rw [hp]; exact h6, by rw [hp]; exact h7⟩⟩
theorem KsI.grow0 (h : KsI s W S) (g : Grow0 s s') (hl : s'.at_ (nxtF S.ko) = none) : KsI s' W S :=
 ⟨h.len, h.ko, fun e k k' h1 h2 => by obtain ⟨m, hm, e⟩ := h.nx e k k' h1 h2; exact ⟨m, g.at_ _ _ hm, e⟩, hl, fun k hk => by obtain ⟨m, e, hm⟩ := h.mkk k hk; exact ⟨m, e, Nat.le_trans hm g.le⟩, h.nd⟩
theorem WayI.grow0 (h : WayI s W S R) (g : Grow0 s s') (hl : s'.at_ (nxtF S.ko) = none) : WayI s' W S R :=
 ⟨h.ov, h.q, h.q8, h.sl, h.g1, h.g2, h.kd, h.eo, h.ei, h.ks.grow0 g hl, h.ki, fun f hf => (h.fr f hf).grow0 g rfl (fun _ _ h => h)⟩
theorem BoxI.up (h : BoxI s W S x e k n c) (g : Grow0 s s') (hg : S.got <= S'.got) (hs : S.sent + S.fn <= S'.sent + S'.fn) (hp : ∀ (i : Nat) (p : Nat × Bytes), W.P[i]? = some p -> W'.P[i]? = some p) (ht : ∀ i, i <= W.P.length -> W'.P.take i = W.P.take i) (hk : ∀ (i : Nat) (K : Bytes), W.ks[i]? = some K -> W'.ks[i]? = some K) : BoxI s' W' S' x e k n c :=
 ⟨by obtain ⟨K, m, h1, h2, h3⟩ := h.ex; exact ⟨K, m, hk _ _ h1, g.at_ _ _ h2, h3⟩, h.bk, h.bn, h.bb, fun e => Nat.le_trans (h.mrk e) hg, fun e => by
   obtain ⟨h1, h2, h3, h4⟩ := h.pt e
   exact ⟨h1, Nat.le_trans h2 hs, hp _ _ h3, by rw [ht _ (Nat.le_of_lt (List.getElem?_eq_some_iff.1 h3).1)]; exact h4⟩⟩
theorem BoxI.same (h : BoxI s W S x e k n c) (g : Grow0 s s') (hg : S.got <= S'.got) (hs : S.sent + S.fn <= S'.sent + S'.fn) : BoxI s' W S' x e k n c := h.up g hg hs (fun _ _ h => h) (fun _ _ => rfl) (fun _ _ h => h)
theorem fn_none (h : S.frame = none) : S.fn = 0 := by simp [Ses.fn, h]
theorem fn_some (h : S.frame = some f) : S.fn = 1 := by simp [Ses.fn, h]
theorem WayI.front (h : WayI s W S R) {p : Nat × Bytes} {qs : List (Nat × Bytes)} (hq : S.queue = p :: qs) : W.P[S.sent]? = some p /\ S.sent < W.P.length := by
 have h1 : (W.P.drop S.sent)[0]? = some p := by rw [← h.q, hq]; rfl
 rw [List.getElem?_drop] at h1
 exact ⟨h1, (List.getElem?_eq_some_iff.1 h1).1⟩
theorem WayI.fresh (h : WayI s W S R) (hf : S.frame = some f) : S.queue ≠ [] := by
 intro hq
 have h1 := h.sl
 rw [fn_some hf] at h1
 rw [h.q, List.drop_eq_nil_iff] at hq
 omega
/-- What Send leaves. -/
structure SentI (s s' : STab) (a a' b : Ses) (Wa Wb Wa' : Way) (m : Option Frm) : Prop where
 inv : RecI s' a' b Wa' Wb
 p : Wa'.P = Wa.P
 me : a'.me = a.me
 peer : a'.peer = a.peer
 sid : a'.sid = a.sid
 got : a'.got = a.got
 sent : a'.sent = a.sent
 q : a'.queue = a.queue
 ei : a'.ei = a.ei
 fn : a'.fn <= a.fn + 1
 is : m.isSome = decide (a.queue ≠ [])
 fr : ∀ f, m = some f -> a'.frame = some f
 ks : s'.keys.length <= s.keys.length + 2
 bs : s'.boxes.length <= s.boxes.length + 1
theorem RecI.send (h : RecI s a b Wa Wb) (hr : SendR s a s' a' m') (hk : s.keys.length < 100000) (hse : a.sent < 800000) : ∃ Wa', SentI s s' a a' b Wa Wb Wa' m' := by
 have hw := h.ab
 cases hr with
 | over ho => exact absurd ho (by rw [hw.ov]; decide)
 | frame ho f hf => exact ⟨Wa, h, rfl, rfl, rfl, rfl, rfl, rfl, rfl, rfl, by omega, by simpa using hw.fresh hf, fun g hg => by rw [← hg]; exact hf, by omega, by omega⟩
 | none ho hf hq => exact ⟨Wa, h, rfl, rfl, rfl, rfl, rfl, rfl, rfl, rfl, by omega, by simp [hq], fun g hg => (by cases hg), by omega, by omega⟩
 | data ho hf k c qs hq hk3 =>
   obtain ⟨hp, hlt⟩ := hw.front hq
   have g := sealT_grow s a k (a.sent + 1) c
   have hfn := fn_none hf
   have hkd : (k = 1 ∨ k = 3) /\ c.length <= 2048 := hw.kd _ (List.mem_of_getElem? hp)
   have hT := take_snoc hp
   have heo := hw.eo
   rw [hfn, Nat.add_zero] at heo
   have hbx := sealT_boxes s a k (a.sent + 1) c
   have hex : (sealT s a k (a.sent + 1) c).boxes[s.boxes.length]? = some ⟨mkB 107 (s.num (useF a.ko)), 14, wrV (contV k (a.sent + 1) c)⟩ := by rw [hbx]; simp
   refine ⟨Wa, ⟨?_, rfl, rfl, rfl, rfl, rfl, rfl, rfl, rfl, ?_, by simp [hq], fun g hg => hg, ?_, by rw [hbx]; simp⟩⟩
   · have h1 := hw.grow g
     have h2 := h.ba.grow g
     refine ⟨⟨(h.wf.made _).le, (h.wf.made _).inj⟩, of_made h.of (h.mkK (.inl hw.koMem)), ⟨h1.ov, h1.q, h1.q8, hlt, h1.g1, Nat.le_trans h1.g2 (by rw [hfn]; exact Nat.le_add_right a.sent _), h1.kd, ?_, h1.ei, ⟨h1.ks.len, h1.ks.ko, h1.ks.nx, h1.ks.last, h1.ks.mkk, h1.ks.nd⟩, h1.ki, fun f hf => ?_⟩, ⟨h2.ov, h2.q, h2.q8, h2.sl, h2.g1, h2.g2, h2.kd, h2.eo, h2.ei, h2.ks, h2.ki, h2.fr⟩, h.dis, fun x hx => ?_⟩
     · show a.eo = rks (Wa.P.take (a.sent + 1))
       rw [hT, rks_snoc, if_neg hk3, heo]; rfl
     · obtain rfl : sealF s a (a.sent + 1) = f := Option.some.inj hf
       exact ⟨rfl, rfl, rfl, rfl, a.eo, a.ko, s.num (useF a.ko), k, c, s.boxes.length, rfl, rfl, hex, hw.ks.ko, sealT_at s a k (a.sent + 1) c, hp, heo⟩
     · rw [hbx, List.mem_append] at hx
       rcases hx with hx | hx
       · rcases h.box x hx with ⟨e, k, n, c, hb⟩ | ⟨e, k, n, c, hb⟩
         · exact .inl ⟨e, k, n, c, hb.same g.z (Nat.le_refl _) (by rw [hfn]; exact Nat.le_succ _)⟩
         · exact .inr ⟨e, k, n, c, hb.grow g⟩
       · refine .inl ⟨a.eo, k, a.sent + 1, c, ⟨a.ko, s.num (useF a.ko), hw.ks.ko, sealT_at s a k (a.sent + 1) c, List.mem_singleton.1 hx⟩, by omega, by omega, hkd.2, fun e => by omega, fun _ => ⟨by omega, Nat.le_refl _, hp, heo⟩⟩
   · show Ses.fn _ <= _
     rw [fn_some rfl]; omega
   · have := sealT_keys s a k (a.sent + 1) c; omega
 | rekey ho hf c qs hq =>
   obtain ⟨hp, hlt⟩ := hw.front hq
   have g1 := sealT_grow s a 3 (a.sent + 1) c
   have hfn := fn_none hf
   have hkd : (3 = 1 ∨ 3 = 3) /\ c.length <= 2048 := hw.kd _ (List.mem_of_getElem? hp)
   have hT := take_snoc hp
   have heo := hw.eo
   rw [hfn, Nat.add_zero] at heo
   have hbx := sealT_boxes s a 3 (a.sent + 1) c
   have hex : (sealT s a 3 (a.sent + 1) c).boxes[s.boxes.length]? = some ⟨mkB 107 (s.num (useF a.ko)), 14, wrV (contV 3 (a.sent + 1) c)⟩ := by rw [hbx]; simp
   have hno : (sealT s a 3 (a.sent + 1) c).at_ (nxtF a.ko) = none := g1.nx _ hw.ks.last
   obtain ⟨hnum, hlen⟩ := made_new2 hno
   have g2 := Grow0.made (sealT s a 3 (a.sent + 1) c) (nxtF a.ko)
   have g := g1.z.trans g2
   have hkl := sealT_keys s a 3 (a.sent + 1) c
   have hof1 := of_made (g := useF a.ko) h.of (h.mkK (.inl hw.koMem))
   have hof : ∀ f m, (sealT s a 3 (a.sent + 1) c).at_ f = some m -> ∃ j, j <= (sealT s a 3 (a.sent + 1) c).keys.length /\ f.of = mkB 107 j := hof1
   have hmk := h.mkK (.inl hw.koMem)
   obtain ⟨jk, hjk, ek⟩ := hmk
   have hbx2 : (sealRT s a 3 (a.sent + 1) c).boxes = s.boxes ++ [⟨mkB 107 (s.num (useF a.ko)), 14, wrV (contV 3 (a.sent + 1) c)⟩] := by
     show ((sealT s a 3 (a.sent + 1) c).made (nxtF a.ko)).boxes = _
     rw [(made_boxes (s' := (sealT s a 3 (a.sent + 1) c).made (nxtF a.ko)) rfl).1, hbx]
   -- the new key
   have hnew : ∀ K, K ∈ Wa.ks ∨ K ∈ Wb.ks -> K ≠ mkB 107 ((sealT s a 3 (a.sent + 1) c).num (nxtF a.ko)) := fun K hK e => by
     obtain ⟨j, hj, e2⟩ := h.mkK hK
     rw [e2, hnum] at e
     have := mkB_inj (by omega) (by omega) e
     have := g1.le
     omega
   have hko : ∀ (i : Nat) (K : Bytes), Wa.ks[i]? = some K -> (Wa.ks ++ [mkB 107 ((sealT s a 3 (a.sent + 1) c).num (nxtF a.ko))])[i]? = some K := fun i K hi => by
     rw [List.getElem?_append_left (List.getElem?_eq_some_iff.1 hi).1]; exact hi
   have hnl : Wa.ks.length = a.eo + 1 := hw.ks.len
   have hlast : (Wa.ks ++ [mkB 107 ((sealT s a 3 (a.sent + 1) c).num (nxtF a.ko))])[a.eo + 1]? = some (mkB 107 ((sealT s a 3 (a.sent + 1) c).num (nxtF a.ko))) := by
     rw [← hnl]; simp
   refine ⟨⟨Wa.P, Wa.ks ++ [mkB 107 ((sealT s a 3 (a.sent + 1) c).num (nxtF a.ko))]⟩, ⟨?_, rfl, rfl, rfl, rfl, rfl, rfl, rfl, rfl, ?_, by simp [hq], fun g hg => hg, ?_, by rw [hbx2]; simp⟩⟩
   · have hbl : ((sealT s a 3 (a.sent + 1) c).made (nxtF a.ko)).at_ (nxtF b.ko) = none := by
       rw [STab.at_made_ne]
       · exact g1.nx _ h.ba.ks.last
       · exact fun e => h.dis _ hw.koMem (by rw [← (derive_inj.1 e).1]; exact h.ba.koMem)
     have h2 := h.ba.grow0 g hbl
     have hwf := h.wf.made (useF a.ko)
     have hwf1 : (sealT s a 3 (a.sent + 1) c).WF := ⟨hwf.le, hwf.inj⟩
     refine ⟨hwf1.made _, of_made hof ⟨jk, Nat.le_trans hjk g1.le, ek⟩, ⟨hw.ov, hw.q, hw.q8, hlt, hw.g1, Nat.le_trans hw.g2 (by rw [hfn]; exact Nat.le_add_right a.sent _), hw.kd, ?_, hw.ei, ⟨?_, hlast, ?_, ?_, ?_, ?_⟩, hko _ _ hw.ki, fun f hf => ?_⟩, ⟨h2.ov, h2.q, h2.q8, h2.sl, h2.g1, h2.g2, h2.kd, h2.eo, h2.ei, h2.ks, h2.ki, h2.fr⟩, ?_, fun x hx => ?_⟩
     · show a.eo + 1 = rks (Wa.P.take (a.sent + 1))
       rw [hT, rks_snoc, if_pos rfl, heo]
     · show (Wa.ks ++ _).length = a.eo + 1 + 1
       rw [List.length_append, hnl]; rfl
     · intro e k k' h1 h2
       by_cases he : e + 1 < Wa.ks.length
       · rw [List.getElem?_append_left (by omega)] at h1
         rw [List.getElem?_append_left he] at h2
         obtain ⟨m, hm, e⟩ := hw.ks.nx e k k' h1 h2
         exact ⟨m, g.at_ _ _ hm, e⟩
       · have he2 : e + 1 = Wa.ks.length := by
           have := (List.getElem?_eq_some_iff.1 h2).1
           simp at this; omega
         obtain rfl : e = a.eo := by omega
         rw [List.getElem?_append_left (by omega), hw.ks.ko] at h1
         obtain rfl := Option.some.inj h1
         have h2' := hlast.symm.trans h2
         obtain rfl := Option.some.inj h2'
         exact ⟨_, STab.at_made _ _, rfl⟩
     · show (sealRT s a 3 (a.sent + 1) c).at_ (nxtF (mkB 107 _)) = none
       cases hc : (sealRT s a 3 (a.sent + 1) c).at_ (nxtF (mkB 107 ((sealT s a 3 (a.sent + 1) c).num (nxtF a.ko)))) with
       | none => rfl
       | some m =>
         have hne : nxtF (mkB 107 ((sealT s a 3 (a.sent + 1) c).num (nxtF a.ko))) ≠ nxtF a.ko := fun e => hnew _ (.inl hw.koMem) (derive_inj.1 e).1.symm
         have hc : ((sealT s a 3 (a.sent + 1) c).made (nxtF a.ko)).at_ _ = some m := hc
         rw [STab.at_made_ne _ hne] at hc
         obtain ⟨j, hj, e⟩ := hof _ _ hc
         have e : mkB 107 ((sealT s a 3 (a.sent + 1) c).num (nxtF a.ko)) = mkB 107 j := e
         rw [hnum] at e
         have := mkB_inj (by omega) (by omega) e
         omega
     · intro K hK
       rcases List.mem_append.1 hK with hK | hK
       · obtain ⟨m, e, hm⟩ := hw.ks.mkk K hK
         exact ⟨m, e, Nat.le_trans hm g.le⟩
       · refine ⟨_, List.mem_singleton.1 hK, ?_⟩
         show _ <= ((sealT s a 3 (a.sent + 1) c).made (nxtF a.ko)).keys.length
         rw [hnum, hlen]; omega
     · refine List.nodup_append.2 ⟨hw.ks.nd, by simp, fun x hx y hy => ?_⟩
       rw [List.mem_singleton.1 hy]
       exact hnew x (.inl hx)
     · obtain rfl : sealF s a (a.sent + 1) = f := Option.some.inj hf
       exact ⟨rfl, rfl, rfl, rfl, a.eo, a.ko, s.num (useF a.ko), 3, c, s.boxes.length, rfl, rfl, g2.bx _ _ hex, hko _ _ hw.ks.ko, g2.at_ _ _ (sealT_at s a 3 (a.sent + 1) c), hp, heo⟩
     · intro K hK hb
       rcases List.mem_append.1 hK with hK | hK
       · exact h.dis K hK hb
       · exact hnew K (.inr hb) (List.mem_singleton.1 hK)
     · rw [hbx2, List.mem_append] at hx
       rcases hx with hx | hx
       · rcases h.box x hx with ⟨e, k, n, c, hb⟩ | ⟨e, k, n, c, hb⟩
         · exact .inl ⟨e, k, n, c, hb.up g (Nat.le_refl _) (by rw [hfn]; exact Nat.le_succ _) (fun _ _ h => h) (fun _ _ => rfl) hko⟩
         · exact .inr ⟨e, k, n, c, hb.same g (Nat.le_refl _) (Nat.le_refl _)⟩
       · refine .inl ⟨a.eo, 3, a.sent + 1, c, ⟨a.ko, s.num (useF a.ko), hko _ _ hw.ks.ko, g2.at_ _ _ (sealT_at s a 3 (a.sent + 1) c), List.mem_singleton.1 hx⟩, by omega, by omega, hkd.2, fun e => by omega, fun _ => ⟨by omega, Nat.le_refl _, hp, heo⟩⟩
   · show Ses.fn _ <= _
     rw [fn_some rfl]; omega
   · show ((sealT s a 3 (a.sent + 1) c).made (nxtF a.ko)).keys.length <= _
     omega
end
end
section
section
variable {s s' s'' : STab} {m' n' : Option Frm} {b' : Option Bytes} {er : Int} {a b a' S R S' R' : Ses} {W Wa Wb W' : Way} {f : Frm} {x : SSealed} {e k n m : Nat} {c l : Bytes} {r : Option (Nat × Nat × Bytes)}
theorem box_of (h : s'.boxes = s.boxes) (l : Bytes) : s'.box l = s.box l := by unfold STab.box; rw [h]
theorem box_mem (h : s.box l = some x) : x ∈ s.boxes := by
 unfold STab.box at h
 split at h
 · split at h
   · exact List.mem_of_getElem? h
   · cases h
 · cases h
/-- What was told of a record that is opened. -/
def Told (a b : Ses) (Wb : Way) : Option (Nat × Nat × Bytes) -> Prop
 | none => True
 | some (k, n, c) => (k = 2 -> n <= b.got) /\ (k ≠ 2 -> 1 <= n /\ n <= b.sent + b.fn /\ Wb.P[n - 1]? = some (k, c) /\ a.ei = rks (Wb.P.take (n - 1)))
theorem nodup_at {ks : List Bytes} (h : ks.Nodup) {i j : Nat} {K : Bytes} (hi : ks[i]? = some K) (hj : ks[j]? = some K) : i = j := by
 obtain ⟨h1, e1⟩ := List.getElem?_eq_some_iff.1 hi
 obtain ⟨h2, e2⟩ := List.getElem?_eq_some_iff.1 hj
 exact (List.getElem_inj h).1 (e1.trans e2.symm)
theorem RecI.said (h : RecI s a b Wa Wb) (hk : s.keys.length < 100000) (f : Frm) (h1 : -1000000000 <= f.seq) (h2 : f.seq <= 1000000000) : ∃ r, Said s a f r /\ Told a b Wb r := by
 have hbo := box_of (openT_boxes s a) f.box
 cases hb : s.box f.box with
 | none => exact ⟨none, .inl (by unfold STab.open_; rw [hbo, hb]; rfl), trivial⟩
 | some x =>
   by_cases hx : x.by_ = openK s a /\ x.usage = 14
   · have hop : (openT s a).open_ (openK s a) 14 f.box = some x.body := by unfold STab.open_; rw [hbo, hb]; exact if_pos hx
     have hkey : ∀ K m, s.at_ (useF K) = some m -> x.by_ = mkB 107 m -> K = a.ki := fun K m hm e => by
       have h3 := hx.1
       rw [e] at h3
       exact (derive_inj.1 ((mk_iff h.wf hm (by omega) (useF a.ki)).1 h3)).1
     rcases h.box x (box_mem hb) with ⟨e, k, n, c, hB⟩ | ⟨e, k, n, c, hB⟩
     · obtain ⟨K, m, hK, hm, rfl⟩ := hB.ex
       have := hkey K m hm rfl
       subst this
       exact absurd h.ba.kiMem (h.dis _ (List.mem_of_getElem? hK))
     · obtain ⟨K, m, hK, hm, rfl⟩ := hB.ex
       have := hkey K m hm rfl
       subst this
       have he := nodup_at h.ba.ks.nd hK h.ba.ki
       subst he
       by_cases hs : f.seq = (n : Int)
       · exact ⟨some (k, n, c), ⟨hB.bk, hB.bn, hB.bb, hop, hs⟩, hB.mrk, hB.pt⟩
       · refine ⟨none, .inr ⟨k, n, c, hB.bk, hB.bn, hB.bb, hop, ?_⟩, trivial⟩
         have hn := hB.bn
         congr 1
         rw [Bool.not_eq_true', beq_eq_false_iff_ne]
         intro e
         by_cases h0 : 0 <= f.seq
         · have := wrap_u64_is h0 (by omega)
           injection this with _ this
           omega
         · have h4 : IntKind.u64.wrap f.seq = f.seq + 18446744073709551616 := by
             have e1 : IntKind.u64.wrap f.seq = f.seq % 18446744073709551616 := by
               unfold IntKind.wrap
               have h5 : IntKind.u64.signed = false := rfl
               simp only [h5, Bool.false_and]
               rfl
             rw [e1]; omega
           omega
   · exact ⟨none, .inl (by unfold STab.open_; rw [hbo, hb]; exact if_neg hx), trivial⟩
/-- What Take leaves. -/
structure TookI (s s' : STab) (a a' b : Ses) (Wa Wb : Way) (m : Option Bytes) (n : Option Frm) (e : Int) : Prop where
 inv : RecI s' a' b Wa Wb
 me : a'.me = a.me
 peer : a'.peer = a.peer
 sid : a'.sid = a.sid
 eo : a'.eo = a.eo
 ko : a'.ko = a.ko
 g1 : a.got <= a'.got
 g2 : a'.got <= a.got + 1
 s1 : a.sent <= a'.sent
 s2 : a'.sent <= a.sent + 1
 fn : a'.sent + a'.fn = a.sent + a.fn
 come : datas (Wb.P.take a'.got) = datas (Wb.P.take a.got) ++ m.toList
 err : m.isSome -> e = 0
 mark : ∀ g, n = some g -> g.src = a.me /\ g.dst = a.peer /\ g.sid = a.sid /\ g.epoch = (a.eo : Int) /\ g.seq = (a'.got : Int) /\ g.box.length = 16
 ks : s'.keys.length <= s.keys.length + 4
 bs : s'.boxes.length <= s.boxes.length + 1
theorem RecI.markA (h : RecI s a b Wa Wb) (hg : a.got < 900000) : RecI (sealT s a 2 a.got []) a b Wa Wb :=
 h.sealA fun _ hx => ⟨⟨a.ko, _, h.ab.ks.ko, sealT_at s a 2 a.got [], hx⟩, by omega, hg, by simp, fun _ => Nat.le_refl _, fun h => absurd rfl h⟩
theorem sealFMk (s : STab) (S : Ses) (n : Nat) : (sealF s S n).box.length = 16 := mkB_len _ _
theorem kd_one {p : Nat × Bytes} (h : (p.1 = 1 ∨ p.1 = 3) /\ p.2.length <= 2048) (h3 : p.1 ≠ 3) : p.1 = 1 := by omega
theorem RecI.took (h : RecI s a b Wa Wb) (hr : TakeR s a f r s' a' b' n' er) (ht : Told a b Wb r) (_hk : s.keys.length < 100000) (hg : a.got < 800000) : TookI s s' a a' b Wa Wb b' n' er := by
 have hw := h.ab
 have hwb := h.ba
 have ho := openT_keys s a
 have same : ∀ {s' : STab} {n' : Option Frm} {er : Int}, RecI s' a b Wa Wb -> (∀ g, n' = some g -> g.src = a.me /\ g.dst = a.peer /\ g.sid = a.sid /\ g.epoch = (a.eo : Int) /\ g.seq = (a.got : Int) /\ g.box.length = 16) -> s'.keys.length <= s.keys.length + 4 -> s'.boxes.length <= s.boxes.length + 1 -> TookI s s' a a b Wa Wb none n' er := fun h1 h2 h3 h4 =>
   ⟨h1, rfl, rfl, rfl, rfl, rfl, Nat.le_refl _, Nat.le_succ _, Nat.le_refl _, Nat.le_succ _, rfl, by simp, by simp, h2, h3, h4⟩
 have mk : ∀ {s' : STab} {S : Ses}, (∀ g, some (sealF s' S S.got) = some g -> g.src = S.me /\ g.dst = S.peer /\ g.sid = S.sid /\ g.epoch = (S.eo : Int) /\ g.seq = (S.got : Int) /\ g.box.length = 16) := fun g e => by
   obtain rfl := Option.some.inj e
   exact ⟨rfl, rfl, rfl, rfl, rfl, sealFMk _ _ _⟩
 cases hr with
 | over ho => exact absurd ho (by rw [hw.ov]; decide)
 | wrong ho hn => exact same h (fun g e => by cases e) (by omega) (by omega)
 | epoch hF hne hn => exact same h (fun g e => by cases e) (by omega) (by omega)
 | old hF hlt hle => exact same (h.markA (by omega)) mk (by have := sealT_keys s a 2 a.got []; omega) (by rw [sealT_boxes]; simp)
 | shut hF he hr => exact same h.openA (fun g e => by cases e) (by omega) (by rw [openT_boxes]; omega)
 | ahead hF he k n c hr hk hlt => exact same h.openA (fun g e => by cases e) (by omega) (by rw [openT_boxes]; omega)
 | again hF he k n c hr hk hle => exact same (h.openA.markA (by omega)) mk (by have := sealT_keys (openT s a) a 2 a.got []; omega) (by rw [sealT_boxes, openT_boxes]; simp)
 | mark hF he n c hr =>
   subst hr
   have h1 := h.openA
   unfold markedR
   by_cases hm : a.frame.isSome /\ n = a.sent + 1
   · rw [if_pos hm]
     obtain ⟨hfs, rfl⟩ := hm
     obtain ⟨g, hf⟩ := Option.isSome_iff_exists.1 hfs
     have hfn := fn_some hf
     have hgot : a.sent + 1 <= b.got := ht.1 rfl
     have hw1 := h1.ab
     have hfm : (markR a).fn = 0 := rfl
     have hsl := hw.sl
     have hg2 := hw.g2
     have heo := hw.eo
     rw [hfn] at hsl hg2 heo
     refine ⟨⟨h1.wf, h1.of, ⟨hw1.ov, ?_, ?_, ?_, hgot, ?_, hw1.kd, ?_, hw1.ei, ⟨hw1.ks.len, hw1.ks.ko, hw1.ks.nx, hw1.ks.last, hw1.ks.mkk, hw1.ks.nd⟩, hw1.ki, fun f hf => by cases hf⟩, ?_, h1.dis, fun x hx => ?_⟩, rfl, rfl, rfl, rfl, rfl, Nat.le_refl _, Nat.le_succ _, Nat.le_succ _, Nat.le_refl _, ?_, by simp [markR], by simp, fun g e => (by cases e), by omega, by rw [openT_boxes]; omega⟩
     · show a.queue.tail = Wa.P.drop (a.sent + 1)
       rw [hw.q, List.tail_drop]
     · show a.queue.tail.length <= 8
       have := hw.q8; simp; omega
     · show a.sent + 1 + (markR a).fn <= _
       rw [hfm]; exact hsl
     · show b.got <= a.sent + 1 + (markR a).fn
       rw [hfm]; exact hg2
     · show a.eo = rks (Wa.P.take (a.sent + 1 + (markR a).fn))
       rw [hfm]; exact heo
     · have h2 := h1.ba
       exact ⟨h2.ov, h2.q, h2.q8, h2.sl, h2.g1, h2.g2, h2.kd, h2.eo, h2.ei, h2.ks, h2.ki, h2.fr⟩
     · rcases h1.box x hx with ⟨e, k, n, c, hb⟩ | ⟨e, k, n, c, hb⟩
       · refine .inl ⟨e, k, n, c, hb.same (Grow.refl _).z (Nat.le_refl _) ?_⟩
         show a.sent + a.fn <= a.sent + 1 + (markR a).fn
         omega
       · exact .inr ⟨e, k, n, c, hb⟩
     · show a.sent + 1 + (markR a).fn = _
       omega
   · rw [if_neg hm]
     exact same h1 (fun g e => by cases e) (by omega) (by rw [openT_boxes]; omega)
 | data hF he k c hr hk2 hk3 =>
   subst hr
   obtain ⟨t1, t2, t3, t4⟩ := ht.2 hk2
   rw [Nat.add_sub_cancel] at t3 t4
   have h1 := h.openA
   have hT := take_snoc t3
   have hk1 : k = 1 := kd_one (hwb.kd _ (List.mem_of_getElem? t3)) hk3
   have h2 : RecI (openT s a) { a with got := a.got + 1 } b Wa Wb := by
     have hw1 := h1.ab
     have hw2 := h1.ba
     refine ⟨h1.wf, h1.of, ⟨hw1.ov, hw1.q, hw1.q8, hw1.sl, hw1.g1, hw1.g2, hw1.kd, hw1.eo, hw1.ei, ⟨hw1.ks.len, hw1.ks.ko, hw1.ks.nx, hw1.ks.last, hw1.ks.mkk, hw1.ks.nd⟩, hw1.ki, fun f hf => ⟨(hw1.fr f hf).src, (hw1.fr f hf).dst, (hw1.fr f hf).sid, (hw1.fr f hf).seq, (hw1.fr f hf).ex⟩⟩, ⟨hw2.ov, hw2.q, hw2.q8, hw2.sl, Nat.le_succ_of_le hw2.g1, t2, hw2.kd, hw2.eo, ?_, hw2.ks, hw2.ki, hw2.fr⟩, h1.dis, fun x hx => ?_⟩
     · show a.ei = rks (Wb.P.take (a.got + 1))
       rw [hT, rks_snoc, if_neg hk3, ← t4]; rfl
     · rcases h1.box x hx with ⟨e, k, n, c, hb⟩ | ⟨e, k, n, c, hb⟩
       · exact .inl ⟨e, k, n, c, hb.same (Grow.refl _).z (Nat.le_succ _) (Nat.le_refl _)⟩
       · exact .inr ⟨e, k, n, c, hb⟩
   refine ⟨h2.markA (show a.got + 1 < 900000 by omega), rfl, rfl, rfl, rfl, rfl, Nat.le_succ _, Nat.le_refl _, Nat.le_refl _, Nat.le_succ _, rfl, ?_, fun _ => rfl, mk, ?_, by rw [sealT_boxes, openT_boxes]; simp⟩
   · show datas (Wb.P.take (a.got + 1)) = _
     rw [hT, datas_snoc, if_pos hk1]; rfl
   · have := sealT_keys (openT s a) { a with got := a.got + 1 } 2 (a.got + 1) []; omega
 | rekey hF he c hr =>
   subst hr
   obtain ⟨t1, t2, t3, t4⟩ := ht.2 (by decide)
   rw [Nat.add_sub_cancel] at t3 t4
   have h1 := h.openA
   have hT := take_snoc t3
   have hei : a.ei + 1 = rks (Wb.P.take (a.got + 1)) := by rw [hT, rks_snoc, if_pos rfl, ← t4]
   have hle : a.ei + 1 <= b.eo := by rw [hei, hwb.eo]; exact rks_take_le _ t2
   obtain ⟨K, hK⟩ : ∃ K, Wb.ks[a.ei + 1]? = some K := ⟨_, List.getElem?_eq_getElem (by rw [hwb.ks.len]; omega)⟩
   obtain ⟨m, hm, eK⟩ := h1.ba.ks.nx _ _ _ h1.ba.ki hK
   have g := sealT_grow (openT s a) { a with got := a.got + 1 } 2 (a.got + 1) []
   have hm2 := g.at_ _ _ hm
   have hnum : (sealT (openT s a) { a with got := a.got + 1 } 2 (a.got + 1) []).num (nxtF a.ki) = m := STab.num_of _ _ _ hm2
   have e1 : inT (sealT (openT s a) { a with got := a.got + 1 } 2 (a.got + 1) []) { a with got := a.got + 1 } = sealT (openT s a) { a with got := a.got + 1 } 2 (a.got + 1) [] := by
     show STab.made _ (nxtF a.ki) = _
     unfold STab.made; rw [hm2]
   have e2 : inS (sealT (openT s a) { a with got := a.got + 1 } 2 (a.got + 1) []) { a with got := a.got + 1 } = { a with got := a.got + 1, ei := a.ei + 1, ki := K } := by
     show Ses.mk _ _ _ _ _ (mkB 107 _) _ _ _ _ _ _ = _
     rw [hnum, eK]
   rw [e1, e2]
   have h2 : RecI (openT s a) { a with got := a.got + 1, ei := a.ei + 1, ki := K } b Wa Wb := by
     have hw1 := h1.ab
     have hw2 := h1.ba
     refine ⟨h1.wf, h1.of, ⟨hw1.ov, hw1.q, hw1.q8, hw1.sl, hw1.g1, hw1.g2, hw1.kd, hw1.eo, hw1.ei, ⟨hw1.ks.len, hw1.ks.ko, hw1.ks.nx, hw1.ks.last, hw1.ks.mkk, hw1.ks.nd⟩, hw1.ki, fun f hf => ⟨(hw1.fr f hf).src, (hw1.fr f hf).dst, (hw1.fr f hf).sid, (hw1.fr f hf).seq, (hw1.fr f hf).ex⟩⟩, ⟨hw2.ov, hw2.q, hw2.q8, hw2.sl, Nat.le_succ_of_le hw2.g1, t2, hw2.kd, hw2.eo, hei, hw2.ks, hK, hw2.fr⟩, h1.dis, fun x hx => ?_⟩
     rcases h1.box x hx with ⟨e, k, n, c, hb⟩ | ⟨e, k, n, c, hb⟩
     · exact .inl ⟨e, k, n, c, hb.same (Grow.refl _).z (Nat.le_succ _) (Nat.le_refl _)⟩
     · exact .inr ⟨e, k, n, c, hb⟩
   have h3 := h2.markA (show a.got + 1 < 900000 by omega)
   refine ⟨h3, rfl, rfl, rfl, rfl, rfl, Nat.le_succ _, Nat.le_refl _, Nat.le_refl _, Nat.le_succ _, rfl, ?_, by simp, mk, ?_, by rw [sealT_boxes, openT_boxes]; simp⟩
   · show datas (Wb.P.take (a.got + 1)) = _
     rw [hT, datas_snoc, if_neg (fun e => absurd (show (3 : Nat) = 1 from e) (by decide))]; simp
   · have := sealT_keys (openT s a) { a with got := a.got + 1 } 2 (a.got + 1) []; omega
end
end
section
/-- Two ends, the table, all frames that were sent, what each end has let wait and what came to it, and how often it let its key go on. -/
structure Tk where
 s : STab
 a : Ses
 b : Ses
 wire : List Frm
 sd0 : List Bytes
 sd1 : List Bytes
 cm0 : List Bytes
 cm1 : List Bytes
 k0 : Nat
 k1 : Nat
structure FrB (f : Frm) : Prop where
 e0 : 0 <= f.epoch
 e1 : f.epoch <= 1000
 s0 : 0 <= f.seq
 s1 : f.seq <= 1000000
 sid : f.sid = 7
 box : f.box.length = 16
structure TI (p q : ByteArray) (n : Nat) (T : Tk) (Wa Wb : Way) : Prop where
 inv : RecI T.s T.a T.b Wa Wb
 am : T.a.me = p
 ap : T.a.peer = q
 bm : T.b.me = q
 bp : T.b.peer = p
 asid : T.a.sid = 7
 bsid : T.b.sid = 7
 sd0 : T.sd0 = datas Wa.P
 sd1 : T.sd1 = datas Wb.P
 cm0 : T.cm0 = datas (Wb.P.take T.a.got)
 cm1 : T.cm1 = datas (Wa.P.take T.b.got)
 k0 : T.k0 = rks Wa.P
 k1 : T.k1 = rks Wb.P
 pa : Wa.P.length <= 60
 pb : Wb.P.length <= 60
 ks : T.s.keys.length <= 10 + 4 * n
 bs : T.s.boxes.length <= n
 wl : T.wire.length <= n
 wi : ∀ f ∈ T.wire, FrB f
section
variable {p q : ByteArray} {n : Nat} {T : Tk} {Wa Wb : Way} {c : Bytes} {s s' : STab} {a b a' : Ses} {m' n' : Option Frm} {b' : Option Bytes} {er : Int} {f : Frm} {r : Option (Nat × Nat × Bytes)} {k : Nat}
theorem RecI.push (h : RecI s a b Wa Wb) (hl : a.queue.length < 8) (hk : k = 1 ∨ k = 3) (hc : c.length <= 2048) : RecI s { a with queue := a.queue ++ [(k, c)] } b ⟨Wa.P ++ [(k, c)], Wa.ks⟩ Wb := by
 have hw := h.ab
 have hv := h.ba
 have hs := hw.sl
 have ht : ∀ i, i <= Wa.P.length -> (Wa.P ++ [(k, c)]).take i = Wa.P.take i := fun i hi => List.take_append_of_le_length hi
 have hp : ∀ (i : Nat) (x : Nat × Bytes), Wa.P[i]? = some x -> (Wa.P ++ [(k, c)])[i]? = some x := fun i x hi => by
   rw [List.getElem?_append_left (List.getElem?_eq_some_iff.1 hi).1]; exact hi
 have hg : b.got <= Wa.P.length := Nat.le_trans hw.g2 hs
 refine ⟨h.wf, h.of, ⟨hw.ov, ?_, ?_, ?_, hw.g1, hw.g2, fun p hm => ?_, ?_, ?_, ⟨hw.ks.len, hw.ks.ko, hw.ks.nx, hw.ks.last, hw.ks.mkk, hw.ks.nd⟩, hw.ki, fun f hf => ?_⟩, ⟨hv.ov, hv.q, hv.q8, hv.sl, hv.g1, hv.g2, hv.kd, hv.eo, hv.ei, hv.ks, hv.ki, hv.fr⟩, h.dis, fun x hx => ?_⟩
 · show a.queue ++ [(k, c)] = (Wa.P ++ [(k, c)]).drop a.sent
   rw [List.drop_append_of_le_length (by omega), hw.q]
 · show (a.queue ++ [(k, c)]).length <= 8
   rw [List.length_append]; simp; omega
 · show a.sent + a.fn <= (Wa.P ++ [(k, c)]).length
   rw [List.length_append]; omega
 · rcases List.mem_append.1 hm with hm | hm
   · exact hw.kd p hm
   · rw [List.mem_singleton.1 hm]; exact ⟨hk, hc⟩
 · show a.eo = rks ((Wa.P ++ [(k, c)]).take (a.sent + a.fn))
   rw [ht _ hs]; exact hw.eo
 · show b.ei = rks ((Wa.P ++ [(k, c)]).take b.got)
   rw [ht _ hg]; exact hw.ei
 · have hF := hw.fr f hf
   refine ⟨hF.src, hF.dst, hF.sid, hF.seq, ?_⟩
   obtain ⟨e, K, m, k, b, j, h1, h2, h3, h4, h5, h6, h7⟩ := hF.ex
   exact ⟨e, K, m, k, b, j, h1, h2, h3, h4, h5, hp _ _ h6, by show e = rks ((Wa.P ++ [_]).take a.sent); rw [ht _ (by omega)]; exact h7⟩
 · rcases h.box x hx with ⟨e, k, n, c, hb⟩ | ⟨e, k, n, c, hb⟩
   · exact .inl ⟨e, k, n, c, hb.up (Grow.refl _).z (Nat.le_refl _) (Nat.le_refl _) hp ht (fun _ _ h => h)⟩
   · exact .inr ⟨e, k, n, c, hb⟩
end
end
section
open Go.RowKit Go.QT
/-- A row's elements, each by itself. -/
def RowOk {α : Type} (R : α -> List Value -> Prop) (xs : List (List Value)) (az : List α) : Prop := xs.length = az.length /\ ∀ (i : Nat) (x : List Value) (a : α), xs[i]? = some x -> az[i]? = some a -> R a x
def BAt (L : List (Value × Bytes)) (b : Bytes) (x : List Value) : Prop := ∃ A c, x = [.slice A b.length c] /\ (Value.slice A b.length c, b) ∈ L
section
variable {α : Type} {R R' : α -> List Value -> Prop} {xs : List (List Value)} {az : List α} {L L' : List (Value × Bytes)}
theorem RowOk.nil : RowOk R [] [] := ⟨rfl, by simp⟩
theorem RowOk.mono (h : RowOk R xs az) (hr : ∀ a x, R a x -> R' a x) : RowOk R' xs az := ⟨h.1, fun i x a hx ha => hr _ _ (h.2 i x a hx ha)⟩
theorem RowOk.push (h : RowOk R xs az) {x : List Value} {a : α} (hx : R a x) : RowOk R (xs ++ [x]) (az ++ [a]) := by
 refine ⟨by simp [h.1], fun i y b hy hb => ?_⟩
 by_cases hi : i < xs.length
 · rw [List.getElem?_append_left hi] at hy
   rw [List.getElem?_append_left (by rw [← h.1]; exact hi)] at hb
   exact h.2 i y b hy hb
 · have e : i = xs.length := by
     have := (List.getElem?_eq_some_iff.1 hy).1
     simp at this; omega
   subst e
   rw [List.getElem?_append_right (Nat.le_refl _), Nat.sub_self] at hy
   rw [h.1, List.getElem?_append_right (Nat.le_refl _), Nat.sub_self] at hb
   have hy : x = y := by simpa using hy
   have hb : a = b := by simpa using hb
   subst hy; subst hb
   exact hx
theorem RowOk.get (h : RowOk R xs az) {i : Nat} {a : α} (ha : az[i]? = some a) : ∃ x, xs[i]? = some x /\ R a x := by
 have h1 := (List.getElem?_eq_some_iff.1 ha).1
 have h2 : xs[i]? = some (xs[i]'(by rw [h.1]; exact h1)) := List.getElem?_eq_getElem _
 exact ⟨_, h2, h.2 i _ a h2 ha⟩
theorem BAt.mono {b : Bytes} {x : List Value} (h : BAt L b x) (hL : ∀ p, p ∈ L -> p ∈ L') : BAt L' b x := by
 obtain ⟨A, c, e, hm⟩ := h; exact ⟨A, c, e, hL _ hm⟩
end
/-- Where it all lies. -/
structure TEnv where
 tb : Nat
 sa : Nat
 sb : Nat
 F : Nat -> Prop
 Ga : Nat -> Prop
 Gb : Nat -> Prop
 wA : Option Addr
 wc : Nat
 wx : List (List Value)
 A0 : Option Addr
 c0 : Nat
 x0 : List (List Value)
 A1 : Option Addr
 c1 : Nat
 x1 : List (List Value)
 A2 : Option Addr
 c2 : Nat
 x2 : List (List Value)
 A3 : Option Addr
 c3 : Nat
 x3 : List (List Value)
def tCells (e : TEnv) (T : Tk) : List Value :=
 [pt e.tb 0, pt e.sa 0, pt e.sb 0, .slice e.wA T.wire.length e.wc, .slice e.A0 T.sd0.length e.c0, .slice e.A1 T.sd1.length e.c1, .slice e.A2 T.cm0.length e.c2, .slice e.A3 T.cm1.length e.c3, .int .i64 (T.k0 : Int), .int .i64 (T.k1 : Int)]
def lT (p : Nat) (L : List (Value × Bytes)) (e : TEnv) (T : Tk) : List Res :=
 [rBlk p 34 (tCells e T), rTab e.F e.tb T.s, rS e.Ga e.tb e.sa L T.a, rS e.Gb e.tb e.sb L T.b, rOV 38 6 (.slice e.wA T.wire.length e.wc) e.wx,
  rOV 26 1 (.slice e.A0 T.sd0.length e.c0) e.x0, rOV 26 1 (.slice e.A1 T.sd1.length e.c1) e.x1, rOV 26 1 (.slice e.A2 T.cm0.length e.c2) e.x2, rOV 26 1 (.slice e.A3 T.cm1.length e.c3) e.x3]
structure TOk (L : List (Value × Bytes)) (e : TEnv) (T : Tk) : Prop where
 w : RowOk (FrmAt L) e.wx T.wire
 x0 : RowOk (BAt L) e.x0 T.sd0
 x1 : RowOk (BAt L) e.x1 T.sd1
 x2 : RowOk (BAt L) e.x2 T.cm0
 x3 : RowOk (BAt L) e.x3 T.cm1
 nil : (Value.slice none 0 0, ([] : Bytes)) ∈ L
/-- It all, in memory, az one thing. -/
def rT (G : Nat -> Prop) (p : Nat) (L : List (Value × Bytes)) (T : Tk) : Res where
 F := G
 Φ := fun w => ∃ e, TOk L e T /\ G = (rStar (lT p L e T)).F /\ (rStar (lT p L e T)).Φ w
 lt := fun ⟨e, _, hG, h⟩ q hq => (rStar (lT p L e T)).lt h q (hG ▸ hq)
 keep := fun ⟨e, h1, hG, h⟩ hs hk => ⟨e, h1, hG, (rStar (lT p L e T)).keep h hs fun q hq => hk q (hG ▸ hq)⟩
section
variable {F0 G : Nat -> Prop} {w0 w w' : World} {ro rs : List Res} {p : Nat} {L L' : List (Value × Bytes)} {T T' : Tk} {o : Oper} {a : Act} {v : Value} {P : Program}
theorem Hp.openT (h : Hp F0 w0 w ro rs) (i : Nat) (hi : rs[i]? = some (rT G p L T)) : ∃ e, TOk L e T /\ Hp F0 w0 w ro (lT p L e T ++ rs.eraseIdx i) := by
 obtain ⟨e, h1, hG, h2⟩ := h.own i _ hi
 refine ⟨e, h1, ?_⟩
 refine h.call1 i hi (r := rT G p L T) ⟨Fr.refl _ _, h2.1, fun k r hr q hq => .inl ?_, h2.2, by simp, by simp⟩
 show G q
 rw [hG]; exact ⟨k, r, hr, hq⟩
theorem Hp.closeT {e : TEnv} (h : Hp F0 w0 w ro (lT p L e T ++ rs)) (hk : TOk L e T) : Hp F0 w0 w ro (rT (rStar (lT p L e T)).F p L T :: rs) := by
 have h1 := h.closeStar
 exact h1.upd 0 rfl (Fr.refl _ _) (rT (rStar (lT p L e T)).F p L T) ⟨e, hk, rfl, h1.own 0 _ rfl⟩ (fun q hq => .inl hq)
end
end
section
open Go.RowKit Go.QT
end
section
open Go.RowKit Go.QT
end
section
theorem STab.made_same {s : STab} {f : SFrom} {m : Nat} (h : s.at_ f = some m) : s.made f = s := by unfold STab.made; rw [h]
theorem newKeys_again (s : STab) (k : Bytes) : newKeys (newKeys s k).2.2 k = newKeys s k := by
 have h1 : ((s.made (deriveF k lOne)).made (deriveF k lTwo)).at_ (deriveF k lOne) = some (s.num (deriveF k lOne)) := STab.at_made_of _ _ _ _ (STab.at_made s _)
 have h2 : ((s.made (deriveF k lOne)).made (deriveF k lTwo)).at_ (deriveF k lTwo) = some ((s.made (deriveF k lOne)).num (deriveF k lTwo)) := STab.at_made _ _
 unfold newKeys
 simp only [STab.made_same h1, STab.made_same h2, STab.num_of _ _ _ h1, STab.num_of _ _ _ h2]
def sAnn : ByteArray := ⟨#[97, 110, 110]⟩
def sBob : ByteArray := ⟨#[98, 111, 98]⟩
/-- The table and the ends, as they begin. -/
def sTab0 : STab := (newKeys (STab.empty.add SFrom.fresh) (mkB 107 1)).2.2
def sA0 : Ses := ⟨sAnn, sBob, 7, (newKeys (STab.empty.add SFrom.fresh) (mkB 107 1)).1, 0, (newKeys (STab.empty.add SFrom.fresh) (mkB 107 1)).2.1, 0, [], 0, 0, none, false⟩
def sB0 : Ses := ⟨sBob, sAnn, 7, (newKeys (STab.empty.add SFrom.fresh) (mkB 107 1)).2.1, 0, (newKeys (STab.empty.add SFrom.fresh) (mkB 107 1)).1, 0, [], 0, 0, none, false⟩
def tk0 : Tk := ⟨sTab0, sA0, sB0, [], [], [], [], [], 0, 0⟩
theorem one_two (k : Bytes) : deriveF k lTwo ≠ deriveF k lOne := fun h => absurd (derive_inj.1 h).2 (by decide)
theorem num_one : (STab.empty.add SFrom.fresh).num (deriveF (mkB 107 1) lOne) = 2 := rfl
theorem num_two : ((STab.empty.add SFrom.fresh).made (deriveF (mkB 107 1) lOne)).num (deriveF (mkB 107 1) lTwo) = 3 := by
 have h : ((STab.empty.add SFrom.fresh).made (deriveF (mkB 107 1) lOne)).at_ (deriveF (mkB 107 1) lTwo) = none := by
   rw [STab.at_made_ne _ (one_two _)]; rfl
 rw [(made_new2 h).1]; rfl
theorem keys0 : sTab0.keys.length = 3 := by
 have h : ((STab.empty.add SFrom.fresh).made (deriveF (mkB 107 1) lOne)).at_ (deriveF (mkB 107 1) lTwo) = none := by
   rw [STab.at_made_ne _ (one_two _)]; rfl
 show (((STab.empty.add SFrom.fresh).made (deriveF (mkB 107 1) lOne)).made (deriveF (mkB 107 1) lTwo)).keys.length = 3
 rw [(made_new2 h).2]; rfl
theorem boxes0 : sTab0.boxes = [] := by
 show (((STab.empty.add SFrom.fresh).made (deriveF (mkB 107 1) lOne)).made (deriveF (mkB 107 1) lTwo)).boxes = []
 rw [(made_boxes rfl).1, (made_boxes rfl).1]; rfl
theorem at0 {f : SFrom} {m : Nat} (h : sTab0.at_ f = some m) : f.of = mkB 107 1 /\ (f.label = lOne ∨ f.label = lTwo) := by
 have h : (((STab.empty.add SFrom.fresh).made (deriveF (mkB 107 1) lOne)).made (deriveF (mkB 107 1) lTwo)).at_ f = some m := h
 by_cases e2 : f = deriveF (mkB 107 1) lTwo
 · subst e2; exact ⟨rfl, .inr rfl⟩
 · rw [STab.at_made_ne _ e2] at h
   by_cases e1 : f = deriveF (mkB 107 1) lOne
   · subst e1; exact ⟨rfl, .inl rfl⟩
   · rw [STab.at_made_ne _ e1] at h; cases h
theorem nxt0 (k : Bytes) : sTab0.at_ (nxtF k) = none := by
 cases h : sTab0.at_ (nxtF k) with
 | none => rfl
 | some m => rcases (at0 h).2 with e | e <;> exact absurd e (by show (⟨#[110, 101, 120, 116]⟩ : ByteArray) ≠ _; decide)
theorem ko0 : sA0.ko = mkB 107 2 := congrArg (mkB 107) num_one
theorem ki0 : sA0.ki = mkB 107 3 := congrArg (mkB 107) num_two
theorem ti0 : TI sAnn sBob 0 tk0 ⟨[], [sA0.ko]⟩ ⟨[], [sA0.ki]⟩ := by
 have hks : ∀ (S : Ses) (k : Bytes) (j : Nat), k = mkB 107 j -> j <= 3 -> S.eo = 0 -> S.ko = k -> KsI sTab0 ⟨[], [k]⟩ S := fun S k j hk hj he ho =>
   ⟨by rw [he]; rfl, by rw [he, ho]; rfl, fun e k1 k2 h1 h2 => by
     have := (List.getElem?_eq_some_iff.1 h2).1
     simp at this, nxt0 _, fun k1 h1 => ⟨j, by rw [List.mem_singleton.1 h1, hk], by rw [keys0]; exact hj⟩, by simp⟩
 have hw : (STab.empty.add SFrom.fresh).WF := STab.WF.empty.add _
 have hw2 : tk0.s.WF := (hw.made (deriveF (mkB 107 1) lOne)).made (deriveF (mkB 107 1) lTwo)
 refine ⟨⟨hw2, fun f m hf => ⟨1, by rw [show tk0.s = sTab0 from rfl, keys0]; omega, (at0 hf).1⟩, ?_, ?_, ?_, ?_⟩, rfl, rfl, rfl, rfl, rfl, rfl, rfl, rfl, rfl, rfl, rfl, rfl, by simp, by simp, by rw [show tk0.s = sTab0 from rfl, keys0]; omega, by rw [show tk0.s = sTab0 from rfl, boxes0]; simp, by simp [tk0], by simp [tk0]⟩
 · exact ⟨rfl, rfl, by simp [tk0, sA0], Nat.le_refl _, Nat.le_refl _, Nat.le_refl _, by simp, rfl, rfl, hks _ _ 2 ko0 (by omega) rfl rfl, rfl, fun f hf => by cases hf⟩
 · exact ⟨rfl, rfl, by simp [tk0, sB0], Nat.le_refl _, Nat.le_refl _, Nat.le_refl _, by simp, rfl, rfl, hks _ _ 3 ki0 (by omega) rfl rfl, rfl, fun f hf => by cases hf⟩
 · intro k h1 h2
   have h1 := List.mem_singleton.1 h1
   have h2 := List.mem_singleton.1 h2
   rw [h1, ko0, ki0] at h2
   exact absurd (mkB_inj (by omega) (by omega) h2) (by decide)
 · intro x hx
   rw [show tk0.s = sTab0 from rfl, boxes0] at hx
   cases hx
end
section
open Go.RowKit Go.QT
section
variable {F0 F : Nat -> Prop} {w0 w : World} {ro rs : List Res} {tb : Nat} {s s' : STab} {S : Ses} {o : Oper} {a : Act} {P : Program}
theorem x_sNew (h : Hp F0 w0 w ro rs) (i : Nat) (hi : rs[i]? = some (rTab F tb s)) (L : List (Value × Bytes)) (fn : FuncId) (al : List Value) (hp : pureVal P (execOp a.eval o) = some (.enter fn al.toArray)) (hc : Calls P fn al.toArray w (NewPost F tb w s' S)) :
   OpTo P o a w (fun u w' => ∃ sb G F', u = pt sb 0 /\ Hp F0 w0 w' ro ([rTab F' tb s', rS G tb sb L S] ++ rs.eraseIdx i)) :=
 OpTo.enter fn al hp hc fun e w' hq => by
   obtain ⟨sb, G, F', he, h2⟩ := hq
   exact ⟨_, he, sb, G, F', rfl, h.call1 i hi (h2 L)⟩
end
/-- What open leaves. -/
def TOpenPost (w : World) (L : List (Value × Bytes)) (e : Ending) (w' : World) : Prop := ∃ p G, e = .returned (pt p 0) /\ Hp (fun _ => False) w w' [] [rT G p L tk0]
theorem tOpen_any {L : List (Value × Bytes)} (hnil : (Value.slice none 0 0, ([] : Bytes)) ∈ L) (w : World) : Calls Try.prog 8 #[] w (TOpenPost w L) := by
 have h0 := Hp.nil (fun _ => False) w
 refine enter 17 Try.func8 rfl rfl ?_
 refine wp_reset 17 [] (fun x0 => ?_)
 refine wp_seq_k fun K1 hK1 => reg_lit ?_
 refine wq_p 1 [(0, (Value.pointer none))] ?_
 refine wl_end rfl (seq_n hK1 (wp_seq_k fun K2 hK2 => reg_lit ?_))
 refine wq_to (some 3) (x_snew h0 (by kernel_rfl)) ?_
 rintro _ w3 ⟨tb3, F3, rfl, h3⟩
 refine wq_p 1 [(1, (pt tb3 0))] ?_
 refine wl_end rfl (seq_n hK2 (wp_seq_k fun K4 hK4 => reg_lit ?_))
 refine wq_p 1 [(4, (pt tb3 0))] ?_
 refine wq_to (some 5) (x_fresh h3 0 rfl  (by kernel_rfl) (by decide)) ?_
 rintro _ w5 ⟨K5, F5, s5, rfl, hK5, hs5, h5⟩
 obtain rfl : s5 = STab.empty.add SFrom.fresh := hs5
 have hK0 : kl K5 = mkB 107 1 := hK5
 refine wq_to (some 2) (xN h5 59 (vb (List.replicate 16 0))) ?_
 rintro _ w6 ⟨g6, rfl, h6⟩
 refine wq_to none (xSs h6 0 59 (.tmp 2) (.tmp 5) 0 (vb (kl K5)) (vb (kl K5))) ?_
 rintro _ w7 h7
 refine wl_end rfl (seq_n hK4 (wp_seq_k fun K8 hK8 => ?_))
 refine pR_go h7 11 (fun W => (rBlk g6 59 (vb (kl K5))).Φ W /\ True) [(7, [1], 0), (8, [1], 0), (9, [7], 2), (10, [2], 0), (11, [8, 9], 12), (12, [1], 0), (13, [11], 32), (14, [2], 0), (15, [12, 13], 208), (16, [6, 10, 14], 273), (17, [15], 512), (1, [16], 2047)] rfl (fun _ d _ _ _ h => by cases d <;> exact h) ?_
 intro hs9 w9 h9
 refine pR_p 7 [0, 1, 2, 5, 6] [(12, (Value.iface 28 (pt tb3 0))), (11, (pt tb3 0)), (8, (Value.iface 28 (pt tb3 0))), (7, (pt tb3 0)), (6, (pt tb3 0))] 103 hs9 ⟨h9.at_ 0 rfl, trivial⟩ ?_
 refine pR_v 3 (some 9) (Value.agg (vb (kl K5)).toArray) 111 rfl hs9 ⟨h9.at_ 0 rfl, trivial⟩ (fun W hW => eLs hW.1 59 (.tmp 2) 0 (vb (kl K5))) ?_
 refine pR_v 7 (some 13) (Value.agg (vb (kl K5)).toArray) 239 rfl hs9 ⟨h9.at_ 0 rfl, trivial⟩ (fun W hW => eLs hW.1 59 (.tmp 2) 0 (vb (kl K5))) ?_
 refine pR_to 4 (some 10) 255 rfl hs9 (x_sNew (s' := (newKeys (STab.empty.add SFrom.fresh) (kl K5)).2.2) (S := (Ses.mk (⟨#[97, 110, 110]⟩) (⟨#[98, 111, 98]⟩) 7 (newKeys (STab.empty.add SFrom.fresh) (kl K5)).1 0 (newKeys (STab.empty.add SFrom.fresh) (kl K5)).2.1 0 [] 0 0 none false)) h9 1 rfl L 25 [(Value.iface 28 (pt tb3 0)), (Value.string (⟨#[97, 110, 110]⟩)), (Value.string (⟨#[98, 111, 98]⟩)), (Value.int .i64 7), (Value.agg (vb (kl K5)).toArray), (Value.bool true)] (by kernel_rfl) (sNew_true _ tb3 _ K5 (⟨#[97, 110, 110]⟩) (⟨#[98, 111, 98]⟩) 7 _ (h9.at_ 1 rfl) (by decide))) ?_
 rintro _ w10 ⟨sb10, G10, F10, rfl, h10⟩
 refine ⟨fun _ => ⟨h10.at_ 2 rfl, trivial⟩, ?_⟩
 have hnk2 : (newKeys (STab.empty.add SFrom.fresh) (kl K5)).2.2.keys.length < 900000 := by rw [hK0]; exact Nat.lt_of_le_of_lt (Nat.le_of_eq keys0) (by decide)
 refine pR_to 8 (some 14) 511 rfl hs9 (x_sNew (s' := (newKeys (newKeys (STab.empty.add SFrom.fresh) (kl K5)).2.2 (kl K5)).2.2) (S := (Ses.mk (⟨#[98, 111, 98]⟩) (⟨#[97, 110, 110]⟩) 7 (newKeys (newKeys (STab.empty.add SFrom.fresh) (kl K5)).2.2 (kl K5)).2.1 0 (newKeys (newKeys (STab.empty.add SFrom.fresh) (kl K5)).2.2 (kl K5)).1 0 [] 0 0 none false)) h10 0 rfl L 25 [(Value.iface 28 (pt tb3 0)), (Value.string (⟨#[98, 111, 98]⟩)), (Value.string (⟨#[97, 110, 110]⟩)), (Value.int .i64 7), (Value.agg (vb (kl K5)).toArray), (Value.bool false)] (by kernel_rfl) (sNew_false _ tb3 _ K5 (⟨#[98, 111, 98]⟩) (⟨#[97, 110, 110]⟩) 7 _ (h10.at_ 0 rfl) hnk2)) ?_
 rintro _ w11 ⟨sb11, G11, F11, rfl, h11⟩
 refine ⟨fun _ => ⟨h11.at_ 3 rfl, trivial⟩, ?_⟩
 refine pR_p 2 [9] [(15, (Value.agg ([(pt tb3 0), (pt sb10 0), (pt sb11 0), (Value.slice none 0 0), (Value.slice none 0 0), (Value.slice none 0 0), (Value.slice none 0 0), (Value.slice none 0 0), (Value.int .i64 0), (Value.int .i64 0)]).toArray))] 1023 hs9 ⟨h11.at_ 3 rfl, trivial⟩ ?_
 refine pR_to 10 (some 16) 2047 rfl hs9 (xN h11 34 ([(pt tb3 0), (pt sb10 0), (pt sb11 0), (Value.slice none 0 0), (Value.slice none 0 0), (Value.slice none 0 0), (Value.slice none 0 0), (Value.slice none 0 0), (Value.int .i64 0), (Value.int .i64 0)])) ?_
 rintro _ w12 ⟨g12, rfl, h12⟩
 refine ⟨fun _ => ⟨h12.at_ 4 rfl, trivial⟩, ?_⟩
 refine pR_to 11 (some 0) 4095 rfl hs9 (OpTo.run (pt g12 0) (pureOp_run (by kernel_rfl) _) (R := fun v w => v = (pt g12 0) /\ w12 = w) ⟨rfl, rfl⟩) ?_
 rintro _ _ ⟨rfl, rfl⟩
 refine ⟨fun h => absurd h (by decide), ?_⟩
 refine pR_done hs9 ?_ _
 refine seq_n hK8 (wp_ret ?_)
 refine post_1 rfl (by kernel_rfl) (rtm (pt g12 0)) ?_
 have hz1 := (((((h12.ovNil 38 6).ovNil 26 1).ovNil 26 1).ovNil 26 1).ovNil 26 1)
 rw [hK0, newKeys_again] at hz1
 have hz2 := (show Hp _ _ _ [] (lT g12 L (TEnv.mk tb3 sb10 sb11 F11 G10 G11 none 0 [] none 0 [] none 0 [] none 0 [] none 0 []) tk0 ++ []) from hz1.sel [5, 6, 8, 7, 4, 3, 2, 1, 0] [] rfl rfl rfl).closeT ⟨RowOk.nil, RowOk.nil, RowOk.nil, RowOk.nil, RowOk.nil, hnil⟩
 exact ⟨g12, _, rfl, hz2⟩
end
section
open Go.RowKit Go.QT
end
section
open Go.RowKit Go.QT
section
variable {F G : Nat -> Prop} {tb sb : Nat} {s s' : STab} {L : List (Value × Bytes)} {S S' : Ses} {w : World} {m' : Option Frm} {b' : Option Bytes} {er : Int} {f : Frm} {r : Option (Nat × Nat × Bytes)}
theorem send_ex (s : STab) (S : Ses) : ∃ s' S' m, SendR s S s' S' m := by
 by_cases ho : S.over = true
 · exact ⟨_, _, _, .over ho⟩
 · have ho : S.over = false := by simpa using ho
   cases hf : S.frame with
   | some f => exact ⟨_, _, _, .frame ho f hf⟩
   | none =>
     cases hqu : S.queue with
     | nil => exact ⟨_, _, _, .none ho hf hqu⟩
     | cons p qs =>
       obtain ⟨k, b⟩ := p
       by_cases hk : k = 3
       · subst hk; exact ⟨_, _, _, .rekey ho hf b qs hqu⟩
       · exact ⟨_, _, _, .data ho hf k b qs hqu hk⟩
theorem send_of (hT : (rTab F tb s).Φ w) (hv : (rS G tb sb L S).Φ w) (hL : (rF L).Φ w) (hts : (rTab F tb s).dj (rS G tb sb L S)) (hdt : (rF L).dj (rTab F tb s)) (hd : (rF L).dj (rS G tb sb L S))
   (hr : SendR s S s' S' m') (hq : ∀ p ∈ S.queue, p.1 < 1000 /\ p.2.length <= 2048) (hse : S.sent < 900000) (he : S.eo < 64) (hnk : s.keys.length < 800000) (hnb : s.boxes.length < 800000) :
   Calls Try.prog 11 #[pt sb 0] w (Post2 F G tb sb w L s' S' (fun L' u => ∃ cs, u = .tuple #[.agg cs.toArray, .bool m'.isSome] /\ FrmO L' m' cs)) := by
 cases hr with
 | over ho => exact (sSend_over hT hv hL hts hdt hd ho).mono fun _ _ ⟨u, F', G', L', e, hR, h⟩ => ⟨u, F', G', L', e, ⟨_, hR, rfl⟩, h⟩
 | frame ho f hf => exact sSend_frame hT hv hL hts hdt hd f ho hf
 | none ho hf hqu => exact (sSend_none hT hv hL hts hdt hd ho hf hqu).mono fun _ _ ⟨u, F', G', L', e, hR, h⟩ => ⟨u, F', G', L', e, ⟨_, hR, rfl⟩, h⟩
 | data ho hf k b qs hqu hk =>
   have h1 := hq (k, b) (by rw [hqu]; exact List.mem_cons_self)
   exact sSend_data hT hv hL hts hdt hd k b qs ho hf hqu h1.1 hk h1.2 hse (by omega) (by omega)
 | rekey ho hf b qs hqu =>
   have h1 := hq (3, b) (by rw [hqu]; exact List.mem_cons_self)
   exact sSend_rekey hT hv hL hts hdt hd 3 b qs ho hf hqu rfl he h1.2 hse (by omega) (by omega)
theorem take_of (hT : (rTab F tb s).Φ w) (hv : (rS G tb sb L S).Φ w) (hL : (rF L).Φ w) (hts : (rTab F tb s).dj (rS G tb sb L S)) (hdt : (rF L).dj (rTab F tb s)) (hd : (rF L).dj (rS G tb sb L S))
   (hR : TakeR s S f r s' S' b' m' er) (Ab : Option Addr) (cb : Nat) (hmf : (Value.slice Ab f.box.length cb, f.box) ∈ L) (hnil : (Value.slice none 0 0, ([] : Bytes)) ∈ L) (hr : Said s S f r)
   (hnk : s.keys.length < 800000) (hnb : s.boxes.length < 800000) (hbl : ∀ b ∈ s.boxes, b.body.length <= 1000000) (hse : S.sent < 900000) (hgo : S.got < 800000) (hei : S.ei < 64) (hfq : S.frame.isSome -> S.queue ≠ []) :
   Calls Try.prog 12 #[pt sb 0, .agg (f.cells (.slice Ab f.box.length cb)).toArray] w (Post2 F G tb sb w L s' S' (fun L' u => ∃ cs, u = .tuple #[.agg cs.toArray, .int .i64 er] /\ ComeAt L' b' m' cs)) := by
 cases hR with
 | over ho => exact sTake_over hT hv hL hts hdt hd f Ab cb hmf hnil hnk hnb hbl ho
 | wrong ho hw =>
   by_cases h1 : f.src = S.peer
   rotate_left
   · exact sTake_src hT hv hL hts hdt hd f Ab cb hmf hnil hnk hnb hbl ho (ba_ne h1)
   by_cases h2 : f.dst = S.me
   rotate_left
   · exact sTake_dst hT hv hL hts hdt hd f Ab cb hmf hnil hnk hnb hbl ho h1 (ba_ne h2)
   by_cases h3 : f.sid = S.sid
   rotate_left
   · exact sTake_sid hT hv hL hts hdt hd f Ab cb hmf hnil hnk hnb hbl ho h1 h2 h3
   rcases hw with hw | hw | hw
   · exact absurd h1 hw
   · exact absurd h2 hw
   · exact absurd h3 hw
 | old h hlt hle => exact sTake_old hT hv hL hts hdt hd f Ab cb hmf hnil hnk hnb hbl h.ho h.h1 h.h2 h.h3 hlt hle (by omega)
 | epoch h hne hn =>
   by_cases hlt : f.epoch < (S.ei : Int)
   · exact sTake_early hT hv hL hts hdt hd f Ab cb hmf hnil hnk hnb hbl h.ho h.h1 h.h2 h.h3 hlt (by have : ¬ f.seq <= (S.got : Int) := fun h2 => hn ⟨hlt, h2⟩; omega)
   · exact sTake_late hT hv hL hts hdt hd f Ab cb hmf hnil hnk hnb hbl h.ho h.h1 h.h2 h.h3 (by omega)
 | shut h he hrn =>
   subst hrn
   rcases hr with hr | ⟨k, n, b, hk, hn, hb, hop, hwr⟩
   · exact sTake_shut hT hv hL hts hdt hd f Ab cb hmf hnil hnk hnb hbl h.ho h.h1 h.h2 h.h3 he hr
   · exact sTake_other hT hv hL hts hdt hd f Ab cb hmf hnil hnk hnb hbl h.ho h.h1 h.h2 h.h3 he k n b hk (by omega) hb hop hwr
 | mark h he n b hrn =>
   subst hrn
   obtain ⟨hk, hn, hb, hop, hseq⟩ := hr
   unfold markedR
   cases hf : S.frame with
   | none => exact sTake_mark0 hT hv hL hts hdt hd f Ab cb hmf hnil hnk hnb hbl h.ho h.h1 h.h2 h.h3 he n b (by omega) hb hop hseq hf
   | some g =>
     by_cases hne : n = S.sent + 1
     · rw [if_pos ⟨rfl, hne⟩]
       cases hqu : S.queue with
       | nil => exact absurd hqu (hfq (by rw [hf]; rfl))
       | cons p qs => exact sTake_mark2 hT hv hL hts hdt hd f Ab cb hmf hnil hnk hnb hbl h.ho h.h1 h.h2 h.h3 he n b (by omega) hb hop hseq g p qs hf hqu hne (by omega)
     · rw [if_neg (fun h => hne h.2)]
       exact sTake_mark1 hT hv hL hts hdt hd f Ab cb hmf hnil hnk hnb hbl h.ho h.h1 h.h2 h.h3 he n b (by omega) hb hop hseq g hf hne (by omega)
 | again h he k n b hrn hk2 hle =>
   subst hrn
   obtain ⟨hk, hn, hb, hop, hseq⟩ := hr
   exact sTake_again hT hv hL hts hdt hd f Ab cb hmf hnil hnk hnb hbl h.ho h.h1 h.h2 h.h3 he k n b hk (by omega) hb hop hseq hk2 hle (by omega)
 | ahead h he k n b hrn hk2 hlt =>
   subst hrn
   obtain ⟨hk, hn, hb, hop, hseq⟩ := hr
   exact sTake_ahead hT hv hL hts hdt hd f Ab cb hmf hnil hnk hnb hbl h.ho h.h1 h.h2 h.h3 he k n b hk (by omega) hb hop hseq hk2 hlt (by omega)
 | data h he k b hrn hk2 hk3 =>
   subst hrn
   obtain ⟨hk, hn, hb, hop, hseq⟩ := hr
   exact sTake_data hT hv hL hts hdt hd f Ab cb hmf hnil hnk hnb hbl h.ho h.h1 h.h2 h.h3 he k _ b hk (by omega) hb hop hseq hk2 hk3 rfl (by omega)
 | rekey h he b hrn =>
   subst hrn
   obtain ⟨hk, hn, hb, hop, hseq⟩ := hr
   exact sTake_rekey hT hv hL hts hdt hd f Ab cb hmf hnil hnk hnb hbl h.ho h.h1 h.h2 h.h3 he _ b (by omega) hb hop hseq rfl (by omega) hei
theorem sPush_ok (hv : (rS G tb sb L S).Φ w) (hL : (rF L).Φ w) (hd : (rF L).dj (rS G tb sb L S)) (b : Bytes) (A : Option Addr) (c : Nat) (hb : SB w (.slice A b.length c) b) (hbd : (rSB (.slice A b.length c) b).dj (rS G tb sb L S)) (h : b.length <= 2048) (ho : S.over = false) (h8 : S.queue.length < 8) :
   Calls Try.prog 9 #[pt sb 0, .slice A b.length c] w (SPostR G tb sb w L (.int .i64 0) { S with queue := S.queue ++ [(1, b)] }) := by
 have := sPush_in hv hL hd b A c hb hbd (by omega) (by omega)
 rwa [show pushR S 1 b = (0, { S with queue := S.queue ++ [(1, b)] }) from (if_neg (by rw [ho]; decide)).trans (if_neg (by omega))] at this
theorem sPush_full (hv : (rS G tb sb L S).Φ w) (hL : (rF L).Φ w) (hd : (rF L).dj (rS G tb sb L S)) (b : Bytes) (A : Option Addr) (c : Nat) (hb : SB w (.slice A b.length c) b) (hbd : (rSB (.slice A b.length c) b).dj (rS G tb sb L S)) (h : b.length <= 2048) (ho : S.over = false) (h8 : S.queue.length = 8) :
   Calls Try.prog 9 #[pt sb 0, .slice A b.length c] w (SPostR G tb sb w L (.int .i64 8) S) := by
 have := sPush_in hv hL hd b A c hb hbd (by omega) (by omega)
 rwa [show pushR S 1 b = (8, S) from (if_neg (by rw [ho]; decide)).trans (if_pos h8)] at this
end
end
section
open Go.RowKit Go.QT
end
section
open Go.RowKit Go.QT
end
section
open Go.RowKit Go.QT
section
variable {F0 : Nat -> Prop} {w0 w w' : World} {ro rs : List Res} {L L' : List (Value × Bytes)} {o : Oper} {a : Act} {P : Program}
end
end
section
open Go.RowKit Go.QT
end
section
open Go.RowKit Go.QT
end
section
/-- The mark that answers. -/
structure MarkI (s : STab) (b : Ses) (n : Nat) (g : Frm) : Prop where
 src : g.src = b.me
 dst : g.dst = b.peer
 sid : g.sid = b.sid
 ep : g.epoch = (b.eo : Int)
 seq : g.seq = (n : Int)
 ex : ∃ j m, j < 1000000 /\ g.box = mkB 98 (j + 1) /\ s.boxes[j]? = some ⟨mkB 107 m, 14, wrV (contV 2 n [])⟩ /\ s.at_ (useF b.ko) = some m
/-- What a frame that is out does where it comes. -/
structure ExchI (s s' : STab) (a b b' : Ses) (Wa : Way) (f : Frm) (r : Option (Nat × Nat × Bytes)) (m : Option Bytes) (g : Frm) (e : Int) : Prop where
 said : Said s b f r
 told : Told b a Wa r
 take : TakeR s b f r s' b' m (some g) e
 got : b'.got = a.sent + 1
 mark : MarkI s' b' (a.sent + 1) g
 new : b.got = a.sent -> ∃ k c, Wa.P[a.sent]? = some (k, c) /\ e = 0 /\ m = if k = 1 then some c else none
 old : b.got ≠ a.sent -> m = none /\ e = 18
structure SmlS (S : Ses) : Prop where
 sent : S.sent <= 60
 got : S.got <= 60
 eo : S.eo <= 60
 ei : S.ei <= 60
 q : ∀ p ∈ S.queue, p.1 < 1000 /\ p.2.length <= 2048
 q8 : S.queue.length <= 8
 fq : S.frame.isSome -> S.queue ≠ []
theorem RecI.smallS {s : STab} {a b : Ses} {Wa Wb : Way} (h : RecI s a b Wa Wb) (pa : Wa.P.length <= 60) (pb : Wb.P.length <= 60) : SmlS a := by
 have hw := h.ab
 have hv := h.ba
 have h1 := hw.sl
 have h2 := hv.sl
 have h3 := hv.g2
 refine ⟨by omega, by omega, ?_, ?_, fun p hp => ?_, hw.q8, fun hf => ?_⟩
 · have := rks_take_all Wa.P (a.sent + a.fn); have := rks_len Wa.P; have := hw.eo; omega
 · have := rks_take_all Wb.P a.got; have := rks_len Wb.P; have := hv.ei; omega
 · rw [hw.q] at hp
   have := hw.kd p (List.mem_of_mem_drop hp); omega
 · obtain ⟨f, hf⟩ := Option.isSome_iff_exists.1 hf
   exact hw.fresh hf
theorem RecI.bodiesS {s : STab} {a b : Ses} {Wa Wb : Way} (h : RecI s a b Wa Wb) : ∀ x ∈ s.boxes, x.body.length <= 1000000 := fun x hx => by
 rcases h.box x hx with ⟨e, k, n, c, hb⟩ | ⟨e, k, n, c, hb⟩
 · obtain ⟨K, m, _, _, rfl⟩ := hb.ex
   have := cont_len k n c; have := hb.bb; show (wrV (contV k n c)).length <= _; omega
 · obtain ⟨K, m, _, _, rfl⟩ := hb.ex
   have := cont_len k n c; have := hb.bb; show (wrV (contV k n c)).length <= _; omega
section
variable {p q : ByteArray} {n : Nat} {T : Tk} {Wa Wb : Way} {c : Bytes} {s s' : STab} {a b a' S : Ses} {f g : Frm}
theorem open_is {K : Bytes} {m j : Nat} {u : Bytes} (hm : s.at_ (useF K) = some m) (hk : S.ki = K) (hb : s.boxes[j]? = some ⟨mkB 107 m, 14, u⟩) (hj : j < 1000000) : (openT s S).open_ (openK s S) 14 (mkB 98 (j + 1)) = some u := by
 have e : openK s S = mkB 107 m := by unfold openK; rw [hk, STab.num_of _ _ _ hm]
 rw [e]
 exact open_at (by rw [openT_boxes]; exact hb) hj
theorem markI_of (s : STab) (b : Ses) (n : Nat) (hb : s.boxes.length < 1000000) : MarkI (sealT s b 2 n []) b n (sealF s b n) :=
 ⟨rfl, rfl, rfl, rfl, rfl, s.boxes.length, s.num (useF b.ko), hb, rfl, by rw [sealT_boxes]; simp, sealT_at s b 2 n []⟩
theorem RecI.exch (h : RecI s a b Wa Wb) (hk : s.keys.length < 100000) (hbs : s.boxes.length < 100000) (hse : a.sent < 100000) (hf : a.frame = some f) (i1 : a.me = b.peer) (i2 : a.peer = b.me) (i3 : a.sid = b.sid) :
   ∃ s' b' r m g e, ExchI s s' a b b' Wa f r m g e := by
 have hw := h.ab
 have hF := hw.fr f hf
 obtain ⟨e, K, m, k, c, j, h1, h2, h3, h4, h5, h6, h7⟩ := hF.ex
 have hfn := fn_some hf
 have hg1 := hw.g1
 have hg2 := hw.g2
 rw [hfn] at hg2
 have hT := take_snoc h6
 have hei := hw.ei
 have hkd := hw.kd _ (List.mem_of_getElem? h6)
 have hkd1 : k = 1 ∨ k = 3 := hkd.1
 have hkd2 : c.length <= 2048 := hkd.2
 have hjl := (List.getElem?_eq_some_iff.1 h3).1
 have hfor : ForS b f := ⟨h.ba.ov, hF.src.trans i1, hF.dst.trans i2, hF.sid.trans i3⟩
 have hbk : b.over = false := h.ba.ov
 -- what is said, where the epoch is right
 have hsaid : b.ei = e -> Said s b f (some (k, a.sent + 1, c)) := fun he => by
   have hki : b.ki = K := by
     have := h.ab.ki; rw [he, h4] at this; exact (Option.some.inj this).symm
   exact ⟨by omega, by omega, hkd2, by rw [h2]; exact open_is h5 hki h3 (by omega), hF.seq⟩
 have htold : b.ei = e -> Told b a Wa (some (k, a.sent + 1, c)) := fun he =>
   ⟨fun e => by omega, fun _ => ⟨by omega, by rw [hfn]; exact Nat.le_refl _, h6, by rw [he, h7]; rfl⟩⟩
 by_cases hg : b.got = a.sent
 · have he : b.ei = e := by rw [hei, hg, h7]
   have hep : f.epoch = (b.ei : Int) := by rw [he]; exact h1
   rcases hkd1 with rfl | rfl
   · refine ⟨_, _, _, _, _, _, hsaid he, htold he, .data hfor hep 1 c (by rw [hg]) (by decide) (by decide), by show b.got + 1 = _; rw [hg], ?_, fun _ => ⟨1, c, h6, rfl, rfl⟩, fun hn => absurd hg hn⟩
     have := markI_of (openT s b) { b with got := b.got + 1 } (b.got + 1) (by rw [openT_boxes]; omega)
     rw [← hg]; exact this
   · refine ⟨_, _, _, _, _, _, hsaid he, htold he, .rekey hfor hep c (by rw [hg]), by show b.got + 1 = _; rw [hg], ?_, fun _ => ⟨3, c, h6, rfl, rfl⟩, fun hn => absurd hg hn⟩
     have hm := markI_of (openT s b) { b with got := b.got + 1 } (b.got + 1) (by rw [openT_boxes]; omega)
     obtain ⟨j, m, m1, m2, m3, m4⟩ := hm.ex
     have g2 := Grow0.made (sealT (openT s b) { b with got := b.got + 1 } 2 (b.got + 1) []) (nxtF b.ki)
     rw [← hg]
     exact ⟨rfl, rfl, rfl, rfl, rfl, j, m, m1, m2, g2.bx _ _ m3, g2.at_ _ _ m4⟩
 · have hg3 : b.got = a.sent + 1 := by omega
   rcases hkd1 with rfl | rfl
   · have he : b.ei = e := by rw [hei, hg3, hT, rks_snoc, if_neg (fun e => absurd (show (1 : Nat) = 3 from e) (by decide)), h7]; rfl
     have hep : f.epoch = (b.ei : Int) := by rw [he]; exact h1
     refine ⟨_, _, _, _, _, _, hsaid he, htold he, .again hfor hep 1 _ c rfl (by decide) (by omega), hg3, ?_, fun hn => absurd hn hg, fun _ => ⟨rfl, rfl⟩⟩
     rw [← hg3]
     exact markI_of (openT s b) b b.got (by rw [openT_boxes]; omega)
   · have he : b.ei = e + 1 := by rw [hei, hg3, hT, rks_snoc, if_pos rfl, h7]
     obtain ⟨r, hs, ht⟩ := h.symm.said hk f (by have := hF.seq; omega) (by have := hF.seq; omega)
     refine ⟨_, _, r, _, _, _, hs, ht, .old hfor (by omega) (by have := hF.seq; omega), hg3, ?_, fun hn => absurd hn hg, fun _ => ⟨rfl, rfl⟩⟩
     rw [← hg3]
     exact markI_of s b b.got (by omega)
theorem TakeR.grow {r : Option (Nat × Nat × Bytes)} {m' : Option Bytes} {n' : Option Frm} {er : Int} (h : TakeR s a f r s' a' m' n' er) : Grow0 s s' := by
 cases h with
 | over h => exact (Grow.refl s).z
 | wrong h => exact (Grow.refl s).z
 | old h => exact (sealT_grow s a 2 a.got []).z
 | epoch h => exact (Grow.refl s).z
 | shut h => exact (openT_grow s a).z
 | mark h he n b => exact (openT_grow s a).z
 | again h he k n b => exact ((openT_grow s a).trans (sealT_grow _ a 2 a.got [])).z
 | ahead h he k n b => exact (openT_grow s a).z
 | data h he k b => exact ((openT_grow s a).trans (sealT_grow _ _ 2 (a.got + 1) [])).z
 | rekey h he b => exact ((openT_grow s a).trans (sealT_grow _ _ 2 (a.got + 1) [])).z.trans (Grow0.made _ _)
theorem MarkI.grow {m : Nat} (h : MarkI s b m g) (gr : Grow0 s s') {b' : Ses} (h1 : b'.me = b.me) (h2 : b'.peer = b.peer) (h3 : b'.sid = b.sid) (h4 : b'.eo = b.eo) (h5 : b'.ko = b.ko) : MarkI s' b' m g :=
 ⟨h.src.trans h1.symm, h.dst.trans h2.symm, h.sid.trans h3.symm, by rw [h4]; exact h.ep, h.seq, by
   obtain ⟨j, m, m1, m2, m3, m4⟩ := h.ex
   exact ⟨j, m, m1, m2, gr.bx _ _ m3, by rw [h5]; exact gr.at_ _ _ m4⟩⟩
/-- The mark comes back. -/
theorem RecI.back (h : RecI s a b Wa Wb) (hf : a.frame = some f) (hm : MarkI s b (a.sent + 1) g) (hk : s.keys.length < 100000) (hse : a.sent < 100000) (hg : b.got = a.sent + 1) (i1 : b.me = a.peer) (i2 : b.peer = a.me) (i3 : b.sid = a.sid) :
   (a.ei = b.eo -> ∃ r, Said s a g r /\ Told a b Wb r /\ TakeR s a g r (openT s a) (markR a) none none 0) /\
   (a.ei ≠ b.eo -> ∃ r, Said s a g r /\ Told a b Wb r /\ TakeR s a g r s a none none 18) := by
 have hfor : ForS a g := ⟨h.ab.ov, hm.src.trans i1, hm.dst.trans i2, hm.sid.trans i3⟩
 have hseq := hm.seq
 have hep := hm.ep
 refine ⟨fun he => ?_, fun he => ?_⟩
 · obtain ⟨j, m, h1, h2, h3, h4⟩ := hm.ex
   have hki : a.ki = b.ko := by
     have h5 := h.ba.ki
     rw [he, h.ba.ks.ko] at h5
     exact (Option.some.inj h5).symm
   refine ⟨some (2, a.sent + 1, []), ⟨by omega, by omega, by simp, by rw [h2]; exact open_is h4 hki h3 h1, hseq⟩, ⟨fun _ => by omega, fun e => absurd rfl e⟩, ?_⟩
   have e1 : markedR a (a.sent + 1) = markR a := if_pos ⟨by rw [hf]; rfl, rfl⟩
   rw [← e1]
   exact .mark hfor (by rw [hep, he]) (a.sent + 1) [] rfl
 · obtain ⟨r, hs, ht⟩ := h.said hk g (by omega) (by omega)
   have hle : a.ei <= b.eo := by rw [h.ba.ei, h.ba.eo]; exact rks_take_le _ h.ba.g2
   exact ⟨r, hs, ht, .epoch hfor (by omega) (fun h => by omega)⟩
end
end
section
open Go.RowKit Go.QT
section
variable {F0 G : Nat -> Prop} {w0 w w' : World} {ro rs : List Res} {p n : Nat} {L L' : List (Value × Bytes)} {T : Tk} {o : Oper} {a : Act} {P : Program}
theorem x_topen (h : Hp F0 w0 w ro rs) (fn : FuncId) (hp : pureVal P (execOp a.eval o) = some (.enter fn #[])) (hc : Calls P fn #[] w (TOpenPost w L)) :
   OpTo P o a w (fun u w' => ∃ p G, u = pt p 0 /\ Hp F0 w0 w' ro (rT G p L tk0 :: rs)) :=
 OpTo.enter fn [] hp hc fun e w' hq => by
   obtain ⟨p, G, he, h2⟩ := hq
   exact ⟨_, he, p, G, rfl, h.call0 h2⟩
end
end
section
open Go.Value renaming int -> iV, slice -> lV, string -> sV, bool -> bV, agg -> aV
open Go.RowKit Go.QT
abbrev hiB : Bytes := [104, 105]
/-- The first end, once it has let "hi" wait. -/
def sA1 : Ses := { sA0 with queue := sA0.queue ++ [(1, hiB)] }
theorem recI1 : RecI sTab0 sA1 sB0 ⟨[(1, hiB)], [sA0.ko]⟩ ⟨[], [sA0.ki]⟩ := ti0.inv.push (k := 1) (c := hiB) (by decide) (.inl rfl) (by decide)
theorem alive20_any (w : World) : Calls Try.prog 7 #[] w fun e w' => e = .returned (.bool true) /\ Below w.heap.size w w' := by
 obtain ⟨L, hLe⟩ : ∃ L : List (Value × Bytes), L = [(lV none 0 0, [])] := ⟨_, rfl⟩
 have hnil : (lV none 0 0, ([] : Bytes)) ∈ L := by rw [hLe]; exact List.mem_cons_self
 have hL : (rF L).Φ w := fun p hp => by
   rw [hLe] at hp
   rw [List.mem_singleton.1 hp]
   exact SB.nil _ _ (Nat.zero_le _) _
 have h0 := Hp.ro1 (rF L) hL
 refine enter 125 Try.func7 rfl rfl ?_
 refine wp_reset 125 [] (fun x0 => ?_)
 refine wp_seq_k fun K1 hK1 => reg_lit ?_
 refine wq_p 1 [(0, (bV false))] ?_
 refine wl_end rfl (seq_n hK1 (wp_seq_k fun K2 hK2 => reg_lit ?_))
 refine wq_to (some 15) (x_snew h0 (by kernel_rfl)) ?_
 rintro _ w3 ⟨tb3, F3, rfl, h3⟩
 refine wq_p 1 [(1, (pt tb3 0))] ?_
 refine wl_end rfl (seq_n hK2 (wp_seq_k fun K4 hK4 => reg_lit ?_))
 refine wq_p 1 [(16, (pt tb3 0))] ?_
 refine wq_to (some 17) (x_fresh h3 0 rfl  (by kernel_rfl) (by decide)) ?_
 rintro _ w5 ⟨K5, F5, s5, rfl, hK5, hs5, h5⟩
 obtain rfl : s5 = STab.empty.add SFrom.fresh := hs5
 have hK0 : kl K5 = mkB 107 1 := hK5
 refine wq_to (some 2) (xN h5 59 (vb (List.replicate 16 0))) ?_
 rintro _ w6 ⟨g6, rfl, h6⟩
 refine wq_to none (xSs h6 0 59 (.tmp 2) (.tmp 17) 0 (vb (kl K5)) (vb (kl K5))) ?_
 rintro _ w7 h7
 refine wl_end rfl (seq_n hK4 (wp_seq_k fun K8 hK8 => ?_))
 refine pR_go h7 9 (fun W => (rBlk g6 59 (vb (kl K5))).Φ W /\ True) [(19, [1], 0), (20, [18], 1), (21, [2], 0), (22, [19, 20], 6), (23, [1], 0), (24, [22], 16), (25, [2], 0), (26, [23, 24], 104), (4, [21], 143), (5, [25], 511)] rfl (fun _ d _ _ _ h => by cases d <;> exact h) ?_
 intro hs9 w9 h9
 refine pR_p 6 [0, 1, 4, 5] [(23, (Value.iface 28 (pt tb3 0))), (22, (pt tb3 0)), (19, (Value.iface 28 (pt tb3 0))), (18, (pt tb3 0))] 51 hs9 ⟨h9.at_ 0 rfl, trivial⟩ ?_
 refine pR_v 2 (some 20) (aV (vb (kl K5)).toArray) 55 rfl hs9 ⟨h9.at_ 0 rfl, trivial⟩ (fun W hW => eLs hW.1 59 (.tmp 2) 0 (vb (kl K5))) ?_
 refine pR_v 6 (some 24) (aV (vb (kl K5)).toArray) 119 rfl hs9 ⟨h9.at_ 0 rfl, trivial⟩ (fun W hW => eLs hW.1 59 (.tmp 2) 0 (vb (kl K5))) ?_
 refine pR_to 3 (some 21) 127 rfl hs9 (x_sNew (s' := (newKeys (STab.empty.add SFrom.fresh) (kl K5)).2.2) (S := (Ses.mk (⟨#[97, 110, 110]⟩) (⟨#[98, 111, 98]⟩) 7 (newKeys (STab.empty.add SFrom.fresh) (kl K5)).1 0 (newKeys (STab.empty.add SFrom.fresh) (kl K5)).2.1 0 [] 0 0 none false)) h9 1 rfl L 25 [(Value.iface 28 (pt tb3 0)), (sV (⟨#[97, 110, 110]⟩)), (sV (⟨#[98, 111, 98]⟩)), (iV .i64 7), (aV (vb (kl K5)).toArray), (bV true)] (by kernel_rfl) (sNew_true _ tb3 _ K5 (⟨#[97, 110, 110]⟩) (⟨#[98, 111, 98]⟩) 7 _ (h9.at_ 1 rfl) (by decide))) ?_
 rintro _ w10 ⟨sb10, G10, F10, rfl, h10⟩
 refine ⟨fun _ => ⟨h10.at_ 2 rfl, trivial⟩, ?_⟩
 have hnk2 : (newKeys (STab.empty.add SFrom.fresh) (kl K5)).2.2.keys.length < 900000 := by rw [hK0]; exact Nat.lt_of_le_of_lt (Nat.le_of_eq keys0) (by decide)
 refine pR_to 7 (some 25) 255 rfl hs9 (x_sNew (s' := (newKeys (newKeys (STab.empty.add SFrom.fresh) (kl K5)).2.2 (kl K5)).2.2) (S := (Ses.mk (⟨#[98, 111, 98]⟩) (⟨#[97, 110, 110]⟩) 7 (newKeys (newKeys (STab.empty.add SFrom.fresh) (kl K5)).2.2 (kl K5)).2.1 0 (newKeys (newKeys (STab.empty.add SFrom.fresh) (kl K5)).2.2 (kl K5)).1 0 [] 0 0 none false)) h10 0 rfl L 25 [(Value.iface 28 (pt tb3 0)), (sV (⟨#[98, 111, 98]⟩)), (sV (⟨#[97, 110, 110]⟩)), (iV .i64 7), (aV (vb (kl K5)).toArray), (bV false)] (by kernel_rfl) (sNew_false _ tb3 _ K5 (⟨#[98, 111, 98]⟩) (⟨#[97, 110, 110]⟩) 7 _ (h10.at_ 0 rfl) hnk2)) ?_
 rintro _ w11 ⟨sb11, G11, F11, rfl, h11⟩
 refine ⟨fun _ => ⟨h11.at_ 3 rfl, trivial⟩, ?_⟩
 refine pR_p 1 [8] [(3, (pt sb10 0))] 511 hs9 ⟨h11.at_ 3 rfl, trivial⟩ ?_
 refine pR_to 9 (some 4) 1023 rfl hs9 (OpTo.run (pt sb11 0) (pureOp_run (by kernel_rfl) _) (R := fun v w => v = (pt sb11 0) /\ w11 = w) ⟨rfl, rfl⟩) ?_
 rintro _ _ ⟨rfl, rfl⟩
 refine ⟨fun h => absurd h (by decide), ?_⟩
 refine pR_done hs9 ?_ _
 refine seq_n hK8 (wp_seq_k fun K12 hK12 => wp_seq_k fun K13 hK13 => ?_)
 have hz0 := h11
 rw [hK0, newKeys_again] at hz0
 have h14 := hz0.sel [0, 2, 1] [0] (ro' := [rF L]) (rs' := [rTab F11 tb3 sTab0, rS G10 tb3 sb10 L sA0, rS G11 tb3 sb11 L sB0]) rfl rfl rfl
 refine reg_lit ?_
 refine wq_p 8 [(33, (pt sb10 0)), (32, (bV false)), (31, (bV false)), (30, (bV false)), (29, (pt sb11 0)), (28, (bV false)), (27, (bV false)), (26, (pt sb10 0))] ?_
 refine wq_to (some 34) (x_bsl h14 [104, 105] (by kernel_rfl)) ?_
 rintro _ w15 ⟨g15, rfl, hw15, hg15, hq15, h15⟩
 refine wq_to (some 35) (x_bcv hq15 [104, 105] hw15 g15 hg15 (.tmp 34) (by kernel_rfl) (by kernel_rfl) (by decide)) ?_
 rintro _ w16 ⟨rfl, h16⟩
 refine wq_to (some 36) (x_ses h16 1 rfl 1 rfl 9 [(pt sb10 0), (lV (some ⟨g15, 0, none⟩) 2 2)] (by kernel_rfl) (sPush_ok (h16.at_ 1 rfl) (h16.rd 1 rfl) (h16.rdis 1 1 _ _ rfl rfl) hiB _ _ (h16.rd 0 rfl) (h16.rdis 0 1 _ _ rfl rfl) (by decide) rfl (by decide))) ?_
 rintro _ w17 ⟨G17, L17, rfl, hs17, hx17, h17⟩
 refine wq_p 2 [(38, (bV false)), (37, (bV false))] ?_
 refine wl_end rfl (seq_n hK13 (cF (wp_skip (seq_n hK12 (wp_seq_k fun K18 hK18 => ?_)))))
 refine wp_reset 125 [(0, (bV false)), (1, (pt tb3 0)), (2, (pt g6 0)), (3, (pt sb10 0)), (4, (pt sb11 0)), (38, (bV false))] (fun x19 => ?_)
 have hm1 := recI1.smallS (by decide) (by decide)
 obtain ⟨s2, a2, m2, hr2⟩ := send_ex sTab0 sA1
 obtain ⟨W2, hS2⟩ := recI1.send hr2 (by rw [keys0]; decide) (by decide)
 obtain ⟨f, rfl⟩ : ∃ f, m2 = some f := Option.isSome_iff_exists.1 (hS2.is.trans (decide_eq_true (by decide)))
 have hf2 : a2.frame = some f := hS2.fr f rfl
 have hR2 : RecI s2 a2 sB0 W2 ⟨[], [sA0.ki]⟩ := hS2.inv
 have hP2 : W2.P = [(1, hiB)] := hS2.p
 have hse2 : a2.sent = 0 := hS2.sent
 have hks2 : s2.keys.length <= 5 := by have := hS2.ks; rw [keys0] at this; omega
 have hbs2 : s2.boxes.length <= 1 := by have := hS2.bs; rw [boxes0] at this; simpa using this
 obtain ⟨s3, b3, r3, m3, g3, e3, hE3⟩ := hR2.exch (by omega) (by omega) (by omega) hf2 hS2.me hS2.peer hS2.sid
 obtain ⟨k3, c3, hp3, rfl, hm3⟩ := hE3.new hse2.symm
 rw [hP2, hse2] at hp3
 obtain ⟨rfl, rfl⟩ : k3 = 1 /\ c3 = hiB := by injection hp3 with hp3; injection hp3 with h1 h2; exact ⟨h1.symm, h2.symm⟩
 obtain rfl : m3 = some hiB := hm3
 have hT3 := hR2.symm.took hE3.take hE3.told (by omega) (by decide)
 have hR3 : RecI s3 a2 b3 W2 ⟨[], [sA0.ki]⟩ := hT3.inv.symm
 have hks3 : s3.keys.length <= 9 := by have := hT3.ks; omega
 have hbs3 : s3.boxes.length <= 2 := by have := hT3.bs; omega
 obtain ⟨s4, b4, r4, m4, g4, e4, hE4⟩ := hR3.exch (by omega) (by omega) (by omega) hf2 (hS2.me.trans hT3.peer.symm) (hS2.peer.trans hT3.me.symm) (hS2.sid.trans hT3.sid.symm)
 obtain ⟨rfl, rfl⟩ := hE4.old (by rw [hE3.got]; omega)
 have hgot3 := hE3.got
 have hT4 := hR3.symm.took hE4.take hE4.told (by omega) (by omega)
 have hR4 : RecI s4 a2 b4 W2 ⟨[], [sA0.ki]⟩ := hT4.inv.symm
 have hks4 : s4.keys.length <= 13 := by have := hT4.ks; omega
 have hbs4 : s4.boxes.length <= 3 := by have := hT4.bs; omega
 have hmk := hE3.mark.grow hE4.take.grow hT4.me hT4.peer hT4.sid hT4.eo hT4.ko
 have hei : a2.ei = b4.eo := by
   have h1 := hR4.ba.ei
   have h2 := hR4.ba.eo
   simp only [List.take_nil] at h1 h2
   rw [h1, h2]
 have hi1 : b4.me = a2.peer := (hT4.me.trans hT3.me).trans hS2.peer.symm
 have hi2 : b4.peer = a2.me := (hT4.peer.trans hT3.peer).trans hS2.me.symm
 have hi3 : b4.sid = a2.sid := (hT4.sid.trans hT3.sid).trans hS2.sid.symm
 obtain ⟨r5, hsd5, htd5, hr5⟩ := (hR4.back hf2 hmk (by omega) (by omega) hE4.got hi1 hi2 hi3).1 hei
 have hT5 := hR4.took hr5 htd5 (by omega) (by have : a2.got = 0 := hS2.got; omega)
 have hR5 : RecI (openT s4 a2) (markR a2) b4 W2 ⟨[], [sA0.ki]⟩ := hT5.inv
 have hks5 : (openT s4 a2).keys.length <= 17 := by have := hT5.ks; omega
 have hbs5 : (openT s4 a2).boxes.length <= 4 := by have := hT5.bs; omega
 obtain ⟨s6, a6, m6, hr6⟩ := send_ex (openT s4 a2) (markR a2)
 have hse5 : (markR a2).sent <= 1 := by show a2.sent + 1 <= 1; omega
 obtain ⟨W6, hS6⟩ := hR5.send hr6 (by omega) (by omega)
 have hq5 : (markR a2).queue = [] := by show a2.queue.tail = []; rw [hS2.q]; rfl
 obtain rfl : m6 = none := by
   have := hS6.is
   rw [hq5] at this
   cases m6 with
   | none => rfl
   | some x => exact absurd (show true = decide (([] : List (Nat × Bytes)) ≠ []) from this) (by decide)
 have hPl : W2.P.length <= 60 := by rw [hP2]; decide
 have hm2 := hR2.symm.smallS (by decide) hPl
 have hm3b := hR3.symm.smallS (by decide) hPl
 have hm4 := hR4.smallS hPl (by decide)
 have hm5 := hR5.smallS hPl (by decide)
 have hsq : f.seq = 1 := by have := (hR2.ab.fr f hf2).seq; rw [hse2] at this; exact this
 have hq6 : a6.queue = [] := hS6.q.trans hq5
 have hpe : a6.peer = sBob := (hS6.peer.trans hT5.peer).trans hS2.peer
 have hsi : b4.sid = 7 := (hT4.sid.trans hT3.sid)
 refine reg_lit ?_
 refine wq_p 1 [(40, (pt sb10 0))] ?_
 refine wq_to (some 41) (x_two h17 0 1 rfl rfl (by kernel_rfl) 0 rfl 11 [(pt sb10 0)] (by kernel_rfl) (send_of (h17.at_ 0 rfl) (h17.at_ 1 rfl) (h17.rd 0 rfl) (h17.dis 0 1 _ _ rfl rfl (by decide)) (h17.rdis 0 0 _ _ rfl rfl) (h17.rdis 0 1 _ _ rfl rfl) hr2 hm1.q (by decide) (by decide) (by rw [keys0]; decide) (by rw [boxes0]; decide))) ?_
 rintro _ w20 ⟨F20, G20, L20, ⟨_, rfl, Af20, cf20, rfl, hmf20⟩, hs20, hx20, h20⟩
 refine wq_p 3 [(43, (bV true)), (42, (aV ([(sV f.src), (sV f.dst), (iV .i64 f.sid), (iV .i64 f.epoch), (iV .i64 f.seq), (lV Af20 f.box.length cf20)]).toArray)), (39, (Value.tuple #[(aV ([(sV f.src), (sV f.dst), (iV .i64 f.sid), (iV .i64 f.epoch), (iV .i64 f.seq), (lV Af20 f.box.length cf20)]).toArray), (bV true)]))] ?_
 refine wq_to (some 5) (xN h20 38 ([(sV ByteArray.empty), (sV ByteArray.empty), (iV .i64 0), (iV .i64 0), (iV .i64 0), (lV none 0 0)])) ?_
 rintro _ w21 ⟨g21, rfl, h21⟩
 refine wq_to none (xSs h21 0 38 (.tmp 5) (.tmp 42) 0 ([(sV f.src), (sV f.dst), (iV .i64 f.sid), (iV .i64 f.epoch), (iV .i64 f.seq), (lV Af20 f.box.length cf20)]) ([(sV f.src), (sV f.dst), (iV .i64 f.sid), (iV .i64 f.epoch), (iV .i64 f.seq), (lV Af20 f.box.length cf20)])) ?_
 rintro _ w22 h22
 refine wq_p 1 [(6, (bV true))] ?_
 refine wl_end rfl (seq_n hK18 (wp_seq_k fun K23 hK23 => ?_))
 refine wp_reset 125 [(0, (bV false)), (1, (pt tb3 0)), (2, (pt g6 0)), (3, (pt sb10 0)), (4, (pt sb11 0)), (5, (pt g21 0)), (6, (bV true)), (38, (bV false))] (fun x24 => ?_)
 refine reg_lit ?_
 refine wq_p 1 [(45, (pt sb11 0))] (wq_v (some 46) (aV ([(sV f.src), (sV f.dst), (iV .i64 f.sid), (iV .i64 f.epoch), (iV .i64 f.seq), (lV Af20 f.box.length cf20)]).toArray) (eLs (h22.at_ 0 rfl) 38 (.tmp 5) 0 ([(sV f.src), (sV f.dst), (iV .i64 f.sid), (iV .i64 f.epoch), (iV .i64 f.seq), (lV Af20 f.box.length cf20)])) ?_)
 have hq25 := h22.monoS 3 rfl (fun p hp => (hs20 _ (hs17 _ hp)))
 refine wq_to (some 47) (x_two hq25 1 3 rfl rfl (by kernel_rfl) 0 rfl 12 [(pt sb11 0), (aV ([(sV f.src), (sV f.dst), (iV .i64 f.sid), (iV .i64 f.epoch), (iV .i64 f.seq), (lV Af20 f.box.length cf20)]).toArray)] (by kernel_rfl) (take_of (hq25.at_ 1 rfl) (hq25.at_ 3 rfl) (hq25.rd 0 rfl) (hq25.dis 1 3 _ _ rfl rfl (by decide)) (hq25.rdis 0 1 _ _ rfl rfl) (hq25.rdis 0 3 _ _ rfl rfl) hE3.take Af20 cf20 hmf20 (hs20 _ (hs17 _ hnil)) hE3.said (by omega) (by omega) hR2.bodiesS (by decide) (by decide) (by decide) hm2.fq)) ?_
 rintro _ w26 ⟨F26, G26, L26, ⟨_, rfl, Ac26, cc26, _, rfl, hmc26, Ag26, cg26, rfl, hmg26⟩, hs26, hx26, h26⟩
 refine wq_p 3 [(49, (iV .i64 0)), (48, (aV ([(lV Ac26 2 cc26), (bV true), (sV g3.src), (sV g3.dst), (iV .i64 g3.sid), (iV .i64 g3.epoch), (iV .i64 g3.seq), (lV Ag26 g3.box.length cg26), (bV true)]).toArray)), (44, (Value.tuple #[(aV ([(lV Ac26 2 cc26), (bV true), (sV g3.src), (sV g3.dst), (iV .i64 g3.sid), (iV .i64 g3.epoch), (iV .i64 g3.seq), (lV Ag26 g3.box.length cg26), (bV true)]).toArray), (iV .i64 0)]))] ?_
 refine wq_to (some 7) (xN h26 42 ([(lV none 0 0), (bV false), (sV ByteArray.empty), (sV ByteArray.empty), (iV .i64 0), (iV .i64 0), (iV .i64 0), (lV none 0 0), (bV false)])) ?_
 rintro _ w27 ⟨g27, rfl, h27⟩
 refine wq_to none (xSs h27 0 42 (.tmp 7) (.tmp 48) 0 ([(lV Ac26 2 cc26), (bV true), (sV g3.src), (sV g3.dst), (iV .i64 g3.sid), (iV .i64 g3.epoch), (iV .i64 g3.seq), (lV Ag26 g3.box.length cg26), (bV true)]) ([(lV Ac26 2 cc26), (bV true), (sV g3.src), (sV g3.dst), (iV .i64 g3.sid), (iV .i64 g3.epoch), (iV .i64 g3.seq), (lV Ag26 g3.box.length cg26), (bV true)])) ?_
 rintro _ w28 h28
 refine wq_p 1 [(8, (iV .i64 0))] ?_
 refine wl_end rfl (seq_n hK23 (wp_seq_k fun K29 hK29 => reg_lit ?_))
 refine wq_p 1 [(51, (pt sb11 0))] (wq_v (some 52) (aV ([(sV f.src), (sV f.dst), (iV .i64 f.sid), (iV .i64 f.epoch), (iV .i64 f.seq), (lV Af20 f.box.length cf20)]).toArray) (eLs (h28.at_ 1 rfl) 38 (.tmp 5) 0 ([(sV f.src), (sV f.dst), (iV .i64 f.sid), (iV .i64 f.epoch), (iV .i64 f.seq), (lV Af20 f.box.length cf20)])) ?_)
 refine wq_to (some 53) (x_two h28 2 4 rfl rfl (by kernel_rfl) 0 rfl 12 [(pt sb11 0), (aV ([(sV f.src), (sV f.dst), (iV .i64 f.sid), (iV .i64 f.epoch), (iV .i64 f.seq), (lV Af20 f.box.length cf20)]).toArray)] (by kernel_rfl) (take_of (h28.at_ 2 rfl) (h28.at_ 4 rfl) (h28.rd 0 rfl) (h28.dis 2 4 _ _ rfl rfl (by decide)) (h28.rdis 0 2 _ _ rfl rfl) (h28.rdis 0 4 _ _ rfl rfl) hE4.take Af20 cf20 (hs26 _ hmf20) (hs26 _ (hs20 _ (hs17 _ hnil))) hE4.said (by omega) (by omega) hR3.bodiesS (by have := hm3b.sent; omega) (by omega) (by have := hm3b.ei; omega) hm3b.fq)) ?_
 rintro _ w30 ⟨F30, G30, L30, ⟨_, rfl, Ac30, cc30, _, rfl, hmc30, Ag30, cg30, rfl, hmg30⟩, hs30, hx30, h30⟩
 refine wq_p 3 [(55, (iV .i64 18)), (54, (aV ([(lV Ac30 0 cc30), (bV false), (sV g4.src), (sV g4.dst), (iV .i64 g4.sid), (iV .i64 g4.epoch), (iV .i64 g4.seq), (lV Ag30 g4.box.length cg30), (bV true)]).toArray)), (50, (Value.tuple #[(aV ([(lV Ac30 0 cc30), (bV false), (sV g4.src), (sV g4.dst), (iV .i64 g4.sid), (iV .i64 g4.epoch), (iV .i64 g4.seq), (lV Ag30 g4.box.length cg30), (bV true)]).toArray), (iV .i64 18)]))] ?_
 refine wq_to (some 9) (xN h30 42 ([(lV none 0 0), (bV false), (sV ByteArray.empty), (sV ByteArray.empty), (iV .i64 0), (iV .i64 0), (iV .i64 0), (lV none 0 0), (bV false)])) ?_
 rintro _ w31 ⟨g31, rfl, h31⟩
 refine wq_to none (xSs h31 0 42 (.tmp 9) (.tmp 54) 0 ([(lV Ac30 0 cc30), (bV false), (sV g4.src), (sV g4.dst), (iV .i64 g4.sid), (iV .i64 g4.epoch), (iV .i64 g4.seq), (lV Ag30 g4.box.length cg30), (bV true)]) ([(lV Ac30 0 cc30), (bV false), (sV g4.src), (sV g4.dst), (iV .i64 g4.sid), (iV .i64 g4.epoch), (iV .i64 g4.seq), (lV Ag30 g4.box.length cg30), (bV true)])) ?_
 rintro _ w32 h32
 refine wq_p 1 [(10, (iV .i64 18))] ?_
 refine wl_end rfl (seq_n hK29 (wp_seq_k fun K33 hK33 => reg_lit ?_))
 refine wq_p 2 [(58, (pt g27 2)), (57, (pt sb10 0))] (wq_v (some 59) (aV ([(sV g3.src), (sV g3.dst), (iV .i64 g3.sid), (iV .i64 g3.epoch), (iV .i64 g3.seq), (lV Ag26 g3.box.length cg26)]).toArray) (eLs (h32.at_ 1 rfl) 38 (.tmp 58) 2 ([(sV g3.src), (sV g3.dst), (iV .i64 g3.sid), (iV .i64 g3.epoch), (iV .i64 g3.seq), (lV Ag26 g3.box.length cg26)])) ?_)
 have hq34 := h32.monoS 4 rfl (fun p hp => (hs30 _ (hs26 _ hp)))
 refine wq_to (some 60) (x_two hq34 3 4 rfl rfl (by kernel_rfl) 0 rfl 12 [(pt sb10 0), (aV ([(sV g3.src), (sV g3.dst), (iV .i64 g3.sid), (iV .i64 g3.epoch), (iV .i64 g3.seq), (lV Ag26 g3.box.length cg26)]).toArray)] (by kernel_rfl) (take_of (hq34.at_ 3 rfl) (hq34.at_ 4 rfl) (hq34.rd 0 rfl) (hq34.dis 3 4 _ _ rfl rfl (by decide)) (hq34.rdis 0 3 _ _ rfl rfl) (hq34.rdis 0 4 _ _ rfl rfl) hr5 Ag26 cg26 (hs30 _ hmg26) (hs30 _ (hs26 _ (hs20 _ (hs17 _ hnil)))) hsd5 (by omega) (by omega) hR4.bodiesS (by have := hm4.sent; omega) (by have := hm4.got; omega) (by have := hm4.ei; omega) hm4.fq)) ?_
 rintro _ w35 ⟨F35, G35, L35, ⟨_, rfl, Ac35, cc35, _, rfl, hmc35, rfl⟩, hs35, hx35, h35⟩
 refine wq_p 3 [(62, (iV .i64 0)), (61, (aV ([(lV Ac35 0 cc35), (bV false), (sV ByteArray.empty), (sV ByteArray.empty), (iV .i64 0), (iV .i64 0), (iV .i64 0), (lV none 0 0), (bV false)]).toArray)), (56, (Value.tuple #[(aV ([(lV Ac35 0 cc35), (bV false), (sV ByteArray.empty), (sV ByteArray.empty), (iV .i64 0), (iV .i64 0), (iV .i64 0), (lV none 0 0), (bV false)]).toArray), (iV .i64 0)]))] ?_
 refine wq_to (some 11) (xN h35 42 ([(lV none 0 0), (bV false), (sV ByteArray.empty), (sV ByteArray.empty), (iV .i64 0), (iV .i64 0), (iV .i64 0), (lV none 0 0), (bV false)])) ?_
 rintro _ w36 ⟨g36, rfl, h36⟩
 refine wq_to none (xSs h36 0 42 (.tmp 11) (.tmp 61) 0 ([(lV Ac35 0 cc35), (bV false), (sV ByteArray.empty), (sV ByteArray.empty), (iV .i64 0), (iV .i64 0), (iV .i64 0), (lV none 0 0), (bV false)]) ([(lV Ac35 0 cc35), (bV false), (sV ByteArray.empty), (sV ByteArray.empty), (iV .i64 0), (iV .i64 0), (iV .i64 0), (lV none 0 0), (bV false)])) ?_
 rintro _ w37 h37
 refine wq_p 1 [(12, (iV .i64 0))] ?_
 refine wl_end rfl (seq_n hK33 (wp_seq_k fun K38 hK38 => reg_lit ?_))
 refine wq_p 1 [(64, (pt sb10 0))] ?_
 refine wq_to (some 65) (x_two h37 4 5 rfl rfl (by kernel_rfl) 0 rfl 11 [(pt sb10 0)] (by kernel_rfl) (send_of (h37.at_ 4 rfl) (h37.at_ 5 rfl) (h37.rd 0 rfl) (h37.dis 4 5 _ _ rfl rfl (by decide)) (h37.rdis 0 4 _ _ rfl rfl) (h37.rdis 0 5 _ _ rfl rfl) hr6 hm5.q (by omega) (by have := hm5.eo; omega) (by omega) (by omega))) ?_
 rintro _ w39 ⟨F39, G39, L39, ⟨_, rfl, rfl⟩, hs39, hx39, h39⟩
 refine wq_p 3 [(67, (bV false)), (66, (aV ([(sV ByteArray.empty), (sV ByteArray.empty), (iV .i64 0), (iV .i64 0), (iV .i64 0), (lV none 0 0)]).toArray)), (63, (Value.tuple #[(aV ([(sV ByteArray.empty), (sV ByteArray.empty), (iV .i64 0), (iV .i64 0), (iV .i64 0), (lV none 0 0)]).toArray), (bV false)]))] ?_
 refine wq_to (some 13) (xN h39 38 ([(sV ByteArray.empty), (sV ByteArray.empty), (iV .i64 0), (iV .i64 0), (iV .i64 0), (lV none 0 0)])) ?_
 rintro _ w40 ⟨g40, rfl, h40⟩
 refine wq_to none (xSs h40 0 38 (.tmp 13) (.tmp 66) 0 ([(sV ByteArray.empty), (sV ByteArray.empty), (iV .i64 0), (iV .i64 0), (iV .i64 0), (lV none 0 0)]) ([(sV ByteArray.empty), (sV ByteArray.empty), (iV .i64 0), (iV .i64 0), (iV .i64 0), (lV none 0 0)])) ?_
 rintro _ w41 h41
 refine wq_p 1 [(14, (bV false))] ?_
 refine wl_end rfl (seq_n hK38 (wp_seq_k fun K42 hK42 => ?_))
 refine wp_reset 125 [(0, (bV false)), (1, (pt tb3 0)), (2, (pt g6 0)), (3, (pt sb10 0)), (4, (pt sb11 0)), (5, (pt g21 0)), (6, (bV true)), (7, (pt g27 0)), (8, (iV .i64 0)), (10, (iV .i64 18)), (11, (pt g36 0)), (12, (iV .i64 0)), (14, (bV false)), (38, (bV false))] (fun x43 => ?_)
 have h44 := h41.roF 0 rfl (hs39 _ (hs35 _ (hs30 _ hmc26)))
 refine reg_lit ?_
 refine wq_p 7 [(74, (pt g27 1)), (73, (bV true)), (72, (bV true)), (71, (bV true)), (70, (iV .i64 0)), (69, (bV true)), (68, (bV true))] (wq_v (some 75) (bV true) (eL (h44.at_ 3 rfl) 4 (.tmp 74) 1 _) (wq_p 3 [(78, (pt g27 0)), (77, (bV true)), (76, (bV true))] (wq_v (some 79) (lV Ac26 2 cc26) (eL (h44.at_ 3 rfl) 26 (.tmp 78) 0 _) ?_)))
 refine wq_to (some 80) (x_bsl h44 [104, 105] (by kernel_rfl)) ?_
 rintro _ w45 ⟨g45, rfl, hw45, hg45, hq45, h45⟩
 refine wq_to (some 81) (x_bcv hq45 [104, 105] hw45 g45 hg45 (.tmp 80) (by kernel_rfl) (by kernel_rfl) (by decide)) ?_
 rintro _ w46 ⟨rfl, h46⟩
 refine wq_to (some 82) (x_same h46 hiB ([104, 105]) (lV Ac26 2 cc26) (lV (some ⟨g45, 0, none⟩) 2 2) (by kernel_rfl) (h46.rd 1 rfl) (h46.rd 0 rfl) true (by decide)) ?_
 rintro _ w47 ⟨rfl, h47⟩
 refine wq_p 3 [(85, (pt g27 8)), (84, (bV true)), (83, (bV true))] (wq_v (some 86) (bV true) (eL (h47.at_ 3 rfl) 4 (.tmp 85) 8 _) (wq_p 11 [(97, (pt g36 1)), (96, (bV true)), (95, (bV true)), (94, (bV true)), (93, (iV .i64 0)), (92, (bV true)), (91, (bV true)), (90, (bV true)), (89, (iV .i64 18)), (88, (bV true)), (87, (bV true))] (wq_v (some 98) (bV false) (eL (h47.at_ 1 rfl) 4 (.tmp 97) 1 _) ?_)))
 refine wq_p 8 [(106, (pt sb10 0)), (105, (bV true)), (104, (bV true)), (103, (bV true)), (102, (bV false)), (101, (bV true)), (100, (bV true)), (99, (bV true))] ?_
 refine wq_to (some 107) (x_dp h47 10 [(pt sb10 0)] (by kernel_rfl) (waits_any (h47.at_ 6 rfl))) ?_
 rintro _ w48 ⟨rfl, h48⟩
 refine wq_v (some 108) (.bool true) (eqI (bV (((a6.queue.length : Int)) == 0)) (congrArg bV (by rw [hq6]; rfl))) (wq_p 3 [(111, (pt sb10 0)), (110, (bV true)), (109, (bV true))] ?_)
 refine wq_to (some 112) (x_dp h48 26 [(pt sb10 0)] (by kernel_rfl) (peer_any (h48.at_ 6 rfl))) ?_
 rintro _ w49 ⟨rfl, h49⟩
 refine wq_v (some 113) (.bool true) (eqI (bV ((a6.peer).toList == (⟨#[98, 111, 98]⟩ : ByteArray).toList)) (congrArg bV (by rw [hpe]; exact beq_iff_eq.2 rfl))) (wq_p 3 [(116, (pt sb11 0)), (115, (bV true)), (114, (bV true))] ?_)
 refine wq_to (some 117) (x_dp h49 27 [(pt sb11 0)] (by kernel_rfl) (sid_any (h49.at_ 7 rfl))) ?_
 rintro _ w50 ⟨rfl, h50⟩
 refine wq_v (some 118) (.bool true) (eqI (bV (b4.sid == 7)) (congrArg bV (by rw [hsi]; rfl))) (wq_p 3 [(121, (pt g21 4)), (120, (bV true)), (119, (bV true))] (wq_v (some 122) (iV .i64 f.seq) (eL (h50.at_ 4 rfl) 2 (.tmp 121) 4 _) (wq_v (some 123) (.bool true) (eqI (bV (f.seq == 1)) (congrArg bV (by rw [hsq]; rfl))) ?_)))
 refine wq_p 2 [(0, (bV true)), (124, (bV true))] ?_
 refine wl_end rfl (seq_n hK42 (wp_ret ?_))
 refine post_1 rfl (by kernel_rfl) (rtm (bV true)) ?_
 exact ⟨rfl, h50.below0⟩
end
section
open Go.ChangeShapes Go.WideShapes Go.ChangeAt Go.RowKit
set_option maxRecDepth 100000
variable {H : Type} {enc : TypeId × Value -> H} {w : World} {base : Nat} {spare : Nat -> Bool} {held : Bool}
theorem c22 : Try.prog.cellsOf 58 = 16 := by kernel_rfl
theorem c5 : Try.prog.cellsOf 5 = 1 := by kernel_rfl
end
end Go.Proofs.Ytjalodhdjollhaa
