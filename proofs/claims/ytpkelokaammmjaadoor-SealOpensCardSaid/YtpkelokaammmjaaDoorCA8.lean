/- The walk of compeerref03.Digest: laws on what is laid behind the bytes. (Texts laid one behind the other: RShW, RShA, RShB, RShD.) -/
import Derived.Test.YtpkelokaammmjaaDoorCA7
/-! The words of a block, as compeerref03 lays them: the program's. -/
section
namespace Go.Proofs.YtpkelokaammmjaaDoor
theorem or_add (a b k : Nat) (h : b < 2 ^ k) : a * 2 ^ k ||| b = a * 2 ^ k + b := by
  have := Nat.shiftLeft_add_eq_or_of_lt h a
  rw [Nat.shiftLeft_eq] at this
  exact this.symm
theorem four_or (a b c d : Nat) (hb : b < 256) (hc : c < 256) (hd : d < 256) : ((a * 2 ^ 24 ||| b * 2 ^ 16) ||| c * 2 ^ 8) ||| d = ((a * 256 + b) * 256 + c) * 256 + d := by
  rw [or_add a (b * 2 ^ 16) 24 (by omega), show a * 2 ^ 24 + b * 2 ^ 16 = (a * 256 + b) * 2 ^ 16 by omega, or_add _ (c * 2 ^ 8) 16 (by omega),
    show (a * 256 + b) * 2 ^ 16 + c * 2 ^ 8 = ((a * 256 + b) * 256 + c) * 2 ^ 8 by omega, or_add _ d 8 (by omega)]
theorem wsl_w8 (x : UInt8) (k : Nat) (h : k ≤ 24) : (wsl (w8 x) k).toNat = x.toNat * 2 ^ k := by
  have hx := x.toNat_lt
  have hk : 2 ^ k ≤ 2 ^ 24 := Nat.pow_le_pow_right (by omega) h
  have h1 : (w8 x).toNat = x.toNat := by unfold w8; rw [UInt32.toNat_ofNat']; omega
  unfold wsl
  rw [UInt32.toNat_ofNat', h1]
  refine Nat.mod_eq_of_lt ?_
  calc x.toNat * 2 ^ k ≤ 255 * 2 ^ 24 := Nat.mul_le_mul (by omega) hk
    _ < 2 ^ 32 := by decide
theorem be32_eq (b : Bytes) (i : Nat) (h : 4 * i + 4 ≤ b.length) : be32 b i = rbe b i := by
  apply UInt32.toNat_inj.1
  have e : (b.take (4 * i + 4)).drop (4 * i) = [gb b (4 * i), gb b (4 * i + 1), gb b (4 * i + 2), gb b (4 * i + 3)] := by
    apply List.ext_getElem
    · simp; omega
    · intro j h1 h2
      have h2' : j < 4 := by simpa using h2
      have hg : ((b.take (4 * i + 4)).drop (4 * i))[j] = b[4 * i + j]'(by omega) := by simp
      rw [hg]
      have hj : b[4 * i + j]'(by omega) = gb b (4 * i + j) := by simp [gb, show 4 * i + j < b.length by omega]
      rw [hj]
      obtain rfl | rfl | rfl | rfl : j = 0 ∨ j = 1 ∨ j = 2 ∨ j = 3 := by omega
      · rfl
      · rfl
      · rfl
      · rfl
  unfold be32 rbe
  rw [e, UInt32.toNat_or, UInt32.toNat_or, UInt32.toNat_or, wsl_w8 _ 24 (by omega), wsl_w8 _ 16 (by omega), wsl_w8 _ 8 (by omega)]
  have h3 : (w8 (gb b (4 * i + 3))).toNat = (gb b (4 * i + 3)).toNat := by unfold w8; rw [UInt32.toNat_ofNat']; have := (gb b (4 * i + 3)).toNat_lt; omega
  rw [h3, four_or _ _ _ _ (gb b (4 * i + 1)).toNat_lt (gb b (4 * i + 2)).toNat_lt (gb b (4 * i + 3)).toNat_lt, UInt32.toNat_ofNat']
  have l0 := (gb b (4 * i)).toNat_lt
  have l1 := (gb b (4 * i + 1)).toNat_lt
  have l2 := (gb b (4 * i + 2)).toNat_lt
  have l3 := (gb b (4 * i + 3)).toNat_lt
  simp only [getN, List.foldl_cons, List.foldl_nil, nb]
  omega
theorem take_setW (l : List UInt32) (i : Nat) (x : UInt32) (h : i < l.length) : (l.set i x).take (i + 1) = l.take i ++ [x] := by
  rw [List.take_succ_eq_append_getElem (by simpa using h)]
  rw [List.getElem_set_self]
  congr 1
  rw [List.take_set]
  exact List.set_eq_of_length_le (by rw [List.length_take]; omega)
theorem gw_take (l : List UInt32) (j m : Nat) (h : j < m) : gw (l.take m) j = gw l j := by simp [gw, h]
theorem w16_take (b : Bytes) (hb : b.length = 64) (i : Nat) (h : i ≤ 16) : (w16 b i).take i = rwTo b i := by
  induction i with
  | zero => rfl
  | succ i ih => rw [w16, take_setW _ _ _ (by rw [w16_len]; omega), ih (by omega), rwTo, if_pos (by omega), be32_eq b i (by omega)]
theorem nwd_take (l : List UInt32) (i : Nat) (h : 16 ≤ i) : nwd (l.take i) i = nwd l i := by
  unfold nwd
  rw [gw_take l _ _ (by omega), gw_take l _ _ (by omega), gw_take l _ _ (by omega), gw_take l _ _ (by omega)]
theorem w64_take (b : Bytes) (hb : b.length = 64) (n : Nat) (h : n ≤ 48) : (w64 b n).take (n + 16) = rwTo b (n + 16) := by
  induction n with
  | zero => exact w16_take b hb 16 (Nat.le_refl _)
  | succ n ih =>
    have hn := ih (by omega)
    rw [w64, show n + 1 + 16 = (n + 16) + 1 by omega, take_setW _ _ _ (by rw [w64_len]; omega), hn, ← nwd_take (w64 b n) (n + 16) (by omega), hn]
    show _ = rwTo b (n + 16) ++ [if n + 16 < 16 then rbe b (n + 16) else nwd (rwTo b (n + 16)) (n + 16)]
    rw [if_neg (by omega)]
theorem rw_all (b : Bytes) (hb : b.length = 64) : rwTo b 64 = w64 b 48 := by
  rw [← w64_take b hb 48 (Nat.le_refl _)]
  exact List.take_of_length_le (by rw [w64_len]; exact Nat.le_refl _)
theorem rw_lo {L : List UInt32} {b : Bytes} {k : Nat} (hL : L = rwTo b k) (h : k < 16) : L ++ [rbe b k] = rwTo b (k + 1) := by rw [hL, rwTo, if_pos h]
theorem rw_hi {L : List UInt32} {b : Bytes} {k : Nat} (hL : L = rwTo b k) (h : ¬ k < 16) : L ++ [nwd L k] = rwTo b (k + 1) := by rw [hL, rwTo, if_neg h]
theorem blk_fin {h s : S8} {b : Bytes} {L : List UInt32} {i k : Nat} (hb : b.length = 64) (hL : L = rwTo b k) (hk : k = 64) (hs : s = rnN L h i) (hi : i = 64) : h.add s = blk8 h b := by
  subst hk; subst hi
  rw [hs, hL, rw_all b hb]; rfl
end Go.Proofs.YtpkelokaammmjaaDoor
end
/-! append of one element: what the old slice read it still reads. -/
section
namespace Go.Proofs.YtpkelokaammmjaaDoor
open Go.RowKit Go.QT
section
variable {P : Program} {o : Oper} {a : Act} {w w' : World} {F0 : Nat → Prop} {w0 : World} {ro rs : List Res} {sz : Nat} {xs : List (List Value)}
theorem RV.prefix {A : Option Addr} {c d : Nat} {x : List Value} (h : RV w sz A d (xs ++ [x])) (hc : xs.length ≤ c) (hm : c ≤ maxLen) : RV w sz A c xs :=
  ⟨hc, hm, fun y hy => h.len y (by simp [hy]), fun _ => by
    obtain ⟨b, o, hA, hb, hcell⟩ := h.at_ (by simp)
    refine ⟨b, o, hA, hb, fun i y hy j u hu => hcell i y ?_ j u hu⟩
    have hi : i < xs.length := (List.getElem?_eq_some_iff.1 hy).1
    rw [List.getElem?_append_left hi]; exact hy⟩
theorem x_pushK (h : Hp F0 w0 w ro rs) (i j : Nat) {E : TypeId} {A : Option Addr} {m k : Nat} {g : Nat} {T : TypeId} {news : List Value} (hi : rs[i]? = some (rOV E sz (.slice A m k) xs)) (hj : rs[j]? = some (rBlk g T news)) (_hij : decide (i ≠ j) = true)
    (s x : Operand) (t : TypeId) (ho : o.op = .call { callee := .builtin .append, args := #[s, x], argTypes := #[t, t] }) (bytes : Nat) (z : Value) (ht : P.underlying t = some (.slice E)) (hinf : (P.info? E).map (fun i => (i.zero, i.size, i.bytes)) = some (some z, sz, bytes))
    (hzs : z.cells.size = sz) (hsz : decide (0 < sz) = true) (hs : a.eval s = .slice A m k) (c : Nat) (hx : a.eval x = .slice (some ⟨g, 0, none⟩) 1 c) (hn : news.length = sz) (h1 : news.all (·.oneCell') = true)
    (hlen : (xs.length + 1) * bytes ≤ 140737488355328) (hlen2 : xs.length < maxLen) (ys : List (List Value)) (n : Nat) (hys : ys = xs ++ [news]) (hyn : ys.length = n) :
    OpTo P o a w (fun u w' => ∃ A' cc, u = .slice A' n cc ∧ RV w' sz A k xs ∧ Hp F0 w0 w' ro (rs.set i (rOV E sz (.slice A' n cc) ys))) := by
  subst hys; subst hyn
  have hsz := of_decide_eq_true hsz
  have h1 : ∀ u ∈ news, u.oneCell' = true := by simpa using h1
  have hv : OV w 0 E sz (.slice A m k) xs := h.own i _ hi
  have hb : Blk w g T news := h.own j _ hj
  have hrv := (OV.rv hv).2
  obtain ⟨v', w', hrun, h2, h3, h4⟩ := OV.push (P := P) s x t ho 0 E sz bytes z ht hinf hzs hsz _ xs hs hv g T news c hx hb hn h1 hlen hlen2 (Nat.zero_le _)
  obtain ⟨A', cc, e, _, _⟩ := h2.form
  have hold : RV w' sz A k xs := by
    by_cases hxs : xs = []
    · subst hxs; exact ⟨hrv.le, hrv.cap, by simp, fun h => absurd rfl h⟩
    · rcases hv.own.2 with ⟨e0, h0⟩ | ⟨b, cap, cur, e0, _, hg, hn1, hm1, hs1, ht1⟩
      · exact absurd (List.eq_nil_of_length_eq_zero h0) hxs
      · injection e0 with e1 e2 e3
        subst e1; subst e2; subst e3
        subst e
        by_cases hroom : xs.length + 1 ≤ k
        · have hA' : A' = some ⟨b, 0, none⟩ := by
            rcases h4 with h4 | h4
            · rcases h2.own.2 with ⟨e5, h5⟩ | ⟨b', cap', cur', e5, _⟩
              · simp at h5
              · injection e5 with e6 _ _
                subst e6
                have : b' = b := by simpa [Value.ownBlock] using h4
                rw [this]
            · exfalso
              obtain ⟨i0, hi0, hz0, hz1, hz2⟩ := info_parts hinf
              have hr := run_append_room_cells (P := P) w t o.type E i0 ht hi0 b 0 xs.length k ⟨g, 0, none⟩ 1 c news (by rw [hz1, hn, Nat.one_mul]) (fun j u hu => by rw [Addr.add_mid, Nat.zero_add, hb.cell]; exact hu) h1 hroom
                (fun j hj => by
                  rw [cell_of_row w b _ cur E (0, 0) hg, hz1]
                  rw [Nat.zero_add]
                  have : xs.length * sz + j < cur.size := by
                    have h6 : (xs.length + 1) * sz ≤ k * sz := Nat.mul_le_mul_right sz hroom
                    rw [Nat.add_mul] at h6
                    omega
                  simp [this])
                (fun j _ => by simp [World.frozen?, hg])
              have hr2 : (execOp a.eval o).run P w = .ok (.value (.slice (some ⟨b, 0, none⟩) (xs.length + 1) k)) (w.setCells b (0 + xs.length * i0.size) news) := by
                unfold execOp
                simp only [ho, resolve, invoke, builtin, Sem.run_bind, Sem.run_pure, Result.andThen_ok, List.map_toArray, List.map_cons, List.map_nil, hs, hx, hr]
              rw [hrun] at hr2
              injection hr2 with hr2 _
              injection hr2 with hr2
              rw [hr2] at h4
              have h7 : b = w.heap.size := by simpa [Value.ownBlock] using h4
              rw [h7, Array.getElem?_eq_none (Nat.le_refl _)] at hg
              cases hg
          subst hA'
          exact RV.prefix (OV.rv h2).2 hrv.le hrv.cap
        · obtain ⟨i0, hi0, hz0, hz1, hz2⟩ := info_parts hinf
          obtain ⟨v2, w2, hr, _, hgr⟩ := run_append_arg_grows (P := P) w t o.type E i0 z sz bytes ht hi0 hz0 hz1 hz2 hzs hsz ⟨b, 0, none⟩ xs.length k xs.flatten hv.own.1 (fun j u hu => by
              rw [Addr.add_mid, Nat.zero_add, cell_of_row w b _ cur E (0, 0) hg]
              have hj : j < xs.flatten.length := (List.getElem?_eq_some_iff.1 hu).1
              have h9 := congrArg (fun l => l[j]?) ht1
              simp only [List.getElem?_take] at h9
              rw [if_pos (by rw [hv.own.1] at hj; exact hj)] at h9
              rw [hu] at h9
              simpa using h9)
            ⟨g, 0, none⟩ 1 c news (by rw [hn, Nat.one_mul]) (fun j u hu => by rw [Addr.add_mid, Nat.zero_add, hb.cell]; exact hu) (by omega) (by omega) hlen
          have hr2 : (execOp a.eval o).run P w = .ok (.value v2) w2 := by
            unfold execOp
            simp only [ho, resolve, invoke, builtin, Sem.run_bind, Sem.run_pure, Result.andThen_ok, List.map_toArray, List.map_cons, List.map_nil, hs, hx, hr]
          rw [hrun] at hr2
          injection hr2 with _ hr2
          subst hr2
          have hlt : b < w.heap.size := (hv.block b rfl).2
          exact hrv.keep hgr.size (fun q hq => by
            have : b = q := by simpa [ownA] using hq
            subst this
            exact hgr.block b hlt (by simp))
  refine OpTo.run v' hrun ⟨A', cc, e, hold, ?_⟩
  rw [← e]
  refine h.upd i hi (Fr.of_grown h3 (fun q hq => .inl hq)) (rOV E sz v' (xs ++ [news])) h2 (fun q hq => ?_)
  rcases h4 with h4 | h4
  · left; show (Value.slice A m k).ownBlock = some q; rw [← h4]; exact hq
  · right
    have : v'.ownBlock = some q := hq
    rw [h4] at this
    injection this with this
    omega
end
end Go.Proofs.YtpkelokaammmjaaDoor
end
/-! The walks of compeerref03: Turn, block. -/
section
namespace Go.Proofs.YtpkelokaammmjaaDoor
open Go.RowKit Go.QT
set_option maxRecDepth 100000 in
set_option maxHeartbeats 4000000 in
theorem rturn_any (x : UInt32) (n : Nat) (hn : n ≤ 32) (w : World) : Calls Tryd.prog 52 #[.int .u32 (uw x), .int .u64 (n : Int)] w (NPost w (.int .u32 (uw (trn x n)))) := by
  have h0 := Hp.nil (fun _ => False) w
  refine enter 11 Tryd.func52 rfl rfl ?_
  refine wp_reset 13 [(0, (Value.int .u32 (uw x))), (1, (Value.int .u64 ((n : Int))))] (fun x0 => ?_)
  refine wp_seq_k ?_
  intro K1 hK1
  refine reg_lit ?_
  refine wq_p 1 [(4, (Value.int .u32 0))] ?_
  refine wl_end rfl ?_
  refine seq_n hK1 ?_
  refine wp_seq_k ?_
  intro K2 hK2
  refine reg_lit ?_
  refine wq_p 2 [(6, (Value.int .u64 ((n : Int)))), (5, (Value.int .u32 (uw x)))] ?_
  refine wq_v (some 7) (Value.int .u32 (uw (wsr x n))) (e_shr32 64 63 (.tmp 5) (.tmp 6) (by kernel_rfl) x .u64 n (by omega) (by kernel_rfl) (by kernel_rfl) _) ?_
  refine wq_p 2 [(9, (Value.int .u64 ((n : Int)))), (8, (Value.int .u32 (uw x)))] ?_
  refine wq_v (some 10) (Value.int .u64 (((32 - n : Nat) : Int))) (e_sub64n 63 63 (.const (Value.int .u64 32)) (.tmp 9) (by kernel_rfl) 32 n (by kernel_rfl) (by kernel_rfl) (by omega) (by omega) _) ?_
  refine wq_v (some 11) (Value.int .u32 (uw (wsl x (((32 - n)))))) (e_shl32 64 63 (.tmp 8) (.tmp 10) (by kernel_rfl) x .u64 (((32 - n))) (by omega) (by kernel_rfl) (by kernel_rfl) _) ?_
  refine wq_v (some 12) (Value.int .u32 (uw ((wsr x n) ||| (wsl x (((32 - n))))))) (eq_is (v := Value.int .u32 (bits .or .u32 (uw (wsr x n)) (uw (wsl x (((32 - n))))))) (by kernel_rfl) (w_or (wsr x n) (wsl x (((32 - n)))))) ?_
  refine wq_p 1 [(4, (Value.int .u32 (uw ((wsr x n) ||| (wsl x (((32 - n))))))))] ?_
  refine wl_end rfl ?_
  refine seq_n hK2 ?_
  refine wp_ret ?_
  refine post_1 rfl (by kernel_rfl) (rtmp (v := (Value.int .u32 (uw ((wsr x n) ||| (wsl x (((32 - n)))))))) (by kernel_rfl)) ?_
  exact ⟨rfl, h0.below0⟩
set_option maxRecDepth 100000 in
set_option maxHeartbeats 4000000 in
theorem rblock_any (A B C : Option Addr) (c d e : Nat) (h : S8) (b : Bytes) (w : World) (hh : RV w 1 A c (wx h.l)) (hb : SB w (.slice B 64 d) b) (hbl : b.length = 64) (hk : RV w 1 C e (wx shaK)) :
    Calls Tryd.prog 36 #[.slice A 8 c, .slice B 64 d, .slice C 64 e] w (VOPost w 64 1 (wx (blk8 h b).l)) := by
  have h0 := ((Hp.ro1 (rRV 1 C e (wx shaK)) hk).addR (rSB (.slice B 64 d) b) hb (by simp)).addR (rRV 1 A c (wx h.l)) hh (by simp)
  refine enter 234 Tryd.func36 rfl rfl ?_
  refine wp_reset 237 [(0, (Value.slice A 8 c)), (1, (Value.slice B 64 d)), (2, (Value.slice C 64 e))] (fun x0 => ?_)
  refine wp_seq_k ?_
  intro K1 hK1
  refine reg_lit ?_
  refine wq_p 1 [(6, (Value.slice none 0 0))] ?_
  refine wl_end rfl ?_
  refine seq_n hK1 ?_
  refine wp_seq_k ?_
  intro K2 hK2
  refine reg_lit ?_
  refine wq_to (some 22) (x_bs0 h0 64 1 (by kernel_rfl)) ?_
  rintro _ w3 ⟨A3, rfl, h3⟩
  refine wq_p 1 [(7, (Value.slice A3 0 0))] ?_
  refine wl_end rfl ?_
  refine seq_n hK2 ?_
  refine wp_seq_k ?_
  intro K4 hK4
  refine wp_seq_k ?_
  intro K5 hK5
  refine reg_lit ?_
  refine wq_p 1 [(8, (Value.int .i64 0))] ?_
  refine wl_end rfl ?_
  refine seq_n hK5 ?_
  refine wp_block ?_
  refine wp_loopm (fun mM xX aA wL => ∃ (k : Nat) (L : List UInt32) (Av : Option Addr) (cv : Nat), (k ≤ 64) ∧ (L = rwTo b k) ∧ ((L : List UInt32).length = k) ∧ mM = 64 - k ∧ aA = patch xX 237 [(0, (Value.slice A 8 c)), (1, (Value.slice B 64 d)), (2, (Value.slice C 64 e)), (6, (Value.slice none 0 0)), (7, (Value.slice Av k cv)), (8, (Value.int .i64 ((k : Int))))] ∧ Hp (fun _ => False) w wL [rRV 1 A c (wx h.l), rSB ((Value.slice B 64 d)) b, rRV 1 C e (wx shaK)] [rOV 64 1 ((Value.slice Av k cv)) (wx L)]) ⟨_, 0, ([]), A3, 0, (by omega), rfl, rfl, rfl, (patch_eq _ 237 _ (by kernel_rfl) (by kernel_rfl) (by kernel_rfl)), h3.sel [0] [0, 1, 2] (by kernel_rfl) rfl rfl⟩ ?_
  rintro _ x6 _ w6 ⟨k, L, Av, cv, hk1, hL, hl, rfl, rfl, h6⟩
  refine wp_seq_k ?_
  intro K7 hK7
  refine wp_seq_k ?_
  intro K8 hK8
  refine reg_lit ?_
  refine wq_p 2 [(24, (Value.bool (decide ((k : Int) < 64)))), (23, (Value.int .i64 ((k : Int))))] ?_
  refine wl_end rfl ?_
  refine seq_n hK8 ?_
  refine wp_if ((k : Int) < 64) (by kernel_rfl) (fun b9 => ?_) (fun b9 => ?_)
  ·
   refine wp_skip ?_
   refine seq_n hK7 ?_
   refine wp_seq_k ?_
   intro K10 hK10
   refine wp_block ?_
   refine wp_seq_k ?_
   intro K11 hK11
   refine reg_lit ?_
   refine wq_p 2 [(28, (Value.bool (decide ((k : Int) < 16)))), (27, (Value.int .i64 ((k : Int))))] ?_
   refine wl_end rfl ?_
   refine seq_n hK11 ?_
   refine wp_if ((k : Int) < 16) (by kernel_rfl) (fun b12 => ?_) (fun b12 => ?_)
   ·
    refine pR_go h6 36 (fun W => (rSB ((Value.slice B 64 d)) b).Φ W ∧ True) [(30, [7], 0), (31, [1], 0), (32, [8], 0), (33, [31], 4), (34, [30, 32], 10), (35, [33], 16), (36, [34], 32), (37, [35], 64), (38, [1], 0), (39, [8], 0), (40, [38], 512), (41, [39], 1024), (42, [37, 40], 2304), (43, [41], 4096), (44, [42], 8192), (45, [43], 16384), (46, [36, 44], 32896), (47, [1], 0), (48, [8], 0), (49, [47], 262144), (50, [48], 524288), (51, [46, 49], 1179648), (52, [50], 2097152), (53, [51], 4194304), (54, [52], 8388608), (55, [45, 53], 16842752), (56, [1], 0), (57, [8], 0), (58, [56], 134217728), (59, [57], 268435456), (60, [55, 58], 603979776), (61, [59], 1073741824), (62, [60], 2147483648), (63, [54, 61], 4328521728), (64, [62], 8589934592), (65, [29, 63], 17179869185), (8, [64], 68719476735)] rfl (fun _ d _ _ _ h => by cases d <;> exact h) ?_
    intro hs13 w13 h13
    refine pR_p 28 [0, 1, 2, 8, 9, 17, 18, 26, 27] [(56, (Value.int .i64 ((k : Int)))), (55, (Value.slice B 64 d)), (47, (Value.int .i64 ((k : Int)))), (46, (Value.slice B 64 d)), (38, (Value.int .i64 ((k : Int)))), (37, (Value.slice B 64 d)), (31, (Value.int .i64 ((k : Int)))), (30, (Value.slice B 64 d)), (29, (Value.slice Av k cv))] 201720583 hs13 ⟨h13.rd 1 rfl, trivial⟩ ?_
    refine pR_v 3 (some 32) (Value.int .i64 (((4 * k : Nat) : Int))) 201720591 rfl hs13 ⟨h13.rd 1 rfl, trivial⟩ (fun W hW => exec_mulN _ _ _ _ rfl 4 k (by kernel_rfl) (by kernel_rfl) (4 * k) rfl (by omega) _) ?_
    refine pR_v 4 (some 33) (eAt B ((((4 * k))) * 1 + 0)) 201720607 rfl hs13 ⟨h13.rd 1 rfl, trivial⟩ (fun W hW => e_idxN (SB.rvn (h13.rd 1 rfl)).2 (((4 * k))) 64 (SB.rvn (h13.rd 1 rfl)).1 (by first | omega | (rw [hbl]; omega)) 22 (.tmp 30) (.tmp 32) (by kernel_rfl) .i64 (by kernel_rfl) (by kernel_rfl) 5 (by kernel_rfl) (by kernel_rfl) _) ?_
    refine pR_v 10 (some 39) (Value.int .i64 (((4 * k : Nat) : Int))) 201721631 rfl hs13 ⟨h13.rd 1 rfl, trivial⟩ (fun W hW => exec_mulN _ _ _ _ rfl 4 k (by kernel_rfl) (by kernel_rfl) (4 * k) rfl (by omega) _) ?_
    refine pR_v 11 (some 40) (Value.int .i64 (((4 * k : Nat) : Int) + 1)) 201723679 rfl hs13 ⟨h13.rd 1 rfl, trivial⟩ (fun W hW => exec_add _ _ _ _ rfl (((4 * k : Nat) : Int)) 1 (by kernel_rfl) (by kernel_rfl) (((4 * k : Nat) : Int) + 1) (by omega) (by omega) (by omega) _) ?_
    refine pR_v 12 (some 41) (eAt B ((((4 * k)) + 1) * 1 + 0)) 201727775 rfl hs13 ⟨h13.rd 1 rfl, trivial⟩ (fun W hW => e_idxN (SB.rvn (h13.rd 1 rfl)).2 (((4 * k)) + 1) 64 (SB.rvn (h13.rd 1 rfl)).1 (by first | omega | (rw [hbl]; omega)) 22 (.tmp 37) (.tmp 40) (by kernel_rfl) .i64 (by kernel_rfl) (by kernel_rfl) 5 (by kernel_rfl) (by kernel_rfl) _) ?_
    refine pR_v 19 (some 48) (Value.int .i64 (((4 * k : Nat) : Int))) 202252063 rfl hs13 ⟨h13.rd 1 rfl, trivial⟩ (fun W hW => exec_mulN _ _ _ _ rfl 4 k (by kernel_rfl) (by kernel_rfl) (4 * k) rfl (by omega) _) ?_
    refine pR_v 20 (some 49) (Value.int .i64 (((4 * k : Nat) : Int) + 2)) 203300639 rfl hs13 ⟨h13.rd 1 rfl, trivial⟩ (fun W hW => exec_add _ _ _ _ rfl (((4 * k : Nat) : Int)) 2 (by kernel_rfl) (by kernel_rfl) (((4 * k : Nat) : Int) + 2) (by omega) (by omega) (by omega) _) ?_
    refine pR_v 21 (some 50) (eAt B ((((4 * k)) + 2) * 1 + 0)) 205397791 rfl hs13 ⟨h13.rd 1 rfl, trivial⟩ (fun W hW => e_idxN (SB.rvn (h13.rd 1 rfl)).2 (((4 * k)) + 2) 64 (SB.rvn (h13.rd 1 rfl)).1 (by first | omega | (rw [hbl]; omega)) 22 (.tmp 46) (.tmp 49) (by kernel_rfl) .i64 (by kernel_rfl) (by kernel_rfl) 5 (by kernel_rfl) (by kernel_rfl) _) ?_
    refine pR_v 28 (some 57) (Value.int .i64 (((4 * k : Nat) : Int))) 473833247 rfl hs13 ⟨h13.rd 1 rfl, trivial⟩ (fun W hW => exec_mulN _ _ _ _ rfl 4 k (by kernel_rfl) (by kernel_rfl) (4 * k) rfl (by omega) _) ?_
    refine pR_v 29 (some 58) (Value.int .i64 (((4 * k : Nat) : Int) + 3)) 1010704159 rfl hs13 ⟨h13.rd 1 rfl, trivial⟩ (fun W hW => exec_add _ _ _ _ rfl (((4 * k : Nat) : Int)) 3 (by kernel_rfl) (by kernel_rfl) (((4 * k : Nat) : Int) + 3) (by omega) (by omega) (by omega) _) ?_
    refine pR_v 30 (some 59) (eAt B ((((4 * k)) + 3) * 1 + 0)) 2084445983 rfl hs13 ⟨h13.rd 1 rfl, trivial⟩ (fun W hW => e_idxN (SB.rvn (h13.rd 1 rfl)).2 (((4 * k)) + 3) 64 (SB.rvn (h13.rd 1 rfl)).1 (by first | omega | (rw [hbl]; omega)) 22 (.tmp 55) (.tmp 58) (by kernel_rfl) .i64 (by kernel_rfl) (by kernel_rfl) 5 (by kernel_rfl) (by kernel_rfl) _) ?_
    refine pR_v 5 (some 34) (Value.int .u8 (ub (gb (b) (((4 * k)))))) 2084446015 rfl hs13 ⟨h13.rd 1 rfl, trivial⟩ (fun W hW => e_elemN (SB.rvn hW.1).2 (((4 * k))) 0 ([(Value.int .u8 (ub (gb (b) (((4 * k))))))]) (bx_get _ _ (by first | omega | (rw [hbl]; omega))) 5 (.tmp 33) (by kernel_rfl) (Value.int .u8 (ub (gb (b) (((4 * k)))))) (by kernel_rfl) (by kernel_rfl) (by kernel_rfl)) ?_
    refine pR_v 6 (some 35) (Value.int .u32 (uw (w8 ((gb (b) (((4 * k)))))))) 2084446079 rfl hs13 ⟨h13.rd 1 rfl, trivial⟩ (fun W hW => eq_is (v := Value.int .u32 (IntKind.u32.wrap (ub ((gb (b) (((4 * k)))))))) (by kernel_rfl) (w_of8 ((gb (b) (((4 * k))))))) ?_
    refine pR_v 7 (some 36) (Value.int .u32 (uw (wsl (w8 ((gb (b) (((4 * k)))))) 24))) 2084446207 rfl hs13 ⟨h13.rd 1 rfl, trivial⟩ (fun W hW => e_shl32 64 63 (.tmp 35) (.const (Value.int .u64 24)) (by kernel_rfl) (w8 ((gb (b) (((4 * k)))))) .u64 24 (by decide) (by kernel_rfl) (by kernel_rfl) _) ?_
    refine pR_v 13 (some 42) (Value.int .u8 (ub (gb (b) (((4 * k)) + 1)))) 2084454399 rfl hs13 ⟨h13.rd 1 rfl, trivial⟩ (fun W hW => e_elemN (SB.rvn hW.1).2 (((4 * k)) + 1) 0 ([(Value.int .u8 (ub (gb (b) (((4 * k)) + 1))))]) (bx_get _ _ (by first | omega | (rw [hbl]; omega))) 5 (.tmp 41) (by kernel_rfl) (Value.int .u8 (ub (gb (b) (((4 * k)) + 1)))) (by kernel_rfl) (by kernel_rfl) (by kernel_rfl)) ?_
    refine pR_v 14 (some 43) (Value.int .u32 (uw (w8 ((gb (b) (((4 * k)) + 1)))))) 2084470783 rfl hs13 ⟨h13.rd 1 rfl, trivial⟩ (fun W hW => eq_is (v := Value.int .u32 (IntKind.u32.wrap (ub ((gb (b) (((4 * k)) + 1)))))) (by kernel_rfl) (w_of8 ((gb (b) (((4 * k)) + 1))))) ?_
    refine pR_v 15 (some 44) (Value.int .u32 (uw (wsl (w8 ((gb (b) (((4 * k)) + 1)))) 16))) 2084503551 rfl hs13 ⟨h13.rd 1 rfl, trivial⟩ (fun W hW => e_shl32 64 63 (.tmp 43) (.const (Value.int .u64 16)) (by kernel_rfl) (w8 ((gb (b) (((4 * k)) + 1)))) .u64 16 (by decide) (by kernel_rfl) (by kernel_rfl) _) ?_
    refine pR_v 16 (some 45) (Value.int .u32 (uw ((wsl (w8 ((gb (b) (((4 * k)))))) 24) ||| (wsl (w8 ((gb (b) (((4 * k)) + 1)))) 16)))) 2084569087 rfl hs13 ⟨h13.rd 1 rfl, trivial⟩ (fun W hW => eq_is (v := Value.int .u32 (bits .or .u32 (uw (wsl (w8 ((gb (b) (((4 * k)))))) 24)) (uw (wsl (w8 ((gb (b) (((4 * k)) + 1)))) 16)))) (by kernel_rfl) (w_or (wsl (w8 ((gb (b) (((4 * k)))))) 24) (wsl (w8 ((gb (b) (((4 * k)) + 1)))) 16))) ?_
    refine pR_v 22 (some 51) (Value.int .u8 (ub (gb (b) (((4 * k)) + 2)))) 2088763391 rfl hs13 ⟨h13.rd 1 rfl, trivial⟩ (fun W hW => e_elemN (SB.rvn hW.1).2 (((4 * k)) + 2) 0 ([(Value.int .u8 (ub (gb (b) (((4 * k)) + 2))))]) (bx_get _ _ (by first | omega | (rw [hbl]; omega))) 5 (.tmp 50) (by kernel_rfl) (Value.int .u8 (ub (gb (b) (((4 * k)) + 2)))) (by kernel_rfl) (by kernel_rfl) (by kernel_rfl)) ?_
    refine pR_v 23 (some 52) (Value.int .u32 (uw (w8 ((gb (b) (((4 * k)) + 2)))))) 2097151999 rfl hs13 ⟨h13.rd 1 rfl, trivial⟩ (fun W hW => eq_is (v := Value.int .u32 (IntKind.u32.wrap (ub ((gb (b) (((4 * k)) + 2)))))) (by kernel_rfl) (w_of8 ((gb (b) (((4 * k)) + 2))))) ?_
    refine pR_v 24 (some 53) (Value.int .u32 (uw (wsl (w8 ((gb (b) (((4 * k)) + 2)))) 8))) 2113929215 rfl hs13 ⟨h13.rd 1 rfl, trivial⟩ (fun W hW => e_shl32 64 63 (.tmp 52) (.const (Value.int .u64 8)) (by kernel_rfl) (w8 ((gb (b) (((4 * k)) + 2)))) .u64 8 (by decide) (by kernel_rfl) (by kernel_rfl) _) ?_
    refine pR_v 25 (some 54) (Value.int .u32 (uw (((wsl (w8 ((gb (b) (((4 * k)))))) 24) ||| (wsl (w8 ((gb (b) (((4 * k)) + 1)))) 16)) ||| (wsl (w8 ((gb (b) (((4 * k)) + 2)))) 8)))) 2147483647 rfl hs13 ⟨h13.rd 1 rfl, trivial⟩ (fun W hW => eq_is (v := Value.int .u32 (bits .or .u32 (uw ((wsl (w8 ((gb (b) (((4 * k)))))) 24) ||| (wsl (w8 ((gb (b) (((4 * k)) + 1)))) 16))) (uw (wsl (w8 ((gb (b) (((4 * k)) + 2)))) 8)))) (by kernel_rfl) (w_or ((wsl (w8 ((gb (b) (((4 * k)))))) 24) ||| (wsl (w8 ((gb (b) (((4 * k)) + 1)))) 16)) (wsl (w8 ((gb (b) (((4 * k)) + 2)))) 8))) ?_
    refine pR_v 31 (some 60) (Value.int .u8 (ub (gb (b) (((4 * k)) + 3)))) 4294967295 rfl hs13 ⟨h13.rd 1 rfl, trivial⟩ (fun W hW => e_elemN (SB.rvn hW.1).2 (((4 * k)) + 3) 0 ([(Value.int .u8 (ub (gb (b) (((4 * k)) + 3))))]) (bx_get _ _ (by first | omega | (rw [hbl]; omega))) 5 (.tmp 59) (by kernel_rfl) (Value.int .u8 (ub (gb (b) (((4 * k)) + 3)))) (by kernel_rfl) (by kernel_rfl) (by kernel_rfl)) ?_
    refine pR_v 32 (some 61) (Value.int .u32 (uw (w8 ((gb (b) (((4 * k)) + 3)))))) 8589934591 rfl hs13 ⟨h13.rd 1 rfl, trivial⟩ (fun W hW => eq_is (v := Value.int .u32 (IntKind.u32.wrap (ub ((gb (b) (((4 * k)) + 3)))))) (by kernel_rfl) (w_of8 ((gb (b) (((4 * k)) + 3))))) ?_
    refine pR_v 33 (some 62) (Value.int .u32 (uw ((((wsl (w8 ((gb (b) (((4 * k)))))) 24) ||| (wsl (w8 ((gb (b) (((4 * k)) + 1)))) 16)) ||| (wsl (w8 ((gb (b) (((4 * k)) + 2)))) 8)) ||| (w8 ((gb (b) (((4 * k)) + 3))))))) 17179869183 rfl hs13 ⟨h13.rd 1 rfl, trivial⟩ (fun W hW => eq_is (v := Value.int .u32 (bits .or .u32 (uw (((wsl (w8 ((gb (b) (((4 * k)))))) 24) ||| (wsl (w8 ((gb (b) (((4 * k)) + 1)))) 16)) ||| (wsl (w8 ((gb (b) (((4 * k)) + 2)))) 8))) (uw (w8 ((gb (b) (((4 * k)) + 3))))))) (by kernel_rfl) (w_or (((wsl (w8 ((gb (b) (((4 * k)))))) 24) ||| (wsl (w8 ((gb (b) (((4 * k)) + 1)))) 16)) ||| (wsl (w8 ((gb (b) (((4 * k)) + 2)))) 8)) (w8 ((gb (b) (((4 * k)) + 3)))))) ?_
    refine pR_to 34 (some 63) 34359738367 rfl hs13 (x_bs h13 64 ([(Value.int .u32 (uw ((((wsl (w8 ((gb (b) (((4 * k)))))) 24) ||| (wsl (w8 ((gb (b) (((4 * k)) + 1)))) 16)) ||| (wsl (w8 ((gb (b) (((4 * k)) + 2)))) 8)) ||| (w8 ((gb (b) (((4 * k)) + 3)))))))]) 1 (by kernel_rfl)) ?_
    rintro _ w14 ⟨g14, rfl, h14⟩
    refine ⟨fun _ => ⟨h14.rd 1 rfl, trivial⟩, ?_⟩
    refine pR_to 35 (some 64) 68719476735 rfl hs13 (x_pushG h14 1 0 rfl rfl (by kernel_rfl) (.tmp 29) (.tmp 63) 38 (by kernel_rfl) 4 (Value.int .u32 0) (by kernel_rfl) (by kernel_rfl) (by kernel_rfl) (by kernel_rfl) (by kernel_rfl) 1 (by kernel_rfl) (by kernel_rfl) (by kernel_rfl) (by rw [wx_len]; omega) (by rw [wx_len]; unfold maxLen; omega) (wx (L ++ [((((wsl (w8 ((gb (b) (((4 * k)))))) 24) ||| (wsl (w8 ((gb (b) (((4 * k)) + 1)))) 16)) ||| (wsl (w8 ((gb (b) (((4 * k)) + 2)))) 8)) ||| (w8 ((gb (b) (((4 * k)) + 3)))))])) (k + 1) (wx_app L (((((wsl (w8 ((gb (b) (((4 * k)))))) 24) ||| (wsl (w8 ((gb (b) (((4 * k)) + 1)))) 16)) ||| (wsl (w8 ((gb (b) (((4 * k)) + 2)))) 8)) ||| (w8 ((gb (b) (((4 * k)) + 3))))))) (by rw [wx_len, List.length_append, hl]; rfl)) ?_
    rintro _ w15 ⟨A15, c15, rfl, h15⟩
    refine ⟨fun _ => ⟨h15.rd 1 rfl, trivial⟩, ?_⟩
    refine pR_to 36 (some 7) 137438953471 rfl hs13 (OpTo.run (Value.slice A15 (k + 1) c15) (pureOp_run (by kernel_rfl) _) (R := fun v w => v = (Value.slice A15 (k + 1) c15) ∧ w15 = w) ⟨rfl, rfl⟩) ?_
    rintro _ _ ⟨rfl, rfl⟩
    refine ⟨fun h => absurd h (by decide), ?_⟩
    refine pR_done hs13 ?_ _
    refine blk_n ?_
    refine seq_n hK10 ?_
    refine wp_reset 237 [(0, (Value.slice A 8 c)), (1, (Value.slice B 64 d)), (2, (Value.slice C 64 e)), (6, (Value.slice none 0 0)), (7, (Value.slice A15 (k + 1) c15)), (8, (Value.int .i64 ((k : Int)))), (24, (Value.bool (decide ((k : Int) < 64)))), (28, (Value.bool (decide ((k : Int) < 16))))] (fun x16 => ?_)
    refine reg_lit ?_
    refine wq_p 1 [(25, (Value.int .i64 ((k : Int))))] ?_
    refine wq_v (some 26) (Value.int .i64 ((k : Int) + 1)) (exec_add _ _ _ _ rfl ((k : Int)) 1 (by kernel_rfl) (by kernel_rfl) ((k : Int) + 1) rfl (by omega) (by omega) _) ?_
    refine wq_p 1 [(8, (Value.int .i64 ((k : Int) + 1)))] ?_
    refine wl_end rfl ?_
    refine ⟨64 - (k + 1), (by omega), (k + 1), (L ++ [((((wsl (w8 ((gb (b) (((4 * k)))))) 24) ||| (wsl (w8 ((gb (b) (((4 * k)) + 1)))) 16)) ||| (wsl (w8 ((gb (b) (((4 * k)) + 2)))) 8)) ||| (w8 ((gb (b) (((4 * k)) + 3)))))]), A15, c15, (by omega), (rw_lo hL (by omega)), (by rw [List.length_append, hl]; rfl), rfl, (patch_eq _ 237 _ (by kernel_rfl) (by kernel_rfl) (by kernel_rfl)), h15.sel [1] [0, 1, 2] (by kernel_rfl) rfl rfl⟩
   ·
    refine wp_seq_k ?_
    intro K17 hK17
    refine reg_lit ?_
    refine wq_p 2 [(66, (Value.int .i64 ((k : Int)))), (65, (Value.slice Av k cv))] ?_
    refine wq_v (some 67) (Value.int .i64 (((k - 15 : Nat) : Int))) (exec_sub _ _ _ _ rfl ((k : Int)) 15 (by kernel_rfl) (by kernel_rfl) (((k - 15 : Nat) : Int)) (by omega) (by omega) (by omega) _) ?_
    refine wq_v (some 68) (eAt Av ((((k - 15))) * 1 + 0)) (e_idxN (OV.rvn (h6.at_ 0 rfl)).2 (((k - 15))) k (OV.rvn (h6.at_ 0 rfl)).1 (by first | omega | (rw [hbl]; omega)) 38 (.tmp 65) (.tmp 67) (by kernel_rfl) .i64 (by kernel_rfl) (by kernel_rfl) 64 (by kernel_rfl) (by kernel_rfl) _) ?_
    refine wq_v (some 69) (Value.int .u32 (uw (gw L (((k - 15)))))) (e_elemN (OV.rvn (h6.at_ 0 rfl)).2 (((k - 15))) 0 ([(Value.int .u32 (uw (gw L (((k - 15))))))]) (wx_get L (((k - 15))) (by first | omega | (rw [hl]; omega) | (show _ < 64; omega))) 64 (.tmp 68) (by kernel_rfl) (Value.int .u32 (uw (gw L (((k - 15)))))) (by kernel_rfl) (by kernel_rfl) (by kernel_rfl)) ?_
    refine wq_p 1 [(9, (Value.int .u32 (uw (gw L (((k - 15)))))))] ?_
    refine wl_end rfl ?_
    refine seq_n hK17 ?_
    refine wp_seq_k ?_
    intro K18 hK18
    refine reg_lit ?_
    refine wq_p 2 [(71, (Value.int .i64 ((k : Int)))), (70, (Value.slice Av k cv))] ?_
    refine wq_v (some 72) (Value.int .i64 (((k - 2 : Nat) : Int))) (exec_sub _ _ _ _ rfl ((k : Int)) 2 (by kernel_rfl) (by kernel_rfl) (((k - 2 : Nat) : Int)) (by omega) (by omega) (by omega) _) ?_
    refine wq_v (some 73) (eAt Av ((((k - 2))) * 1 + 0)) (e_idxN (OV.rvn (h6.at_ 0 rfl)).2 (((k - 2))) k (OV.rvn (h6.at_ 0 rfl)).1 (by first | omega | (rw [hbl]; omega)) 38 (.tmp 70) (.tmp 72) (by kernel_rfl) .i64 (by kernel_rfl) (by kernel_rfl) 64 (by kernel_rfl) (by kernel_rfl) _) ?_
    refine wq_v (some 74) (Value.int .u32 (uw (gw L (((k - 2)))))) (e_elemN (OV.rvn (h6.at_ 0 rfl)).2 (((k - 2))) 0 ([(Value.int .u32 (uw (gw L (((k - 2))))))]) (wx_get L (((k - 2))) (by first | omega | (rw [hl]; omega) | (show _ < 64; omega))) 64 (.tmp 73) (by kernel_rfl) (Value.int .u32 (uw (gw L (((k - 2)))))) (by kernel_rfl) (by kernel_rfl) (by kernel_rfl)) ?_
    refine wq_p 1 [(10, (Value.int .u32 (uw (gw L (((k - 2)))))))] ?_
    refine wl_end rfl ?_
    refine seq_n hK18 ?_
    refine pR_go h6 32 (fun W => (rRV 1 Av cv (wx L)).Φ W ∧ True) [(76, [7], 0), (77, [7], 0), (78, [8], 0), (79, [77], 4), (80, [76, 78], 10), (81, [79], 16), (82, [9], 0), (83, [81], 64), (84, [9], 0), (85, [83], 384), (86, [82, 84], 640), (87, [9], 0), (88, [86], 2048), (89, [85, 87], 5120), (90, [80, 88], 8224), (91, [7], 0), (92, [8], 0), (93, [91], 65536), (94, [90, 92], 163840), (95, [93], 262144), (96, [89, 94], 540672), (97, [10], 0), (98, [96], 2097664), (99, [10], 0), (100, [98], 12582912), (101, [97, 99], 20971520), (102, [10], 0), (103, [101], 67108864), (104, [100, 102], 167772160), (105, [95, 103], 269484032), (106, [104], 536870912), (107, [75, 105], 1090519041), (8, [106], 4294967295)] rfl (fun _ d _ _ _ h => by cases d <;> exact h) ?_
    intro hs19 w19 h19
    refine pR_p 22 [0, 1, 2, 6, 8, 11, 15, 16, 21, 23, 26] [(101, (Value.int .u32 (uw (gw L (((k - 2))))))), (98, (Value.int .u32 (uw (gw L (((k - 2))))))), (96, (Value.int .u32 (uw (gw L (((k - 2))))))), (91, (Value.int .i64 ((k : Int)))), (90, (Value.slice Av k cv)), (86, (Value.int .u32 (uw (gw L (((k - 15))))))), (83, (Value.int .u32 (uw (gw L (((k - 15))))))), (81, (Value.int .u32 (uw (gw L (((k - 15))))))), (77, (Value.int .i64 ((k : Int)))), (76, (Value.slice Av k cv)), (75, (Value.slice Av k cv))] 77695303 hs19 ⟨(OV.rvn (h19.at_ 0 rfl)).2, trivial⟩ ?_
    refine pR_v 3 (some 78) (Value.int .i64 (((k - 16 : Nat) : Int))) 77695311 rfl hs19 ⟨(OV.rvn (h19.at_ 0 rfl)).2, trivial⟩ (fun W hW => exec_sub _ _ _ _ rfl ((k : Int)) 16 (by kernel_rfl) (by kernel_rfl) (((k - 16 : Nat) : Int)) (by omega) (by omega) (by omega) _) ?_
    refine pR_v 4 (some 79) (eAt Av ((((k - 16))) * 1 + 0)) 77695327 rfl hs19 ⟨(OV.rvn (h19.at_ 0 rfl)).2, trivial⟩ (fun W hW => e_idxN (OV.rvn (h19.at_ 0 rfl)).2 (((k - 16))) k (OV.rvn (h19.at_ 0 rfl)).1 (by first | omega | (rw [hbl]; omega)) 38 (.tmp 76) (.tmp 78) (by kernel_rfl) .i64 (by kernel_rfl) (by kernel_rfl) 64 (by kernel_rfl) (by kernel_rfl) _) ?_
    refine pR_v 12 (some 87) (Value.int .u32 (uw (wsr (gw L (((k - 15)))) 3))) 77699423 rfl hs19 ⟨(OV.rvn (h19.at_ 0 rfl)).2, trivial⟩ (fun W hW => e_shr32 64 63 (.tmp 86) (.const (Value.int .u64 3)) (by kernel_rfl) (gw L (((k - 15)))) .u64 3 (by decide) (by kernel_rfl) (by kernel_rfl) _) ?_
    refine pR_v 17 (some 92) (Value.int .i64 (((k - 7 : Nat) : Int))) 77830495 rfl hs19 ⟨(OV.rvn (h19.at_ 0 rfl)).2, trivial⟩ (fun W hW => exec_sub _ _ _ _ rfl ((k : Int)) 7 (by kernel_rfl) (by kernel_rfl) (((k - 7 : Nat) : Int)) (by omega) (by omega) (by omega) _) ?_
    refine pR_v 18 (some 93) (eAt Av ((((k - 7))) * 1 + 0)) 78092639 rfl hs19 ⟨(OV.rvn (h19.at_ 0 rfl)).2, trivial⟩ (fun W hW => e_idxN (OV.rvn (h19.at_ 0 rfl)).2 (((k - 7))) k (OV.rvn (h19.at_ 0 rfl)).1 (by first | omega | (rw [hbl]; omega)) 38 (.tmp 90) (.tmp 92) (by kernel_rfl) .i64 (by kernel_rfl) (by kernel_rfl) 64 (by kernel_rfl) (by kernel_rfl) _) ?_
    refine pR_v 27 (some 102) (Value.int .u32 (uw (wsr (gw L (((k - 2)))) 10))) 212310367 rfl hs19 ⟨(OV.rvn (h19.at_ 0 rfl)).2, trivial⟩ (fun W hW => e_shr32 64 63 (.tmp 101) (.const (Value.int .u64 10)) (by kernel_rfl) (gw L (((k - 2)))) .u64 10 (by decide) (by kernel_rfl) (by kernel_rfl) _) ?_
    refine pR_v 5 (some 80) (Value.int .u32 (uw (gw L (((k - 16)))))) 212310399 rfl hs19 ⟨(OV.rvn (h19.at_ 0 rfl)).2, trivial⟩ (fun W hW => e_elemN (RV.lenIs (n := k) hW.1 ((wx_len _).trans hl)).2 (((k - 16))) 0 ([(Value.int .u32 (uw (gw L (((k - 16))))))]) (wx_get L (((k - 16))) (by first | omega | (rw [hl]; omega) | (show _ < 64; omega))) 64 (.tmp 79) (by kernel_rfl) (Value.int .u32 (uw (gw L (((k - 16)))))) (by kernel_rfl) (by kernel_rfl) (by kernel_rfl)) ?_
    refine pR_v 19 (some 94) (Value.int .u32 (uw (gw L (((k - 7)))))) 212834687 rfl hs19 ⟨(OV.rvn (h19.at_ 0 rfl)).2, trivial⟩ (fun W hW => e_elemN (RV.lenIs (n := k) hW.1 ((wx_len _).trans hl)).2 (((k - 7))) 0 ([(Value.int .u32 (uw (gw L (((k - 7))))))]) (wx_get L (((k - 7))) (by first | omega | (rw [hl]; omega) | (show _ < 64; omega))) 64 (.tmp 93) (by kernel_rfl) (Value.int .u32 (uw (gw L (((k - 7)))))) (by kernel_rfl) (by kernel_rfl) (by kernel_rfl)) ?_
    refine pR_to 7 (some 82) 212834815 rfl hs19 (x_np h19 52 [(Value.int .u32 (uw (gw L (((k - 15)))))), (Value.int .u64 7)] (by kernel_rfl) (rturn_any (gw L (((k - 15)))) 7 (by decide) _)) ?_
    rintro _ w20 ⟨rfl, h20⟩
    refine ⟨fun _ => ⟨(OV.rvn (h20.at_ 0 rfl)).2, trivial⟩, ?_⟩
    refine pR_to 9 (some 84) 212835327 rfl hs19 (x_np h20 52 [(Value.int .u32 (uw (gw L (((k - 15)))))), (Value.int .u64 18)] (by kernel_rfl) (rturn_any (gw L (((k - 15)))) 18 (by decide) _)) ?_
    rintro _ w21 ⟨rfl, h21⟩
    refine ⟨fun _ => ⟨(OV.rvn (h21.at_ 0 rfl)).2, trivial⟩, ?_⟩
    refine pR_v 10 (some 85) (Value.int .u32 (uw ((trn (gw L (((k - 15)))) 7) ^^^ (trn (gw L (((k - 15)))) 18)))) 212836351 rfl hs19 ⟨(OV.rvn (h21.at_ 0 rfl)).2, trivial⟩ (fun W hW => eq_is (v := Value.int .u32 (bits .xor .u32 (uw (trn (gw L (((k - 15)))) 7)) (uw (trn (gw L (((k - 15)))) 18)))) (by kernel_rfl) (w_xor (trn (gw L (((k - 15)))) 7) (trn (gw L (((k - 15)))) 18))) ?_
    refine pR_v 13 (some 88) (Value.int .u32 (uw (((trn (gw L (((k - 15)))) 7) ^^^ (trn (gw L (((k - 15)))) 18)) ^^^ (wsr (gw L (((k - 15)))) 3)))) 212844543 rfl hs19 ⟨(OV.rvn (h21.at_ 0 rfl)).2, trivial⟩ (fun W hW => eq_is (v := Value.int .u32 (bits .xor .u32 (uw ((trn (gw L (((k - 15)))) 7) ^^^ (trn (gw L (((k - 15)))) 18))) (uw (wsr (gw L (((k - 15)))) 3)))) (by kernel_rfl) (w_xor ((trn (gw L (((k - 15)))) 7) ^^^ (trn (gw L (((k - 15)))) 18)) (wsr (gw L (((k - 15)))) 3))) ?_
    refine pR_v 14 (some 89) (Value.int .u32 (uw ((gw L (((k - 16)))) + (((trn (gw L (((k - 15)))) 7) ^^^ (trn (gw L (((k - 15)))) 18)) ^^^ (wsr (gw L (((k - 15)))) 3))))) 212860927 rfl hs19 ⟨(OV.rvn (h21.at_ 0 rfl)).2, trivial⟩ (fun W hW => eq_is (v := Value.int .u32 (IntKind.u32.wrap (uw (gw L (((k - 16)))) + uw (((trn (gw L (((k - 15)))) 7) ^^^ (trn (gw L (((k - 15)))) 18)) ^^^ (wsr (gw L (((k - 15)))) 3))))) (by kernel_rfl) (w_add (gw L (((k - 16)))) (((trn (gw L (((k - 15)))) 7) ^^^ (trn (gw L (((k - 15)))) 18)) ^^^ (wsr (gw L (((k - 15)))) 3)))) ?_
    refine pR_v 20 (some 95) (Value.int .u32 (uw (((gw L (((k - 16)))) + (((trn (gw L (((k - 15)))) 7) ^^^ (trn (gw L (((k - 15)))) 18)) ^^^ (wsr (gw L (((k - 15)))) 3))) + (gw L (((k - 7))))))) 213909503 rfl hs19 ⟨(OV.rvn (h21.at_ 0 rfl)).2, trivial⟩ (fun W hW => eq_is (v := Value.int .u32 (IntKind.u32.wrap (uw ((gw L (((k - 16)))) + (((trn (gw L (((k - 15)))) 7) ^^^ (trn (gw L (((k - 15)))) 18)) ^^^ (wsr (gw L (((k - 15)))) 3))) + uw (gw L (((k - 7))))))) (by kernel_rfl) (w_add ((gw L (((k - 16)))) + (((trn (gw L (((k - 15)))) 7) ^^^ (trn (gw L (((k - 15)))) 18)) ^^^ (wsr (gw L (((k - 15)))) 3))) (gw L (((k - 7)))))) ?_
    refine pR_to 22 (some 97) 218103807 rfl hs19 (x_np h21 52 [(Value.int .u32 (uw (gw L (((k - 2)))))), (Value.int .u64 17)] (by kernel_rfl) (rturn_any (gw L (((k - 2)))) 17 (by decide) _)) ?_
    rintro _ w22 ⟨rfl, h22⟩
    refine ⟨fun _ => ⟨(OV.rvn (h22.at_ 0 rfl)).2, trivial⟩, ?_⟩
    refine pR_to 24 (some 99) 234881023 rfl hs19 (x_np h22 52 [(Value.int .u32 (uw (gw L (((k - 2)))))), (Value.int .u64 19)] (by kernel_rfl) (rturn_any (gw L (((k - 2)))) 19 (by decide) _)) ?_
    rintro _ w23 ⟨rfl, h23⟩
    refine ⟨fun _ => ⟨(OV.rvn (h23.at_ 0 rfl)).2, trivial⟩, ?_⟩
    refine pR_v 25 (some 100) (Value.int .u32 (uw ((trn (gw L (((k - 2)))) 17) ^^^ (trn (gw L (((k - 2)))) 19)))) 268435455 rfl hs19 ⟨(OV.rvn (h23.at_ 0 rfl)).2, trivial⟩ (fun W hW => eq_is (v := Value.int .u32 (bits .xor .u32 (uw (trn (gw L (((k - 2)))) 17)) (uw (trn (gw L (((k - 2)))) 19)))) (by kernel_rfl) (w_xor (trn (gw L (((k - 2)))) 17) (trn (gw L (((k - 2)))) 19))) ?_
    refine pR_v 28 (some 103) (Value.int .u32 (uw (((trn (gw L (((k - 2)))) 17) ^^^ (trn (gw L (((k - 2)))) 19)) ^^^ (wsr (gw L (((k - 2)))) 10)))) 536870911 rfl hs19 ⟨(OV.rvn (h23.at_ 0 rfl)).2, trivial⟩ (fun W hW => eq_is (v := Value.int .u32 (bits .xor .u32 (uw ((trn (gw L (((k - 2)))) 17) ^^^ (trn (gw L (((k - 2)))) 19))) (uw (wsr (gw L (((k - 2)))) 10)))) (by kernel_rfl) (w_xor ((trn (gw L (((k - 2)))) 17) ^^^ (trn (gw L (((k - 2)))) 19)) (wsr (gw L (((k - 2)))) 10))) ?_
    refine pR_v 29 (some 104) (Value.int .u32 (uw ((((gw L (((k - 16)))) + (((trn (gw L (((k - 15)))) 7) ^^^ (trn (gw L (((k - 15)))) 18)) ^^^ (wsr (gw L (((k - 15)))) 3))) + (gw L (((k - 7))))) + (((trn (gw L (((k - 2)))) 17) ^^^ (trn (gw L (((k - 2)))) 19)) ^^^ (wsr (gw L (((k - 2)))) 10))))) 1073741823 rfl hs19 ⟨(OV.rvn (h23.at_ 0 rfl)).2, trivial⟩ (fun W hW => eq_is (v := Value.int .u32 (IntKind.u32.wrap (uw (((gw L (((k - 16)))) + (((trn (gw L (((k - 15)))) 7) ^^^ (trn (gw L (((k - 15)))) 18)) ^^^ (wsr (gw L (((k - 15)))) 3))) + (gw L (((k - 7))))) + uw (((trn (gw L (((k - 2)))) 17) ^^^ (trn (gw L (((k - 2)))) 19)) ^^^ (wsr (gw L (((k - 2)))) 10))))) (by kernel_rfl) (w_add (((gw L (((k - 16)))) + (((trn (gw L (((k - 15)))) 7) ^^^ (trn (gw L (((k - 15)))) 18)) ^^^ (wsr (gw L (((k - 15)))) 3))) + (gw L (((k - 7))))) (((trn (gw L (((k - 2)))) 17) ^^^ (trn (gw L (((k - 2)))) 19)) ^^^ (wsr (gw L (((k - 2)))) 10)))) ?_
    refine pR_to 30 (some 105) 2147483647 rfl hs19 (x_bs h23 64 ([(Value.int .u32 (uw ((((gw L (((k - 16)))) + (((trn (gw L (((k - 15)))) 7) ^^^ (trn (gw L (((k - 15)))) 18)) ^^^ (wsr (gw L (((k - 15)))) 3))) + (gw L (((k - 7))))) + (((trn (gw L (((k - 2)))) 17) ^^^ (trn (gw L (((k - 2)))) 19)) ^^^ (wsr (gw L (((k - 2)))) 10)))))]) 1 (by kernel_rfl)) ?_
    rintro _ w24 ⟨g24, rfl, h24⟩
    refine ⟨fun _ => ⟨(OV.rvn (h24.at_ 1 rfl)).2, trivial⟩, ?_⟩
    refine pR_to 31 (some 106) 4294967295 rfl hs19 (x_pushK h24 1 0 rfl rfl (by kernel_rfl) (.tmp 75) (.tmp 105) 38 (by kernel_rfl) 4 (Value.int .u32 0) (by kernel_rfl) (by kernel_rfl) (by kernel_rfl) (by kernel_rfl) (by kernel_rfl) 1 (by kernel_rfl) (by kernel_rfl) (by kernel_rfl) (by rw [wx_len]; omega) (by rw [wx_len]; unfold maxLen; omega) (wx (L ++ [((((gw L (((k - 16)))) + (((trn (gw L (((k - 15)))) 7) ^^^ (trn (gw L (((k - 15)))) 18)) ^^^ (wsr (gw L (((k - 15)))) 3))) + (gw L (((k - 7))))) + (((trn (gw L (((k - 2)))) 17) ^^^ (trn (gw L (((k - 2)))) 19)) ^^^ (wsr (gw L (((k - 2)))) 10)))])) (k + 1) (wx_app L (((((gw L (((k - 16)))) + (((trn (gw L (((k - 15)))) 7) ^^^ (trn (gw L (((k - 15)))) 18)) ^^^ (wsr (gw L (((k - 15)))) 3))) + (gw L (((k - 7))))) + (((trn (gw L (((k - 2)))) 17) ^^^ (trn (gw L (((k - 2)))) 19)) ^^^ (wsr (gw L (((k - 2)))) 10))))) (by rw [wx_len, List.length_append, hl]; rfl)) ?_
    rintro _ w25 ⟨A25, c25, rfl, hV25, h25⟩
    refine ⟨fun _ => ⟨hV25, trivial⟩, ?_⟩
    refine pR_to 32 (some 7) 8589934591 rfl hs19 (OpTo.run (Value.slice A25 (k + 1) c25) (pureOp_run (by kernel_rfl) _) (R := fun v w => v = (Value.slice A25 (k + 1) c25) ∧ w25 = w) ⟨rfl, rfl⟩) ?_
    rintro _ _ ⟨rfl, rfl⟩
    refine ⟨fun h => absurd h (by decide), ?_⟩
    refine pR_done hs19 ?_ _
    refine blk_n ?_
    refine seq_n hK10 ?_
    refine wp_reset 237 [(0, (Value.slice A 8 c)), (1, (Value.slice B 64 d)), (2, (Value.slice C 64 e)), (6, (Value.slice none 0 0)), (7, (Value.slice A25 (k + 1) c25)), (8, (Value.int .i64 ((k : Int)))), (9, (Value.int .u32 (uw (gw L (((k - 15))))))), (10, (Value.int .u32 (uw (gw L (((k - 2))))))), (24, (Value.bool (decide ((k : Int) < 64)))), (28, (Value.bool (decide ((k : Int) < 16))))] (fun x26 => ?_)
    refine reg_lit ?_
    refine wq_p 1 [(25, (Value.int .i64 ((k : Int))))] ?_
    refine wq_v (some 26) (Value.int .i64 ((k : Int) + 1)) (exec_add _ _ _ _ rfl ((k : Int)) 1 (by kernel_rfl) (by kernel_rfl) ((k : Int) + 1) rfl (by omega) (by omega) _) ?_
    refine wq_p 1 [(8, (Value.int .i64 ((k : Int) + 1)))] ?_
    refine wl_end rfl ?_
    refine ⟨64 - (k + 1), (by omega), (k + 1), (L ++ [((((gw L (((k - 16)))) + (((trn (gw L (((k - 15)))) 7) ^^^ (trn (gw L (((k - 15)))) 18)) ^^^ (wsr (gw L (((k - 15)))) 3))) + (gw L (((k - 7))))) + (((trn (gw L (((k - 2)))) 17) ^^^ (trn (gw L (((k - 2)))) 19)) ^^^ (wsr (gw L (((k - 2)))) 10)))]), A25, c25, (by omega), (rw_hi hL (by omega)), (by rw [List.length_append, hl]; rfl), rfl, (patch_eq _ 237 _ (by kernel_rfl) (by kernel_rfl) (by kernel_rfl)), h25.sel [1] [0, 1, 2] (by kernel_rfl) rfl rfl⟩
  ·
   refine wp_exit ?_
   refine seq_e ?_
   refine seq_e ?_
   refine blk_e ?_
   refine seq_n hK4 ?_
   refine wp_seq_k ?_
   intro K27 hK27
   refine pR_go h6 15 (fun W => (rRV 1 A c (wx h.l)).Φ W ∧ True) [(108, [0], 0), (109, [107], 1), (110, [108], 2), (111, [0], 0), (112, [110], 8), (113, [111], 16), (114, [0], 0), (115, [113], 64), (116, [114], 128), (117, [0], 0), (118, [116], 512), (119, [117], 1024), (12, [109], 7), (13, [112], 4159), (14, [115], 12799), (15, [118], 32767)] rfl (fun _ d _ _ _ h => by cases d <;> exact h) ?_
   intro hs28 w28 h28
   refine pR_p 12 [0, 3, 6, 9] [(116, (Value.slice A 8 c)), (113, (Value.slice A 8 c)), (110, (Value.slice A 8 c)), (107, (Value.slice A 8 c))] 585 hs28 ⟨h28.rd 0 rfl, trivial⟩ ?_
   refine pR_v 1 (some 108) (eAt A (0 * 1 + 0)) 587 rfl hs28 ⟨h28.rd 0 rfl, trivial⟩ (fun W hW => e_idxN (RV.lenIs (n := 8) (h28.rd 0 rfl) rfl).2 0 8 (RV.lenIs (n := 8) (h28.rd 0 rfl) rfl).1 (by first | omega | (rw [hbl]; omega)) 38 (.tmp 107) (.const (Value.int .i64 0)) (by kernel_rfl) .i64 (by kernel_rfl) (by kernel_rfl) 64 (by kernel_rfl) (by kernel_rfl) _) ?_
   refine pR_v 4 (some 111) (eAt A (1 * 1 + 0)) 603 rfl hs28 ⟨h28.rd 0 rfl, trivial⟩ (fun W hW => e_idxN (RV.lenIs (n := 8) (h28.rd 0 rfl) rfl).2 1 8 (RV.lenIs (n := 8) (h28.rd 0 rfl) rfl).1 (by first | omega | (rw [hbl]; omega)) 38 (.tmp 110) (.const (Value.int .i64 1)) (by kernel_rfl) .i64 (by kernel_rfl) (by kernel_rfl) 64 (by kernel_rfl) (by kernel_rfl) _) ?_
   refine pR_v 7 (some 114) (eAt A (2 * 1 + 0)) 731 rfl hs28 ⟨h28.rd 0 rfl, trivial⟩ (fun W hW => e_idxN (RV.lenIs (n := 8) (h28.rd 0 rfl) rfl).2 2 8 (RV.lenIs (n := 8) (h28.rd 0 rfl) rfl).1 (by first | omega | (rw [hbl]; omega)) 38 (.tmp 113) (.const (Value.int .i64 2)) (by kernel_rfl) .i64 (by kernel_rfl) (by kernel_rfl) 64 (by kernel_rfl) (by kernel_rfl) _) ?_
   refine pR_v 10 (some 117) (eAt A (3 * 1 + 0)) 1755 rfl hs28 ⟨h28.rd 0 rfl, trivial⟩ (fun W hW => e_idxN (RV.lenIs (n := 8) (h28.rd 0 rfl) rfl).2 3 8 (RV.lenIs (n := 8) (h28.rd 0 rfl) rfl).1 (by first | omega | (rw [hbl]; omega)) 38 (.tmp 116) (.const (Value.int .i64 3)) (by kernel_rfl) .i64 (by kernel_rfl) (by kernel_rfl) 64 (by kernel_rfl) (by kernel_rfl) _) ?_
   refine pR_v 2 (some 109) (Value.int .u32 (uw h.a)) 1759 rfl hs28 ⟨h28.rd 0 rfl, trivial⟩ (fun W hW => e_elemN (RV.lenIs (n := 8) hW.1 rfl).2 0 0 ([(Value.int .u32 (uw h.a))]) rfl 64 (.tmp 108) (by kernel_rfl) (Value.int .u32 (uw h.a)) (by kernel_rfl) (by kernel_rfl) (by kernel_rfl)) ?_
   refine pR_p 6 [12] [(11, (Value.int .u32 (uw h.a)))] 5855 hs28 ⟨h28.rd 0 rfl, trivial⟩ ?_
   refine pR_v 5 (some 112) (Value.int .u32 (uw h.b)) 5887 rfl hs28 ⟨h28.rd 0 rfl, trivial⟩ (fun W hW => e_elemN (RV.lenIs (n := 8) hW.1 rfl).2 1 0 ([(Value.int .u32 (uw h.b))]) rfl 64 (.tmp 111) (by kernel_rfl) (Value.int .u32 (uw h.b)) (by kernel_rfl) (by kernel_rfl) (by kernel_rfl)) ?_
   refine pR_p 4 [13] [(12, (Value.int .u32 (uw h.b)))] 14079 hs28 ⟨h28.rd 0 rfl, trivial⟩ ?_
   refine pR_v 8 (some 115) (Value.int .u32 (uw h.c)) 14335 rfl hs28 ⟨h28.rd 0 rfl, trivial⟩ (fun W hW => e_elemN (RV.lenIs (n := 8) hW.1 rfl).2 2 0 ([(Value.int .u32 (uw h.c))]) rfl 64 (.tmp 114) (by kernel_rfl) (Value.int .u32 (uw h.c)) (by kernel_rfl) (by kernel_rfl) (by kernel_rfl)) ?_
   refine pR_p 2 [14] [(13, (Value.int .u32 (uw h.c)))] 30719 hs28 ⟨h28.rd 0 rfl, trivial⟩ ?_
   refine pR_v 11 (some 118) (Value.int .u32 (uw h.d)) 32767 rfl hs28 ⟨h28.rd 0 rfl, trivial⟩ (fun W hW => e_elemN (RV.lenIs (n := 8) hW.1 rfl).2 3 0 ([(Value.int .u32 (uw h.d))]) rfl 64 (.tmp 117) (by kernel_rfl) (Value.int .u32 (uw h.d)) (by kernel_rfl) (by kernel_rfl) (by kernel_rfl)) ?_
   refine pR_to 15 (some 14) 65535 rfl hs28 (OpTo.run (Value.int .u32 (uw h.d)) (pureOp_run (by kernel_rfl) _) (R := fun v w => v = (Value.int .u32 (uw h.d)) ∧ w28 = w) ⟨rfl, rfl⟩) ?_
   rintro _ _ ⟨rfl, rfl⟩
   refine ⟨fun h => absurd h (by decide), ?_⟩
   refine pR_done hs28 ?_ _
   refine seq_n hK27 ?_
   refine wp_seq_k ?_
   intro K29 hK29
   refine pR_go h28 15 (fun W => (rRV 1 A c (wx h.l)).Φ W ∧ True) [(120, [0], 0), (121, [119], 1), (122, [120], 2), (123, [0], 0), (124, [122], 8), (125, [123], 16), (126, [0], 0), (127, [125], 64), (128, [126], 128), (129, [0], 0), (130, [128], 512), (131, [129], 1024), (16, [121], 7), (17, [124], 4159), (18, [127], 12799), (19, [130], 32767)] rfl (fun _ d _ _ _ h => by cases d <;> exact h) ?_
   intro hs30 w30 h30
   refine pR_p 12 [0, 3, 6, 9] [(128, (Value.slice A 8 c)), (125, (Value.slice A 8 c)), (122, (Value.slice A 8 c)), (119, (Value.slice A 8 c))] 585 hs30 ⟨h30.rd 0 rfl, trivial⟩ ?_
   refine pR_v 1 (some 120) (eAt A (4 * 1 + 0)) 587 rfl hs30 ⟨h30.rd 0 rfl, trivial⟩ (fun W hW => e_idxN (RV.lenIs (n := 8) (h30.rd 0 rfl) rfl).2 4 8 (RV.lenIs (n := 8) (h30.rd 0 rfl) rfl).1 (by first | omega | (rw [hbl]; omega)) 38 (.tmp 119) (.const (Value.int .i64 4)) (by kernel_rfl) .i64 (by kernel_rfl) (by kernel_rfl) 64 (by kernel_rfl) (by kernel_rfl) _) ?_
   refine pR_v 4 (some 123) (eAt A (5 * 1 + 0)) 603 rfl hs30 ⟨h30.rd 0 rfl, trivial⟩ (fun W hW => e_idxN (RV.lenIs (n := 8) (h30.rd 0 rfl) rfl).2 5 8 (RV.lenIs (n := 8) (h30.rd 0 rfl) rfl).1 (by first | omega | (rw [hbl]; omega)) 38 (.tmp 122) (.const (Value.int .i64 5)) (by kernel_rfl) .i64 (by kernel_rfl) (by kernel_rfl) 64 (by kernel_rfl) (by kernel_rfl) _) ?_
   refine pR_v 7 (some 126) (eAt A (6 * 1 + 0)) 731 rfl hs30 ⟨h30.rd 0 rfl, trivial⟩ (fun W hW => e_idxN (RV.lenIs (n := 8) (h30.rd 0 rfl) rfl).2 6 8 (RV.lenIs (n := 8) (h30.rd 0 rfl) rfl).1 (by first | omega | (rw [hbl]; omega)) 38 (.tmp 125) (.const (Value.int .i64 6)) (by kernel_rfl) .i64 (by kernel_rfl) (by kernel_rfl) 64 (by kernel_rfl) (by kernel_rfl) _) ?_
   refine pR_v 10 (some 129) (eAt A (7 * 1 + 0)) 1755 rfl hs30 ⟨h30.rd 0 rfl, trivial⟩ (fun W hW => e_idxN (RV.lenIs (n := 8) (h30.rd 0 rfl) rfl).2 7 8 (RV.lenIs (n := 8) (h30.rd 0 rfl) rfl).1 (by first | omega | (rw [hbl]; omega)) 38 (.tmp 128) (.const (Value.int .i64 7)) (by kernel_rfl) .i64 (by kernel_rfl) (by kernel_rfl) 64 (by kernel_rfl) (by kernel_rfl) _) ?_
   refine pR_v 2 (some 121) (Value.int .u32 (uw h.e)) 1759 rfl hs30 ⟨h30.rd 0 rfl, trivial⟩ (fun W hW => e_elemN (RV.lenIs (n := 8) hW.1 rfl).2 4 0 ([(Value.int .u32 (uw h.e))]) rfl 64 (.tmp 120) (by kernel_rfl) (Value.int .u32 (uw h.e)) (by kernel_rfl) (by kernel_rfl) (by kernel_rfl)) ?_
   refine pR_p 6 [12] [(15, (Value.int .u32 (uw h.e)))] 5855 hs30 ⟨h30.rd 0 rfl, trivial⟩ ?_
   refine pR_v 5 (some 124) (Value.int .u32 (uw h.f)) 5887 rfl hs30 ⟨h30.rd 0 rfl, trivial⟩ (fun W hW => e_elemN (RV.lenIs (n := 8) hW.1 rfl).2 5 0 ([(Value.int .u32 (uw h.f))]) rfl 64 (.tmp 123) (by kernel_rfl) (Value.int .u32 (uw h.f)) (by kernel_rfl) (by kernel_rfl) (by kernel_rfl)) ?_
   refine pR_p 4 [13] [(16, (Value.int .u32 (uw h.f)))] 14079 hs30 ⟨h30.rd 0 rfl, trivial⟩ ?_
   refine pR_v 8 (some 127) (Value.int .u32 (uw h.g)) 14335 rfl hs30 ⟨h30.rd 0 rfl, trivial⟩ (fun W hW => e_elemN (RV.lenIs (n := 8) hW.1 rfl).2 6 0 ([(Value.int .u32 (uw h.g))]) rfl 64 (.tmp 126) (by kernel_rfl) (Value.int .u32 (uw h.g)) (by kernel_rfl) (by kernel_rfl) (by kernel_rfl)) ?_
   refine pR_p 2 [14] [(17, (Value.int .u32 (uw h.g)))] 30719 hs30 ⟨h30.rd 0 rfl, trivial⟩ ?_
   refine pR_v 11 (some 130) (Value.int .u32 (uw h.h)) 32767 rfl hs30 ⟨h30.rd 0 rfl, trivial⟩ (fun W hW => e_elemN (RV.lenIs (n := 8) hW.1 rfl).2 7 0 ([(Value.int .u32 (uw h.h))]) rfl 64 (.tmp 129) (by kernel_rfl) (Value.int .u32 (uw h.h)) (by kernel_rfl) (by kernel_rfl) (by kernel_rfl)) ?_
   refine pR_to 15 (some 18) 65535 rfl hs30 (OpTo.run (Value.int .u32 (uw h.h)) (pureOp_run (by kernel_rfl) _) (R := fun v w => v = (Value.int .u32 (uw h.h)) ∧ w30 = w) ⟨rfl, rfl⟩) ?_
   rintro _ _ ⟨rfl, rfl⟩
   refine ⟨fun h => absurd h (by decide), ?_⟩
   refine pR_done hs30 ?_ _
   refine seq_n hK29 ?_
   refine wp_seq_k ?_
   intro K31 hK31
   refine wp_seq_k ?_
   intro K32 hK32
   refine wp_reset 237 [(0, (Value.slice A 8 c)), (1, (Value.slice B 64 d)), (2, (Value.slice C 64 e)), (6, (Value.slice none 0 0)), (7, (Value.slice Av k cv)), (8, (Value.int .i64 ((k : Int)))), (11, (Value.int .u32 (uw h.a))), (12, (Value.int .u32 (uw h.b))), (13, (Value.int .u32 (uw h.c))), (14, (Value.int .u32 (uw h.d))), (15, (Value.int .u32 (uw h.e))), (16, (Value.int .u32 (uw h.f))), (17, (Value.int .u32 (uw h.g))), (18, (Value.int .u32 (uw h.h))), (24, (Value.bool (decide ((k : Int) < 64))))] (fun x33 => ?_)
   refine reg_lit ?_
   refine wq_p 1 [(19, (Value.int .i64 0))] ?_
   refine wl_end rfl ?_
   refine seq_n hK32 ?_
   refine wp_block ?_
   refine wp_loopm (fun mM xX aA wL => ∃ (i : Nat) (s : S8), (i ≤ 64) ∧ (s = rnN L h (i)) ∧ mM = 64 - (i) ∧ aA = patch xX 237 [(0, (Value.slice A 8 c)), (1, (Value.slice B 64 d)), (2, (Value.slice C 64 e)), (6, (Value.slice none 0 0)), (7, (Value.slice Av k cv)), (8, (Value.int .i64 ((k : Int)))), (11, (Value.int .u32 (uw s.a))), (12, (Value.int .u32 (uw s.b))), (13, (Value.int .u32 (uw s.c))), (14, (Value.int .u32 (uw s.d))), (15, (Value.int .u32 (uw s.e))), (16, (Value.int .u32 (uw s.f))), (17, (Value.int .u32 (uw s.g))), (18, (Value.int .u32 (uw s.h))), (19, (Value.int .i64 ((i : Int)))), (24, (Value.bool (decide ((k : Int) < 64))))] ∧ Hp (fun _ => False) w wL [rRV 1 A c (wx h.l), rSB ((Value.slice B 64 d)) b, rRV 1 C e (wx shaK)] [rOV 64 1 ((Value.slice Av k cv)) (wx L)]) ⟨_, 0, h, (by omega), rfl, rfl, (patch_eq _ 237 _ (by kernel_rfl) (by kernel_rfl) (by kernel_rfl)), h30.sel [0] [0, 1, 2] (by kernel_rfl) rfl rfl⟩ ?_
   rintro _ x34 _ w34 ⟨i, s, hi, hs, rfl, rfl, h34⟩
   refine wp_seq_k ?_
   intro K35 hK35
   refine wp_seq_k ?_
   intro K36 hK36
   refine reg_lit ?_
   refine wq_p 2 [(132, (Value.bool (decide ((i : Int) < 64)))), (131, (Value.int .i64 ((i : Int))))] ?_
   refine wl_end rfl ?_
   refine seq_n hK36 ?_
   refine wp_if ((i : Int) < 64) (by kernel_rfl) (fun b37 => ?_) (fun b37 => ?_)
   ·
    refine wp_skip ?_
    refine seq_n hK35 ?_
    refine wp_seq_k ?_
    intro K38 hK38
    refine wp_block ?_
    refine wp_seq_k ?_
    intro K39 hK39
    refine pR_go h34 29 (fun W => (rRV 1 C e (wx shaK)).Φ W ∧ (rOV 64 1 ((Value.slice Av k cv)) (wx L)).Φ W ∧ True) [(136, [18], 0), (137, [15], 0), (138, [136], 2), (139, [15], 0), (140, [138], 12), (141, [137, 139], 20), (142, [15], 0), (143, [141], 80), (144, [140, 142], 160), (145, [135, 143], 257), (146, [15], 0), (147, [16], 0), (148, [145, 146], 3072), (149, [15], 0), (150, [148], 8192), (151, [17], 0), (152, [149, 150], 49152), (153, [147, 151], 69632), (154, [144, 152], 131584), (155, [2], 0), (156, [19], 0), (157, [154, 155], 1572864), (158, [156], 2097152), (159, [153, 157], 4456448), (160, [7], 0), (161, [19], 0), (162, [159, 160], 50331648), (163, [161], 67108864), (164, [158, 162], 142606336), (21, [163], 536870911)] rfl (fun _ d _ _ _ h => by cases d <;> exact h) ?_
    intro hs40 w40 h40
    refine pR_p 18 [0, 1, 3, 6, 10, 11, 13, 15, 19, 20, 24, 25] [(160, (Value.int .i64 ((i : Int)))), (159, (Value.slice Av k cv)), (155, (Value.int .i64 ((i : Int)))), (154, (Value.slice C 64 e)), (150, (Value.int .u32 (uw s.g))), (148, (Value.int .u32 (uw s.e))), (146, (Value.int .u32 (uw s.f))), (145, (Value.int .u32 (uw s.e))), (141, (Value.int .u32 (uw s.e))), (138, (Value.int .u32 (uw s.e))), (136, (Value.int .u32 (uw s.e))), (135, (Value.int .u32 (uw s.h)))] 51948619 hs40 ⟨h40.rd 2 rfl, h40.at_ 0 rfl, trivial⟩ ?_
    refine pR_v 12 (some 147) (Value.int .u32 (uw (s.e &&& s.f))) 51952715 rfl hs40 ⟨h40.rd 2 rfl, h40.at_ 0 rfl, trivial⟩ (fun W hW => eq_is (v := Value.int .u32 (bits .and .u32 (uw s.e) (uw s.f))) (by kernel_rfl) (w_and s.e s.f)) ?_
    refine pR_v 14 (some 149) (Value.int .u32 (uw (~~~s.e))) 51969099 rfl hs40 ⟨h40.rd 2 rfl, h40.at_ 0 rfl, trivial⟩ (fun W hW => eq_is (v := Value.int .u32 (bits .xor .u32 4294967295 (uw s.e))) (by kernel_rfl) (w_not s.e)) ?_
    refine pR_v 16 (some 151) (Value.int .u32 (uw ((~~~s.e) &&& s.g))) 52034635 rfl hs40 ⟨h40.rd 2 rfl, h40.at_ 0 rfl, trivial⟩ (fun W hW => eq_is (v := Value.int .u32 (bits .and .u32 (uw (~~~s.e)) (uw s.g))) (by kernel_rfl) (w_and (~~~s.e) s.g)) ?_
    refine pR_v 17 (some 152) (Value.int .u32 (uw ((s.e &&& s.f) ^^^ ((~~~s.e) &&& s.g)))) 52165707 rfl hs40 ⟨h40.rd 2 rfl, h40.at_ 0 rfl, trivial⟩ (fun W hW => eq_is (v := Value.int .u32 (bits .xor .u32 (uw (s.e &&& s.f)) (uw ((~~~s.e) &&& s.g)))) (by kernel_rfl) (w_xor (s.e &&& s.f) ((~~~s.e) &&& s.g))) ?_
    refine pR_v 21 (some 156) (eAt C (i * 1 + 0)) 54262859 rfl hs40 ⟨h40.rd 2 rfl, h40.at_ 0 rfl, trivial⟩ (fun W hW => e_idxN (RV.lenIs (n := 64) (h40.rd 2 rfl) rfl).2 i 64 (RV.lenIs (n := 64) (h40.rd 2 rfl) rfl).1 (by first | omega | (rw [hbl]; omega)) 38 (.tmp 154) (.tmp 155) (by kernel_rfl) .i64 (by kernel_rfl) (by kernel_rfl) 64 (by kernel_rfl) (by kernel_rfl) _) ?_
    refine pR_v 26 (some 161) (eAt Av (i * 1 + 0)) 121371723 rfl hs40 ⟨h40.rd 2 rfl, h40.at_ 0 rfl, trivial⟩ (fun W hW => e_idxN (OV.rvn (h40.at_ 0 rfl)).2 i k (OV.rvn (h40.at_ 0 rfl)).1 (by first | omega | (rw [hbl]; omega)) 38 (.tmp 159) (.tmp 160) (by kernel_rfl) .i64 (by kernel_rfl) (by kernel_rfl) 64 (by kernel_rfl) (by kernel_rfl) _) ?_
    refine pR_v 22 (some 157) (Value.int .u32 (uw (gw shaK (i)))) 125566027 rfl hs40 ⟨h40.rd 2 rfl, h40.at_ 0 rfl, trivial⟩ (fun W hW => e_elemN (RV.lenIs (n := 64) hW.1 rfl).2 i 0 ([(Value.int .u32 (uw (gw shaK (i))))]) (wx_get shaK (i) (by first | omega | (rw [hl]; omega) | (show _ < 64; omega))) 64 (.tmp 156) (by kernel_rfl) (Value.int .u32 (uw (gw shaK (i)))) (by kernel_rfl) (by kernel_rfl) (by kernel_rfl)) ?_
    refine pR_v 27 (some 162) (Value.int .u32 (uw (gw L (i)))) 259783755 rfl hs40 ⟨h40.rd 2 rfl, h40.at_ 0 rfl, trivial⟩ (fun W hW => e_elemN (OV.rvn hW.2.1).2 i 0 ([(Value.int .u32 (uw (gw L (i))))]) (wx_get L (i) (by first | omega | (rw [hl]; omega) | (show _ < 64; omega))) 64 (.tmp 161) (by kernel_rfl) (Value.int .u32 (uw (gw L (i)))) (by kernel_rfl) (by kernel_rfl) (by kernel_rfl)) ?_
    refine pR_to 2 (some 137) 259783759 rfl hs40 (x_np h40 52 [(Value.int .u32 (uw s.e)), (Value.int .u64 6)] (by kernel_rfl) (rturn_any s.e 6 (by decide) _)) ?_
    rintro _ w41 ⟨rfl, h41⟩
    refine ⟨fun _ => ⟨h41.rd 2 rfl, h41.at_ 0 rfl, trivial⟩, ?_⟩
    refine pR_to 4 (some 139) 259783775 rfl hs40 (x_np h41 52 [(Value.int .u32 (uw s.e)), (Value.int .u64 11)] (by kernel_rfl) (rturn_any s.e 11 (by decide) _)) ?_
    rintro _ w42 ⟨rfl, h42⟩
    refine ⟨fun _ => ⟨h42.rd 2 rfl, h42.at_ 0 rfl, trivial⟩, ?_⟩
    refine pR_v 5 (some 140) (Value.int .u32 (uw ((trn s.e 6) ^^^ (trn s.e 11)))) 259783807 rfl hs40 ⟨h42.rd 2 rfl, h42.at_ 0 rfl, trivial⟩ (fun W hW => eq_is (v := Value.int .u32 (bits .xor .u32 (uw (trn s.e 6)) (uw (trn s.e 11)))) (by kernel_rfl) (w_xor (trn s.e 6) (trn s.e 11))) ?_
    refine pR_to 7 (some 142) 259783935 rfl hs40 (x_np h42 52 [(Value.int .u32 (uw s.e)), (Value.int .u64 25)] (by kernel_rfl) (rturn_any s.e 25 (by decide) _)) ?_
    rintro _ w43 ⟨rfl, h43⟩
    refine ⟨fun _ => ⟨h43.rd 2 rfl, h43.at_ 0 rfl, trivial⟩, ?_⟩
    refine pR_v 8 (some 143) (Value.int .u32 (uw (((trn s.e 6) ^^^ (trn s.e 11)) ^^^ (trn s.e 25)))) 259784191 rfl hs40 ⟨h43.rd 2 rfl, h43.at_ 0 rfl, trivial⟩ (fun W hW => eq_is (v := Value.int .u32 (bits .xor .u32 (uw ((trn s.e 6) ^^^ (trn s.e 11))) (uw (trn s.e 25)))) (by kernel_rfl) (w_xor ((trn s.e 6) ^^^ (trn s.e 11)) (trn s.e 25))) ?_
    refine pR_v 9 (some 144) (Value.int .u32 (uw (s.h + (((trn s.e 6) ^^^ (trn s.e 11)) ^^^ (trn s.e 25))))) 259784703 rfl hs40 ⟨h43.rd 2 rfl, h43.at_ 0 rfl, trivial⟩ (fun W hW => eq_is (v := Value.int .u32 (IntKind.u32.wrap (uw s.h + uw (((trn s.e 6) ^^^ (trn s.e 11)) ^^^ (trn s.e 25))))) (by kernel_rfl) (w_add s.h (((trn s.e 6) ^^^ (trn s.e 11)) ^^^ (trn s.e 25)))) ?_
    refine pR_v 18 (some 153) (Value.int .u32 (uw ((s.h + (((trn s.e 6) ^^^ (trn s.e 11)) ^^^ (trn s.e 25))) + ((s.e &&& s.f) ^^^ ((~~~s.e) &&& s.g))))) 260046847 rfl hs40 ⟨h43.rd 2 rfl, h43.at_ 0 rfl, trivial⟩ (fun W hW => eq_is (v := Value.int .u32 (IntKind.u32.wrap (uw (s.h + (((trn s.e 6) ^^^ (trn s.e 11)) ^^^ (trn s.e 25))) + uw ((s.e &&& s.f) ^^^ ((~~~s.e) &&& s.g))))) (by kernel_rfl) (w_add (s.h + (((trn s.e 6) ^^^ (trn s.e 11)) ^^^ (trn s.e 25))) ((s.e &&& s.f) ^^^ ((~~~s.e) &&& s.g)))) ?_
    refine pR_v 23 (some 158) (Value.int .u32 (uw (((s.h + (((trn s.e 6) ^^^ (trn s.e 11)) ^^^ (trn s.e 25))) + ((s.e &&& s.f) ^^^ ((~~~s.e) &&& s.g))) + (gw shaK (i))))) 268435455 rfl hs40 ⟨h43.rd 2 rfl, h43.at_ 0 rfl, trivial⟩ (fun W hW => eq_is (v := Value.int .u32 (IntKind.u32.wrap (uw ((s.h + (((trn s.e 6) ^^^ (trn s.e 11)) ^^^ (trn s.e 25))) + ((s.e &&& s.f) ^^^ ((~~~s.e) &&& s.g))) + uw (gw shaK (i))))) (by kernel_rfl) (w_add ((s.h + (((trn s.e 6) ^^^ (trn s.e 11)) ^^^ (trn s.e 25))) + ((s.e &&& s.f) ^^^ ((~~~s.e) &&& s.g))) (gw shaK (i)))) ?_
    refine pR_v 28 (some 163) (Value.int .u32 (uw ((((s.h + (((trn s.e 6) ^^^ (trn s.e 11)) ^^^ (trn s.e 25))) + ((s.e &&& s.f) ^^^ ((~~~s.e) &&& s.g))) + (gw shaK (i))) + (gw L (i))))) 536870911 rfl hs40 ⟨h43.rd 2 rfl, h43.at_ 0 rfl, trivial⟩ (fun W hW => eq_is (v := Value.int .u32 (IntKind.u32.wrap (uw (((s.h + (((trn s.e 6) ^^^ (trn s.e 11)) ^^^ (trn s.e 25))) + ((s.e &&& s.f) ^^^ ((~~~s.e) &&& s.g))) + (gw shaK (i))) + uw (gw L (i))))) (by kernel_rfl) (w_add (((s.h + (((trn s.e 6) ^^^ (trn s.e 11)) ^^^ (trn s.e 25))) + ((s.e &&& s.f) ^^^ ((~~~s.e) &&& s.g))) + (gw shaK (i))) (gw L (i)))) ?_
    refine pR_to 29 (some 20) 1073741823 rfl hs40 (OpTo.run (Value.int .u32 (uw ((((s.h + (((trn s.e 6) ^^^ (trn s.e 11)) ^^^ (trn s.e 25))) + ((s.e &&& s.f) ^^^ ((~~~s.e) &&& s.g))) + (gw shaK (i))) + (gw L (i))))) (pureOp_run (by kernel_rfl) _) (R := fun v w => v = (Value.int .u32 (uw ((((s.h + (((trn s.e 6) ^^^ (trn s.e 11)) ^^^ (trn s.e 25))) + ((s.e &&& s.f) ^^^ ((~~~s.e) &&& s.g))) + (gw shaK (i))) + (gw L (i))))) ∧ w43 = w) ⟨rfl, rfl⟩) ?_
    rintro _ _ ⟨rfl, rfl⟩
    refine ⟨fun h => absurd h (by decide), ?_⟩
    refine pR_done hs40 ?_ _
    refine seq_n hK39 ?_
    refine wp_seq_k ?_
    intro K44 hK44
    refine reg_lit ?_
    refine wq_p 1 [(164, (Value.int .u32 (uw s.a)))] ?_
    refine wq_to (some 165) (x_np h43 52 [(Value.int .u32 (uw s.a)), (Value.int .u64 2)] (by kernel_rfl) (rturn_any s.a 2 (by decide) _)) ?_
    rintro _ w45 ⟨rfl, h45⟩
    refine wq_p 1 [(166, (Value.int .u32 (uw s.a)))] ?_
    refine wq_to (some 167) (x_np h45 52 [(Value.int .u32 (uw s.a)), (Value.int .u64 13)] (by kernel_rfl) (rturn_any s.a 13 (by decide) _)) ?_
    rintro _ w46 ⟨rfl, h46⟩
    refine wq_v (some 168) (Value.int .u32 (uw ((trn s.a 2) ^^^ (trn s.a 13)))) (eq_is (v := Value.int .u32 (bits .xor .u32 (uw (trn s.a 2)) (uw (trn s.a 13)))) (by kernel_rfl) (w_xor (trn s.a 2) (trn s.a 13))) ?_
    refine wq_p 1 [(169, (Value.int .u32 (uw s.a)))] ?_
    refine wq_to (some 170) (x_np h46 52 [(Value.int .u32 (uw s.a)), (Value.int .u64 22)] (by kernel_rfl) (rturn_any s.a 22 (by decide) _)) ?_
    rintro _ w47 ⟨rfl, h47⟩
    refine wq_v (some 171) (Value.int .u32 (uw (((trn s.a 2) ^^^ (trn s.a 13)) ^^^ (trn s.a 22)))) (eq_is (v := Value.int .u32 (bits .xor .u32 (uw ((trn s.a 2) ^^^ (trn s.a 13))) (uw (trn s.a 22)))) (by kernel_rfl) (w_xor ((trn s.a 2) ^^^ (trn s.a 13)) (trn s.a 22))) ?_
    refine wq_p 2 [(173, (Value.int .u32 (uw s.b))), (172, (Value.int .u32 (uw s.a)))] ?_
    refine wq_v (some 174) (Value.int .u32 (uw (s.a &&& s.b))) (eq_is (v := Value.int .u32 (bits .and .u32 (uw s.a) (uw s.b))) (by kernel_rfl) (w_and s.a s.b)) ?_
    refine wq_p 2 [(176, (Value.int .u32 (uw s.c))), (175, (Value.int .u32 (uw s.a)))] ?_
    refine wq_v (some 177) (Value.int .u32 (uw (s.a &&& s.c))) (eq_is (v := Value.int .u32 (bits .and .u32 (uw s.a) (uw s.c))) (by kernel_rfl) (w_and s.a s.c)) ?_
    refine wq_v (some 178) (Value.int .u32 (uw ((s.a &&& s.b) ^^^ (s.a &&& s.c)))) (eq_is (v := Value.int .u32 (bits .xor .u32 (uw (s.a &&& s.b)) (uw (s.a &&& s.c)))) (by kernel_rfl) (w_xor (s.a &&& s.b) (s.a &&& s.c))) ?_
    refine wq_p 2 [(180, (Value.int .u32 (uw s.c))), (179, (Value.int .u32 (uw s.b)))] ?_
    refine wq_v (some 181) (Value.int .u32 (uw (s.b &&& s.c))) (eq_is (v := Value.int .u32 (bits .and .u32 (uw s.b) (uw s.c))) (by kernel_rfl) (w_and s.b s.c)) ?_
    refine wq_v (some 182) (Value.int .u32 (uw (((s.a &&& s.b) ^^^ (s.a &&& s.c)) ^^^ (s.b &&& s.c)))) (eq_is (v := Value.int .u32 (bits .xor .u32 (uw ((s.a &&& s.b) ^^^ (s.a &&& s.c))) (uw (s.b &&& s.c)))) (by kernel_rfl) (w_xor ((s.a &&& s.b) ^^^ (s.a &&& s.c)) (s.b &&& s.c))) ?_
    refine wq_v (some 183) (Value.int .u32 (uw ((((trn s.a 2) ^^^ (trn s.a 13)) ^^^ (trn s.a 22)) + (((s.a &&& s.b) ^^^ (s.a &&& s.c)) ^^^ (s.b &&& s.c))))) (eq_is (v := Value.int .u32 (IntKind.u32.wrap (uw (((trn s.a 2) ^^^ (trn s.a 13)) ^^^ (trn s.a 22)) + uw (((s.a &&& s.b) ^^^ (s.a &&& s.c)) ^^^ (s.b &&& s.c))))) (by kernel_rfl) (w_add (((trn s.a 2) ^^^ (trn s.a 13)) ^^^ (trn s.a 22)) (((s.a &&& s.b) ^^^ (s.a &&& s.c)) ^^^ (s.b &&& s.c)))) ?_
    refine wq_p 1 [(21, (Value.int .u32 (uw ((((trn s.a 2) ^^^ (trn s.a 13)) ^^^ (trn s.a 22)) + (((s.a &&& s.b) ^^^ (s.a &&& s.c)) ^^^ (s.b &&& s.c))))))] ?_
    refine wl_end rfl ?_
    refine seq_n hK44 ?_
    refine wp_seq_k ?_
    intro K48 hK48
    refine wp_reset 237 [(0, (Value.slice A 8 c)), (1, (Value.slice B 64 d)), (2, (Value.slice C 64 e)), (6, (Value.slice none 0 0)), (7, (Value.slice Av k cv)), (8, (Value.int .i64 ((k : Int)))), (11, (Value.int .u32 (uw s.a))), (12, (Value.int .u32 (uw s.b))), (13, (Value.int .u32 (uw s.c))), (14, (Value.int .u32 (uw s.d))), (15, (Value.int .u32 (uw s.e))), (16, (Value.int .u32 (uw s.f))), (17, (Value.int .u32 (uw s.g))), (18, (Value.int .u32 (uw s.h))), (19, (Value.int .i64 ((i : Int)))), (20, (Value.int .u32 (uw ((((s.h + (((trn s.e 6) ^^^ (trn s.e 11)) ^^^ (trn s.e 25))) + ((s.e &&& s.f) ^^^ ((~~~s.e) &&& s.g))) + (gw shaK (i))) + (gw L (i)))))), (21, (Value.int .u32 (uw ((((trn s.a 2) ^^^ (trn s.a 13)) ^^^ (trn s.a 22)) + (((s.a &&& s.b) ^^^ (s.a &&& s.c)) ^^^ (s.b &&& s.c)))))), (24, (Value.bool (decide ((k : Int) < 64)))), (132, (Value.bool (decide ((i : Int) < 64))))] (fun x49 => ?_)
    refine reg_lit ?_
    refine wq_p 2 [(18, (Value.int .u32 (uw s.g))), (184, (Value.int .u32 (uw s.g)))] ?_
    refine wl_end rfl ?_
    refine seq_n hK48 ?_
    refine wp_seq_k ?_
    intro K50 hK50
    refine reg_lit ?_
    refine wq_p 2 [(17, (Value.int .u32 (uw s.f))), (185, (Value.int .u32 (uw s.f)))] ?_
    refine wl_end rfl ?_
    refine seq_n hK50 ?_
    refine wp_seq_k ?_
    intro K51 hK51
    refine reg_lit ?_
    refine wq_p 2 [(16, (Value.int .u32 (uw s.e))), (186, (Value.int .u32 (uw s.e)))] ?_
    refine wl_end rfl ?_
    refine seq_n hK51 ?_
    refine wp_seq_k ?_
    intro K52 hK52
    refine reg_lit ?_
    refine wq_p 2 [(188, (Value.int .u32 (uw ((((s.h + (((trn s.e 6) ^^^ (trn s.e 11)) ^^^ (trn s.e 25))) + ((s.e &&& s.f) ^^^ ((~~~s.e) &&& s.g))) + (gw shaK (i))) + (gw L (i)))))), (187, (Value.int .u32 (uw s.d)))] ?_
    refine wq_v (some 189) (Value.int .u32 (uw (s.d + ((((s.h + (((trn s.e 6) ^^^ (trn s.e 11)) ^^^ (trn s.e 25))) + ((s.e &&& s.f) ^^^ ((~~~s.e) &&& s.g))) + (gw shaK (i))) + (gw L (i)))))) (eq_is (v := Value.int .u32 (IntKind.u32.wrap (uw s.d + uw ((((s.h + (((trn s.e 6) ^^^ (trn s.e 11)) ^^^ (trn s.e 25))) + ((s.e &&& s.f) ^^^ ((~~~s.e) &&& s.g))) + (gw shaK (i))) + (gw L (i)))))) (by kernel_rfl) (w_add s.d ((((s.h + (((trn s.e 6) ^^^ (trn s.e 11)) ^^^ (trn s.e 25))) + ((s.e &&& s.f) ^^^ ((~~~s.e) &&& s.g))) + (gw shaK (i))) + (gw L (i))))) ?_
    refine wq_p 1 [(15, (Value.int .u32 (uw (s.d + ((((s.h + (((trn s.e 6) ^^^ (trn s.e 11)) ^^^ (trn s.e 25))) + ((s.e &&& s.f) ^^^ ((~~~s.e) &&& s.g))) + (gw shaK (i))) + (gw L (i)))))))] ?_
    refine wl_end rfl ?_
    refine seq_n hK52 ?_
    refine wp_seq_k ?_
    intro K53 hK53
    refine reg_lit ?_
    refine wq_p 2 [(14, (Value.int .u32 (uw s.c))), (190, (Value.int .u32 (uw s.c)))] ?_
    refine wl_end rfl ?_
    refine seq_n hK53 ?_
    refine wp_seq_k ?_
    intro K54 hK54
    refine reg_lit ?_
    refine wq_p 2 [(13, (Value.int .u32 (uw s.b))), (191, (Value.int .u32 (uw s.b)))] ?_
    refine wl_end rfl ?_
    refine seq_n hK54 ?_
    refine wp_seq_k ?_
    intro K55 hK55
    refine reg_lit ?_
    refine wq_p 2 [(12, (Value.int .u32 (uw s.a))), (192, (Value.int .u32 (uw s.a)))] ?_
    refine wl_end rfl ?_
    refine seq_n hK55 ?_
    refine reg_lit ?_
    refine wq_p 2 [(194, (Value.int .u32 (uw ((((trn s.a 2) ^^^ (trn s.a 13)) ^^^ (trn s.a 22)) + (((s.a &&& s.b) ^^^ (s.a &&& s.c)) ^^^ (s.b &&& s.c)))))), (193, (Value.int .u32 (uw ((((s.h + (((trn s.e 6) ^^^ (trn s.e 11)) ^^^ (trn s.e 25))) + ((s.e &&& s.f) ^^^ ((~~~s.e) &&& s.g))) + (gw shaK (i))) + (gw L (i))))))] ?_
    refine wq_v (some 195) (Value.int .u32 (uw (((((s.h + (((trn s.e 6) ^^^ (trn s.e 11)) ^^^ (trn s.e 25))) + ((s.e &&& s.f) ^^^ ((~~~s.e) &&& s.g))) + (gw shaK (i))) + (gw L (i))) + ((((trn s.a 2) ^^^ (trn s.a 13)) ^^^ (trn s.a 22)) + (((s.a &&& s.b) ^^^ (s.a &&& s.c)) ^^^ (s.b &&& s.c)))))) (eq_is (v := Value.int .u32 (IntKind.u32.wrap (uw ((((s.h + (((trn s.e 6) ^^^ (trn s.e 11)) ^^^ (trn s.e 25))) + ((s.e &&& s.f) ^^^ ((~~~s.e) &&& s.g))) + (gw shaK (i))) + (gw L (i))) + uw ((((trn s.a 2) ^^^ (trn s.a 13)) ^^^ (trn s.a 22)) + (((s.a &&& s.b) ^^^ (s.a &&& s.c)) ^^^ (s.b &&& s.c)))))) (by kernel_rfl) (w_add ((((s.h + (((trn s.e 6) ^^^ (trn s.e 11)) ^^^ (trn s.e 25))) + ((s.e &&& s.f) ^^^ ((~~~s.e) &&& s.g))) + (gw shaK (i))) + (gw L (i))) ((((trn s.a 2) ^^^ (trn s.a 13)) ^^^ (trn s.a 22)) + (((s.a &&& s.b) ^^^ (s.a &&& s.c)) ^^^ (s.b &&& s.c))))) ?_
    refine wq_p 1 [(11, (Value.int .u32 (uw (((((s.h + (((trn s.e 6) ^^^ (trn s.e 11)) ^^^ (trn s.e 25))) + ((s.e &&& s.f) ^^^ ((~~~s.e) &&& s.g))) + (gw shaK (i))) + (gw L (i))) + ((((trn s.a 2) ^^^ (trn s.a 13)) ^^^ (trn s.a 22)) + (((s.a &&& s.b) ^^^ (s.a &&& s.c)) ^^^ (s.b &&& s.c)))))))] ?_
    refine wl_end rfl ?_
    refine blk_n ?_
    refine seq_n hK38 ?_
    refine reg_lit ?_
    refine wq_p 1 [(133, (Value.int .i64 ((i : Int))))] ?_
    refine wq_v (some 134) (Value.int .i64 ((i : Int) + 1)) (exec_add _ _ _ _ rfl ((i : Int)) 1 (by kernel_rfl) (by kernel_rfl) ((i : Int) + 1) rfl (by omega) (by omega) _) ?_
    refine wq_p 1 [(19, (Value.int .i64 ((i : Int) + 1)))] ?_
    refine wl_end rfl ?_
    refine ⟨64 - (i + 1), (by omega), (i + 1), (rnd s (gw shaK i) (gw L i)), (by omega), (by rw [hs]; rfl), rfl, (patch_eq _ 237 _ (by kernel_rfl) (by kernel_rfl) (by kernel_rfl)), h47.sel [0] [0, 1, 2] (by kernel_rfl) rfl rfl⟩
   ·
    refine wp_exit ?_
    refine seq_e ?_
    refine seq_e ?_
    refine blk_e ?_
    refine seq_n hK31 ?_
    refine wp_seq_k ?_
    intro K56 hK56
    refine pR_go h34 41 (fun W => (rRV 1 A c (wx h.l)).Φ W ∧ True) [(197, [0], 0), (198, [196], 1), (199, [197], 2), (200, [11], 0), (201, [198, 199], 12), (202, [0], 0), (203, [201], 32), (204, [202], 64), (205, [12], 0), (206, [203, 204], 384), (207, [0], 0), (208, [206], 1024), (209, [207], 2048), (210, [13], 0), (211, [208, 209], 12288), (212, [0], 0), (213, [211], 32768), (214, [212], 65536), (215, [14], 0), (216, [213, 214], 393216), (217, [0], 0), (218, [216], 1048576), (219, [217], 2097152), (220, [15], 0), (221, [218, 219], 12582912), (222, [0], 0), (223, [221], 33554432), (224, [222], 67108864), (225, [16], 0), (226, [223, 224], 402653184), (227, [0], 0), (228, [226], 1073741824), (229, [227], 2147483648), (230, [17], 0), (231, [228, 229], 12884901888), (232, [0], 0), (233, [231], 34359738368), (234, [232], 68719476736), (235, [18], 0), (236, [233, 234], 412316860416), (237, [200, 205, 210, 215, 220, 225, 230, 235], 567489872400), (7, [236], 2199023255551)] rfl (fun _ d _ _ _ h => by cases d <;> exact h) ?_
    intro hs57 w57 h57
    refine pR_p 26 [0, 3, 5, 8, 10, 13, 15, 18, 20, 23, 25, 28, 30, 33, 35, 38] [(234, (Value.int .u32 (uw s.h))), (231, (Value.slice A 8 c)), (229, (Value.int .u32 (uw s.g))), (226, (Value.slice A 8 c)), (224, (Value.int .u32 (uw s.f))), (221, (Value.slice A 8 c)), (219, (Value.int .u32 (uw s.e))), (216, (Value.slice A 8 c)), (214, (Value.int .u32 (uw s.d))), (211, (Value.slice A 8 c)), (209, (Value.int .u32 (uw s.c))), (206, (Value.slice A 8 c)), (204, (Value.int .u32 (uw s.b))), (201, (Value.slice A 8 c)), (199, (Value.int .u32 (uw s.a))), (196, (Value.slice A 8 c))] 319213053225 hs57 ⟨h57.rd 0 rfl, trivial⟩ ?_
    refine pR_v 1 (some 197) (eAt A (0 * 1 + 0)) 319213053227 rfl hs57 ⟨h57.rd 0 rfl, trivial⟩ (fun W hW => e_idxN (RV.lenIs (n := 8) (h57.rd 0 rfl) rfl).2 0 8 (RV.lenIs (n := 8) (h57.rd 0 rfl) rfl).1 (by first | omega | (rw [hbl]; omega)) 38 (.tmp 196) (.const (Value.int .i64 0)) (by kernel_rfl) .i64 (by kernel_rfl) (by kernel_rfl) 64 (by kernel_rfl) (by kernel_rfl) _) ?_
    refine pR_v 6 (some 202) (eAt A (1 * 1 + 0)) 319213053291 rfl hs57 ⟨h57.rd 0 rfl, trivial⟩ (fun W hW => e_idxN (RV.lenIs (n := 8) (h57.rd 0 rfl) rfl).2 1 8 (RV.lenIs (n := 8) (h57.rd 0 rfl) rfl).1 (by first | omega | (rw [hbl]; omega)) 38 (.tmp 201) (.const (Value.int .i64 1)) (by kernel_rfl) .i64 (by kernel_rfl) (by kernel_rfl) 64 (by kernel_rfl) (by kernel_rfl) _) ?_
    refine pR_v 11 (some 207) (eAt A (2 * 1 + 0)) 319213055339 rfl hs57 ⟨h57.rd 0 rfl, trivial⟩ (fun W hW => e_idxN (RV.lenIs (n := 8) (h57.rd 0 rfl) rfl).2 2 8 (RV.lenIs (n := 8) (h57.rd 0 rfl) rfl).1 (by first | omega | (rw [hbl]; omega)) 38 (.tmp 206) (.const (Value.int .i64 2)) (by kernel_rfl) .i64 (by kernel_rfl) (by kernel_rfl) 64 (by kernel_rfl) (by kernel_rfl) _) ?_
    refine pR_v 16 (some 212) (eAt A (3 * 1 + 0)) 319213120875 rfl hs57 ⟨h57.rd 0 rfl, trivial⟩ (fun W hW => e_idxN (RV.lenIs (n := 8) (h57.rd 0 rfl) rfl).2 3 8 (RV.lenIs (n := 8) (h57.rd 0 rfl) rfl).1 (by first | omega | (rw [hbl]; omega)) 38 (.tmp 211) (.const (Value.int .i64 3)) (by kernel_rfl) .i64 (by kernel_rfl) (by kernel_rfl) 64 (by kernel_rfl) (by kernel_rfl) _) ?_
    refine pR_v 21 (some 217) (eAt A (4 * 1 + 0)) 319215218027 rfl hs57 ⟨h57.rd 0 rfl, trivial⟩ (fun W hW => e_idxN (RV.lenIs (n := 8) (h57.rd 0 rfl) rfl).2 4 8 (RV.lenIs (n := 8) (h57.rd 0 rfl) rfl).1 (by first | omega | (rw [hbl]; omega)) 38 (.tmp 216) (.const (Value.int .i64 4)) (by kernel_rfl) .i64 (by kernel_rfl) (by kernel_rfl) 64 (by kernel_rfl) (by kernel_rfl) _) ?_
    refine pR_v 26 (some 222) (eAt A (5 * 1 + 0)) 319282326891 rfl hs57 ⟨h57.rd 0 rfl, trivial⟩ (fun W hW => e_idxN (RV.lenIs (n := 8) (h57.rd 0 rfl) rfl).2 5 8 (RV.lenIs (n := 8) (h57.rd 0 rfl) rfl).1 (by first | omega | (rw [hbl]; omega)) 38 (.tmp 221) (.const (Value.int .i64 5)) (by kernel_rfl) .i64 (by kernel_rfl) (by kernel_rfl) 64 (by kernel_rfl) (by kernel_rfl) _) ?_
    refine pR_v 31 (some 227) (eAt A (6 * 1 + 0)) 321429810539 rfl hs57 ⟨h57.rd 0 rfl, trivial⟩ (fun W hW => e_idxN (RV.lenIs (n := 8) (h57.rd 0 rfl) rfl).2 6 8 (RV.lenIs (n := 8) (h57.rd 0 rfl) rfl).1 (by first | omega | (rw [hbl]; omega)) 38 (.tmp 226) (.const (Value.int .i64 6)) (by kernel_rfl) .i64 (by kernel_rfl) (by kernel_rfl) 64 (by kernel_rfl) (by kernel_rfl) _) ?_
    refine pR_v 36 (some 232) (eAt A (7 * 1 + 0)) 390149287275 rfl hs57 ⟨h57.rd 0 rfl, trivial⟩ (fun W hW => e_idxN (RV.lenIs (n := 8) (h57.rd 0 rfl) rfl).2 7 8 (RV.lenIs (n := 8) (h57.rd 0 rfl) rfl).1 (by first | omega | (rw [hbl]; omega)) 38 (.tmp 231) (.const (Value.int .i64 7)) (by kernel_rfl) .i64 (by kernel_rfl) (by kernel_rfl) 64 (by kernel_rfl) (by kernel_rfl) _) ?_
    refine pR_v 2 (some 198) (Value.int .u32 (uw h.a)) 390149287279 rfl hs57 ⟨h57.rd 0 rfl, trivial⟩ (fun W hW => e_elemN (RV.lenIs (n := 8) hW.1 rfl).2 0 0 ([(Value.int .u32 (uw h.a))]) rfl 64 (.tmp 197) (by kernel_rfl) (Value.int .u32 (uw h.a)) (by kernel_rfl) (by kernel_rfl) (by kernel_rfl)) ?_
    refine pR_v 4 (some 200) (Value.int .u32 (uw (h.a + s.a))) 390149287295 rfl hs57 ⟨h57.rd 0 rfl, trivial⟩ (fun W hW => eq_is (v := Value.int .u32 (IntKind.u32.wrap (uw h.a + uw s.a))) (by kernel_rfl) (w_add h.a s.a)) ?_
    refine pR_v 7 (some 203) (Value.int .u32 (uw h.b)) 390149287423 rfl hs57 ⟨h57.rd 0 rfl, trivial⟩ (fun W hW => e_elemN (RV.lenIs (n := 8) hW.1 rfl).2 1 0 ([(Value.int .u32 (uw h.b))]) rfl 64 (.tmp 202) (by kernel_rfl) (Value.int .u32 (uw h.b)) (by kernel_rfl) (by kernel_rfl) (by kernel_rfl)) ?_
    refine pR_v 9 (some 205) (Value.int .u32 (uw (h.b + s.b))) 390149287935 rfl hs57 ⟨h57.rd 0 rfl, trivial⟩ (fun W hW => eq_is (v := Value.int .u32 (IntKind.u32.wrap (uw h.b + uw s.b))) (by kernel_rfl) (w_add h.b s.b)) ?_
    refine pR_v 12 (some 208) (Value.int .u32 (uw h.c)) 390149292031 rfl hs57 ⟨h57.rd 0 rfl, trivial⟩ (fun W hW => e_elemN (RV.lenIs (n := 8) hW.1 rfl).2 2 0 ([(Value.int .u32 (uw h.c))]) rfl 64 (.tmp 207) (by kernel_rfl) (Value.int .u32 (uw h.c)) (by kernel_rfl) (by kernel_rfl) (by kernel_rfl)) ?_
    refine pR_v 14 (some 210) (Value.int .u32 (uw (h.c + s.c))) 390149308415 rfl hs57 ⟨h57.rd 0 rfl, trivial⟩ (fun W hW => eq_is (v := Value.int .u32 (IntKind.u32.wrap (uw h.c + uw s.c))) (by kernel_rfl) (w_add h.c s.c)) ?_
    refine pR_v 17 (some 213) (Value.int .u32 (uw h.d)) 390149439487 rfl hs57 ⟨h57.rd 0 rfl, trivial⟩ (fun W hW => e_elemN (RV.lenIs (n := 8) hW.1 rfl).2 3 0 ([(Value.int .u32 (uw h.d))]) rfl 64 (.tmp 212) (by kernel_rfl) (Value.int .u32 (uw h.d)) (by kernel_rfl) (by kernel_rfl) (by kernel_rfl)) ?_
    refine pR_v 19 (some 215) (Value.int .u32 (uw (h.d + s.d))) 390149963775 rfl hs57 ⟨h57.rd 0 rfl, trivial⟩ (fun W hW => eq_is (v := Value.int .u32 (IntKind.u32.wrap (uw h.d + uw s.d))) (by kernel_rfl) (w_add h.d s.d)) ?_
    refine pR_v 22 (some 218) (Value.int .u32 (uw h.e)) 390154158079 rfl hs57 ⟨h57.rd 0 rfl, trivial⟩ (fun W hW => e_elemN (RV.lenIs (n := 8) hW.1 rfl).2 4 0 ([(Value.int .u32 (uw h.e))]) rfl 64 (.tmp 217) (by kernel_rfl) (Value.int .u32 (uw h.e)) (by kernel_rfl) (by kernel_rfl) (by kernel_rfl)) ?_
    refine pR_v 24 (some 220) (Value.int .u32 (uw (h.e + s.e))) 390170935295 rfl hs57 ⟨h57.rd 0 rfl, trivial⟩ (fun W hW => eq_is (v := Value.int .u32 (IntKind.u32.wrap (uw h.e + uw s.e))) (by kernel_rfl) (w_add h.e s.e)) ?_
    refine pR_v 27 (some 223) (Value.int .u32 (uw h.f)) 390305153023 rfl hs57 ⟨h57.rd 0 rfl, trivial⟩ (fun W hW => e_elemN (RV.lenIs (n := 8) hW.1 rfl).2 5 0 ([(Value.int .u32 (uw h.f))]) rfl 64 (.tmp 222) (by kernel_rfl) (Value.int .u32 (uw h.f)) (by kernel_rfl) (by kernel_rfl) (by kernel_rfl)) ?_
    refine pR_v 29 (some 225) (Value.int .u32 (uw (h.f + s.f))) 390842023935 rfl hs57 ⟨h57.rd 0 rfl, trivial⟩ (fun W hW => eq_is (v := Value.int .u32 (IntKind.u32.wrap (uw h.f + uw s.f))) (by kernel_rfl) (w_add h.f s.f)) ?_
    refine pR_v 32 (some 228) (Value.int .u32 (uw h.g)) 395136991231 rfl hs57 ⟨h57.rd 0 rfl, trivial⟩ (fun W hW => e_elemN (RV.lenIs (n := 8) hW.1 rfl).2 6 0 ([(Value.int .u32 (uw h.g))]) rfl 64 (.tmp 227) (by kernel_rfl) (Value.int .u32 (uw h.g)) (by kernel_rfl) (by kernel_rfl) (by kernel_rfl)) ?_
    refine pR_v 34 (some 230) (Value.int .u32 (uw (h.g + s.g))) 412316860415 rfl hs57 ⟨h57.rd 0 rfl, trivial⟩ (fun W hW => eq_is (v := Value.int .u32 (IntKind.u32.wrap (uw h.g + uw s.g))) (by kernel_rfl) (w_add h.g s.g)) ?_
    refine pR_v 37 (some 233) (Value.int .u32 (uw h.h)) 549755813887 rfl hs57 ⟨h57.rd 0 rfl, trivial⟩ (fun W hW => e_elemN (RV.lenIs (n := 8) hW.1 rfl).2 7 0 ([(Value.int .u32 (uw h.h))]) rfl 64 (.tmp 232) (by kernel_rfl) (Value.int .u32 (uw h.h)) (by kernel_rfl) (by kernel_rfl) (by kernel_rfl)) ?_
    refine pR_v 39 (some 235) (Value.int .u32 (uw (h.h + s.h))) 1099511627775 rfl hs57 ⟨h57.rd 0 rfl, trivial⟩ (fun W hW => eq_is (v := Value.int .u32 (IntKind.u32.wrap (uw h.h + uw s.h))) (by kernel_rfl) (w_add h.h s.h)) ?_
    refine pR_to 40 (some 236) 2199023255551 rfl hs57 (x_bs h57 64 ([(Value.int .u32 (uw (h.a + s.a))), (Value.int .u32 (uw (h.b + s.b))), (Value.int .u32 (uw (h.c + s.c))), (Value.int .u32 (uw (h.d + s.d))), (Value.int .u32 (uw (h.e + s.e))), (Value.int .u32 (uw (h.f + s.f))), (Value.int .u32 (uw (h.g + s.g))), (Value.int .u32 (uw (h.h + s.h)))]) 8 (by kernel_rfl)) ?_
    rintro _ w58 ⟨g58, rfl, h58⟩
    refine ⟨fun _ => ⟨h58.rd 0 rfl, trivial⟩, ?_⟩
    refine pR_to 41 (some 6) 4398046511103 rfl hs57 (OpTo.run (Value.slice (some ⟨g58, 0, none⟩) 8 8) (pureOp_run (by kernel_rfl) _) (R := fun v w => v = (Value.slice (some ⟨g58, 0, none⟩) 8 8) ∧ w58 = w) ⟨rfl, rfl⟩) ?_
    rintro _ _ ⟨rfl, rfl⟩
    refine ⟨fun h => absurd h (by decide), ?_⟩
    refine pR_done hs57 ?_ _
    refine seq_n hK56 ?_
    refine wp_ret ?_
    refine post_1 rfl (by kernel_rfl) (rtmp (v := (Value.slice (some ⟨g58, 0, none⟩) 8 8)) (by kernel_rfl)) ?_
    have hF := h58.blkOV 0 rfl (by kernel_rfl) 8 rfl (by decide) (wx (h.add s).l) rfl
    exact vopost_of hF 0 rfl (by rw [blk_fin hbl hL (by omega) hs (by omega)])
end Go.Proofs.YtpkelokaammmjaaDoor
end
/-! The walk of compeerref03.Digest: laws on what is laid behind the bytes. -/
section
namespace Go.Proofs.YtpkelokaammmjaaDoor
open Go.RowKit Go.QT
def padZ (n : Nat) : Nat := (119 - n % 64) % 64
theorem rep_one (z : Nat) (b : Bytes) : (b ++ [128] ++ List.replicate z 0) ++ [0] = b ++ [128] ++ List.replicate (z + 1) (0 : UInt8) := by
  rw [List.append_assoc _ (List.replicate z 0)]; congr 1; exact List.replicate_succ'.symm
theorem pad_all (b : Bytes) : b ++ [128] ++ List.replicate (padZ b.length) 0 ++ put8 (8 * b.length) = b ++ padB b := by
  unfold padB padZ; simp
theorem put8_step (n j : Nat) (h : j < 8) : (put8 n).take j ++ [UInt8.ofNat (n / 2 ^ (8 * (7 - j)))] = (put8 n).take (j + 1) := by
  have hl : (put8 n).length = 8 := put8_len n
  rw [List.take_succ_eq_append_getElem (by omega)]
  congr 2
  have e : (256 : Nat) ^ (7 - j) = 2 ^ (8 * (7 - j)) := by rw [show (256 : Nat) = 2 ^ 8 from rfl, ← Nat.pow_mul]
  simp [put8, e]
theorem put8_end (n : Nat) : (put8 n).take 8 = put8 n := List.take_of_length_le (Nat.le_of_eq (put8_len n))
theorem absb_end (s : S8) (m : Bytes) (i : Nat) : blk8 (absb i s m) ((m.take (64 * i + 64)).drop (64 * i)) = absb (i + 1) s m := by
  rw [absb_succ]
  congr 1
  rw [List.drop_take]
  congr 1
  omega
theorem padm_len (b : Bytes) : (b ++ padB b).length % 64 = 0 := by
  unfold padB
  simp [put8_len]
  omega
theorem b4 (x : UInt32) : [UInt8.ofNat (wsr x 24).toNat, UInt8.ofNat (wsr x 16).toNat, UInt8.ofNat (wsr x 8).toNat, UInt8.ofNat x.toNat] = (put8 x.toNat).drop 4 := by
  have hx := x.toNat_lt
  have e : ∀ k, (wsr x k).toNat = x.toNat / 2 ^ k := fun k => by
    unfold wsr; rw [UInt32.toNat_ofNat']
    exact Nat.mod_eq_of_lt (Nat.lt_of_le_of_lt (Nat.div_le_self _ _) hx)
  rw [e, e, e]
  have hr : List.range 8 = [0, 1, 2, 3, 4, 5, 6, 7] := rfl
  unfold put8
  rw [hr]
  simp
theorem out_step (L : List UInt32) (i : Nat) (h : i < L.length) : outW (L.take i) ++ [UInt8.ofNat (wsr (gw L i) 24).toNat, UInt8.ofNat (wsr (gw L i) 16).toNat, UInt8.ofNat (wsr (gw L i) 8).toNat, UInt8.ofNat (gw L i).toNat] = outW (L.take (i + 1)) := by
  rw [outW_step L i h, b4, List.take_length]
theorem out_end (L : List UInt32) : outW (L.take L.length) = outW L := by rw [List.take_length]
theorem x_rblk {o : Oper} {a : Act} {w : World} {F0 : Nat → Prop} {w0 : World} {ro rs : List Res} (h : Hp F0 w0 w ro rs) (u : Value) {b : Bytes} (H : S8) {A C : Option Addr} {c e : Nat} (hp : pureVal Tryd.prog (execOp a.eval o) = some (.enter 36 #[.slice A 8 c, u, .slice C 64 e])) (hh : RV w 1 A c (wx H.l)) (hb : SB w u b) (hbl : b.length = 64) (hk : RV w 1 C e (wx shaK)) (H' : S8) (hH : blk8 H b = H') :
    OpTo Tryd.prog o a w (fun u' w' => ∃ A' c', u' = .slice A' 8 c' ∧ Hp F0 w0 w' ro (rOV 64 1 (.slice A' 8 c') (wx H'.l) :: rs)) := by
  obtain ⟨B, d, rfl, _⟩ := sb_form hb
  have hc := rblock_any A B C c d e H b w hh (by rw [← hbl]; exact hb) hbl hk
  rw [hbl] at hp
  rw [hH] at hc
  exact x_ovE h 36 [.slice A 8 c, .slice B 64 d, .slice C 64 e] hp hc (wx H'.l) 8 rfl rfl
end Go.Proofs.YtpkelokaammmjaaDoor
end
