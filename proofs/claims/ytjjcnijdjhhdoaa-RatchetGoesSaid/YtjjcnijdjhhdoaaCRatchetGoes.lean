/- The row of RatchetGoes: for every input the law returns true and what came in reads as it did. (Texts laid one behind the other: Ratchet, XRat, RAlive, RGoes, RatchetGoes.) -/
import Derived.ChangeMaps5
import Derived.Test.YtjjcnijdjhhdoaaCA6
/-! The walks of package ratchet, and steps that call it. -/
section
namespace Go.Proofs.Ytjjcnijdjhhdoaa
open Go.RowKit Go.QT
/-- What a call leaves that answers a derived key, and may turn the table. -/
def RKPost (w : World) (F : Nat → Prop) (tb : Nat) (s : STab) (f : SFrom) (mk : (Fin 16 → UInt8) → Value) (e : Ending) (w' : World) : Prop :=
  ∃ K' F' s', e = .returned (mk K') ∧ kl K' = mkB 107 (s.num f) ∧ s' = s.made f ∧ Hp F w w' [] [rTab F' tb s']
theorem dj_tab {F : Nat → Prop} {tb g T : Nat} {s : STab} {cs : List Value} (hd : ¬ F g) : ∀ (j : Nat) (t : Res), [rTab F tb s][j]? = some t → (rBlk g T cs).dj t := fun j t hs q h1 h2 => by
  cases j with
  | zero => injection hs with hs; subst hs; subst h1; exact hd h2
  | succ j => simp at hs
set_option maxRecDepth 100000 in
set_option maxHeartbeats 1000000 in
theorem rslot_any (cb tb : Nat) (K : Fin 16 → UInt8) (e : Int) (o : Bool) (w : World) (hc : Blk w cb 129 ([(Value.iface 46 (pt tb 0))] ++ vb (kl K) ++ [(Value.int .i64 e), (Value.bool o)])) :
    Calls Try.prog 43 #[pt cb 0] w (APost w (kl K)) := by
  have h0 := Hp.ro1 (rBlk cb 129 ([(Value.iface 46 (pt tb 0))] ++ vb (kl K) ++ [(Value.int .i64 e), (Value.bool o)])) hc
  refine enter 6 Try.func43 rfl rfl ?_
  refine wp_seq_k ?_
  intro K1 hK1
  refine reg_lit ?_
  refine wl_to (by kernel_rfl) (x_new h0 42 (vb (List.replicate 16 0)) (fun r => pt r 0) (by kernel_rfl)) ?_
  rintro _ w2 ⟨g2, rfl, h2⟩
  refine wl_end rfl ?_
  refine seq_n hK1 ?_
  refine wp_seq_k ?_
  intro K3 hK3
  refine reg_lit ?_
  refine wl_p 3 [(3, (pt cb 0)), (4, (pt cb 0)), (5, (pt cb 1))] (by kernel_rfl) ?_
  refine wl_v (by kernel_rfl) (Value.agg (vb (kl K)).toArray) (e_loads (h2.rd 0 rfl) 42 (.tmp 5) (by kernel_rfl) 1 (vb (kl K)) (by kernel_rfl) (by kernel_rfl) (by kernel_rfl)) ?_
  refine wl_to (by kernel_rfl) (x_stores h2 0 rfl 42 (.tmp 2) (.tmp 6) (by kernel_rfl) 0 (vb (kl K)) (vb (kl K)) (by kernel_rfl) (by kernel_rfl) (by kernel_rfl) (by kernel_rfl) (by kernel_rfl) (by kernel_rfl)) ?_
  rintro _ w4 h4
  refine wl_end rfl ?_
  refine seq_n hK3 ?_
  refine wp_ret ?_
  refine post_1 rfl (by kernel_rfl) (rcell (h4.at_ 0 rfl) (by kernel_rfl) (by kernel_rfl)) ?_
  exact ⟨rfl, h4.below0⟩
set_option maxRecDepth 100000 in
set_option maxHeartbeats 1000000 in
theorem repoch_any (cb tb : Nat) (K : Fin 16 → UInt8) (e : Int) (o : Bool) (w : World) (hc : Blk w cb 129 ([(Value.iface 46 (pt tb 0))] ++ vb (kl K) ++ [(Value.int .i64 e), (Value.bool o)])) :
    Calls Try.prog 44 #[pt cb 0] w (VPost w (.int .i64 e)) := by
  have h0 := Hp.ro1 (rBlk cb 129 ([(Value.iface 46 (pt tb 0))] ++ vb (kl K) ++ [(Value.int .i64 e), (Value.bool o)])) hc
  refine enter 6 Try.func44 rfl rfl ?_
  refine wp_seq_k ?_
  intro K1 hK1
  refine reg_lit ?_
  refine wl_p 1 [(2, (Value.int .i64 0))] (by kernel_rfl) ?_
  refine wl_end rfl ?_
  refine seq_n hK1 ?_
  refine wp_seq_k ?_
  intro K2 hK2
  refine reg_lit ?_
  refine wl_p 3 [(3, (pt cb 0)), (4, (pt cb 0)), (5, (pt cb 17))] (by kernel_rfl) ?_
  refine wl_v (by kernel_rfl) (Value.int .i64 e) (e_load (h0.rd 0 rfl) 2 (.tmp 5) (by kernel_rfl) 17 (Value.int .i64 e) (by kernel_rfl) (by kernel_rfl) (by kernel_rfl)) ?_
  refine wl_p 1 [(2, (Value.int .i64 e))] (by kernel_rfl) ?_
  refine wl_end rfl ?_
  refine seq_n hK2 ?_
  refine wp_ret ?_
  refine post_1 rfl (by kernel_rfl) (rtmp (v := (Value.int .i64 e)) (by kernel_rfl)) ?_
  exact ⟨rfl, rfl⟩
set_option maxRecDepth 100000 in
set_option maxHeartbeats 1000000 in
theorem rkey_any (F : Nat → Prop) (tb : Nat) (s : STab) (cb : Nat) (K : Fin 16 → UInt8) (e : Int) (w : World) (hc : Blk w cb 129 ([(Value.iface 46 (pt tb 0))] ++ vb (kl K) ++ [(Value.int .i64 e), (Value.bool false)])) (hT : TabAt w F tb s) (hd : ¬ F cb) (hn : s.keys.length < 1000000) :
    Calls Try.prog 42 #[pt cb 0] w (RKPost w F tb s (deriveF (kl K) ⟨#[117, 115, 101]⟩) fun K' => .tuple #[.agg (vb (kl K')).toArray, .int .i64 0]) := by
  have h0 := ((Hp.one (rTab F tb s) hT).addR (rBlk cb 129 ([(Value.iface 46 (pt tb 0))] ++ vb (kl K) ++ [(Value.int .i64 e), (Value.bool false)])) hc (dj_tab hd))
  refine enter 19 Try.func42 rfl rfl ?_
  refine wp_seq_k ?_
  intro K1 hK1
  refine reg_lit ?_
  refine wl_to (by kernel_rfl) (x_new h0 42 (vb (List.replicate 16 0)) (fun r => pt r 0) (by kernel_rfl)) ?_
  rintro _ w2 ⟨g2, rfl, h2⟩
  refine wl_p 1 [(3, (Value.int .i64 0))] (by kernel_rfl) ?_
  refine wl_end rfl ?_
  refine seq_n hK1 ?_
  refine wp_seq_k ?_
  intro K3 hK3
  refine wp_seq_k ?_
  intro K4 hK4
  refine reg_lit ?_
  refine wl_p 3 [(4, (pt cb 0)), (5, (pt cb 0)), (6, (pt cb 18))] (by kernel_rfl) ?_
  refine wl_v (by kernel_rfl) (Value.bool false) (e_load (h2.rd 0 rfl) 4 (.tmp 6) (by kernel_rfl) 18 (Value.bool false) (by kernel_rfl) (by kernel_rfl) (by kernel_rfl)) ?_
  refine wl_end rfl ?_
  refine seq_n hK4 ?_
  refine wp_cond_false (by kernel_rfl) ?_
  refine wp_skip ?_
  refine seq_n hK3 ?_
  refine wp_seq_k ?_
  intro K5 hK5
  refine pH_go h2 11 (fun W => Blk W cb 129 ([(Value.iface 46 (pt tb 0))] ++ vb (kl K) ++ [(Value.int .i64 e), (Value.bool false)]) ∧ True) (by kernel_rfl) rfl ?_
  intro w6 h6
  refine pH_p 7 [0, 1, 2, 4, 5, 6] [(9, (pt cb 0)), (10, (pt cb 0)), (11, (pt cb 0)), (13, (pt cb 0)), (14, (pt cb 0)), (15, (pt cb 1))] rfl (by kernel_rfl) (by kernel_rfl) (fun _ d _ _ _ h => by cases d <;> exact h) ⟨h6.rd 0 rfl, trivial⟩ (by kernel_rfl) ?_
  refine pH_v 3 (some 12) (Value.iface 46 (pt tb 0)) rfl rfl (by kernel_rfl) (by kernel_rfl) (by kernel_rfl) (by kernel_rfl) (by kernel_rfl) (fun _ d _ _ _ h => by cases d <;> exact h) (by kernel_rfl) ⟨h6.rd 0 rfl, trivial⟩ (fun W hW => e_load hW.1 127 (.tmp 11) (by kernel_rfl) 0 (Value.iface 46 (pt tb 0)) (by kernel_rfl) (by kernel_rfl) (by kernel_rfl)) ?_
  refine pH_p 4 [8, 9] [(17, (Value.iface 46 (pt tb 0))), (18, (Value.iface 46 (pt tb 0)))] rfl (by kernel_rfl) (by kernel_rfl) (fun _ d _ _ _ h => by cases d <;> exact h) ⟨h6.rd 0 rfl, trivial⟩ (by kernel_rfl) ?_
  refine pH_v 7 (some 16) (Value.agg (vb (kl K)).toArray) rfl rfl (by kernel_rfl) (by kernel_rfl) (by kernel_rfl) (by kernel_rfl) (by kernel_rfl) (fun _ d _ _ _ h => by cases d <;> exact h) (by kernel_rfl) ⟨h6.rd 0 rfl, trivial⟩ (fun W hW => e_loads hW.1 42 (.tmp 15) (by kernel_rfl) 1 (vb (kl K)) (by kernel_rfl) (by kernel_rfl) (by kernel_rfl)) ?_
  refine pH_to 10 (some 19) rfl rfl (by kernel_rfl) (by kernel_rfl) (x_derive h6 1 rfl K (⟨#[117, 115, 101]⟩) (by kernel_rfl) (by omega)) ?_
  rintro _ w7 ⟨K7, F7, s7, rfl, hK7, hs7, h7⟩
  refine ⟨fun _ => ⟨h7.rd 0 rfl, trivial⟩, ?_⟩
  refine pH_to 11 none rfl rfl (by kernel_rfl) (by kernel_rfl) (x_stores h7 0 rfl 42 (.tmp 2) (.tmp 19) (by kernel_rfl) 0 (vb (kl K7)) (vb (kl K7)) (by kernel_rfl) (by kernel_rfl) (by kernel_rfl) (by kernel_rfl) (by kernel_rfl) (by kernel_rfl)) ?_
  rintro _ w8 h8
  refine ⟨fun h => absurd h (by decide), ?_⟩
  refine pH_to 12 (some 3) rfl rfl (by kernel_rfl) (by kernel_rfl) (OpTo.run (Value.int .i64 0) (pureOp_run (by kernel_rfl) _) (R := fun v w => v = (Value.int .i64 0) ∧ w = w8) ⟨rfl, rfl⟩) ?_
  rintro _ _ ⟨rfl, rfl⟩
  refine ⟨fun h => absurd h (by decide), ?_⟩
  refine pH_done (by kernel_rfl) ?_ _
  refine seq_n hK5 ?_
  refine wp_ret ?_
  refine post_2 rfl (by kernel_rfl) (rcell (h8.at_ 0 rfl) (by kernel_rfl) (by kernel_rfl)) (rtmp (v := (Value.int .i64 0)) (by kernel_rfl)) ?_
  exact ⟨_, _, _, rfl, hK7, hs7, h8.sel [1] [] (by kernel_rfl) rfl rfl⟩
set_option maxRecDepth 100000 in
set_option maxHeartbeats 1000000 in
theorem rkeyc_any (cb tb : Nat) (K : Fin 16 → UInt8) (e : Int) (w : World) (hc : Blk w cb 129 ([(Value.iface 46 (pt tb 0))] ++ vb (kl K) ++ [(Value.int .i64 e), (Value.bool true)])) :
    Calls Try.prog 42 #[pt cb 0] w (fun e w' => e = .returned (.tuple #[.agg (vb zKey).toArray, .int .i64 21]) ∧ Below w.heap.size w w') := by
  have h0 := Hp.ro1 (rBlk cb 129 ([(Value.iface 46 (pt tb 0))] ++ vb (kl K) ++ [(Value.int .i64 e), (Value.bool true)])) hc
  refine enter 19 Try.func42 rfl rfl ?_
  refine wp_seq_k ?_
  intro K1 hK1
  refine reg_lit ?_
  refine wl_to (by kernel_rfl) (x_new h0 42 (vb (List.replicate 16 0)) (fun r => pt r 0) (by kernel_rfl)) ?_
  rintro _ w2 ⟨g2, rfl, h2⟩
  refine wl_p 1 [(3, (Value.int .i64 0))] (by kernel_rfl) ?_
  refine wl_end rfl ?_
  refine seq_n hK1 ?_
  refine wp_seq_k ?_
  intro K3 hK3
  refine wp_seq_k ?_
  intro K4 hK4
  refine reg_lit ?_
  refine wl_p 3 [(4, (pt cb 0)), (5, (pt cb 0)), (6, (pt cb 18))] (by kernel_rfl) ?_
  refine wl_v (by kernel_rfl) (Value.bool true) (e_load (h2.rd 0 rfl) 4 (.tmp 6) (by kernel_rfl) 18 (Value.bool true) (by kernel_rfl) (by kernel_rfl) (by kernel_rfl)) ?_
  refine wl_end rfl ?_
  refine seq_n hK4 ?_
  refine wp_cond_true (by kernel_rfl) ?_
  refine wp_seq_k ?_
  intro K5 hK5
  refine reg_lit ?_
  refine wl_p 1 [(8, (Value.agg (vb (List.replicate 16 0)).toArray))] (by kernel_rfl) ?_
  refine wl_to (by kernel_rfl) (x_stores h2 0 rfl 42 (.tmp 2) (.tmp 8) (by kernel_rfl) 0 (vb (List.replicate 16 0)) (vb (List.replicate 16 0)) (by kernel_rfl) (by kernel_rfl) (by kernel_rfl) (by kernel_rfl) (by kernel_rfl) (by kernel_rfl)) ?_
  rintro _ w6 h6
  refine wl_p 1 [(3, (Value.int .i64 21))] (by kernel_rfl) ?_
  refine wl_end rfl ?_
  refine seq_n hK5 ?_
  refine wp_ret ?_
  refine seq_r ?_
  refine post_2 rfl (by kernel_rfl) (rcell (h6.at_ 0 rfl) (by kernel_rfl) (by kernel_rfl)) (rtmp (v := (Value.int .i64 21)) (by kernel_rfl)) ?_
  exact ⟨rfl, h6.below0⟩
set_option maxRecDepth 100000 in
set_option maxHeartbeats 1000000 in
theorem rwipe_any (tb cb : Nat) (K : Fin 16 → UInt8) (e : Int) (o : Bool) (w : World) (hc : Blk w cb 129 ([(Value.iface 46 (pt tb 0))] ++ vb (kl K) ++ [(Value.int .i64 e), (Value.bool o)])) :
    Calls Try.prog 78 #[pt cb 0] w (fun e' w' => e' = .returned (.tuple #[]) ∧ Hp (fun q => q = cb) w w' [] [rBlk cb 129 ([Value.iface 46 (pt tb 0)] ++ vb zKey ++ [Value.int .i64 e, Value.bool true])]) := by
  have h0 := Hp.one (rBlk cb 129 ([(Value.iface 46 (pt tb 0))] ++ vb (kl K) ++ [(Value.int .i64 e), (Value.bool o)])) hc
  refine enter 8 Try.func78 rfl rfl ?_
  refine wp_seq_k ?_
  intro K1 hK1
  refine reg_lit ?_
  refine wl_p 4 [(2, (pt cb 0)), (3, (pt cb 0)), (4, (pt cb 1)), (5, (Value.slice (some ⟨cb, 1, none⟩) 16 16))] (by kernel_rfl) ?_
  refine wl_to (by kernel_rfl) (x_clear h0 0 rfl (.tmp 5) 28 5 (by kernel_rfl) 1 15 16 (by kernel_rfl) (by kernel_rfl) (Value.int .u8 0) (by kernel_rfl) (vb zKey) (by kernel_rfl) (by kernel_rfl) (by kernel_rfl) ([(Value.iface 46 (pt tb 0))] ++ vb zKey ++ [(Value.int .i64 e), (Value.bool o)]) (by kernel_rfl)) ?_
  rintro _ w2 h2
  refine wl_end rfl ?_
  refine seq_n hK1 ?_
  refine reg_lit ?_
  refine wl_p 3 [(6, (pt cb 0)), (7, (pt cb 0)), (8, (pt cb 18))] (by kernel_rfl) ?_
  refine wl_to (by kernel_rfl) (x_store h2 0 rfl 4 (.tmp 8) (.const (Value.bool true)) (by kernel_rfl) 18 (Value.bool true) ([(Value.iface 46 (pt tb 0))] ++ vb zKey ++ [(Value.int .i64 e), (Value.bool true)]) (by kernel_rfl) (by kernel_rfl) (by kernel_rfl) (by kernel_rfl) rfl rfl (by kernel_rfl)) ?_
  rintro _ w3 h3
  refine wl_end rfl ?_
  refine post_n ?_
  refine post_0 rfl (by kernel_rfl)  ?_
  exact ⟨rfl, h3⟩
set_option maxRecDepth 100000 in
set_option maxHeartbeats 1000000 in
theorem rnew_any (F : Nat → Prop) (tb : Nat) (s : STab) (K : Fin 16 → UInt8) (l : ByteArray) (w : World) (hT : TabAt w F tb s) (hn : s.keys.length < 1000000) :
    Calls Try.prog 41 #[Value.iface 46 (pt tb 0), Value.agg (vb (kl K)).toArray, Value.string l] w (fun e w' => ∃ cb K' F' s', e = .returned (pt cb 0) ∧ kl K' = mkB 107 (s.num (deriveF (kl K) l)) ∧ s' = s.made (deriveF (kl K) l) ∧ Hp F w w' [] [rBlk cb 129 ([(Value.iface 46 (pt tb 0))] ++ vb (kl K') ++ [(Value.int .i64 0), (Value.bool false)]), rTab F' tb s']) := by
  have h0 := Hp.one (rTab F tb s) hT
  refine enter 11 Try.func41 rfl rfl ?_
  refine wp_seq_k ?_
  intro K1 hK1
  refine reg_lit ?_
  refine wl_to (by kernel_rfl) (x_new h0 42 (vb (kl K)) (fun r => pt r 0) (by kernel_rfl)) ?_
  rintro _ w2 ⟨g2, rfl, h2⟩
  refine wl_p 1 [(6, (Value.pointer none))] (by kernel_rfl) ?_
  refine wl_end rfl ?_
  refine seq_n hK1 ?_
  refine wp_seq_k ?_
  intro K3 hK3
  refine reg_lit ?_
  refine wl_p 2 [(7, (Value.iface 46 (pt tb 0))), (8, (Value.iface 46 (pt tb 0)))] (by kernel_rfl) ?_
  refine wl_v (by kernel_rfl) (Value.agg (vb (kl K)).toArray) (e_loads (h2.at_ 0 rfl) 42 (.tmp 4) (by kernel_rfl) 0 (vb (kl K)) (by kernel_rfl) (by kernel_rfl) (by kernel_rfl)) ?_
  refine wl_p 1 [(10, (Value.string l))] (by kernel_rfl) ?_
  refine wl_to (by kernel_rfl) (x_derive h2 1 rfl K l (by kernel_rfl) (by omega)) ?_
  rintro _ w4 ⟨K4, F4, s4, rfl, hK4, hs4, h4⟩
  refine wl_p 1 [(12, (Value.agg ([(Value.iface 46 (pt tb 0))] ++ vb (kl K4) ++ [(Value.int .i64 0), (Value.bool false)]).toArray))] (by kernel_rfl) ?_
  refine wl_to (by kernel_rfl) (x_new h4 129 ([(Value.iface 46 (pt tb 0))] ++ vb (kl K4) ++ [(Value.int .i64 0), (Value.bool false)]) (fun r => pt r 0) (by kernel_rfl)) ?_
  rintro _ w5 ⟨g5, rfl, h5⟩
  refine wl_p 1 [(6, (pt g5 0))] (by kernel_rfl) ?_
  refine wl_end rfl ?_
  refine seq_n hK3 ?_
  refine wp_ret ?_
  refine post_1 rfl (by kernel_rfl) (rtmp (v := (pt g5 0)) (by kernel_rfl)) ?_
  exact ⟨_, _, _, _, rfl, hK4, hs4, h5.sel [0, 2] [] (by kernel_rfl) rfl rfl⟩
set_option maxRecDepth 100000 in
set_option maxHeartbeats 1000000 in
theorem rnext_any (F : Nat → Prop) (tb : Nat) (s : STab) (cb : Nat) (K : Fin 16 → UInt8) (e : Int) (w : World) (hc : Blk w cb 129 ([(Value.iface 46 (pt tb 0))] ++ vb (kl K) ++ [(Value.int .i64 e), (Value.bool false)])) (hT : TabAt w F tb s) (hd : ¬ F cb) (hn : s.keys.length < 1000000) (he0 : 0 ≤ e) (he : e < 64) :
    Calls Try.prog 45 #[pt cb 0] w (fun e' w' => e' = .returned (Value.int .i64 0) ∧ ∃ K' F' s', kl K' = mkB 107 (s.num (deriveF (kl K) ⟨#[110, 101, 120, 116]⟩)) ∧ s' = s.made (deriveF (kl K) ⟨#[110, 101, 120, 116]⟩) ∧ Hp (fun q => q = cb ∨ F q) w w' [] [rBlk cb 129 ([(Value.iface 46 (pt tb 0))] ++ vb (kl K') ++ [(Value.int .i64 (e + 1)), (Value.bool false)]), rTab F' tb s']) := by
  have h0 := (Hp.two (rBlk cb 129 ([(Value.iface 46 (pt tb 0))] ++ vb (kl K) ++ [(Value.int .i64 e), (Value.bool false)])) (rTab F tb s) hc hT (fun q h1 h2 => hd (h1 ▸ h2)))
  refine enter 40 Try.func45 rfl rfl ?_
  refine wp_seq_k ?_
  intro K1 hK1
  refine reg_lit ?_
  refine wl_p 1 [(2, (Value.int .i64 0))] (by kernel_rfl) ?_
  refine wl_end rfl ?_
  refine seq_n hK1 ?_
  refine wp_seq_k ?_
  intro K2 hK2
  refine wp_block ?_
  refine wp_seq_k ?_
  intro K3 hK3
  refine reg_lit ?_
  refine wl_p 3 [(5, (pt cb 0)), (6, (pt cb 0)), (7, (pt cb 18))] (by kernel_rfl) ?_
  refine wl_v (by kernel_rfl) (Value.bool false) (e_load (h0.at_ 0 rfl) 4 (.tmp 7) (by kernel_rfl) 18 (Value.bool false) (by kernel_rfl) (by kernel_rfl) (by kernel_rfl)) ?_
  refine wl_p 1 [(4, (Value.bool false))] (by kernel_rfl) ?_
  refine wl_end rfl ?_
  refine seq_n hK3 ?_
  refine wp_cond_false (by kernel_rfl) ?_
  refine wp_seq_k ?_
  intro K4 hK4
  refine reg_lit ?_
  refine wl_p 3 [(10, (pt cb 0)), (11, (pt cb 0)), (12, (pt cb 17))] (by kernel_rfl) ?_
  refine wl_v (by kernel_rfl) (Value.int .i64 e) (e_load (h0.at_ 0 rfl) 2 (.tmp 12) (by kernel_rfl) 17 (Value.int .i64 e) (by kernel_rfl) (by kernel_rfl) (by kernel_rfl)) ?_
  refine wl_v (by kernel_rfl) (.bool false) (e_is (v := (Value.bool (decide (e ≥ 64)))) (by kernel_rfl) (by simp; omega)) ?_
  refine wl_p 1 [(9, (Value.bool false))] (by kernel_rfl) ?_
  refine wl_end rfl ?_
  refine seq_n hK4 ?_
  refine wp_cond_false (by kernel_rfl) ?_
  refine wp_skip ?_
  refine blk_n ?_
  refine seq_n hK2 ?_
  refine wp_seq_k ?_
  intro K5 hK5
  refine pH_go h0 12 (fun W => Blk W cb 129 ([(Value.iface 46 (pt tb 0))] ++ vb (kl K) ++ [(Value.int .i64 e), (Value.bool false)]) ∧ True) (by kernel_rfl) rfl ?_
  intro w6 h6
  refine pH_p 7 [0, 1, 2, 4, 5, 6] [(15, (pt cb 0)), (16, (pt cb 0)), (17, (pt cb 0)), (19, (pt cb 0)), (20, (pt cb 0)), (21, (pt cb 1))] rfl (by kernel_rfl) (by kernel_rfl) (fun _ d _ _ _ h => by cases d <;> exact h) ⟨h6.at_ 0 rfl, trivial⟩ (by kernel_rfl) ?_
  refine pH_v 3 (some 18) (Value.iface 46 (pt tb 0)) rfl rfl (by kernel_rfl) (by kernel_rfl) (by kernel_rfl) (by kernel_rfl) (by kernel_rfl) (fun _ d _ _ _ h => by cases d <;> exact h) (by kernel_rfl) ⟨h6.at_ 0 rfl, trivial⟩ (fun W hW => e_load hW.1 127 (.tmp 17) (by kernel_rfl) 0 (Value.iface 46 (pt tb 0)) (by kernel_rfl) (by kernel_rfl) (by kernel_rfl)) ?_
  refine pH_p 4 [8, 9] [(23, (Value.iface 46 (pt tb 0))), (24, (Value.iface 46 (pt tb 0)))] rfl (by kernel_rfl) (by kernel_rfl) (fun _ d _ _ _ h => by cases d <;> exact h) ⟨h6.at_ 0 rfl, trivial⟩ (by kernel_rfl) ?_
  refine pH_v 7 (some 22) (Value.agg (vb (kl K)).toArray) rfl rfl (by kernel_rfl) (by kernel_rfl) (by kernel_rfl) (by kernel_rfl) (by kernel_rfl) (fun _ d _ _ _ h => by cases d <;> exact h) (by kernel_rfl) ⟨h6.at_ 0 rfl, trivial⟩ (fun W hW => e_loads hW.1 42 (.tmp 21) (by kernel_rfl) 1 (vb (kl K)) (by kernel_rfl) (by kernel_rfl) (by kernel_rfl)) ?_
  refine pH_or 10 11 (by kernel_rfl) ?_ ?_
  ·
    refine pH_op 10 (some 25) rfl rfl (by kernel_rfl) (x_derive h6 1 rfl K (⟨#[110, 101, 120, 116]⟩) (by kernel_rfl) (by omega)) ?_
    rintro _ w7 ⟨K7, F7, s7, rfl, hK7, hs7, h7⟩
    refine ⟨fun _ => ⟨h7.at_ 0 rfl, trivial⟩, ?_⟩
    refine pH_to 11 (some 3) rfl rfl (by kernel_rfl) (by kernel_rfl) (x_new h7 42 (vb (List.replicate 16 0)) (fun r => pt r 0) (by kernel_rfl)) ?_
    rintro _ w8 ⟨g8, rfl, h8⟩
    refine ⟨fun _ => ⟨h8.at_ 1 rfl, trivial⟩, ?_⟩
    refine pH_to 12 none rfl rfl (by kernel_rfl) (by kernel_rfl) (x_stores h8 0 rfl 42 (.tmp 3) (.tmp 25) (by kernel_rfl) 0 (vb (kl K7)) (vb (kl K7)) (by kernel_rfl) (by kernel_rfl) (by kernel_rfl) (by kernel_rfl) (by kernel_rfl) (by kernel_rfl)) ?_
    rintro _ w9 h9
    refine ⟨fun h => absurd h (by decide), ?_⟩
    refine pH_done (by kernel_rfl) ?_ _
    refine seq_n hK5 ?_
    refine wp_seq_k ?_
    intro K10 hK10
    refine reg_lit ?_
    refine wl_p 4 [(26, (pt cb 0)), (27, (pt cb 0)), (28, (pt cb 1)), (29, (Value.slice (some ⟨cb, 1, none⟩) 16 16))] (by kernel_rfl) ?_
    refine wl_to (by kernel_rfl) (x_clear h9 1 rfl (.tmp 29) 28 5 (by kernel_rfl) 1 15 16 (by kernel_rfl) (by kernel_rfl) (Value.int .u8 0) (by kernel_rfl) (vb zKey) (by kernel_rfl) (by kernel_rfl) (by kernel_rfl) ([(Value.iface 46 (pt tb 0))] ++ vb zKey ++ [(Value.int .i64 e), (Value.bool false)]) (by kernel_rfl)) ?_
    rintro _ w11 h11
    refine wl_end rfl ?_
    refine seq_n hK10 ?_
    refine wp_seq_k ?_
    intro K12 hK12
    refine reg_lit ?_
    refine wl_p 1 [(30, (pt cb 0))] (by kernel_rfl) ?_
    refine wl_v (by kernel_rfl) (Value.agg (vb (kl K7)).toArray) (e_loads (h11.at_ 0 rfl) 42 (.tmp 3) (by kernel_rfl) 0 (vb (kl K7)) (by kernel_rfl) (by kernel_rfl) (by kernel_rfl)) ?_
    refine wl_p 2 [(32, (pt cb 0)), (33, (pt cb 1))] (by kernel_rfl) ?_
    refine wl_to (by kernel_rfl) (x_stores h11 1 rfl 42 (.tmp 33) (.tmp 31) (by kernel_rfl) 1 (vb (kl K7)) ([(Value.iface 46 (pt tb 0))] ++ vb (kl K7) ++ [(Value.int .i64 e), (Value.bool false)]) (by kernel_rfl) (by kernel_rfl) (by kernel_rfl) (by kernel_rfl) (by kernel_rfl) (by kernel_rfl)) ?_
    rintro _ w13 h13
    refine wl_end rfl ?_
    refine seq_n hK12 ?_
    refine wp_seq_k ?_
    intro K14 hK14
    refine reg_lit ?_
    refine wl_p 3 [(34, (pt cb 0)), (35, (pt cb 0)), (36, (pt cb 17))] (by kernel_rfl) ?_
    refine wl_v (by kernel_rfl) (Value.int .i64 e) (e_load (h13.at_ 1 rfl) 2 (.tmp 36) (by kernel_rfl) 17 (Value.int .i64 e) (by kernel_rfl) (by kernel_rfl) (by kernel_rfl)) ?_
    refine wl_v (by kernel_rfl) (.int .i64 (e + 1)) (exec_add _ _ _ _ rfl e 1 (by kernel_rfl) (by kernel_rfl) (e + 1) rfl (by omega) (by omega) _) ?_
    refine wl_p 2 [(39, (pt cb 0)), (40, (pt cb 17))] (by kernel_rfl) ?_
    refine wl_to (by kernel_rfl) (x_store h13 1 rfl 2 (.tmp 40) (.tmp 38) (by kernel_rfl) 17 (Value.int .i64 (e + 1)) ([(Value.iface 46 (pt tb 0))] ++ vb (kl K7) ++ [(Value.int .i64 (e + 1)), (Value.bool false)]) (by kernel_rfl) (by kernel_rfl) (by kernel_rfl) (by kernel_rfl) rfl rfl (by kernel_rfl)) ?_
    rintro _ w15 h15
    refine wl_end rfl ?_
    refine seq_n hK14 ?_
    refine wp_seq_k ?_
    intro K16 hK16
    refine reg_lit ?_
    refine wl_p 1 [(2, (Value.int .i64 0))] (by kernel_rfl) ?_
    refine wl_end rfl ?_
    refine seq_n hK16 ?_
    refine wp_ret ?_
    refine post_1 rfl (by kernel_rfl) (rtmp (v := (Value.int .i64 0)) (by kernel_rfl)) ?_
    exact ⟨rfl, _, _, _, hK7, hs7, h15.sel [1, 2] [] (by kernel_rfl) rfl rfl⟩
  ·
    refine pH_op 11 (some 3) rfl rfl (by kernel_rfl) (x_new h6 42 (vb (List.replicate 16 0)) (fun r => pt r 0) (by kernel_rfl)) ?_
    rintro _ w17 ⟨g17, rfl, h17⟩
    refine ⟨fun _ => ⟨h17.at_ 1 rfl, trivial⟩, ?_⟩
    refine pH_to 10 (some 25) rfl rfl (by kernel_rfl) (by kernel_rfl) (x_derive h17 2 rfl K (⟨#[110, 101, 120, 116]⟩) (by kernel_rfl) (by omega)) ?_
    rintro _ w18 ⟨K18, F18, s18, rfl, hK18, hs18, h18⟩
    refine ⟨fun _ => ⟨h18.at_ 1 rfl, trivial⟩, ?_⟩
    refine pH_to 12 none rfl rfl (by kernel_rfl) (by kernel_rfl) (x_stores h18 0 rfl 42 (.tmp 3) (.tmp 25) (by kernel_rfl) 0 (vb (kl K18)) (vb (kl K18)) (by kernel_rfl) (by kernel_rfl) (by kernel_rfl) (by kernel_rfl) (by kernel_rfl) (by kernel_rfl)) ?_
    rintro _ w19 h19
    refine ⟨fun h => absurd h (by decide), ?_⟩
    refine pH_done (by kernel_rfl) ?_ _
    refine seq_n hK5 ?_
    refine wp_seq_k ?_
    intro K20 hK20
    refine reg_lit ?_
    refine wl_p 4 [(26, (pt cb 0)), (27, (pt cb 0)), (28, (pt cb 1)), (29, (Value.slice (some ⟨cb, 1, none⟩) 16 16))] (by kernel_rfl) ?_
    refine wl_to (by kernel_rfl) (x_clear h19 1 rfl (.tmp 29) 28 5 (by kernel_rfl) 1 15 16 (by kernel_rfl) (by kernel_rfl) (Value.int .u8 0) (by kernel_rfl) (vb zKey) (by kernel_rfl) (by kernel_rfl) (by kernel_rfl) ([(Value.iface 46 (pt tb 0))] ++ vb zKey ++ [(Value.int .i64 e), (Value.bool false)]) (by kernel_rfl)) ?_
    rintro _ w21 h21
    refine wl_end rfl ?_
    refine seq_n hK20 ?_
    refine wp_seq_k ?_
    intro K22 hK22
    refine reg_lit ?_
    refine wl_p 1 [(30, (pt cb 0))] (by kernel_rfl) ?_
    refine wl_v (by kernel_rfl) (Value.agg (vb (kl K18)).toArray) (e_loads (h21.at_ 0 rfl) 42 (.tmp 3) (by kernel_rfl) 0 (vb (kl K18)) (by kernel_rfl) (by kernel_rfl) (by kernel_rfl)) ?_
    refine wl_p 2 [(32, (pt cb 0)), (33, (pt cb 1))] (by kernel_rfl) ?_
    refine wl_to (by kernel_rfl) (x_stores h21 1 rfl 42 (.tmp 33) (.tmp 31) (by kernel_rfl) 1 (vb (kl K18)) ([(Value.iface 46 (pt tb 0))] ++ vb (kl K18) ++ [(Value.int .i64 e), (Value.bool false)]) (by kernel_rfl) (by kernel_rfl) (by kernel_rfl) (by kernel_rfl) (by kernel_rfl) (by kernel_rfl)) ?_
    rintro _ w23 h23
    refine wl_end rfl ?_
    refine seq_n hK22 ?_
    refine wp_seq_k ?_
    intro K24 hK24
    refine reg_lit ?_
    refine wl_p 3 [(34, (pt cb 0)), (35, (pt cb 0)), (36, (pt cb 17))] (by kernel_rfl) ?_
    refine wl_v (by kernel_rfl) (Value.int .i64 e) (e_load (h23.at_ 1 rfl) 2 (.tmp 36) (by kernel_rfl) 17 (Value.int .i64 e) (by kernel_rfl) (by kernel_rfl) (by kernel_rfl)) ?_
    refine wl_v (by kernel_rfl) (.int .i64 (e + 1)) (exec_add _ _ _ _ rfl e 1 (by kernel_rfl) (by kernel_rfl) (e + 1) rfl (by omega) (by omega) _) ?_
    refine wl_p 2 [(39, (pt cb 0)), (40, (pt cb 17))] (by kernel_rfl) ?_
    refine wl_to (by kernel_rfl) (x_store h23 1 rfl 2 (.tmp 40) (.tmp 38) (by kernel_rfl) 17 (Value.int .i64 (e + 1)) ([(Value.iface 46 (pt tb 0))] ++ vb (kl K18) ++ [(Value.int .i64 (e + 1)), (Value.bool false)]) (by kernel_rfl) (by kernel_rfl) (by kernel_rfl) (by kernel_rfl) rfl rfl (by kernel_rfl)) ?_
    rintro _ w25 h25
    refine wl_end rfl ?_
    refine seq_n hK24 ?_
    refine wp_seq_k ?_
    intro K26 hK26
    refine reg_lit ?_
    refine wl_p 1 [(2, (Value.int .i64 0))] (by kernel_rfl) ?_
    refine wl_end rfl ?_
    refine seq_n hK26 ?_
    refine wp_ret ?_
    refine post_1 rfl (by kernel_rfl) (rtmp (v := (Value.int .i64 0)) (by kernel_rfl)) ?_
    exact ⟨rfl, _, _, _, hK18, hs18, h25.sel [1, 2] [] (by kernel_rfl) rfl rfl⟩
set_option maxRecDepth 100000 in
set_option maxHeartbeats 1000000 in
theorem rnextf_any (tb cb : Nat) (K : Fin 16 → UInt8) (e : Int) (w : World) (hc : Blk w cb 129 ([(Value.iface 46 (pt tb 0))] ++ vb (kl K) ++ [(Value.int .i64 e), (Value.bool false)])) (he : 64 ≤ e) :
    Calls Try.prog 45 #[pt cb 0] w (VPost w (.int .i64 8)) := by
  have h0 := Hp.ro1 (rBlk cb 129 ([(Value.iface 46 (pt tb 0))] ++ vb (kl K) ++ [(Value.int .i64 e), (Value.bool false)])) hc
  refine enter 40 Try.func45 rfl rfl ?_
  refine wp_seq_k ?_
  intro K1 hK1
  refine reg_lit ?_
  refine wl_p 1 [(2, (Value.int .i64 0))] (by kernel_rfl) ?_
  refine wl_end rfl ?_
  refine seq_n hK1 ?_
  refine wp_seq_k ?_
  intro K2 hK2
  refine wp_block ?_
  refine wp_seq_k ?_
  intro K3 hK3
  refine reg_lit ?_
  refine wl_p 3 [(5, (pt cb 0)), (6, (pt cb 0)), (7, (pt cb 18))] (by kernel_rfl) ?_
  refine wl_v (by kernel_rfl) (Value.bool false) (e_load (h0.rd 0 rfl) 4 (.tmp 7) (by kernel_rfl) 18 (Value.bool false) (by kernel_rfl) (by kernel_rfl) (by kernel_rfl)) ?_
  refine wl_p 1 [(4, (Value.bool false))] (by kernel_rfl) ?_
  refine wl_end rfl ?_
  refine seq_n hK3 ?_
  refine wp_cond_false (by kernel_rfl) ?_
  refine wp_seq_k ?_
  intro K4 hK4
  refine reg_lit ?_
  refine wl_p 3 [(10, (pt cb 0)), (11, (pt cb 0)), (12, (pt cb 17))] (by kernel_rfl) ?_
  refine wl_v (by kernel_rfl) (Value.int .i64 e) (e_load (h0.rd 0 rfl) 2 (.tmp 12) (by kernel_rfl) 17 (Value.int .i64 e) (by kernel_rfl) (by kernel_rfl) (by kernel_rfl)) ?_
  refine wl_v (by kernel_rfl) (.bool true) (e_is (v := (Value.bool (decide (e ≥ 64)))) (by kernel_rfl) (by simp; omega)) ?_
  refine wl_p 1 [(9, (Value.bool true))] (by kernel_rfl) ?_
  refine wl_end rfl ?_
  refine seq_n hK4 ?_
  refine wp_cond_true (by kernel_rfl) ?_
  refine wp_seq_k ?_
  intro K5 hK5
  refine reg_lit ?_
  refine wl_p 1 [(2, (Value.int .i64 8))] (by kernel_rfl) ?_
  refine wl_end rfl ?_
  refine seq_n hK5 ?_
  refine wp_ret ?_
  refine blk_r ?_
  refine seq_r ?_
  refine post_1 rfl (by kernel_rfl) (rtmp (v := (Value.int .i64 8)) (by kernel_rfl)) ?_
  exact ⟨rfl, rfl⟩
set_option maxRecDepth 100000 in
set_option maxHeartbeats 1000000 in
theorem rnextc_any (tb cb : Nat) (k : Bytes) (hk : k.length = 16) (e : Int) (w : World) (hc : Blk w cb 129 ([Value.iface 46 (pt tb 0)] ++ vb k ++ [Value.int .i64 e, Value.bool true])) :
    Calls Try.prog 45 #[pt cb 0] w (VPost w (.int .i64 21)) := by
  obtain ⟨K, rfl⟩ := kl_of k hk
  have h0 := Hp.ro1 (rBlk cb 129 ([(Value.iface 46 (pt tb 0))] ++ vb (kl K) ++ [(Value.int .i64 e), (Value.bool true)])) hc
  refine enter 40 Try.func45 rfl rfl ?_
  refine wp_seq_k ?_
  intro K1 hK1
  refine reg_lit ?_
  refine wl_p 1 [(2, (Value.int .i64 0))] (by kernel_rfl) ?_
  refine wl_end rfl ?_
  refine seq_n hK1 ?_
  refine wp_seq_k ?_
  intro K2 hK2
  refine wp_block ?_
  refine wp_seq_k ?_
  intro K3 hK3
  refine reg_lit ?_
  refine wl_p 3 [(5, (pt cb 0)), (6, (pt cb 0)), (7, (pt cb 18))] (by kernel_rfl) ?_
  refine wl_v (by kernel_rfl) (Value.bool true) (e_load (h0.rd 0 rfl) 4 (.tmp 7) (by kernel_rfl) 18 (Value.bool true) (by kernel_rfl) (by kernel_rfl) (by kernel_rfl)) ?_
  refine wl_p 1 [(4, (Value.bool true))] (by kernel_rfl) ?_
  refine wl_end rfl ?_
  refine seq_n hK3 ?_
  refine wp_cond_true (by kernel_rfl) ?_
  refine wp_seq_k ?_
  intro K4 hK4
  refine reg_lit ?_
  refine wl_p 1 [(2, (Value.int .i64 21))] (by kernel_rfl) ?_
  refine wl_end rfl ?_
  refine seq_n hK4 ?_
  refine wp_ret ?_
  refine blk_r ?_
  refine seq_r ?_
  refine post_1 rfl (by kernel_rfl) (rtmp (v := (Value.int .i64 21)) (by kernel_rfl)) ?_
  exact ⟨rfl, rfl⟩
end Go.Proofs.Ytjjcnijdjhhdoaa
end
/-! Steps: calls of package ratchet, on what is held. -/
section
namespace Go.Proofs.Ytjjcnijdjhhdoaa
open Go.RowKit Go.QT
def chC (tb : Nat) (k : Bytes) (e : Int) (o : Bool) : List Value := [Value.iface 46 (pt tb 0)] ++ vb k ++ [Value.int .i64 e, Value.bool o]
section
variable {F0 F : Nat → Prop} {w0 w w' : World} {ro rs : List Res} {tb cb : Nat} {s : STab} {o : Oper} {a : Act} {K : Fin 16 → UInt8} {e : Int} {v : Value}
theorem x_rnew (h : Hp F0 w0 w ro rs) (i : Nat) (hi : rs[i]? = some (rTab F tb s)) (K : Fin 16 → UInt8) (l : ByteArray) (hp : pureVal Try.prog (execOp a.eval o) = some (.enter 41 #[Value.iface 46 (pt tb 0), Value.agg (vb (kl K)).toArray, Value.string l])) (hn : s.keys.length < 1000000) :
    OpTo Try.prog o a w (fun u w' => ∃ cb K' F' s', u = pt cb 0 ∧ kl K' = mkB 107 (s.num (deriveF (kl K) l)) ∧ s' = s.made (deriveF (kl K) l) ∧ Hp F0 w0 w' ro ([rBlk cb 129 ([Value.iface 46 (pt tb 0)] ++ vb (kl K') ++ [Value.int .i64 0, Value.bool false]), rTab F' tb s'] ++ rs.eraseIdx i)) :=
  OpTo.enter 41 [Value.iface 46 (pt tb 0), Value.agg (vb (kl K)).toArray, Value.string l] hp (rnew_any F tb s K l w (h.own i _ hi) hn) fun e w' hq => by
    obtain ⟨cb, K', F', s', he, h1, h2, h3⟩ := hq
    exact ⟨_, he, cb, K', F', s', rfl, h1, h2, h.call1 i hi h3⟩
theorem x_rslot (h : Hp F0 w0 w ro rs) (j : Nat) {o' : Bool} (hj : rs[j]? = some (rBlk cb 129 ([Value.iface 46 (pt tb 0)] ++ vb (kl K) ++ [Value.int .i64 e, Value.bool o']))) (hp : pureVal Try.prog (execOp a.eval o) = some (.enter 43 #[pt cb 0])) :
    OpTo Try.prog o a w (fun u w' => u = .agg (vb (kl K)).toArray ∧ Hp F0 w0 w' ro rs) :=
  x_apost h 43 [pt cb 0] hp (rslot_any cb tb K e o' w (h.own j _ hj))
theorem x_rslotB (h : Hp F0 w0 w ro rs) (j : Nat) (k : Bytes) (hk : k.length = 16) {o' : Bool} (hj : rs[j]? = some (rBlk cb 129 ([Value.iface 46 (pt tb 0)] ++ vb k ++ [Value.int .i64 e, Value.bool o']))) (hp : pureVal Try.prog (execOp a.eval o) = some (.enter 43 #[pt cb 0])) :
    OpTo Try.prog o a w (fun u w' => u = .agg (vb k).toArray ∧ Hp F0 w0 w' ro rs) := by
  obtain ⟨K, rfl⟩ := kl_of k hk
  exact x_rslot h j hj hp
theorem x_repoch (h : Hp F0 w0 w ro rs) (j : Nat) {o' : Bool} (hj : rs[j]? = some (rBlk cb 129 ([Value.iface 46 (pt tb 0)] ++ vb (kl K) ++ [Value.int .i64 e, Value.bool o']))) (hp : pureVal Try.prog (execOp a.eval o) = some (.enter 44 #[pt cb 0])) :
    OpTo Try.prog o a w (fun u w' => u = .int .i64 e ∧ Hp F0 w0 w' ro rs) :=
  x_vpost h 44 [pt cb 0] hp (repoch_any cb tb K e o' w (h.own j _ hj))
theorem x_repochB (h : Hp F0 w0 w ro rs) (j : Nat) (k : Bytes) (hk : k.length = 16) {o' : Bool} (hj : rs[j]? = some (rBlk cb 129 ([Value.iface 46 (pt tb 0)] ++ vb k ++ [Value.int .i64 e, Value.bool o']))) (hp : pureVal Try.prog (execOp a.eval o) = some (.enter 44 #[pt cb 0])) :
    OpTo Try.prog o a w (fun u w' => u = .int .i64 e ∧ Hp F0 w0 w' ro rs) := by
  obtain ⟨K, rfl⟩ := kl_of k hk
  exact x_repoch h j hj hp
theorem Hp.ntab (h : Hp F0 w0 w ro rs) (i j : Nat) (hi : rs[i]? = some (rTab F tb s)) {T : Nat} {cs : List Value} (hj : rs[j]? = some (rBlk cb T cs)) (hij : decide (i ≠ j) = true) : ¬ F cb := fun hF =>
  h.dis i j _ _ hi hj (of_decide_eq_true hij) cb hF rfl
theorem x_rkey (h : Hp F0 w0 w ro rs) (i j : Nat) (hi : rs[i]? = some (rTab F tb s)) (hj : rs[j]? = some (rBlk cb 129 ([Value.iface 46 (pt tb 0)] ++ vb (kl K) ++ [Value.int .i64 e, Value.bool false]))) (hij : decide (i ≠ j) = true) (hp : pureVal Try.prog (execOp a.eval o) = some (.enter 42 #[pt cb 0])) (hn : s.keys.length < 1000000) :
    OpTo Try.prog o a w (fun u w' => ∃ K' F' s', u = .tuple #[.agg (vb (kl K')).toArray, .int .i64 0] ∧ kl K' = mkB 107 (s.num (deriveF (kl K) ⟨#[117, 115, 101]⟩)) ∧ s' = s.made (deriveF (kl K) ⟨#[117, 115, 101]⟩) ∧ Hp F0 w0 w' ro (rs.set i (rTab F' tb s'))) :=
  OpTo.enter 42 [pt cb 0] hp (rkey_any F tb s cb K e w (h.own j _ hj) (h.own i _ hi) (h.ntab i j hi hj hij) hn) fun e w' hq => by
    obtain ⟨K', F', s', he, h1, h2, h3⟩ := hq
    exact ⟨_, he, K', F', s', rfl, h1, h2, h.upd i hi h3.fr (rTab F' tb s') (h3.own 0 _ rfl) (h3.mine 0 _ rfl)⟩
theorem x_rkeyc (h : Hp F0 w0 w ro rs) (j : Nat) (k : Bytes) (hk : k.length = 16) (hj : rs[j]? = some (rBlk cb 129 ([Value.iface 46 (pt tb 0)] ++ vb k ++ [Value.int .i64 e, Value.bool true]))) (hp : pureVal Try.prog (execOp a.eval o) = some (.enter 42 #[pt cb 0])) :
    OpTo Try.prog o a w (fun u w' => u = .tuple #[.agg (vb zKey).toArray, .int .i64 21] ∧ Hp F0 w0 w' ro rs) := by
  obtain ⟨K, rfl⟩ := kl_of k hk
  exact OpTo.enter 42 [pt cb 0] hp (rkeyc_any cb tb K e w (h.own j _ hj)) fun e w' hq => ⟨_, hq.1, rfl, h.below hq.2⟩
theorem x_rwipe (h : Hp F0 w0 w ro rs) (j : Nat) {o' : Bool} (hj : rs[j]? = some (rBlk cb 129 ([Value.iface 46 (pt tb 0)] ++ vb (kl K) ++ [Value.int .i64 e, Value.bool o']))) (hp : pureVal Try.prog (execOp a.eval o) = some (.enter 78 #[pt cb 0])) :
    OpTo Try.prog o a w (fun u w' => u = .tuple #[] ∧ Hp F0 w0 w' ro (rs.set j (rBlk cb 129 ([Value.iface 46 (pt tb 0)] ++ vb zKey ++ [Value.int .i64 e, Value.bool true])))) :=
  OpTo.enter 78 [pt cb 0] hp (rwipe_any tb cb K e o' w (h.own j _ hj)) fun _ _ hq => ⟨_, hq.1, rfl, h.upd j hj hq.2.fr _ (hq.2.own 0 _ rfl) (hq.2.mine 0 _ rfl)⟩
theorem x_rnext (h : Hp F0 w0 w ro rs) (i j : Nat) (hi : rs[i]? = some (rTab F tb s)) (hj : rs[j]? = some (rBlk cb 129 ([Value.iface 46 (pt tb 0)] ++ vb (kl K) ++ [Value.int .i64 e, Value.bool false]))) (hij : decide (i ≠ j) = true) (hp : pureVal Try.prog (execOp a.eval o) = some (.enter 45 #[pt cb 0])) (hn : s.keys.length < 1000000) (he0 : 0 ≤ e) (he : e < 64) :
    OpTo Try.prog o a w (fun u w' => ∃ K' F' s', u = .int .i64 0 ∧ kl K' = mkB 107 (s.num (deriveF (kl K) ⟨#[110, 101, 120, 116]⟩)) ∧ s' = s.made (deriveF (kl K) ⟨#[110, 101, 120, 116]⟩) ∧ Hp F0 w0 w' ro ((rs.set j (rBlk cb 129 ([Value.iface 46 (pt tb 0)] ++ vb (kl K') ++ [Value.int .i64 (e + 1), Value.bool false]))).set i (rTab F' tb s'))) :=
  OpTo.enter 45 [pt cb 0] hp (rnext_any F tb s cb K e w (h.own j _ hj) (h.own i _ hi) (h.ntab i j hi hj hij) hn he0 he) fun e w' hq => by
    obtain ⟨he, K', F', s', h1, h2, h3⟩ := hq
    exact ⟨_, he, K', F', s', rfl, h1, h2, h.upd2 j i hj hi (fun e => of_decide_eq_true hij e.symm) h3⟩
theorem x_rnextf (h : Hp F0 w0 w ro rs) (j : Nat) (hj : rs[j]? = some (rBlk cb 129 ([Value.iface 46 (pt tb 0)] ++ vb (kl K) ++ [Value.int .i64 e, Value.bool false]))) (hp : pureVal Try.prog (execOp a.eval o) = some (.enter 45 #[pt cb 0])) (he : 64 ≤ e) :
    OpTo Try.prog o a w (fun u w' => u = .int .i64 8 ∧ Hp F0 w0 w' ro rs) :=
  x_vpost h 45 [pt cb 0] hp (rnextf_any tb cb K e w (h.own j _ hj) he)
theorem x_rnextc (h : Hp F0 w0 w ro rs) (j : Nat) (k : Bytes) (hk : k.length = 16) (hj : rs[j]? = some (rBlk cb 129 ([Value.iface 46 (pt tb 0)] ++ vb k ++ [Value.int .i64 e, Value.bool true]))) (hp : pureVal Try.prog (execOp a.eval o) = some (.enter 45 #[pt cb 0])) :
    OpTo Try.prog o a w (fun u w' => u = .int .i64 21 ∧ Hp F0 w0 w' ro rs) :=
  x_vpost h 45 [pt cb 0] hp (rnextc_any tb cb k hk e w (h.own j _ hj))
end
end Go.Proofs.Ytjjcnijdjhhdoaa
end
/-! The walk of compeerlaw19.alive: true. -/
section
namespace Go.Proofs.Ytjjcnijdjhhdoaa
open Go.RowKit Go.QT
set_option maxRecDepth 100000 in
set_option maxHeartbeats 1000000 in
theorem ralive_any (w : World) : Calls Try.prog 40 #[] w fun e w' => e = .returned (.bool true) ∧ Below w.heap.size w w' := by
  have h0 := Hp.nil (fun _ => False) w
  refine enter 83 Try.func40 rfl rfl ?_
  refine wp_seq_k ?_
  intro K1 hK1
  refine reg_lit ?_
  refine wl_p 1 [(0, (Value.bool false))] (by kernel_rfl) ?_
  refine wl_end rfl ?_
  refine seq_n hK1 ?_
  refine wp_seq_k ?_
  intro K2 hK2
  refine reg_lit ?_
  refine wl_to (by kernel_rfl) (x_snew h0 (by kernel_rfl)) ?_
  rintro _ w3 ⟨tb3, F3, rfl, h3⟩
  refine wl_p 1 [(1, (pt tb3 0))] (by kernel_rfl) ?_
  refine wl_end rfl ?_
  refine seq_n hK2 ?_
  refine wp_seq_k ?_
  intro K4 hK4
  refine reg_lit ?_
  refine wl_p 1 [(12, (pt tb3 0))] (by kernel_rfl) ?_
  refine wl_to (by kernel_rfl) (x_fresh h3 0 rfl  (by kernel_rfl) (by decide)) ?_
  rintro _ w5 ⟨K5, F5, s5, rfl, hK5, hs5, h5⟩
  have e5 : s5 = (⟨[SFrom.fresh], [], [], []⟩ : STab) := (by rw [hs5]; kernel_rfl)
  have f5 : kl K5 = mkB 107 1 := (by rw [hK5]; kernel_rfl)
  refine wl_to (by kernel_rfl) (x_new h5 42 (vb (List.replicate 16 0)) (fun r => pt r 0) (by kernel_rfl)) ?_
  rintro _ w6 ⟨g6, rfl, h6⟩
  refine wl_to (by kernel_rfl) (x_stores h6 0 rfl 42 (.tmp 2) (.tmp 13) (by kernel_rfl) 0 (vb (kl K5)) (vb (kl K5)) (by kernel_rfl) (by kernel_rfl) (by kernel_rfl) (by kernel_rfl) (by kernel_rfl) (by kernel_rfl)) ?_
  rintro _ w7 h7
  refine wl_end rfl ?_
  refine seq_n hK4 ?_
  refine wp_seq_k ?_
  intro K8 hK8
  refine reg_lit ?_
  refine wl_p 2 [(14, (pt tb3 0)), (15, (Value.iface 46 (pt tb3 0)))] (by kernel_rfl) ?_
  refine wl_v (by kernel_rfl) (Value.agg (vb (kl K5)).toArray) (e_loads (h7.at_ 0 rfl) 42 (.tmp 2) (by kernel_rfl) 0 (vb (kl K5)) (by kernel_rfl) (by kernel_rfl) (by kernel_rfl)) ?_
  refine wl_to (by kernel_rfl) (x_rnew h7 1 rfl K5 (⟨#[97]⟩) (by kernel_rfl) (by rw [e5]; decide)) ?_
  rintro _ w9 ⟨cb9, K9, F9, s9, rfl, hK9, hs9, h9⟩
  have e9 : s9 = (⟨[SFrom.fresh, deriveF (mkB 107 1) ⟨#[97]⟩], [], [], [(deriveF (mkB 107 1) ⟨#[97]⟩, 2)]⟩ : STab) := (by rw [hs9, e5, f5]; kernel_rfl)
  have f9 : kl K9 = mkB 107 2 := (by rw [hK9, e5, f5]; kernel_rfl)
  refine wl_p 1 [(3, (pt cb9 0))] (by kernel_rfl) ?_
  refine wl_end rfl ?_
  refine seq_n hK8 ?_
  refine wp_seq_k ?_
  intro K10 hK10
  refine wp_seq_k ?_
  intro K11 hK11
  refine reg_lit ?_
  refine wl_p 2 [(18, (pt cb9 0)), (19, (Value.bool false))] (by kernel_rfl) ?_
  refine wl_end rfl ?_
  refine seq_n hK11 ?_
  refine wp_cond_false (by kernel_rfl) ?_
  refine wp_skip ?_
  refine seq_n hK10 ?_
  refine wp_seq_k ?_
  intro K12 hK12
  refine reg_lit ?_
  refine wl_p 1 [(21, (pt cb9 0))] (by kernel_rfl) ?_
  refine wl_to (by kernel_rfl) (x_rkey h9 1 0 rfl rfl (by kernel_rfl) (by kernel_rfl) (by rw [e9]; decide)) ?_
  rintro _ w13 ⟨K13, F13, s13, rfl, hK13, hs13, h13⟩
  have e13 : s13 = (⟨[SFrom.fresh, deriveF (mkB 107 1) ⟨#[97]⟩, deriveF (mkB 107 2) ⟨#[117, 115, 101]⟩], [], [], [(deriveF (mkB 107 1) ⟨#[97]⟩, 2), (deriveF (mkB 107 2) ⟨#[117, 115, 101]⟩, 3)]⟩ : STab) := (by rw [hs13, e9, f9]; kernel_rfl)
  have f13 : kl K13 = mkB 107 3 := (by rw [hK13, e9, f9]; kernel_rfl)
  refine wl_p 3 [(20, (Value.tuple #[(Value.agg (vb (kl K13)).toArray), (Value.int .i64 0)])), (23, (Value.agg (vb (kl K13)).toArray)), (24, (Value.int .i64 0))] (by kernel_rfl) ?_
  refine wl_to (by kernel_rfl) (x_new h13 42 (vb (List.replicate 16 0)) (fun r => pt r 0) (by kernel_rfl)) ?_
  rintro _ w14 ⟨g14, rfl, h14⟩
  refine wl_to (by kernel_rfl) (x_stores h14 0 rfl 42 (.tmp 4) (.tmp 23) (by kernel_rfl) 0 (vb (kl K13)) (vb (kl K13)) (by kernel_rfl) (by kernel_rfl) (by kernel_rfl) (by kernel_rfl) (by kernel_rfl) (by kernel_rfl)) ?_
  rintro _ w15 h15
  refine wl_p 1 [(5, (Value.int .i64 0))] (by kernel_rfl) ?_
  refine wl_end rfl ?_
  refine seq_n hK12 ?_
  refine wp_seq_k ?_
  intro K16 hK16
  refine reg_lit ?_
  refine wl_p 1 [(25, (pt cb9 0))] (by kernel_rfl) ?_
  refine wl_to (by kernel_rfl) (x_rnext h15 2 1 rfl rfl (by kernel_rfl) (by kernel_rfl) (by rw [e13]; decide) (by decide) (by decide)) ?_
  rintro _ w17 ⟨K17, F17, s17, rfl, hK17, hs17, h17⟩
  have e17 : s17 = (⟨[SFrom.fresh, deriveF (mkB 107 1) ⟨#[97]⟩, deriveF (mkB 107 2) ⟨#[117, 115, 101]⟩, deriveF (mkB 107 2) ⟨#[110, 101, 120, 116]⟩], [], [], [(deriveF (mkB 107 1) ⟨#[97]⟩, 2), (deriveF (mkB 107 2) ⟨#[117, 115, 101]⟩, 3), (deriveF (mkB 107 2) ⟨#[110, 101, 120, 116]⟩, 4)]⟩ : STab) := (by rw [hs17, e13, f9]; kernel_rfl)
  have f17 : kl K17 = mkB 107 4 := (by rw [hK17, e13, f9]; kernel_rfl)
  refine wl_p 1 [(6, (Value.int .i64 0))] (by kernel_rfl) ?_
  refine wl_end rfl ?_
  refine seq_n hK16 ?_
  refine wp_seq_k ?_
  intro K18 hK18
  refine reg_lit ?_
  refine wl_p 1 [(28, (pt cb9 0))] (by kernel_rfl) ?_
  refine wl_to (by kernel_rfl) (x_rkey h17 2 1 rfl rfl (by kernel_rfl) (by kernel_rfl) (by rw [e17]; decide)) ?_
  rintro _ w19 ⟨K19, F19, s19, rfl, hK19, hs19, h19⟩
  have e19 : s19 = (⟨[SFrom.fresh, deriveF (mkB 107 1) ⟨#[97]⟩, deriveF (mkB 107 2) ⟨#[117, 115, 101]⟩, deriveF (mkB 107 2) ⟨#[110, 101, 120, 116]⟩, deriveF (mkB 107 4) ⟨#[117, 115, 101]⟩], [], [], [(deriveF (mkB 107 1) ⟨#[97]⟩, 2), (deriveF (mkB 107 2) ⟨#[117, 115, 101]⟩, 3), (deriveF (mkB 107 2) ⟨#[110, 101, 120, 116]⟩, 4), (deriveF (mkB 107 4) ⟨#[117, 115, 101]⟩, 5)]⟩ : STab) := (by rw [hs19, e17, f17]; kernel_rfl)
  have f19 : kl K19 = mkB 107 5 := (by rw [hK19, e17, f17]; kernel_rfl)
  refine wl_p 3 [(27, (Value.tuple #[(Value.agg (vb (kl K19)).toArray), (Value.int .i64 0)])), (30, (Value.agg (vb (kl K19)).toArray)), (31, (Value.int .i64 0))] (by kernel_rfl) ?_
  refine wl_to (by kernel_rfl) (x_new h19 42 (vb (List.replicate 16 0)) (fun r => pt r 0) (by kernel_rfl)) ?_
  rintro _ w20 ⟨g20, rfl, h20⟩
  refine wl_to (by kernel_rfl) (x_stores h20 0 rfl 42 (.tmp 7) (.tmp 30) (by kernel_rfl) 0 (vb (kl K19)) (vb (kl K19)) (by kernel_rfl) (by kernel_rfl) (by kernel_rfl) (by kernel_rfl) (by kernel_rfl) (by kernel_rfl)) ?_
  rintro _ w21 h21
  refine wl_p 1 [(8, (Value.int .i64 0))] (by kernel_rfl) ?_
  refine wl_end rfl ?_
  refine seq_n hK18 ?_
  refine wp_seq_k ?_
  intro K22 hK22
  refine reg_lit ?_
  refine wl_p 1 [(32, (pt cb9 0))] (by kernel_rfl) ?_
  refine wl_to (by kernel_rfl) (x_rwipe h21 2 rfl (by kernel_rfl)) ?_
  rintro _ w23 ⟨rfl, h23⟩
  refine wl_end rfl ?_
  refine seq_n hK22 ?_
  refine wp_seq_k ?_
  intro K24 hK24
  refine reg_lit ?_
  refine wl_p 1 [(35, (pt cb9 0))] (by kernel_rfl) ?_
  refine wl_to (by kernel_rfl) (x_rkeyc h23 2 zKey (by kernel_rfl) rfl (by kernel_rfl)) ?_
  rintro _ w25 ⟨rfl, h25⟩
  refine wl_p 3 [(34, (Value.tuple #[(Value.agg (vb zKey).toArray), (Value.int .i64 21)])), (37, (Value.agg (vb zKey).toArray)), (38, (Value.int .i64 21))] (by kernel_rfl) ?_
  refine wl_to (by kernel_rfl) (x_new h25 42 (vb (List.replicate 16 0)) (fun r => pt r 0) (by kernel_rfl)) ?_
  rintro _ w26 ⟨g26, rfl, h26⟩
  refine wl_to (by kernel_rfl) (x_stores h26 0 rfl 42 (.tmp 9) (.tmp 37) (by kernel_rfl) 0 (vb zKey) (vb zKey) (by kernel_rfl) (by kernel_rfl) (by kernel_rfl) (by kernel_rfl) (by kernel_rfl) (by kernel_rfl)) ?_
  rintro _ w27 h27
  refine wl_p 1 [(10, (Value.int .i64 21))] (by kernel_rfl) ?_
  refine wl_end rfl ?_
  refine seq_n hK24 ?_
  refine wp_seq_k ?_
  intro K28 hK28
  refine pH_go h27 44 (fun W => Blk W g14 42 (vb (kl K13)) ∧ Blk W g20 42 (vb (kl K19)) ∧ Blk W g6 42 (vb (kl K5)) ∧ True) (by kernel_rfl) rfl ?_
  intro w29 h29
  refine pH_p 30 [0, 1, 2, 3, 4, 5, 6, 7, 8, 9, 10, 11, 12, 13, 14] [(39, (Value.int .i64 0)), (40, (Value.bool true)), (41, (Value.bool true)), (42, (Value.int .i64 0)), (43, (Value.bool true)), (44, (Value.bool true)), (45, (Value.bool true)), (46, (Value.int .i64 0)), (47, (Value.bool true)), (48, (Value.bool true)), (49, (Value.bool true)), (50, (Value.int .i64 21)), (51, (Value.bool true)), (52, (Value.bool true)), (53, (Value.bool true))] rfl (by kernel_rfl) (by kernel_rfl) (fun _ d _ _ _ h => by cases d <;> exact h) ⟨h29.at_ 2 rfl, h29.at_ 1 rfl, h29.at_ 5 rfl, trivial⟩ (by kernel_rfl) ?_
  refine pH_v 15 (some 54) (Value.agg (vb (kl K13)).toArray) rfl rfl (by kernel_rfl) (by kernel_rfl) (by kernel_rfl) (by kernel_rfl) (by kernel_rfl) (fun _ d _ _ _ h => by cases d <;> exact h) (by kernel_rfl) ⟨h29.at_ 2 rfl, h29.at_ 1 rfl, h29.at_ 5 rfl, trivial⟩ (fun W hW => e_loads hW.1 42 (.tmp 4) (by kernel_rfl) 0 (vb (kl K13)) (by kernel_rfl) (by kernel_rfl) (by kernel_rfl)) ?_
  refine pH_v 16 (some 55) (Value.agg (vb (kl K19)).toArray) rfl rfl (by kernel_rfl) (by kernel_rfl) (by kernel_rfl) (by kernel_rfl) (by kernel_rfl) (fun _ d _ _ _ h => by cases d <;> exact h) (by kernel_rfl) ⟨h29.at_ 2 rfl, h29.at_ 1 rfl, h29.at_ 5 rfl, trivial⟩ (fun W hW => e_loads hW.2.1 42 (.tmp 7) (by kernel_rfl) 0 (vb (kl K19)) (by kernel_rfl) (by kernel_rfl) (by kernel_rfl)) ?_
  refine pH_v 17 (some 56) (Value.bool true) rfl rfl (by kernel_rfl) (by kernel_rfl) (by kernel_rfl) (by kernel_rfl) (by kernel_rfl) (fun _ d _ _ _ h => by cases d <;> exact h) (by kernel_rfl) ⟨h29.at_ 2 rfl, h29.at_ 1 rfl, h29.at_ 5 rfl, trivial⟩ (fun W hW => e_kne K13 K19 42 42 (.tmp 54) (.tmp 55) (by kernel_rfl) (by kernel_rfl) (by kernel_rfl) (by kernel_rfl) (by kernel_rfl) true (by rw [f13, f19]; kernel_rfl) _) ?_
  refine pH_p 23 [18, 19, 21, 22] [(57, (Value.bool true)), (58, (Value.bool true)), (60, (pt tb3 0)), (61, (pt tb3 0))] rfl (by kernel_rfl) (by kernel_rfl) (fun _ d _ _ _ h => by cases d <;> exact h) ⟨h29.at_ 2 rfl, h29.at_ 1 rfl, h29.at_ 5 rfl, trivial⟩ (by kernel_rfl) ?_
  refine pH_v 20 (some 59) (Value.agg (vb (kl K13)).toArray) rfl rfl (by kernel_rfl) (by kernel_rfl) (by kernel_rfl) (by kernel_rfl) (by kernel_rfl) (fun _ d _ _ _ h => by cases d <;> exact h) (by kernel_rfl) ⟨h29.at_ 2 rfl, h29.at_ 1 rfl, h29.at_ 5 rfl, trivial⟩ (fun W hW => e_loads hW.1 42 (.tmp 4) (by kernel_rfl) 0 (vb (kl K13)) (by kernel_rfl) (by kernel_rfl) (by kernel_rfl)) ?_
  refine pH_v 23 (some 62) (Value.agg (vb (kl K5)).toArray) rfl rfl (by kernel_rfl) (by kernel_rfl) (by kernel_rfl) (by kernel_rfl) (by kernel_rfl) (fun _ d _ _ _ h => by cases d <;> exact h) (by kernel_rfl) ⟨h29.at_ 2 rfl, h29.at_ 1 rfl, h29.at_ 5 rfl, trivial⟩ (fun W hW => e_loads hW.2.2.1 42 (.tmp 2) (by kernel_rfl) 0 (vb (kl K5)) (by kernel_rfl) (by kernel_rfl) (by kernel_rfl)) ?_
  refine pH_to 24 (some 63) rfl rfl (by kernel_rfl) (by kernel_rfl) (x_derive h29 4 rfl K5 (⟨#[97]⟩) (by kernel_rfl) (by rw [e19]; decide)) ?_
  rintro _ w30 ⟨K30, F30, s30, rfl, hK30, hs30, h30⟩
  refine ⟨fun _ => ⟨h30.at_ 2 rfl, h30.at_ 1 rfl, h30.at_ 5 rfl, trivial⟩, ?_⟩
  have e30 : s30 = (⟨[SFrom.fresh, deriveF (mkB 107 1) ⟨#[97]⟩, deriveF (mkB 107 2) ⟨#[117, 115, 101]⟩, deriveF (mkB 107 2) ⟨#[110, 101, 120, 116]⟩, deriveF (mkB 107 4) ⟨#[117, 115, 101]⟩], [], [], [(deriveF (mkB 107 1) ⟨#[97]⟩, 2), (deriveF (mkB 107 2) ⟨#[117, 115, 101]⟩, 3), (deriveF (mkB 107 2) ⟨#[110, 101, 120, 116]⟩, 4), (deriveF (mkB 107 4) ⟨#[117, 115, 101]⟩, 5)]⟩ : STab) := (by rw [hs30, e19, f5]; kernel_rfl)
  have f30 : kl K30 = mkB 107 2 := (by rw [hK30, e19, f5]; kernel_rfl)
  refine pH_to 25 (some 64) rfl rfl (by kernel_rfl) (by kernel_rfl) (x_derive h30 4 rfl K30 (⟨#[117, 115, 101]⟩) (by kernel_rfl) (by rw [e30]; decide)) ?_
  rintro _ w31 ⟨K31, F31, s31, rfl, hK31, hs31, h31⟩
  refine ⟨fun _ => ⟨h31.at_ 2 rfl, h31.at_ 1 rfl, h31.at_ 5 rfl, trivial⟩, ?_⟩
  have e31 : s31 = (⟨[SFrom.fresh, deriveF (mkB 107 1) ⟨#[97]⟩, deriveF (mkB 107 2) ⟨#[117, 115, 101]⟩, deriveF (mkB 107 2) ⟨#[110, 101, 120, 116]⟩, deriveF (mkB 107 4) ⟨#[117, 115, 101]⟩], [], [], [(deriveF (mkB 107 1) ⟨#[97]⟩, 2), (deriveF (mkB 107 2) ⟨#[117, 115, 101]⟩, 3), (deriveF (mkB 107 2) ⟨#[110, 101, 120, 116]⟩, 4), (deriveF (mkB 107 4) ⟨#[117, 115, 101]⟩, 5)]⟩ : STab) := (by rw [hs31, e30, f30]; kernel_rfl)
  have f31 : kl K31 = mkB 107 3 := (by rw [hK31, e30, f30]; kernel_rfl)
  refine pH_v 26 (some 65) (Value.bool true) rfl rfl (by kernel_rfl) (by kernel_rfl) (by kernel_rfl) (by kernel_rfl) (by kernel_rfl) (fun _ d _ _ _ h => by cases d <;> exact h) (by kernel_rfl) ⟨h31.at_ 2 rfl, h31.at_ 1 rfl, h31.at_ 5 rfl, trivial⟩ (fun W hW => e_keq K13 K31 42 42 (.tmp 59) (.tmp 64) (by kernel_rfl) (by kernel_rfl) (by kernel_rfl) (by kernel_rfl) (by kernel_rfl) true (by rw [f13, f31]; kernel_rfl) _) ?_
  refine pH_p 15 [27, 28, 29] [(66, (Value.bool true)), (67, (Value.bool true)), (68, (pt cb9 0))] rfl (by kernel_rfl) (by kernel_rfl) (fun _ d _ _ _ h => by cases d <;> exact h) ⟨h31.at_ 2 rfl, h31.at_ 1 rfl, h31.at_ 5 rfl, trivial⟩ (by kernel_rfl) ?_
  refine pH_to 30 (some 69) rfl rfl (by kernel_rfl) (by kernel_rfl) (x_repochB h31 3 zKey (by kernel_rfl) rfl (by kernel_rfl)) ?_
  rintro _ w32 ⟨rfl, h32⟩
  refine ⟨fun _ => ⟨h32.at_ 2 rfl, h32.at_ 1 rfl, h32.at_ 5 rfl, trivial⟩, ?_⟩
  refine pH_p 9 [31, 32, 33, 34, 36] [(70, (Value.bool true)), (71, (Value.bool true)), (72, (Value.bool true)), (73, (pt cb9 0)), (75, (Value.agg (vb (List.replicate 16 0)).toArray))] rfl (by kernel_rfl) (by kernel_rfl) (fun _ d _ _ _ h => by cases d <;> exact h) ⟨h32.at_ 2 rfl, h32.at_ 1 rfl, h32.at_ 5 rfl, trivial⟩ (by kernel_rfl) ?_
  refine pH_to 35 (some 74) rfl rfl (by kernel_rfl) (by kernel_rfl) (x_rslotB h32 3 zKey (by kernel_rfl) rfl (by kernel_rfl)) ?_
  rintro _ w33 ⟨rfl, h33⟩
  refine ⟨fun _ => ⟨h33.at_ 2 rfl, h33.at_ 1 rfl, h33.at_ 5 rfl, trivial⟩, ?_⟩
  refine pH_v 37 (some 76) (Value.bool true) rfl rfl (by kernel_rfl) (by kernel_rfl) (by kernel_rfl) (by kernel_rfl) (by kernel_rfl) (fun _ d _ _ _ h => by cases d <;> exact h) (by kernel_rfl) ⟨h33.at_ 2 rfl, h33.at_ 1 rfl, h33.at_ 5 rfl, trivial⟩ (fun W hW => e_keqB zKey (List.replicate 16 0) (by kernel_rfl) (by kernel_rfl) 42 42 (.tmp 74) (.tmp 75) (by kernel_rfl) (by kernel_rfl) (by kernel_rfl) (by kernel_rfl) (by kernel_rfl) true (by kernel_rfl) _) ?_
  refine pH_p 4 [38, 39, 40] [(77, (Value.bool true)), (78, (Value.bool true)), (79, (pt cb9 0))] rfl (by kernel_rfl) (by kernel_rfl) (fun _ d _ _ _ h => by cases d <;> exact h) ⟨h33.at_ 2 rfl, h33.at_ 1 rfl, h33.at_ 5 rfl, trivial⟩ (by kernel_rfl) ?_
  refine pH_to 41 (some 80) rfl rfl (by kernel_rfl) (by kernel_rfl) (x_rnextc h33 3 zKey (by kernel_rfl) rfl (by kernel_rfl)) ?_
  rintro _ w34 ⟨rfl, h34⟩
  refine ⟨fun _ => ⟨h34.at_ 2 rfl, h34.at_ 1 rfl, h34.at_ 5 rfl, trivial⟩, ?_⟩
  refine pH_p 1 [42, 43] [(81, (Value.bool true)), (82, (Value.bool true))] rfl (by kernel_rfl) (by kernel_rfl) (fun _ d _ _ _ h => by cases d <;> exact h) ⟨h34.at_ 2 rfl, h34.at_ 1 rfl, h34.at_ 5 rfl, trivial⟩ (by kernel_rfl) ?_
  refine pH_to 44 (some 0) rfl rfl (by kernel_rfl) (by kernel_rfl) (OpTo.run (Value.bool true) (pureOp_run (by kernel_rfl) _) (R := fun v w => v = (Value.bool true) ∧ w = w34) ⟨rfl, rfl⟩) ?_
  rintro _ _ ⟨rfl, rfl⟩
  refine ⟨fun h => absurd h (by decide), ?_⟩
  refine pH_done (by kernel_rfl) ?_ _
  refine seq_n hK28 ?_
  refine wp_ret ?_
  refine post_1 rfl (by kernel_rfl) (rtmp (v := (Value.bool true)) (by kernel_rfl)) ?_
  exact ⟨rfl, h34.below0⟩
end Go.Proofs.Ytjjcnijdjhhdoaa
end
/-! The walk of RatchetGoes: true. -/
section
namespace Go.Proofs.Ytjjcnijdjhhdoaa
open Go.RowKit Go.QT
set_option maxRecDepth 100000 in
set_option maxHeartbeats 1000000 in
theorem ratchetGoes_any (l : ByteArray) (t : Int) (w : World) : Calls Try.prog 10 #[Value.string l, Value.int .i64 t] w fun e w' => e = .returned (.bool true) ∧ Below w.heap.size w w' := by
  have h0 := Hp.nil (fun _ => False) w
  refine enter 76 Try.func10 rfl rfl ?_
  refine wp_seq_k ?_
  intro K1 hK1
  refine reg_lit ?_
  refine wl_p 1 [(4, (Value.bool false))] (by kernel_rfl) ?_
  refine wl_end rfl ?_
  refine seq_n hK1 ?_
  refine wp_seq_k ?_
  intro K2 hK2
  refine wp_seq_k ?_
  intro K3 hK3
  refine reg_lit ?_
  refine wl_to (by kernel_rfl) (OpTo.enter 40 [] (by kernel_rfl) (ralive_any _) (R := fun u w' => u = Value.bool true ∧ Below w.heap.size w w') (fun e w' hq => ⟨_, hq.1, rfl, hq.2⟩)) ?_
  rintro _ w4 ⟨rfl, hb4⟩
  have h4 := h0.below hb4
  refine wl_p 1 [(14, (Value.bool false))] (by kernel_rfl) ?_
  refine wl_end rfl ?_
  refine seq_n hK3 ?_
  refine wp_cond_false (by kernel_rfl) ?_
  refine wp_skip ?_
  refine seq_n hK2 ?_
  refine wp_seq_k ?_
  intro K5 hK5
  refine wp_seq_k ?_
  intro K6 hK6
  refine reg_lit ?_
  refine wl_p 3 [(15, (Value.string l)), (16, (Value.int .i64 (((l).size : Int)))), (17, (Value.bool (decide (((l).size : Int) > 60))))] (by kernel_rfl) ?_
  refine wl_end rfl ?_
  refine seq_n hK6 ?_
  refine wp_if (((l).size : Int) > 60) (by kernel_rfl) (fun b7 => ?_) (fun b7 => ?_)
  ·
    refine wp_seq_k ?_
    intro K8 hK8
    refine reg_lit ?_
    refine wl_p 1 [(4, (Value.bool true))] (by kernel_rfl) ?_
    refine wl_end rfl ?_
    refine seq_n hK8 ?_
    refine wp_ret ?_
    refine seq_r ?_
    refine post_1 rfl (by kernel_rfl) (rtmp (v := (Value.bool true)) (by kernel_rfl)) ?_
    exact ⟨rfl, h4.below0⟩
  ·
    refine wp_skip ?_
    refine seq_n hK5 ?_
    refine wp_seq_k ?_
    intro K9 hK9
    refine reg_lit ?_
    refine wl_to (by kernel_rfl) (x_snew h4 (by kernel_rfl)) ?_
    rintro _ w10 ⟨tb10, F10, rfl, h10⟩
    refine wl_p 1 [(5, (pt tb10 0))] (by kernel_rfl) ?_
    refine wl_end rfl ?_
    refine seq_n hK9 ?_
    refine wp_seq_k ?_
    intro K11 hK11
    refine reg_lit ?_
    refine wl_p 1 [(19, (pt tb10 0))] (by kernel_rfl) ?_
    refine wl_to (by kernel_rfl) (x_fresh h10 0 rfl  (by kernel_rfl) (by decide)) ?_
    rintro _ w12 ⟨K12, F12, s12, rfl, hK12, hs12, h12⟩
    have hl12 : s12.keys.length = 1 := by rw [hs12]; rfl
    refine wl_to (by kernel_rfl) (x_new h12 42 (vb (List.replicate 16 0)) (fun r => pt r 0) (by kernel_rfl)) ?_
    rintro _ w13 ⟨g13, rfl, h13⟩
    refine wl_to (by kernel_rfl) (x_stores h13 0 rfl 42 (.tmp 6) (.tmp 20) (by kernel_rfl) 0 (vb (kl K12)) (vb (kl K12)) (by kernel_rfl) (by kernel_rfl) (by kernel_rfl) (by kernel_rfl) (by kernel_rfl) (by kernel_rfl)) ?_
    rintro _ w14 h14
    refine wl_end rfl ?_
    refine seq_n hK11 ?_
    refine wp_seq_k ?_
    intro K15 hK15
    refine reg_lit ?_
    refine wl_p 2 [(21, (pt tb10 0)), (22, (Value.iface 46 (pt tb10 0)))] (by kernel_rfl) ?_
    refine wl_v (by kernel_rfl) (Value.agg (vb (kl K12)).toArray) (e_loads (h14.at_ 0 rfl) 42 (.tmp 6) (by kernel_rfl) 0 (vb (kl K12)) (by kernel_rfl) (by kernel_rfl) (by kernel_rfl)) ?_
    refine wl_p 1 [(24, (Value.string l))] (by kernel_rfl) ?_
    refine wl_to (by kernel_rfl) (x_rnew h14 1 rfl K12 l (by kernel_rfl) (by omega)) ?_
    rintro _ w16 ⟨cb16, K16, F16, s16, rfl, hK16, hs16, h16⟩
    have hl16 := keys_made hs16
    refine wl_p 1 [(7, (pt cb16 0))] (by kernel_rfl) ?_
    refine wl_end rfl ?_
    refine seq_n hK15 ?_
    refine wp_seq_k ?_
    intro K17 hK17
    refine reg_lit ?_
    refine wl_p 1 [(26, (pt tb10 0))] (by kernel_rfl) ?_
    refine wl_v (by kernel_rfl) (Value.agg (vb (kl K12)).toArray) (e_loads (h16.at_ 2 rfl) 42 (.tmp 6) (by kernel_rfl) 0 (vb (kl K12)) (by kernel_rfl) (by kernel_rfl) (by kernel_rfl)) ?_
    refine wl_p 1 [(28, (Value.string l))] (by kernel_rfl) ?_
    refine wl_to (by kernel_rfl) (x_derive h16 1 rfl K12 l (by kernel_rfl) (by omega)) ?_
    rintro _ w18 ⟨K18, F18, s18, rfl, hK18, hs18, h18⟩
    have hl18 := keys_made hs18
    refine wl_to (by kernel_rfl) (x_new h18 42 (vb (List.replicate 16 0)) (fun r => pt r 0) (by kernel_rfl)) ?_
    rintro _ w19 ⟨g19, rfl, h19⟩
    refine wl_to (by kernel_rfl) (x_stores h19 0 rfl 42 (.tmp 8) (.tmp 29) (by kernel_rfl) 0 (vb (kl K18)) (vb (kl K18)) (by kernel_rfl) (by kernel_rfl) (by kernel_rfl) (by kernel_rfl) (by kernel_rfl) (by kernel_rfl)) ?_
    rintro _ w20 h20
    refine wl_end rfl ?_
    refine seq_n hK17 ?_
    refine wp_seq_k ?_
    intro K21 hK21
    refine wp_seq_k ?_
    intro K22 hK22
    refine reg_lit ?_
    refine wl_p 1 [(30, (Value.int .i64 t))] (by kernel_rfl) ?_
    obtain ⟨M23, hM23, hb23⟩ := and_mask t 127 (by decide)
    refine wl_v (by kernel_rfl) (Value.int .i64 ((M23 : Int))) (e_is (v := Value.int .i64 (bits .and .i64 t 127)) (by kernel_rfl) (congrArg (Value.int .i64) hM23)) ?_
    refine wl_p 1 [(32, (Value.int .i64 0))] (by kernel_rfl) ?_
    refine wl_end rfl ?_
    refine seq_n hK22 ?_
    refine wp_block ?_
    refine wp_loopm (fun m x a wL => ∃ (n : Nat) (K : Fin 16 → UInt8) (L : Fin 16 → UInt8) (e : Int) (s : STab) (F : Nat → Prop), (kl L = kl K) ∧ ((n < 64 ∧ e = (n : Int)) ∨ (64 ≤ n ∧ e = 64)) ∧ (s.keys.length ≤ 3 + 4 * (n)) ∧ ((n : Int) ≤ (M23 : Int)) ∧ m = 128 - (n) ∧ a = (⟨#[(Value.string l), (Value.int .i64 t), undef, undef, (x 4), (pt tb10 0), (pt g13 0), (pt cb16 0), (pt g19 0), (x 9), (x 10), (x 11), (x 12), (Value.bool true), (Value.bool false), (Value.string l), (Value.int .i64 (((l).size : Int))), (Value.bool (decide (((l).size : Int) > 60))), (pt tb10 0), (pt tb10 0), (Value.agg (vb (kl K12)).toArray), (pt tb10 0), (Value.iface 46 (pt tb10 0)), (Value.agg (vb (kl K12)).toArray), (Value.string l), (pt cb16 0), (pt tb10 0), (Value.agg (vb (kl K12)).toArray), (Value.string l), (Value.agg (vb (kl K18)).toArray), (Value.int .i64 t), (Value.int .i64 ((M23 : Int))), (Value.int .i64 ((n : Int))), (x 33), (x 34), (x 35), (x 36), (x 37), (x 38), (x 39), (x 40), (x 41), (x 42), (x 43), (x 44), (x 45), (x 46), (x 47), (x 48), (x 49), (x 50), (x 51), (x 52), (x 53), (x 54), (x 55), (x 56), (x 57), (x 58), (x 59), (x 60), (x 61), (x 62), (x 63), (x 64), (x 65), (x 66), (x 67), (x 68), (x 69), (x 70), (x 71), (x 72), (x 73), undef, undef, undef, undef], []⟩ : Act) ∧ Hp (fun _ => False) w wL [] [rBlk cb16 129 ([(Value.iface 46 (pt tb10 0))] ++ vb (kl K) ++ [(Value.int .i64 e), (Value.bool false)]), rBlk g19 42 (vb (kl L)), rTab F tb10 s]) ⟨_, 0, K16, K18, 0, s18, F18, (by rw [hK18, hK16, num_again' hs16]), (by omega), (by omega), (by omega), rfl, (by kernel_rfl), h20.sel [1, 0, 2] [] (by kernel_rfl) rfl rfl⟩ ?_
    rintro _ x24 _ w24 ⟨n, K, L, e, s, F, hKL, he, hsk, hnM, rfl, rfl, h24⟩
    refine wp_seq_k ?_
    intro K25 hK25
    refine reg_lit ?_
    refine wl_p 1 [(33, (Value.bool (decide ((n : Int) < (M23 : Int)))))] (by kernel_rfl) ?_
    refine wl_end rfl ?_
    refine seq_n hK25 ?_
    refine wp_seq_k ?_
    intro K26 hK26
    refine wp_if ((n : Int) < (M23 : Int)) (by kernel_rfl) (fun b27 => ?_) (fun b27 => ?_)
    ·
      refine wp_skip ?_
      refine seq_n hK26 ?_
      refine wp_seq_k ?_
      intro K28 hK28
      refine wp_block ?_
      refine wp_seq_k ?_
      intro K29 hK29
      refine reg_lit ?_
      refine wl_p 2 [(34, (Value.int .i64 ((n : Int)))), (9, (Value.int .i64 ((n : Int))))] (by kernel_rfl) ?_
      refine wl_end rfl ?_
      refine seq_n hK29 ?_
      refine wp_seq_k ?_
      intro K30 hK30
      refine reg_lit ?_
      refine wl_p 1 [(36, (pt cb16 0))] (by kernel_rfl) ?_
      refine wl_to (by kernel_rfl) (x_rkey h24 2 0 rfl rfl (by kernel_rfl) (by kernel_rfl) (by omega)) ?_
      rintro _ w31 ⟨K31, F31, s31, rfl, hK31, hs31, h31⟩
      have hl31 := keys_made hs31
      refine wl_p 3 [(35, (Value.tuple #[(Value.agg (vb (kl K31)).toArray), (Value.int .i64 0)])), (38, (Value.agg (vb (kl K31)).toArray)), (39, (Value.int .i64 0))] (by kernel_rfl) ?_
      refine wl_to (by kernel_rfl) (x_new h31 42 (vb (List.replicate 16 0)) (fun r => pt r 0) (by kernel_rfl)) ?_
      rintro _ w32 ⟨g32, rfl, h32⟩
      refine wl_to (by kernel_rfl) (x_stores h32 0 rfl 42 (.tmp 10) (.tmp 38) (by kernel_rfl) 0 (vb (kl K31)) (vb (kl K31)) (by kernel_rfl) (by kernel_rfl) (by kernel_rfl) (by kernel_rfl) (by kernel_rfl) (by kernel_rfl)) ?_
      rintro _ w33 h33
      refine wl_p 1 [(11, (Value.int .i64 0))] (by kernel_rfl) ?_
      refine wl_end rfl ?_
      refine seq_n hK30 ?_
      refine wp_seq_k ?_
      intro K34 hK34
      refine wp_seq_k ?_
      intro K35 hK35
      refine pH_go h33 22 (fun W => Blk W g32 42 (vb (kl K31)) ∧ Blk W g19 42 (vb (kl L)) ∧ True) (by kernel_rfl) rfl ?_
      intro w36 h36
      refine pH_p 18 [0, 1, 2, 4] [(40, (Value.int .i64 0)), (41, (Value.bool false)), (42, (Value.bool false)), (44, (pt tb10 0))] rfl (by kernel_rfl) (by kernel_rfl) (fun _ d _ _ _ h => by cases d <;> exact h) ⟨h36.at_ 0 rfl, h36.at_ 2 rfl, trivial⟩ (by kernel_rfl) ?_
      refine pH_v 3 (some 43) (Value.agg (vb (kl K31)).toArray) rfl rfl (by kernel_rfl) (by kernel_rfl) (by kernel_rfl) (by kernel_rfl) (by kernel_rfl) (fun _ d _ _ _ h => by cases d <;> exact h) (by kernel_rfl) ⟨h36.at_ 0 rfl, h36.at_ 2 rfl, trivial⟩ (fun W hW => e_loads hW.1 42 (.tmp 10) (by kernel_rfl) 0 (vb (kl K31)) (by kernel_rfl) (by kernel_rfl) (by kernel_rfl)) ?_
      refine pH_v 5 (some 45) (Value.agg (vb (kl L)).toArray) rfl rfl (by kernel_rfl) (by kernel_rfl) (by kernel_rfl) (by kernel_rfl) (by kernel_rfl) (fun _ d _ _ _ h => by cases d <;> exact h) (by kernel_rfl) ⟨h36.at_ 0 rfl, h36.at_ 2 rfl, trivial⟩ (fun W hW => e_loads hW.2.1 42 (.tmp 8) (by kernel_rfl) 0 (vb (kl L)) (by kernel_rfl) (by kernel_rfl) (by kernel_rfl)) ?_
      refine pH_to 6 (some 46) rfl rfl (by kernel_rfl) (by kernel_rfl) (x_derive h36 3 rfl L (⟨#[117, 115, 101]⟩) (by kernel_rfl) (by omega)) ?_
      rintro _ w37 ⟨K37, F37, s37, rfl, hK37, hs37, h37⟩
      refine ⟨fun _ => ⟨h37.at_ 0 rfl, h37.at_ 2 rfl, trivial⟩, ?_⟩
      have hl37 := keys_made hs37
      refine pH_v 7 (some 47) (Value.bool false) rfl rfl (by kernel_rfl) (by kernel_rfl) (by kernel_rfl) (by kernel_rfl) (by kernel_rfl) (fun _ d _ _ _ h => by cases d <;> exact h) (by kernel_rfl) ⟨h37.at_ 0 rfl, h37.at_ 2 rfl, trivial⟩ (fun W hW => e_kne K31 K37 42 42 (.tmp 43) (.tmp 46) (by kernel_rfl) (by kernel_rfl) (by kernel_rfl) (by kernel_rfl) (by kernel_rfl) false (by rw [hK31, hK37, hKL, num_again' hs31]; simp) _) ?_
      refine pH_p 11 [8, 9, 10] [(48, (Value.bool false)), (49, (Value.bool false)), (50, (pt cb16 0))] rfl (by kernel_rfl) (by kernel_rfl) (fun _ d _ _ _ h => by cases d <;> exact h) ⟨h37.at_ 0 rfl, h37.at_ 2 rfl, trivial⟩ (by kernel_rfl) ?_
      refine pH_v 12 (some 52) (Value.agg (vb (kl L)).toArray) rfl rfl (by kernel_rfl) (by kernel_rfl) (by kernel_rfl) (by kernel_rfl) (by kernel_rfl) (fun _ d _ _ _ h => by cases d <;> exact h) (by kernel_rfl) ⟨h37.at_ 0 rfl, h37.at_ 2 rfl, trivial⟩ (fun W hW => e_loads hW.2.1 42 (.tmp 8) (by kernel_rfl) 0 (vb (kl L)) (by kernel_rfl) (by kernel_rfl) (by kernel_rfl)) ?_
      refine pH_to 11 (some 51) rfl rfl (by kernel_rfl) (by kernel_rfl) (x_rslot h37 1 rfl (by kernel_rfl)) ?_
      rintro _ w38 ⟨rfl, h38⟩
      refine ⟨fun _ => ⟨h38.at_ 0 rfl, h38.at_ 2 rfl, trivial⟩, ?_⟩
      refine pH_v 13 (some 53) (Value.bool false) rfl rfl (by kernel_rfl) (by kernel_rfl) (by kernel_rfl) (by kernel_rfl) (by kernel_rfl) (fun _ d _ _ _ h => by cases d <;> exact h) (by kernel_rfl) ⟨h38.at_ 0 rfl, h38.at_ 2 rfl, trivial⟩ (fun W hW => e_kne K L 42 42 (.tmp 51) (.tmp 52) (by kernel_rfl) (by kernel_rfl) (by kernel_rfl) (by kernel_rfl) (by kernel_rfl) false (by simp [hKL]) _) ?_
      refine pH_p 4 [14, 15, 16, 18] [(54, (Value.bool false)), (55, (Value.bool false)), (56, (pt cb16 0)), (58, (Value.int .i64 ((n : Int))))] rfl (by kernel_rfl) (by kernel_rfl) (fun _ d _ _ _ h => by cases d <;> exact h) ⟨h38.at_ 0 rfl, h38.at_ 2 rfl, trivial⟩ (by kernel_rfl) ?_
      refine pH_v 19 (some 59) (Value.int .i64 e) rfl rfl (by kernel_rfl) (by kernel_rfl) (by kernel_rfl) (by kernel_rfl) (by kernel_rfl) (fun _ d _ _ _ h => by cases d <;> exact h) (by kernel_rfl) ⟨h38.at_ 0 rfl, h38.at_ 2 rfl, trivial⟩ (fun W hW => e_min (.tmp 58) (.const (.int .i64 64)) #[3, 3] (by kernel_rfl) .i64 .i64 (n : Int) 64 (by kernel_rfl) (by kernel_rfl) e (by split <;> omega) _) ?_
      refine pH_to 17 (some 57) rfl rfl (by kernel_rfl) (by kernel_rfl) (x_repoch h38 1 rfl (by kernel_rfl)) ?_
      rintro _ w39 ⟨rfl, h39⟩
      refine ⟨fun _ => ⟨h39.at_ 0 rfl, h39.at_ 2 rfl, trivial⟩, ?_⟩
      refine pH_v 20 (some 60) (Value.bool false) rfl rfl (by kernel_rfl) (by kernel_rfl) (by kernel_rfl) (by kernel_rfl) (by kernel_rfl) (fun _ d _ _ _ h => by cases d <;> exact h) (by kernel_rfl) ⟨h39.at_ 0 rfl, h39.at_ 2 rfl, trivial⟩ (fun W hW => e_is (v := (Value.bool (e != e))) (by kernel_rfl) (by simp)) ?_
      refine pH_p 0 [21] [(61, (Value.bool false))] rfl (by kernel_rfl) (by kernel_rfl) (fun _ d _ _ _ h => by cases d <;> exact h) ⟨h39.at_ 0 rfl, h39.at_ 2 rfl, trivial⟩ (by kernel_rfl) ?_
      refine pH_done (by kernel_rfl) ?_ _
      refine seq_n hK35 ?_
      refine wp_cond_false (by kernel_rfl) ?_
      refine wp_skip ?_
      refine seq_n hK34 ?_
      refine wp_seq_k ?_
      intro K40 hK40
      by_cases b41 : n < 64
      ·
        refine reg_lit ?_
        refine wl_p 1 [(62, (pt cb16 0))] (by kernel_rfl) ?_
        refine wl_to (by kernel_rfl) (x_rnext h39 3 1 rfl rfl (by kernel_rfl) (by kernel_rfl) (by omega) (by omega) (by omega)) ?_
        rintro _ w42 ⟨K42, F42, s42, rfl, hK42, hs42, h42⟩
        have hl42 := keys_made hs42
        refine wl_p 1 [(12, (Value.int .i64 0))] (by kernel_rfl) ?_
        refine wl_end rfl ?_
        refine seq_n hK40 ?_
        refine wp_seq_k ?_
        intro K43 hK43
        refine wp_seq_k ?_
        intro K44 hK44
        refine reg_lit ?_
        refine wl_p 1 [(64, (Value.int .i64 ((n : Int))))] (by kernel_rfl) ?_
        refine wl_v (by kernel_rfl) (.bool false) (e_is (v := (Value.bool (decide ((n : Int) ≥ 64)))) (by kernel_rfl) (by simp; omega)) ?_
        refine wl_end rfl ?_
        refine seq_n hK44 ?_
        refine wp_cond_false (by kernel_rfl) ?_
        refine wp_skip ?_
        refine seq_n hK43 ?_
        refine wp_seq_k ?_
        intro K45 hK45
        refine reg_lit ?_
        refine wl_p 1 [(68, (pt tb10 0))] (by kernel_rfl) ?_
        refine wl_v (by kernel_rfl) (Value.agg (vb (kl L)).toArray) (e_loads (h42.at_ 2 rfl) 42 (.tmp 8) (by kernel_rfl) 0 (vb (kl L)) (by kernel_rfl) (by kernel_rfl) (by kernel_rfl)) ?_
        refine wl_to (by kernel_rfl) (x_derive h42 3 rfl L (⟨#[110, 101, 120, 116]⟩) (by kernel_rfl) (by omega)) ?_
        rintro _ w46 ⟨K46, F46, s46, rfl, hK46, hs46, h46⟩
        have hl46 := keys_made hs46
        refine wl_to (by kernel_rfl) (x_stores h46 2 rfl 42 (.tmp 8) (.tmp 70) (by kernel_rfl) 0 (vb (kl K46)) (vb (kl K46)) (by kernel_rfl) (by kernel_rfl) (by kernel_rfl) (by kernel_rfl) (by kernel_rfl) (by kernel_rfl)) ?_
        rintro _ w47 h47
        refine wl_end rfl ?_
        refine seq_n hK45 ?_
        refine wp_seq_k ?_
        intro K48 hK48
        refine reg_lit ?_
        refine wl_p 2 [(71, (Value.int .i64 0)), (72, (Value.bool false))] (by kernel_rfl) ?_
        refine wl_end rfl ?_
        refine seq_n hK48 ?_
        refine wp_cond_false (by kernel_rfl) ?_
        refine wp_skip ?_
        refine blk_n ?_
        refine seq_n hK28 ?_
        refine reg_lit ?_
        refine wl_v (by kernel_rfl) (.int .i64 ((n : Int) + 1)) (exec_add _ _ _ _ rfl ((n : Int)) 1 (by kernel_rfl) (by kernel_rfl) ((n : Int) + 1) rfl (by omega) (by omega) _) ?_
        refine wl_p 1 [(32, (Value.int .i64 ((n : Int) + 1)))] (by kernel_rfl) ?_
        refine wl_end rfl ?_
        refine ⟨128 - (n + 1), (by omega), (n + 1), K42, K46, (e + 1), s46, F46, (by rw [hK46, hK42, hKL, num_again' hs42]), (by omega), (by omega), (by omega), rfl, (by kernel_rfl), h47.sel [1, 2, 3] [] (by kernel_rfl) rfl rfl⟩
      ·
        refine reg_lit ?_
        refine wl_p 1 [(62, (pt cb16 0))] (by kernel_rfl) ?_
        refine wl_to (by kernel_rfl) (x_rnextf h39 1 rfl (by kernel_rfl) (by omega)) ?_
        rintro _ w49 ⟨rfl, h49⟩
        refine wl_p 1 [(12, (Value.int .i64 8))] (by kernel_rfl) ?_
        refine wl_end rfl ?_
        refine seq_n hK40 ?_
        refine wp_seq_k ?_
        intro K50 hK50
        refine wp_seq_k ?_
        intro K51 hK51
        refine reg_lit ?_
        refine wl_p 1 [(64, (Value.int .i64 ((n : Int))))] (by kernel_rfl) ?_
        refine wl_v (by kernel_rfl) (.bool true) (e_is (v := (Value.bool (decide ((n : Int) ≥ 64)))) (by kernel_rfl) (by simp; omega)) ?_
        refine wl_end rfl ?_
        refine seq_n hK51 ?_
        refine wp_cond_true (by kernel_rfl) ?_
        refine wp_seq_k ?_
        intro K52 hK52
        refine wp_seq_k ?_
        intro K53 hK53
        refine reg_lit ?_
        refine wl_p 2 [(66, (Value.int .i64 8)), (67, (Value.bool false))] (by kernel_rfl) ?_
        refine wl_end rfl ?_
        refine seq_n hK53 ?_
        refine wp_cond_false (by kernel_rfl) ?_
        refine wp_skip ?_
        refine seq_n hK52 ?_
        refine wp_exit ?_
        refine seq_e ?_
        refine blk_e ?_
        refine seq_n hK28 ?_
        refine reg_lit ?_
        refine wl_v (by kernel_rfl) (.int .i64 ((n : Int) + 1)) (exec_add _ _ _ _ rfl ((n : Int)) 1 (by kernel_rfl) (by kernel_rfl) ((n : Int) + 1) rfl (by omega) (by omega) _) ?_
        refine wl_p 1 [(32, (Value.int .i64 ((n : Int) + 1)))] (by kernel_rfl) ?_
        refine wl_end rfl ?_
        refine ⟨128 - (n + 1), (by omega), (n + 1), K, L, e, s37, F37, hKL, (by omega), (by omega), (by omega), rfl, (by kernel_rfl), h49.sel [1, 2, 3] [] (by kernel_rfl) rfl rfl⟩
    ·
      refine wp_exit ?_
      refine seq_e ?_
      refine seq_e ?_
      refine blk_e ?_
      refine seq_n hK21 ?_
      refine wp_seq_k ?_
      intro K54 hK54
      refine pH_go h24 4 (fun W => Blk W g19 42 (vb (kl L)) ∧ True) (by kernel_rfl) rfl ?_
      intro w55 h55
      refine pH_p 4 [0] [(74, (pt cb16 0))] rfl (by kernel_rfl) (by kernel_rfl) (fun _ d _ _ _ h => by cases d <;> exact h) ⟨h55.at_ 1 rfl, trivial⟩ (by kernel_rfl) ?_
      refine pH_v 2 (some 76) (Value.agg (vb (kl L)).toArray) rfl rfl (by kernel_rfl) (by kernel_rfl) (by kernel_rfl) (by kernel_rfl) (by kernel_rfl) (fun _ d _ _ _ h => by cases d <;> exact h) (by kernel_rfl) ⟨h55.at_ 1 rfl, trivial⟩ (fun W hW => e_loads hW.1 42 (.tmp 8) (by kernel_rfl) 0 (vb (kl L)) (by kernel_rfl) (by kernel_rfl) (by kernel_rfl)) ?_
      refine pH_to 1 (some 75) rfl rfl (by kernel_rfl) (by kernel_rfl) (x_rslot h55 0 rfl (by kernel_rfl)) ?_
      rintro _ w56 ⟨rfl, h56⟩
      refine ⟨fun _ => ⟨h56.at_ 1 rfl, trivial⟩, ?_⟩
      refine pH_v 3 (some 77) (Value.bool true) rfl rfl (by kernel_rfl) (by kernel_rfl) (by kernel_rfl) (by kernel_rfl) (by kernel_rfl) (fun _ d _ _ _ h => by cases d <;> exact h) (by kernel_rfl) ⟨h56.at_ 1 rfl, trivial⟩ (fun W hW => e_keq K L 42 42 (.tmp 75) (.tmp 76) (by kernel_rfl) (by kernel_rfl) (by kernel_rfl) (by kernel_rfl) (by kernel_rfl) true (by simp [hKL]) _) ?_
      refine pH_to 4 (some 4) rfl rfl (by kernel_rfl) (by kernel_rfl) (OpTo.run (Value.bool true) (pureOp_run (by kernel_rfl) _) (R := fun v w => v = (Value.bool true) ∧ w = w56) ⟨rfl, rfl⟩) ?_
      rintro _ _ ⟨rfl, rfl⟩
      refine ⟨fun h => absurd h (by decide), ?_⟩
      refine pH_done (by kernel_rfl) ?_ _
      refine seq_n hK54 ?_
      refine wp_ret ?_
      refine post_1 rfl (by kernel_rfl) (rtmp (v := (Value.bool true)) (by kernel_rfl)) ?_
      exact ⟨rfl, h56.below0⟩
end Go.Proofs.Ytjjcnijdjhhdoaa
end
/-! The row of RatchetGoes: for every input the law returns true and what came in reads as it did. -/
section
namespace Go.Proofs.Ytjjcnijdjhhdoaa
open Go.ChangeShapes Go.WideShapes Go.ChangeAt Go.RowKit
set_option maxRecDepth 100000 in
theorem ratchetGoes_lifted (os : Os) (started : os.Started) (H : Type) (enc : TypeId × Value → H) :
    ReturnsInHanded {} Try.checked os 10 .any (Rows.ratchetGoesSpec.pre6 enc Try.prog Try.f10 Rows.ratchetGoesRow.domain false) (Rows.ratchetGoesSpec.post enc Try.prog Try.f10 false true false false) := by
  refine returnsInHanded_of_change (C := Try.checked) Try.own started (by kernel_rfl) Try.func10
    (ChangeSpec.witness6 (enc := enc) (C := Try.checked) false ⟨#[], #[.string ⟨#[]⟩, .int .i64 0], []⟩ 8 (by kernel_rfl) (by kernel_rfl) (by kernel_rfl) (by kernel_rfl)) ?_
  intro W base args ds gs before hval0 hW hcnd _
  have hval : ∀ (j : Nat) t v, Try.f10.params[j]? = some t → args[j]? = some v → Value.okWide Try.prog W .any base t v := hval0
  have hpost : ∀ W', Below W.heap.size W W' → Rows.ratchetGoesSpec.post enc Try.prog Try.f10 false true false false W args (.bool true) W' := fun W' hb =>
    law_post Try.laidOut (by kernel_rfl) Try.underlying4 rfl rfl (fun ds hds => by
      have hn : ds.length = 2 := hds
      match ds, hn with
      | [_, _], _ => rfl) hW hb
  obtain ⟨p, q, hA0, hV, rfl, hfz, hnd⟩ := hW
  have hA : DataW.TrodAll enc Try.prog W 0 (fun _ => true) true Try.f10.params.toList args.toList ds p := hA0
  rw [Try.params10] at hA hval
  clear hA0 hval0
  obtain ⟨v0, v1, d0, d1, p0, p1, rfl, rfl, rfl, h0, h1⟩ := trodAll_two hA
  obtain ⟨l0, rfl, rfl, rfl, hz0⟩ := Go.ChangeMaps.open_string (t := 9) (by kernel_rfl) (hval 0 9 v0 rfl rfl) h0
  obtain ⟨n1, rfl, rfl, rfl, hn1⟩ := open_int (t := 3) (k := .i64) (by kernel_rfl) (hval 1 3 v1 rfl rfl) h1
  refine (ratchetGoes_any l0 n1 W).mono fun e W' ⟨he, hw⟩ => ?_
  subst he
  exact ⟨_, rfl, hpost W' hw⟩
theorem ratchetGoes_holds : Rows.RatchetGoesSaid :=
  OpenClaim.holds_of_wide 10 Try.f10 rfl rfl rfl rfl rfl rfl rfl ⟨rfl, rfl, rfl, rfl, rfl⟩ rfl rfl rfl rfl rfl (by kernel_rfl) Try.func10 (by kernel_rfl)
    (of_decide_eq_true (by kernel_rfl)) (by unfold Func.isWrapper; first | (rw [if_pos (by decide +kernel)]; kernel_rfl) | (rw [if_neg (by decide +kernel)]; exact ⟨rfl, rfl⟩))
    (fun os started H enc _ => ratchetGoes_lifted os started H enc)
end Go.Proofs.Ytjjcnijdjhhdoaa
end
