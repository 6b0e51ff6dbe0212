/- The card of SealOpens: for every input the law returns true and what came in reads as it did; the package variables that its row lists are tied to the program's text. (Texts laid one behind the other: SealOpens.) -/
import Derived.Test.YtpkelokaammmjaaDoorTie
import Derived.Test.YtpkelokaammmjaaDoorCards
import Derived.ChangeMaps5
import Derived.ProofKit
import Derived.OpenShut
import Derived.LaidMore
import Derived.Lay
import Derived.SevenTiedAt
import Derived.Stop.Joined
import Derived.Test.YtpkelokaammmjaaDoorCA12
/-! The card of SealOpens: for every input the law returns true and what came in reads as it did; the package variables that its row lists are tied to the program's text. -/
section
namespace Go.Proofs.YtpkelokaammmjaaDoor
open Go.ChangeShapes Go.WideShapes Go.ChangeAt Go.RowKit
set_option maxRecDepth 100000 in
theorem sealOpens_lifted (os : Os) (started : os.Started) (H : Type) (enc : TypeId × Value → H) :
    ReturnsInHanded {} Tryd.checked os 4 .any (fun w args => (Rows.sealOpensSpec.pre enc Tryd.prog Tryd.f4 Rows.sealOpensRow.domain false w args ∧ laidMetH Tryd.prog Rows.sealOpensRow.laid w) ∧ sizedMet enc Tryd.prog Tryd.f4 (OpenSpec.ofChange Rows.sealOpensSpec) false w args)
      (Rows.sealOpensSpec.post enc Tryd.prog Tryd.f4 false true false false) := by
  refine returnsInHanded_of_change_and (C := Tryd.checked) (X := fun w _ => laidMetH Tryd.prog Rows.sealOpensRow.laid w) (fun _ _ _ hh h => h.of_heap hh) Tryd.own started (by kernel_rfl) Tryd.func4
    (ChangeSpec.witness_shaped (enc := enc) (C := Tryd.checked) (os := os) (X := fun w _ => laidMetH Tryd.prog Rows.sealOpensRow.laid w) false (World.laidAll Tryd.prog os Rows.sealOpensRow.laid) #[.agg (vb (List.replicate 16 0)).toArray, .int .i64 0, .slice none 0 0] 8 (World.laidAll_os _ _ _)
      (World.shaped_of_ZipB (by kernel_rfl) (by kernel_rfl)) (by kernel_rfl) (by kernel_rfl) (by kernel_rfl)
      (by rw [MakeChecks.laidMetH_plain _ _ _ (by kernel_rfl)]; exact laidMet_laidAll _ (by kernel_rfl) (by kernel_rfl))) ?_
  intro W base args ds gs before hval0 hW hcnd _ hL _
  have hval : ∀ (j : Nat) t v, Tryd.f4.params[j]? = some t → args[j]? = some v → Value.okWide Tryd.prog W .any base t v := hval0
  have hpost : ∀ W', Below W.heap.size W W' → Rows.sealOpensSpec.post enc Tryd.prog Tryd.f4 false true false false W args (.bool true) W' := fun W' hb =>
    law_post Tryd.laidOut (by kernel_rfl) Tryd.underlying4 rfl rfl (fun ds hds => by
      have hn : ds.length = 3 := hds
      match ds, hn with
      | [_, _, _], _ => rfl) hW hb
  obtain ⟨p, q, hA0, hV, rfl, hfz, hnd⟩ := hW
  have hA : DataW.TrodAll enc Tryd.prog W 0 (fun _ => true) true Tryd.f4.params.toList args.toList ds p := hA0
  rw [Tryd.params4] at hA hval
  clear hA0 hval0
  obtain ⟨v0, v1, v2, d0, d1, d2, p0, p1, p2, rfl, rfl, rfl, h0, h1, h2⟩ := trodAll_three hA
  obtain ⟨k0, hk0, rfl, rfl, rfl⟩ := open_b16 (hval 0 23 v0 rfl rfl) h0
  obtain ⟨K0, rfl⟩ := kl_of k0 hk0
  obtain ⟨n1, rfl, rfl, rfl, hn1⟩ := open_int (t := 3) (k := .i64) (by kernel_rfl) (hval 1 3 v1 rfl rfl) h1
  obtain ⟨b2, hb2⟩ := open_bs (hval 2 22 v2 rfl rfl) h2
  refine (sealOpens_any (fun q => q = 0) K0 n1 v2 b2 W hb2 (rIt_tab (tab_row hL) n1 (wf_lo hn1).1 (wf_lo hn1).2) (wf_lo hn1).1 (wf_lo hn1).2).mono fun e W' ⟨he, hw⟩ => ?_
  subst he
  exact ⟨_, rfl, hpost W' hw⟩
theorem sealOpens_row : Rows.SealOpensSaid :=
  OpenClaim.holds_of_wide 4 Tryd.f4 rfl rfl rfl rfl rfl rfl rfl ⟨rfl, rfl, rfl, rfl, rfl⟩ rfl rfl rfl rfl rfl (by kernel_rfl) Tryd.func4 (by kernel_rfl)
    (of_decide_eq_true (by kernel_rfl)) (by unfold Func.isWrapper; first | (rw [if_pos (by decide +kernel)]; kernel_rfl) | (rw [if_neg (by decide +kernel)]; exact ⟨rfl, rfl⟩))
    (fun os started H enc _ => sealOpens_lifted os started H enc)
theorem sealOpens_holds : Rows.SealOpensCardSaid :=
  Claim7.holds_tied_plain_at .later [] [.data, .data, .data] true (true, "e7b9034f2301074b325c8164a6a50a9a815a2a934f62b7730be328fd992ece11") false sealOpens_row (fun _ h => by cases h) (by kernel_rfl) (fun _ h => by cases h) sealOpens_row_tie rfl ⟨rfl, rfl⟩ (by kernel_rfl) rfl
    (fun f fn hf hfn => by
      obtain rfl : f = 4 := Option.some.inj ((show Tryd.prog.funcNamed "compeer/compeerlaw06.SealOpens" = some 4 by kernel_rfl).symm.trans hf) |>.symm
      obtain rfl : fn = Tryd.f4 := (Option.some.inj (Tryd.func4.symm.trans hfn)).symm
      exact ⟨by kernel_rfl, fun j t ht => by
        rw [Tryd.params4] at ht
        have hm : t ∈ [23, 3, 22] := by simpa using Array.mem_of_getElem? ht
        have hall : ([23, 3, 22].all fun u => !Tryd.prog.wantsStandIn u) = true := by kernel_rfl
        exact (show Tryd.prog.wantsStandIn t = false by simpa using List.all_eq_true.1 hall t hm)⟩)
    (by kernel_rfl)
end Go.Proofs.YtpkelokaammmjaaDoor
end
