/- The row of AesBack: for every input the law returns true and what came in reads as it did. -/
import Derived.Test.YtjjcnijdjhhdoaaAesLK
import Derived.Test.YtjjcnijdjhhdoaaInj2
import Derived.Test.YtjjcnijdjhhdoaaRowL
import Derived.Test.YtjjcnijdjhhdoaaFive
namespace Go.Proofs.Ytjjcnijdjhhdoaa
open Go.ChangeShapes Go.WideShapes Go.ChangeAt Go.RowKit
set_option maxRecDepth 100000 in
theorem aesBack_lifted (os : Os) (started : os.Started) (H : Type) (enc : TypeId × Value → H) :
    ReturnsInHanded {} Try.checked os 5 .any (Rows.aesBackSpec.pre6 enc Try.prog Try.f5 Rows.aesBackRow.domain false) (Rows.aesBackSpec.post enc Try.prog Try.f5 false true false false) := by
  refine returnsInHanded_of_change (C := Try.checked) Try.own started (by kernel_rfl) Try.func5
    (ChangeSpec.witness6 (enc := enc) (C := Try.checked) false ⟨#[], #[.agg (vb (List.replicate 16 0)).toArray, .agg (vb (List.replicate 16 0)).toArray, .agg (vb (List.replicate 16 0)).toArray, .slice none 0 0, .int .i64 0], []⟩ 8 (by kernel_rfl) (by kernel_rfl) (by kernel_rfl) (by kernel_rfl)) ?_
  intro W base args ds gs before hval0 hW hcnd _
  have hval : ∀ (j : Nat) t v, Try.f5.params[j]? = some t → args[j]? = some v → Value.okWide Try.prog W .any base t v := hval0
  have hpost : ∀ W', Below W.heap.size W W' → Rows.aesBackSpec.post enc Try.prog Try.f5 false true false false W args (.bool true) W' := fun W' hb =>
    law_post Try.laidOut (by kernel_rfl) Try.underlying4 rfl rfl (fun ds hds => by
      have hn : ds.length = 5 := hds
      match ds, hn with
      | [_, _, _, _, _], _ => rfl) hW hb
  obtain ⟨p, q, hA0, hV, rfl, hfz, hnd⟩ := hW
  have hA : DataW.TrodAll enc Try.prog W 0 (fun _ => true) true Try.f5.params.toList args.toList ds p := hA0
  rw [Try.params5] at hA hval
  clear hA0 hval0
  obtain ⟨v0, v1, v2, v3, v4, d0, d1, d2, d3, d4, p0, p1, p2, p3, p4, rfl, rfl, rfl, h0, h1, h2, h3, h4⟩ := trodAll_five hA
  obtain ⟨k, hk, rfl, rfl, rfl⟩ := open_b16 (hval 0 22 v0 rfl rfl) h0
  obtain ⟨a, ha, rfl, rfl, rfl⟩ := open_b16 (hval 1 22 v1 rfl rfl) h1
  obtain ⟨b, hb, rfl, rfl, rfl⟩ := open_b16 (hval 2 22 v2 rfl rfl) h2
  obtain ⟨t, ht⟩ := open_bs (hval 3 28 v3 rfl rfl) h3
  obtain ⟨n, rfl⟩ := okWide_int Try.underlying3 (hval 4 3 v4 rfl rfl)
  have hinj : (decide (blk sbox (keys sbox k) a = blk sbox (keys sbox k) b) == decide (a = b)) = true := by
    by_cases e : a = b
    · subst e; rw [decide_eq_true rfl, decide_eq_true rfl]; rfl
    · rw [decide_eq_false e, decide_eq_false (fun h => e (blk_inj _ a b ha hb h))]; rfl
  refine (law_aesBack k a b t v3 n W hk ha hb ht hinj).mono fun e W' ⟨he, hw⟩ => ?_
  subst he
  exact ⟨_, rfl, hpost W' hw⟩
theorem aesBack_holds : Rows.AesBackSaid :=
  OpenClaim.holds_of_wide 5 Try.f5 rfl rfl rfl rfl rfl rfl rfl ⟨rfl, rfl, rfl, rfl, rfl⟩ rfl rfl rfl rfl rfl (by kernel_rfl) Try.func5 (by kernel_rfl)
    (of_decide_eq_true (by kernel_rfl)) (by unfold Func.isWrapper; first | (rw [if_pos (by decide +kernel)]; kernel_rfl) | (rw [if_neg (by decide +kernel)]; exact ⟨rfl, rfl⟩))
    (fun os started H enc _ => aesBack_lifted os started H enc)
end Go.Proofs.Ytjjcnijdjhhdoaa
