/- The row of AesStreams: for every input the law returns true and what came in reads as it did. -/
import Derived.Test.YtjjcnijdjhhdoaaAesLS
import Derived.Test.YtjjcnijdjhhdoaaStm
import Derived.Test.YtjjcnijdjhhdoaaRowL
namespace Go.Proofs.Ytjjcnijdjhhdoaa
open Go.ChangeShapes Go.WideShapes Go.ChangeAt Go.RowKit
set_option maxRecDepth 100000 in
theorem aesStreams_lifted (os : Os) (started : os.Started) (H : Type) (enc : TypeId × Value → H) :
    ReturnsInHanded {} Try.checked os 4 .any (Rows.aesStreamsSpec.pre6 enc Try.prog Try.f4 Rows.aesStreamsRow.domain false) (Rows.aesStreamsSpec.post enc Try.prog Try.f4 false true false false) := by
  refine returnsInHanded_of_change (C := Try.checked) Try.own started (by kernel_rfl) Try.func4
    (ChangeSpec.witness6 (enc := enc) (C := Try.checked) false ⟨#[], #[.agg (vb (List.replicate 16 0)).toArray, .agg (vb (List.replicate 16 0)).toArray, .slice none 0 0], []⟩ 8 (by kernel_rfl) (by kernel_rfl) (by kernel_rfl) (by kernel_rfl)) ?_
  intro W base args ds gs before hval0 hW hcnd _
  have hval : ∀ (j : Nat) t v, Try.f4.params[j]? = some t → args[j]? = some v → Value.okWide Try.prog W .any base t v := hval0
  have hpost : ∀ W', Below W.heap.size W W' → Rows.aesStreamsSpec.post enc Try.prog Try.f4 false true false false W args (.bool true) W' := fun W' hb =>
    law_post Try.laidOut (by kernel_rfl) Try.underlying4 rfl rfl (fun ds hds => by
      have hn : ds.length = 3 := hds
      match ds, hn with
      | [_, _, _], _ => rfl) hW hb
  obtain ⟨p, q, hA0, hV, rfl, hfz, hnd⟩ := hW
  have hA : DataW.TrodAll enc Try.prog W 0 (fun _ => true) true Try.f4.params.toList args.toList ds p := hA0
  rw [Try.params4] at hA hval
  clear hA0 hval0
  obtain ⟨v0, v1, v2, d0, d1, d2, p0, p1, p2, rfl, rfl, rfl, h0, h1, h2⟩ := trodAll_three hA
  obtain ⟨k, hk, rfl, rfl, rfl⟩ := open_b16 (hval 0 22 v0 rfl rfl) h0
  obtain ⟨f, hf, rfl, rfl, rfl⟩ := open_b16 (hval 1 22 v1 rfl rfl) h1
  obtain ⟨b, hb⟩ := open_bs (hval 2 28 v2 rfl rfl) h2
  refine (law_aesStreams k f b v2 W hk hf hb (stream_eq k f b hk hf)).mono fun e W' ⟨he, hw⟩ => ?_
  subst he
  exact ⟨_, rfl, hpost W' hw⟩
theorem aesStreams_holds : Rows.AesStreamsSaid :=
  OpenClaim.holds_of_wide 4 Try.f4 rfl rfl rfl rfl rfl rfl rfl ⟨rfl, rfl, rfl, rfl, rfl⟩ rfl rfl rfl rfl rfl (by kernel_rfl) Try.func4 (by kernel_rfl)
    (of_decide_eq_true (by kernel_rfl)) (by unfold Func.isWrapper; first | (rw [if_pos (by decide +kernel)]; kernel_rfl) | (rw [if_neg (by decide +kernel)]; exact ⟨rfl, rfl⟩))
    (fun os started H enc _ => aesStreams_lifted os started H enc)
end Go.Proofs.Ytjjcnijdjhhdoaa
