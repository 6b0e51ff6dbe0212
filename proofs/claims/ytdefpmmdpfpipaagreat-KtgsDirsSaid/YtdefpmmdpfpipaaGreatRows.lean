/-
  No cell of these rows narrows 'for every input' (looked for: loops, veiled, ifaces, maps, wideKeys, modest, calm, conditions, laid).
  DERIVED. THE GIVEN ROWS OF THIS SEAT. 6 by the template 'for every input the law returns true; each argument reads behind the call as it read before'; 0 by the template 'total and deterministic' (their statements: YtdefpmmdpfpipaaGreatTotals.lean).
  GIVEN WITH THE SEED: the statements are not yours to turn. If you find one false, say at which input.
  Laid BY PROGRAM, IN A SANDBOX (cutbox-rows.mjs): the forced cells as the released guide's own fill.sh prints them over the translation 3ade9736b3bc5c30… (all of the seat's roots in one cut). By AI agents, Wed Nov 11 2026. No macro, syntax, notation, axiom, sorry.
-/
import Derived.Test.YtdefpmmdpfpipaaGreatChecked
import GoSem.Claim
import GoSem.ClaimJoined
import GoSem.ClaimMapViews
import Derived.JoinedTies
import Derived.KernelRfl
namespace Go.Proofs.YtdefpmmdpfpipaaGreat
/- THE CELL 'sum', in the pinned program and in every row, IS THE sha256 OF THE DUMP (.gsa) THAT YtdefpmmdpfpipaaGreatProg.lean LOADS. Nothing in Lean hashes anything: it is a label: what it is worth is what the hold of that sum in a sandbox is worth. -/
noncomputable def Tryz.pinned : Pinned := { name := "ytdefpmmdpfpipaagreat", sum := "3ade9736b3bc5c3091724a3ffcc292cec86287ae111f573964461a0cd950b3b3", checked := Tryz.checked }
namespace Rows
def none {H : Type} : Left H := { results := [], args := [] }

/-- 'compeerlaw15.KtgsWhose': WHATEVER THE INPUT: true; the input reads as it did. -/
def ktgsWhoseSpec : ChangeSpec := { name := "ktgsWhose", fn := fun _ => fun
  | [d1, d2] => { results := [.lit (.bool true)], args := [d1, d2] }
  | _ => none }
def ktgsWhoseRow : OpenClaim := { program := "ytdefpmmdpfpipaagreat", sum := "3ade9736b3bc5c3091724a3ffcc292cec86287ae111f573964461a0cd950b3b3", func := "compeer/compeerlaw15.KtgsWhose", spec := "ktgsWhose", inPlace := ["internal/bytealg.abigen_runtime_cmpstring", "slices.overlaps[compeer/base.User]"], unfollowed := true, recurses := true, plainKeys := false, apart := false }
def KtgsWhoseSaid : Prop := ktgsWhoseRow.holds Tryz.pinned (OpenSpec.ofChange ktgsWhoseSpec)

/-- ITS FALSE NEIGHBOUR: 'it returns false'. Refute it at one input. -/
def ktgsWhoseWrong : ChangeSpec := { name := "ktgsWhose", fn := fun _ => fun
  | [d1, d2] => { results := [.lit (.bool false)], args := [d1, d2] }
  | _ => none }
def KtgsWhoseWrongFalsely : Prop := ktgsWhoseRow.holds Tryz.pinned (OpenSpec.ofChange ktgsWhoseWrong)

/-- 'compeerlaw15.KtgsReads': WHATEVER THE INPUT: true; the input reads as it did. -/
def ktgsReadsSpec : ChangeSpec := { name := "ktgsReads", fn := fun _ => fun
  | [d] => { results := [.lit (.bool true)], args := [d] }
  | _ => none }
def ktgsReadsRow : OpenClaim := { program := "ytdefpmmdpfpipaagreat", sum := "3ade9736b3bc5c3091724a3ffcc292cec86287ae111f573964461a0cd950b3b3", func := "compeer/compeerlaw15.KtgsReads", spec := "ktgsReads", inPlace := ["internal/bytealg.abigen_runtime_cmpstring", "slices.overlaps[compeer/base.User]"], unfollowed := true, recurses := true, plainKeys := false, apart := false }
def KtgsReadsSaid : Prop := ktgsReadsRow.holds Tryz.pinned (OpenSpec.ofChange ktgsReadsSpec)

/-- ITS FALSE NEIGHBOUR: 'it returns false'. Refute it at one input. -/
def ktgsReadsWrong : ChangeSpec := { name := "ktgsReads", fn := fun _ => fun
  | [d] => { results := [.lit (.bool false)], args := [d] }
  | _ => none }
def KtgsReadsWrongFalsely : Prop := ktgsReadsRow.holds Tryz.pinned (OpenSpec.ofChange ktgsReadsWrong)

/-- 'compeerlaw15.KtgsOnce': WHATEVER THE INPUT: true; the input reads as it did. -/
def ktgsOnceSpec : ChangeSpec := { name := "ktgsOnce", fn := fun _ => fun
  | [d1, d2] => { results := [.lit (.bool true)], args := [d1, d2] }
  | _ => none }
def ktgsOnceRow : OpenClaim := { program := "ytdefpmmdpfpipaagreat", sum := "3ade9736b3bc5c3091724a3ffcc292cec86287ae111f573964461a0cd950b3b3", func := "compeer/compeerlaw15.KtgsOnce", spec := "ktgsOnce", inPlace := ["internal/bytealg.abigen_runtime_cmpstring", "slices.overlaps[compeer/base.User]"], unfollowed := true, recurses := true, plainKeys := false, apart := false }
def KtgsOnceSaid : Prop := ktgsOnceRow.holds Tryz.pinned (OpenSpec.ofChange ktgsOnceSpec)

/-- ITS FALSE NEIGHBOUR: 'it returns false'. Refute it at one input. -/
def ktgsOnceWrong : ChangeSpec := { name := "ktgsOnce", fn := fun _ => fun
  | [d1, d2] => { results := [.lit (.bool false)], args := [d1, d2] }
  | _ => none }
def KtgsOnceWrongFalsely : Prop := ktgsOnceRow.holds Tryz.pinned (OpenSpec.ofChange ktgsOnceWrong)

/-- 'compeerlaw15.KtgsRenews': WHATEVER THE INPUT: true; the input reads as it did. -/
def ktgsRenewsSpec : ChangeSpec := { name := "ktgsRenews", fn := fun _ => fun
  | [d1, d2] => { results := [.lit (.bool true)], args := [d1, d2] }
  | _ => none }
def ktgsRenewsRow : OpenClaim := { program := "ytdefpmmdpfpipaagreat", sum := "3ade9736b3bc5c3091724a3ffcc292cec86287ae111f573964461a0cd950b3b3", func := "compeer/compeerlaw15.KtgsRenews", spec := "ktgsRenews", inPlace := ["internal/bytealg.abigen_runtime_cmpstring", "slices.overlaps[compeer/base.User]"], unfollowed := true, recurses := true, plainKeys := false, apart := false }
def KtgsRenewsSaid : Prop := ktgsRenewsRow.holds Tryz.pinned (OpenSpec.ofChange ktgsRenewsSpec)

/-- ITS FALSE NEIGHBOUR: 'it returns false'. Refute it at one input. -/
def ktgsRenewsWrong : ChangeSpec := { name := "ktgsRenews", fn := fun _ => fun
  | [d1, d2] => { results := [.lit (.bool false)], args := [d1, d2] }
  | _ => none }
def KtgsRenewsWrongFalsely : Prop := ktgsRenewsRow.holds Tryz.pinned (OpenSpec.ofChange ktgsRenewsWrong)

/-- 'compeerlaw15.KtgsAnswers': WHATEVER THE INPUT: true; the input reads as it did. -/
def ktgsAnswersSpec : ChangeSpec := { name := "ktgsAnswers", fn := fun _ => fun
  | [d1, d2] => { results := [.lit (.bool true)], args := [d1, d2] }
  | _ => none }
def ktgsAnswersRow : OpenClaim := { program := "ytdefpmmdpfpipaagreat", sum := "3ade9736b3bc5c3091724a3ffcc292cec86287ae111f573964461a0cd950b3b3", func := "compeer/compeerlaw15.KtgsAnswers", spec := "ktgsAnswers", inPlace := ["internal/bytealg.abigen_runtime_cmpstring", "slices.overlaps[compeer/base.User]"], unfollowed := true, recurses := true, plainKeys := false, apart := false }
def KtgsAnswersSaid : Prop := ktgsAnswersRow.holds Tryz.pinned (OpenSpec.ofChange ktgsAnswersSpec)

/-- ITS FALSE NEIGHBOUR: 'it returns false'. Refute it at one input. -/
def ktgsAnswersWrong : ChangeSpec := { name := "ktgsAnswers", fn := fun _ => fun
  | [d1, d2] => { results := [.lit (.bool false)], args := [d1, d2] }
  | _ => none }
def KtgsAnswersWrongFalsely : Prop := ktgsAnswersRow.holds Tryz.pinned (OpenSpec.ofChange ktgsAnswersWrong)

/-- 'compeerlaw15.KtgsDirs': WHATEVER THE INPUT: true; the input reads as it did. -/
def ktgsDirsSpec : ChangeSpec := { name := "ktgsDirs", fn := fun _ => fun
  | [d1, d2] => { results := [.lit (.bool true)], args := [d1, d2] }
  | _ => none }
def ktgsDirsRow : OpenClaim := { program := "ytdefpmmdpfpipaagreat", sum := "3ade9736b3bc5c3091724a3ffcc292cec86287ae111f573964461a0cd950b3b3", func := "compeer/compeerlaw15.KtgsDirs", spec := "ktgsDirs", inPlace := ["internal/bytealg.abigen_runtime_cmpstring", "slices.overlaps[compeer/base.User]"], unfollowed := true, recurses := true, plainKeys := false, apart := false }
def KtgsDirsSaid : Prop := ktgsDirsRow.holds Tryz.pinned (OpenSpec.ofChange ktgsDirsSpec)

/-- ITS FALSE NEIGHBOUR: 'it returns false'. Refute it at one input. -/
def ktgsDirsWrong : ChangeSpec := { name := "ktgsDirs", fn := fun _ => fun
  | [d1, d2] => { results := [.lit (.bool false)], args := [d1, d2] }
  | _ => none }
def KtgsDirsWrongFalsely : Prop := ktgsDirsRow.holds Tryz.pinned (OpenSpec.ofChange ktgsDirsWrong)

/- THE SECOND FORM. 'bulk': how many values and letters a reading holds, each counted each time it is reached (what is shared counts as often as it is met; a slice's spare places count too). A statement '..UptoSaid' is the law's where the arguments, and the package variables that the reading takes, are together of bulk at most 1048576: NARROWER than '..Said'. Prove '..Said' where nothing that the law and all that it calls make is longer than what came in: it says more and counts as full. Else prove '..UptoSaid'. A law counts once. -/
mutual
def uptoBulk {H : Type} : DataW H → Nat
  | .lit (.string bytes) => bytes.length + 1
  | .lit _ => 1
  | .nil => 1
  | .ptr d => uptoBulk d + 1
  | .slice elems spare => uptoBulkAll elems + uptoBulkAll spare + 1
  | .agg parts => uptoBulkAll parts + 1
  | .iface _ d => uptoBulk d + 1
  | .map entries => uptoBulkEntries entries + 1
  | .held _ => 1
def uptoBulkAll {H : Type} : List (DataW H) → Nat
  | [] => 0
  | d :: r => uptoBulk d + uptoBulkAll r
def uptoBulkEntries {H : Type} : List (Lit × DataW H) → Nat
  | [] => 0
  | x :: r => uptoBulkEntry x + uptoBulkEntries r
def uptoBulkEntry {H : Type} : Lit × DataW H → Nat
  | (.string bytes, d) => bytes.length + uptoBulk d + 1
  | (_, d) => uptoBulk d + 1
 end
def uptoSmall : (H : Type) → List (DataW H) → Bool := fun _ ds => decide (uptoBulkAll ds ≤ 1048576)
def OpenSpec.upto (s : _root_.Go.ChangeSpec) : _root_.Go.OpenSpec := { _root_.Go.OpenSpec.ofChange s with cond := some uptoSmall }

/-- 'compeerlaw15.KtgsWhose', WHERE WHAT IT READS IS OF BULK AT MOST 1048576: true; the input reads as it did. -/
def ktgsWhoseUptoRow : OpenClaim := { program := "ytdefpmmdpfpipaagreat", sum := "3ade9736b3bc5c3091724a3ffcc292cec86287ae111f573964461a0cd950b3b3", func := "compeer/compeerlaw15.KtgsWhose", spec := "ktgsWhose", inPlace := ["internal/bytealg.abigen_runtime_cmpstring", "slices.overlaps[compeer/base.User]"], unfollowed := true, recurses := true, plainKeys := false, apart := false, narrowed := true }
def KtgsWhoseUptoSaid : Prop := ktgsWhoseUptoRow.holds Tryz.pinned (OpenSpec.upto ktgsWhoseSpec)

/-- 'compeerlaw15.KtgsReads', WHERE WHAT IT READS IS OF BULK AT MOST 1048576: true; the input reads as it did. -/
def ktgsReadsUptoRow : OpenClaim := { program := "ytdefpmmdpfpipaagreat", sum := "3ade9736b3bc5c3091724a3ffcc292cec86287ae111f573964461a0cd950b3b3", func := "compeer/compeerlaw15.KtgsReads", spec := "ktgsReads", inPlace := ["internal/bytealg.abigen_runtime_cmpstring", "slices.overlaps[compeer/base.User]"], unfollowed := true, recurses := true, plainKeys := false, apart := false, narrowed := true }
def KtgsReadsUptoSaid : Prop := ktgsReadsUptoRow.holds Tryz.pinned (OpenSpec.upto ktgsReadsSpec)

/-- 'compeerlaw15.KtgsOnce', WHERE WHAT IT READS IS OF BULK AT MOST 1048576: true; the input reads as it did. -/
def ktgsOnceUptoRow : OpenClaim := { program := "ytdefpmmdpfpipaagreat", sum := "3ade9736b3bc5c3091724a3ffcc292cec86287ae111f573964461a0cd950b3b3", func := "compeer/compeerlaw15.KtgsOnce", spec := "ktgsOnce", inPlace := ["internal/bytealg.abigen_runtime_cmpstring", "slices.overlaps[compeer/base.User]"], unfollowed := true, recurses := true, plainKeys := false, apart := false, narrowed := true }
def KtgsOnceUptoSaid : Prop := ktgsOnceUptoRow.holds Tryz.pinned (OpenSpec.upto ktgsOnceSpec)

/-- 'compeerlaw15.KtgsRenews', WHERE WHAT IT READS IS OF BULK AT MOST 1048576: true; the input reads as it did. -/
def ktgsRenewsUptoRow : OpenClaim := { program := "ytdefpmmdpfpipaagreat", sum := "3ade9736b3bc5c3091724a3ffcc292cec86287ae111f573964461a0cd950b3b3", func := "compeer/compeerlaw15.KtgsRenews", spec := "ktgsRenews", inPlace := ["internal/bytealg.abigen_runtime_cmpstring", "slices.overlaps[compeer/base.User]"], unfollowed := true, recurses := true, plainKeys := false, apart := false, narrowed := true }
def KtgsRenewsUptoSaid : Prop := ktgsRenewsUptoRow.holds Tryz.pinned (OpenSpec.upto ktgsRenewsSpec)

/-- 'compeerlaw15.KtgsAnswers', WHERE WHAT IT READS IS OF BULK AT MOST 1048576: true; the input reads as it did. -/
def ktgsAnswersUptoRow : OpenClaim := { program := "ytdefpmmdpfpipaagreat", sum := "3ade9736b3bc5c3091724a3ffcc292cec86287ae111f573964461a0cd950b3b3", func := "compeer/compeerlaw15.KtgsAnswers", spec := "ktgsAnswers", inPlace := ["internal/bytealg.abigen_runtime_cmpstring", "slices.overlaps[compeer/base.User]"], unfollowed := true, recurses := true, plainKeys := false, apart := false, narrowed := true }
def KtgsAnswersUptoSaid : Prop := ktgsAnswersUptoRow.holds Tryz.pinned (OpenSpec.upto ktgsAnswersSpec)

/-- 'compeerlaw15.KtgsDirs', WHERE WHAT IT READS IS OF BULK AT MOST 1048576: true; the input reads as it did. -/
def ktgsDirsUptoRow : OpenClaim := { program := "ytdefpmmdpfpipaagreat", sum := "3ade9736b3bc5c3091724a3ffcc292cec86287ae111f573964461a0cd950b3b3", func := "compeer/compeerlaw15.KtgsDirs", spec := "ktgsDirs", inPlace := ["internal/bytealg.abigen_runtime_cmpstring", "slices.overlaps[compeer/base.User]"], unfollowed := true, recurses := true, plainKeys := false, apart := false, narrowed := true }
def KtgsDirsUptoSaid : Prop := ktgsDirsUptoRow.holds Tryz.pinned (OpenSpec.upto ktgsDirsSpec)

end Rows
end Go.Proofs.YtdefpmmdpfpipaaGreat
