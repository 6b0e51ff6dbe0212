/-
  No cell of these rows narrows 'for every input' (looked for: loops, veiled, ifaces, maps, wideKeys, modest, calm, conditions, laid).
  DERIVED. THE GIVEN ROWS OF THIS SEAT. 4 by the template 'for every input the law returns true; each argument reads behind the call as it read before'; 0 by the template 'total and deterministic' (their statements: YtecomegocafocaaTotals.lean).
  GIVEN WITH THE SEED: the statements are not yours to turn. If you find one false, say at which input.
  Laid BY PROGRAM, IN A SANDBOX (cutbox-rows.mjs): the forced cells as the released guide's own fill.sh prints them over the translation fe9561b2ee0cb3bb… (all of the seat's roots in one cut). By AI agents, Wed Nov 11 2026. No macro, syntax, notation, axiom, sorry.
-/
import Derived.Test.YtecomegocafocaaChecked
import GoSem.Claim
import GoSem.ClaimJoined
import GoSem.ClaimMapViews
import Derived.JoinedTies
import Derived.KernelRfl
namespace Go.Proofs.Ytecomegocafocaa
/- THE CELL 'sum', in the pinned program and in every row, IS THE sha256 OF THE DUMP (.gsa) THAT YtecomegocafocaaProg.lean LOADS. Nothing in Lean hashes anything: it is a label: what it is worth is what the hold of that sum in a sandbox is worth. -/
noncomputable def Try.pinned : Pinned := { name := "ytecomegocafocaa", sum := "fe9561b2ee0cb3bbbf9c0c8307ec3374b1d047f72dabca86297872193d05c914", checked := Try.checked }
namespace Rows
def none {H : Type} : Left H := { results := [], args := [] }

/-- 'compeerlaw14.KasBad': WHATEVER THE INPUT: true; the input reads as it did. -/
def kasBadSpec : ChangeSpec := { name := "kasBad", fn := fun _ => fun
  | [d1, d2] => { results := [.lit (.bool true)], args := [d1, d2] }
  | _ => none }
def kasBadRow : OpenClaim := { program := "ytecomegocafocaa", sum := "fe9561b2ee0cb3bbbf9c0c8307ec3374b1d047f72dabca86297872193d05c914", func := "compeer/compeerlaw14.KasBad", spec := "kasBad", inPlace := ["internal/bytealg.abigen_runtime_cmpstring", "slices.overlaps[compeer/base.User]"], unfollowed := true, recurses := true, plainKeys := false, apart := false }
def KasBadSaid : Prop := kasBadRow.holds Try.pinned (OpenSpec.ofChange kasBadSpec)

/-- ITS FALSE NEIGHBOUR: 'it returns false'. Refute it at one input. -/
def kasBadWrong : ChangeSpec := { name := "kasBad", fn := fun _ => fun
  | [d1, d2] => { results := [.lit (.bool false)], args := [d1, d2] }
  | _ => none }
def KasBadWrongFalsely : Prop := kasBadRow.holds Try.pinned (OpenSpec.ofChange kasBadWrong)

/-- 'compeerlaw14.KasGives': WHATEVER THE INPUT: true; the input reads as it did. -/
def kasGivesSpec : ChangeSpec := { name := "kasGives", fn := fun _ => fun
  | [d1, d2, d3, d4] => { results := [.lit (.bool true)], args := [d1, d2, d3, d4] }
  | _ => none }
def kasGivesRow : OpenClaim := { program := "ytecomegocafocaa", sum := "fe9561b2ee0cb3bbbf9c0c8307ec3374b1d047f72dabca86297872193d05c914", func := "compeer/compeerlaw14.KasGives", spec := "kasGives", inPlace := ["internal/bytealg.abigen_runtime_cmpstring", "slices.overlaps[compeer/base.User]"], unfollowed := true, recurses := true, plainKeys := false, apart := false }
def KasGivesSaid : Prop := kasGivesRow.holds Try.pinned (OpenSpec.ofChange kasGivesSpec)

/-- ITS FALSE NEIGHBOUR: 'it returns false'. Refute it at one input. -/
def kasGivesWrong : ChangeSpec := { name := "kasGives", fn := fun _ => fun
  | [d1, d2, d3, d4] => { results := [.lit (.bool false)], args := [d1, d2, d3, d4] }
  | _ => none }
def KasGivesWrongFalsely : Prop := kasGivesRow.holds Try.pinned (OpenSpec.ofChange kasGivesWrong)

/-- 'compeerlaw14.KasFresh': WHATEVER THE INPUT: true; the input reads as it did. -/
def kasFreshSpec : ChangeSpec := { name := "kasFresh", fn := fun _ => fun
  | [d1, d2, d3, d4] => { results := [.lit (.bool true)], args := [d1, d2, d3, d4] }
  | _ => none }
def kasFreshRow : OpenClaim := { program := "ytecomegocafocaa", sum := "fe9561b2ee0cb3bbbf9c0c8307ec3374b1d047f72dabca86297872193d05c914", func := "compeer/compeerlaw14.KasFresh", spec := "kasFresh", inPlace := ["internal/bytealg.abigen_runtime_cmpstring", "slices.overlaps[compeer/base.User]"], unfollowed := true, recurses := true, plainKeys := false, apart := false }
def KasFreshSaid : Prop := kasFreshRow.holds Try.pinned (OpenSpec.ofChange kasFreshSpec)

/-- ITS FALSE NEIGHBOUR: 'it returns false'. Refute it at one input. -/
def kasFreshWrong : ChangeSpec := { name := "kasFresh", fn := fun _ => fun
  | [d1, d2, d3, d4] => { results := [.lit (.bool false)], args := [d1, d2, d3, d4] }
  | _ => none }
def KasFreshWrongFalsely : Prop := kasFreshRow.holds Try.pinned (OpenSpec.ofChange kasFreshWrong)

/-- 'compeerlaw14.KasAnswers': WHATEVER THE INPUT: true; the input reads as it did. -/
def kasAnswersSpec : ChangeSpec := { name := "kasAnswers", fn := fun _ => fun
  | [d] => { results := [.lit (.bool true)], args := [d] }
  | _ => none }
def kasAnswersRow : OpenClaim := { program := "ytecomegocafocaa", sum := "fe9561b2ee0cb3bbbf9c0c8307ec3374b1d047f72dabca86297872193d05c914", func := "compeer/compeerlaw14.KasAnswers", spec := "kasAnswers", inPlace := ["internal/bytealg.abigen_runtime_cmpstring", "slices.overlaps[compeer/base.User]"], unfollowed := true, recurses := true, plainKeys := false, apart := false }
def KasAnswersSaid : Prop := kasAnswersRow.holds Try.pinned (OpenSpec.ofChange kasAnswersSpec)

/-- ITS FALSE NEIGHBOUR: 'it returns false'. Refute it at one input. -/
def kasAnswersWrong : ChangeSpec := { name := "kasAnswers", fn := fun _ => fun
  | [d] => { results := [.lit (.bool false)], args := [d] }
  | _ => none }
def KasAnswersWrongFalsely : Prop := kasAnswersRow.holds Try.pinned (OpenSpec.ofChange kasAnswersWrong)

/- THE SECOND FORM. 'bulk': how many values and letters a reading holds, each counted each time it is reached (what is shared counts as often as it is met; a slice's spare places count too). A statement '..UptoSaid' is the law's where the arguments, and the package variables that the reading takes, are together of bulk at most 1048576: NARROWER than '..Said'. Prove '..Said' where nothing that the law and all that it calls make is longer than what came in: it says more and counts as full. Else prove '..UptoSaid'. A law counts once. -/
mutual
def uptoBulk {H : Type} : DataW H → Nat
  | .lit (.string bytes) => bytes.length + 1
  | .lit _ => 1
  | .nil => 1
  | .ptr d => uptoBulk d + 1
  | .slice elems spare => uptoBulkAll elems + uptoBulkAll spare + 1
  | .agg parts => uptoBulkAll parts + 1
  | .iface _ d => uptoBulk d + 1
  | .map entries => uptoBulkEntries entries + 1
  | .held _ => 1
def uptoBulkAll {H : Type} : List (DataW H) → Nat
  | [] => 0
  | d :: r => uptoBulk d + uptoBulkAll r
def uptoBulkEntries {H : Type} : List (Lit × DataW H) → Nat
  | [] => 0
  | x :: r => uptoBulkEntry x + uptoBulkEntries r
def uptoBulkEntry {H : Type} : Lit × DataW H → Nat
  | (.string bytes, d) => bytes.length + uptoBulk d + 1
  | (_, d) => uptoBulk d + 1
 end
def uptoSmall : (H : Type) → List (DataW H) → Bool := fun _ ds => decide (uptoBulkAll ds ≤ 1048576)
def OpenSpec.upto (s : _root_.Go.ChangeSpec) : _root_.Go.OpenSpec := { _root_.Go.OpenSpec.ofChange s with cond := some uptoSmall }

/-- 'compeerlaw14.KasBad', WHERE WHAT IT READS IS OF BULK AT MOST 1048576: true; the input reads as it did. -/
def kasBadUptoRow : OpenClaim := { program := "ytecomegocafocaa", sum := "fe9561b2ee0cb3bbbf9c0c8307ec3374b1d047f72dabca86297872193d05c914", func := "compeer/compeerlaw14.KasBad", spec := "kasBad", inPlace := ["internal/bytealg.abigen_runtime_cmpstring", "slices.overlaps[compeer/base.User]"], unfollowed := true, recurses := true, plainKeys := false, apart := false, narrowed := true }
def KasBadUptoSaid : Prop := kasBadUptoRow.holds Try.pinned (OpenSpec.upto kasBadSpec)

/-- 'compeerlaw14.KasGives', WHERE WHAT IT READS IS OF BULK AT MOST 1048576: true; the input reads as it did. -/
def kasGivesUptoRow : OpenClaim := { program := "ytecomegocafocaa", sum := "fe9561b2ee0cb3bbbf9c0c8307ec3374b1d047f72dabca86297872193d05c914", func := "compeer/compeerlaw14.KasGives", spec := "kasGives", inPlace := ["internal/bytealg.abigen_runtime_cmpstring", "slices.overlaps[compeer/base.User]"], unfollowed := true, recurses := true, plainKeys := false, apart := false, narrowed := true }
def KasGivesUptoSaid : Prop := kasGivesUptoRow.holds Try.pinned (OpenSpec.upto kasGivesSpec)

/-- 'compeerlaw14.KasFresh', WHERE WHAT IT READS IS OF BULK AT MOST 1048576: true; the input reads as it did. -/
def kasFreshUptoRow : OpenClaim := { program := "ytecomegocafocaa", sum := "fe9561b2ee0cb3bbbf9c0c8307ec3374b1d047f72dabca86297872193d05c914", func := "compeer/compeerlaw14.KasFresh", spec := "kasFresh", inPlace := ["internal/bytealg.abigen_runtime_cmpstring", "slices.overlaps[compeer/base.User]"], unfollowed := true, recurses := true, plainKeys := false, apart := false, narrowed := true }
def KasFreshUptoSaid : Prop := kasFreshUptoRow.holds Try.pinned (OpenSpec.upto kasFreshSpec)

/-- 'compeerlaw14.KasAnswers', WHERE WHAT IT READS IS OF BULK AT MOST 1048576: true; the input reads as it did. -/
def kasAnswersUptoRow : OpenClaim := { program := "ytecomegocafocaa", sum := "fe9561b2ee0cb3bbbf9c0c8307ec3374b1d047f72dabca86297872193d05c914", func := "compeer/compeerlaw14.KasAnswers", spec := "kasAnswers", inPlace := ["internal/bytealg.abigen_runtime_cmpstring", "slices.overlaps[compeer/base.User]"], unfollowed := true, recurses := true, plainKeys := false, apart := false, narrowed := true }
def KasAnswersUptoSaid : Prop := kasAnswersUptoRow.holds Try.pinned (OpenSpec.upto kasAnswersSpec)

end Rows
end Go.Proofs.Ytecomegocafocaa
