/-
  No cell of these rows narrows 'for every input' (looked for: loops, veiled, ifaces, maps, wideKeys, modest, calm, conditions, laid).
  DERIVED. THE GIVEN ROWS OF THIS SEAT. 7 by the template 'for every input the law returns true; each argument reads behind the call as it read before'; 0 by the template 'total and deterministic' (their statements: YtaoijkhndakppaaGreatTotals.lean).
  GIVEN WITH THE SEED: the statements are not yours to turn. If you find one false, say at which input.
  Laid BY PROGRAM, IN A SANDBOX (cutbox-rows.mjs): the forced cells as the released guide's own fill.sh prints them over the translation cc33c66fa65eb89e… (all of the seat's roots in one cut). By AI agents, Wed Nov 11 2026. No macro, syntax, notation, axiom, sorry.
-/
import Derived.Test.YtaoijkhndakppaaGreatChecked
import GoSem.Claim
import GoSem.ClaimJoined
import GoSem.ClaimMapViews
import Derived.JoinedTies
import Derived.KernelRfl
namespace Go.Proofs.YtaoijkhndakppaaGreat
/- THE CELL 'sum', in the pinned program and in every row, IS THE sha256 OF THE DUMP (.gsa) THAT YtaoijkhndakppaaGreatProg.lean LOADS. Nothing in Lean hashes anything: it is a label: what it is worth is what the hold of that sum in a sandbox is worth. -/
noncomputable def Tryz.pinned : Pinned := { name := "ytaoijkhndakppaagreat", sum := "cc33c66fa65eb89edec9fbb49d509f8c9a8fa4fd9c2d8a90cb02ed0af1f6ad92", checked := Tryz.checked }
namespace Rows
def none {H : Type} : Left H := { results := [], args := [] }

/-- 'compeerlaw17.LoginGets': WHATEVER THE INPUT: true; the input reads as it did. -/
def loginGetsSpec : ChangeSpec := { name := "loginGets", fn := fun _ => fun
  | [d1, d2, d3, d4] => { results := [.lit (.bool true)], args := [d1, d2, d3, d4] }
  | _ => none }
def loginGetsRow : OpenClaim := { program := "ytaoijkhndakppaagreat", sum := "cc33c66fa65eb89edec9fbb49d509f8c9a8fa4fd9c2d8a90cb02ed0af1f6ad92", func := "compeer/compeerlaw17.LoginGets", spec := "loginGets", inPlace := ["internal/bytealg.abigen_runtime_cmpstring", "slices.overlaps[compeer/base.User]"], unfollowed := true, recurses := true, plainKeys := false, apart := false }
def LoginGetsSaid : Prop := loginGetsRow.holds Tryz.pinned (OpenSpec.ofChange loginGetsSpec)

/-- ITS FALSE NEIGHBOUR: 'it returns false'. Refute it at one input. -/
def loginGetsWrong : ChangeSpec := { name := "loginGets", fn := fun _ => fun
  | [d1, d2, d3, d4] => { results := [.lit (.bool false)], args := [d1, d2, d3, d4] }
  | _ => none }
def LoginGetsWrongFalsely : Prop := loginGetsRow.holds Tryz.pinned (OpenSpec.ofChange loginGetsWrong)

/-- 'compeerlaw17.LoginShows': WHATEVER THE INPUT: true; the input reads as it did. -/
def loginShowsSpec : ChangeSpec := { name := "loginShows", fn := fun _ => fun
  | [d1, d2] => { results := [.lit (.bool true)], args := [d1, d2] }
  | _ => none }
def loginShowsRow : OpenClaim := { program := "ytaoijkhndakppaagreat", sum := "cc33c66fa65eb89edec9fbb49d509f8c9a8fa4fd9c2d8a90cb02ed0af1f6ad92", func := "compeer/compeerlaw17.LoginShows", spec := "loginShows", inPlace := ["internal/bytealg.abigen_runtime_cmpstring", "slices.overlaps[compeer/base.User]"], unfollowed := true, recurses := true, plainKeys := false, apart := false }
def LoginShowsSaid : Prop := loginShowsRow.holds Tryz.pinned (OpenSpec.ofChange loginShowsSpec)

/-- ITS FALSE NEIGHBOUR: 'it returns false'. Refute it at one input. -/
def loginShowsWrong : ChangeSpec := { name := "loginShows", fn := fun _ => fun
  | [d1, d2] => { results := [.lit (.bool false)], args := [d1, d2] }
  | _ => none }
def LoginShowsWrongFalsely : Prop := loginShowsRow.holds Tryz.pinned (OpenSpec.ofChange loginShowsWrong)

/-- 'compeerlaw17.LoginAsks': WHATEVER THE INPUT: true; the input reads as it did. -/
def loginAsksSpec : ChangeSpec := { name := "loginAsks", fn := fun _ => fun
  | [d1, d2, d3] => { results := [.lit (.bool true)], args := [d1, d2, d3] }
  | _ => none }
def loginAsksRow : OpenClaim := { program := "ytaoijkhndakppaagreat", sum := "cc33c66fa65eb89edec9fbb49d509f8c9a8fa4fd9c2d8a90cb02ed0af1f6ad92", func := "compeer/compeerlaw17.LoginAsks", spec := "loginAsks", inPlace := ["internal/bytealg.abigen_runtime_cmpstring", "slices.overlaps[compeer/base.User]"], unfollowed := true, recurses := true, plainKeys := false, apart := false }
def LoginAsksSaid : Prop := loginAsksRow.holds Tryz.pinned (OpenSpec.ofChange loginAsksSpec)

/-- ITS FALSE NEIGHBOUR: 'it returns false'. Refute it at one input. -/
def loginAsksWrong : ChangeSpec := { name := "loginAsks", fn := fun _ => fun
  | [d1, d2, d3] => { results := [.lit (.bool false)], args := [d1, d2, d3] }
  | _ => none }
def LoginAsksWrongFalsely : Prop := loginAsksRow.holds Tryz.pinned (OpenSpec.ofChange loginAsksWrong)

/-- 'compeerlaw17.LoginClears': WHATEVER THE INPUT: true; the input reads as it did. -/
def loginClearsSpec : ChangeSpec := { name := "loginClears", fn := fun _ => fun
  | [d1, d2] => { results := [.lit (.bool true)], args := [d1, d2] }
  | _ => none }
def loginClearsRow : OpenClaim := { program := "ytaoijkhndakppaagreat", sum := "cc33c66fa65eb89edec9fbb49d509f8c9a8fa4fd9c2d8a90cb02ed0af1f6ad92", func := "compeer/compeerlaw17.LoginClears", spec := "loginClears", inPlace := ["internal/bytealg.abigen_runtime_cmpstring", "slices.overlaps[compeer/base.User]"], unfollowed := true, recurses := true, plainKeys := false, apart := false }
def LoginClearsSaid : Prop := loginClearsRow.holds Tryz.pinned (OpenSpec.ofChange loginClearsSpec)

/-- ITS FALSE NEIGHBOUR: 'it returns false'. Refute it at one input. -/
def loginClearsWrong : ChangeSpec := { name := "loginClears", fn := fun _ => fun
  | [d1, d2] => { results := [.lit (.bool false)], args := [d1, d2] }
  | _ => none }
def LoginClearsWrongFalsely : Prop := loginClearsRow.holds Tryz.pinned (OpenSpec.ofChange loginClearsWrong)

/-- 'compeerlaw18.HandAgrees': WHATEVER THE INPUT: true; the input reads as it did. -/
def handAgreesSpec : ChangeSpec := { name := "handAgrees", fn := fun _ => fun
  | [d] => { results := [.lit (.bool true)], args := [d] }
  | _ => none }
def handAgreesRow : OpenClaim := { program := "ytaoijkhndakppaagreat", sum := "cc33c66fa65eb89edec9fbb49d509f8c9a8fa4fd9c2d8a90cb02ed0af1f6ad92", func := "compeer/compeerlaw18.HandAgrees", spec := "handAgrees", inPlace := ["internal/bytealg.abigen_runtime_cmpstring", "slices.overlaps[compeer/base.User]"], unfollowed := true, recurses := true, plainKeys := false, apart := false }
def HandAgreesSaid : Prop := handAgreesRow.holds Tryz.pinned (OpenSpec.ofChange handAgreesSpec)

/-- ITS FALSE NEIGHBOUR: 'it returns false'. Refute it at one input. -/
def handAgreesWrong : ChangeSpec := { name := "handAgrees", fn := fun _ => fun
  | [d] => { results := [.lit (.bool false)], args := [d] }
  | _ => none }
def HandAgreesWrongFalsely : Prop := handAgreesRow.holds Tryz.pinned (OpenSpec.ofChange handAgreesWrong)

/-- 'compeerlaw18.HandAnswers': WHATEVER THE INPUT: true; the input reads as it did. -/
def handAnswersSpec : ChangeSpec := { name := "handAnswers", fn := fun _ => fun
  | [d1, d2, d3, d4] => { results := [.lit (.bool true)], args := [d1, d2, d3, d4] }
  | _ => none }
def handAnswersRow : OpenClaim := { program := "ytaoijkhndakppaagreat", sum := "cc33c66fa65eb89edec9fbb49d509f8c9a8fa4fd9c2d8a90cb02ed0af1f6ad92", func := "compeer/compeerlaw18.HandAnswers", spec := "handAnswers", inPlace := ["internal/bytealg.abigen_runtime_cmpstring", "slices.overlaps[compeer/base.User]"], unfollowed := true, recurses := true, plainKeys := false, apart := false }
def HandAnswersSaid : Prop := handAnswersRow.holds Tryz.pinned (OpenSpec.ofChange handAnswersSpec)

/-- ITS FALSE NEIGHBOUR: 'it returns false'. Refute it at one input. -/
def handAnswersWrong : ChangeSpec := { name := "handAnswers", fn := fun _ => fun
  | [d1, d2, d3, d4] => { results := [.lit (.bool false)], args := [d1, d2, d3, d4] }
  | _ => none }
def HandAnswersWrongFalsely : Prop := handAnswersRow.holds Tryz.pinned (OpenSpec.ofChange handAnswersWrong)

/-- 'compeerlaw18.HandTurns': WHATEVER THE INPUT: true; the input reads as it did. -/
def handTurnsSpec : ChangeSpec := { name := "handTurns", fn := fun _ => fun
  | [d1, d2, d3] => { results := [.lit (.bool true)], args := [d1, d2, d3] }
  | _ => none }
def handTurnsRow : OpenClaim := { program := "ytaoijkhndakppaagreat", sum := "cc33c66fa65eb89edec9fbb49d509f8c9a8fa4fd9c2d8a90cb02ed0af1f6ad92", func := "compeer/compeerlaw18.HandTurns", spec := "handTurns", inPlace := ["internal/bytealg.abigen_runtime_cmpstring", "slices.overlaps[compeer/base.User]"], unfollowed := true, recurses := true, plainKeys := false, apart := false }
def HandTurnsSaid : Prop := handTurnsRow.holds Tryz.pinned (OpenSpec.ofChange handTurnsSpec)

/-- ITS FALSE NEIGHBOUR: 'it returns false'. Refute it at one input. -/
def handTurnsWrong : ChangeSpec := { name := "handTurns", fn := fun _ => fun
  | [d1, d2, d3] => { results := [.lit (.bool false)], args := [d1, d2, d3] }
  | _ => none }
def HandTurnsWrongFalsely : Prop := handTurnsRow.holds Tryz.pinned (OpenSpec.ofChange handTurnsWrong)

/- THE SECOND FORM. 'bulk': how many values and letters a reading holds, each counted each time it is reached (what is shared counts as often as it is met; a slice's spare places count too). A statement '..UptoSaid' is the law's where the arguments, and the package variables that the reading takes, are together of bulk at most 1048576: NARROWER than '..Said'. Prove '..Said' where nothing that the law and all that it calls make is longer than what came in: it says more and counts as full. Else prove '..UptoSaid'. A law counts once. -/
mutual
def uptoBulk {H : Type} : DataW H → Nat
  | .lit (.string bytes) => bytes.length + 1
  | .lit _ => 1
  | .nil => 1
  | .ptr d => uptoBulk d + 1
  | .slice elems spare => uptoBulkAll elems + uptoBulkAll spare + 1
  | .agg parts => uptoBulkAll parts + 1
  | .iface _ d => uptoBulk d + 1
  | .map entries => uptoBulkEntries entries + 1
  | .held _ => 1
def uptoBulkAll {H : Type} : List (DataW H) → Nat
  | [] => 0
  | d :: r => uptoBulk d + uptoBulkAll r
def uptoBulkEntries {H : Type} : List (Lit × DataW H) → Nat
  | [] => 0
  | x :: r => uptoBulkEntry x + uptoBulkEntries r
def uptoBulkEntry {H : Type} : Lit × DataW H → Nat
  | (.string bytes, d) => bytes.length + uptoBulk d + 1
  | (_, d) => uptoBulk d + 1
 end
def uptoSmall : (H : Type) → List (DataW H) → Bool := fun _ ds => decide (uptoBulkAll ds ≤ 1048576)
def OpenSpec.upto (s : _root_.Go.ChangeSpec) : _root_.Go.OpenSpec := { _root_.Go.OpenSpec.ofChange s with cond := some uptoSmall }

/-- 'compeerlaw17.LoginGets', WHERE WHAT IT READS IS OF BULK AT MOST 1048576: true; the input reads as it did. -/
def loginGetsUptoRow : OpenClaim := { program := "ytaoijkhndakppaagreat", sum := "cc33c66fa65eb89edec9fbb49d509f8c9a8fa4fd9c2d8a90cb02ed0af1f6ad92", func := "compeer/compeerlaw17.LoginGets", spec := "loginGets", inPlace := ["internal/bytealg.abigen_runtime_cmpstring", "slices.overlaps[compeer/base.User]"], unfollowed := true, recurses := true, plainKeys := false, apart := false, narrowed := true }
def LoginGetsUptoSaid : Prop := loginGetsUptoRow.holds Tryz.pinned (OpenSpec.upto loginGetsSpec)

/-- 'compeerlaw17.LoginShows', WHERE WHAT IT READS IS OF BULK AT MOST 1048576: true; the input reads as it did. -/
def loginShowsUptoRow : OpenClaim := { program := "ytaoijkhndakppaagreat", sum := "cc33c66fa65eb89edec9fbb49d509f8c9a8fa4fd9c2d8a90cb02ed0af1f6ad92", func := "compeer/compeerlaw17.LoginShows", spec := "loginShows", inPlace := ["internal/bytealg.abigen_runtime_cmpstring", "slices.overlaps[compeer/base.User]"], unfollowed := true, recurses := true, plainKeys := false, apart := false, narrowed := true }
def LoginShowsUptoSaid : Prop := loginShowsUptoRow.holds Tryz.pinned (OpenSpec.upto loginShowsSpec)

/-- 'compeerlaw17.LoginAsks', WHERE WHAT IT READS IS OF BULK AT MOST 1048576: true; the input reads as it did. -/
def loginAsksUptoRow : OpenClaim := { program := "ytaoijkhndakppaagreat", sum := "cc33c66fa65eb89edec9fbb49d509f8c9a8fa4fd9c2d8a90cb02ed0af1f6ad92", func := "compeer/compeerlaw17.LoginAsks", spec := "loginAsks", inPlace := ["internal/bytealg.abigen_runtime_cmpstring", "slices.overlaps[compeer/base.User]"], unfollowed := true, recurses := true, plainKeys := false, apart := false, narrowed := true }
def LoginAsksUptoSaid : Prop := loginAsksUptoRow.holds Tryz.pinned (OpenSpec.upto loginAsksSpec)

/-- 'compeerlaw17.LoginClears', WHERE WHAT IT READS IS OF BULK AT MOST 1048576: true; the input reads as it did. -/
def loginClearsUptoRow : OpenClaim := { program := "ytaoijkhndakppaagreat", sum := "cc33c66fa65eb89edec9fbb49d509f8c9a8fa4fd9c2d8a90cb02ed0af1f6ad92", func := "compeer/compeerlaw17.LoginClears", spec := "loginClears", inPlace := ["internal/bytealg.abigen_runtime_cmpstring", "slices.overlaps[compeer/base.User]"], unfollowed := true, recurses := true, plainKeys := false, apart := false, narrowed := true }
def LoginClearsUptoSaid : Prop := loginClearsUptoRow.holds Tryz.pinned (OpenSpec.upto loginClearsSpec)

/-- 'compeerlaw18.HandAgrees', WHERE WHAT IT READS IS OF BULK AT MOST 1048576: true; the input reads as it did. -/
def handAgreesUptoRow : OpenClaim := { program := "ytaoijkhndakppaagreat", sum := "cc33c66fa65eb89edec9fbb49d509f8c9a8fa4fd9c2d8a90cb02ed0af1f6ad92", func := "compeer/compeerlaw18.HandAgrees", spec := "handAgrees", inPlace := ["internal/bytealg.abigen_runtime_cmpstring", "slices.overlaps[compeer/base.User]"], unfollowed := true, recurses := true, plainKeys := false, apart := false, narrowed := true }
def HandAgreesUptoSaid : Prop := handAgreesUptoRow.holds Tryz.pinned (OpenSpec.upto handAgreesSpec)

/-- 'compeerlaw18.HandAnswers', WHERE WHAT IT READS IS OF BULK AT MOST 1048576: true; the input reads as it did. -/
def handAnswersUptoRow : OpenClaim := { program := "ytaoijkhndakppaagreat", sum := "cc33c66fa65eb89edec9fbb49d509f8c9a8fa4fd9c2d8a90cb02ed0af1f6ad92", func := "compeer/compeerlaw18.HandAnswers", spec := "handAnswers", inPlace := ["internal/bytealg.abigen_runtime_cmpstring", "slices.overlaps[compeer/base.User]"], unfollowed := true, recurses := true, plainKeys := false, apart := false, narrowed := true }
def HandAnswersUptoSaid : Prop := handAnswersUptoRow.holds Tryz.pinned (OpenSpec.upto handAnswersSpec)

/-- 'compeerlaw18.HandTurns', WHERE WHAT IT READS IS OF BULK AT MOST 1048576: true; the input reads as it did. -/
def handTurnsUptoRow : OpenClaim := { program := "ytaoijkhndakppaagreat", sum := "cc33c66fa65eb89edec9fbb49d509f8c9a8fa4fd9c2d8a90cb02ed0af1f6ad92", func := "compeer/compeerlaw18.HandTurns", spec := "handTurns", inPlace := ["internal/bytealg.abigen_runtime_cmpstring", "slices.overlaps[compeer/base.User]"], unfollowed := true, recurses := true, plainKeys := false, apart := false, narrowed := true }
def HandTurnsUptoSaid : Prop := handTurnsUptoRow.holds Tryz.pinned (OpenSpec.upto handTurnsSpec)

end Rows
end Go.Proofs.YtaoijkhndakppaaGreat
