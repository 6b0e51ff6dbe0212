/-
  No cell of these rows narrows 'for every input' (looked for: loops, veiled, ifaces, maps, wideKeys, modest, calm, conditions, laid).
  DERIVED. THE GIVEN ROWS OF THIS SEAT. 12 by the template 'for every input the law returns true; each argument reads behind the call as it read before'; 0 by the template 'total and deterministic' (their statements: YtjjcnijdjhhdoaaTotals.lean).
  GIVEN WITH THE SEED: the statements are not yours to turn. If you find one false, say at which input.
  Laid BY PROGRAM, IN A SANDBOX (cutbox-rows.mjs): the forced cells as the released guide's own fill.sh prints them over the translation 6845d4a30b14eadb… (all of the seat's roots in one cut). By AI agents, Wed Nov 11 2026. No macro, syntax, notation, axiom, sorry.
-/
import Derived.Test.YtjjcnijdjhhdoaaChecked
import GoSem.Claim
import GoSem.ClaimJoined
import GoSem.ClaimMapViews
import Derived.JoinedTies
import Derived.KernelRfl
namespace Go.Proofs.Ytjjcnijdjhhdoaa
/- THE CELL 'sum', in the pinned program and in every row, IS THE sha256 OF THE DUMP (.gsa) THAT YtjjcnijdjhhdoaaProg.lean LOADS. Nothing in Lean hashes anything: it is a label: what it is worth is what the hold of that sum in a sandbox is worth. -/
noncomputable def Try.pinned : Pinned := { name := "ytjjcnijdjhhdoaa", sum := "6845d4a30b14eadbb9c4ba7112b19184274b8684fabc891b02cbe729cad334ce", checked := Try.checked }
namespace Rows
def none {H : Type} : Left H := { results := [], args := [] }

/-- 'compeerlaw05.AesBlocks': WHATEVER THE INPUT: true; the input reads as it did. -/
def aesBlocksSpec : ChangeSpec := { name := "aesBlocks", fn := fun _ => fun
  | [d1, d2] => { results := [.lit (.bool true)], args := [d1, d2] }
  | _ => none }
def aesBlocksRow : OpenClaim := { program := "ytjjcnijdjhhdoaa", sum := "6845d4a30b14eadbb9c4ba7112b19184274b8684fabc891b02cbe729cad334ce", func := "compeer/compeerlaw05.AesBlocks", spec := "aesBlocks", plainKeys := false, apart := false }
def AesBlocksSaid : Prop := aesBlocksRow.holds Try.pinned (OpenSpec.ofChange aesBlocksSpec)

/-- ITS FALSE NEIGHBOUR: 'it returns false'. Refute it at one input. -/
def aesBlocksWrong : ChangeSpec := { name := "aesBlocks", fn := fun _ => fun
  | [d1, d2] => { results := [.lit (.bool false)], args := [d1, d2] }
  | _ => none }
def AesBlocksWrongFalsely : Prop := aesBlocksRow.holds Try.pinned (OpenSpec.ofChange aesBlocksWrong)

/-- 'compeerlaw05.AesStreams': WHATEVER THE INPUT: true; the input reads as it did. -/
def aesStreamsSpec : ChangeSpec := { name := "aesStreams", fn := fun _ => fun
  | [d1, d2, d3] => { results := [.lit (.bool true)], args := [d1, d2, d3] }
  | _ => none }
def aesStreamsRow : OpenClaim := { program := "ytjjcnijdjhhdoaa", sum := "6845d4a30b14eadbb9c4ba7112b19184274b8684fabc891b02cbe729cad334ce", func := "compeer/compeerlaw05.AesStreams", spec := "aesStreams", plainKeys := false, apart := false }
def AesStreamsSaid : Prop := aesStreamsRow.holds Try.pinned (OpenSpec.ofChange aesStreamsSpec)

/-- ITS FALSE NEIGHBOUR: 'it returns false'. Refute it at one input. -/
def aesStreamsWrong : ChangeSpec := { name := "aesStreams", fn := fun _ => fun
  | [d1, d2, d3] => { results := [.lit (.bool false)], args := [d1, d2, d3] }
  | _ => none }
def AesStreamsWrongFalsely : Prop := aesStreamsRow.holds Try.pinned (OpenSpec.ofChange aesStreamsWrong)

/-- 'compeerlaw05.AesBack': WHATEVER THE INPUT: true; the input reads as it did. -/
def aesBackSpec : ChangeSpec := { name := "aesBack", fn := fun _ => fun
  | [d1, d2, d3, d4, d5] => { results := [.lit (.bool true)], args := [d1, d2, d3, d4, d5] }
  | _ => none }
def aesBackRow : OpenClaim := { program := "ytjjcnijdjhhdoaa", sum := "6845d4a30b14eadbb9c4ba7112b19184274b8684fabc891b02cbe729cad334ce", func := "compeer/compeerlaw05.AesBack", spec := "aesBack", plainKeys := false, apart := false }
def AesBackSaid : Prop := aesBackRow.holds Try.pinned (OpenSpec.ofChange aesBackSpec)

/-- ITS FALSE NEIGHBOUR: 'it returns false'. Refute it at one input. -/
def aesBackWrong : ChangeSpec := { name := "aesBack", fn := fun _ => fun
  | [d1, d2, d3, d4, d5] => { results := [.lit (.bool false)], args := [d1, d2, d3, d4, d5] }
  | _ => none }
def AesBackWrongFalsely : Prop := aesBackRow.holds Try.pinned (OpenSpec.ofChange aesBackWrong)

/-- 'compeerlaw05.AesSteps': WHATEVER THE INPUT: true; the input reads as it did. -/
def aesStepsSpec : ChangeSpec := { name := "aesSteps", fn := fun _ => fun
  | [d1, d2, d3] => { results := [.lit (.bool true)], args := [d1, d2, d3] }
  | _ => none }
def aesStepsRow : OpenClaim := { program := "ytjjcnijdjhhdoaa", sum := "6845d4a30b14eadbb9c4ba7112b19184274b8684fabc891b02cbe729cad334ce", func := "compeer/compeerlaw05.AesSteps", spec := "aesSteps", plainKeys := false, apart := false }
def AesStepsSaid : Prop := aesStepsRow.holds Try.pinned (OpenSpec.ofChange aesStepsSpec)

/-- ITS FALSE NEIGHBOUR: 'it returns false'. Refute it at one input. -/
def aesStepsWrong : ChangeSpec := { name := "aesSteps", fn := fun _ => fun
  | [d1, d2, d3] => { results := [.lit (.bool false)], args := [d1, d2, d3] }
  | _ => none }
def AesStepsWrongFalsely : Prop := aesStepsRow.holds Try.pinned (OpenSpec.ofChange aesStepsWrong)

/-- 'compeerlaw07.SymMarks': WHATEVER THE INPUT: true; the input reads as it did. -/
def symMarksSpec : ChangeSpec := { name := "symMarks", fn := fun _ => fun
  | [d1, d2, d3, d4] => { results := [.lit (.bool true)], args := [d1, d2, d3, d4] }
  | _ => none }
def symMarksRow : OpenClaim := { program := "ytjjcnijdjhhdoaa", sum := "6845d4a30b14eadbb9c4ba7112b19184274b8684fabc891b02cbe729cad334ce", func := "compeer/compeerlaw07.SymMarks", spec := "symMarks", plainKeys := false, apart := false }
def SymMarksSaid : Prop := symMarksRow.holds Try.pinned (OpenSpec.ofChange symMarksSpec)

/-- ITS FALSE NEIGHBOUR: 'it returns false'. Refute it at one input. -/
def symMarksWrong : ChangeSpec := { name := "symMarks", fn := fun _ => fun
  | [d1, d2, d3, d4] => { results := [.lit (.bool false)], args := [d1, d2, d3, d4] }
  | _ => none }
def SymMarksWrongFalsely : Prop := symMarksRow.holds Try.pinned (OpenSpec.ofChange symMarksWrong)

/-- 'compeerlaw07.SymAgain': WHATEVER THE INPUT: true; the input reads as it did. -/
def symAgainSpec : ChangeSpec := { name := "symAgain", fn := fun _ => fun
  | [d1, d2, d3, d4, d5] => { results := [.lit (.bool true)], args := [d1, d2, d3, d4, d5] }
  | _ => none }
def symAgainRow : OpenClaim := { program := "ytjjcnijdjhhdoaa", sum := "6845d4a30b14eadbb9c4ba7112b19184274b8684fabc891b02cbe729cad334ce", func := "compeer/compeerlaw07.SymAgain", spec := "symAgain", unfollowed := true, recurses := true, plainKeys := false, apart := false }
def SymAgainSaid : Prop := symAgainRow.holds Try.pinned (OpenSpec.ofChange symAgainSpec)

/-- ITS FALSE NEIGHBOUR: 'it returns false'. Refute it at one input. -/
def symAgainWrong : ChangeSpec := { name := "symAgain", fn := fun _ => fun
  | [d1, d2, d3, d4, d5] => { results := [.lit (.bool false)], args := [d1, d2, d3, d4, d5] }
  | _ => none }
def SymAgainWrongFalsely : Prop := symAgainRow.holds Try.pinned (OpenSpec.ofChange symAgainWrong)

/-- 'compeerlaw07.SymPlays': WHATEVER THE INPUT: true; the input reads as it did. -/
def symPlaysSpec : ChangeSpec := { name := "symPlays", fn := fun _ => fun
  | [d] => { results := [.lit (.bool true)], args := [d] }
  | _ => none }
def symPlaysRow : OpenClaim := { program := "ytjjcnijdjhhdoaa", sum := "6845d4a30b14eadbb9c4ba7112b19184274b8684fabc891b02cbe729cad334ce", func := "compeer/compeerlaw07.SymPlays", spec := "symPlays", unfollowed := true, recurses := true, plainKeys := false, apart := false }
def SymPlaysSaid : Prop := symPlaysRow.holds Try.pinned (OpenSpec.ofChange symPlaysSpec)

/-- ITS FALSE NEIGHBOUR: 'it returns false'. Refute it at one input. -/
def symPlaysWrong : ChangeSpec := { name := "symPlays", fn := fun _ => fun
  | [d] => { results := [.lit (.bool false)], args := [d] }
  | _ => none }
def SymPlaysWrongFalsely : Prop := symPlaysRow.holds Try.pinned (OpenSpec.ofChange symPlaysWrong)

/-- 'compeerlaw19.RatchetGoes': WHATEVER THE INPUT: true; the input reads as it did. -/
def ratchetGoesSpec : ChangeSpec := { name := "ratchetGoes", fn := fun _ => fun
  | [d1, d2] => { results := [.lit (.bool true)], args := [d1, d2] }
  | _ => none }
def ratchetGoesRow : OpenClaim := { program := "ytjjcnijdjhhdoaa", sum := "6845d4a30b14eadbb9c4ba7112b19184274b8684fabc891b02cbe729cad334ce", func := "compeer/compeerlaw19.RatchetGoes", spec := "ratchetGoes", unfollowed := true, recurses := true, plainKeys := false, apart := false }
def RatchetGoesSaid : Prop := ratchetGoesRow.holds Try.pinned (OpenSpec.ofChange ratchetGoesSpec)

/-- ITS FALSE NEIGHBOUR: 'it returns false'. Refute it at one input. -/
def ratchetGoesWrong : ChangeSpec := { name := "ratchetGoes", fn := fun _ => fun
  | [d1, d2] => { results := [.lit (.bool false)], args := [d1, d2] }
  | _ => none }
def RatchetGoesWrongFalsely : Prop := ratchetGoesRow.holds Try.pinned (OpenSpec.ofChange ratchetGoesWrong)

/-- 'compeerlaw19.RatchetTwins': WHATEVER THE INPUT: true; the input reads as it did. -/
def ratchetTwinsSpec : ChangeSpec := { name := "ratchetTwins", fn := fun _ => fun
  | [d1, d2, d3] => { results := [.lit (.bool true)], args := [d1, d2, d3] }
  | _ => none }
def ratchetTwinsRow : OpenClaim := { program := "ytjjcnijdjhhdoaa", sum := "6845d4a30b14eadbb9c4ba7112b19184274b8684fabc891b02cbe729cad334ce", func := "compeer/compeerlaw19.RatchetTwins", spec := "ratchetTwins", unfollowed := true, recurses := true, plainKeys := false, apart := false }
def RatchetTwinsSaid : Prop := ratchetTwinsRow.holds Try.pinned (OpenSpec.ofChange ratchetTwinsSpec)

/-- ITS FALSE NEIGHBOUR: 'it returns false'. Refute it at one input. -/
def ratchetTwinsWrong : ChangeSpec := { name := "ratchetTwins", fn := fun _ => fun
  | [d1, d2, d3] => { results := [.lit (.bool false)], args := [d1, d2, d3] }
  | _ => none }
def RatchetTwinsWrongFalsely : Prop := ratchetTwinsRow.holds Try.pinned (OpenSpec.ofChange ratchetTwinsWrong)

/-- 'compeerlaw08.KnowsMore': WHATEVER THE INPUT: true; the input reads as it did. -/
def knowsMoreSpec : ChangeSpec := { name := "knowsMore", fn := fun _ => fun
  | [d] => { results := [.lit (.bool true)], args := [d] }
  | _ => none }
def knowsMoreRow : OpenClaim := { program := "ytjjcnijdjhhdoaa", sum := "6845d4a30b14eadbb9c4ba7112b19184274b8684fabc891b02cbe729cad334ce", func := "compeer/compeerlaw08.KnowsMore", spec := "knowsMore", unfollowed := true, recurses := true, plainKeys := false, apart := false }
def KnowsMoreSaid : Prop := knowsMoreRow.holds Try.pinned (OpenSpec.ofChange knowsMoreSpec)

/-- ITS FALSE NEIGHBOUR: 'it returns false'. Refute it at one input. -/
def knowsMoreWrong : ChangeSpec := { name := "knowsMore", fn := fun _ => fun
  | [d] => { results := [.lit (.bool false)], args := [d] }
  | _ => none }
def KnowsMoreWrongFalsely : Prop := knowsMoreRow.holds Try.pinned (OpenSpec.ofChange knowsMoreWrong)

/-- 'compeerlaw08.KnowsLate': WHATEVER THE INPUT: true; the input reads as it did. -/
def knowsLateSpec : ChangeSpec := { name := "knowsLate", fn := fun _ => fun
  | [d1, d2] => { results := [.lit (.bool true)], args := [d1, d2] }
  | _ => none }
def knowsLateRow : OpenClaim := { program := "ytjjcnijdjhhdoaa", sum := "6845d4a30b14eadbb9c4ba7112b19184274b8684fabc891b02cbe729cad334ce", func := "compeer/compeerlaw08.KnowsLate", spec := "knowsLate", unfollowed := true, recurses := true, plainKeys := false, apart := false }
def KnowsLateSaid : Prop := knowsLateRow.holds Try.pinned (OpenSpec.ofChange knowsLateSpec)

/-- ITS FALSE NEIGHBOUR: 'it returns false'. Refute it at one input. -/
def knowsLateWrong : ChangeSpec := { name := "knowsLate", fn := fun _ => fun
  | [d1, d2] => { results := [.lit (.bool false)], args := [d1, d2] }
  | _ => none }
def KnowsLateWrongFalsely : Prop := knowsLateRow.holds Try.pinned (OpenSpec.ofChange knowsLateWrong)

/-- 'compeerlaw08.KnowsCloses': WHATEVER THE INPUT: true; the input reads as it did. -/
def knowsClosesSpec : ChangeSpec := { name := "knowsCloses", fn := fun _ => fun
  | [d] => { results := [.lit (.bool true)], args := [d] }
  | _ => none }
def knowsClosesRow : OpenClaim := { program := "ytjjcnijdjhhdoaa", sum := "6845d4a30b14eadbb9c4ba7112b19184274b8684fabc891b02cbe729cad334ce", func := "compeer/compeerlaw08.KnowsCloses", spec := "knowsCloses", unfollowed := true, recurses := true, plainKeys := false, apart := false }
def KnowsClosesSaid : Prop := knowsClosesRow.holds Try.pinned (OpenSpec.ofChange knowsClosesSpec)

/-- ITS FALSE NEIGHBOUR: 'it returns false'. Refute it at one input. -/
def knowsClosesWrong : ChangeSpec := { name := "knowsCloses", fn := fun _ => fun
  | [d] => { results := [.lit (.bool false)], args := [d] }
  | _ => none }
def KnowsClosesWrongFalsely : Prop := knowsClosesRow.holds Try.pinned (OpenSpec.ofChange knowsClosesWrong)

/- THE SECOND FORM. 'bulk': how many values and letters a reading holds, each counted each time it is reached (what is shared counts as often as it is met; a slice's spare places count too). A statement '..UptoSaid' is the law's where the arguments, and the package variables that the reading takes, are together of bulk at most 1048576: NARROWER than '..Said'. Prove '..Said' where nothing that the law and all that it calls make is longer than what came in: it says more and counts as full. Else prove '..UptoSaid'. A law counts once. -/
mutual
def uptoBulk {H : Type} : DataW H → Nat
  | .lit (.string bytes) => bytes.length + 1
  | .lit _ => 1
  | .nil => 1
  | .ptr d => uptoBulk d + 1
  | .slice elems spare => uptoBulkAll elems + uptoBulkAll spare + 1
  | .agg parts => uptoBulkAll parts + 1
  | .iface _ d => uptoBulk d + 1
  | .map entries => uptoBulkEntries entries + 1
  | .held _ => 1
def uptoBulkAll {H : Type} : List (DataW H) → Nat
  | [] => 0
  | d :: r => uptoBulk d + uptoBulkAll r
def uptoBulkEntries {H : Type} : List (Lit × DataW H) → Nat
  | [] => 0
  | x :: r => uptoBulkEntry x + uptoBulkEntries r
def uptoBulkEntry {H : Type} : Lit × DataW H → Nat
  | (.string bytes, d) => bytes.length + uptoBulk d + 1
  | (_, d) => uptoBulk d + 1
 end
def uptoSmall : (H : Type) → List (DataW H) → Bool := fun _ ds => decide (uptoBulkAll ds ≤ 1048576)
def OpenSpec.upto (s : _root_.Go.ChangeSpec) : _root_.Go.OpenSpec := { _root_.Go.OpenSpec.ofChange s with cond := some uptoSmall }

/-- 'compeerlaw05.AesBlocks', WHERE WHAT IT READS IS OF BULK AT MOST 1048576: true; the input reads as it did. -/
def aesBlocksUptoRow : OpenClaim := { program := "ytjjcnijdjhhdoaa", sum := "6845d4a30b14eadbb9c4ba7112b19184274b8684fabc891b02cbe729cad334ce", func := "compeer/compeerlaw05.AesBlocks", spec := "aesBlocks", plainKeys := false, apart := false, narrowed := true }
def AesBlocksUptoSaid : Prop := aesBlocksUptoRow.holds Try.pinned (OpenSpec.upto aesBlocksSpec)

/-- 'compeerlaw05.AesStreams', WHERE WHAT IT READS IS OF BULK AT MOST 1048576: true; the input reads as it did. -/
def aesStreamsUptoRow : OpenClaim := { program := "ytjjcnijdjhhdoaa", sum := "6845d4a30b14eadbb9c4ba7112b19184274b8684fabc891b02cbe729cad334ce", func := "compeer/compeerlaw05.AesStreams", spec := "aesStreams", plainKeys := false, apart := false, narrowed := true }
def AesStreamsUptoSaid : Prop := aesStreamsUptoRow.holds Try.pinned (OpenSpec.upto aesStreamsSpec)

/-- 'compeerlaw05.AesBack', WHERE WHAT IT READS IS OF BULK AT MOST 1048576: true; the input reads as it did. -/
def aesBackUptoRow : OpenClaim := { program := "ytjjcnijdjhhdoaa", sum := "6845d4a30b14eadbb9c4ba7112b19184274b8684fabc891b02cbe729cad334ce", func := "compeer/compeerlaw05.AesBack", spec := "aesBack", plainKeys := false, apart := false, narrowed := true }
def AesBackUptoSaid : Prop := aesBackUptoRow.holds Try.pinned (OpenSpec.upto aesBackSpec)

/-- 'compeerlaw05.AesSteps', WHERE WHAT IT READS IS OF BULK AT MOST 1048576: true; the input reads as it did. -/
def aesStepsUptoRow : OpenClaim := { program := "ytjjcnijdjhhdoaa", sum := "6845d4a30b14eadbb9c4ba7112b19184274b8684fabc891b02cbe729cad334ce", func := "compeer/compeerlaw05.AesSteps", spec := "aesSteps", plainKeys := false, apart := false, narrowed := true }
def AesStepsUptoSaid : Prop := aesStepsUptoRow.holds Try.pinned (OpenSpec.upto aesStepsSpec)

/-- 'compeerlaw07.SymMarks', WHERE WHAT IT READS IS OF BULK AT MOST 1048576: true; the input reads as it did. -/
def symMarksUptoRow : OpenClaim := { program := "ytjjcnijdjhhdoaa", sum := "6845d4a30b14eadbb9c4ba7112b19184274b8684fabc891b02cbe729cad334ce", func := "compeer/compeerlaw07.SymMarks", spec := "symMarks", plainKeys := false, apart := false, narrowed := true }
def SymMarksUptoSaid : Prop := symMarksUptoRow.holds Try.pinned (OpenSpec.upto symMarksSpec)

/-- 'compeerlaw07.SymAgain', WHERE WHAT IT READS IS OF BULK AT MOST 1048576: true; the input reads as it did. -/
def symAgainUptoRow : OpenClaim := { program := "ytjjcnijdjhhdoaa", sum := "6845d4a30b14eadbb9c4ba7112b19184274b8684fabc891b02cbe729cad334ce", func := "compeer/compeerlaw07.SymAgain", spec := "symAgain", unfollowed := true, recurses := true, plainKeys := false, apart := false, narrowed := true }
def SymAgainUptoSaid : Prop := symAgainUptoRow.holds Try.pinned (OpenSpec.upto symAgainSpec)

/-- 'compeerlaw07.SymPlays', WHERE WHAT IT READS IS OF BULK AT MOST 1048576: true; the input reads as it did. -/
def symPlaysUptoRow : OpenClaim := { program := "ytjjcnijdjhhdoaa", sum := "6845d4a30b14eadbb9c4ba7112b19184274b8684fabc891b02cbe729cad334ce", func := "compeer/compeerlaw07.SymPlays", spec := "symPlays", unfollowed := true, recurses := true, plainKeys := false, apart := false, narrowed := true }
def SymPlaysUptoSaid : Prop := symPlaysUptoRow.holds Try.pinned (OpenSpec.upto symPlaysSpec)

/-- 'compeerlaw19.RatchetGoes', WHERE WHAT IT READS IS OF BULK AT MOST 1048576: true; the input reads as it did. -/
def ratchetGoesUptoRow : OpenClaim := { program := "ytjjcnijdjhhdoaa", sum := "6845d4a30b14eadbb9c4ba7112b19184274b8684fabc891b02cbe729cad334ce", func := "compeer/compeerlaw19.RatchetGoes", spec := "ratchetGoes", unfollowed := true, recurses := true, plainKeys := false, apart := false, narrowed := true }
def RatchetGoesUptoSaid : Prop := ratchetGoesUptoRow.holds Try.pinned (OpenSpec.upto ratchetGoesSpec)

/-- 'compeerlaw19.RatchetTwins', WHERE WHAT IT READS IS OF BULK AT MOST 1048576: true; the input reads as it did. -/
def ratchetTwinsUptoRow : OpenClaim := { program := "ytjjcnijdjhhdoaa", sum := "6845d4a30b14eadbb9c4ba7112b19184274b8684fabc891b02cbe729cad334ce", func := "compeer/compeerlaw19.RatchetTwins", spec := "ratchetTwins", unfollowed := true, recurses := true, plainKeys := false, apart := false, narrowed := true }
def RatchetTwinsUptoSaid : Prop := ratchetTwinsUptoRow.holds Try.pinned (OpenSpec.upto ratchetTwinsSpec)

/-- 'compeerlaw08.KnowsMore', WHERE WHAT IT READS IS OF BULK AT MOST 1048576: true; the input reads as it did. -/
def knowsMoreUptoRow : OpenClaim := { program := "ytjjcnijdjhhdoaa", sum := "6845d4a30b14eadbb9c4ba7112b19184274b8684fabc891b02cbe729cad334ce", func := "compeer/compeerlaw08.KnowsMore", spec := "knowsMore", unfollowed := true, recurses := true, plainKeys := false, apart := false, narrowed := true }
def KnowsMoreUptoSaid : Prop := knowsMoreUptoRow.holds Try.pinned (OpenSpec.upto knowsMoreSpec)

/-- 'compeerlaw08.KnowsLate', WHERE WHAT IT READS IS OF BULK AT MOST 1048576: true; the input reads as it did. -/
def knowsLateUptoRow : OpenClaim := { program := "ytjjcnijdjhhdoaa", sum := "6845d4a30b14eadbb9c4ba7112b19184274b8684fabc891b02cbe729cad334ce", func := "compeer/compeerlaw08.KnowsLate", spec := "knowsLate", unfollowed := true, recurses := true, plainKeys := false, apart := false, narrowed := true }
def KnowsLateUptoSaid : Prop := knowsLateUptoRow.holds Try.pinned (OpenSpec.upto knowsLateSpec)

/-- 'compeerlaw08.KnowsCloses', WHERE WHAT IT READS IS OF BULK AT MOST 1048576: true; the input reads as it did. -/
def knowsClosesUptoRow : OpenClaim := { program := "ytjjcnijdjhhdoaa", sum := "6845d4a30b14eadbb9c4ba7112b19184274b8684fabc891b02cbe729cad334ce", func := "compeer/compeerlaw08.KnowsCloses", spec := "knowsCloses", unfollowed := true, recurses := true, plainKeys := false, apart := false, narrowed := true }
def KnowsClosesUptoSaid : Prop := knowsClosesUptoRow.holds Try.pinned (OpenSpec.upto knowsClosesSpec)

end Rows
end Go.Proofs.Ytjjcnijdjhhdoaa
