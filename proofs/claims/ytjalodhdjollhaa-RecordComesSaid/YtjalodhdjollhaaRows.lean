/-
  No cell of these rows narrows 'for every input' (looked for: loops, veiled, ifaces, maps, wideKeys, modest, calm, conditions, laid).
  DERIVED. THE GIVEN ROWS OF THIS SEAT. 4 by the template 'for every input the law returns true; each argument reads behind the call as it read before'; 0 by the template 'total and deterministic' (their statements: YtjalodhdjollhaaTotals.lean).
  GIVEN WITH THE SEED: the statements are not yours to turn. If you find one false, say at which input.
  Laid BY PROGRAM, IN A SANDBOX (cutbox-rows.mjs): the forced cells as the released guide's own fill.sh prints them over the translation edfde2762f6f9d09… (all of the seat's roots in one cut). By AI agents, Wed Nov 11 2026. No macro, syntax, notation, axiom, sorry.
-/
import Derived.Test.YtjalodhdjollhaaChecked
import GoSem.Claim
import GoSem.ClaimJoined
import GoSem.ClaimMapViews
import Derived.JoinedTies
import Derived.KernelRfl
namespace Go.Proofs.Ytjalodhdjollhaa
/- THE CELL 'sum', in the pinned program and in every row, IS THE sha256 OF THE DUMP (.gsa) THAT YtjalodhdjollhaaProg.lean LOADS. Nothing in Lean hashes anything: it is a label: what it is worth is what the hold of that sum in a sandbox is worth. -/
noncomputable def Try.pinned : Pinned := { name := "ytjalodhdjollhaa", sum := "edfde2762f6f9d09c071a73e6b3872da47178551194e0244c43167fd7b116d1e", checked := Try.checked }
namespace Rows
def none {H : Type} : Left H := { results := [], args := [] }

/-- 'compeerlaw20.RecordRoom': WHATEVER THE INPUT: true; the input reads as it did. -/
def recordRoomSpec : ChangeSpec := { name := "recordRoom", fn := fun _ => fun
  | [d] => { results := [.lit (.bool true)], args := [d] }
  | _ => none }
def recordRoomRow : OpenClaim := { program := "ytjalodhdjollhaa", sum := "edfde2762f6f9d09c071a73e6b3872da47178551194e0244c43167fd7b116d1e", func := "compeer/compeerlaw20.RecordRoom", spec := "recordRoom", unfollowed := true, recurses := true, plainKeys := false, apart := false }
def RecordRoomSaid : Prop := recordRoomRow.holds Try.pinned (OpenSpec.ofChange recordRoomSpec)

/-- ITS FALSE NEIGHBOUR: 'it returns false'. Refute it at one input. -/
def recordRoomWrong : ChangeSpec := { name := "recordRoom", fn := fun _ => fun
  | [d] => { results := [.lit (.bool false)], args := [d] }
  | _ => none }
def RecordRoomWrongFalsely : Prop := recordRoomRow.holds Try.pinned (OpenSpec.ofChange recordRoomWrong)

/-- 'compeerlaw20.RecordPrefix': WHATEVER THE INPUT: true; the input reads as it did. -/
def recordPrefixSpec : ChangeSpec := { name := "recordPrefix", fn := fun _ => fun
  | [d] => { results := [.lit (.bool true)], args := [d] }
  | _ => none }
def recordPrefixRow : OpenClaim := { program := "ytjalodhdjollhaa", sum := "edfde2762f6f9d09c071a73e6b3872da47178551194e0244c43167fd7b116d1e", func := "compeer/compeerlaw20.RecordPrefix", spec := "recordPrefix", unfollowed := true, recurses := true, plainKeys := false, apart := false }
def RecordPrefixSaid : Prop := recordPrefixRow.holds Try.pinned (OpenSpec.ofChange recordPrefixSpec)

/-- ITS FALSE NEIGHBOUR: 'it returns false'. Refute it at one input. -/
def recordPrefixWrong : ChangeSpec := { name := "recordPrefix", fn := fun _ => fun
  | [d] => { results := [.lit (.bool false)], args := [d] }
  | _ => none }
def RecordPrefixWrongFalsely : Prop := recordPrefixRow.holds Try.pinned (OpenSpec.ofChange recordPrefixWrong)

/-- 'compeerlaw20.RecordComes': WHATEVER THE INPUT: true; the input reads as it did. -/
def recordComesSpec : ChangeSpec := { name := "recordComes", fn := fun _ => fun
  | [d] => { results := [.lit (.bool true)], args := [d] }
  | _ => none }
def recordComesRow : OpenClaim := { program := "ytjalodhdjollhaa", sum := "edfde2762f6f9d09c071a73e6b3872da47178551194e0244c43167fd7b116d1e", func := "compeer/compeerlaw20.RecordComes", spec := "recordComes", unfollowed := true, recurses := true, plainKeys := false, apart := false }
def RecordComesSaid : Prop := recordComesRow.holds Try.pinned (OpenSpec.ofChange recordComesSpec)

/-- ITS FALSE NEIGHBOUR: 'it returns false'. Refute it at one input. -/
def recordComesWrong : ChangeSpec := { name := "recordComes", fn := fun _ => fun
  | [d] => { results := [.lit (.bool false)], args := [d] }
  | _ => none }
def RecordComesWrongFalsely : Prop := recordComesRow.holds Try.pinned (OpenSpec.ofChange recordComesWrong)

/-- 'compeerlaw20.RecordCloses': WHATEVER THE INPUT: true; the input reads as it did. -/
def recordClosesSpec : ChangeSpec := { name := "recordCloses", fn := fun _ => fun
  | [d1, d2] => { results := [.lit (.bool true)], args := [d1, d2] }
  | _ => none }
def recordClosesRow : OpenClaim := { program := "ytjalodhdjollhaa", sum := "edfde2762f6f9d09c071a73e6b3872da47178551194e0244c43167fd7b116d1e", func := "compeer/compeerlaw20.RecordCloses", spec := "recordCloses", unfollowed := true, recurses := true, plainKeys := false, apart := false }
def RecordClosesSaid : Prop := recordClosesRow.holds Try.pinned (OpenSpec.ofChange recordClosesSpec)

/-- ITS FALSE NEIGHBOUR: 'it returns false'. Refute it at one input. -/
def recordClosesWrong : ChangeSpec := { name := "recordCloses", fn := fun _ => fun
  | [d1, d2] => { results := [.lit (.bool false)], args := [d1, d2] }
  | _ => none }
def RecordClosesWrongFalsely : Prop := recordClosesRow.holds Try.pinned (OpenSpec.ofChange recordClosesWrong)

/- THE SECOND FORM. 'bulk': how many values and letters a reading holds, each counted each time it is reached (what is shared counts as often as it is met; a slice's spare places count too). A statement '..UptoSaid' is the law's where the arguments, and the package variables that the reading takes, are together of bulk at most 1048576: NARROWER than '..Said'. Prove '..Said' where nothing that the law and all that it calls make is longer than what came in: it says more and counts as full. Else prove '..UptoSaid'. A law counts once. -/
mutual
def uptoBulk {H : Type} : DataW H → Nat
  | .lit (.string bytes) => bytes.length + 1
  | .lit _ => 1
  | .nil => 1
  | .ptr d => uptoBulk d + 1
  | .slice elems spare => uptoBulkAll elems + uptoBulkAll spare + 1
  | .agg parts => uptoBulkAll parts + 1
  | .iface _ d => uptoBulk d + 1
  | .map entries => uptoBulkEntries entries + 1
  | .held _ => 1
def uptoBulkAll {H : Type} : List (DataW H) → Nat
  | [] => 0
  | d :: r => uptoBulk d + uptoBulkAll r
def uptoBulkEntries {H : Type} : List (Lit × DataW H) → Nat
  | [] => 0
  | x :: r => uptoBulkEntry x + uptoBulkEntries r
def uptoBulkEntry {H : Type} : Lit × DataW H → Nat
  | (.string bytes, d) => bytes.length + uptoBulk d + 1
  | (_, d) => uptoBulk d + 1
 end
def uptoSmall : (H : Type) → List (DataW H) → Bool := fun _ ds => decide (uptoBulkAll ds ≤ 1048576)
def OpenSpec.upto (s : _root_.Go.ChangeSpec) : _root_.Go.OpenSpec := { _root_.Go.OpenSpec.ofChange s with cond := some uptoSmall }

/-- 'compeerlaw20.RecordRoom', WHERE WHAT IT READS IS OF BULK AT MOST 1048576: true; the input reads as it did. -/
def recordRoomUptoRow : OpenClaim := { program := "ytjalodhdjollhaa", sum := "edfde2762f6f9d09c071a73e6b3872da47178551194e0244c43167fd7b116d1e", func := "compeer/compeerlaw20.RecordRoom", spec := "recordRoom", unfollowed := true, recurses := true, plainKeys := false, apart := false, narrowed := true }
def RecordRoomUptoSaid : Prop := recordRoomUptoRow.holds Try.pinned (OpenSpec.upto recordRoomSpec)

/-- 'compeerlaw20.RecordPrefix', WHERE WHAT IT READS IS OF BULK AT MOST 1048576: true; the input reads as it did. -/
def recordPrefixUptoRow : OpenClaim := { program := "ytjalodhdjollhaa", sum := "edfde2762f6f9d09c071a73e6b3872da47178551194e0244c43167fd7b116d1e", func := "compeer/compeerlaw20.RecordPrefix", spec := "recordPrefix", unfollowed := true, recurses := true, plainKeys := false, apart := false, narrowed := true }
def RecordPrefixUptoSaid : Prop := recordPrefixUptoRow.holds Try.pinned (OpenSpec.upto recordPrefixSpec)

/-- 'compeerlaw20.RecordComes', WHERE WHAT IT READS IS OF BULK AT MOST 1048576: true; the input reads as it did. -/
def recordComesUptoRow : OpenClaim := { program := "ytjalodhdjollhaa", sum := "edfde2762f6f9d09c071a73e6b3872da47178551194e0244c43167fd7b116d1e", func := "compeer/compeerlaw20.RecordComes", spec := "recordComes", unfollowed := true, recurses := true, plainKeys := false, apart := false, narrowed := true }
def RecordComesUptoSaid : Prop := recordComesUptoRow.holds Try.pinned (OpenSpec.upto recordComesSpec)

/-- 'compeerlaw20.RecordCloses', WHERE WHAT IT READS IS OF BULK AT MOST 1048576: true; the input reads as it did. -/
def recordClosesUptoRow : OpenClaim := { program := "ytjalodhdjollhaa", sum := "edfde2762f6f9d09c071a73e6b3872da47178551194e0244c43167fd7b116d1e", func := "compeer/compeerlaw20.RecordCloses", spec := "recordCloses", unfollowed := true, recurses := true, plainKeys := false, apart := false, narrowed := true }
def RecordClosesUptoSaid : Prop := recordClosesUptoRow.holds Try.pinned (OpenSpec.upto recordClosesSpec)

end Rows
end Go.Proofs.Ytjalodhdjollhaa
