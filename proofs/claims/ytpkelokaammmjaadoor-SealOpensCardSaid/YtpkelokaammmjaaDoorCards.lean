/-
  DERIVED. GIVEN WITH THE SEED: THE CARDS: each row of YtpkelokaammmjaaDoorRows.lean that lists a variable, with what it lists TIED to the program's text (the seventh form; the later family's looks); each row that meets fmt, with fmt's text TOLD by the authors' own Lean function (tested against real Go, not proved from fmt's source: count such statements apart). THE CARD IS WHAT COUNTS. Prove the row's statement (the work); the ties are given (YtpkelokaammmjaaDoorTie.lean); close each card by the builder's one call (the guide's Derived/Test/ToyasCard.lean, 'card_holds'). Laid BY PROGRAM, IN A SANDBOX (cutbox-door.mjs). By AI agents, Wed Nov 11 2026. No macro, syntax, notation, axiom, sorry.
-/
import Derived.Test.YtpkelokaammmjaaDoorRows
import GoSem.ClaimSeven
namespace Go.Proofs.YtpkelokaammmjaaDoor
namespace Rows

/-- THE TIED CARD OF 'compeerlaw06.SealMakes'. -/
def sealMakesCard : Claim7 := { stood := { row := sealMakesRow, standIns := [], harness := (true, "e7b9034f2301074b325c8164a6a50a9a815a2a934f62b7730be328fd992ece11"), looks := false }, kinds := [], alts := [], laidByText := true, laidKinds := [.data, .data, .data], laidTests := true, laidLooks := .later }
def SealMakesCardSaid : Prop := Claim7.holds Tryd.pinned (.plain (OpenSpec.ofChange sealMakesSpec)) sealMakesCard

/-- THE TIED CARD OF 'compeerlaw06.SealOpens'. -/
def sealOpensCard : Claim7 := { stood := { row := sealOpensRow, standIns := [], harness := (true, "e7b9034f2301074b325c8164a6a50a9a815a2a934f62b7730be328fd992ece11"), looks := false }, kinds := [], alts := [], laidByText := true, laidKinds := [.data, .data, .data], laidTests := true, laidLooks := .later }
def SealOpensCardSaid : Prop := Claim7.holds Tryd.pinned (.plain (OpenSpec.ofChange sealOpensSpec)) sealOpensCard

/-- THE TIED CARD OF 'compeerlaw06.SealApart'. -/
def sealApartCard : Claim7 := { stood := { row := sealApartRow, standIns := [], harness := (true, "e7b9034f2301074b325c8164a6a50a9a815a2a934f62b7730be328fd992ece11"), looks := false }, kinds := [], alts := [], laidByText := true, laidKinds := [.data, .data, .data], laidTests := true, laidLooks := .later }
def SealApartCardSaid : Prop := Claim7.holds Tryd.pinned (.plain (OpenSpec.ofChange sealApartSpec)) sealApartCard

/-- THE SECOND FORM's CARD OF 'compeerlaw06.SealMakes'. -/
def sealMakesUptoCard : Claim7 := { stood := { row := sealMakesUptoRow, standIns := [], harness := (true, "e7b9034f2301074b325c8164a6a50a9a815a2a934f62b7730be328fd992ece11"), looks := false }, kinds := [], alts := [], laidByText := true, laidKinds := [.data, .data, .data], laidTests := true, laidLooks := .later }
def SealMakesUptoCardSaid : Prop := Claim7.holds Tryd.pinned (.plain (OpenSpec.upto sealMakesSpec)) sealMakesUptoCard

/-- THE SECOND FORM's CARD OF 'compeerlaw06.SealOpens'. -/
def sealOpensUptoCard : Claim7 := { stood := { row := sealOpensUptoRow, standIns := [], harness := (true, "e7b9034f2301074b325c8164a6a50a9a815a2a934f62b7730be328fd992ece11"), looks := false }, kinds := [], alts := [], laidByText := true, laidKinds := [.data, .data, .data], laidTests := true, laidLooks := .later }
def SealOpensUptoCardSaid : Prop := Claim7.holds Tryd.pinned (.plain (OpenSpec.upto sealOpensSpec)) sealOpensUptoCard

/-- THE SECOND FORM's CARD OF 'compeerlaw06.SealApart'. -/
def sealApartUptoCard : Claim7 := { stood := { row := sealApartUptoRow, standIns := [], harness := (true, "e7b9034f2301074b325c8164a6a50a9a815a2a934f62b7730be328fd992ece11"), looks := false }, kinds := [], alts := [], laidByText := true, laidKinds := [.data, .data, .data], laidTests := true, laidLooks := .later }
def SealApartUptoCardSaid : Prop := Claim7.holds Tryd.pinned (.plain (OpenSpec.upto sealApartSpec)) sealApartUptoCard
end Rows
end Go.Proofs.YtpkelokaammmjaaDoor
