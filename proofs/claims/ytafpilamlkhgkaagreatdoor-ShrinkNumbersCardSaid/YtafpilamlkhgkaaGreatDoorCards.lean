/-
  DERIVED. GIVEN WITH THE SEED: THE CARDS: each row of YtafpilamlkhgkaaGreatDoorRows.lean that lists a variable, with what it lists TIED to the program's text (the seventh form; the later family's looks); each row that meets fmt, with fmt's text TOLD by the authors' own Lean function (tested against real Go, not proved from fmt's source: count such statements apart). THE CARD IS WHAT COUNTS. Prove the row's statement (the work); the ties are given (YtafpilamlkhgkaaGreatDoorTie.lean); close each card by the builder's one call (the guide's Derived/Test/ToyasCard.lean, 'card_holds'). Laid BY PROGRAM, IN A SANDBOX (cutbox-door.mjs). By AI agents, Wed Nov 11 2026. No macro, syntax, notation, axiom, sorry.
-/
import Derived.Test.YtafpilamlkhgkaaGreatDoorRows
import GoSem.ClaimSeven
namespace Go.Proofs.YtafpilamlkhgkaaGreatDoor
namespace Rows

/-- THE TIED CARD OF 'bulkheadlaw21.TraceEncodes'. -/
def traceEncodesCard : Claim7 := { stood := { row := traceEncodesRow, standIns := [], harness := (true, "54d6848dc6dd5e65f2e4972bb2908e01df99201215d0569aa1ec0c9c7ce256cf"), looks := true }, kinds := [], alts := [], laidByText := true, laidKinds := [.data, .data, .data, .data, .handle, .sentinel, .sentinel, .listed, .data, .data, .data, .pinned], laidTests := true, laidLooks := .later }
def TraceEncodesCardSaid : Prop := Claim7.holds Tryz.pinned (.plain (OpenSpec.ofChange traceEncodesSpec)) traceEncodesCard

/-- THE TIED CARD OF 'bulkheadlaw21.TraceBack'. -/
def traceBackCard : Claim7 := { stood := { row := traceBackRow, standIns := [], harness := (true, "54d6848dc6dd5e65f2e4972bb2908e01df99201215d0569aa1ec0c9c7ce256cf"), looks := true }, kinds := [], alts := [], laidByText := true, laidKinds := [.data, .data, .data, .data, .handle, .sentinel, .sentinel, .listed, .data, .data, .data, .pinned], laidTests := true, laidLooks := .later }
def TraceBackCardSaid : Prop := Claim7.holds Tryz.pinned (.plain (OpenSpec.ofChange traceBackSpec)) traceBackCard

/-- THE TIED CARD OF 'bulkheadlaw22.ShrinkNumbers'. -/
def shrinkNumbersCard : Claim7 := { stood := { row := shrinkNumbersRow, standIns := [], harness := (true, "54d6848dc6dd5e65f2e4972bb2908e01df99201215d0569aa1ec0c9c7ce256cf"), looks := true }, kinds := [], alts := [], laidByText := true, laidKinds := [.data, .data, .data, .data, .handle, .sentinel, .sentinel, .listed, .data, .data, .data, .pinned], laidTests := true, laidLooks := .later }
def ShrinkNumbersCardSaid : Prop := Claim7.holds Tryz.pinned (.plain (OpenSpec.ofChange shrinkNumbersSpec)) shrinkNumbersCard

/-- THE SECOND FORM's CARD OF 'bulkheadlaw21.TraceEncodes'. -/
def traceEncodesUptoCard : Claim7 := { stood := { row := traceEncodesUptoRow, standIns := [], harness := (true, "54d6848dc6dd5e65f2e4972bb2908e01df99201215d0569aa1ec0c9c7ce256cf"), looks := true }, kinds := [], alts := [], laidByText := true, laidKinds := [.data, .data, .data, .data, .handle, .sentinel, .sentinel, .listed, .data, .data, .data, .pinned], laidTests := true, laidLooks := .later }
def TraceEncodesUptoCardSaid : Prop := Claim7.holds Tryz.pinned (.plain (OpenSpec.upto traceEncodesSpec)) traceEncodesUptoCard

/-- THE SECOND FORM's CARD OF 'bulkheadlaw21.TraceBack'. -/
def traceBackUptoCard : Claim7 := { stood := { row := traceBackUptoRow, standIns := [], harness := (true, "54d6848dc6dd5e65f2e4972bb2908e01df99201215d0569aa1ec0c9c7ce256cf"), looks := true }, kinds := [], alts := [], laidByText := true, laidKinds := [.data, .data, .data, .data, .handle, .sentinel, .sentinel, .listed, .data, .data, .data, .pinned], laidTests := true, laidLooks := .later }
def TraceBackUptoCardSaid : Prop := Claim7.holds Tryz.pinned (.plain (OpenSpec.upto traceBackSpec)) traceBackUptoCard

/-- THE SECOND FORM's CARD OF 'bulkheadlaw22.ShrinkNumbers'. -/
def shrinkNumbersUptoCard : Claim7 := { stood := { row := shrinkNumbersUptoRow, standIns := [], harness := (true, "54d6848dc6dd5e65f2e4972bb2908e01df99201215d0569aa1ec0c9c7ce256cf"), looks := true }, kinds := [], alts := [], laidByText := true, laidKinds := [.data, .data, .data, .data, .handle, .sentinel, .sentinel, .listed, .data, .data, .data, .pinned], laidTests := true, laidLooks := .later }
def ShrinkNumbersUptoCardSaid : Prop := Claim7.holds Tryz.pinned (.plain (OpenSpec.upto shrinkNumbersSpec)) shrinkNumbersUptoCard
end Rows
end Go.Proofs.YtafpilamlkhgkaaGreatDoor
