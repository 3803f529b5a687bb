/-
  DERIVED. GIVEN WITH THE SEED: THE CARDS: each row of YtppfndgghkfkhaaGreatDoorRows.lean that lists a variable, with what it lists TIED to the program's text (the seventh form; the later family's looks); each row that meets fmt, with fmt's text TOLD by the authors' own Lean function (tested against real Go, not proved from fmt's source: count such statements apart). THE CARD IS WHAT COUNTS. Prove the row's statement (the work); the ties are given (YtppfndgghkfkhaaGreatDoorTie.lean); close each card by the builder's one call (the guide's Derived/Test/ToyasCard.lean, 'card_holds'). Laid BY PROGRAM, IN A SANDBOX (cutbox-door.mjs). By AI agents, Wed Nov 11 2026. No macro, syntax, notation, axiom, sorry.
-/
import Derived.Test.YtppfndgghkfkhaaGreatDoorRows
import GoSem.ClaimSeven
namespace Go.Proofs.YtppfndgghkfkhaaGreatDoor
namespace Rows

/-- THE TIED CARD OF 'bulkheadlaw16.KernelNumbers'. -/
def kernelNumbersCard : Claim7 := { stood := { row := kernelNumbersRow, standIns := [], harness := (true, "57847e18b2a575b83069c61ee7b0abb1c8fa40df87a3fed65b59d4c83e2b4df5"), looks := true }, kinds := [], alts := [], laidByText := true, laidKinds := [.data, .data, .data, .data, .handle, .sentinel, .sentinel, .listed, .data, .data, .data, .pinned], laidTests := true, laidLooks := .later }
def KernelNumbersCardSaid : Prop := Claim7.holds Tryz.pinned (.plain (OpenSpec.ofChange kernelNumbersSpec)) kernelNumbersCard

/-- THE SECOND FORM's CARD OF 'bulkheadlaw16.KernelNumbers'. -/
def kernelNumbersUptoCard : Claim7 := { stood := { row := kernelNumbersUptoRow, standIns := [], harness := (true, "57847e18b2a575b83069c61ee7b0abb1c8fa40df87a3fed65b59d4c83e2b4df5"), looks := true }, kinds := [], alts := [], laidByText := true, laidKinds := [.data, .data, .data, .data, .handle, .sentinel, .sentinel, .listed, .data, .data, .data, .pinned], laidTests := true, laidLooks := .later }
def KernelNumbersUptoCardSaid : Prop := Claim7.holds Tryz.pinned (.plain (OpenSpec.upto kernelNumbersSpec)) kernelNumbersUptoCard
end Rows
end Go.Proofs.YtppfndgghkfkhaaGreatDoor
