/-
  DERIVED. GIVEN WITH THE SEED: THE CARDS: each row of YtnjaffjkdeelhaaGreatDoorRows.lean that lists a variable, with what it lists TIED to the program's text (the seventh form; the later family's looks); each row that meets fmt, with fmt's text TOLD by the authors' own Lean function (tested against real Go, not proved from fmt's source: count such statements apart). THE CARD IS WHAT COUNTS. Prove the row's statement (the work); the ties are given (YtnjaffjkdeelhaaGreatDoorTie.lean); close each card by the builder's one call (the guide's Derived/Test/ToyasCard.lean, 'card_holds'). Laid BY PROGRAM, IN A SANDBOX (cutbox-door.mjs). By AI agents, Wed Nov 11 2026. No macro, syntax, notation, axiom, sorry.
-/
import Derived.Test.YtnjaffjkdeelhaaGreatDoorRows
import GoSem.ClaimSeven
namespace Go.Proofs.YtnjaffjkdeelhaaGreatDoor
namespace Rows

/-- THE TIED CARD OF 'racetreelaw06.CheckSays'. -/
def checkSaysCard : Claim7 := { stood := { row := checkSaysRow, standIns := [], harness := (true, "76a55a26790133e0d6b991b400d8682c9ff1c90d51c4f02d2618156f71714d85"), looks := true }, kinds := [], alts := [], laidByText := true, laidKinds := [.data, .data, .data, .data, .sentinel, .sentinel, .pinned], laidTests := true, laidLooks := .later }
def CheckSaysCardSaid : Prop := Claim7.holds Tryz.pinned (.plain (OpenSpec.ofChange checkSaysSpec)) checkSaysCard

/-- THE TIED CARD OF 'racetreelaw06.CheckRight'. -/
def checkRightCard : Claim7 := { stood := { row := checkRightRow, standIns := [], harness := (true, "76a55a26790133e0d6b991b400d8682c9ff1c90d51c4f02d2618156f71714d85"), looks := true }, kinds := [], alts := [], laidByText := true, laidKinds := [.data, .data, .data, .data, .sentinel, .sentinel, .pinned], laidTests := true, laidLooks := .later }
def CheckRightCardSaid : Prop := Claim7.holds Tryz.pinned (.plain (OpenSpec.ofChange checkRightSpec)) checkRightCard

/-- THE TIED CARD OF 'racetreelaw06.CheckRenames'. -/
def checkRenamesCard : Claim7 := { stood := { row := checkRenamesRow, standIns := [], harness := (true, "76a55a26790133e0d6b991b400d8682c9ff1c90d51c4f02d2618156f71714d85"), looks := true }, kinds := [], alts := [], laidByText := true, laidKinds := [.data, .data, .data, .data, .sentinel, .sentinel, .pinned], laidTests := true, laidLooks := .later }
def CheckRenamesCardSaid : Prop := Claim7.holds Tryz.pinned (.plain (OpenSpec.ofChange checkRenamesSpec)) checkRenamesCard

/-- THE TIED CARD OF 'racetreelaw06.CheckNamed'. -/
def checkNamedCard : Claim7 := { stood := { row := checkNamedRow, standIns := [], harness := (true, "76a55a26790133e0d6b991b400d8682c9ff1c90d51c4f02d2618156f71714d85"), looks := true }, kinds := [], alts := [], laidByText := true, laidKinds := [.data, .data, .data, .data, .sentinel, .sentinel, .pinned], laidTests := true, laidLooks := .later }
def CheckNamedCardSaid : Prop := Claim7.holds Tryz.pinned (.plain (OpenSpec.ofChange checkNamedSpec)) checkNamedCard

/-- THE TIED CARD OF 'racetreelaw06.CheckBack'. -/
def checkBackCard : Claim7 := { stood := { row := checkBackRow, standIns := [], harness := (true, "76a55a26790133e0d6b991b400d8682c9ff1c90d51c4f02d2618156f71714d85"), looks := true }, kinds := [], alts := [], laidByText := true, laidKinds := [.data, .data, .data, .data, .sentinel, .sentinel, .pinned], laidTests := true, laidLooks := .later }
def CheckBackCardSaid : Prop := Claim7.holds Tryz.pinned (.plain (OpenSpec.ofChange checkBackSpec)) checkBackCard

/-- THE SECOND FORM's CARD OF 'racetreelaw06.CheckSays'. -/
def checkSaysUptoCard : Claim7 := { stood := { row := checkSaysUptoRow, standIns := [], harness := (true, "76a55a26790133e0d6b991b400d8682c9ff1c90d51c4f02d2618156f71714d85"), looks := true }, kinds := [], alts := [], laidByText := true, laidKinds := [.data, .data, .data, .data, .sentinel, .sentinel, .pinned], laidTests := true, laidLooks := .later }
def CheckSaysUptoCardSaid : Prop := Claim7.holds Tryz.pinned (.plain (OpenSpec.upto checkSaysSpec)) checkSaysUptoCard

/-- THE SECOND FORM's CARD OF 'racetreelaw06.CheckRight'. -/
def checkRightUptoCard : Claim7 := { stood := { row := checkRightUptoRow, standIns := [], harness := (true, "76a55a26790133e0d6b991b400d8682c9ff1c90d51c4f02d2618156f71714d85"), looks := true }, kinds := [], alts := [], laidByText := true, laidKinds := [.data, .data, .data, .data, .sentinel, .sentinel, .pinned], laidTests := true, laidLooks := .later }
def CheckRightUptoCardSaid : Prop := Claim7.holds Tryz.pinned (.plain (OpenSpec.upto checkRightSpec)) checkRightUptoCard

/-- THE SECOND FORM's CARD OF 'racetreelaw06.CheckRenames'. -/
def checkRenamesUptoCard : Claim7 := { stood := { row := checkRenamesUptoRow, standIns := [], harness := (true, "76a55a26790133e0d6b991b400d8682c9ff1c90d51c4f02d2618156f71714d85"), looks := true }, kinds := [], alts := [], laidByText := true, laidKinds := [.data, .data, .data, .data, .sentinel, .sentinel, .pinned], laidTests := true, laidLooks := .later }
def CheckRenamesUptoCardSaid : Prop := Claim7.holds Tryz.pinned (.plain (OpenSpec.upto checkRenamesSpec)) checkRenamesUptoCard

/-- THE SECOND FORM's CARD OF 'racetreelaw06.CheckNamed'. -/
def checkNamedUptoCard : Claim7 := { stood := { row := checkNamedUptoRow, standIns := [], harness := (true, "76a55a26790133e0d6b991b400d8682c9ff1c90d51c4f02d2618156f71714d85"), looks := true }, kinds := [], alts := [], laidByText := true, laidKinds := [.data, .data, .data, .data, .sentinel, .sentinel, .pinned], laidTests := true, laidLooks := .later }
def CheckNamedUptoCardSaid : Prop := Claim7.holds Tryz.pinned (.plain (OpenSpec.upto checkNamedSpec)) checkNamedUptoCard

/-- THE SECOND FORM's CARD OF 'racetreelaw06.CheckBack'. -/
def checkBackUptoCard : Claim7 := { stood := { row := checkBackUptoRow, standIns := [], harness := (true, "76a55a26790133e0d6b991b400d8682c9ff1c90d51c4f02d2618156f71714d85"), looks := true }, kinds := [], alts := [], laidByText := true, laidKinds := [.data, .data, .data, .data, .sentinel, .sentinel, .pinned], laidTests := true, laidLooks := .later }
def CheckBackUptoCardSaid : Prop := Claim7.holds Tryz.pinned (.plain (OpenSpec.upto checkBackSpec)) checkBackUptoCard
end Rows
end Go.Proofs.YtnjaffjkdeelhaaGreatDoor
