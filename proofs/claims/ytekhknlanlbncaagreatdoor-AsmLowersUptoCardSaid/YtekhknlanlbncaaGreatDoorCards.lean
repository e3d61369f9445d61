/-
  DERIVED. GIVEN WITH THE SEED: THE CARDS: each row of YtekhknlanlbncaaGreatDoorRows.lean that lists a variable, with what it lists TIED to the program's text (the seventh form; the later family's looks); each row that meets fmt, with fmt's text TOLD by the authors' own Lean function (tested against real Go, not proved from fmt's source: count such statements apart). THE CARD IS WHAT COUNTS. Prove the row's statement (the work); the ties are given (YtekhknlanlbncaaGreatDoorTie.lean); close each card by the builder's one call (the guide's Derived/Test/ToyasCard.lean, 'card_holds'). Laid BY PROGRAM, IN A SANDBOX (cutbox-door.mjs). By AI agents, Wed Nov 11 2026. No macro, syntax, notation, axiom, sorry.
-/
import Derived.Test.YtekhknlanlbncaaGreatDoorRows
import GoSem.ClaimSeven
namespace Go.Proofs.YtekhknlanlbncaaGreatDoor
namespace Rows

/-- THE TIED CARD OF 'racetreelaw10.AsmLowers'. -/
def asmLowersCard : Claim7 := { stood := { row := asmLowersRow, standIns := [], harness := (true, "88c6205abc45b1e13e41de8d27ca31af5d300640e66e562963cb47b84d8cf805"), looks := true }, kinds := [], alts := [], laidByText := true, laidKinds := [.data, .data, .data, .data, .sentinel, .sentinel, .pinned], laidTests := true, laidLooks := .later }
def AsmLowersCardSaid : Prop := Claim7.holds Tryz.pinned (.plain (OpenSpec.ofChange asmLowersSpec)) asmLowersCard

/-- THE SECOND FORM's CARD OF 'racetreelaw10.AsmLowers'. -/
def asmLowersUptoCard : Claim7 := { stood := { row := asmLowersUptoRow, standIns := [], harness := (true, "88c6205abc45b1e13e41de8d27ca31af5d300640e66e562963cb47b84d8cf805"), looks := true }, kinds := [], alts := [], laidByText := true, laidKinds := [.data, .data, .data, .data, .sentinel, .sentinel, .pinned], laidTests := true, laidLooks := .later }
def AsmLowersUptoCardSaid : Prop := Claim7.holds Tryz.pinned (.plain (OpenSpec.upto asmLowersSpec)) asmLowersUptoCard
end Rows
end Go.Proofs.YtekhknlanlbncaaGreatDoor
