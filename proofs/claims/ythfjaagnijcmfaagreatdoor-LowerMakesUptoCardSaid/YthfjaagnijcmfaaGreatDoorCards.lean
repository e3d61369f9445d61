/-
  DERIVED. GIVEN WITH THE SEED: THE CARDS: each row of YthfjaagnijcmfaaGreatDoorRows.lean that lists a variable, with what it lists TIED to the program's text (the seventh form; the later family's looks); each row that meets fmt, with fmt's text TOLD by the authors' own Lean function (tested against real Go, not proved from fmt's source: count such statements apart). THE CARD IS WHAT COUNTS. Prove the row's statement (the work); the ties are given (YthfjaagnijcmfaaGreatDoorTie.lean); close each card by the builder's one call (the guide's Derived/Test/ToyasCard.lean, 'card_holds'). Laid BY PROGRAM, IN A SANDBOX (cutbox-door.mjs). By AI agents, Wed Nov 11 2026. No macro, syntax, notation, axiom, sorry.
-/
import Derived.Test.YthfjaagnijcmfaaGreatDoorRows
import GoSem.ClaimSeven
namespace Go.Proofs.YthfjaagnijcmfaaGreatDoor
namespace Rows

/-- THE TIED CARD OF 'racetreelaw09.LowerMakes'. -/
def lowerMakesCard : Claim7 := { stood := { row := lowerMakesRow, standIns := [], harness := (true, "361da7f0e474932045f5bbfebac0d7e093dfe8ac11cdd5a9468190b136620aab"), looks := true }, kinds := [], alts := [], laidByText := true, laidKinds := [.data, .data, .data, .data, .sentinel, .sentinel, .pinned], laidTests := true, laidLooks := .later }
def LowerMakesCardSaid : Prop := Claim7.holds Tryz.pinned (.plain (OpenSpec.ofChange lowerMakesSpec)) lowerMakesCard

/-- THE TIED CARD OF 'racetreelaw09.LowerKeeps'. -/
def lowerKeepsCard : Claim7 := { stood := { row := lowerKeepsRow, standIns := [], harness := (true, "361da7f0e474932045f5bbfebac0d7e093dfe8ac11cdd5a9468190b136620aab"), looks := true }, kinds := [], alts := [], laidByText := true, laidKinds := [.data, .data, .data, .data, .sentinel, .sentinel, .pinned], laidTests := true, laidLooks := .later }
def LowerKeepsCardSaid : Prop := Claim7.holds Tryz.pinned (.plain (OpenSpec.ofChange lowerKeepsSpec)) lowerKeepsCard

/-- THE TIED CARD OF 'racetreelaw09.LowerSmall'. -/
def lowerSmallCard : Claim7 := { stood := { row := lowerSmallRow, standIns := [], harness := (true, "361da7f0e474932045f5bbfebac0d7e093dfe8ac11cdd5a9468190b136620aab"), looks := true }, kinds := [], alts := [], laidByText := true, laidKinds := [.data, .data, .data, .data, .sentinel, .sentinel, .pinned], laidTests := true, laidLooks := .later }
def LowerSmallCardSaid : Prop := Claim7.holds Tryz.pinned (.plain (OpenSpec.ofChange lowerSmallSpec)) lowerSmallCard

/-- THE SECOND FORM's CARD OF 'racetreelaw09.LowerMakes'. -/
def lowerMakesUptoCard : Claim7 := { stood := { row := lowerMakesUptoRow, standIns := [], harness := (true, "361da7f0e474932045f5bbfebac0d7e093dfe8ac11cdd5a9468190b136620aab"), looks := true }, kinds := [], alts := [], laidByText := true, laidKinds := [.data, .data, .data, .data, .sentinel, .sentinel, .pinned], laidTests := true, laidLooks := .later }
def LowerMakesUptoCardSaid : Prop := Claim7.holds Tryz.pinned (.plain (OpenSpec.upto lowerMakesSpec)) lowerMakesUptoCard

/-- THE SECOND FORM's CARD OF 'racetreelaw09.LowerKeeps'. -/
def lowerKeepsUptoCard : Claim7 := { stood := { row := lowerKeepsUptoRow, standIns := [], harness := (true, "361da7f0e474932045f5bbfebac0d7e093dfe8ac11cdd5a9468190b136620aab"), looks := true }, kinds := [], alts := [], laidByText := true, laidKinds := [.data, .data, .data, .data, .sentinel, .sentinel, .pinned], laidTests := true, laidLooks := .later }
def LowerKeepsUptoCardSaid : Prop := Claim7.holds Tryz.pinned (.plain (OpenSpec.upto lowerKeepsSpec)) lowerKeepsUptoCard

/-- THE SECOND FORM's CARD OF 'racetreelaw09.LowerSmall'. -/
def lowerSmallUptoCard : Claim7 := { stood := { row := lowerSmallUptoRow, standIns := [], harness := (true, "361da7f0e474932045f5bbfebac0d7e093dfe8ac11cdd5a9468190b136620aab"), looks := true }, kinds := [], alts := [], laidByText := true, laidKinds := [.data, .data, .data, .data, .sentinel, .sentinel, .pinned], laidTests := true, laidLooks := .later }
def LowerSmallUptoCardSaid : Prop := Claim7.holds Tryz.pinned (.plain (OpenSpec.upto lowerSmallSpec)) lowerSmallUptoCard
end Rows
end Go.Proofs.YthfjaagnijcmfaaGreatDoor
