/-
  DERIVED. GIVEN WITH THE SEED: THE CARDS: each row of YtcmhkcpheehlhaaGreatDoorRows.lean that lists a variable, with what it lists TIED to the program's text (the seventh form; the later family's looks); each row that meets fmt, with fmt's text TOLD by the authors' own Lean function (tested against real Go, not proved from fmt's source: count such statements apart). THE CARD IS WHAT COUNTS. Prove the row's statement (the work); the ties are given (YtcmhkcpheehlhaaGreatDoorTie.lean); close each card by the builder's one call (the guide's Derived/Test/ToyasCard.lean, 'card_holds'). Laid BY PROGRAM, IN A SANDBOX (cutbox-door.mjs). By AI agents, Wed Nov 11 2026. No macro, syntax, notation, axiom, sorry.
-/
import Derived.Test.YtcmhkcpheehlhaaGreatDoorRows
import GoSem.ClaimSeven
namespace Go.Proofs.YtcmhkcpheehlhaaGreatDoor
namespace Rows

/-- THE TIED CARD OF 'racetreelaw04.ParseStops'. -/
def parseStopsCard : Claim7 := { stood := { row := parseStopsRow, standIns := [], harness := (true, "be89b71fe3c48aa7325df053f0d7b48e04cdea476750ed85ab74434db45ed331"), looks := true }, kinds := [], alts := [], laidByText := true, laidKinds := [.data, .data, .data, .data, .sentinel, .sentinel, .pinned], laidTests := true, laidLooks := .later }
def ParseStopsCardSaid : Prop := Claim7.holds Tryz.pinned (.plain (OpenSpec.ofChange parseStopsSpec)) parseStopsCard

/-- THE TIED CARD OF 'racetreelaw04.ParseBlanks'. -/
def parseBlanksCard : Claim7 := { stood := { row := parseBlanksRow, standIns := [], harness := (true, "be89b71fe3c48aa7325df053f0d7b48e04cdea476750ed85ab74434db45ed331"), looks := true }, kinds := [], alts := [], laidByText := true, laidKinds := [.data, .data, .data, .data, .sentinel, .sentinel, .pinned], laidTests := true, laidLooks := .later }
def ParseBlanksCardSaid : Prop := Claim7.holds Tryz.pinned (.plain (OpenSpec.ofChange parseBlanksSpec)) parseBlanksCard

/-- THE TIED CARD OF 'racetreelaw04.ParseJoins'. -/
def parseJoinsCard : Claim7 := { stood := { row := parseJoinsRow, standIns := [], harness := (true, "be89b71fe3c48aa7325df053f0d7b48e04cdea476750ed85ab74434db45ed331"), looks := true }, kinds := [], alts := [], laidByText := true, laidKinds := [.data, .data, .data, .data, .sentinel, .sentinel, .pinned], laidTests := true, laidLooks := .later }
def ParseJoinsCardSaid : Prop := Claim7.holds Tryz.pinned (.plain (OpenSpec.ofChange parseJoinsSpec)) parseJoinsCard

/-- THE TIED CARD OF 'racetreelaw04.ParseRight'. -/
def parseRightCard : Claim7 := { stood := { row := parseRightRow, standIns := [], harness := (true, "be89b71fe3c48aa7325df053f0d7b48e04cdea476750ed85ab74434db45ed331"), looks := true }, kinds := [], alts := [], laidByText := true, laidKinds := [.data, .data, .data, .data, .sentinel, .sentinel, .pinned], laidTests := true, laidLooks := .later }
def ParseRightCardSaid : Prop := Claim7.holds Tryz.pinned (.plain (OpenSpec.ofChange parseRightSpec)) parseRightCard

/-- THE TIED CARD OF 'racetreelaw05.ShowWrites'. -/
def showWritesCard : Claim7 := { stood := { row := showWritesRow, standIns := [], harness := (true, "be89b71fe3c48aa7325df053f0d7b48e04cdea476750ed85ab74434db45ed331"), looks := true }, kinds := [], alts := [], laidByText := true, laidKinds := [.data, .data, .data, .data, .sentinel, .sentinel, .pinned], laidTests := true, laidLooks := .later }
def ShowWritesCardSaid : Prop := Claim7.holds Tryz.pinned (.plain (OpenSpec.ofChange showWritesSpec)) showWritesCard

/-- THE TIED CARD OF 'racetreelaw05.ShowBack'. -/
def showBackCard : Claim7 := { stood := { row := showBackRow, standIns := [], harness := (true, "be89b71fe3c48aa7325df053f0d7b48e04cdea476750ed85ab74434db45ed331"), looks := true }, kinds := [], alts := [], laidByText := true, laidKinds := [.data, .data, .data, .data, .sentinel, .sentinel, .pinned], laidTests := true, laidLooks := .later }
def ShowBackCardSaid : Prop := Claim7.holds Tryz.pinned (.plain (OpenSpec.ofChange showBackSpec)) showBackCard

/-- THE TIED CARD OF 'racetreelaw05.ShowAgain'. -/
def showAgainCard : Claim7 := { stood := { row := showAgainRow, standIns := [], harness := (true, "be89b71fe3c48aa7325df053f0d7b48e04cdea476750ed85ab74434db45ed331"), looks := true }, kinds := [], alts := [], laidByText := true, laidKinds := [.data, .data, .data, .data, .sentinel, .sentinel, .pinned], laidTests := true, laidLooks := .later }
def ShowAgainCardSaid : Prop := Claim7.holds Tryz.pinned (.plain (OpenSpec.ofChange showAgainSpec)) showAgainCard

/-- THE TIED CARD OF 'racetreelaw05.ShowTight'. -/
def showTightCard : Claim7 := { stood := { row := showTightRow, standIns := [], harness := (true, "be89b71fe3c48aa7325df053f0d7b48e04cdea476750ed85ab74434db45ed331"), looks := true }, kinds := [], alts := [], laidByText := true, laidKinds := [.data, .data, .data, .data, .sentinel, .sentinel, .pinned], laidTests := true, laidLooks := .later }
def ShowTightCardSaid : Prop := Claim7.holds Tryz.pinned (.plain (OpenSpec.ofChange showTightSpec)) showTightCard

/-- THE SECOND FORM's CARD OF 'racetreelaw04.ParseStops'. -/
def parseStopsUptoCard : Claim7 := { stood := { row := parseStopsUptoRow, standIns := [], harness := (true, "be89b71fe3c48aa7325df053f0d7b48e04cdea476750ed85ab74434db45ed331"), looks := true }, kinds := [], alts := [], laidByText := true, laidKinds := [.data, .data, .data, .data, .sentinel, .sentinel, .pinned], laidTests := true, laidLooks := .later }
def ParseStopsUptoCardSaid : Prop := Claim7.holds Tryz.pinned (.plain (OpenSpec.upto parseStopsSpec)) parseStopsUptoCard

/-- THE SECOND FORM's CARD OF 'racetreelaw04.ParseBlanks'. -/
def parseBlanksUptoCard : Claim7 := { stood := { row := parseBlanksUptoRow, standIns := [], harness := (true, "be89b71fe3c48aa7325df053f0d7b48e04cdea476750ed85ab74434db45ed331"), looks := true }, kinds := [], alts := [], laidByText := true, laidKinds := [.data, .data, .data, .data, .sentinel, .sentinel, .pinned], laidTests := true, laidLooks := .later }
def ParseBlanksUptoCardSaid : Prop := Claim7.holds Tryz.pinned (.plain (OpenSpec.upto parseBlanksSpec)) parseBlanksUptoCard

/-- THE SECOND FORM's CARD OF 'racetreelaw04.ParseJoins'. -/
def parseJoinsUptoCard : Claim7 := { stood := { row := parseJoinsUptoRow, standIns := [], harness := (true, "be89b71fe3c48aa7325df053f0d7b48e04cdea476750ed85ab74434db45ed331"), looks := true }, kinds := [], alts := [], laidByText := true, laidKinds := [.data, .data, .data, .data, .sentinel, .sentinel, .pinned], laidTests := true, laidLooks := .later }
def ParseJoinsUptoCardSaid : Prop := Claim7.holds Tryz.pinned (.plain (OpenSpec.upto parseJoinsSpec)) parseJoinsUptoCard

/-- THE SECOND FORM's CARD OF 'racetreelaw04.ParseRight'. -/
def parseRightUptoCard : Claim7 := { stood := { row := parseRightUptoRow, standIns := [], harness := (true, "be89b71fe3c48aa7325df053f0d7b48e04cdea476750ed85ab74434db45ed331"), looks := true }, kinds := [], alts := [], laidByText := true, laidKinds := [.data, .data, .data, .data, .sentinel, .sentinel, .pinned], laidTests := true, laidLooks := .later }
def ParseRightUptoCardSaid : Prop := Claim7.holds Tryz.pinned (.plain (OpenSpec.upto parseRightSpec)) parseRightUptoCard

/-- THE SECOND FORM's CARD OF 'racetreelaw05.ShowWrites'. -/
def showWritesUptoCard : Claim7 := { stood := { row := showWritesUptoRow, standIns := [], harness := (true, "be89b71fe3c48aa7325df053f0d7b48e04cdea476750ed85ab74434db45ed331"), looks := true }, kinds := [], alts := [], laidByText := true, laidKinds := [.data, .data, .data, .data, .sentinel, .sentinel, .pinned], laidTests := true, laidLooks := .later }
def ShowWritesUptoCardSaid : Prop := Claim7.holds Tryz.pinned (.plain (OpenSpec.upto showWritesSpec)) showWritesUptoCard

/-- THE SECOND FORM's CARD OF 'racetreelaw05.ShowBack'. -/
def showBackUptoCard : Claim7 := { stood := { row := showBackUptoRow, standIns := [], harness := (true, "be89b71fe3c48aa7325df053f0d7b48e04cdea476750ed85ab74434db45ed331"), looks := true }, kinds := [], alts := [], laidByText := true, laidKinds := [.data, .data, .data, .data, .sentinel, .sentinel, .pinned], laidTests := true, laidLooks := .later }
def ShowBackUptoCardSaid : Prop := Claim7.holds Tryz.pinned (.plain (OpenSpec.upto showBackSpec)) showBackUptoCard

/-- THE SECOND FORM's CARD OF 'racetreelaw05.ShowAgain'. -/
def showAgainUptoCard : Claim7 := { stood := { row := showAgainUptoRow, standIns := [], harness := (true, "be89b71fe3c48aa7325df053f0d7b48e04cdea476750ed85ab74434db45ed331"), looks := true }, kinds := [], alts := [], laidByText := true, laidKinds := [.data, .data, .data, .data, .sentinel, .sentinel, .pinned], laidTests := true, laidLooks := .later }
def ShowAgainUptoCardSaid : Prop := Claim7.holds Tryz.pinned (.plain (OpenSpec.upto showAgainSpec)) showAgainUptoCard

/-- THE SECOND FORM's CARD OF 'racetreelaw05.ShowTight'. -/
def showTightUptoCard : Claim7 := { stood := { row := showTightUptoRow, standIns := [], harness := (true, "be89b71fe3c48aa7325df053f0d7b48e04cdea476750ed85ab74434db45ed331"), looks := true }, kinds := [], alts := [], laidByText := true, laidKinds := [.data, .data, .data, .data, .sentinel, .sentinel, .pinned], laidTests := true, laidLooks := .later }
def ShowTightUptoCardSaid : Prop := Claim7.holds Tryz.pinned (.plain (OpenSpec.upto showTightSpec)) showTightUptoCard
end Rows
end Go.Proofs.YtcmhkcpheehlhaaGreatDoor
