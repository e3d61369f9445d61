/-
  DERIVED. GIVEN WITH THE SEED: THE CARDS: each row of YtklifkfofobamaaDoorRows.lean that lists a variable, with what it lists TIED to the program's text (the seventh form; the later family's looks); each row that meets fmt, with fmt's text TOLD by the authors' own Lean function (tested against real Go, not proved from fmt's source: count such statements apart). THE CARD IS WHAT COUNTS. Prove the row's statement (the work); the ties are given (YtklifkfofobamaaDoorTie.lean); close each card by the builder's one call (the guide's Derived/Test/ToyasCard.lean, 'card_holds'). Laid BY PROGRAM, IN A SANDBOX (cutbox-door.mjs). By AI agents, Wed Nov 11 2026. No macro, syntax, notation, axiom, sorry.
-/
import Derived.Test.YtklifkfofobamaaDoorRows
import GoSem.ClaimSeven
namespace Go.Proofs.YtklifkfofobamaaDoor
namespace Rows

/-- THE TIED CARD OF 'racetreelaw10.AsmRight'. -/
def asmRightCard : Claim7 := { stood := { row := asmRightRow, standIns := [], harness := (true, "20032bb3bed23d0a9ce285c2f03441fe6547a1160322fe9a11b5f5c24a50e85a"), looks := true }, kinds := [], alts := [], laidByText := true, laidKinds := [.data, .data, .data, .data, .sentinel, .sentinel, .pinned], laidTests := true, laidLooks := .later }
def AsmRightCardSaid : Prop := Claim7.holds Tryd.pinned (.plain (OpenSpec.ofChange asmRightSpec)) asmRightCard

/-- THE TIED CARD OF 'racetreelaw10.AsmPrints'. -/
def asmPrintsCard : Claim7 := { stood := { row := asmPrintsRow, standIns := [], harness := (true, "20032bb3bed23d0a9ce285c2f03441fe6547a1160322fe9a11b5f5c24a50e85a"), looks := true }, kinds := [], alts := [], laidByText := true, laidKinds := [.data, .data, .data, .data, .sentinel, .sentinel, .pinned], laidTests := true, laidLooks := .later }
def AsmPrintsCardSaid : Prop := Claim7.holds Tryd.pinned (.plain (OpenSpec.ofChange asmPrintsSpec)) asmPrintsCard

/-- THE TIED CARD OF 'racetreelaw10.AsmReads'. -/
def asmReadsCard : Claim7 := { stood := { row := asmReadsRow, standIns := [], harness := (true, "20032bb3bed23d0a9ce285c2f03441fe6547a1160322fe9a11b5f5c24a50e85a"), looks := true }, kinds := [], alts := [], laidByText := true, laidKinds := [.data, .data, .data, .data, .sentinel, .sentinel, .pinned], laidTests := true, laidLooks := .later }
def AsmReadsCardSaid : Prop := Claim7.holds Tryd.pinned (.plain (OpenSpec.ofChange asmReadsSpec)) asmReadsCard

/-- THE TIED CARD OF 'racetreelaw10.AsmBack'. -/
def asmBackCard : Claim7 := { stood := { row := asmBackRow, standIns := [], harness := (true, "20032bb3bed23d0a9ce285c2f03441fe6547a1160322fe9a11b5f5c24a50e85a"), looks := true }, kinds := [], alts := [], laidByText := true, laidKinds := [.data, .data, .data, .data, .sentinel, .sentinel, .pinned], laidTests := true, laidLooks := .later }
def AsmBackCardSaid : Prop := Claim7.holds Tryd.pinned (.plain (OpenSpec.ofChange asmBackSpec)) asmBackCard

/-- THE TIED CARD OF 'racetreelaw10.AsmForm'. -/
def asmFormCard : Claim7 := { stood := { row := asmFormRow, standIns := [], harness := (true, "20032bb3bed23d0a9ce285c2f03441fe6547a1160322fe9a11b5f5c24a50e85a"), looks := true }, kinds := [], alts := [], laidByText := true, laidKinds := [.data, .data, .data, .data, .sentinel, .sentinel, .pinned], laidTests := true, laidLooks := .later }
def AsmFormCardSaid : Prop := Claim7.holds Tryd.pinned (.plain (OpenSpec.ofChange asmFormSpec)) asmFormCard

/-- THE SECOND FORM's CARD OF 'racetreelaw10.AsmRight'. -/
def asmRightUptoCard : Claim7 := { stood := { row := asmRightUptoRow, standIns := [], harness := (true, "20032bb3bed23d0a9ce285c2f03441fe6547a1160322fe9a11b5f5c24a50e85a"), looks := true }, kinds := [], alts := [], laidByText := true, laidKinds := [.data, .data, .data, .data, .sentinel, .sentinel, .pinned], laidTests := true, laidLooks := .later }
def AsmRightUptoCardSaid : Prop := Claim7.holds Tryd.pinned (.plain (OpenSpec.upto asmRightSpec)) asmRightUptoCard

/-- THE SECOND FORM's CARD OF 'racetreelaw10.AsmPrints'. -/
def asmPrintsUptoCard : Claim7 := { stood := { row := asmPrintsUptoRow, standIns := [], harness := (true, "20032bb3bed23d0a9ce285c2f03441fe6547a1160322fe9a11b5f5c24a50e85a"), looks := true }, kinds := [], alts := [], laidByText := true, laidKinds := [.data, .data, .data, .data, .sentinel, .sentinel, .pinned], laidTests := true, laidLooks := .later }
def AsmPrintsUptoCardSaid : Prop := Claim7.holds Tryd.pinned (.plain (OpenSpec.upto asmPrintsSpec)) asmPrintsUptoCard

/-- THE SECOND FORM's CARD OF 'racetreelaw10.AsmReads'. -/
def asmReadsUptoCard : Claim7 := { stood := { row := asmReadsUptoRow, standIns := [], harness := (true, "20032bb3bed23d0a9ce285c2f03441fe6547a1160322fe9a11b5f5c24a50e85a"), looks := true }, kinds := [], alts := [], laidByText := true, laidKinds := [.data, .data, .data, .data, .sentinel, .sentinel, .pinned], laidTests := true, laidLooks := .later }
def AsmReadsUptoCardSaid : Prop := Claim7.holds Tryd.pinned (.plain (OpenSpec.upto asmReadsSpec)) asmReadsUptoCard

/-- THE SECOND FORM's CARD OF 'racetreelaw10.AsmBack'. -/
def asmBackUptoCard : Claim7 := { stood := { row := asmBackUptoRow, standIns := [], harness := (true, "20032bb3bed23d0a9ce285c2f03441fe6547a1160322fe9a11b5f5c24a50e85a"), looks := true }, kinds := [], alts := [], laidByText := true, laidKinds := [.data, .data, .data, .data, .sentinel, .sentinel, .pinned], laidTests := true, laidLooks := .later }
def AsmBackUptoCardSaid : Prop := Claim7.holds Tryd.pinned (.plain (OpenSpec.upto asmBackSpec)) asmBackUptoCard

/-- THE SECOND FORM's CARD OF 'racetreelaw10.AsmForm'. -/
def asmFormUptoCard : Claim7 := { stood := { row := asmFormUptoRow, standIns := [], harness := (true, "20032bb3bed23d0a9ce285c2f03441fe6547a1160322fe9a11b5f5c24a50e85a"), looks := true }, kinds := [], alts := [], laidByText := true, laidKinds := [.data, .data, .data, .data, .sentinel, .sentinel, .pinned], laidTests := true, laidLooks := .later }
def AsmFormUptoCardSaid : Prop := Claim7.holds Tryd.pinned (.plain (OpenSpec.upto asmFormSpec)) asmFormUptoCard
end Rows
end Go.Proofs.YtklifkfofobamaaDoor
