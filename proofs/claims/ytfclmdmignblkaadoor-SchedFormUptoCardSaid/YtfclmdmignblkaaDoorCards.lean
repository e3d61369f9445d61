/-
  DERIVED. GIVEN WITH THE SEED: THE CARDS: each row of YtfclmdmignblkaaDoorRows.lean that lists a variable, with what it lists TIED to the program's text (the seventh form; the later family's looks); each row that meets fmt, with fmt's text TOLD by the authors' own Lean function (tested against real Go, not proved from fmt's source: count such statements apart). THE CARD IS WHAT COUNTS. Prove the row's statement (the work); the ties are given (YtfclmdmignblkaaDoorTie.lean); close each card by the builder's one call (the guide's Derived/Test/ToyasCard.lean, 'card_holds'). Laid BY PROGRAM, IN A SANDBOX (cutbox-door.mjs). By AI agents, Wed Nov 11 2026. No macro, syntax, notation, axiom, sorry.
-/
import Derived.Test.YtfclmdmignblkaaDoorRows
import GoSem.ClaimSeven
namespace Go.Proofs.YtfclmdmignblkaaDoor
namespace Rows

/-- THE TIED CARD OF 'racetreelaw22.SchedPrints'. -/
def schedPrintsCard : Claim7 := { stood := { row := schedPrintsRow, standIns := [], harness := (true, "8a6f6cf4bd9c22fd25a2ee014cbeeb37903822ee151012f2e336c175b9877f54"), looks := true }, kinds := [], alts := [], laidByText := true, laidKinds := [.data, .data, .data, .data, .sentinel, .sentinel, .pinned], laidTests := true, laidLooks := .later }
def SchedPrintsCardSaid : Prop := Claim7.holds Tryd.pinned (.plain (OpenSpec.ofChange schedPrintsSpec)) schedPrintsCard

/-- THE TIED CARD OF 'racetreelaw22.SchedBytes'. -/
def schedBytesCard : Claim7 := { stood := { row := schedBytesRow, standIns := [], harness := (true, "8a6f6cf4bd9c22fd25a2ee014cbeeb37903822ee151012f2e336c175b9877f54"), looks := true }, kinds := [], alts := [], laidByText := true, laidKinds := [.data, .data, .data, .data, .sentinel, .sentinel, .pinned], laidTests := true, laidLooks := .later }
def SchedBytesCardSaid : Prop := Claim7.holds Tryd.pinned (.plain (OpenSpec.ofChange schedBytesSpec)) schedBytesCard

/-- THE TIED CARD OF 'racetreelaw22.SchedReads'. -/
def schedReadsCard : Claim7 := { stood := { row := schedReadsRow, standIns := [], harness := (true, "8a6f6cf4bd9c22fd25a2ee014cbeeb37903822ee151012f2e336c175b9877f54"), looks := true }, kinds := [], alts := [], laidByText := true, laidKinds := [.data, .data, .data, .data, .sentinel, .sentinel, .pinned], laidTests := true, laidLooks := .later }
def SchedReadsCardSaid : Prop := Claim7.holds Tryd.pinned (.plain (OpenSpec.ofChange schedReadsSpec)) schedReadsCard

/-- THE TIED CARD OF 'racetreelaw22.SchedLoads'. -/
def schedLoadsCard : Claim7 := { stood := { row := schedLoadsRow, standIns := [], harness := (true, "8a6f6cf4bd9c22fd25a2ee014cbeeb37903822ee151012f2e336c175b9877f54"), looks := true }, kinds := [], alts := [], laidByText := true, laidKinds := [.data, .data, .data, .data, .sentinel, .sentinel, .pinned], laidTests := true, laidLooks := .later }
def SchedLoadsCardSaid : Prop := Claim7.holds Tryd.pinned (.plain (OpenSpec.ofChange schedLoadsSpec)) schedLoadsCard

/-- THE TIED CARD OF 'racetreelaw22.SchedBack'. -/
def schedBackCard : Claim7 := { stood := { row := schedBackRow, standIns := [], harness := (true, "8a6f6cf4bd9c22fd25a2ee014cbeeb37903822ee151012f2e336c175b9877f54"), looks := true }, kinds := [], alts := [], laidByText := true, laidKinds := [.data, .data, .data, .data, .sentinel, .sentinel, .pinned], laidTests := true, laidLooks := .later }
def SchedBackCardSaid : Prop := Claim7.holds Tryd.pinned (.plain (OpenSpec.ofChange schedBackSpec)) schedBackCard

/-- THE TIED CARD OF 'racetreelaw22.SchedForm'. -/
def schedFormCard : Claim7 := { stood := { row := schedFormRow, standIns := [], harness := (true, "8a6f6cf4bd9c22fd25a2ee014cbeeb37903822ee151012f2e336c175b9877f54"), looks := true }, kinds := [], alts := [], laidByText := true, laidKinds := [.data, .data, .data, .data, .sentinel, .sentinel, .pinned], laidTests := true, laidLooks := .later }
def SchedFormCardSaid : Prop := Claim7.holds Tryd.pinned (.plain (OpenSpec.ofChange schedFormSpec)) schedFormCard

/-- THE SECOND FORM's CARD OF 'racetreelaw22.SchedPrints'. -/
def schedPrintsUptoCard : Claim7 := { stood := { row := schedPrintsUptoRow, standIns := [], harness := (true, "8a6f6cf4bd9c22fd25a2ee014cbeeb37903822ee151012f2e336c175b9877f54"), looks := true }, kinds := [], alts := [], laidByText := true, laidKinds := [.data, .data, .data, .data, .sentinel, .sentinel, .pinned], laidTests := true, laidLooks := .later }
def SchedPrintsUptoCardSaid : Prop := Claim7.holds Tryd.pinned (.plain (OpenSpec.upto schedPrintsSpec)) schedPrintsUptoCard

/-- THE SECOND FORM's CARD OF 'racetreelaw22.SchedBytes'. -/
def schedBytesUptoCard : Claim7 := { stood := { row := schedBytesUptoRow, standIns := [], harness := (true, "8a6f6cf4bd9c22fd25a2ee014cbeeb37903822ee151012f2e336c175b9877f54"), looks := true }, kinds := [], alts := [], laidByText := true, laidKinds := [.data, .data, .data, .data, .sentinel, .sentinel, .pinned], laidTests := true, laidLooks := .later }
def SchedBytesUptoCardSaid : Prop := Claim7.holds Tryd.pinned (.plain (OpenSpec.upto schedBytesSpec)) schedBytesUptoCard

/-- THE SECOND FORM's CARD OF 'racetreelaw22.SchedReads'. -/
def schedReadsUptoCard : Claim7 := { stood := { row := schedReadsUptoRow, standIns := [], harness := (true, "8a6f6cf4bd9c22fd25a2ee014cbeeb37903822ee151012f2e336c175b9877f54"), looks := true }, kinds := [], alts := [], laidByText := true, laidKinds := [.data, .data, .data, .data, .sentinel, .sentinel, .pinned], laidTests := true, laidLooks := .later }
def SchedReadsUptoCardSaid : Prop := Claim7.holds Tryd.pinned (.plain (OpenSpec.upto schedReadsSpec)) schedReadsUptoCard

/-- THE SECOND FORM's CARD OF 'racetreelaw22.SchedLoads'. -/
def schedLoadsUptoCard : Claim7 := { stood := { row := schedLoadsUptoRow, standIns := [], harness := (true, "8a6f6cf4bd9c22fd25a2ee014cbeeb37903822ee151012f2e336c175b9877f54"), looks := true }, kinds := [], alts := [], laidByText := true, laidKinds := [.data, .data, .data, .data, .sentinel, .sentinel, .pinned], laidTests := true, laidLooks := .later }
def SchedLoadsUptoCardSaid : Prop := Claim7.holds Tryd.pinned (.plain (OpenSpec.upto schedLoadsSpec)) schedLoadsUptoCard

/-- THE SECOND FORM's CARD OF 'racetreelaw22.SchedBack'. -/
def schedBackUptoCard : Claim7 := { stood := { row := schedBackUptoRow, standIns := [], harness := (true, "8a6f6cf4bd9c22fd25a2ee014cbeeb37903822ee151012f2e336c175b9877f54"), looks := true }, kinds := [], alts := [], laidByText := true, laidKinds := [.data, .data, .data, .data, .sentinel, .sentinel, .pinned], laidTests := true, laidLooks := .later }
def SchedBackUptoCardSaid : Prop := Claim7.holds Tryd.pinned (.plain (OpenSpec.upto schedBackSpec)) schedBackUptoCard

/-- THE SECOND FORM's CARD OF 'racetreelaw22.SchedForm'. -/
def schedFormUptoCard : Claim7 := { stood := { row := schedFormUptoRow, standIns := [], harness := (true, "8a6f6cf4bd9c22fd25a2ee014cbeeb37903822ee151012f2e336c175b9877f54"), looks := true }, kinds := [], alts := [], laidByText := true, laidKinds := [.data, .data, .data, .data, .sentinel, .sentinel, .pinned], laidTests := true, laidLooks := .later }
def SchedFormUptoCardSaid : Prop := Claim7.holds Tryd.pinned (.plain (OpenSpec.upto schedFormSpec)) schedFormUptoCard
end Rows
end Go.Proofs.YtfclmdmignblkaaDoor
