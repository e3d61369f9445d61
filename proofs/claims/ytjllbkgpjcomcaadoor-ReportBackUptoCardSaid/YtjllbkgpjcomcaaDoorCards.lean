/-
  DERIVED. GIVEN WITH THE SEED: THE CARDS: each row of YtjllbkgpjcomcaaDoorRows.lean that lists a variable, with what it lists TIED to the program's text (the seventh form; the later family's looks); each row that meets fmt, with fmt's text TOLD by the authors' own Lean function (tested against real Go, not proved from fmt's source: count such statements apart). THE CARD IS WHAT COUNTS. Prove the row's statement (the work); the ties are given (YtjllbkgpjcomcaaDoorTie.lean); close each card by the builder's one call (the guide's Derived/Test/ToyasCard.lean, 'card_holds'). Laid BY PROGRAM, IN A SANDBOX (cutbox-door.mjs). By AI agents, Wed Nov 11 2026. No macro, syntax, notation, axiom, sorry.
-/
import Derived.Test.YtjllbkgpjcomcaaDoorRows
import GoSem.ClaimSeven
namespace Go.Proofs.YtjllbkgpjcomcaaDoor
namespace Rows

/-- THE TIED CARD OF 'racetreelaw25.ReportPrints'. -/
def reportPrintsCard : Claim7 := { stood := { row := reportPrintsRow, standIns := [], harness := (true, "518567406bd0b2839ceb32280427e188ff3c405c37a7bebdfa8fc65e01ee2612"), looks := false }, kinds := [], alts := [], laidByText := true, laidKinds := [.data, .data, .data], laidTests := true, laidLooks := .later }
def ReportPrintsCardSaid : Prop := Claim7.holds Tryd.pinned (.plain (OpenSpec.ofChange reportPrintsSpec)) reportPrintsCard

/-- THE TIED CARD OF 'racetreelaw25.ReportLines'. -/
def reportLinesCard : Claim7 := { stood := { row := reportLinesRow, standIns := [], harness := (true, "518567406bd0b2839ceb32280427e188ff3c405c37a7bebdfa8fc65e01ee2612"), looks := false }, kinds := [], alts := [], laidByText := true, laidKinds := [.data, .data, .data], laidTests := true, laidLooks := .later }
def ReportLinesCardSaid : Prop := Claim7.holds Tryd.pinned (.plain (OpenSpec.ofChange reportLinesSpec)) reportLinesCard

/-- THE TIED CARD OF 'racetreelaw25.ReportReads'. -/
def reportReadsCard : Claim7 := { stood := { row := reportReadsRow, standIns := [], harness := (true, "518567406bd0b2839ceb32280427e188ff3c405c37a7bebdfa8fc65e01ee2612"), looks := false }, kinds := [], alts := [], laidByText := true, laidKinds := [.data, .data, .data, .data, .pinned], laidTests := true, laidLooks := .later }
def ReportReadsCardSaid : Prop := Claim7.holds Tryd.pinned (.plain (OpenSpec.ofChange reportReadsSpec)) reportReadsCard

/-- THE TIED CARD OF 'racetreelaw25.ReportThere'. -/
def reportThereCard : Claim7 := { stood := { row := reportThereRow, standIns := [], harness := (true, "518567406bd0b2839ceb32280427e188ff3c405c37a7bebdfa8fc65e01ee2612"), looks := false }, kinds := [], alts := [], laidByText := true, laidKinds := [.data, .data, .data, .data, .pinned], laidTests := true, laidLooks := .later }
def ReportThereCardSaid : Prop := Claim7.holds Tryd.pinned (.plain (OpenSpec.ofChange reportThereSpec)) reportThereCard

/-- THE TIED CARD OF 'racetreelaw25.ReportBack'. -/
def reportBackCard : Claim7 := { stood := { row := reportBackRow, standIns := [], harness := (true, "518567406bd0b2839ceb32280427e188ff3c405c37a7bebdfa8fc65e01ee2612"), looks := false }, kinds := [], alts := [], laidByText := true, laidKinds := [.data, .data, .data, .data, .pinned], laidTests := true, laidLooks := .later }
def ReportBackCardSaid : Prop := Claim7.holds Tryd.pinned (.plain (OpenSpec.ofChange reportBackSpec)) reportBackCard

/-- THE TIED CARD OF 'racetreelaw25.ReportJoins'. -/
def reportJoinsCard : Claim7 := { stood := { row := reportJoinsRow, standIns := [], harness := (true, "518567406bd0b2839ceb32280427e188ff3c405c37a7bebdfa8fc65e01ee2612"), looks := false }, kinds := [], alts := [], laidByText := true, laidKinds := [.data, .data, .data, .data, .pinned], laidTests := true, laidLooks := .later }
def ReportJoinsCardSaid : Prop := Claim7.holds Tryd.pinned (.plain (OpenSpec.ofChange reportJoinsSpec)) reportJoinsCard

/-- THE SECOND FORM's CARD OF 'racetreelaw25.ReportPrints'. -/
def reportPrintsUptoCard : Claim7 := { stood := { row := reportPrintsUptoRow, standIns := [], harness := (true, "518567406bd0b2839ceb32280427e188ff3c405c37a7bebdfa8fc65e01ee2612"), looks := false }, kinds := [], alts := [], laidByText := true, laidKinds := [.data, .data, .data], laidTests := true, laidLooks := .later }
def ReportPrintsUptoCardSaid : Prop := Claim7.holds Tryd.pinned (.plain (OpenSpec.upto reportPrintsSpec)) reportPrintsUptoCard

/-- THE SECOND FORM's CARD OF 'racetreelaw25.ReportLines'. -/
def reportLinesUptoCard : Claim7 := { stood := { row := reportLinesUptoRow, standIns := [], harness := (true, "518567406bd0b2839ceb32280427e188ff3c405c37a7bebdfa8fc65e01ee2612"), looks := false }, kinds := [], alts := [], laidByText := true, laidKinds := [.data, .data, .data], laidTests := true, laidLooks := .later }
def ReportLinesUptoCardSaid : Prop := Claim7.holds Tryd.pinned (.plain (OpenSpec.upto reportLinesSpec)) reportLinesUptoCard

/-- THE SECOND FORM's CARD OF 'racetreelaw25.ReportReads'. -/
def reportReadsUptoCard : Claim7 := { stood := { row := reportReadsUptoRow, standIns := [], harness := (true, "518567406bd0b2839ceb32280427e188ff3c405c37a7bebdfa8fc65e01ee2612"), looks := false }, kinds := [], alts := [], laidByText := true, laidKinds := [.data, .data, .data, .data, .pinned], laidTests := true, laidLooks := .later }
def ReportReadsUptoCardSaid : Prop := Claim7.holds Tryd.pinned (.plain (OpenSpec.upto reportReadsSpec)) reportReadsUptoCard

/-- THE SECOND FORM's CARD OF 'racetreelaw25.ReportThere'. -/
def reportThereUptoCard : Claim7 := { stood := { row := reportThereUptoRow, standIns := [], harness := (true, "518567406bd0b2839ceb32280427e188ff3c405c37a7bebdfa8fc65e01ee2612"), looks := false }, kinds := [], alts := [], laidByText := true, laidKinds := [.data, .data, .data, .data, .pinned], laidTests := true, laidLooks := .later }
def ReportThereUptoCardSaid : Prop := Claim7.holds Tryd.pinned (.plain (OpenSpec.upto reportThereSpec)) reportThereUptoCard

/-- THE SECOND FORM's CARD OF 'racetreelaw25.ReportBack'. -/
def reportBackUptoCard : Claim7 := { stood := { row := reportBackUptoRow, standIns := [], harness := (true, "518567406bd0b2839ceb32280427e188ff3c405c37a7bebdfa8fc65e01ee2612"), looks := false }, kinds := [], alts := [], laidByText := true, laidKinds := [.data, .data, .data, .data, .pinned], laidTests := true, laidLooks := .later }
def ReportBackUptoCardSaid : Prop := Claim7.holds Tryd.pinned (.plain (OpenSpec.upto reportBackSpec)) reportBackUptoCard

/-- THE SECOND FORM's CARD OF 'racetreelaw25.ReportJoins'. -/
def reportJoinsUptoCard : Claim7 := { stood := { row := reportJoinsUptoRow, standIns := [], harness := (true, "518567406bd0b2839ceb32280427e188ff3c405c37a7bebdfa8fc65e01ee2612"), looks := false }, kinds := [], alts := [], laidByText := true, laidKinds := [.data, .data, .data, .data, .pinned], laidTests := true, laidLooks := .later }
def ReportJoinsUptoCardSaid : Prop := Claim7.holds Tryd.pinned (.plain (OpenSpec.upto reportJoinsSpec)) reportJoinsUptoCard
end Rows
end Go.Proofs.YtjllbkgpjcomcaaDoor
