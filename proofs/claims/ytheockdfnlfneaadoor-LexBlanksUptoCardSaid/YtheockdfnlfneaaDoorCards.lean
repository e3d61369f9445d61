/-
  DERIVED. GIVEN WITH THE SEED: THE CARDS: each row of YtheockdfnlfneaaDoorRows.lean that lists a variable, with what it lists TIED to the program's text (the seventh form; the later family's looks); each row that meets fmt, with fmt's text TOLD by the authors' own Lean function (tested against real Go, not proved from fmt's source: count such statements apart). THE CARD IS WHAT COUNTS. Prove the row's statement (the work); the ties are given (YtheockdfnlfneaaDoorTie.lean); close each card by the builder's one call (the guide's Derived/Test/ToyasCard.lean, 'card_holds'). Laid BY PROGRAM, IN A SANDBOX (cutbox-door.mjs). By AI agents, Wed Nov 11 2026. No macro, syntax, notation, axiom, sorry.
-/
import Derived.Test.YtheockdfnlfneaaDoorRows
import GoSem.ClaimSeven
namespace Go.Proofs.YtheockdfnlfneaaDoor
namespace Rows

/-- THE TIED CARD OF 'racetreelaw02.LexWords'. -/
def lexWordsCard : Claim7 := { stood := { row := lexWordsRow, standIns := [], harness := (true, "efa18a352175df41d9718031d8a1a8758bab5a172491d6e05e1508818995bd50"), looks := true }, kinds := [], alts := [], laidByText := true, laidKinds := [.data, .data, .data, .data, .sentinel, .sentinel, .pinned], laidTests := true, laidLooks := .later }
def LexWordsCardSaid : Prop := Claim7.holds Tryd.pinned (.plain (OpenSpec.ofChange lexWordsSpec)) lexWordsCard

/-- THE TIED CARD OF 'racetreelaw02.LexBack'. -/
def lexBackCard : Claim7 := { stood := { row := lexBackRow, standIns := [], harness := (true, "efa18a352175df41d9718031d8a1a8758bab5a172491d6e05e1508818995bd50"), looks := true }, kinds := [], alts := [], laidByText := true, laidKinds := [.data, .data, .data, .data, .sentinel, .sentinel, .pinned], laidTests := true, laidLooks := .later }
def LexBackCardSaid : Prop := Claim7.holds Tryd.pinned (.plain (OpenSpec.ofChange lexBackSpec)) lexBackCard

/-- THE TIED CARD OF 'racetreelaw02.LexTexts'. -/
def lexTextsCard : Claim7 := { stood := { row := lexTextsRow, standIns := [], harness := (true, "efa18a352175df41d9718031d8a1a8758bab5a172491d6e05e1508818995bd50"), looks := true }, kinds := [], alts := [], laidByText := true, laidKinds := [.data, .data, .data, .data, .sentinel, .sentinel, .pinned], laidTests := true, laidLooks := .later }
def LexTextsCardSaid : Prop := Claim7.holds Tryd.pinned (.plain (OpenSpec.ofChange lexTextsSpec)) lexTextsCard

/-- THE TIED CARD OF 'racetreelaw02.LexBlanks'. -/
def lexBlanksCard : Claim7 := { stood := { row := lexBlanksRow, standIns := [], harness := (true, "efa18a352175df41d9718031d8a1a8758bab5a172491d6e05e1508818995bd50"), looks := true }, kinds := [], alts := [], laidByText := true, laidKinds := [.data, .data, .data, .data, .sentinel, .sentinel, .pinned], laidTests := true, laidLooks := .later }
def LexBlanksCardSaid : Prop := Claim7.holds Tryd.pinned (.plain (OpenSpec.ofChange lexBlanksSpec)) lexBlanksCard

/-- THE SECOND FORM's CARD OF 'racetreelaw02.LexWords'. -/
def lexWordsUptoCard : Claim7 := { stood := { row := lexWordsUptoRow, standIns := [], harness := (true, "efa18a352175df41d9718031d8a1a8758bab5a172491d6e05e1508818995bd50"), looks := true }, kinds := [], alts := [], laidByText := true, laidKinds := [.data, .data, .data, .data, .sentinel, .sentinel, .pinned], laidTests := true, laidLooks := .later }
def LexWordsUptoCardSaid : Prop := Claim7.holds Tryd.pinned (.plain (OpenSpec.upto lexWordsSpec)) lexWordsUptoCard

/-- THE SECOND FORM's CARD OF 'racetreelaw02.LexBack'. -/
def lexBackUptoCard : Claim7 := { stood := { row := lexBackUptoRow, standIns := [], harness := (true, "efa18a352175df41d9718031d8a1a8758bab5a172491d6e05e1508818995bd50"), looks := true }, kinds := [], alts := [], laidByText := true, laidKinds := [.data, .data, .data, .data, .sentinel, .sentinel, .pinned], laidTests := true, laidLooks := .later }
def LexBackUptoCardSaid : Prop := Claim7.holds Tryd.pinned (.plain (OpenSpec.upto lexBackSpec)) lexBackUptoCard

/-- THE SECOND FORM's CARD OF 'racetreelaw02.LexTexts'. -/
def lexTextsUptoCard : Claim7 := { stood := { row := lexTextsUptoRow, standIns := [], harness := (true, "efa18a352175df41d9718031d8a1a8758bab5a172491d6e05e1508818995bd50"), looks := true }, kinds := [], alts := [], laidByText := true, laidKinds := [.data, .data, .data, .data, .sentinel, .sentinel, .pinned], laidTests := true, laidLooks := .later }
def LexTextsUptoCardSaid : Prop := Claim7.holds Tryd.pinned (.plain (OpenSpec.upto lexTextsSpec)) lexTextsUptoCard

/-- THE SECOND FORM's CARD OF 'racetreelaw02.LexBlanks'. -/
def lexBlanksUptoCard : Claim7 := { stood := { row := lexBlanksUptoRow, standIns := [], harness := (true, "efa18a352175df41d9718031d8a1a8758bab5a172491d6e05e1508818995bd50"), looks := true }, kinds := [], alts := [], laidByText := true, laidKinds := [.data, .data, .data, .data, .sentinel, .sentinel, .pinned], laidTests := true, laidLooks := .later }
def LexBlanksUptoCardSaid : Prop := Claim7.holds Tryd.pinned (.plain (OpenSpec.upto lexBlanksSpec)) lexBlanksUptoCard
end Rows
end Go.Proofs.YtheockdfnlfneaaDoor
