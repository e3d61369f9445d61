/-
  No cell of these rows narrows 'for every input' (looked for: loops, veiled, ifaces, maps, wideKeys, modest, calm, conditions, laid).
  DERIVED. THE GIVEN ROWS OF THIS SEAT. 7 by the template 'for every input the law returns true; each argument reads behind the call as it read before'; 0 by the template 'total and deterministic' (their statements: YtndniigjlaccgaaTotals.lean).
  GIVEN WITH THE SEED: the statements are not yours to turn. If you find one false, say at which input.
  Laid BY PROGRAM, IN A SANDBOX (cutbox-rows.mjs): the forced cells as the released guide's own fill.sh prints them over the translation c5533221f29a2c00… (all of the seat's roots in one cut). By AI agents, Wed Nov 11 2026. No macro, syntax, notation, axiom, sorry.
-/
import Derived.Test.YtndniigjlaccgaaChecked
import GoSem.Claim
import GoSem.ClaimJoined
import GoSem.ClaimMapViews
import Derived.JoinedTies
import Derived.KernelRfl
namespace Go.Proofs.Ytndniigjlaccgaa
/- THE CELL 'sum', in the pinned program and in every row, IS THE sha256 OF THE DUMP (.gsa) THAT YtndniigjlaccgaaProg.lean LOADS. Nothing in Lean hashes anything: it is a label: what it is worth is what the hold of that sum in a sandbox is worth. -/
noncomputable def Try.pinned : Pinned := { name := "ytndniigjlaccgaa", sum := "c5533221f29a2c00093f16cf0760bd447b77d2d66d3685934485993fedc383cb", checked := Try.checked }
namespace Rows
def none {H : Type} : Left H := { results := [], args := [] }

/-- 'racetreelaw01.ScanRunes': WHATEVER THE INPUT: true; the input reads as it did. -/
def scanRunesSpec : ChangeSpec := { name := "scanRunes", fn := fun _ => fun
  | [d] => { results := [.lit (.bool true)], args := [d] }
  | _ => none }
def scanRunesRow : OpenClaim := { program := "ytndniigjlaccgaa", sum := "c5533221f29a2c00093f16cf0760bd447b77d2d66d3685934485993fedc383cb", func := "racetree/racetreelaw01.ScanRunes", spec := "scanRunes", apart := false }
def ScanRunesSaid : Prop := scanRunesRow.holds Try.pinned (OpenSpec.ofChange scanRunesSpec)

/-- ITS FALSE NEIGHBOUR: 'it returns false'. Refute it at one input. -/
def scanRunesWrong : ChangeSpec := { name := "scanRunes", fn := fun _ => fun
  | [d] => { results := [.lit (.bool false)], args := [d] }
  | _ => none }
def ScanRunesWrongFalsely : Prop := scanRunesRow.holds Try.pinned (OpenSpec.ofChange scanRunesWrong)

/-- 'racetreelaw01.ScanPlaces': WHATEVER THE INPUT: true; the input reads as it did. -/
def scanPlacesSpec : ChangeSpec := { name := "scanPlaces", fn := fun _ => fun
  | [d1, d2] => { results := [.lit (.bool true)], args := [d1, d2] }
  | _ => none }
def scanPlacesRow : OpenClaim := { program := "ytndniigjlaccgaa", sum := "c5533221f29a2c00093f16cf0760bd447b77d2d66d3685934485993fedc383cb", func := "racetree/racetreelaw01.ScanPlaces", spec := "scanPlaces", apart := false }
def ScanPlacesSaid : Prop := scanPlacesRow.holds Try.pinned (OpenSpec.ofChange scanPlacesSpec)

/-- ITS FALSE NEIGHBOUR: 'it returns false'. Refute it at one input. -/
def scanPlacesWrong : ChangeSpec := { name := "scanPlaces", fn := fun _ => fun
  | [d1, d2] => { results := [.lit (.bool false)], args := [d1, d2] }
  | _ => none }
def ScanPlacesWrongFalsely : Prop := scanPlacesRow.holds Try.pinned (OpenSpec.ofChange scanPlacesWrong)

/-- 'racetreelaw01.ScanTexts': WHATEVER THE INPUT: true; the input reads as it did. -/
def scanTextsSpec : ChangeSpec := { name := "scanTexts", fn := fun _ => fun
  | [d] => { results := [.lit (.bool true)], args := [d] }
  | _ => none }
def scanTextsRow : OpenClaim := { program := "ytndniigjlaccgaa", sum := "c5533221f29a2c00093f16cf0760bd447b77d2d66d3685934485993fedc383cb", func := "racetree/racetreelaw01.ScanTexts", spec := "scanTexts", apart := false }
def ScanTextsSaid : Prop := scanTextsRow.holds Try.pinned (OpenSpec.ofChange scanTextsSpec)

/-- ITS FALSE NEIGHBOUR: 'it returns false'. Refute it at one input. -/
def scanTextsWrong : ChangeSpec := { name := "scanTexts", fn := fun _ => fun
  | [d] => { results := [.lit (.bool false)], args := [d] }
  | _ => none }
def ScanTextsWrongFalsely : Prop := scanTextsRow.holds Try.pinned (OpenSpec.ofChange scanTextsWrong)

/-- 'racetreelaw01.ScanBack': WHATEVER THE INPUT: true; the input reads as it did. -/
def scanBackSpec : ChangeSpec := { name := "scanBack", fn := fun _ => fun
  | [d1, d2] => { results := [.lit (.bool true)], args := [d1, d2] }
  | _ => none }
def scanBackRow : OpenClaim := { program := "ytndniigjlaccgaa", sum := "c5533221f29a2c00093f16cf0760bd447b77d2d66d3685934485993fedc383cb", func := "racetree/racetreelaw01.ScanBack", spec := "scanBack", apart := false }
def ScanBackSaid : Prop := scanBackRow.holds Try.pinned (OpenSpec.ofChange scanBackSpec)

/-- ITS FALSE NEIGHBOUR: 'it returns false'. Refute it at one input. -/
def scanBackWrong : ChangeSpec := { name := "scanBack", fn := fun _ => fun
  | [d1, d2] => { results := [.lit (.bool false)], args := [d1, d2] }
  | _ => none }
def ScanBackWrongFalsely : Prop := scanBackRow.holds Try.pinned (OpenSpec.ofChange scanBackWrong)

/-- 'racetreelaw01.ScanThere': WHATEVER THE INPUT: true; the input reads as it did. -/
def scanThereSpec : ChangeSpec := { name := "scanThere", fn := fun _ => fun
  | [d] => { results := [.lit (.bool true)], args := [d] }
  | _ => none }
def scanThereRow : OpenClaim := { program := "ytndniigjlaccgaa", sum := "c5533221f29a2c00093f16cf0760bd447b77d2d66d3685934485993fedc383cb", func := "racetree/racetreelaw01.ScanThere", spec := "scanThere", apart := false }
def ScanThereSaid : Prop := scanThereRow.holds Try.pinned (OpenSpec.ofChange scanThereSpec)

/-- ITS FALSE NEIGHBOUR: 'it returns false'. Refute it at one input. -/
def scanThereWrong : ChangeSpec := { name := "scanThere", fn := fun _ => fun
  | [d] => { results := [.lit (.bool false)], args := [d] }
  | _ => none }
def ScanThereWrongFalsely : Prop := scanThereRow.holds Try.pinned (OpenSpec.ofChange scanThereWrong)

/-- 'racetreelaw01.ScanCut': WHATEVER THE INPUT: true; the input reads as it did. -/
def scanCutSpec : ChangeSpec := { name := "scanCut", fn := fun _ => fun
  | [d1, d2] => { results := [.lit (.bool true)], args := [d1, d2] }
  | _ => none }
def scanCutRow : OpenClaim := { program := "ytndniigjlaccgaa", sum := "c5533221f29a2c00093f16cf0760bd447b77d2d66d3685934485993fedc383cb", func := "racetree/racetreelaw01.ScanCut", spec := "scanCut", apart := false }
def ScanCutSaid : Prop := scanCutRow.holds Try.pinned (OpenSpec.ofChange scanCutSpec)

/-- ITS FALSE NEIGHBOUR: 'it returns false'. Refute it at one input. -/
def scanCutWrong : ChangeSpec := { name := "scanCut", fn := fun _ => fun
  | [d1, d2] => { results := [.lit (.bool false)], args := [d1, d2] }
  | _ => none }
def ScanCutWrongFalsely : Prop := scanCutRow.holds Try.pinned (OpenSpec.ofChange scanCutWrong)

/-- 'racetreelaw01.ScanClasses': WHATEVER THE INPUT: true; the input reads as it did. -/
def scanClassesSpec : ChangeSpec := { name := "scanClasses", fn := fun _ => fun
  | [d] => { results := [.lit (.bool true)], args := [d] }
  | _ => none }
def scanClassesRow : OpenClaim := { program := "ytndniigjlaccgaa", sum := "c5533221f29a2c00093f16cf0760bd447b77d2d66d3685934485993fedc383cb", func := "racetree/racetreelaw01.ScanClasses", spec := "scanClasses", apart := false }
def ScanClassesSaid : Prop := scanClassesRow.holds Try.pinned (OpenSpec.ofChange scanClassesSpec)

/-- ITS FALSE NEIGHBOUR: 'it returns false'. Refute it at one input. -/
def scanClassesWrong : ChangeSpec := { name := "scanClasses", fn := fun _ => fun
  | [d] => { results := [.lit (.bool false)], args := [d] }
  | _ => none }
def ScanClassesWrongFalsely : Prop := scanClassesRow.holds Try.pinned (OpenSpec.ofChange scanClassesWrong)

/- THE SECOND FORM. 'bulk': how many values and letters a reading holds, each counted each time it is reached (what is shared counts as often as it is met; a slice's spare places count too). A statement '..UptoSaid' is the law's where the arguments, and the package variables that the reading takes, are together of bulk at most 1048576: NARROWER than '..Said'. Prove '..Said' where nothing that the law and all that it calls make is longer than what came in: it says more and counts as full. Else prove '..UptoSaid'. A law counts once. -/
mutual
def uptoBulk {H : Type} : DataW H → Nat
  | .lit (.string bytes) => bytes.length + 1
  | .lit _ => 1
  | .nil => 1
  | .ptr d => uptoBulk d + 1
  | .slice elems spare => uptoBulkAll elems + uptoBulkAll spare + 1
  | .agg parts => uptoBulkAll parts + 1
  | .iface _ d => uptoBulk d + 1
  | .map entries => uptoBulkEntries entries + 1
  | .held _ => 1
def uptoBulkAll {H : Type} : List (DataW H) → Nat
  | [] => 0
  | d :: r => uptoBulk d + uptoBulkAll r
def uptoBulkEntries {H : Type} : List (Lit × DataW H) → Nat
  | [] => 0
  | x :: r => uptoBulkEntry x + uptoBulkEntries r
def uptoBulkEntry {H : Type} : Lit × DataW H → Nat
  | (.string bytes, d) => bytes.length + uptoBulk d + 1
  | (_, d) => uptoBulk d + 1
 end
def uptoSmall : (H : Type) → List (DataW H) → Bool := fun _ ds => decide (uptoBulkAll ds ≤ 1048576)
def OpenSpec.upto (s : _root_.Go.ChangeSpec) : _root_.Go.OpenSpec := { _root_.Go.OpenSpec.ofChange s with cond := some uptoSmall }

/-- 'racetreelaw01.ScanRunes', WHERE WHAT IT READS IS OF BULK AT MOST 1048576: true; the input reads as it did. -/
def scanRunesUptoRow : OpenClaim := { program := "ytndniigjlaccgaa", sum := "c5533221f29a2c00093f16cf0760bd447b77d2d66d3685934485993fedc383cb", func := "racetree/racetreelaw01.ScanRunes", spec := "scanRunes", apart := false, narrowed := true }
def ScanRunesUptoSaid : Prop := scanRunesUptoRow.holds Try.pinned (OpenSpec.upto scanRunesSpec)

/-- 'racetreelaw01.ScanPlaces', WHERE WHAT IT READS IS OF BULK AT MOST 1048576: true; the input reads as it did. -/
def scanPlacesUptoRow : OpenClaim := { program := "ytndniigjlaccgaa", sum := "c5533221f29a2c00093f16cf0760bd447b77d2d66d3685934485993fedc383cb", func := "racetree/racetreelaw01.ScanPlaces", spec := "scanPlaces", apart := false, narrowed := true }
def ScanPlacesUptoSaid : Prop := scanPlacesUptoRow.holds Try.pinned (OpenSpec.upto scanPlacesSpec)

/-- 'racetreelaw01.ScanTexts', WHERE WHAT IT READS IS OF BULK AT MOST 1048576: true; the input reads as it did. -/
def scanTextsUptoRow : OpenClaim := { program := "ytndniigjlaccgaa", sum := "c5533221f29a2c00093f16cf0760bd447b77d2d66d3685934485993fedc383cb", func := "racetree/racetreelaw01.ScanTexts", spec := "scanTexts", apart := false, narrowed := true }
def ScanTextsUptoSaid : Prop := scanTextsUptoRow.holds Try.pinned (OpenSpec.upto scanTextsSpec)

/-- 'racetreelaw01.ScanBack', WHERE WHAT IT READS IS OF BULK AT MOST 1048576: true; the input reads as it did. -/
def scanBackUptoRow : OpenClaim := { program := "ytndniigjlaccgaa", sum := "c5533221f29a2c00093f16cf0760bd447b77d2d66d3685934485993fedc383cb", func := "racetree/racetreelaw01.ScanBack", spec := "scanBack", apart := false, narrowed := true }
def ScanBackUptoSaid : Prop := scanBackUptoRow.holds Try.pinned (OpenSpec.upto scanBackSpec)

/-- 'racetreelaw01.ScanThere', WHERE WHAT IT READS IS OF BULK AT MOST 1048576: true; the input reads as it did. -/
def scanThereUptoRow : OpenClaim := { program := "ytndniigjlaccgaa", sum := "c5533221f29a2c00093f16cf0760bd447b77d2d66d3685934485993fedc383cb", func := "racetree/racetreelaw01.ScanThere", spec := "scanThere", apart := false, narrowed := true }
def ScanThereUptoSaid : Prop := scanThereUptoRow.holds Try.pinned (OpenSpec.upto scanThereSpec)

/-- 'racetreelaw01.ScanCut', WHERE WHAT IT READS IS OF BULK AT MOST 1048576: true; the input reads as it did. -/
def scanCutUptoRow : OpenClaim := { program := "ytndniigjlaccgaa", sum := "c5533221f29a2c00093f16cf0760bd447b77d2d66d3685934485993fedc383cb", func := "racetree/racetreelaw01.ScanCut", spec := "scanCut", apart := false, narrowed := true }
def ScanCutUptoSaid : Prop := scanCutUptoRow.holds Try.pinned (OpenSpec.upto scanCutSpec)

/-- 'racetreelaw01.ScanClasses', WHERE WHAT IT READS IS OF BULK AT MOST 1048576: true; the input reads as it did. -/
def scanClassesUptoRow : OpenClaim := { program := "ytndniigjlaccgaa", sum := "c5533221f29a2c00093f16cf0760bd447b77d2d66d3685934485993fedc383cb", func := "racetree/racetreelaw01.ScanClasses", spec := "scanClasses", apart := false, narrowed := true }
def ScanClassesUptoSaid : Prop := scanClassesUptoRow.holds Try.pinned (OpenSpec.upto scanClassesSpec)

end Rows
end Go.Proofs.Ytndniigjlaccgaa
