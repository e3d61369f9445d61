/-
  DERIVED. What the rows' listed variables give. Conditions: none.
-/
import Derived.Test.YtklifkfofobamaaDoorLaw
import Derived.Test.YtklifkfofobamaaDoorCards
import Derived.Test.YtklifkfofobamaaDoorTie
import Derived.ProofKit
import Derived.OpenShut
import Derived.Deep.DeepHandedRow
import Derived.Deep.DeepWitnessRowRef
import Derived.Lib.LaidU8T
import Derived.Lay
import Derived.Stop.LaidErr
import Derived.SevenTiedAt
import Derived.MakeChecks
set_option linter.unusedVariables false
set_option linter.unusedSimpArgs false
set_option linter.unusedSectionVars false
namespace Go.Proofs.YtklifkfofobamaaDoor
open Go.ChangeShapes Go.WideShapes Go.ChangeAt Go.RowKit Lift Go.Shelf
theorem errRow (u : TypeId) (h : Tryd.prog.typeName? 3 u = some "*errors.errorString") : u = 136 :=
  typeName_ptr_named (nm := "errors.errorString") (by rw [show "*" ++ "errors.errorString" = "*errors.errorString" by decide]; kernel_rfl) (by kernel_rfl) (by decide) u (by rw [show "*" ++ "errors.errorString" = "*errors.errorString" by decide]; exact h)
theorem pow10_eq : (Rows.laid_internal_strconv_uint64pow10 : DataW Unit) = Lib.tabData .u64 Lib.pow10Tab := by kernel_rfl
theorem globs_of {W : World} (h : laidMetH Tryd.prog Rows.asmRightRow.laid W) (hS : W.ShapedOpen Tryd.prog) : Lift.H1.globs W := by
  rw [MakeChecks.laidMetH_plain _ _ _ (by kernel_rfl)] at h
  have hL : laidMet Tryd.prog [("math/bits.deBruijn32tab", Rows.laid_math_bits_deBruijn32tab), ("math/bits.deBruijn64tab", Rows.laid_math_bits_deBruijn64tab), ("internal/strconv.uint64pow10", Rows.laid_internal_strconv_uint64pow10), ("unicode/utf8.acceptRanges", Rows.laid_unicode_utf8_acceptRanges), ("strconv.ErrRange", Rows.laid_strconv_ErrRange), ("strconv.ErrSyntax", Rows.laid_strconv_ErrSyntax), ("unicode/utf8.first", Rows.laid_unicode_utf8_first)] W := h
  have e1 := hL.tail.tail.tail.tail
  have e2 := hL.tail.tail.tail.tail.tail
  have g1 : Tryd.prog.globalNamed "strconv.ErrRange" = some 3 := by kernel_rfl
  have t1 : (Tryd.prog.globals[3]?).map (·.type) = some 70 := by kernel_rfl
  have g2 : Tryd.prog.globalNamed "strconv.ErrSyntax" = some 2 := by kernel_rfl
  have t2 : (Tryd.prog.globals[2]?).map (·.type) = some 70 := by kernel_rfl
  have cs : Tryd.prog.cellsOf 138 = 1 := by kernel_rfl
  have c9 : Tryd.prog.cellsOf 9 = 1 := by kernel_rfl
  obtain ⟨a1, s1, hv1, _, _, _⟩ := laid_sentinel e1 g1 t1 Tryd.underlying70 errRow Tryd.underlying136 Tryd.underlying138 rfl rfl Tryd.underlying9 cs c9
  obtain ⟨a2, s2, hv2, _, _, _⟩ := laid_sentinel e2 g2 t2 Tryd.underlying70 errRow Tryd.underlying136 Tryd.underlying138 rfl rfl Tryd.underlying9 cs c9
  have hp := Lib.laidMet.reads hL (n := "internal/strconv.uint64pow10") (.tail _ (.tail _ (.head _)))
  rw [pow10_eq] at hp
  exact ⟨Tryd.laysCut.s1_3 W hS, ⟨.iface 136 (.pointer (some a2)), .iface 136 (.pointer (some a1)), ⟨(World.var?_cell g2 hv2 0).trans rfl, .inr ⟨_, _, rfl⟩⟩, (World.var?_cell g1 hv1 0).trans rfl, .inr ⟨_, _, rfl⟩⟩, tab_reads (l := []) (g := 1) (t := 109) (e := 85) (n := 20) (by kernel_rfl) (by kernel_rfl) (by kernel_rfl) (by kernel_rfl) (by kernel_rfl) (by kernel_rfl) hp, trivial⟩
theorem room_of {W : World} (h : Lift.H1.globs W) : 4 ≤ W.heap.size := by
  obtain ⟨_, b, _, h6, _⟩ := h.2.1
  unfold World.cell? at h6
  cases hc : W.heap[3]? with
  | none => simp [hc] at h6
  | some o => have := (Array.getElem?_eq_some_iff.1 hc).1; omega
end Go.Proofs.YtklifkfofobamaaDoor
namespace Lift.H1
open Go Go.RowKit Go.Proofs Lift
end Lift.H1
