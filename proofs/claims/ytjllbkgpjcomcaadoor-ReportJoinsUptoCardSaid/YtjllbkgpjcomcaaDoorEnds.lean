/-
  DERIVED. What the rows' listed variables give. Conditions: none.
-/
import Derived.Test.YtjllbkgpjcomcaaDoorLaw
import Derived.Test.YtjllbkgpjcomcaaDoorCards
import Derived.Test.YtjllbkgpjcomcaaDoorTie
import Derived.ProofKit
import Derived.OpenShut
import Derived.Deep.DeepHandedRow
import Derived.Deep.DeepWitnessRowRef
import Derived.Lib.LaidU8T
import Derived.Lay
import Derived.Stop.LaidErr
import Derived.SevenTiedAt
import Derived.MakeChecks
set_option linter.unusedVariables false
set_option linter.unusedSimpArgs false
set_option linter.unusedSectionVars false
/- What the rows' listed variables give: the library's tables. -/
namespace Go.Proofs.YtjllbkgpjcomcaaDoor
open Go.ChangeShapes Go.WideShapes Go.ChangeAt Go.RowKit Lift Go.Shelf

theorem globs_of {W : World} (h : laidMetH Tryd.prog Rows.reportReadsRow.laid W) (hS : W.ShapedOpen Tryd.prog) : Lift.D3.globs W := by
  rw [MakeChecks.laidMetH_plain _ _ _ (by kernel_rfl)] at h
  have hL : laidMet Tryd.prog [("math/bits.deBruijn32tab", Rows.laid_math_bits_deBruijn32tab), ("math/bits.deBruijn64tab", Rows.laid_math_bits_deBruijn64tab), ("internal/strconv.uint64pow10", Rows.laid_internal_strconv_uint64pow10), ("unicode/utf8.acceptRanges", Rows.laid_unicode_utf8_acceptRanges), ("unicode/utf8.first", Rows.laid_unicode_utf8_first)] W := h
  exact ⟨Tryd.laysCut.s1_3 W hS, trivial⟩

theorem room_of {W : World} (h : Lift.D3.globs W) : 1 ≤ W.heap.size := by
  obtain ⟨_, h6⟩ := h.1
  unfold World.cell? at h6
  cases hc : W.heap[0]? with
  | none => simp [hc] at h6
  | some o => have := (Array.getElem?_eq_some_iff.1 hc).1; omega
end Go.Proofs.YtjllbkgpjcomcaaDoor

/- Cells of the right types make a struct. -/
namespace Lift.D3
open Go Go.RowKit Go.Proofs Lift
open Lift.D2 (U kk uni cells ctys make tyOf eqOk mixed)

theorem make_30 (cs : List (TV U)) (h : cs.map TV.t = ctys 30) : ∃ x, make 30 cs = some x := by
  unfold ctys at h
  simp only at h
  have h0 := h
  clear h
  obtain ⟨x0, c1, rfl, h1⟩ := tv_cons h0
  obtain ⟨x1, c2, rfl, h2⟩ := tv_cons h1
  obtain ⟨x2, c3, rfl, h3⟩ := tv_cons h2
  obtain ⟨x3, c4, rfl, h4⟩ := tv_cons h3
  obtain ⟨x4, c5, rfl, h5⟩ := tv_cons h4
  obtain rfl := tv_nil h5
  exact ⟨_, rfl⟩

theorem make_34 (cs : List (TV U)) (h : cs.map TV.t = ctys 34) : ∃ x, make 34 cs = some x := by
  unfold ctys at h
  simp only at h
  have h0 := h
  clear h
  obtain ⟨x0, c1, rfl, h1⟩ := tv_cons h0
  obtain ⟨x1, c2, rfl, h2⟩ := tv_cons h1
  obtain ⟨x2, c3, rfl, h3⟩ := tv_cons h2
  obtain ⟨x3, c4, rfl, h4⟩ := tv_cons h3
  obtain rfl := tv_nil h4
  exact ⟨_, rfl⟩

theorem make_38 (cs : List (TV U)) (h : cs.map TV.t = ctys 38) : ∃ x, make 38 cs = some x := by
  unfold ctys at h
  simp only at h
  have h0 := h
  clear h
  obtain ⟨x0, c1, rfl, h1⟩ := tv_cons h0
  obtain ⟨x1, c2, rfl, h2⟩ := tv_cons h1
  obtain ⟨x2, c3, rfl, h3⟩ := tv_cons h2
  obtain rfl := tv_nil h3
  exact ⟨_, rfl⟩

end Lift.D3

