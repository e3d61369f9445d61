/-
  DERIVED. What the rows' listed variables give. Conditions: none.
-/
import Derived.Test.YtheockdfnlfneaaDoorLaw
import Derived.Test.YtheockdfnlfneaaDoorCards
import Derived.Test.YtheockdfnlfneaaDoorTie
import Derived.ProofKit
import Derived.OpenShut
import Derived.Deep.DeepHandedRow
import Derived.Deep.DeepWitnessRowRef
import Derived.Lib.LaidU8T
import Derived.Lay
import Derived.Stop.LaidErr
import Derived.SevenTiedAt
import Derived.MakeChecks
set_option linter.unusedVariables false
set_option linter.unusedSimpArgs false
set_option linter.unusedSectionVars false
/- What the rows' listed variables give: the library's tables. -/
namespace Go.Proofs.YtheockdfnlfneaaDoor
open Go.ChangeShapes Go.WideShapes Go.ChangeAt Go.RowKit Lift Go.Shelf

theorem own : ownKnob Tryd.prog.godebug = Option.none := by kernel_rfl

theorem errRow (u : TypeId) (h : Tryd.prog.typeName? 3 u = some "*errors.errorString") : u = 117 :=
  typeName_ptr_named (nm := "errors.errorString") (by rw [show "*" ++ "errors.errorString" = "*errors.errorString" by decide]; kernel_rfl) (by kernel_rfl) (by decide) u (by rw [show "*" ++ "errors.errorString" = "*errors.errorString" by decide]; exact h)

theorem accept_eq : (Rows.laid_unicode_utf8_acceptRanges : DataW Unit) = Lib.acceptData := by kernel_rfl
theorem first_eq : (Rows.laid_unicode_utf8_first : DataW Unit) = Lib.firstData := by kernel_rfl

theorem globs_of {W : World} (h : laidMetH Tryd.prog Rows.lexWordsRow.laid W) (hS : W.ShapedOpen Tryd.prog) : Lift.B2.globs W := by
  rw [MakeChecks.laidMetH_plain _ _ _ (by kernel_rfl)] at h
  have hL : laidMet Tryd.prog [("math/bits.deBruijn32tab", Rows.laid_math_bits_deBruijn32tab), ("math/bits.deBruijn64tab", Rows.laid_math_bits_deBruijn64tab), ("internal/strconv.uint64pow10", Rows.laid_internal_strconv_uint64pow10), ("unicode/utf8.acceptRanges", Rows.laid_unicode_utf8_acceptRanges), ("strconv.ErrRange", Rows.laid_strconv_ErrRange), ("strconv.ErrSyntax", Rows.laid_strconv_ErrSyntax), ("unicode/utf8.first", Rows.laid_unicode_utf8_first)] W := h
  have ha := Lib.laidMet.reads hL (n := "unicode/utf8.acceptRanges") (.tail _ (.tail _ (.tail _ (.head _))))
  have hf := Lib.laidMet.reads hL (n := "unicode/utf8.first") (.tail _ (.tail _ (.tail _ (.tail _ (.tail _ (.tail _ (.head _)))))))
  rw [accept_eq] at ha
  rw [first_eq] at hf
  have e1 := hL.tail.tail.tail.tail
  have e2 := hL.tail.tail.tail.tail.tail
  have g4 : Tryd.prog.globalNamed "strconv.ErrRange" = some 4 := by kernel_rfl
  have g3 : Tryd.prog.globalNamed "strconv.ErrSyntax" = some 3 := by kernel_rfl
  have t4 : (Tryd.prog.globals[4]?).map (·.type) = some 58 := by kernel_rfl
  have t3 : (Tryd.prog.globals[3]?).map (·.type) = some 58 := by kernel_rfl
  have c119 : Tryd.prog.cellsOf 119 = 1 := by kernel_rfl
  have c9 : Tryd.prog.cellsOf 9 = 1 := by kernel_rfl
  obtain ⟨a4, s4, hv4, _, _, _⟩ := laid_sentinel e1 g4 t4 Tryd.underlying58 errRow Tryd.underlying117 Tryd.underlying119 rfl rfl Tryd.underlying9 c119 c9
  obtain ⟨a3, s3, hv3, _, _, _⟩ := laid_sentinel e2 g3 t3 Tryd.underlying58 errRow Tryd.underlying117 Tryd.underlying119 rfl rfl Tryd.underlying9 c119 c9
  refine ⟨utf8Tabs_of_readsT (ρ := Tryd.laysValid_ren) (U8Types.of196 Tryd.laysValid) ⟨by kernel_rfl, by kernel_rfl, by kernel_rfl, by kernel_rfl, by kernel_rfl, by kernel_rfl, by kernel_rfl⟩ hf ha, Tryd.laysContains.s1_3 W hS, .iface 117 (.pointer (some a3)), .iface 117 (.pointer (some a4)), ⟨?_, .inr ⟨_, _, rfl⟩⟩, ?_, .inr ⟨_, _, rfl⟩⟩
  · exact (World.var?_cell g3 hv3 0).trans rfl
  · exact (World.var?_cell g4 hv4 0).trans rfl

theorem room_of {W : World} (h : Lift.B2.globs W) : 5 ≤ W.heap.size := by
  obtain ⟨_, _, a, b, _, h6, _⟩ := h
  unfold World.cell? at h6
  cases hc : W.heap[4]? with
  | none => simp [hc] at h6
  | some o => have := (Array.getElem?_eq_some_iff.1 hc).1; omega
end Go.Proofs.YtheockdfnlfneaaDoor

/- Cells of the right types make a struct. -/
namespace Lift.B2
open Go Go.RowKit Go.Proofs Lift

theorem make_31 (cs : List (TV U)) (h : cs.map TV.t = ctys 31) : ∃ x, make 31 cs = some x := by
  unfold ctys at h
  simp only at h
  have h0 := h
  clear h
  obtain ⟨x0, c1, rfl, h1⟩ := tv_cons h0
  obtain ⟨x1, c2, rfl, h2⟩ := tv_cons h1
  obtain ⟨x2, c3, rfl, h3⟩ := tv_cons h2
  obtain rfl := tv_nil h3
  exact ⟨_, rfl⟩

theorem make_38 (cs : List (TV U)) (h : cs.map TV.t = ctys 38) : ∃ x, make 38 cs = some x := by
  unfold ctys at h
  simp only at h
  have h0 := h
  clear h
  obtain ⟨x0, c1, rfl, h1⟩ := tv_cons h0
  obtain ⟨x1, c2, rfl, h2⟩ := tv_cons h1
  obtain ⟨x2, c3, rfl, h3⟩ := tv_cons h2
  obtain ⟨x3, c4, rfl, h4⟩ := tv_cons h3
  obtain rfl := tv_nil h4
  exact ⟨_, rfl⟩

theorem make_49 (cs : List (TV U)) (h : cs.map TV.t = ctys 49) : ∃ x, make 49 cs = some x := by
  unfold ctys at h
  simp only at h
  have h0 := h
  clear h
  obtain ⟨x0, c1, rfl, h1⟩ := tv_cons h0
  obtain ⟨x1, c2, rfl, h2⟩ := tv_cons h1
  obtain ⟨x2, c3, rfl, h3⟩ := tv_cons h2
  obtain ⟨x3, c4, rfl, h4⟩ := tv_cons h3
  obtain rfl := tv_nil h4
  exact ⟨_, rfl⟩

end Lift.B2

