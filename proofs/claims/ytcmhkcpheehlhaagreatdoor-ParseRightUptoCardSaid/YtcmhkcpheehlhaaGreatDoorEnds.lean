/-
  DERIVED. What the rows' listed variables give. Conditions: none.
-/
import Derived.Test.YtcmhkcpheehlhaaGreatDoorLawB
import Derived.Test.YtcmhkcpheehlhaaGreatDoorCards
import Derived.Test.YtcmhkcpheehlhaaGreatDoorTie
import Derived.ProofKit
import Derived.OpenShut
import Derived.Deep.DeepHandedRow
import Derived.Deep.DeepWitnessRowRef
import Derived.Lib.LaidU8T
import Derived.Lay
import Derived.Stop.LaidErr
import Derived.SevenTiedAt
import Derived.MakeChecks
set_option linter.unusedVariables false
set_option linter.unusedSimpArgs false
set_option linter.unusedSectionVars false
namespace Go.Proofs.YtcmhkcpheehlhaaGreatDoor
open Go.ChangeShapes Go.WideShapes Go.ChangeAt Go.RowKit Lift Go.Shelf
theorem zawu (u : TypeId) (h : Tryz.prog.typeName? 3 u = some "*errors.errorString") : u = 226 :=
 typeName_ptr_named (nm := "errors.errorString") (by rw [show "*" ++ "errors.errorString" = "*errors.errorString" by decide]; kernel_rfl) (by kernel_rfl) (by decide) u (by rw [show "*" ++ "errors.errorString" = "*errors.errorString" by decide]; exact h)
theorem zaxf:(Rows.laid_internal_strconv_uint64pow10:DataW Unit)=Lib.tabData .u64 Lib.pow10Tab:=by kernel_rfl
theorem zavx:(Rows.laid_unicode_utf8_acceptRanges:DataW Unit)=Lib.acceptData:=by kernel_rfl
theorem zayd:(Rows.laid_unicode_utf8_first:DataW Unit)=Lib.firstData:=by kernel_rfl
theorem globs_of {W:World} (h:laidMetH Tryz.prog Rows.parseRightRow.laid W) (hS:W.ShapedOpen Tryz.prog):Lift.Q5.globs W:=by
 rw[MakeChecks.laidMetH_plain _ _ _ (by kernel_rfl)] at h
 have hL : laidMet Tryz.prog [("math/bits.deBruijn32tab", Rows.laid_math_bits_deBruijn32tab), ("math/bits.deBruijn64tab", Rows.laid_math_bits_deBruijn64tab), ("internal/strconv.uint64pow10", Rows.laid_internal_strconv_uint64pow10), ("unicode/utf8.acceptRanges", Rows.laid_unicode_utf8_acceptRanges), ("strconv.ErrRange", Rows.laid_strconv_ErrRange), ("strconv.ErrSyntax", Rows.laid_strconv_ErrSyntax), ("unicode/utf8.first", Rows.laid_unicode_utf8_first)] W := h
 have ha := Lib.laidMet.reads hL (n := "unicode/utf8.acceptRanges") (.tail _ (.tail _ (.tail _ (.head _))))
 have hf := Lib.laidMet.reads hL (n := "unicode/utf8.first") (.tail _ (.tail _ (.tail _ (.tail _ (.tail _ (.tail _ (.head _)))))))
 rw[zavx] at ha;rw[zayd] at hf;have e1:=hL.tail.tail.tail.tail;have e2:=hL.tail.tail.tail.tail.tail
 have g1 : Tryz.prog.globalNamed "strconv.ErrRange" = some 5 := by kernel_rfl
 have t1:(Tryz.prog.globals[5]?).map (·.type)=some 140:=by kernel_rfl
 have g2 : Tryz.prog.globalNamed "strconv.ErrSyntax" = some 4 := by kernel_rfl
 have t2:(Tryz.prog.globals[4]?).map (·.type)=some 140:=by kernel_rfl
 have cs:Tryz.prog.cellsOf 228=1:=by kernel_rfl
 have c9:Tryz.prog.cellsOf 9=1:=by kernel_rfl
 obtain ⟨a1,s1,hv1,_,_,_⟩:=laid_sentinel e1 g1 t1 Tryz.underlying140 zawu Tryz.underlying226 Tryz.underlying228 rfl rfl Tryz.underlying9 cs c9;obtain ⟨a2,s2,hv2,_,_,_⟩:=laid_sentinel e2 g2 t2 Tryz.underlying140 zawu Tryz.underlying226 Tryz.underlying228 rfl rfl Tryz.underlying9 cs c9
 have hp := Lib.laidMet.reads hL (n := "internal/strconv.uint64pow10") (.tail _ (.tail _ (.head _)))
 rw[zaxf] at hp;exact ⟨utf8Tabs_of_readsT (ρ:=Tryz.laysDecode_ren) ({ Tryz.laysDecode with }) ⟨by kernel_rfl,by kernel_rfl,by kernel_rfl,by kernel_rfl,by kernel_rfl,by kernel_rfl,by kernel_rfl⟩ hf ha,Tryz.laysContains.s1_3 W hS,⟨.iface 226 (.pointer (some a2)),.iface 226 (.pointer (some a1)),⟨(World.var?_cell g2 hv2 0).trans rfl,.inr ⟨_,_,rfl⟩⟩,(World.var?_cell g1 hv1 0).trans rfl,.inr ⟨_,_,rfl⟩⟩,zaww (l:=[]) (g:=2) (t:=209) (e:=134) (n:=20) (by kernel_rfl) (by kernel_rfl) (by kernel_rfl) (by kernel_rfl) (by kernel_rfl) (by kernel_rfl) hp,trivial⟩
theorem room_of {W:World} (h:Lift.Q5.globs W):6<=W.heap.size:=by
 obtain ⟨_,b,_,h6,_⟩:=h.2.2.1;unfold World.cell? at h6;cases hc:W.heap[5]? with
 |none=>simp[hc] at h6
 |some o=>have:=(Array.getElem?_eq_some_iff.1 hc).1; omega
end Go.Proofs.YtcmhkcpheehlhaaGreatDoor
namespace Lift.Q5
open Go Go.RowKit Go.Proofs Lift
end Lift.Q5
