/-
  DERIVED. What the rows' listed variables give. Conditions: none.
-/
import Derived.Test.YthbhphfmnlchoaaGreatDoorLaw
import Derived.Test.YthbhphfmnlchoaaGreatDoorCards
import Derived.Test.YthbhphfmnlchoaaGreatDoorTie
import Derived.ProofKit
import Derived.OpenShut
import Derived.Deep.DeepHandedRow
import Derived.Deep.DeepWitnessRowRef
import Derived.Lib.LaidU8T
import Derived.Lay
import Derived.Stop.LaidErr
import Derived.SevenTiedAt
import Derived.MakeChecks
set_option linter.unusedVariables false
set_option linter.unusedSimpArgs false
set_option linter.unusedSectionVars false
namespace Go.Proofs.YthbhphfmnlchoaaGreatDoor
open Go.ChangeShapes Go.WideShapes Go.ChangeAt Go.RowKit Lift Go.Shelf
theorem zaq6 (u : TypeId) (h : Tryz.prog.typeName? 3 u = some "*errors.errorString") : u = 176 :=
 typeName_ptr_named (nm := "errors.errorString") (by rw [show "*" ++ "errors.errorString" = "*errors.errorString" by decide]; kernel_rfl) (by kernel_rfl) (by decide) u (by rw [show "*" ++ "errors.errorString" = "*errors.errorString" by decide]; exact h)
theorem zaqy:(Rows.laid_unicode_utf8_acceptRanges:DataW Unit)=Lib.acceptData:=by kernel_rfl
theorem zasz:(Rows.laid_unicode_utf8_first:DataW Unit)=Lib.firstData:=by kernel_rfl
theorem globs_of {W:World} (h:laidMetH Tryz.prog Rows.treeRightRow.laid W) (hS:W.ShapedOpen Tryz.prog):Lift.T3.globs W:=by
 rw[MakeChecks.laidMetH_plain _ _ _ (by kernel_rfl)] at h
 have hL : laidMet Tryz.prog [("math/bits.deBruijn32tab", Rows.laid_math_bits_deBruijn32tab), ("math/bits.deBruijn64tab", Rows.laid_math_bits_deBruijn64tab), ("internal/strconv.uint64pow10", Rows.laid_internal_strconv_uint64pow10), ("unicode/utf8.acceptRanges", Rows.laid_unicode_utf8_acceptRanges), ("strconv.ErrRange", Rows.laid_strconv_ErrRange), ("strconv.ErrSyntax", Rows.laid_strconv_ErrSyntax), ("unicode/utf8.first", Rows.laid_unicode_utf8_first)] W := h
 have ha := Lib.laidMet.reads hL (n := "unicode/utf8.acceptRanges") (.tail _ (.tail _ (.tail _ (.head _))))
 have hf := Lib.laidMet.reads hL (n := "unicode/utf8.first") (.tail _ (.tail _ (.tail _ (.tail _ (.tail _ (.tail _ (.head _)))))))
 rw[zaqy] at ha;rw[zasz] at hf;have e1:=hL.tail.tail.tail.tail;have e2:=hL.tail.tail.tail.tail.tail
 have g1 : Tryz.prog.globalNamed "strconv.ErrRange" = some 4 := by kernel_rfl
 have t1:(Tryz.prog.globals[4]?).map (·.type)=some 134:=by kernel_rfl
 have g2 : Tryz.prog.globalNamed "strconv.ErrSyntax" = some 3 := by kernel_rfl
 have t2:(Tryz.prog.globals[3]?).map (·.type)=some 134:=by kernel_rfl
 have cs:Tryz.prog.cellsOf 178=1:=by kernel_rfl
 have c9:Tryz.prog.cellsOf 9=1:=by kernel_rfl
 obtain ⟨a1,s1,hv1,_,_,_⟩:=laid_sentinel e1 g1 t1 Tryz.underlying134 zaq6 Tryz.underlying176 Tryz.underlying178 rfl rfl Tryz.underlying9 cs c9;obtain ⟨a2,s2,hv2,_,_,_⟩:=laid_sentinel e2 g2 t2 Tryz.underlying134 zaq6 Tryz.underlying176 Tryz.underlying178 rfl rfl Tryz.underlying9 cs c9;exact ⟨utf8Tabs_of_readsT (ρ:=Tryz.laysDecode_ren) ({ Tryz.laysDecode with }) ⟨by kernel_rfl,by kernel_rfl,by kernel_rfl,by kernel_rfl,by kernel_rfl,by kernel_rfl,by kernel_rfl⟩ hf ha,Tryz.laysContains.s1_3 W hS,⟨.iface 176 (.pointer (some a2)),.iface 176 (.pointer (some a1)),⟨(World.var?_cell g2 hv2 0).trans rfl,.inr ⟨_,_,rfl⟩⟩,(World.var?_cell g1 hv1 0).trans rfl,.inr ⟨_,_,rfl⟩⟩,trivial⟩
theorem room_of {W:World} (h:Lift.T3.globs W):5≤W.heap.size:=by
 obtain ⟨_,b,_,h6,_⟩:=h.2.2.1;unfold World.cell? at h6;cases hc:W.heap[4]? with
 |none=>simp[hc] at h6
 |some o=>have:=(Array.getElem?_eq_some_iff.1 hc).1; omega
end Go.Proofs.YthbhphfmnlchoaaGreatDoor
namespace Lift.T3
open Go Go.RowKit Go.Proofs Lift
theorem make_26 (cs:List (TV U)) (h:cs.map TV.t=ctys 26):∃ x,make 26 cs=some x:=by
 unfold ctys at h;simp only at h;have h0:=h;clear h;obtain ⟨x0,c1,rfl,h1⟩:=zaa5 h0;obtain ⟨x1,c2,rfl,h2⟩:=zaa5 h1;obtain ⟨x2,c3,rfl,h3⟩:=zaa5 h2;obtain rfl:=zaim h3;exact ⟨_,rfl⟩
theorem make_38 (cs:List (TV U)) (h:cs.map TV.t=ctys 38):∃ x,make 38 cs=some x:=by
 unfold ctys at h;simp only at h;have h0:=h;clear h;obtain ⟨x0,c1,rfl,h1⟩:=zaa5 h0;obtain ⟨x1,c2,rfl,h2⟩:=zaa5 h1;obtain rfl:=zaim h2;exact ⟨_,rfl⟩
theorem make_41 (cs:List (TV U)) (h:cs.map TV.t=ctys 41):∃ x,make 41 cs=some x:=by
 unfold ctys at h;simp only at h;have h0:=h;clear h;obtain ⟨x0,c1,rfl,h1⟩:=zaa5 h0;obtain ⟨x1,c2,rfl,h2⟩:=zaa5 h1;obtain ⟨x2,c3,rfl,h3⟩:=zaa5 h2;obtain ⟨x3,c4,rfl,h4⟩:=zaa5 h3;obtain rfl:=zaim h4;exact ⟨_,rfl⟩
theorem make_43 (cs:List (TV U)) (h:cs.map TV.t=ctys 43):∃ x,make 43 cs=some x:=by
 unfold ctys at h;simp only at h;have h0:=h;clear h;obtain ⟨x0,c1,rfl,h1⟩:=zaa5 h0;obtain ⟨x1,c2,rfl,h2⟩:=zaa5 h1;obtain ⟨x2,c3,rfl,h3⟩:=zaa5 h2;obtain ⟨x3,c4,rfl,h4⟩:=zaa5 h3;obtain ⟨x4,c5,rfl,h5⟩:=zaa5 h4;obtain ⟨x5,c6,rfl,h6⟩:=zaa5 h5;obtain ⟨x6,c7,rfl,h7⟩:=zaa5 h6;obtain ⟨x7,c8,rfl,h8⟩:=zaa5 h7;obtain ⟨x8,c9,rfl,h9⟩:=zaa5 h8;obtain ⟨x9,c10,rfl,h10⟩:=zaa5 h9;obtain rfl:=zaim h10;exact ⟨_,rfl⟩
theorem make_46 (cs:List (TV U)) (h:cs.map TV.t=ctys 46):∃ x,make 46 cs=some x:=by
 unfold ctys at h;simp only at h;have h0:=h;clear h;obtain ⟨x0,c1,rfl,h1⟩:=zaa5 h0;obtain ⟨x1,c2,rfl,h2⟩:=zaa5 h1;obtain rfl:=zaim h2;exact ⟨_,rfl⟩
end Lift.T3
