/-
  DERIVED. The functions of this seat as Lean has them; the library's modes. Conditions: none.
-/
import Derived.Test.YthfjaagnijcmfaaGreatDoorLiftC
import Derived.Test.YthfjaagnijcmfaaGreatDoorProg
import Derived.KernelRfl
set_option linter.unusedVariables false
set_option linter.unusedSimpArgs false
set_option linter.unusedSectionVars false
namespace Lift.F9
open Go Go.RowKit Go.Proofs Lift
@[reducible] noncomputable def U (n : Nat) : Type := match n with
 | 25 => TUnit
 | 29 => Image
 | 36 => ACode
 | 38 => Instr
 | 44 => TProg
 | 51 => TBody
 | 53 => TThread
 | 57 => TExpr
 | 59 => TAct
 | 73 => TCell
 | 78 => TStmt
 | 88 => Names
 | 100 => Namer
 | 117 => Fault
 | 121 => Token
 | 123 => Shape
 | 136 => Spot
 | 1025 => TUnit
 | 1029 => Image
 | 1036 => ACode
 | 1044 => TProg
 | 1051 => TBody
 | 1053 => TThread
 | 1057 => TExpr
 | 1059 => TAct
 | 1078 => TStmt
 | 1088 => Names
 | 1100 => Namer
 | _ => Empty
noncomputable def cells (n : Nat) : U n → List (TV U) := match n with
 | 25 => fun (x : TUnit) => [⟨.slc (.int .i64), x.cells⟩, ⟨.int .i64, x.mutexes⟩, ⟨.slc (.st 51), x.threads⟩]
 | 29 => fun (x : Image) => [⟨.slc (.int .i64), x.cells⟩, ⟨.int .i64, x.mutexes⟩, ⟨.slc (.st 36), x.threads⟩]
 | 36 => fun (x : ACode) => [⟨.int .i64, x.regs⟩, ⟨.slc (.st 38), x.instrs⟩]
 | 38 => fun (x : Instr) => [⟨.int .i64, x.op⟩, ⟨.int .i64, x.a⟩, ⟨.int .i64, x.b⟩, ⟨.int .i64, x.c⟩]
 | 44 => fun (x : TProg) => [⟨.slc (.st 73), x.cells⟩, ⟨.slc (.str), x.mutexes⟩, ⟨.slc (.st 53), x.threads⟩]
 | 51 => fun (x : TBody) => [⟨.int .i64, x.regs⟩, ⟨.slc (.st 59), x.acts⟩]
 | 53 => fun (x : TThread) => [⟨.str, x.name⟩, ⟨.slc (.st 78), x.body⟩]
 | 57 => fun (x : TExpr) => [⟨.int .i64, x.kind⟩, ⟨.int .i64, x.num⟩, ⟨.str, x.name⟩, ⟨.slc (.st 57), x.args⟩]
 | 59 => fun (x : TAct) => [⟨.int .i64, x.kind⟩, ⟨.int .i64, x.reg⟩, ⟨.int .i64, x.obj⟩, ⟨.int .i64, x.expr.kind⟩, ⟨.int .i64, x.expr.num⟩, ⟨.str, x.expr.name⟩, ⟨.slc (.st 57), x.expr.args⟩, ⟨.int .i64, x.count⟩, ⟨.slc (.st 59), x.then_⟩, ⟨.slc (.st 59), x.else_⟩]
 | 73 => fun (x : TCell) => [⟨.str, x.name⟩, ⟨.int .i64, x.init⟩]
 | 78 => fun (x : TStmt) => [⟨.int .i64, x.kind⟩, ⟨.str, x.reg⟩, ⟨.str, x.name⟩, ⟨.int .i64, x.expr.kind⟩, ⟨.int .i64, x.expr.num⟩, ⟨.str, x.expr.name⟩, ⟨.slc (.st 57), x.expr.args⟩, ⟨.int .i64, x.count⟩, ⟨.slc (.st 78), x.then_⟩, ⟨.slc (.st 78), x.else_⟩]
 | 88 => fun (x : Names) => [⟨.slc (.str), x.cells⟩, ⟨.slc (.str), x.mutexes⟩, ⟨.slc (.str), x.threads⟩, ⟨.slc (.slc (.str)), x.regs⟩]
 | 100 => fun (x : Namer) => [⟨.slc (.str), x.cells⟩, ⟨.slc (.str), x.mutexes⟩, ⟨.slc (.str), x.threads⟩, ⟨.slc (.str), x.regs⟩]
 | 117 => fun (x : Fault) => [⟨.int .i64, x.code⟩, ⟨.int .i64, x.at_⟩, ⟨.str, x.name⟩]
 | 121 => fun (x : Token) => [⟨.int .i64, x.kind⟩, ⟨.str, x.text⟩, ⟨.int .i64, x.num⟩, ⟨.int .i64, x.at_⟩]
 | 123 => fun (x : Shape) => [⟨.bool, x.reg⟩, ⟨.bool, x.name⟩, ⟨.bool, x.expr⟩, ⟨.bool, x.count⟩, ⟨.bool, x.then_⟩, ⟨.bool, x.other⟩]
 | 136 => fun (x : Spot) => [⟨.int .i64, x.rune⟩, ⟨.int .i64, x.at_⟩, ⟨.int .i64, x.line⟩, ⟨.int .i64, x.col⟩]
 | 1025 => fun (x : TUnit) => [⟨.own 3 (.int .i64), x.cells⟩, ⟨.int .i64, x.mutexes⟩, ⟨.own 51 (.st 1051), x.threads⟩]
 | 1029 => fun (x : Image) => [⟨.own 3 (.int .i64), x.cells⟩, ⟨.int .i64, x.mutexes⟩, ⟨.own 36 (.st 1036), x.threads⟩]
 | 1036 => fun (x : ACode) => [⟨.int .i64, x.regs⟩, ⟨.own 38 (.st 38), x.instrs⟩]
 | 1044 => fun (x : TProg) => [⟨.own 73 (.st 73), x.cells⟩, ⟨.own 9 (.str), x.mutexes⟩, ⟨.own 53 (.st 1053), x.threads⟩]
 | 1051 => fun (x : TBody) => [⟨.int .i64, x.regs⟩, ⟨.own 59 (.st 1059), x.acts⟩]
 | 1053 => fun (x : TThread) => [⟨.str, x.name⟩, ⟨.own 78 (.st 1078), x.body⟩]
 | 1057 => fun (x : TExpr) => [⟨.int .i64, x.kind⟩, ⟨.int .i64, x.num⟩, ⟨.str, x.name⟩, ⟨.own 57 (.st 1057), x.args⟩]
 | 1059 => fun (x : TAct) => [⟨.int .i64, x.kind⟩, ⟨.int .i64, x.reg⟩, ⟨.int .i64, x.obj⟩, ⟨.int .i64, x.expr.kind⟩, ⟨.int .i64, x.expr.num⟩, ⟨.str, x.expr.name⟩, ⟨.own 57 (.st 1057), x.expr.args⟩, ⟨.int .i64, x.count⟩, ⟨.own 59 (.st 1059), x.then_⟩, ⟨.own 59 (.st 1059), x.else_⟩]
 | 1078 => fun (x : TStmt) => [⟨.int .i64, x.kind⟩, ⟨.str, x.reg⟩, ⟨.str, x.name⟩, ⟨.int .i64, x.expr.kind⟩, ⟨.int .i64, x.expr.num⟩, ⟨.str, x.expr.name⟩, ⟨.own 57 (.st 1057), x.expr.args⟩, ⟨.int .i64, x.count⟩, ⟨.own 78 (.st 1078), x.then_⟩, ⟨.own 78 (.st 1078), x.else_⟩]
 | 1088 => fun (x : Names) => [⟨.own 9 (.str), x.cells⟩, ⟨.own 9 (.str), x.mutexes⟩, ⟨.own 9 (.str), x.threads⟩, ⟨.own 41 (.own 9 (.str)), x.regs⟩]
 | 1100 => fun (x : Namer) => [⟨.own 9 (.str), x.cells⟩, ⟨.own 9 (.str), x.mutexes⟩, ⟨.own 9 (.str), x.threads⟩, ⟨.own 9 (.str), x.regs⟩]
 | _ => fun _ => []
noncomputable def ctys (n : Nat) : List Ty := match n with
 | 25 => [.slc (.int .i64), .int .i64, .slc (.st 51)]
 | 29 => [.slc (.int .i64), .int .i64, .slc (.st 36)]
 | 36 => [.int .i64, .slc (.st 38)]
 | 38 => [.int .i64, .int .i64, .int .i64, .int .i64]
 | 44 => [.slc (.st 73), .slc (.str), .slc (.st 53)]
 | 51 => [.int .i64, .slc (.st 59)]
 | 53 => [.str, .slc (.st 78)]
 | 57 => [.int .i64, .int .i64, .str, .slc (.st 57)]
 | 59 => [.int .i64, .int .i64, .int .i64, .int .i64, .int .i64, .str, .slc (.st 57), .int .i64, .slc (.st 59), .slc (.st 59)]
 | 73 => [.str, .int .i64]
 | 78 => [.int .i64, .str, .str, .int .i64, .int .i64, .str, .slc (.st 57), .int .i64, .slc (.st 78), .slc (.st 78)]
 | 88 => [.slc (.str), .slc (.str), .slc (.str), .slc (.slc (.str))]
 | 100 => [.slc (.str), .slc (.str), .slc (.str), .slc (.str)]
 | 117 => [.int .i64, .int .i64, .str]
 | 121 => [.int .i64, .str, .int .i64, .int .i64]
 | 123 => [.bool, .bool, .bool, .bool, .bool, .bool]
 | 136 => [.int .i64, .int .i64, .int .i64, .int .i64]
 | 1025 => [.own 3 (.int .i64), .int .i64, .own 51 (.st 1051)]
 | 1029 => [.own 3 (.int .i64), .int .i64, .own 36 (.st 1036)]
 | 1036 => [.int .i64, .own 38 (.st 38)]
 | 1044 => [.own 73 (.st 73), .own 9 (.str), .own 53 (.st 1053)]
 | 1051 => [.int .i64, .own 59 (.st 1059)]
 | 1053 => [.str, .own 78 (.st 1078)]
 | 1057 => [.int .i64, .int .i64, .str, .own 57 (.st 1057)]
 | 1059 => [.int .i64, .int .i64, .int .i64, .int .i64, .int .i64, .str, .own 57 (.st 1057), .int .i64, .own 59 (.st 1059), .own 59 (.st 1059)]
 | 1078 => [.int .i64, .str, .str, .int .i64, .int .i64, .str, .own 57 (.st 1057), .int .i64, .own 78 (.st 1078), .own 78 (.st 1078)]
 | 1088 => [.own 9 (.str), .own 9 (.str), .own 9 (.str), .own 41 (.own 9 (.str))]
 | 1100 => [.own 9 (.str), .own 9 (.str), .own 9 (.str), .own 9 (.str)]
 | _ => []
noncomputable def make (n : Nat) : List (TV U) → Option (U n) := match n with
 | 25 => fun | [⟨.slc (.int .i64), v0⟩, ⟨.int .i64, v1⟩, ⟨.slc (.st 51), v2⟩] => some (TUnit.mk v0 v1 v2) | _ => none
 | 29 => fun | [⟨.slc (.int .i64), v0⟩, ⟨.int .i64, v1⟩, ⟨.slc (.st 36), v2⟩] => some (Image.mk v0 v1 v2) | _ => none
 | 36 => fun | [⟨.int .i64, v0⟩, ⟨.slc (.st 38), v1⟩] => some (ACode.mk v0 v1) | _ => none
 | 38 => fun | [⟨.int .i64, v0⟩, ⟨.int .i64, v1⟩, ⟨.int .i64, v2⟩, ⟨.int .i64, v3⟩] => some (Instr.mk v0 v1 v2 v3) | _ => none
 | 44 => fun | [⟨.slc (.st 73), v0⟩, ⟨.slc (.str), v1⟩, ⟨.slc (.st 53), v2⟩] => some (TProg.mk v0 v1 v2) | _ => none
 | 51 => fun | [⟨.int .i64, v0⟩, ⟨.slc (.st 59), v1⟩] => some (TBody.mk v0 v1) | _ => none
 | 53 => fun | [⟨.str, v0⟩, ⟨.slc (.st 78), v1⟩] => some (TThread.mk v0 v1) | _ => none
 | 57 => fun | [⟨.int .i64, v0⟩, ⟨.int .i64, v1⟩, ⟨.str, v2⟩, ⟨.slc (.st 57), v3⟩] => some (TExpr.mk v0 v1 v2 v3) | _ => none
 | 59 => fun | [⟨.int .i64, v0⟩, ⟨.int .i64, v1⟩, ⟨.int .i64, v2⟩, ⟨.int .i64, v3⟩, ⟨.int .i64, v4⟩, ⟨.str, v5⟩, ⟨.slc (.st 57), v6⟩, ⟨.int .i64, v7⟩, ⟨.slc (.st 59), v8⟩, ⟨.slc (.st 59), v9⟩] => some (TAct.mk v0 v1 v2 (TExpr.mk v3 v4 v5 v6) v7 v8 v9) | _ => none
 | 73 => fun | [⟨.str, v0⟩, ⟨.int .i64, v1⟩] => some (TCell.mk v0 v1) | _ => none
 | 78 => fun | [⟨.int .i64, v0⟩, ⟨.str, v1⟩, ⟨.str, v2⟩, ⟨.int .i64, v3⟩, ⟨.int .i64, v4⟩, ⟨.str, v5⟩, ⟨.slc (.st 57), v6⟩, ⟨.int .i64, v7⟩, ⟨.slc (.st 78), v8⟩, ⟨.slc (.st 78), v9⟩] => some (TStmt.mk v0 v1 v2 (TExpr.mk v3 v4 v5 v6) v7 v8 v9) | _ => none
 | 88 => fun | [⟨.slc (.str), v0⟩, ⟨.slc (.str), v1⟩, ⟨.slc (.str), v2⟩, ⟨.slc (.slc (.str)), v3⟩] => some (Names.mk v0 v1 v2 v3) | _ => none
 | 100 => fun | [⟨.slc (.str), v0⟩, ⟨.slc (.str), v1⟩, ⟨.slc (.str), v2⟩, ⟨.slc (.str), v3⟩] => some (Namer.mk v0 v1 v2 v3) | _ => none
 | 117 => fun | [⟨.int .i64, v0⟩, ⟨.int .i64, v1⟩, ⟨.str, v2⟩] => some (Fault.mk v0 v1 v2) | _ => none
 | 121 => fun | [⟨.int .i64, v0⟩, ⟨.str, v1⟩, ⟨.int .i64, v2⟩, ⟨.int .i64, v3⟩] => some (Token.mk v0 v1 v2 v3) | _ => none
 | 123 => fun | [⟨.bool, v0⟩, ⟨.bool, v1⟩, ⟨.bool, v2⟩, ⟨.bool, v3⟩, ⟨.bool, v4⟩, ⟨.bool, v5⟩] => some (Shape.mk v0 v1 v2 v3 v4 v5) | _ => none
 | 136 => fun | [⟨.int .i64, v0⟩, ⟨.int .i64, v1⟩, ⟨.int .i64, v2⟩, ⟨.int .i64, v3⟩] => some (Spot.mk v0 v1 v2 v3) | _ => none
 | 1025 => fun | [⟨.own 3 (.int .i64), v0⟩, ⟨.int .i64, v1⟩, ⟨.own 51 (.st 1051), v2⟩] => some (TUnit.mk v0 v1 v2) | _ => none
 | 1029 => fun | [⟨.own 3 (.int .i64), v0⟩, ⟨.int .i64, v1⟩, ⟨.own 36 (.st 1036), v2⟩] => some (Image.mk v0 v1 v2) | _ => none
 | 1036 => fun | [⟨.int .i64, v0⟩, ⟨.own 38 (.st 38), v1⟩] => some (ACode.mk v0 v1) | _ => none
 | 1044 => fun | [⟨.own 73 (.st 73), v0⟩, ⟨.own 9 (.str), v1⟩, ⟨.own 53 (.st 1053), v2⟩] => some (TProg.mk v0 v1 v2) | _ => none
 | 1051 => fun | [⟨.int .i64, v0⟩, ⟨.own 59 (.st 1059), v1⟩] => some (TBody.mk v0 v1) | _ => none
 | 1053 => fun | [⟨.str, v0⟩, ⟨.own 78 (.st 1078), v1⟩] => some (TThread.mk v0 v1) | _ => none
 | 1057 => fun | [⟨.int .i64, v0⟩, ⟨.int .i64, v1⟩, ⟨.str, v2⟩, ⟨.own 57 (.st 1057), v3⟩] => some (TExpr.mk v0 v1 v2 v3) | _ => none
 | 1059 => fun | [⟨.int .i64, v0⟩, ⟨.int .i64, v1⟩, ⟨.int .i64, v2⟩, ⟨.int .i64, v3⟩, ⟨.int .i64, v4⟩, ⟨.str, v5⟩, ⟨.own 57 (.st 1057), v6⟩, ⟨.int .i64, v7⟩, ⟨.own 59 (.st 1059), v8⟩, ⟨.own 59 (.st 1059), v9⟩] => some (TAct.mk v0 v1 v2 (TExpr.mk v3 v4 v5 v6) v7 v8 v9) | _ => none
 | 1078 => fun | [⟨.int .i64, v0⟩, ⟨.str, v1⟩, ⟨.str, v2⟩, ⟨.int .i64, v3⟩, ⟨.int .i64, v4⟩, ⟨.str, v5⟩, ⟨.own 57 (.st 1057), v6⟩, ⟨.int .i64, v7⟩, ⟨.own 78 (.st 1078), v8⟩, ⟨.own 78 (.st 1078), v9⟩] => some (TStmt.mk v0 v1 v2 (TExpr.mk v3 v4 v5 v6) v7 v8 v9) | _ => none
 | 1088 => fun | [⟨.own 9 (.str), v0⟩, ⟨.own 9 (.str), v1⟩, ⟨.own 9 (.str), v2⟩, ⟨.own 41 (.own 9 (.str)), v3⟩] => some (Names.mk v0 v1 v2 v3) | _ => none
 | 1100 => fun | [⟨.own 9 (.str), v0⟩, ⟨.own 9 (.str), v1⟩, ⟨.own 9 (.str), v2⟩, ⟨.own 9 (.str), v3⟩] => some (Namer.mk v0 v1 v2 v3) | _ => none
 | _ => fun _ => none
def pn (n : Nat) : Nat := match n with
 | 1025 => 25
 | 1029 => 29
 | 1036 => 36
 | 1044 => 44
 | 1051 => 51
 | 1053 => 53
 | 1057 => 57
 | 1059 => 59
 | 1078 => 78
 | 1088 => 88
 | 1100 => 100
 | n => n
def closed (n : Nat) : Bool := match n with
 | 1025 => true
 | 1029 => true
 | 1036 => true
 | 1044 => true
 | 1051 => true
 | 1053 => true
 | 1057 => true
 | 1059 => true
 | 1078 => true
 | 1100 => true
 | 38 => true
 | 73 => true
 | 117 => true
 | 121 => true
 | 123 => true
 | 136 => true
 | _ => false
def ids : List Nat := [25, 29, 36, 38, 44, 51, 53, 57, 59, 73, 78, 88, 100, 117, 121, 123, 136, 1025, 1029, 1036, 1044, 1051, 1053, 1057, 1059, 1078, 1088, 1100]
theorem zaeo {n : Nat} (h : n ∉ ids) : (∀ x, cells n x = []) ∧ ctys n = [] ∧ pn n = n ∧ closed n = false := by
 refine ⟨?_, ?_, ?_, ?_⟩
 ·intro x; unfold cells; split <;> first | rfl | exact absurd (by decide) h
 ·unfold ctys; split <;> first | rfl | exact absurd (by decide) h
 ·unfold pn; split <;> first | rfl | exact absurd (by decide) h
 ·unfold closed; split <;> first | rfl | exact absurd (by decide) h
theorem zakn {P : Nat → Prop} (h1 : ∀ n ∈ ids, P n) (h2 : ∀ n, n ∉ ids → P n) (n : Nat) : P n := by
 by_cases h : n ∈ ids
 ·exact h1 n h
 ·exact h2 n h
theorem pd : ∀ n, U (pn n) = U n := zakn (by unfold ids; simp only [List.forall_mem_cons]; exact ⟨rfl, rfl, rfl, rfl, rfl, rfl, rfl, rfl, rfl, rfl, rfl, rfl, rfl, rfl, rfl, rfl, rfl, rfl, rfl, rfl, rfl, rfl, rfl, rfl, rfl, rfl, rfl, rfl, fun n h => by cases h⟩) (fun n h => by rw [(zaeo h).2.2.1])
theorem pc : ∀ n (x : U n), cells (pn n) (cast (pd n).symm x) = (cells n x).map (TV.plain pd) := zakn (by unfold ids; simp only [List.forall_mem_cons]; exact ⟨fun _ => rfl, fun _ => rfl, fun _ => rfl, fun _ => rfl, fun _ => rfl, fun _ => rfl, fun _ => rfl, fun _ => rfl, fun _ => rfl, fun _ => rfl, fun _ => rfl, fun _ => rfl, fun _ => rfl, fun _ => rfl, fun _ => rfl, fun _ => rfl, fun _ => rfl, fun _ => rfl, fun _ => rfl, fun _ => rfl, fun _ => rfl, fun _ => rfl, fun _ => rfl, fun _ => rfl, fun _ => rfl, fun _ => rfl, fun _ => rfl, fun _ => rfl, fun n h => by cases h⟩)
 (fun n h x => by rw [(zaeo h).1 x]; exact (zaeo (n := pn n) (by rw [(zaeo h).2.2.1]; exact h)).1 _)
theorem pt : ∀ n, ctys (pn n) = (ctys n).map (Ty.plain pn) := zakn (by unfold ids; simp only [List.forall_mem_cons]; exact ⟨rfl, rfl, rfl, rfl, rfl, rfl, rfl, rfl, rfl, rfl, rfl, rfl, rfl, rfl, rfl, rfl, rfl, rfl, rfl, rfl, rfl, rfl, rfl, rfl, rfl, rfl, rfl, rfl, fun n h => by cases h⟩)
 (fun n h => by rw [(zaeo h).2.2.1, (zaeo h).2.1]; rfl)
theorem closed_ok : ∀ n, closed n = true → ∀ t ∈ ctys n, (match t with
  | .int _ => true | .bool => true | .str => true | .err => true | .fn => true
  | .own _ (.st m) => closed m
  | .own _ e => match e with | .int _ => true | .bool => true | .str => true | _ => false
  | _ => false) = true := zakn (by unfold ids; simp only [List.forall_mem_cons]; exact ⟨fun h => (by cases h), fun h => (by cases h), fun h => (by cases h), fun _ => List.all_eq_true.1 (by rfl), fun h => (by cases h), fun h => (by cases h), fun h => (by cases h), fun h => (by cases h), fun h => (by cases h), fun _ => List.all_eq_true.1 (by rfl), fun h => (by cases h), fun h => (by cases h), fun h => (by cases h), fun _ => List.all_eq_true.1 (by rfl), fun _ => List.all_eq_true.1 (by rfl), fun _ => List.all_eq_true.1 (by rfl), fun _ => List.all_eq_true.1 (by rfl), fun _ => List.all_eq_true.1 (by rfl), fun _ => List.all_eq_true.1 (by rfl), fun _ => List.all_eq_true.1 (by rfl), fun _ => List.all_eq_true.1 (by rfl), fun _ => List.all_eq_true.1 (by rfl), fun _ => List.all_eq_true.1 (by rfl), fun _ => List.all_eq_true.1 (by rfl), fun _ => List.all_eq_true.1 (by rfl), fun _ => List.all_eq_true.1 (by rfl), fun h => (by cases h), fun _ => List.all_eq_true.1 (by rfl), fun n h => by cases h⟩)
 (fun n h hc => by rw [(zaeo h).2.2.2] at hc; cases hc)
@[reducible] noncomputable def uni : Uni where
 U := U
 cells := cells
 ctys := ctys
 make := make
 make_ok := by
  intro n cs x h
  unfold make at h
  split at h
  ·dsimp only at h
   split at h
   ·cases h; rfl
   ·cases h
  ·dsimp only at h
   split at h
   ·cases h; rfl
   ·cases h
  ·dsimp only at h
   split at h
   ·cases h; rfl
   ·cases h
  ·dsimp only at h
   split at h
   ·cases h; rfl
   ·cases h
  ·dsimp only at h
   split at h
   ·cases h; rfl
   ·cases h
  ·dsimp only at h
   split at h
   ·cases h; rfl
   ·cases h
  ·dsimp only at h
   split at h
   ·cases h; rfl
   ·cases h
  ·dsimp only at h
   split at h
   ·cases h; rfl
   ·cases h
  ·dsimp only at h
   split at h
   ·cases h; rfl
   ·cases h
  ·dsimp only at h
   split at h
   ·cases h; rfl
   ·cases h
  ·dsimp only at h
   split at h
   ·cases h; rfl
   ·cases h
  ·dsimp only at h
   split at h
   ·cases h; rfl
   ·cases h
  ·dsimp only at h
   split at h
   ·cases h; rfl
   ·cases h
  ·dsimp only at h
   split at h
   ·cases h; rfl
   ·cases h
  ·dsimp only at h
   split at h
   ·cases h; rfl
   ·cases h
  ·dsimp only at h
   split at h
   ·cases h; rfl
   ·cases h
  ·dsimp only at h
   split at h
   ·cases h; rfl
   ·cases h
  ·dsimp only at h
   split at h
   ·cases h; rfl
   ·cases h
  ·dsimp only at h
   split at h
   ·cases h; rfl
   ·cases h
  ·dsimp only at h
   split at h
   ·cases h; rfl
   ·cases h
  ·dsimp only at h
   split at h
   ·cases h; rfl
   ·cases h
  ·dsimp only at h
   split at h
   ·cases h; rfl
   ·cases h
  ·dsimp only at h
   split at h
   ·cases h; rfl
   ·cases h
  ·dsimp only at h
   split at h
   ·cases h; rfl
   ·cases h
  ·dsimp only at h
   split at h
   ·cases h; rfl
   ·cases h
  ·dsimp only at h
   split at h
   ·cases h; rfl
   ·cases h
  ·dsimp only at h
   split at h
   ·cases h; rfl
   ·cases h
  ·dsimp only at h
   split at h
   ·cases h; rfl
   ·cases h
  ·cases h
 tys_ok := by
  intro n x
  unfold cells ctys
  split <;> rfl
 pn := pn
 pd := pd
 pc := pc
 pt := pt
 closed := closed
 closed_ok := closed_ok
 flat_ok := by
  intro n t h
  have : ∀ n, (ctys n).all Ty.flat = true := by
   intro n
   unfold ctys
   split <;> rfl
  exact List.all_eq_true.1 (this n) t h
noncomputable def tyOf : TypeId → Option Ty
 | 1 => some (.fn)
 | 2 => some (.int .i64)
 | 3 => some (.int .i64)
 | 4 => some (.bool)
 | 5 => some (.int .u8)
 | 6 => some (.int .u8)
 | 9 => some (.str)
 | 10 => some (.str)
 | 11 => some (.str)
 | 12 => some (.int .u64)
 | 21 => some (.int .i32)
 | 22 => some (.slc (.int .i64))
 | 23 => some (.slc (.st 51))
 | 25 => some (.st 25)
 | 26 => some (.fn)
 | 27 => some (.slc (.st 36))
 | 29 => some (.st 29)
 | 30 => some (.int .i64)
 | 32 => some (.fn)
 | 33 => some (.fn)
 | 34 => some (.slc (.st 38))
 | 36 => some (.st 36)
 | 38 => some (.st 38)
 | 39 => some (.fn)
 | 40 => some (.slc (.st 73))
 | 41 => some (.slc (.str))
 | 42 => some (.slc (.st 53))
 | 44 => some (.st 44)
 | 45 => some (.fn)
 | 46 => some (.fn)
 | 47 => some (.slc (.st 78))
 | 48 => some (.fn)
 | 49 => some (.slc (.st 59))
 | 51 => some (.st 51)
 | 53 => some (.st 53)
 | 54 => some (.fn)
 | 55 => some (.slc (.st 57))
 | 57 => some (.st 57)
 | 59 => some (.st 59)
 | 63 => some (.fn)
 | 64 => some (.fn)
 | 65 => some (.fn)
 | 66 => some (.fn)
 | 70 => some (.fn)
 | 71 => some (.fn)
 | 73 => some (.st 73)
 | 74 => some (.fn)
 | 75 => some (.fn)
 | 76 => some (.fn)
 | 78 => some (.st 78)
 | 79 => some (.fn)
 | 80 => some (.fn)
 | 81 => some (.fn)
 | 82 => some (.fn)
 | 84 => some (.fn)
 | 85 => some (.fn)
 | 86 => some (.slc (.slc (.str)))
 | 88 => some (.st 88)
 | 89 => some (.fn)
 | 90 => some (.fn)
 | 91 => some (.fn)
 | 92 => some (.fn)
 | 93 => some (.fn)
 | 94 => some (.fn)
 | 95 => some (.fn)
 | 96 => some (.fn)
 | 97 => some (.fn)
 | 98 => some (.fn)
 | 100 => some (.st 100)
 | 101 => some (.fn)
 | 102 => some (.fn)
 | 104 => some (.fn)
 | 105 => some (.fn)
 | 106 => some (.fn)
 | 107 => some (.fn)
 | 108 => some (.fn)
 | 109 => some (.fn)
 | 112 => some (.fn)
 | 113 => some (.fn)
 | 114 => some (.fn)
 | 115 => some (.slc (.st 121))
 | 117 => some (.st 117)
 | 119 => some (.fn)
 | 121 => some (.st 121)
 | 123 => some (.st 123)
 | 125 => some (.map (.int .i64) (.st 123))
 | 126 => some (.fn)
 | 127 => some (.fn)
 | 128 => some (.fn)
 | 129 => some (.slc (.st 136))
 | 131 => some (.fn)
 | 132 => some (.fn)
 | 134 => some (.fn)
 | 136 => some (.st 136)
 | 138 => some (.fn)
 | 140 => some (.fn)
 | 141 => some (.fn)
 | 142 => some (.fn)
 | 144 => some (.fn)
 | 145 => some (.fn)
 | 146 => some (.fn)
 | 147 => some (.fn)
 | 148 => some (.fn)
 | 149 => some (.fn)
 | 151 => some (.err)
 | 153 => some (.fn)
 | 154 => some (.fn)
 | 156 => some (.int .u64)
 | 160 => some (.fn)
 | 161 => some (.fn)
 | 165 => some (.fn)
 | 166 => some (.fn)
 | 168 => some (.fn)
 | 169 => some (.fn)
 | 170 => some (.fn)
 | 171 => some (.int .i64)
 | 172 => some (.slc (.int .u8))
 | 174 => some (.fn)
 | 176 => some (.fn)
 | 177 => some (.fn)
 | 178 => some (.fn)
 | 179 => some (.fn)
 | 180 => some (.int .u64)
 | 182 => some (.fn)
 | 185 => some (.fn)
 | 186 => some (.fn)
 | 187 => some (.int .u32)
 | 189 => some (.fn)
 | 190 => some (.fn)
 | 195 => some (.fn)
 | 197 => some (.fn)
 | 198 => some (.fn)
 | 200 => some (.fn)
 | 201 => some (.fn)
 | 204 => some (.fn)
 | 205 => some (.fn)
 | 208 => some (.fn)
 | 214 => some (.fn)
 | 215 => some (.int .u8)
 | 216 => some (.int .u8)
 | 217 => some (.fn)
 | 218 => some (.int .i32)
 | 219 => some (.int .i32)
 | _ => none
noncomputable def eqOf (T : TypeId) (n : Nat) : Option (U n → U n → Bool) := match n with
 | 38 => bif Nat.beq T 38 then some fun (a b : Instr) => decide (a = b) else none
 | 73 => bif Nat.beq T 73 then some fun (a b : TCell) => decide (a = b) else none
 | 117 => bif Nat.beq T 117 then some fun (a b : Fault) => decide (a = b) else none
 | 121 => bif Nat.beq T 121 then some fun (a b : Token) => decide (a = b) else none
 | 123 => bif Nat.beq T 123 then some fun (a b : Shape) => decide (a = b) else none
 | 136 => bif Nat.beq T 136 then some fun (a b : Spot) => decide (a = b) else none
 | _ => none
noncomputable def deepOf : TypeId → Option Ty
 | 22 => some (.own 3 (.int .i64))
 | 23 => some (.own 51 (.st 1051))
 | 25 => some (.st 1025)
 | 27 => some (.own 36 (.st 1036))
 | 29 => some (.st 1029)
 | 34 => some (.own 38 (.st 38))
 | 36 => some (.st 1036)
 | 40 => some (.own 73 (.st 73))
 | 41 => some (.own 9 (.str))
 | 42 => some (.own 53 (.st 1053))
 | 44 => some (.st 1044)
 | 47 => some (.own 78 (.st 1078))
 | 49 => some (.own 59 (.st 1059))
 | 51 => some (.st 1051)
 | 53 => some (.st 1053)
 | 55 => some (.own 57 (.st 1057))
 | 57 => some (.st 1057)
 | 59 => some (.st 1059)
 | 78 => some (.st 1078)
 | 86 => some (.own 41 (.own 9 (.str)))
 | 88 => some (.st 1088)
 | 100 => some (.st 1100)
 | 115 => some (.own 121 (.st 121))
 | 129 => some (.own 136 (.st 136))
 | 172 => some (.own 5 (.int .u8))
 | _ => none
@[reducible] noncomputable def kk : Kit := { P := Tryz.prog, u := uni, tyOf, eqOf, modes := fun _ => [], deepOf }
theorem eqOk : EqOk kk := by
 refine zasf fun T n f h => ?_
 change eqOf T n = some f at h
 change zafh Tryz.prog T (ctys n) = true ∧ ∀ a b : U n, f a b = zabp (cells n a) (cells n b)
 unfold eqOf at h
 split at h
 ·cases hb : Nat.beq T 38 with
  | true =>
   rw [hb] at h
   cases Nat.eq_of_beq_eq_true hb
   cases h
   refine ⟨by kernel_rfl, ?_⟩
   rintro ⟨a0, a1, a2, a3⟩ ⟨b0, b1, b2, b3⟩
   simp [cells, zabp, zacz, cond_eq_ite, Bool.decide_and]
  | false => rw [hb] at h; cases h
 ·cases hb : Nat.beq T 73 with
  | true =>
   rw [hb] at h
   cases Nat.eq_of_beq_eq_true hb
   cases h
   refine ⟨by kernel_rfl, ?_⟩
   rintro ⟨a0, a1⟩ ⟨b0, b1⟩
   simp [cells, zabp, zacz, cond_eq_ite, Bool.decide_and]
  | false => rw [hb] at h; cases h
 ·cases hb : Nat.beq T 117 with
  | true =>
   rw [hb] at h
   cases Nat.eq_of_beq_eq_true hb
   cases h
   refine ⟨by kernel_rfl, ?_⟩
   rintro ⟨a0, a1, a2⟩ ⟨b0, b1, b2⟩
   simp [cells, zabp, zacz, cond_eq_ite, Bool.decide_and]
  | false => rw [hb] at h; cases h
 ·cases hb : Nat.beq T 121 with
  | true =>
   rw [hb] at h
   cases Nat.eq_of_beq_eq_true hb
   cases h
   refine ⟨by kernel_rfl, ?_⟩
   rintro ⟨a0, a1, a2, a3⟩ ⟨b0, b1, b2, b3⟩
   simp [cells, zabp, zacz, cond_eq_ite, Bool.decide_and]
  | false => rw [hb] at h; cases h
 ·cases hb : Nat.beq T 123 with
  | true =>
   rw [hb] at h
   cases Nat.eq_of_beq_eq_true hb
   cases h
   refine ⟨by kernel_rfl, ?_⟩
   rintro ⟨a0, a1, a2, a3, a4, a5⟩ ⟨b0, b1, b2, b3, b4, b5⟩
   simp [cells, zabp, zacz, cond_eq_ite, Bool.decide_and]
  | false => rw [hb] at h; cases h
 ·cases hb : Nat.beq T 136 with
  | true =>
   rw [hb] at h
   cases Nat.eq_of_beq_eq_true hb
   cases h
   refine ⟨by kernel_rfl, ?_⟩
   rintro ⟨a0, a1, a2, a3⟩ ⟨b0, b1, b2, b3⟩
   simp [cells, zabp, zacz, cond_eq_ite, Bool.decide_and]
  | false => rw [hb] at h; cases h
 ·cases h
theorem mixed : kk.P.follows .mixedOrders = true := by kernel_rfl
end Lift.F9
namespace Lift.F9
open Go Go.RowKit Go.Proofs Lift Lift.Fn
noncomputable def strings_Contains_md : Mode U := ⟨⟨⟨[0, 1], [], []⟩, [.t (.str), .t (.str)], []⟩, [], [⟨⟨[0], [], []⟩, [.t (.bool)], []⟩], fun ls => match ls with | [⟨.str, a0⟩, ⟨.str, a1⟩] => .get (strings_Contains a0 a1) (fun r => .ret (0, [⟨.bool, r⟩])) | _ => .fail⟩
noncomputable def unicode_utf8_DecodeRuneInString_md : Mode U := ⟨⟨⟨[0], [], []⟩, [.t (.str)], []⟩, [], [⟨⟨[0, 1], [], []⟩, [.t (.int .i32), .t (.int .i64)], []⟩], fun ls => match ls with | [⟨.str, a0⟩] => .get (zaay a0) (fun r => .ret (0, [⟨.int .i32, r.1⟩, ⟨.int .i64, r.2⟩])) | _ => .fail⟩
noncomputable def unicode_utf8_RuneCountInString_md : Mode U := ⟨⟨⟨[0], [], []⟩, [.t (.str)], []⟩, [], [⟨⟨[0], [], []⟩, [.t (.int .i64)], []⟩], fun ls => match ls with | [⟨.str, a0⟩] => .get (zaa2 a0) (fun r => .ret (0, [⟨.int .i64, r⟩])) | _ => .fail⟩
noncomputable def strings_Trim_md : Mode U := ⟨⟨⟨[0, 1], [], []⟩, [.t (.str), .t (.str)], []⟩, [], [⟨⟨[0], [], []⟩, [.t (.str)], []⟩], fun ls => match ls with | [⟨.str, a0⟩, ⟨.str, a1⟩] => .get (zacw a0 a1) (fun r => .ret (0, [⟨.str, r⟩])) | _ => .fail⟩
noncomputable def strconv_Atoi_md : Mode U := ⟨⟨⟨[0], [], []⟩, [.t (.str)], []⟩, [], [⟨⟨[0, 1], [], []⟩, [.t (.int .i64), .t (.err)], []⟩], fun ls => match ls with | [⟨.str, a0⟩] => .get (zacv a0) (fun r => .ret (0, [⟨.int .i64, r.1⟩, ⟨.err, r.2⟩])) | _ => .fail⟩
noncomputable def ms0 : List (FuncId × Mode U) := []
noncomputable def ms1 : List (FuncId × Mode U) := (92, strings_Contains_md) :: ms0
noncomputable def ms2 : List (FuncId × Mode U) := (80, unicode_utf8_DecodeRuneInString_md) :: ms1
noncomputable def ms3 : List (FuncId × Mode U) := (88, unicode_utf8_RuneCountInString_md) :: ms2
noncomputable def ms4 : List (FuncId × Mode U) := (93, strings_Trim_md) :: ms3
noncomputable def ms5 : List (FuncId × Mode U) := (94, strconv_Atoi_md) :: ms4
end Lift.F9
namespace Go.Proofs
open Go.Shelf Go.RowKit
def Tryz.laysContains_ren : Go.Shelf.Ren := ⟨fun | 144 => 92 | 143 => 97 | 219 => 108 | 217 => 117 | 225 => 118 | 224 => 119 | 267 => 120 | 266 => 127 | 314 => 128 | n => n, fun | 9 => 9 | 4 => 4 | 3 => 3 | 5 => 5 | 46 => 156 | 146 => 188 | 51 => 187 | n => n, fun | 1 => 2 | n => n⟩
theorem Tryz.laysContains : Go.Proofs.LaysM.n144 Tryz.prog Tryz.laysContains_ren where
 mixed := by kernel_rfl
 f143 := Tryz.func97.trans (congrArg some (by kernel_rfl))
 f144 := Tryz.func92.trans (congrArg some (by kernel_rfl))
 f217 := Tryz.func117.trans (congrArg some (by kernel_rfl))
 f219 := Tryz.func108.trans (congrArg some (by kernel_rfl))
 f224 := Tryz.func119.trans (congrArg some (by kernel_rfl))
 f225 := Tryz.func118.trans (congrArg some (by kernel_rfl))
 f266 := Tryz.func127.trans (congrArg some (by kernel_rfl))
 f267 := Tryz.func120.trans (congrArg some (by kernel_rfl))
 f314 := Tryz.func128.trans (congrArg some (by kernel_rfl))
 t3 := Tryz.underlying3
 a3 := Tryz.isAgg3
 z3 := Tryz.sizeOf3
 v3 := Tryz.zeroValue3
 t4 := Tryz.underlying4
 a4 := Tryz.isAgg4
 z4 := Tryz.sizeOf4
 v4 := Tryz.zeroValue4
 t5 := Tryz.underlying5
 a5 := Tryz.isAgg5
 z5 := Tryz.sizeOf5
 v5 := Tryz.zeroValue5
 t9 := Tryz.underlying9
 a9 := Tryz.isAgg9
 z9 := Tryz.sizeOf9
 v9 := Tryz.zeroValue9
 t46 := Tryz.underlying156
 a46 := Tryz.isAgg156
 z46 := Tryz.sizeOf156
 v46 := Tryz.zeroValue156
 t51 := Tryz.underlying187
 a51 := Tryz.isAgg187
 z51 := Tryz.sizeOf187
 v51 := Tryz.zeroValue187
 t146 := Tryz.underlying188
 a146 := Tryz.isAgg188
 z146 := Tryz.sizeOf188
 v146 := Tryz.zeroValue188
 g1 := by kernel_rfl
 i3 := by kernel_rfl
 i4 := by kernel_rfl
 i5 := by kernel_rfl
 i9 := by kernel_rfl
 i46 := by kernel_rfl
 i51 := by kernel_rfl
 i146 := by kernel_rfl
 m1 := by kernel_rfl
 s1_3 := fun w h => Go.Proofs.cell_of_shapedOpen_int (zero := #[.int .i64 0]) (t := 3) h (of_decide_eq_true (by kernel_rfl)) (by kernel_rfl) rfl (by kernel_rfl) (by kernel_rfl) Tryz.underlying3
def Tryz.laysDecode_ren : Go.Shelf.Ren := ⟨fun | 197 => 80 | 260 => 90 | n => n, fun | 9 => 9 | 21 => 21 | 3 => 3 | 4 => 4 | 5 => 5 | 105 => 139 | 119 => 155 | 0 => 0 | 46 => 156 | 139 => 159 | 138 => 158 | n => n, fun | 3 => 0 | 4 => 1 | n => n⟩
theorem Tryz.laysDecode : Go.Proofs.Lays.n197 Tryz.prog Tryz.laysDecode_ren where
 mixed := by kernel_rfl
 f197 := Tryz.func80.trans (congrArg some (by kernel_rfl))
 f260 := Tryz.func90.trans (congrArg some (by kernel_rfl))
 t0 := Tryz.underlying0
 a0 := Tryz.isAgg0
 z0 := Tryz.sizeOf0
 v0 := Tryz.zeroValue0
 t3 := Tryz.underlying3
 a3 := Tryz.isAgg3
 z3 := Tryz.sizeOf3
 v3 := Tryz.zeroValue3
 t4 := Tryz.underlying4
 a4 := Tryz.isAgg4
 z4 := Tryz.sizeOf4
 v4 := Tryz.zeroValue4
 t5 := Tryz.underlying5
 a5 := Tryz.isAgg5
 z5 := Tryz.sizeOf5
 v5 := Tryz.zeroValue5
 t9 := Tryz.underlying9
 a9 := Tryz.isAgg9
 z9 := Tryz.sizeOf9
 v9 := Tryz.zeroValue9
 t21 := Tryz.underlying21
 a21 := Tryz.isAgg21
 z21 := Tryz.sizeOf21
 v21 := Tryz.zeroValue21
 t46 := Tryz.underlying156
 a46 := Tryz.isAgg156
 z46 := Tryz.sizeOf156
 v46 := Tryz.zeroValue156
 t105 := Tryz.underlying139
 a105 := Tryz.isAgg139
 z105 := Tryz.sizeOf139
 v105 := Tryz.zeroValue139
 t119 := Tryz.underlying155
 a119 := Tryz.isAgg155
 z119 := Tryz.sizeOf155
 t138 := Tryz.underlying158
 a138 := Tryz.isAgg158
 z138 := Tryz.sizeOf158
 v138 := Tryz.zeroValue158
 t139 := Tryz.underlying159
 a139 := Tryz.isAgg159
 z139 := Tryz.sizeOf159
 v139 := Tryz.zeroValue159
 g3 := by kernel_rfl
 g4 := by kernel_rfl
def Tryz.laysCount_ren : Go.Shelf.Ren := ⟨fun | 195 => 88 | n => n, fun | 9 => 9 | 3 => 3 | 0 => 0 | 4 => 4 | n => n, fun | n => n⟩
theorem Tryz.laysCount : Go.Proofs.Lays.n195 Tryz.prog Tryz.laysCount_ren where
 mixed := by kernel_rfl
 f195 := Tryz.func88.trans (congrArg some (by kernel_rfl))
 t0 := Tryz.underlying0
 a0 := Tryz.isAgg0
 z0 := Tryz.sizeOf0
 v0 := Tryz.zeroValue0
 t3 := Tryz.underlying3
 a3 := Tryz.isAgg3
 z3 := Tryz.sizeOf3
 v3 := Tryz.zeroValue3
 t4 := Tryz.underlying4
 a4 := Tryz.isAgg4
 z4 := Tryz.sizeOf4
 v4 := Tryz.zeroValue4
 t9 := Tryz.underlying9
 a9 := Tryz.isAgg9
 z9 := Tryz.sizeOf9
 v9 := Tryz.zeroValue9
def Tryz.laysTrim_ren : Go.Shelf.Ren := ⟨fun | 160 => 93 | 232 => 99 | 231 => 98 | 227 => 100 | 234 => 102 | 233 => 101 | 236 => 104 | 235 => 103 | 228 => 109 | 271 => 111 | 151 => 110 | 197 => 80 | 120 => 122 | 152 => 121 | 260 => 90 | 137 => 129 | 119 => 107 | 224 => 119 | 225 => 118 | 217 => 117 | 266 => 127 | n => n, fun | 9 => 9 | 4 => 4 | 3 => 3 | 5 => 5 | 117 => 164 | 116 => 163 | 0 => 0 | 124 => 167 | 21 => 21 | 105 => 139 | 46 => 156 | 119 => 155 | 139 => 159 | 138 => 158 | n => n, fun | 3 => 0 | 4 => 1 | n => n⟩
theorem Tryz.laysTrim : Go.Proofs.Lays.n160 Tryz.prog Tryz.laysTrim_ren where
 mixed := by kernel_rfl
 f119 := Tryz.func107.trans (congrArg some (by kernel_rfl))
 f120 := Tryz.func122.trans (congrArg some (by kernel_rfl))
 f137 := Tryz.func129.trans (congrArg some (by kernel_rfl))
 f151 := Tryz.func110.trans (congrArg some (by kernel_rfl))
 f152 := Tryz.func121.trans (congrArg some (by kernel_rfl))
 f160 := Tryz.func93.trans (congrArg some (by kernel_rfl))
 f197 := Tryz.func80.trans (congrArg some (by kernel_rfl))
 f217 := Tryz.func117.trans (congrArg some (by kernel_rfl))
 f224 := Tryz.func119.trans (congrArg some (by kernel_rfl))
 f225 := Tryz.func118.trans (congrArg some (by kernel_rfl))
 f227 := Tryz.func100.trans (congrArg some (by kernel_rfl))
 f228 := Tryz.func109.trans (congrArg some (by kernel_rfl))
 f231 := Tryz.func98.trans (congrArg some (by kernel_rfl))
 f232 := Tryz.func99.trans (congrArg some (by kernel_rfl))
 f233 := Tryz.func101.trans (congrArg some (by kernel_rfl))
 f234 := Tryz.func102.trans (congrArg some (by kernel_rfl))
 f235 := Tryz.func103.trans (congrArg some (by kernel_rfl))
 f236 := Tryz.func104.trans (congrArg some (by kernel_rfl))
 f260 := Tryz.func90.trans (congrArg some (by kernel_rfl))
 f266 := Tryz.func127.trans (congrArg some (by kernel_rfl))
 f271 := Tryz.func111.trans (congrArg some (by kernel_rfl))
 t0 := Tryz.underlying0
 a0 := Tryz.isAgg0
 z0 := Tryz.sizeOf0
 v0 := Tryz.zeroValue0
 t3 := Tryz.underlying3
 a3 := Tryz.isAgg3
 z3 := Tryz.sizeOf3
 v3 := Tryz.zeroValue3
 t4 := Tryz.underlying4
 a4 := Tryz.isAgg4
 z4 := Tryz.sizeOf4
 v4 := Tryz.zeroValue4
 t5 := Tryz.underlying5
 a5 := Tryz.isAgg5
 z5 := Tryz.sizeOf5
 v5 := Tryz.zeroValue5
 t9 := Tryz.underlying9
 a9 := Tryz.isAgg9
 z9 := Tryz.sizeOf9
 v9 := Tryz.zeroValue9
 t21 := Tryz.underlying21
 a21 := Tryz.isAgg21
 z21 := Tryz.sizeOf21
 v21 := Tryz.zeroValue21
 t46 := Tryz.underlying156
 a46 := Tryz.isAgg156
 z46 := Tryz.sizeOf156
 v46 := Tryz.zeroValue156
 t105 := Tryz.underlying139
 a105 := Tryz.isAgg139
 z105 := Tryz.sizeOf139
 v105 := Tryz.zeroValue139
 t116 := Tryz.underlying163
 a116 := Tryz.isAgg163
 z116 := Tryz.sizeOf163
 t117 := Tryz.underlying164
 a117 := Tryz.isAgg164
 z117 := Tryz.sizeOf164
 v117 := Tryz.zeroValue164
 t119 := Tryz.underlying155
 a119 := Tryz.isAgg155
 z119 := Tryz.sizeOf155
 t124 := Tryz.underlying167
 a124 := Tryz.isAgg167
 z124 := Tryz.sizeOf167
 v124 := Tryz.zeroValue167
 t138 := Tryz.underlying158
 a138 := Tryz.isAgg158
 z138 := Tryz.sizeOf158
 v138 := Tryz.zeroValue158
 t139 := Tryz.underlying159
 a139 := Tryz.isAgg159
 z139 := Tryz.sizeOf159
 v139 := Tryz.zeroValue159
 g3 := by kernel_rfl
 g4 := by kernel_rfl
def Tryz.laysAtoi_ren : Go.Shelf.Ren := ⟨fun | 172 => 94 | 244 => 105 | 245 => 106 | 247 => 112 | 279 => 113 | 280 => 114 | 281 => 115 | 282 => 116 | 287 => 123 | 316 => 124 | 171 => 126 | 205 => 125 | 321 => 130 | 322 => 131 | 243 => 132 | 246 => 133 | 283 => 134 | 284 => 135 | 285 => 136 | 286 => 137 | 129 => 139 | 317 => 138 | 318 => 140 | 319 => 141 | 320 => 142 | 337 => 143 | 338 => 144 | n => n, fun | 9 => 9 | 3 => 3 | 75 => 151 | 76 => 152 | 4 => 4 | 5 => 5 | 167 => 171 | 37 => 172 | 0 => 0 | 85 => 173 | 2 => 2 | 168 => 175 | 53 => 180 | 175 => 181 | 46 => 156 | 210 => 184 | 127 => 191 | 145 => 194 | 143 => 192 | 21 => 21 | 171 => 196 | 173 => 199 | 212 => 202 | 51 => 187 | 20 => 20 | 213 => 203 | 232 => 206 | 233 => 207 | 80 => 208 | n => n, fun | 15 => 3 | 16 => 4 | 17 => 5 | 18 => 6 | 19 => 7 | n => n⟩
theorem Tryz.laysAtoi : Go.Proofs.LaysC.n172 Tryz.prog Tryz.laysAtoi_ren where
 mixed := by kernel_rfl
 f129 := Tryz.func139.trans (congrArg some (by kernel_rfl))
 f171 := Tryz.func126.trans (congrArg some (by kernel_rfl))
 f172 := Tryz.func94.trans (congrArg some (by kernel_rfl))
 f205 := Tryz.func125.trans (congrArg some (by kernel_rfl))
 f243 := Tryz.func132.trans (congrArg some (by kernel_rfl))
 f244 := Tryz.func105.trans (congrArg some (by kernel_rfl))
 f245 := Tryz.func106.trans (congrArg some (by kernel_rfl))
 f246 := Tryz.func133.trans (congrArg some (by kernel_rfl))
 f247 := Tryz.func112.trans (congrArg some (by kernel_rfl))
 f279 := Tryz.func113.trans (congrArg some (by kernel_rfl))
 f280 := Tryz.func114.trans (congrArg some (by kernel_rfl))
 f281 := Tryz.func115.trans (congrArg some (by kernel_rfl))
 f282 := Tryz.func116.trans (congrArg some (by kernel_rfl))
 f283 := Tryz.func134.trans (congrArg some (by kernel_rfl))
 f284 := Tryz.func135.trans (congrArg some (by kernel_rfl))
 f285 := Tryz.func136.trans (congrArg some (by kernel_rfl))
 f286 := Tryz.func137.trans (congrArg some (by kernel_rfl))
 f287 := Tryz.func123.trans (congrArg some (by kernel_rfl))
 f316 := Tryz.func124.trans (congrArg some (by kernel_rfl))
 f317 := Tryz.func138.trans (congrArg some (by kernel_rfl))
 f318 := Tryz.func140.trans (congrArg some (by kernel_rfl))
 f319 := Tryz.func141.trans (congrArg some (by kernel_rfl))
 f320 := Tryz.func142.trans (congrArg some (by kernel_rfl))
 f321 := Tryz.func130.trans (congrArg some (by kernel_rfl))
 f322 := Tryz.func131.trans (congrArg some (by kernel_rfl))
 f337 := Tryz.func143.trans (congrArg some (by kernel_rfl))
 f338 := Tryz.func144.trans (congrArg some (by kernel_rfl))
 t0 := Tryz.underlying0
 a0 := Tryz.isAgg0
 z0 := Tryz.sizeOf0
 v0 := Tryz.zeroValue0
 t2 := Tryz.underlying2
 a2 := Tryz.isAgg2
 z2 := Tryz.sizeOf2
 v2 := Tryz.zeroValue2
 t3 := Tryz.underlying3
 a3 := Tryz.isAgg3
 z3 := Tryz.sizeOf3
 v3 := Tryz.zeroValue3
 t4 := Tryz.underlying4
 a4 := Tryz.isAgg4
 z4 := Tryz.sizeOf4
 v4 := Tryz.zeroValue4
 t5 := Tryz.underlying5
 a5 := Tryz.isAgg5
 z5 := Tryz.sizeOf5
 v5 := Tryz.zeroValue5
 t9 := Tryz.underlying9
 a9 := Tryz.isAgg9
 z9 := Tryz.sizeOf9
 v9 := Tryz.zeroValue9
 t20 := Tryz.underlying20
 a20 := Tryz.isAgg20
 z20 := Tryz.sizeOf20
 v20 := Tryz.zeroValue20
 t21 := Tryz.underlying21
 a21 := Tryz.isAgg21
 z21 := Tryz.sizeOf21
 v21 := Tryz.zeroValue21
 t37 := Tryz.underlying172
 a37 := Tryz.isAgg172
 z37 := Tryz.sizeOf172
 v37 := Tryz.zeroValue172
 t46 := Tryz.underlying156
 a46 := Tryz.isAgg156
 z46 := Tryz.sizeOf156
 v46 := Tryz.zeroValue156
 t51 := Tryz.underlying187
 a51 := Tryz.isAgg187
 z51 := Tryz.sizeOf187
 v51 := Tryz.zeroValue187
 t53 := Tryz.underlying180
 a53 := Tryz.isAgg180
 z53 := Tryz.sizeOf180
 v53 := Tryz.zeroValue180
 t75 := Tryz.underlying151
 a75 := Tryz.isAgg151
 z75 := Tryz.sizeOf151
 v75 := Tryz.zeroValue151
 t76 := Tryz.underlying152
 a76 := Tryz.isAgg152
 z76 := Tryz.sizeOf152
 v76 := Tryz.zeroValue152
 t85 := Tryz.underlying173
 a85 := Tryz.isAgg173
 z85 := Tryz.sizeOf173
 v85 := Tryz.zeroValue173
 t127 := Tryz.underlying191
 a127 := Tryz.isAgg191
 z127 := Tryz.sizeOf191
 v127 := Tryz.zeroValue191
 t143 := Tryz.underlying192
 a143 := Tryz.isAgg192
 z143 := Tryz.sizeOf192
 v143 := Tryz.zeroValue192
 t145 := Tryz.underlying194
 a145 := Tryz.isAgg194
 z145 := Tryz.sizeOf194
 v145 := Tryz.zeroValue194
 t167 := Tryz.underlying171
 a167 := Tryz.isAgg171
 z167 := Tryz.sizeOf171
 v167 := Tryz.zeroValue171
 t168 := Tryz.underlying175
 a168 := Tryz.isAgg175
 z168 := Tryz.sizeOf175
 v168 := Tryz.zeroValue175
 t171 := Tryz.underlying196
 a171 := Tryz.isAgg196
 z171 := Tryz.sizeOf196
 v171 := Tryz.zeroValue196
 t173 := Tryz.underlying199
 a173 := Tryz.isAgg199
 z173 := Tryz.sizeOf199
 v173 := Tryz.zeroValue199
 t175 := Tryz.underlying181
 a175 := Tryz.isAgg181
 z175 := Tryz.sizeOf181
 v175 := Tryz.zeroValue181
 t210 := Tryz.underlying184
 a210 := Tryz.isAgg184
 z210 := Tryz.sizeOf184
 v210 := Tryz.zeroValue184
 t212 := Tryz.underlying202
 a212 := Tryz.isAgg202
 z212 := Tryz.sizeOf202
 v212 := Tryz.zeroValue202
 t213 := Tryz.underlying203
 a213 := Tryz.isAgg203
 z213 := Tryz.sizeOf203
 t232 := Tryz.underlying206
 a232 := Tryz.isAgg206
 z232 := Tryz.sizeOf206
 v232 := Tryz.zeroValue206
 t233 := Tryz.underlying207
 a233 := Tryz.isAgg207
 z233 := Tryz.sizeOf207
 v233 := Tryz.zeroValue207
 g15 := by kernel_rfl
 g16 := by kernel_rfl
 g17 := by kernel_rfl
 g18 := by kernel_rfl
 g19 := by kernel_rfl
 t80 := Tryz.underlying208
 a80 := Tryz.isAgg208
 z80 := Tryz.sizeOf208
 v80 := Tryz.zeroValue208
 i0 := by kernel_rfl
 i2 := by kernel_rfl
 i3 := by kernel_rfl
 i4 := by kernel_rfl
 i5 := by kernel_rfl
 i9 := by kernel_rfl
 i20 := by kernel_rfl
 i21 := by kernel_rfl
 i37 := by kernel_rfl
 i46 := by kernel_rfl
 i51 := by kernel_rfl
 i53 := by kernel_rfl
 i75 := by kernel_rfl
 i76 := by kernel_rfl
 i80 := by kernel_rfl
 i85 := by kernel_rfl
 i127 := by kernel_rfl
 i143 := by kernel_rfl
 i145 := by kernel_rfl
 i167 := by kernel_rfl
 i168 := by kernel_rfl
 i171 := by kernel_rfl
 i173 := by kernel_rfl
 i175 := by kernel_rfl
 i210 := by kernel_rfl
 i212 := by kernel_rfl
 i232 := by kernel_rfl
 i233 := by kernel_rfl
 m15 := by kernel_rfl
 m16 := by kernel_rfl
 m17 := by kernel_rfl
 m18 := by kernel_rfl
 m19 := by kernel_rfl
 c0 := by kernel_rfl
 c2 := by kernel_rfl
 c3 := by kernel_rfl
 c4 := by kernel_rfl
 c5 := by kernel_rfl
 c9 := by kernel_rfl
 c20 := by kernel_rfl
 c21 := by kernel_rfl
 c37 := by kernel_rfl
 c46 := by kernel_rfl
 c51 := by kernel_rfl
 c53 := by kernel_rfl
 c75 := by kernel_rfl
 c76 := by kernel_rfl
 c80 := by kernel_rfl
 c85 := by kernel_rfl
 c127 := by kernel_rfl
 c143 := by kernel_rfl
 c145 := by kernel_rfl
 c167 := by kernel_rfl
 c168 := by kernel_rfl
 c171 := by kernel_rfl
 c173 := by kernel_rfl
 c175 := by kernel_rfl
 c210 := by kernel_rfl
 c212 := by kernel_rfl
 c213 := by kernel_rfl
 c232 := by kernel_rfl
 c233 := by kernel_rfl
theorem Tryz.boolRow : (Tryz.prog.info? (Tryz.laysTrim_ren.t 116)).map (fun i => (i.zero, i.size)) = some (some (.agg (Array.replicate 256 (.bool false))), 256) := by kernel_rfl
end Go.Proofs
namespace Lift.F9
open Go Go.RowKit Go.Proofs Lift Lift.Fn
theorem zadz {w w' : World} {n : Nat} (h : ∀ k, k < n → w'.heap[k]? = w.heap[k]?) {b o : Nat} (hb : b < n) : w'.cell? ⟨b, o, none⟩ = w.cell? ⟨b, o, none⟩ := by
 unfold World.cell?
 rw [h b hb]
def isErr (v : Value) : Prop := v = .nilIface ∨ ∃ te pe, v = .iface te pe
def globs (w : World) : Prop := Go.Lib.Utf8Tabs 0 1 w ∧ (∃ m, w.cell? ⟨2, 0, none⟩ = some (.int .i64 m)) ∧ (∃ a b, (w.cell? ⟨3, 0, none⟩ = some a ∧ isErr a) ∧ (w.cell? ⟨4, 0, none⟩ = some b ∧ isErr b)) ∧ True
theorem zao9 (w w' : World) (h : globs w) (hs : ∀ k, k < 5 → w'.heap[k]? = w.heap[k]?) : globs w' := by
 refine ⟨?_, ?_, ?_, trivial⟩
 ·obtain ⟨h1, h2⟩ := h.1
  refine ⟨fun c hc => ?_, fun i hi => ?_⟩
  ·rw [zadz hs (by omega)]; exact h1 c hc
  ·rw [zadz hs (by omega), zadz hs (by omega)]; exact h2 i hi
 ·obtain ⟨m, h3⟩ := h.2.1
  exact ⟨m, by rw [zadz hs (by omega)]; exact h3⟩
 ·obtain ⟨a, b, ⟨h4, h5⟩, h6, h7⟩ := h.2.2.1
  exact ⟨a, b, ⟨by rw [zadz hs (by omega)]; exact h4, h5⟩, by rw [zadz hs (by omega)]; exact h6, h7⟩
@[reducible] def env0 : Env := ⟨globs, 5, fun w w' h hs _ _ _ => zao9 w w' h hs⟩
theorem known0 : Known kk env0 (zaae ms0) := known_nil
theorem strings_Contains_post : ∀ ls j rs, (strings_Contains_md.sum ls).val = some (j, rs) → zabe kk env0 92 strings_Contains_md.sh strings_Contains_md.outs ls j rs := by
 intro ls j rs h
 simp only [strings_Contains_md] at h
 split at h
 ·obtain ⟨r, hr, h⟩ := Tr.get_val h
  rw [strings_Contains, zaaa, zadf, cond_eq_ite, Option.ite_none_right_eq_some, decide_eq_true_eq] at hr
  obtain ⟨hc, hr⟩ := hr
  cases hr
  cases h
  exact contains_post (K := kk) (V := env0) (ρ := Tryz.laysContains_ren) ({ Tryz.laysContains with }) (fun w h => h.2.1) _ _ hc
 ·cases h
theorem known1 : Known kk env0 (zaae ms1) := known_cons (by kernel_rfl) strings_Contains_post known0
theorem unicode_utf8_DecodeRuneInString_post : ∀ ls j rs, (unicode_utf8_DecodeRuneInString_md.sum ls).val = some (j, rs) → zabe kk env0 80 unicode_utf8_DecodeRuneInString_md.sh unicode_utf8_DecodeRuneInString_md.outs ls j rs := by
 intro ls j rs h
 simp only [unicode_utf8_DecodeRuneInString_md] at h
 split at h
 ·obtain ⟨r, hr, h⟩ := Tr.get_val h
  rw [zaay, zaaa, zabm] at hr
  cases hr
  cases h
  exact decode_post (K := kk) (V := env0) (ρ := Tryz.laysDecode_ren) Tryz.laysDecode (fun w h => h.1) _
 ·cases h
theorem known2 : Known kk env0 (zaae ms2) := known_cons (by kernel_rfl) unicode_utf8_DecodeRuneInString_post known1
theorem unicode_utf8_RuneCountInString_post : ∀ ls j rs, (unicode_utf8_RuneCountInString_md.sum ls).val = some (j, rs) → zabe kk env0 88 unicode_utf8_RuneCountInString_md.sh unicode_utf8_RuneCountInString_md.outs ls j rs := by
 intro ls j rs h
 simp only [unicode_utf8_RuneCountInString_md] at h
 split at h
 ·obtain ⟨r, hr, h⟩ := Tr.get_val h
  rw [zaa2, zaaa, zabo, cond_eq_ite, Option.ite_none_right_eq_some, decide_eq_true_eq] at hr
  obtain ⟨hc, hr⟩ := hr
  cases hr
  cases h
  exact runeCount_post (K := kk) (V := env0) (ρ := Tryz.laysCount_ren) Tryz.laysCount _ hc
 ·cases h
theorem known3 : Known kk env0 (zaae ms3) := known_cons (by kernel_rfl) unicode_utf8_RuneCountInString_post known2
theorem strings_Trim_post : ∀ ls j rs, (strings_Trim_md.sum ls).val = some (j, rs) → zabe kk env0 93 strings_Trim_md.sh strings_Trim_md.outs ls j rs := by
 intro ls j rs h
 simp only [strings_Trim_md] at h
 split at h
 ·obtain ⟨r, hr, h⟩ := Tr.get_val h
  rw [zacw, zaaa, zaeu, cond_eq_ite, Option.ite_none_right_eq_some, Bool.and_eq_true, decide_eq_true_eq] at hr
  obtain ⟨⟨hc, hd⟩, hr⟩ := hr
  cases hr
  cases h
  exact trim_post (K := kk) (V := env0) (ρ := Tryz.laysTrim_ren) Tryz.laysTrim Tryz.boolRow _ _ hc.1 hc.2 hd
 ·cases h
theorem known4 : Known kk env0 (zaae ms4) := known_cons (by kernel_rfl) strings_Trim_post known3
theorem strconv_Atoi_post : ∀ ls j rs, (strconv_Atoi_md.sum ls).val = some (j, rs) → zabe kk env0 94 strconv_Atoi_md.sh strconv_Atoi_md.outs ls j rs := by
 intro ls j rs h
 simp only [strconv_Atoi_md] at h
 split at h
 ·obtain ⟨r, hr, h⟩ := Tr.get_val h
  rw [zacv, zaaa, zaek, cond_eq_ite, Option.ite_none_right_eq_some, decide_eq_true_eq] at hr
  obtain ⟨hc, hr⟩ := hr
  cases hr
  cases h
  exact atoi_post (K := kk) (V := env0) (ρ := Tryz.laysAtoi_ren) Tryz.laysAtoi (fun w h => h.2.2.1) _ hc
 ·cases h
theorem known5 : Known kk env0 (zaae ms5) := known_cons (by kernel_rfl) strconv_Atoi_post known4
end Lift.F9
namespace Lift.Fn
noncomputable section
open Go Lift
def qaq_t3 (rec : Int → Int → List (List UInt8) → Option ((List (List UInt8)))) (a0 : Int) (a1 : Int) (a2 : List (List UInt8)) : Option ((List (List UInt8))) :=
  bif decide (a1 < a0) then
   bif decide ((List.length a2 + (1 : Nat)) * (16 : Nat) ≤ (140737488355328 : Nat) ∧ List.length a2 + (1 : Nat) ≤ (9223372036854775807 : Nat)) then
    rec (a0) (IntKind.wrap IntKind.i64 (a1 + (1 : Int))) (a2 ++ [[(120 : UInt8)]])
   else
    none
  else
   some (a2)
def qaq_i3 : Nat → Int → Int → List (List UInt8) → Option ((List (List UInt8)))
 | 0, _, _, _ => none
 | n + 1, a0, a1, a2 => qaq_t3 (qaq_i3 n) a0 a1 a2
def qaq_l3 : Int → Int → List (List UInt8) → Option ((List (List UInt8))) := sealF (qaq_i3 fuel)
def qaq_f (a0 : Int) : Option ((List (List UInt8))) :=
  Option.bind (qaq_l3 a0 (0 : Int) []) fun y0 =>
  some (y0)
def qaq : Int → Option ((List (List UInt8))) := sealF (qaq_f)
def qbf_f (a0 : List (List UInt8)) : Option ((List (List UInt8))) :=
  bif List.isEmpty a0 then
   both (
     some ([])) (
     bif decide (((0 : Nat) + List.length a0) * (16 : Nat) ≤ (140737488355328 : Nat) ∧ (0 : Nat) + List.length a0 ≤ (9223372036854775807 : Nat)) then
      some ([] ++ a0)
     else
      none)
  else
   bif decide (((0 : Nat) + List.length a0) * (16 : Nat) ≤ (140737488355328 : Nat) ∧ (0 : Nat) + List.length a0 ≤ (9223372036854775807 : Nat)) then
    some ([] ++ a0)
   else
    none
def qbf : List (List UInt8) → Option ((List (List UInt8))) := sealF (qbf_f)
def qbd_f (a0 : List (List UInt8)) : Option ((List (List UInt8))) :=
  bif decide ((↑(List.length a0) : Int) = (↑(List.length a0) : Int)) && decide ((↑(List.length a0) : Int) = (↑(List.length a0) : Int)) then
   some (a0)
  else
   none
def qbd : List (List UInt8) → Option ((List (List UInt8))) := sealF (qbd_f)
def qam_f (a0 : List (List UInt8)) (a1 : Int) : Option ((List UInt8)) :=
  Option.bind (α := Bool) (
    bif decide (a1 < 0) then
     some (true)
    else
     some (decide (a1 ≥ (↑(List.length a0) : Int)))) fun y0 =>
  bif y0 then
   some ([])
  else
   bif decide (0 ≤ a1) then
    Option.bind (a0[Int.toNat a1]?) fun y1 =>
    some (y1)
   else
    none
def qam : List (List UInt8) → Int → Option ((List UInt8)) := sealF (qam_f)
def qaa_t8 (rec_qaa : Namer → TExpr → Option (Int × Int × (List UInt8) × (List TExpr))) (rec : List TExpr → Int → Int → List (List UInt8) → List (List UInt8) → List (List UInt8) → List (List UInt8) → Int → Int → List UInt8 → Int → Int → List UInt8 → List TExpr → Option (Int × Int × (List UInt8) × Int × Int × (List UInt8) × (List TExpr))) (a0 : List TExpr) (a1 : Int) (a2 : Int) (a3 : List (List UInt8)) (a4 : List (List UInt8)) (a5 : List (List UInt8)) (a6 : List (List UInt8)) (a7 : Int) (a8 : Int) (a9 : List UInt8) (a10 : Int) (a11 : Int) (a12 : List UInt8) (a13 : List TExpr) : Option (Int × Int × (List UInt8) × Int × Int × (List UInt8) × (List TExpr)) :=
  bif decide (a2 < a1) then
   bif decide (0 ≤ a2) then
    Option.bind (a0[Int.toNat a2]?) fun y0 =>
    Option.bind (rec_qaa (Namer.mk a3 a4 a5 a6) (TExpr.mk (TExpr.kind y0) (TExpr.num y0) (TExpr.name y0) (TExpr.args y0))) fun y1 =>
    bif decide ((List.length a13 + List.length [TExpr.mk y1.1 y1.2.1 y1.2.2.1 y1.2.2.2]) * (56 : Nat) ≤ (140737488355328 : Nat) ∧ List.length a13 + List.length [TExpr.mk y1.1 y1.2.1 y1.2.2.1 y1.2.2.2] ≤ (9223372036854775807 : Nat)) then
     rec (a0) (a1) (IntKind.wrap IntKind.i64 (a2 + (1 : Int))) (a3) (a4) (a5) (a6) (a7) (a8) (a9) (a10) (a11) (a12) (a13 ++ [TExpr.mk y1.1 y1.2.1 y1.2.2.1 y1.2.2.2])
    else
     none
   else
    none
  else
   some ((a7), (a8), (a9), (a10), (a11), (a12), (a13))
def qaa_i8 (rec_qaa : Namer → TExpr → Option (Int × Int × (List UInt8) × (List TExpr))) : Nat → List TExpr → Int → Int → List (List UInt8) → List (List UInt8) → List (List UInt8) → List (List UInt8) → Int → Int → List UInt8 → Int → Int → List UInt8 → List TExpr → Option (Int × Int × (List UInt8) × Int × Int × (List UInt8) × (List TExpr))
 | 0, _, _, _, _, _, _, _, _, _, _, _, _, _, _ => none
 | n + 1, a0, a1, a2, a3, a4, a5, a6, a7, a8, a9, a10, a11, a12, a13 => qaa_t8 rec_qaa (qaa_i8 rec_qaa n) a0 a1 a2 a3 a4 a5 a6 a7 a8 a9 a10 a11 a12 a13
def qaa_l8 (rec_qaa : Namer → TExpr → Option (Int × Int × (List UInt8) × (List TExpr))) : List TExpr → Int → Int → List (List UInt8) → List (List UInt8) → List (List UInt8) → List (List UInt8) → Int → Int → List UInt8 → Int → Int → List UInt8 → List TExpr → Option (Int × Int × (List UInt8) × Int × Int × (List UInt8) × (List TExpr)) := sealF (qaa_i8 rec_qaa fuel)
def qaa_f (rec_qaa : Namer → TExpr → Option (Int × Int × (List UInt8) × (List TExpr))) (a0 : Namer) (a1 : TExpr) : Option (Int × Int × (List UInt8) × (List TExpr)) :=
  bif TExpr.kind a1 == 2 then
   bif TExpr.name a1 == [] then
    Option.bind (qam (Namer.regs a0) (TExpr.num a1)) fun y0 =>
    Option.bind (qaa_l8 rec_qaa (TExpr.args a1) (↑(List.length (TExpr.args a1)) : Int) (0 : Int) (Namer.cells a0) (Namer.mutexes a0) (Namer.threads a0) (Namer.regs a0) (0 : Int) (0 : Int) [] (TExpr.kind a1) (0 : Int) y0 []) fun y1 =>
    some (y1.2.2.2.1, y1.2.2.2.2.1, y1.2.2.2.2.2.1, y1.2.2.2.2.2.2)
   else
    Option.bind (qaa_l8 rec_qaa (TExpr.args a1) (↑(List.length (TExpr.args a1)) : Int) (0 : Int) (Namer.cells a0) (Namer.mutexes a0) (Namer.threads a0) (Namer.regs a0) (0 : Int) (0 : Int) [] (TExpr.kind a1) (0 : Int) [] []) fun y2 =>
    some (y2.2.2.2.1, y2.2.2.2.2.1, y2.2.2.2.2.2.1, y2.2.2.2.2.2.2)
  else
   Option.bind (qaa_l8 rec_qaa (TExpr.args a1) (↑(List.length (TExpr.args a1)) : Int) (0 : Int) (Namer.cells a0) (Namer.mutexes a0) (Namer.threads a0) (Namer.regs a0) (0 : Int) (0 : Int) [] (TExpr.kind a1) (TExpr.num a1) (TExpr.name a1) []) fun y3 =>
   some (y3.2.2.2.1, y3.2.2.2.2.1, y3.2.2.2.2.2.1, y3.2.2.2.2.2.2)
def qaa_i : Nat → Namer → TExpr → Option (Int × Int × (List UInt8) × (List TExpr))
 | 0, _, _ => none
 | n + 1, a0, a1 => qaa_f (qaa_i n) a0 a1
def qaa : Namer → TExpr → Option (Int × Int × (List UInt8) × (List TExpr)) := sealF (qaa_i fuel)
def qan_f (rec_qab : Namer → List TAct → Option ((List TStmt))) (a0 : Int) : Option (Bool) :=
  Option.bind (α := Bool) (
    bif a0 == 1 then
     some (true)
    else
     some (a0 == 2)) fun y0 =>
  Option.bind (α := Bool) (
    bif y0 then
     some (true)
    else
     some (a0 == 4)) fun y1 =>
  some (y1)
def qan (rec_qab : Namer → List TAct → Option ((List TStmt))) : Int → Option (Bool) := sealF (qan_f rec_qab)
def qao_f (rec_qab : Namer → List TAct → Option ((List TStmt))) (a0 : Int) : Option (Int) :=
  bif a0 == 2 then
   bif a0 == 2 then
    some ((1 : Int))
   else
    bif a0 == 5 then
     bif a0 == 5 then
      some ((2 : Int))
     else
      bif a0 == 7 then
       bif a0 == 7 then
        some ((3 : Int))
       else
        some ((0 : Int))
      else
       bif a0 == 8 then
        some ((3 : Int))
       else
        some ((0 : Int))
    else
     bif a0 == 6 then
      some ((2 : Int))
     else
      bif a0 == 7 then
       bif a0 == 7 then
        some ((3 : Int))
       else
        some ((0 : Int))
      else
       bif a0 == 8 then
        some ((3 : Int))
       else
        some ((0 : Int))
  else
   bif a0 == 3 then
    bif a0 == 3 then
     some ((1 : Int))
    else
     bif a0 == 5 then
      bif a0 == 5 then
       some ((2 : Int))
      else
       bif a0 == 7 then
        bif a0 == 7 then
         some ((3 : Int))
        else
         some ((0 : Int))
       else
        bif a0 == 8 then
         some ((3 : Int))
        else
         some ((0 : Int))
     else
      bif a0 == 6 then
       some ((2 : Int))
      else
       bif a0 == 7 then
        bif a0 == 7 then
         some ((3 : Int))
        else
         some ((0 : Int))
       else
        bif a0 == 8 then
         some ((3 : Int))
        else
         some ((0 : Int))
   else
    bif a0 == 4 then
     some ((1 : Int))
    else
     bif a0 == 5 then
      bif a0 == 5 then
       some ((2 : Int))
      else
       bif a0 == 7 then
        bif a0 == 7 then
         some ((3 : Int))
        else
         some ((0 : Int))
       else
        bif a0 == 8 then
         some ((3 : Int))
        else
         some ((0 : Int))
     else
      bif a0 == 6 then
       some ((2 : Int))
      else
       bif a0 == 7 then
        bif a0 == 7 then
         some ((3 : Int))
        else
         some ((0 : Int))
       else
        bif a0 == 8 then
         some ((3 : Int))
        else
         some ((0 : Int))
def qao (rec_qab : Namer → List TAct → Option ((List TStmt))) : Int → Option (Int) := sealF (qao_f rec_qab)
def qab_t3 (rec_qab : Namer → List TAct → Option ((List TStmt))) (rec : List TAct → Int → Int → List (List UInt8) → List (List UInt8) → List (List UInt8) → List (List UInt8) → List TStmt → Option ((List TStmt))) (a0 : List TAct) (a1 : Int) (a2 : Int) (a3 : List (List UInt8)) (a4 : List (List UInt8)) (a5 : List (List UInt8)) (a6 : List (List UInt8)) (a7 : List TStmt) : Option ((List TStmt)) :=
  bif decide (a2 < a1) then
   bif decide (0 ≤ a2) then
    Option.bind (a0[Int.toNat a2]?) fun y0 =>
    Option.bind (qaa (Namer.mk a3 a4 a5 a6) (TExpr.mk (TExpr.kind (TAct.expr y0)) (TExpr.num (TAct.expr y0)) (TExpr.name (TAct.expr y0)) (TExpr.args (TAct.expr y0)))) fun y1 =>
    Option.bind (rec_qab (Namer.mk a3 a4 a5 a6) (TAct.then_ y0)) fun y2 =>
    Option.bind (rec_qab (Namer.mk a3 a4 a5 a6) (TAct.else_ y0)) fun y3 =>
    Option.bind (qan rec_qab (TAct.kind y0)) fun y4 =>
    bif y4 then
     Option.bind (qam a6 (TAct.reg y0)) fun y5 =>
     Option.bind (qao rec_qab (TAct.kind y0)) fun y6 =>
     bif y6 == 1 then
      Option.bind (qam a3 (TAct.obj y0)) fun y7 =>
      bif decide ((List.length a7 + List.length [TStmt.mk (TAct.kind y0) y5 y7 (TExpr.mk y1.1 y1.2.1 y1.2.2.1 y1.2.2.2) (TAct.count y0) y2 y3]) * (152 : Nat) ≤ (140737488355328 : Nat) ∧ List.length a7 + List.length [TStmt.mk (TAct.kind y0) y5 y7 (TExpr.mk y1.1 y1.2.1 y1.2.2.1 y1.2.2.2) (TAct.count y0) y2 y3] ≤ (9223372036854775807 : Nat)) then
       rec (a0) (a1) (IntKind.wrap IntKind.i64 (a2 + (1 : Int))) (a3) (a4) (a5) (a6) (a7 ++ [TStmt.mk (TAct.kind y0) y5 y7 (TExpr.mk y1.1 y1.2.1 y1.2.2.1 y1.2.2.2) (TAct.count y0) y2 y3])
      else
       none
     else
      bif y6 == 2 then
       Option.bind (qam a4 (TAct.obj y0)) fun y8 =>
       bif decide ((List.length a7 + List.length [TStmt.mk (TAct.kind y0) y5 y8 (TExpr.mk y1.1 y1.2.1 y1.2.2.1 y1.2.2.2) (TAct.count y0) y2 y3]) * (152 : Nat) ≤ (140737488355328 : Nat) ∧ List.length a7 + List.length [TStmt.mk (TAct.kind y0) y5 y8 (TExpr.mk y1.1 y1.2.1 y1.2.2.1 y1.2.2.2) (TAct.count y0) y2 y3] ≤ (9223372036854775807 : Nat)) then
        rec (a0) (a1) (IntKind.wrap IntKind.i64 (a2 + (1 : Int))) (a3) (a4) (a5) (a6) (a7 ++ [TStmt.mk (TAct.kind y0) y5 y8 (TExpr.mk y1.1 y1.2.1 y1.2.2.1 y1.2.2.2) (TAct.count y0) y2 y3])
       else
        none
      else
       bif y6 == 3 then
        Option.bind (qam a5 (TAct.obj y0)) fun y9 =>
        bif decide ((List.length a7 + List.length [TStmt.mk (TAct.kind y0) y5 y9 (TExpr.mk y1.1 y1.2.1 y1.2.2.1 y1.2.2.2) (TAct.count y0) y2 y3]) * (152 : Nat) ≤ (140737488355328 : Nat) ∧ List.length a7 + List.length [TStmt.mk (TAct.kind y0) y5 y9 (TExpr.mk y1.1 y1.2.1 y1.2.2.1 y1.2.2.2) (TAct.count y0) y2 y3] ≤ (9223372036854775807 : Nat)) then
         rec (a0) (a1) (IntKind.wrap IntKind.i64 (a2 + (1 : Int))) (a3) (a4) (a5) (a6) (a7 ++ [TStmt.mk (TAct.kind y0) y5 y9 (TExpr.mk y1.1 y1.2.1 y1.2.2.1 y1.2.2.2) (TAct.count y0) y2 y3])
        else
         none
       else
        bif TAct.obj y0 != 0 then
         bif decide ((List.length a7 + List.length [TStmt.mk (0 : Int) y5 [] (TExpr.mk y1.1 y1.2.1 y1.2.2.1 y1.2.2.2) (TAct.count y0) y2 y3]) * (152 : Nat) ≤ (140737488355328 : Nat) ∧ List.length a7 + List.length [TStmt.mk (0 : Int) y5 [] (TExpr.mk y1.1 y1.2.1 y1.2.2.1 y1.2.2.2) (TAct.count y0) y2 y3] ≤ (9223372036854775807 : Nat)) then
          rec (a0) (a1) (IntKind.wrap IntKind.i64 (a2 + (1 : Int))) (a3) (a4) (a5) (a6) (a7 ++ [TStmt.mk (0 : Int) y5 [] (TExpr.mk y1.1 y1.2.1 y1.2.2.1 y1.2.2.2) (TAct.count y0) y2 y3])
         else
          none
        else
         bif decide ((List.length a7 + List.length [TStmt.mk (TAct.kind y0) y5 [] (TExpr.mk y1.1 y1.2.1 y1.2.2.1 y1.2.2.2) (TAct.count y0) y2 y3]) * (152 : Nat) ≤ (140737488355328 : Nat) ∧ List.length a7 + List.length [TStmt.mk (TAct.kind y0) y5 [] (TExpr.mk y1.1 y1.2.1 y1.2.2.1 y1.2.2.2) (TAct.count y0) y2 y3] ≤ (9223372036854775807 : Nat)) then
          rec (a0) (a1) (IntKind.wrap IntKind.i64 (a2 + (1 : Int))) (a3) (a4) (a5) (a6) (a7 ++ [TStmt.mk (TAct.kind y0) y5 [] (TExpr.mk y1.1 y1.2.1 y1.2.2.1 y1.2.2.2) (TAct.count y0) y2 y3])
         else
          none
    else
     bif TAct.reg y0 != 0 then
      Option.bind (qao rec_qab (TAct.kind y0)) fun y10 =>
      bif y10 == 1 then
       Option.bind (qam a3 (TAct.obj y0)) fun y11 =>
       bif decide ((List.length a7 + List.length [TStmt.mk (0 : Int) [] y11 (TExpr.mk y1.1 y1.2.1 y1.2.2.1 y1.2.2.2) (TAct.count y0) y2 y3]) * (152 : Nat) ≤ (140737488355328 : Nat) ∧ List.length a7 + List.length [TStmt.mk (0 : Int) [] y11 (TExpr.mk y1.1 y1.2.1 y1.2.2.1 y1.2.2.2) (TAct.count y0) y2 y3] ≤ (9223372036854775807 : Nat)) then
        rec (a0) (a1) (IntKind.wrap IntKind.i64 (a2 + (1 : Int))) (a3) (a4) (a5) (a6) (a7 ++ [TStmt.mk (0 : Int) [] y11 (TExpr.mk y1.1 y1.2.1 y1.2.2.1 y1.2.2.2) (TAct.count y0) y2 y3])
       else
        none
      else
       bif y10 == 2 then
        Option.bind (qam a4 (TAct.obj y0)) fun y12 =>
        bif decide ((List.length a7 + List.length [TStmt.mk (0 : Int) [] y12 (TExpr.mk y1.1 y1.2.1 y1.2.2.1 y1.2.2.2) (TAct.count y0) y2 y3]) * (152 : Nat) ≤ (140737488355328 : Nat) ∧ List.length a7 + List.length [TStmt.mk (0 : Int) [] y12 (TExpr.mk y1.1 y1.2.1 y1.2.2.1 y1.2.2.2) (TAct.count y0) y2 y3] ≤ (9223372036854775807 : Nat)) then
         rec (a0) (a1) (IntKind.wrap IntKind.i64 (a2 + (1 : Int))) (a3) (a4) (a5) (a6) (a7 ++ [TStmt.mk (0 : Int) [] y12 (TExpr.mk y1.1 y1.2.1 y1.2.2.1 y1.2.2.2) (TAct.count y0) y2 y3])
        else
         none
       else
        bif y10 == 3 then
         Option.bind (qam a5 (TAct.obj y0)) fun y13 =>
         bif decide ((List.length a7 + List.length [TStmt.mk (0 : Int) [] y13 (TExpr.mk y1.1 y1.2.1 y1.2.2.1 y1.2.2.2) (TAct.count y0) y2 y3]) * (152 : Nat) ≤ (140737488355328 : Nat) ∧ List.length a7 + List.length [TStmt.mk (0 : Int) [] y13 (TExpr.mk y1.1 y1.2.1 y1.2.2.1 y1.2.2.2) (TAct.count y0) y2 y3] ≤ (9223372036854775807 : Nat)) then
          rec (a0) (a1) (IntKind.wrap IntKind.i64 (a2 + (1 : Int))) (a3) (a4) (a5) (a6) (a7 ++ [TStmt.mk (0 : Int) [] y13 (TExpr.mk y1.1 y1.2.1 y1.2.2.1 y1.2.2.2) (TAct.count y0) y2 y3])
         else
          none
        else
         bif TAct.obj y0 != 0 then
          bif decide ((List.length a7 + List.length [TStmt.mk (0 : Int) [] [] (TExpr.mk y1.1 y1.2.1 y1.2.2.1 y1.2.2.2) (TAct.count y0) y2 y3]) * (152 : Nat) ≤ (140737488355328 : Nat) ∧ List.length a7 + List.length [TStmt.mk (0 : Int) [] [] (TExpr.mk y1.1 y1.2.1 y1.2.2.1 y1.2.2.2) (TAct.count y0) y2 y3] ≤ (9223372036854775807 : Nat)) then
           rec (a0) (a1) (IntKind.wrap IntKind.i64 (a2 + (1 : Int))) (a3) (a4) (a5) (a6) (a7 ++ [TStmt.mk (0 : Int) [] [] (TExpr.mk y1.1 y1.2.1 y1.2.2.1 y1.2.2.2) (TAct.count y0) y2 y3])
          else
           none
         else
          bif decide ((List.length a7 + List.length [TStmt.mk (0 : Int) [] [] (TExpr.mk y1.1 y1.2.1 y1.2.2.1 y1.2.2.2) (TAct.count y0) y2 y3]) * (152 : Nat) ≤ (140737488355328 : Nat) ∧ List.length a7 + List.length [TStmt.mk (0 : Int) [] [] (TExpr.mk y1.1 y1.2.1 y1.2.2.1 y1.2.2.2) (TAct.count y0) y2 y3] ≤ (9223372036854775807 : Nat)) then
           rec (a0) (a1) (IntKind.wrap IntKind.i64 (a2 + (1 : Int))) (a3) (a4) (a5) (a6) (a7 ++ [TStmt.mk (0 : Int) [] [] (TExpr.mk y1.1 y1.2.1 y1.2.2.1 y1.2.2.2) (TAct.count y0) y2 y3])
          else
           none
     else
      Option.bind (qao rec_qab (TAct.kind y0)) fun y14 =>
      bif y14 == 1 then
       Option.bind (qam a3 (TAct.obj y0)) fun y15 =>
       bif decide ((List.length a7 + List.length [TStmt.mk (TAct.kind y0) [] y15 (TExpr.mk y1.1 y1.2.1 y1.2.2.1 y1.2.2.2) (TAct.count y0) y2 y3]) * (152 : Nat) ≤ (140737488355328 : Nat) ∧ List.length a7 + List.length [TStmt.mk (TAct.kind y0) [] y15 (TExpr.mk y1.1 y1.2.1 y1.2.2.1 y1.2.2.2) (TAct.count y0) y2 y3] ≤ (9223372036854775807 : Nat)) then
        rec (a0) (a1) (IntKind.wrap IntKind.i64 (a2 + (1 : Int))) (a3) (a4) (a5) (a6) (a7 ++ [TStmt.mk (TAct.kind y0) [] y15 (TExpr.mk y1.1 y1.2.1 y1.2.2.1 y1.2.2.2) (TAct.count y0) y2 y3])
       else
        none
      else
       bif y14 == 2 then
        Option.bind (qam a4 (TAct.obj y0)) fun y16 =>
        bif decide ((List.length a7 + List.length [TStmt.mk (TAct.kind y0) [] y16 (TExpr.mk y1.1 y1.2.1 y1.2.2.1 y1.2.2.2) (TAct.count y0) y2 y3]) * (152 : Nat) ≤ (140737488355328 : Nat) ∧ List.length a7 + List.length [TStmt.mk (TAct.kind y0) [] y16 (TExpr.mk y1.1 y1.2.1 y1.2.2.1 y1.2.2.2) (TAct.count y0) y2 y3] ≤ (9223372036854775807 : Nat)) then
         rec (a0) (a1) (IntKind.wrap IntKind.i64 (a2 + (1 : Int))) (a3) (a4) (a5) (a6) (a7 ++ [TStmt.mk (TAct.kind y0) [] y16 (TExpr.mk y1.1 y1.2.1 y1.2.2.1 y1.2.2.2) (TAct.count y0) y2 y3])
        else
         none
       else
        bif y14 == 3 then
         Option.bind (qam a5 (TAct.obj y0)) fun y17 =>
         bif decide ((List.length a7 + List.length [TStmt.mk (TAct.kind y0) [] y17 (TExpr.mk y1.1 y1.2.1 y1.2.2.1 y1.2.2.2) (TAct.count y0) y2 y3]) * (152 : Nat) ≤ (140737488355328 : Nat) ∧ List.length a7 + List.length [TStmt.mk (TAct.kind y0) [] y17 (TExpr.mk y1.1 y1.2.1 y1.2.2.1 y1.2.2.2) (TAct.count y0) y2 y3] ≤ (9223372036854775807 : Nat)) then
          rec (a0) (a1) (IntKind.wrap IntKind.i64 (a2 + (1 : Int))) (a3) (a4) (a5) (a6) (a7 ++ [TStmt.mk (TAct.kind y0) [] y17 (TExpr.mk y1.1 y1.2.1 y1.2.2.1 y1.2.2.2) (TAct.count y0) y2 y3])
         else
          none
        else
         bif TAct.obj y0 != 0 then
          bif decide ((List.length a7 + List.length [TStmt.mk (0 : Int) [] [] (TExpr.mk y1.1 y1.2.1 y1.2.2.1 y1.2.2.2) (TAct.count y0) y2 y3]) * (152 : Nat) ≤ (140737488355328 : Nat) ∧ List.length a7 + List.length [TStmt.mk (0 : Int) [] [] (TExpr.mk y1.1 y1.2.1 y1.2.2.1 y1.2.2.2) (TAct.count y0) y2 y3] ≤ (9223372036854775807 : Nat)) then
           rec (a0) (a1) (IntKind.wrap IntKind.i64 (a2 + (1 : Int))) (a3) (a4) (a5) (a6) (a7 ++ [TStmt.mk (0 : Int) [] [] (TExpr.mk y1.1 y1.2.1 y1.2.2.1 y1.2.2.2) (TAct.count y0) y2 y3])
          else
           none
         else
          bif decide ((List.length a7 + List.length [TStmt.mk (TAct.kind y0) [] [] (TExpr.mk y1.1 y1.2.1 y1.2.2.1 y1.2.2.2) (TAct.count y0) y2 y3]) * (152 : Nat) ≤ (140737488355328 : Nat) ∧ List.length a7 + List.length [TStmt.mk (TAct.kind y0) [] [] (TExpr.mk y1.1 y1.2.1 y1.2.2.1 y1.2.2.2) (TAct.count y0) y2 y3] ≤ (9223372036854775807 : Nat)) then
           rec (a0) (a1) (IntKind.wrap IntKind.i64 (a2 + (1 : Int))) (a3) (a4) (a5) (a6) (a7 ++ [TStmt.mk (TAct.kind y0) [] [] (TExpr.mk y1.1 y1.2.1 y1.2.2.1 y1.2.2.2) (TAct.count y0) y2 y3])
          else
           none
   else
    none
  else
   some (a7)
def qab_i3 (rec_qab : Namer → List TAct → Option ((List TStmt))) : Nat → List TAct → Int → Int → List (List UInt8) → List (List UInt8) → List (List UInt8) → List (List UInt8) → List TStmt → Option ((List TStmt))
 | 0, _, _, _, _, _, _, _, _ => none
 | n + 1, a0, a1, a2, a3, a4, a5, a6, a7 => qab_t3 rec_qab (qab_i3 rec_qab n) a0 a1 a2 a3 a4 a5 a6 a7
def qab_l3 (rec_qab : Namer → List TAct → Option ((List TStmt))) : List TAct → Int → Int → List (List UInt8) → List (List UInt8) → List (List UInt8) → List (List UInt8) → List TStmt → Option ((List TStmt)) := sealF (qab_i3 rec_qab fuel)
def qab_f (rec_qab : Namer → List TAct → Option ((List TStmt))) (a0 : Namer) (a1 : List TAct) : Option ((List TStmt)) :=
  Option.bind (qab_l3 rec_qab a1 (↑(List.length a1) : Int) (0 : Int) (Namer.cells a0) (Namer.mutexes a0) (Namer.threads a0) (Namer.regs a0) []) fun y0 =>
  some (y0)
def qab_i : Nat → Namer → List TAct → Option ((List TStmt))
 | 0, _, _ => none
 | n + 1, a0, a1 => qab_f (qab_i n) a0 a1
def qab : Namer → List TAct → Option ((List TStmt)) := sealF (qab_i fuel)
def qap_t3 (rec : List Int → Int → Int → List Int → Int → List TBody → List (List UInt8) → List (List UInt8) → List (List UInt8) → List (List (List UInt8)) → List TCell → Option ((List Int) × Int × (List TBody) × (List (List UInt8)) × (List (List UInt8)) × (List (List UInt8)) × (List (List (List UInt8))) × (List TCell))) (a0 : List Int) (a1 : Int) (a2 : Int) (a3 : List Int) (a4 : Int) (a5 : List TBody) (a6 : List (List UInt8)) (a7 : List (List UInt8)) (a8 : List (List UInt8)) (a9 : List (List (List UInt8))) (a10 : List TCell) : Option ((List Int) × Int × (List TBody) × (List (List UInt8)) × (List (List UInt8)) × (List (List UInt8)) × (List (List (List UInt8))) × (List TCell)) :=
  bif decide (a2 < a1) then
   bif decide (0 ≤ a2) then
    Option.bind (a0[Int.toNat a2]?) fun y0 =>
    bif decide (0 ≤ a2) then
     Option.bind (a6[Int.toNat a2]?) fun y1 =>
     bif decide ((List.length a10 + List.length [TCell.mk y1 y0]) * (24 : Nat) ≤ (140737488355328 : Nat) ∧ List.length a10 + List.length [TCell.mk y1 y0] ≤ (9223372036854775807 : Nat)) then
      rec (a0) (a1) (IntKind.wrap IntKind.i64 (a2 + (1 : Int))) (a3) (a4) (a5) (a6) (a7) (a8) (a9) (a10 ++ [TCell.mk y1 y0])
     else
      none
    else
     none
   else
    none
  else
   some ((a3), (a4), (a5), (a6), (a7), (a8), (a9), (a10))
def qap_i3 : Nat → List Int → Int → Int → List Int → Int → List TBody → List (List UInt8) → List (List UInt8) → List (List UInt8) → List (List (List UInt8)) → List TCell → Option ((List Int) × Int × (List TBody) × (List (List UInt8)) × (List (List UInt8)) × (List (List UInt8)) × (List (List (List UInt8))) × (List TCell))
 | 0, _, _, _, _, _, _, _, _, _, _, _ => none
 | n + 1, a0, a1, a2, a3, a4, a5, a6, a7, a8, a9, a10 => qap_t3 (qap_i3 n) a0 a1 a2 a3 a4 a5 a6 a7 a8 a9 a10
def qap_l3 : List Int → Int → Int → List Int → Int → List TBody → List (List UInt8) → List (List UInt8) → List (List UInt8) → List (List (List UInt8)) → List TCell → Option ((List Int) × Int × (List TBody) × (List (List UInt8)) × (List (List UInt8)) × (List (List UInt8)) × (List (List (List UInt8))) × (List TCell)) := sealF (qap_i3 fuel)
def qap_t9 (rec : List TBody → Int → Int → List (List UInt8) → List (List UInt8) → List (List UInt8) → List (List (List UInt8)) → List TCell → List (List UInt8) → List TThread → Option ((List TCell) × (List (List UInt8)) × (List TThread))) (a0 : List TBody) (a1 : Int) (a2 : Int) (a3 : List (List UInt8)) (a4 : List (List UInt8)) (a5 : List (List UInt8)) (a6 : List (List (List UInt8))) (a7 : List TCell) (a8 : List (List UInt8)) (a9 : List TThread) : Option ((List TCell) × (List (List UInt8)) × (List TThread)) :=
  bif decide (a2 < a1) then
   bif decide (0 ≤ a2) then
    Option.bind (a0[Int.toNat a2]?) fun y0 =>
    bif decide (0 ≤ a2) then
     Option.bind (a6[Int.toNat a2]?) fun y1 =>
     bif decide (0 ≤ a2) then
      Option.bind (a5[Int.toNat a2]?) fun y2 =>
      Option.bind (qab (Namer.mk a3 a4 a5 y1) (TBody.acts y0)) fun y3 =>
      bif decide ((List.length a9 + List.length [TThread.mk y2 y3]) * (40 : Nat) ≤ (140737488355328 : Nat) ∧ List.length a9 + List.length [TThread.mk y2 y3] ≤ (9223372036854775807 : Nat)) then
       rec (a0) (a1) (IntKind.wrap IntKind.i64 (a2 + (1 : Int))) (a3) (a4) (a5) (a6) (a7) (a8) (a9 ++ [TThread.mk y2 y3])
      else
       none
     else
      none
    else
     none
   else
    none
  else
   some ((a7), (a8), (a9))
def qap_i9 : Nat → List TBody → Int → Int → List (List UInt8) → List (List UInt8) → List (List UInt8) → List (List (List UInt8)) → List TCell → List (List UInt8) → List TThread → Option ((List TCell) × (List (List UInt8)) × (List TThread))
 | 0, _, _, _, _, _, _, _, _, _, _ => none
 | n + 1, a0, a1, a2, a3, a4, a5, a6, a7, a8, a9 => qap_t9 (qap_i9 n) a0 a1 a2 a3 a4 a5 a6 a7 a8 a9
def qap_l9 : List TBody → Int → Int → List (List UInt8) → List (List UInt8) → List (List UInt8) → List (List (List UInt8)) → List TCell → List (List UInt8) → List TThread → Option ((List TCell) × (List (List UInt8)) × (List TThread)) := sealF (qap_i9 fuel)
def qap_f (a0 : TUnit) (a1 : Names) : Option ((List TCell) × (List (List UInt8)) × (List TThread)) :=
  Option.bind (qap_l3 (TUnit.cells a0) (↑(List.length (TUnit.cells a0)) : Int) (0 : Int) (TUnit.cells a0) (TUnit.mutexes a0) (TUnit.threads a0) (Names.cells a1) (Names.mutexes a1) (Names.threads a1) (Names.regs a1) []) fun y0 =>
  Option.bind (qbf y0.2.2.2.2.1) fun y1 =>
  Option.bind (qbd y1) fun y2 =>
  Option.bind (qap_l9 y0.2.2.1 (↑(List.length y0.2.2.1) : Int) (0 : Int) y0.2.2.2.1 y0.2.2.2.2.1 y0.2.2.2.2.2.1 y0.2.2.2.2.2.2.1 y0.2.2.2.2.2.2.2 y2 []) fun y3 =>
  some (y3.1, y3.2.1, y3.2.2)
def qap : TUnit → Names → Option ((List TCell) × (List (List UInt8)) × (List TThread)) := sealF (qap_f)
def qbx_f (a0 : Int) : Option (Int) :=
  bif decide (a0 < 0) then
   some ((-1 : Int))
  else
   bif decide (a0 ≤ 127) then
    some ((1 : Int))
   else
    bif decide (a0 ≤ 2047) then
     some ((2 : Int))
    else
     bif decide ((55296 : Int) ≤ a0) then
      bif decide (a0 ≤ 57343) then
       some ((-1 : Int))
      else
       bif decide (a0 ≤ 65535) then
        some ((3 : Int))
       else
        bif decide (a0 ≤ 1114111) then
         some ((4 : Int))
        else
         some ((-1 : Int))
     else
      bif decide (a0 ≤ 65535) then
       some ((3 : Int))
      else
       bif decide (a0 ≤ 1114111) then
        some ((4 : Int))
       else
        some ((-1 : Int))
def qbx : Int → Option (Int) := sealF (qbx_f)
def qa9_t4 (rec : List UInt8 → Int → Int → Int → Int → Int → Int → Int → Int → List UInt8 → Nat → List Spot → Option ((Int × Int × Int × Int × (List Spot)) ⊕ (Int × Int × Int × Int × Int × Int × Int × Int × (List Spot)))) (a0 : List UInt8) (a1 : Int) (a2 : Int) (a3 : Int) (a4 : Int) (a5 : Int) (a6 : Int) (a7 : Int) (a8 : Int) (a9 : List UInt8) (a10 : Nat) (a11 : List Spot) : Option ((Int × Int × Int × Int × (List Spot)) ⊕ (Int × Int × Int × Int × Int × Int × Int × Int × (List Spot))) :=
  bif decide (a10 < List.length a9) then
   bif (↑(Prod.fst (Utf8.decode (ByteArray.mk (List.toArray a9)) a10)) : Int) == 65533 then
    bif decide ((0 : Int) ≤ (↑a10 : Int)) && (decide ((↑a10 : Int) ≤ if IntKind.wrap IntKind.i64 ((↑a10 : Int) + (3 : Int)) < (↑(List.length a0) : Int) then IntKind.wrap IntKind.i64 ((↑a10 : Int) + (3 : Int)) else (↑(List.length a0) : Int)) && decide ((if IntKind.wrap IntKind.i64 ((↑a10 : Int) + (3 : Int)) < (↑(List.length a0) : Int) then IntKind.wrap IntKind.i64 ((↑a10 : Int) + (3 : Int)) else (↑(List.length a0) : Int)) ≤ (↑(List.length a0) : Int))) then
     bif !List.drop (Int.toNat (↑a10 : Int)) (List.take (Int.toNat (if IntKind.wrap IntKind.i64 ((↑a10 : Int) + (3 : Int)) < (↑(List.length a0) : Int) then IntKind.wrap IntKind.i64 ((↑a10 : Int) + (3 : Int)) else (↑(List.length a0) : Int))) a0) == [(239 : UInt8), (191 : UInt8), (189 : UInt8)] then
      some (.inl ((a5), (a6), (a7), (a8), (a11)))
     else
      bif decide ((List.length a11 + List.length [Spot.mk (IntKind.wrap IntKind.i64 (↑(Prod.fst (Utf8.decode (ByteArray.mk (List.toArray a9)) a10)) : Int)) a6 a7 a8]) * (32 : Nat) ≤ (140737488355328 : Nat) ∧ List.length a11 + List.length [Spot.mk (IntKind.wrap IntKind.i64 (↑(Prod.fst (Utf8.decode (ByteArray.mk (List.toArray a9)) a10)) : Int)) a6 a7 a8] ≤ (9223372036854775807 : Nat)) then
       Option.bind (qbx (↑(Prod.fst (Utf8.decode (ByteArray.mk (List.toArray a9)) a10)) : Int)) fun y0 =>
       bif (↑(Prod.fst (Utf8.decode (ByteArray.mk (List.toArray a9)) a10)) : Int) == 10 then
        rec (a0) (a1) (a2) (a3) (a4) ((-1 : Int)) (IntKind.wrap IntKind.i64 (a6 + y0)) (IntKind.wrap IntKind.i64 (a7 + (1 : Int))) ((1 : Int)) (a9) (a10 + Prod.snd (Utf8.decode (ByteArray.mk (List.toArray a9)) a10)) (a11 ++ [Spot.mk (IntKind.wrap IntKind.i64 (↑(Prod.fst (Utf8.decode (ByteArray.mk (List.toArray a9)) a10)) : Int)) a6 a7 a8])
       else
        rec (a0) (a1) (a2) (a3) (a4) ((-1 : Int)) (IntKind.wrap IntKind.i64 (a6 + y0)) (a7) (IntKind.wrap IntKind.i64 (a8 + (1 : Int))) (a9) (a10 + Prod.snd (Utf8.decode (ByteArray.mk (List.toArray a9)) a10)) (a11 ++ [Spot.mk (IntKind.wrap IntKind.i64 (↑(Prod.fst (Utf8.decode (ByteArray.mk (List.toArray a9)) a10)) : Int)) a6 a7 a8])
      else
       none
    else
     none
   else
    bif decide ((List.length a11 + List.length [Spot.mk (IntKind.wrap IntKind.i64 (↑(Prod.fst (Utf8.decode (ByteArray.mk (List.toArray a9)) a10)) : Int)) a6 a7 a8]) * (32 : Nat) ≤ (140737488355328 : Nat) ∧ List.length a11 + List.length [Spot.mk (IntKind.wrap IntKind.i64 (↑(Prod.fst (Utf8.decode (ByteArray.mk (List.toArray a9)) a10)) : Int)) a6 a7 a8] ≤ (9223372036854775807 : Nat)) then
     Option.bind (qbx (↑(Prod.fst (Utf8.decode (ByteArray.mk (List.toArray a9)) a10)) : Int)) fun y1 =>
     bif (↑(Prod.fst (Utf8.decode (ByteArray.mk (List.toArray a9)) a10)) : Int) == 10 then
      rec (a0) (a1) (a2) (a3) (a4) ((-1 : Int)) (IntKind.wrap IntKind.i64 (a6 + y1)) (IntKind.wrap IntKind.i64 (a7 + (1 : Int))) ((1 : Int)) (a9) (a10 + Prod.snd (Utf8.decode (ByteArray.mk (List.toArray a9)) a10)) (a11 ++ [Spot.mk (IntKind.wrap IntKind.i64 (↑(Prod.fst (Utf8.decode (ByteArray.mk (List.toArray a9)) a10)) : Int)) a6 a7 a8])
     else
      rec (a0) (a1) (a2) (a3) (a4) ((-1 : Int)) (IntKind.wrap IntKind.i64 (a6 + y1)) (a7) (IntKind.wrap IntKind.i64 (a8 + (1 : Int))) (a9) (a10 + Prod.snd (Utf8.decode (ByteArray.mk (List.toArray a9)) a10)) (a11 ++ [Spot.mk (IntKind.wrap IntKind.i64 (↑(Prod.fst (Utf8.decode (ByteArray.mk (List.toArray a9)) a10)) : Int)) a6 a7 a8])
    else
     none
  else
   some (.inr ((a1), (a2), (a3), (a4), (a5), (a6), (a7), (a8), (a11)))
def qa9_i4 : Nat → List UInt8 → Int → Int → Int → Int → Int → Int → Int → Int → List UInt8 → Nat → List Spot → Option ((Int × Int × Int × Int × (List Spot)) ⊕ (Int × Int × Int × Int × Int × Int × Int × Int × (List Spot)))
 | 0, _, _, _, _, _, _, _, _, _, _, _, _ => none
 | n + 1, a0, a1, a2, a3, a4, a5, a6, a7, a8, a9, a10, a11 => qa9_t4 (qa9_i4 n) a0 a1 a2 a3 a4 a5 a6 a7 a8 a9 a10 a11
def qa9_l4 : List UInt8 → Int → Int → Int → Int → Int → Int → Int → Int → List UInt8 → Nat → List Spot → Option ((Int × Int × Int × Int × (List Spot)) ⊕ (Int × Int × Int × Int × Int × Int × Int × Int × (List Spot))) := sealF (qa9_i4 fuel)
def qa9_f (a0 : List UInt8) : Option (Spot × (List Spot)) :=
  Option.bind (qa9_l4 a0 (0 : Int) (0 : Int) (0 : Int) (0 : Int) (-1 : Int) (0 : Int) (1 : Int) (1 : Int) a0 (0 : Nat) []) fun y0 =>
  match y0 with
  | .inl y1 =>
   some ((Spot.mk y1.1 y1.2.1 y1.2.2.1 y1.2.2.2.1), y1.2.2.2.2)
  | .inr y1 =>
   some ((Spot.mk y1.2.2.2.2.1 y1.2.2.2.2.2.1 y1.2.2.2.2.2.2.1 y1.2.2.2.2.2.2.2.1), y1.2.2.2.2.2.2.2.2)
def qa9 : List UInt8 → Option (Spot × (List Spot)) := sealF (qa9_f)
def qa8_f (a0 : List UInt8) : Option (Fault × (List Spot)) :=
  bif decide ((↑(List.length a0) : Int) > 4000) then
   some ((Fault.mk (10 : Int) (4000 : Int) []), ([]))
  else
   Option.bind (qa9 a0) fun y0 =>
   bif decide (Spot.at_ y0.1 < (↑(List.length a0) : Int)) then
    some ((Fault.mk (11 : Int) (Spot.at_ y0.1) []), ([]))
   else
    some ((Fault.mk (0 : Int) (0 : Int) []), y0.2)
def qa8 : List UInt8 → Option (Fault × (List Spot)) := sealF (qa8_f)
def qa5_f (a0 : Int) : Option (Bool) :=
  bif a0 == 9 then
   some (true)
  else
   bif a0 == 10 then
    some (true)
   else
    bif a0 == 13 then
     some (true)
    else
     some (a0 == 32)
def qa5 : Int → Option (Bool) := sealF (qa5_f)
def qav_t3 (rec : List UInt8 → Bool → List UInt8 → Nat → Option ((Int) ⊕ ((List UInt8)))) (a0 : List UInt8) (a1 : Bool) (a2 : List UInt8) (a3 : Nat) : Option ((Int) ⊕ ((List UInt8))) :=
  bif decide (a3 < List.length a2) then
   bif a1 then
    rec (a0) ((↑(Prod.fst (Utf8.decode (ByteArray.mk (List.toArray a2)) a3)) : Int) != 10) (a2) (a3 + Prod.snd (Utf8.decode (ByteArray.mk (List.toArray a2)) a3))
   else
    bif (↑(Prod.fst (Utf8.decode (ByteArray.mk (List.toArray a2)) a3)) : Int) == 35 then
     rec (a0) (true) (a2) (a3 + Prod.snd (Utf8.decode (ByteArray.mk (List.toArray a2)) a3))
    else
     Option.bind (qa5 (IntKind.wrap IntKind.i64 (↑(Prod.fst (Utf8.decode (ByteArray.mk (List.toArray a2)) a3)) : Int))) fun y0 =>
     bif !y0 then
      some (.inl ((↑a3 : Int)))
     else
      rec (a0) (a1) (a2) (a3 + Prod.snd (Utf8.decode (ByteArray.mk (List.toArray a2)) a3))
  else
   some (.inr (a0))
def qav_i3 : Nat → List UInt8 → Bool → List UInt8 → Nat → Option ((Int) ⊕ ((List UInt8)))
 | 0, _, _, _, _ => none
 | n + 1, a0, a1, a2, a3 => qav_t3 (qav_i3 n) a0 a1 a2 a3
def qav_l3 : List UInt8 → Bool → List UInt8 → Nat → Option ((Int) ⊕ ((List UInt8))) := sealF (qav_i3 fuel)
def qav_f (a0 : List UInt8) : Option (Int) :=
  Option.bind (qav_l3 a0 false a0 (0 : Nat)) fun y0 =>
  match y0 with
  | .inl y1 =>
   some (y1)
  | .inr y1 =>
   some ((↑(List.length y1) : Int))
def qav : List UInt8 → Option (Int) := sealF (qav_f)
def qby_f (a0 : Int) : Option (Bool) :=
  bif decide (0 ≤ a0) then
   bif decide (a0 < 55296) then
    some (true)
   else
    bif decide ((57343 : Int) < a0) then
     bif decide (a0 ≤ 1114111) then
      some (true)
     else
      some (false)
    else
     some (false)
  else
   bif decide ((57343 : Int) < a0) then
    bif decide (a0 ≤ 1114111) then
     some (true)
    else
     some (false)
   else
    some (false)
def qby : Int → Option (Bool) := sealF (qby_f)
def qba_f (a0 : Int) : Option (Bool) :=
  bif decide (a0 ≥ 0) then
   bif decide (a0 ≤ 1114111) then
    Option.bind (qby (IntKind.wrap IntKind.i32 a0)) fun y0 =>
    some (y0)
   else
    some (false)
  else
   some (false)
def qba : Int → Option (Bool) := sealF (qba_f)
def qa7_f (a0 : Int) : Option (Bool) :=
  bif decide (a0 ≥ 97) then
   bif decide (a0 ≤ 122) then
    bif decide (a0 ≤ 122) then
     some (true)
    else
     bif decide (a0 ≥ 192) then
      Option.bind (qba a0) fun y0 =>
      some (y0)
     else
      some (false)
   else
    bif decide (a0 ≥ 65) then
     bif decide (a0 ≤ 90) then
      bif decide (a0 ≤ 90) then
       some (true)
      else
       bif decide (a0 ≥ 192) then
        Option.bind (qba a0) fun y1 =>
        some (y1)
       else
        some (false)
     else
      bif a0 == 95 then
       some (true)
      else
       bif decide (a0 ≥ 192) then
        Option.bind (qba a0) fun y2 =>
        some (y2)
       else
        some (false)
    else
     bif a0 == 95 then
      some (true)
     else
      bif decide (a0 ≥ 192) then
       Option.bind (qba a0) fun y3 =>
       some (y3)
      else
       some (false)
  else
   bif decide (a0 ≥ 65) then
    bif decide (a0 ≤ 90) then
     bif decide (a0 ≤ 90) then
      some (true)
     else
      bif decide (a0 ≥ 192) then
       Option.bind (qba a0) fun y4 =>
       some (y4)
      else
       some (false)
    else
     bif a0 == 95 then
      some (true)
     else
      bif decide (a0 ≥ 192) then
       Option.bind (qba a0) fun y5 =>
       some (y5)
      else
       some (false)
   else
    bif a0 == 95 then
     some (true)
    else
     bif decide (a0 ≥ 192) then
      Option.bind (qba a0) fun y6 =>
      some (y6)
     else
      some (false)
def qa7 : Int → Option (Bool) := sealF (qa7_f)
def qa6_f (a0 : Int) : Option (Bool) :=
  bif decide (a0 ≥ 48) then
   some (decide (a0 ≤ 57))
  else
   some (false)
def qa6 : Int → Option (Bool) := sealF (qa6_f)
def qat_f (a0 : Int) : Option (Bool) :=
  Option.bind (qa7 (IntKind.wrap IntKind.i64 a0)) fun y0 =>
  bif y0 then
   some (true)
  else
   Option.bind (qa6 (IntKind.wrap IntKind.i64 a0)) fun y1 =>
   some (y1)
def qat : Int → Option (Bool) := sealF (qat_f)
def qbh_t2 (rec : List (List UInt8) → List UInt8 → Int → Int → Option ((Int) ⊕ (Unit))) (a0 : List (List UInt8)) (a1 : List UInt8) (a2 : Int) (a3 : Int) : Option ((Int) ⊕ (Unit)) :=
  bif decide (a3 < a2) then
   bif decide (0 ≤ a3) then
    Option.bind (a0[Int.toNat a3]?) fun y0 =>
    bif a1 == y0 then
     some (.inl (a3))
    else
     rec (a0) (a1) (a2) (IntKind.wrap IntKind.i64 (a3 + (1 : Int)))
   else
    none
  else
   some (.inr ())
def qbh_i2 : Nat → List (List UInt8) → List UInt8 → Int → Int → Option ((Int) ⊕ (Unit))
 | 0, _, _, _, _ => none
 | n + 1, a0, a1, a2, a3 => qbh_t2 (qbh_i2 n) a0 a1 a2 a3
def qbh_l2 : List (List UInt8) → List UInt8 → Int → Int → Option ((Int) ⊕ (Unit)) := sealF (qbh_i2 fuel)
def qbh_f (a0 : List (List UInt8)) (a1 : List UInt8) : Option (Int) :=
  Option.bind (qbh_l2 a0 a1 (↑(List.length a0) : Int) (0 : Int)) fun y0 =>
  match y0 with
  | .inl y1 =>
   some (y1)
  | .inr y1 =>
   some ((-1 : Int))
def qbh : List (List UInt8) → List UInt8 → Option (Int) := sealF (qbh_f)
def qbg_f (a0 : List (List UInt8)) (a1 : List UInt8) : Option (Bool) :=
  Option.bind (qbh a0 a1) fun y0 =>
  some (decide (y0 ≥ 0))
def qbg : List (List UInt8) → List UInt8 → Option (Bool) := sealF (qbg_f)
def qaw_f (a0 : List UInt8) : Option ((List UInt8)) :=
  bif decide ((↑(List.length a0) : Int) > 1) then
   bif decide ((0 : Int) ≤ (0 : Int)) && (decide ((0 : Int) ≤ (2 : Int)) && decide ((2 : Int) ≤ (↑(List.length a0) : Int))) then
    Option.bind (qbg [[(58 : UInt8), (61 : UInt8)], [(60 : UInt8), (45 : UInt8)], [(61 : UInt8), (61 : UInt8)], [(33 : UInt8), (61 : UInt8)], [(60 : UInt8), (61 : UInt8)], [(62 : UInt8), (61 : UInt8)], [(38 : UInt8), (38 : UInt8)], [(124 : UInt8), (124 : UInt8)]] (List.drop (0 : Nat) (List.take (2 : Nat) a0))) fun y0 =>
    bif y0 then
     bif decide ((0 : Int) ≤ (0 : Int)) && (decide ((0 : Int) ≤ (2 : Int)) && decide ((2 : Int) ≤ (↑(List.length a0) : Int))) then
      some (List.drop (0 : Nat) (List.take (2 : Nat) a0))
     else
      none
    else
     bif decide ((0 : Int) ≤ (0 : Int)) && (decide ((0 : Int) ≤ (1 : Int)) && decide ((1 : Int) ≤ (↑(List.length a0) : Int))) then
      Option.bind (strings_Contains [(61 : UInt8), (60 : UInt8), (62 : UInt8), (33 : UInt8), (43 : UInt8), (45 : UInt8), (42 : UInt8), (47 : UInt8), (37 : UInt8), (59 : UInt8), (123 : UInt8), (125 : UInt8), (40 : UInt8), (41 : UInt8)] (List.drop (0 : Nat) (List.take (1 : Nat) a0))) fun y1 =>
      bif y1 then
       bif decide ((0 : Int) ≤ (0 : Int)) && (decide ((0 : Int) ≤ (1 : Int)) && decide ((1 : Int) ≤ (↑(List.length a0) : Int))) then
        some (List.drop (0 : Nat) (List.take (1 : Nat) a0))
       else
        none
      else
       some ([])
     else
      none
   else
    none
  else
   bif decide ((0 : Int) ≤ (0 : Int)) && (decide ((0 : Int) ≤ (1 : Int)) && decide ((1 : Int) ≤ (↑(List.length a0) : Int))) then
    Option.bind (strings_Contains [(61 : UInt8), (60 : UInt8), (62 : UInt8), (33 : UInt8), (43 : UInt8), (45 : UInt8), (42 : UInt8), (47 : UInt8), (37 : UInt8), (59 : UInt8), (123 : UInt8), (125 : UInt8), (40 : UInt8), (41 : UInt8)] (List.drop (0 : Nat) (List.take (1 : Nat) a0))) fun y2 =>
    bif y2 then
     bif decide ((0 : Int) ≤ (0 : Int)) && (decide ((0 : Int) ≤ (1 : Int)) && decide ((1 : Int) ≤ (↑(List.length a0) : Int))) then
      some (List.drop (0 : Nat) (List.take (1 : Nat) a0))
     else
      none
    else
     some ([])
   else
    none
def qaw : List UInt8 → Option ((List UInt8)) := sealF (qaw_f)
def qay_t2 (rec : List UInt8 → List UInt8 → Nat → Option (((List UInt8)) ⊕ ((List UInt8)))) (a0 : List UInt8) (a1 : List UInt8) (a2 : Nat) : Option (((List UInt8)) ⊕ ((List UInt8))) :=
  bif decide (a2 < List.length a1) then
   Option.bind (qat (↑(Prod.fst (Utf8.decode (ByteArray.mk (List.toArray a1)) a2)) : Int)) fun y0 =>
   bif !y0 then
    bif decide ((0 : Int) ≤ (0 : Int)) && (decide ((0 : Int) ≤ (↑a2 : Int)) && decide ((↑a2 : Int) ≤ (↑(List.length a0) : Int))) then
     some (.inl (List.drop (0 : Nat) (List.take (Int.toNat (↑a2 : Int)) a0)))
    else
     none
   else
    rec (a0) (a1) (a2 + Prod.snd (Utf8.decode (ByteArray.mk (List.toArray a1)) a2))
  else
   some (.inr (a0))
def qay_i2 : Nat → List UInt8 → List UInt8 → Nat → Option (((List UInt8)) ⊕ ((List UInt8)))
 | 0, _, _, _ => none
 | n + 1, a0, a1, a2 => qay_t2 (qay_i2 n) a0 a1 a2
def qay_l2 : List UInt8 → List UInt8 → Nat → Option (((List UInt8)) ⊕ ((List UInt8))) := sealF (qay_i2 fuel)
def qay_f (a0 : List UInt8) : Option ((List UInt8)) :=
  Option.bind (qay_l2 a0 a0 (0 : Nat)) fun y0 =>
  match y0 with
  | .inl y1 =>
   some (y1)
  | .inr y1 =>
   some (y1)
def qay : List UInt8 → Option ((List UInt8)) := sealF (qay_f)
def qau_f (a0 : List UInt8) : Option (Int × Bool) :=
  bif decide ((↑(List.length a0) : Int) > 1) then
   Option.bind (a0[(0 : Nat)]?) fun y0 =>
   bif (↑(UInt8.toNat y0) : Int) == 48 then
    some (((0 : Int)), (false))
   else
    Option.bind (zacw a0 [(48 : UInt8), (49 : UInt8), (50 : UInt8), (51 : UInt8), (52 : UInt8), (53 : UInt8), (54 : UInt8), (55 : UInt8), (56 : UInt8), (57 : UInt8)]) fun y1 =>
    bif !y1 == [] then
     some (((0 : Int)), (false))
    else
     Option.bind (zacv a0) fun y2 =>
     bif !y2.2 then
      some (y2.1, (decide (y2.1 ≤ 2147483647)))
     else
      some (y2.1, (false))
  else
   Option.bind (zacw a0 [(48 : UInt8), (49 : UInt8), (50 : UInt8), (51 : UInt8), (52 : UInt8), (53 : UInt8), (54 : UInt8), (55 : UInt8), (56 : UInt8), (57 : UInt8)]) fun y3 =>
   bif !y3 == [] then
    some (((0 : Int)), (false))
   else
    Option.bind (zacv a0) fun y4 =>
    bif !y4.2 then
     some (y4.1, (decide (y4.1 ≤ 2147483647)))
    else
     some (y4.1, (false))
def qau : List UInt8 → Option (Int × Bool) := sealF (qau_f)
def qas_f : Option ((List (List UInt8))) :=
  some ([[(97 : UInt8), (100 : UInt8), (100 : UInt8)], [(97 : UInt8), (115 : UInt8), (115 : UInt8), (101 : UInt8), (114 : UInt8), (116 : UInt8)], [(99 : UInt8), (101 : UInt8), (108 : UInt8), (108 : UInt8)], [(101 : UInt8), (108 : UInt8), (115 : UInt8), (101 : UInt8)], [(105 : UInt8), (102 : UInt8)], [(106 : UInt8), (111 : UInt8), (105 : UInt8), (110 : UInt8)], [(108 : UInt8), (111 : UInt8), (99 : UInt8), (107 : UInt8)], [(109 : UInt8), (117 : UInt8), (116 : UInt8), (101 : UInt8), (120 : UInt8)], [(114 : UInt8), (101 : UInt8), (112 : UInt8), (101 : UInt8), (97 : UInt8), (116 : UInt8)], [(115 : UInt8), (116 : UInt8), (97 : UInt8), (114 : UInt8), (116 : UInt8)], [(116 : UInt8), (104 : UInt8), (114 : UInt8), (101 : UInt8), (97 : UInt8), (100 : UInt8)], [(117 : UInt8), (110 : UInt8), (108 : UInt8), (111 : UInt8), (99 : UInt8), (107 : UInt8)]])
def qas : Option ((List (List UInt8))) := sealF (qas_f)
def qax_f (a0 : List UInt8) : Option (Token × Int) :=
  Option.bind (zaay a0) fun y0 =>
  Option.bind (qat y0.1) fun y1 =>
  bif !y1 then
   Option.bind (qaw a0) fun y2 =>
   bif y2 == [] then
    some ((Token.mk (0 : Int) [] (0 : Int) (0 : Int)), ((20 : Int)))
   else
    some ((Token.mk (3 : Int) y2 (0 : Int) (0 : Int)), ((0 : Int)))
  else
   Option.bind (qay a0) fun y3 =>
   Option.bind (qa6 (IntKind.wrap IntKind.i64 y0.1)) fun y4 =>
   bif y4 then
    Option.bind (qau y3) fun y5 =>
    bif !y5.2 then
     some ((Token.mk (1 : Int) y3 (0 : Int) (0 : Int)), ((22 : Int)))
    else
     some ((Token.mk (2 : Int) y3 y5.1 (0 : Int)), ((0 : Int)))
   else
    Option.bind (qas) fun y6 =>
    Option.bind (qbg y6 y3) fun y7 =>
    bif y7 then
     some ((Token.mk (4 : Int) y3 (0 : Int) (0 : Int)), ((0 : Int)))
    else
     Option.bind (zaa2 y3) fun y8 =>
     bif decide (y8 > 16) then
      some ((Token.mk (1 : Int) y3 (0 : Int) (0 : Int)), ((21 : Int)))
     else
      some ((Token.mk (1 : Int) y3 (0 : Int) (0 : Int)), ((0 : Int)))
def qax : List UInt8 → Option (Token × Int) := sealF (qax_f)
def qar_t6 (rec : List UInt8 → Int → Int → Int → List UInt8 → List Token → Option ((Int × Int × (List UInt8)) ⊕ ((List UInt8) × Int × Int × (List UInt8) × (List Token)))) (a0 : List UInt8) (a1 : Int) (a2 : Int) (a3 : Int) (a4 : List UInt8) (a5 : List Token) : Option ((Int × Int × (List UInt8)) ⊕ ((List UInt8) × Int × Int × (List UInt8) × (List Token))) :=
  bif decide (a1 < (↑(List.length a0) : Int)) then
   bif decide (0 ≤ a1) && (decide (a1 ≤ (↑(List.length a0) : Int)) && decide ((↑(List.length a0) : Int) ≤ (↑(List.length a0) : Int))) then
    Option.bind (qax (List.drop (Int.toNat a1) (List.take (Int.toNat (↑(List.length a0) : Int)) a0))) fun y0 =>
    bif y0.2 != 0 then
     some (.inl (y0.2, (a1), ([])))
    else
     bif decide ((List.length a5 + List.length [Token.mk (Token.kind y0.1) (Token.text y0.1) (Token.num y0.1) a1]) * (40 : Nat) ≤ (140737488355328 : Nat) ∧ List.length a5 + List.length [Token.mk (Token.kind y0.1) (Token.text y0.1) (Token.num y0.1) a1] ≤ (9223372036854775807 : Nat)) then
      bif decide ((0 : Int) ≤ IntKind.wrap IntKind.i64 (a1 + (↑(List.length (Token.text y0.1)) : Int))) && (decide (IntKind.wrap IntKind.i64 (a1 + (↑(List.length (Token.text y0.1)) : Int)) ≤ (↑(List.length a0) : Int)) && decide ((↑(List.length a0) : Int) ≤ (↑(List.length a0) : Int))) then
       Option.bind (qav (List.drop (Int.toNat (IntKind.wrap IntKind.i64 (a1 + (↑(List.length (Token.text y0.1)) : Int)))) (List.take (Int.toNat (↑(List.length a0) : Int)) a0))) fun y1 =>
       rec (a0) (IntKind.wrap IntKind.i64 (IntKind.wrap IntKind.i64 (a1 + (↑(List.length (Token.text y0.1)) : Int)) + y1)) (a2) (a3) (a4) (a5 ++ [Token.mk (Token.kind y0.1) (Token.text y0.1) (Token.num y0.1) a1])
      else
       none
     else
      none
   else
    none
  else
   some (.inr ((a0), (a2), (a3), (a4), (a5)))
def qar_i6 : Nat → List UInt8 → Int → Int → Int → List UInt8 → List Token → Option ((Int × Int × (List UInt8)) ⊕ ((List UInt8) × Int × Int × (List UInt8) × (List Token)))
 | 0, _, _, _, _, _, _ => none
 | n + 1, a0, a1, a2, a3, a4, a5 => qar_t6 (qar_i6 n) a0 a1 a2 a3 a4 a5
def qar_l6 : List UInt8 → Int → Int → Int → List UInt8 → List Token → Option ((Int × Int × (List UInt8)) ⊕ ((List UInt8) × Int × Int × (List UInt8) × (List Token))) := sealF (qar_i6 fuel)
def qar_f (a0 : List UInt8) : Option (Fault × (List Token)) :=
  Option.bind (qa8 a0) fun y0 =>
  bif Fault.code y0.1 != 0 then
   some ((Fault.mk (Fault.code y0.1) (Fault.at_ y0.1) (Fault.name y0.1)), ([]))
  else
   Option.bind (qav a0) fun y1 =>
   Option.bind (qar_l6 a0 y1 (0 : Int) (0 : Int) [] []) fun y2 =>
   match y2 with
   | .inl y3 =>
    some ((Fault.mk y3.1 y3.2.1 y3.2.2), ([]))
   | .inr y3 =>
    bif decide ((List.length y3.2.2.2.2 + List.length [Token.mk (5 : Int) [] (0 : Int) (↑(List.length y3.1) : Int)]) * (40 : Nat) ≤ (140737488355328 : Nat) ∧ List.length y3.2.2.2.2 + List.length [Token.mk (5 : Int) [] (0 : Int) (↑(List.length y3.1) : Int)] ≤ (9223372036854775807 : Nat)) then
     some ((Fault.mk (0 : Int) (0 : Int) []), (y3.2.2.2.2 ++ [Token.mk (5 : Int) [] (0 : Int) (↑(List.length y3.1) : Int)]))
    else
     none
def qar : List UInt8 → Option (Fault × (List Token)) := sealF (qar_f)
def qbu_f (a0 : List UInt8) : Option (Bool) :=
  bif decide ((↑(List.length a0) : Int) > 64) then
   some (false)
  else
   Option.bind (qar a0) fun y0 =>
   Option.bind (α := Bool) (
     bif Fault.code y0.1 == 0 then
      some ((↑(List.length y0.2) : Int) == 2)
     else
      some (false)) fun y1 =>
   Option.bind (α := Bool) (
     bif y1 then
      bif decide ((0 : Int) ≤ (0 : Int)) && decide ((0 : Int) < (↑(List.length y0.2) : Int)) then
       Option.bind (y0.2[(0 : Nat)]?) fun y2 =>
       some (Token.kind y2 == 1)
      else
       none
     else
      some (false)) fun y3 =>
   Option.bind (α := Bool) (
     bif y3 then
      bif decide ((0 : Int) ≤ (0 : Int)) && decide ((0 : Int) < (↑(List.length y0.2) : Int)) then
       Option.bind (y0.2[(0 : Nat)]?) fun y4 =>
       some (Token.text y4 == a0)
      else
       none
     else
      some (false)) fun y5 =>
   some (y5)
def qbu : List UInt8 → Option (Bool) := sealF (qbu_f)
def qbv_f : Option ((List ((Int) × (Shape)))) :=
  some (zaaw (11 : Int) (Shape.mk false false false true true false) (zaaw (10 : Int) (Shape.mk false false true false true true) (zaaw (9 : Int) (Shape.mk false false true false false false) (zaaw (8 : Int) (Shape.mk false true false false false false) (zaaw (7 : Int) (Shape.mk false true false false false false) (zaaw (6 : Int) (Shape.mk false true false false false false) (zaaw (5 : Int) (Shape.mk false true false false false false) (zaaw (4 : Int) (Shape.mk true true true false false false) (zaaw (3 : Int) (Shape.mk false true true false false false) (zaaw (2 : Int) (Shape.mk true true false false false false) (zaaw (1 : Int) (Shape.mk true false true false false false) [])))))))))))
def qbv : Option ((List ((Int) × (Shape)))) := sealF (qbv_f)
def qbt_f (a0 : List UInt8) (a1 : Bool) : Option (Bool) :=
  Option.bind (α := Bool) (
    bif a1 then
     Option.bind (qbu a0) fun y0 =>
     some (y0)
    else
     some (false)) fun y1 =>
  Option.bind (α := Bool) (
    bif y1 then
     some (true)
    else
     Option.bind (α := Bool) (
       bif !a1 then
        some (a0 == [])
       else
        some (false)) fun y2 =>
     some (y2)) fun y3 =>
  some (y3)
def qbt : List UInt8 → Bool → Option (Bool) := sealF (qbt_f)
def qbw_f (a0 : TStmt) : Option (Bool) :=
  Option.bind (qbv) fun y0 =>
  Option.bind (α := Bool) (
    bif TExpr.kind (TStmt.expr a0) == 0 then
     some (TExpr.num (TStmt.expr a0) == 0)
    else
     some (false)) fun y1 =>
  Option.bind (α := Bool) (
    bif y1 then
     some (TExpr.name (TStmt.expr a0) == [])
    else
     some (false)) fun y2 =>
  Option.bind (α := Bool) (
    bif y2 then
     some ((↑(List.length (TExpr.args (TStmt.expr a0))) : Int) == 0)
    else
     some (false)) fun y3 =>
  Option.bind (α := Bool) (
    bif TStmt.count a0 == 0 then
     some (true)
    else
     Option.bind (α := Bool) (
       bif Shape.count (Option.getD (mapAt y0 (TStmt.kind a0)) (Shape.mk false false false false false false)) then
        some (decide (TStmt.count a0 > 0))
       else
        some (false)) fun y4 =>
     Option.bind (α := Bool) (
       bif y4 then
        some (decide (TStmt.count a0 ≤ 1000))
       else
        some (false)) fun y5 =>
     some (y5)) fun y6 =>
  Option.bind (α := Bool) (
    bif Option.isSome (mapAt y0 (TStmt.kind a0)) then
     Option.bind (qbt (TStmt.reg a0) (Shape.reg (Option.getD (mapAt y0 (TStmt.kind a0)) (Shape.mk false false false false false false)))) fun y7 =>
     some (y7)
    else
     some (false)) fun y8 =>
  Option.bind (α := Bool) (
    bif y8 then
     Option.bind (qbt (TStmt.name a0) (Shape.name (Option.getD (mapAt y0 (TStmt.kind a0)) (Shape.mk false false false false false false)))) fun y9 =>
     some (y9)
    else
     some (false)) fun y10 =>
  Option.bind (α := Bool) (
    bif y10 then
     Option.bind (α := Bool) (
       bif Shape.expr (Option.getD (mapAt y0 (TStmt.kind a0)) (Shape.mk false false false false false false)) then
        some (TExpr.kind (TStmt.expr a0) != 0)
       else
        some (false)) fun y11 =>
     Option.bind (α := Bool) (
       bif y11 then
        some (true)
       else
        Option.bind (α := Bool) (
          bif !Shape.expr (Option.getD (mapAt y0 (TStmt.kind a0)) (Shape.mk false false false false false false)) then
           some (y3)
          else
           some (false)) fun y12 =>
        some (y12)) fun y13 =>
     some (y13)
    else
     some (false)) fun y14 =>
  Option.bind (α := Bool) (
    bif y14 then
     some (y6)
    else
     some (false)) fun y15 =>
  Option.bind (α := Bool) (
    bif y15 then
     Option.bind (α := Bool) (
       bif Shape.then_ (Option.getD (mapAt y0 (TStmt.kind a0)) (Shape.mk false false false false false false)) then
        some (true)
       else
        some ((↑(List.length (TStmt.then_ a0)) : Int) == 0)) fun y16 =>
     some (y16)
    else
     some (false)) fun y17 =>
  Option.bind (α := Bool) (
    bif y17 then
     Option.bind (α := Bool) (
       bif Shape.other (Option.getD (mapAt y0 (TStmt.kind a0)) (Shape.mk false false false false false false)) then
        some (true)
       else
        some ((↑(List.length (TStmt.else_ a0)) : Int) == 0)) fun y18 =>
     some (y18)
    else
     some (false)) fun y19 =>
  some (y19)
def qbw : TStmt → Option (Bool) := sealF (qbw_f)
def qbr_f (a0 : TStmt) (a1 : Int) (a2 : Bool) : Option (Bool) :=
  Option.bind (α := Bool) (
    bif a2 then
     Option.bind (qbw (TStmt.mk (TStmt.kind a0) (TStmt.reg a0) (TStmt.name a0) (TExpr.mk (TExpr.kind (TStmt.expr a0)) (TExpr.num (TStmt.expr a0)) (TExpr.name (TStmt.expr a0)) (TExpr.args (TStmt.expr a0))) (TStmt.count a0) (TStmt.then_ a0) (TStmt.else_ a0))) fun y0 =>
     some (y0)
    else
     some (false)) fun y1 =>
  some (y1)
def qbr : TStmt → Int → Bool → Option (Bool) := sealF (qbr_f)
def qbp_f (a0 : TExpr) : Option (Bool) :=
  bif TExpr.kind a0 == 1 then
   Option.bind (α := Bool) (
     bif decide (TExpr.num a0 ≥ 0) then
      some (decide (TExpr.num a0 ≤ 2147483647))
     else
      some (false)) fun y0 =>
   Option.bind (α := Bool) (
     bif y0 then
      some (TExpr.name a0 == [])
     else
      some (false)) fun y1 =>
   Option.bind (α := Bool) (
     bif y1 then
      some ((↑(List.length (TExpr.args a0)) : Int) == 0)
     else
      some (false)) fun y2 =>
   some (y2)
  else
   bif TExpr.kind a0 == 2 then
    Option.bind (qbu (TExpr.name a0)) fun y3 =>
    Option.bind (α := Bool) (
      bif y3 then
       some (TExpr.num a0 == 0)
      else
       some (false)) fun y4 =>
    Option.bind (α := Bool) (
      bif y4 then
       some ((↑(List.length (TExpr.args a0)) : Int) == 0)
      else
       some (false)) fun y5 =>
    some (y5)
   else
    Option.bind (α := Bool) (
      bif TExpr.kind a0 == 3 then
       some (true)
      else
       some (TExpr.kind a0 == 4)) fun y6 =>
    bif y6 then
     Option.bind (α := Bool) (
       bif decide (TExpr.kind a0 ≥ 3) then
        some (decide (TExpr.kind a0 ≤ 17))
       else
        some (false)) fun y7 =>
     Option.bind (α := Bool) (
       bif y7 then
        some ((↑(List.length (TExpr.args a0)) : Int) == 1)
       else
        some (false)) fun y8 =>
     Option.bind (α := Bool) (
       bif y8 then
        some (TExpr.num a0 == 0)
       else
        some (false)) fun y9 =>
     Option.bind (α := Bool) (
       bif y9 then
        some (TExpr.name a0 == [])
       else
        some (false)) fun y10 =>
     some (y10)
    else
     Option.bind (α := Bool) (
       bif decide (TExpr.kind a0 ≥ 3) then
        some (decide (TExpr.kind a0 ≤ 17))
       else
        some (false)) fun y11 =>
     Option.bind (α := Bool) (
       bif y11 then
        some ((↑(List.length (TExpr.args a0)) : Int) == 2)
       else
        some (false)) fun y12 =>
     Option.bind (α := Bool) (
       bif y12 then
        some (TExpr.num a0 == 0)
       else
        some (false)) fun y13 =>
     Option.bind (α := Bool) (
       bif y13 then
        some (TExpr.name a0 == [])
       else
        some (false)) fun y14 =>
     some (y14)
def qbp : TExpr → Option (Bool) := sealF (qbp_f)
def qbs_f (a0 : TExpr) (a1 : Int) (a2 : Bool) : Option (Bool) :=
  Option.bind (α := Bool) (
    bif a2 then
     Option.bind (qbp (TExpr.mk (TExpr.kind a0) (TExpr.num a0) (TExpr.name a0) (TExpr.args a0))) fun y0 =>
     some (y0)
    else
     some (false)) fun y1 =>
  some (y1)
def qbs : TExpr → Int → Bool → Option (Bool) := sealF (qbs_f)
def qac_t3 (rec_qac : TExpr → Int → Bool → Option (Bool)) (rec : Int → List TExpr → Int → Int → Bool → Option (Bool)) (a0 : Int) (a1 : List TExpr) (a2 : Int) (a3 : Int) (a4 : Bool) : Option (Bool) :=
  bif decide (a3 < a2) then
   bif decide (0 ≤ a3) then
    Option.bind (a1[Int.toNat a3]?) fun y0 =>
    Option.bind (rec_qac (TExpr.mk (TExpr.kind y0) (TExpr.num y0) (TExpr.name y0) (TExpr.args y0)) (IntKind.wrap IntKind.i64 (a0 + (1 : Int))) a4) fun y1 =>
    rec (a0) (a1) (a2) (IntKind.wrap IntKind.i64 (a3 + (1 : Int))) (y1)
   else
    none
  else
   some (a4)
def qac_i3 (rec_qac : TExpr → Int → Bool → Option (Bool)) : Nat → Int → List TExpr → Int → Int → Bool → Option (Bool)
 | 0, _, _, _, _, _ => none
 | n + 1, a0, a1, a2, a3, a4 => qac_t3 rec_qac (qac_i3 rec_qac n) a0 a1 a2 a3 a4
def qac_l3 (rec_qac : TExpr → Int → Bool → Option (Bool)) : Int → List TExpr → Int → Int → Bool → Option (Bool) := sealF (qac_i3 rec_qac fuel)
def qac_f (rec_qac : TExpr → Int → Bool → Option (Bool)) (a0 : TExpr) (a1 : Int) (a2 : Bool) : Option (Bool) :=
  Option.bind (qbs (TExpr.mk (TExpr.kind a0) (TExpr.num a0) (TExpr.name a0) (TExpr.args a0)) a1 a2) fun y0 =>
  Option.bind (qac_l3 rec_qac a1 (TExpr.args a0) (↑(List.length (TExpr.args a0)) : Int) (0 : Int) y0) fun y1 =>
  some (y1)
def qac_i : Nat → TExpr → Int → Bool → Option (Bool)
 | 0, _, _, _ => none
 | n + 1, a0, a1, a2 => qac_f (qac_i n) a0 a1 a2
def qac : TExpr → Int → Bool → Option (Bool) := sealF (qac_i fuel)
def qai_t2 (rec_qai : List TStmt → Int → Bool → Option (Bool)) (rec : Int → List TStmt → Int → Int → Bool → Option (Bool)) (a0 : Int) (a1 : List TStmt) (a2 : Int) (a3 : Int) (a4 : Bool) : Option (Bool) :=
  bif decide (a3 < a2) then
   bif decide (0 ≤ a3) then
    Option.bind (a1[Int.toNat a3]?) fun y0 =>
    Option.bind (qbr (TStmt.mk (TStmt.kind y0) (TStmt.reg y0) (TStmt.name y0) (TExpr.mk (TExpr.kind (TStmt.expr y0)) (TExpr.num (TStmt.expr y0)) (TExpr.name (TStmt.expr y0)) (TExpr.args (TStmt.expr y0))) (TStmt.count y0) (TStmt.then_ y0) (TStmt.else_ y0)) a0 a4) fun y1 =>
    Option.bind (α := Bool) (
      bif TExpr.kind (TStmt.expr y0) != 0 then
       some (true)
      else
       some (decide ((↑(List.length (TExpr.args (TStmt.expr y0))) : Int) > 0))) fun y2 =>
    bif y2 then
     Option.bind (qac (TExpr.mk (TExpr.kind (TStmt.expr y0)) (TExpr.num (TStmt.expr y0)) (TExpr.name (TStmt.expr y0)) (TExpr.args (TStmt.expr y0))) (1 : Int) y1) fun y3 =>
     Option.bind (rec_qai (TStmt.then_ y0) (IntKind.wrap IntKind.i64 (a0 + (1 : Int))) y3) fun y4 =>
     Option.bind (rec_qai (TStmt.else_ y0) (IntKind.wrap IntKind.i64 (a0 + (1 : Int))) y4) fun y5 =>
     rec (a0) (a1) (a2) (IntKind.wrap IntKind.i64 (a3 + (1 : Int))) (y5)
    else
     Option.bind (rec_qai (TStmt.then_ y0) (IntKind.wrap IntKind.i64 (a0 + (1 : Int))) y1) fun y6 =>
     Option.bind (rec_qai (TStmt.else_ y0) (IntKind.wrap IntKind.i64 (a0 + (1 : Int))) y6) fun y7 =>
     rec (a0) (a1) (a2) (IntKind.wrap IntKind.i64 (a3 + (1 : Int))) (y7)
   else
    none
  else
   some (a4)
def qai_i2 (rec_qai : List TStmt → Int → Bool → Option (Bool)) : Nat → Int → List TStmt → Int → Int → Bool → Option (Bool)
 | 0, _, _, _, _, _ => none
 | n + 1, a0, a1, a2, a3, a4 => qai_t2 rec_qai (qai_i2 rec_qai n) a0 a1 a2 a3 a4
def qai_l2 (rec_qai : List TStmt → Int → Bool → Option (Bool)) : Int → List TStmt → Int → Int → Bool → Option (Bool) := sealF (qai_i2 rec_qai fuel)
def qai_f (rec_qai : List TStmt → Int → Bool → Option (Bool)) (a0 : List TStmt) (a1 : Int) (a2 : Bool) : Option (Bool) :=
  Option.bind (qai_l2 rec_qai a1 a0 (↑(List.length a0) : Int) (0 : Int) a2) fun y0 =>
  some (y0)
def qai_i : Nat → List TStmt → Int → Bool → Option (Bool)
 | 0, _, _, _ => none
 | n + 1, a0, a1, a2 => qai_f (qai_i n) a0 a1 a2
def qai : List TStmt → Int → Bool → Option (Bool) := sealF (qai_i fuel)
def qaf_t2 (rec : List TThread → Int → Int → Bool → Option (Bool)) (a0 : List TThread) (a1 : Int) (a2 : Int) (a3 : Bool) : Option (Bool) :=
  bif decide (a2 < a1) then
   bif decide (0 ≤ a2) then
    Option.bind (a0[Int.toNat a2]?) fun y0 =>
    Option.bind (qai (TThread.body y0) (1 : Int) a3) fun y1 =>
    rec (a0) (a1) (IntKind.wrap IntKind.i64 (a2 + (1 : Int))) (y1)
   else
    none
  else
   some (a3)
def qaf_i2 : Nat → List TThread → Int → Int → Bool → Option (Bool)
 | 0, _, _, _, _ => none
 | n + 1, a0, a1, a2, a3 => qaf_t2 (qaf_i2 n) a0 a1 a2 a3
def qaf_l2 : List TThread → Int → Int → Bool → Option (Bool) := sealF (qaf_i2 fuel)
def qaf_f (a0 : TProg) (a1 : Bool) : Option (Bool) :=
  Option.bind (qaf_l2 (TProg.threads a0) (↑(List.length (TProg.threads a0)) : Int) (0 : Int) a1) fun y0 =>
  some (y0)
def qaf : TProg → Bool → Option (Bool) := sealF (qaf_f)
def qbq_t3 (rec : List TCell → Int → Int → List TCell → List (List UInt8) → List TThread → Bool → Option ((List TCell) × (List (List UInt8)) × (List TThread) × Bool)) (a0 : List TCell) (a1 : Int) (a2 : Int) (a3 : List TCell) (a4 : List (List UInt8)) (a5 : List TThread) (a6 : Bool) : Option ((List TCell) × (List (List UInt8)) × (List TThread) × Bool) :=
  bif decide (a2 < a1) then
   bif decide (0 ≤ a2) then
    Option.bind (a0[Int.toNat a2]?) fun y0 =>
    Option.bind (α := Bool) (
      bif a6 then
       Option.bind (qbu (TCell.name y0)) fun y1 =>
       some (y1)
      else
       some (false)) fun y2 =>
    Option.bind (α := Bool) (
      bif y2 then
       some (decide (TCell.init y0 ≥ (-2147483647 : Int)))
      else
       some (false)) fun y3 =>
    Option.bind (α := Bool) (
      bif y3 then
       some (decide (TCell.init y0 ≤ 2147483647))
      else
       some (false)) fun y4 =>
    rec (a0) (a1) (IntKind.wrap IntKind.i64 (a2 + (1 : Int))) (a3) (a4) (a5) (y4)
   else
    none
  else
   some ((a3), (a4), (a5), (a6))
def qbq_i3 : Nat → List TCell → Int → Int → List TCell → List (List UInt8) → List TThread → Bool → Option ((List TCell) × (List (List UInt8)) × (List TThread) × Bool)
 | 0, _, _, _, _, _, _, _ => none
 | n + 1, a0, a1, a2, a3, a4, a5, a6 => qbq_t3 (qbq_i3 n) a0 a1 a2 a3 a4 a5 a6
def qbq_l3 : List TCell → Int → Int → List TCell → List (List UInt8) → List TThread → Bool → Option ((List TCell) × (List (List UInt8)) × (List TThread) × Bool) := sealF (qbq_i3 fuel)
def qbq_t8 (rec : List (List UInt8) → Int → Int → List TCell → List (List UInt8) → List TThread → Bool → Option ((List TCell) × (List (List UInt8)) × (List TThread) × Bool)) (a0 : List (List UInt8)) (a1 : Int) (a2 : Int) (a3 : List TCell) (a4 : List (List UInt8)) (a5 : List TThread) (a6 : Bool) : Option ((List TCell) × (List (List UInt8)) × (List TThread) × Bool) :=
  bif decide (a2 < a1) then
   bif decide (0 ≤ a2) then
    Option.bind (a0[Int.toNat a2]?) fun y0 =>
    Option.bind (α := Bool) (
      bif a6 then
       Option.bind (qbu y0) fun y1 =>
       some (y1)
      else
       some (false)) fun y2 =>
    rec (a0) (a1) (IntKind.wrap IntKind.i64 (a2 + (1 : Int))) (a3) (a4) (a5) (y2)
   else
    none
  else
   some ((a3), (a4), (a5), (a6))
def qbq_i8 : Nat → List (List UInt8) → Int → Int → List TCell → List (List UInt8) → List TThread → Bool → Option ((List TCell) × (List (List UInt8)) × (List TThread) × Bool)
 | 0, _, _, _, _, _, _, _ => none
 | n + 1, a0, a1, a2, a3, a4, a5, a6 => qbq_t8 (qbq_i8 n) a0 a1 a2 a3 a4 a5 a6
def qbq_l8 : List (List UInt8) → Int → Int → List TCell → List (List UInt8) → List TThread → Bool → Option ((List TCell) × (List (List UInt8)) × (List TThread) × Bool) := sealF (qbq_i8 fuel)
def qbq_t13 (rec : List TThread → Int → Int → List TCell → List (List UInt8) → List TThread → Bool → Option ((List TCell) × (List (List UInt8)) × (List TThread) × Bool)) (a0 : List TThread) (a1 : Int) (a2 : Int) (a3 : List TCell) (a4 : List (List UInt8)) (a5 : List TThread) (a6 : Bool) : Option ((List TCell) × (List (List UInt8)) × (List TThread) × Bool) :=
  bif decide (a2 < a1) then
   bif decide (0 ≤ a2) then
    Option.bind (a0[Int.toNat a2]?) fun y0 =>
    Option.bind (α := Bool) (
      bif a6 then
       Option.bind (qbu (TThread.name y0)) fun y1 =>
       some (y1)
      else
       some (false)) fun y2 =>
    rec (a0) (a1) (IntKind.wrap IntKind.i64 (a2 + (1 : Int))) (a3) (a4) (a5) (y2)
   else
    none
  else
   some ((a3), (a4), (a5), (a6))
def qbq_i13 : Nat → List TThread → Int → Int → List TCell → List (List UInt8) → List TThread → Bool → Option ((List TCell) × (List (List UInt8)) × (List TThread) × Bool)
 | 0, _, _, _, _, _, _, _ => none
 | n + 1, a0, a1, a2, a3, a4, a5, a6 => qbq_t13 (qbq_i13 n) a0 a1 a2 a3 a4 a5 a6
def qbq_l13 : List TThread → Int → Int → List TCell → List (List UInt8) → List TThread → Bool → Option ((List TCell) × (List (List UInt8)) × (List TThread) × Bool) := sealF (qbq_i13 fuel)
def qbq_f (a0 : TProg) : Option (Bool) :=
  Option.bind (qbq_l3 (TProg.cells a0) (↑(List.length (TProg.cells a0)) : Int) (0 : Int) (TProg.cells a0) (TProg.mutexes a0) (TProg.threads a0) true) fun y0 =>
  Option.bind (qbq_l8 y0.2.1 (↑(List.length y0.2.1) : Int) (0 : Int) y0.1 y0.2.1 y0.2.2.1 y0.2.2.2) fun y1 =>
  Option.bind (qbq_l13 y1.2.2.1 (↑(List.length y1.2.2.1) : Int) (0 : Int) y1.1 y1.2.1 y1.2.2.1 y1.2.2.2) fun y2 =>
  bif y2.2.2.2 then
   Option.bind (qaf (TProg.mk y2.1 y2.2.1 y2.2.2.1) y2.2.2.2) fun y3 =>
   some (y3)
  else
   some y2.2.2.2
def qbq : TProg → Option (Bool) := sealF (qbq_f)
def qbm_f (a0 : TStmt) (a1 : Int) (a2 : Int) : Option (Int) :=
  some (if a1 > a2 then a1 else a2)
def qbm : TStmt → Int → Int → Option (Int) := sealF (qbm_f)
def qbn_f (a0 : TExpr) (a1 : Int) (a2 : Int) : Option (Int) :=
  some (if a1 > a2 then a1 else a2)
def qbn : TExpr → Int → Int → Option (Int) := sealF (qbn_f)
def qad_t3 (rec_qad : TExpr → Int → Int → Option (Int)) (rec : Int → List TExpr → Int → Int → Int → Option (Int)) (a0 : Int) (a1 : List TExpr) (a2 : Int) (a3 : Int) (a4 : Int) : Option (Int) :=
  bif decide (a3 < a2) then
   bif decide (0 ≤ a3) then
    Option.bind (a1[Int.toNat a3]?) fun y0 =>
    Option.bind (rec_qad (TExpr.mk (TExpr.kind y0) (TExpr.num y0) (TExpr.name y0) (TExpr.args y0)) (IntKind.wrap IntKind.i64 (a0 + (1 : Int))) a4) fun y1 =>
    rec (a0) (a1) (a2) (IntKind.wrap IntKind.i64 (a3 + (1 : Int))) (y1)
   else
    none
  else
   some (a4)
def qad_i3 (rec_qad : TExpr → Int → Int → Option (Int)) : Nat → Int → List TExpr → Int → Int → Int → Option (Int)
 | 0, _, _, _, _, _ => none
 | n + 1, a0, a1, a2, a3, a4 => qad_t3 rec_qad (qad_i3 rec_qad n) a0 a1 a2 a3 a4
def qad_l3 (rec_qad : TExpr → Int → Int → Option (Int)) : Int → List TExpr → Int → Int → Int → Option (Int) := sealF (qad_i3 rec_qad fuel)
def qad_f (rec_qad : TExpr → Int → Int → Option (Int)) (a0 : TExpr) (a1 : Int) (a2 : Int) : Option (Int) :=
  Option.bind (qbn (TExpr.mk (TExpr.kind a0) (TExpr.num a0) (TExpr.name a0) (TExpr.args a0)) a1 a2) fun y0 =>
  Option.bind (qad_l3 rec_qad a1 (TExpr.args a0) (↑(List.length (TExpr.args a0)) : Int) (0 : Int) y0) fun y1 =>
  some (y1)
def qad_i : Nat → TExpr → Int → Int → Option (Int)
 | 0, _, _, _ => none
 | n + 1, a0, a1, a2 => qad_f (qad_i n) a0 a1 a2
def qad : TExpr → Int → Int → Option (Int) := sealF (qad_i fuel)
def qaj_t2 (rec_qaj : List TStmt → Int → Int → Option (Int)) (rec : Int → List TStmt → Int → Int → Int → Option (Int)) (a0 : Int) (a1 : List TStmt) (a2 : Int) (a3 : Int) (a4 : Int) : Option (Int) :=
  bif decide (a3 < a2) then
   bif decide (0 ≤ a3) then
    Option.bind (a1[Int.toNat a3]?) fun y0 =>
    Option.bind (qbm (TStmt.mk (TStmt.kind y0) (TStmt.reg y0) (TStmt.name y0) (TExpr.mk (TExpr.kind (TStmt.expr y0)) (TExpr.num (TStmt.expr y0)) (TExpr.name (TStmt.expr y0)) (TExpr.args (TStmt.expr y0))) (TStmt.count y0) (TStmt.then_ y0) (TStmt.else_ y0)) a0 a4) fun y1 =>
    Option.bind (α := Bool) (
      bif TExpr.kind (TStmt.expr y0) != 0 then
       some (true)
      else
       some (decide ((↑(List.length (TExpr.args (TStmt.expr y0))) : Int) > 0))) fun y2 =>
    bif y2 then
     Option.bind (qad (TExpr.mk (TExpr.kind (TStmt.expr y0)) (TExpr.num (TStmt.expr y0)) (TExpr.name (TStmt.expr y0)) (TExpr.args (TStmt.expr y0))) (1 : Int) y1) fun y3 =>
     Option.bind (rec_qaj (TStmt.then_ y0) (IntKind.wrap IntKind.i64 (a0 + (1 : Int))) y3) fun y4 =>
     Option.bind (rec_qaj (TStmt.else_ y0) (IntKind.wrap IntKind.i64 (a0 + (1 : Int))) y4) fun y5 =>
     rec (a0) (a1) (a2) (IntKind.wrap IntKind.i64 (a3 + (1 : Int))) (y5)
    else
     Option.bind (rec_qaj (TStmt.then_ y0) (IntKind.wrap IntKind.i64 (a0 + (1 : Int))) y1) fun y6 =>
     Option.bind (rec_qaj (TStmt.else_ y0) (IntKind.wrap IntKind.i64 (a0 + (1 : Int))) y6) fun y7 =>
     rec (a0) (a1) (a2) (IntKind.wrap IntKind.i64 (a3 + (1 : Int))) (y7)
   else
    none
  else
   some (a4)
def qaj_i2 (rec_qaj : List TStmt → Int → Int → Option (Int)) : Nat → Int → List TStmt → Int → Int → Int → Option (Int)
 | 0, _, _, _, _, _ => none
 | n + 1, a0, a1, a2, a3, a4 => qaj_t2 rec_qaj (qaj_i2 rec_qaj n) a0 a1 a2 a3 a4
def qaj_l2 (rec_qaj : List TStmt → Int → Int → Option (Int)) : Int → List TStmt → Int → Int → Int → Option (Int) := sealF (qaj_i2 rec_qaj fuel)
def qaj_f (rec_qaj : List TStmt → Int → Int → Option (Int)) (a0 : List TStmt) (a1 : Int) (a2 : Int) : Option (Int) :=
  Option.bind (qaj_l2 rec_qaj a1 a0 (↑(List.length a0) : Int) (0 : Int) a2) fun y0 =>
  some (y0)
def qaj_i : Nat → List TStmt → Int → Int → Option (Int)
 | 0, _, _, _ => none
 | n + 1, a0, a1, a2 => qaj_f (qaj_i n) a0 a1 a2
def qaj : List TStmt → Int → Int → Option (Int) := sealF (qaj_i fuel)
def qag_t2 (rec : List TThread → Int → Int → Int → Option (Int)) (a0 : List TThread) (a1 : Int) (a2 : Int) (a3 : Int) : Option (Int) :=
  bif decide (a2 < a1) then
   bif decide (0 ≤ a2) then
    Option.bind (a0[Int.toNat a2]?) fun y0 =>
    Option.bind (qaj (TThread.body y0) (1 : Int) a3) fun y1 =>
    rec (a0) (a1) (IntKind.wrap IntKind.i64 (a2 + (1 : Int))) (y1)
   else
    none
  else
   some (a3)
def qag_i2 : Nat → List TThread → Int → Int → Int → Option (Int)
 | 0, _, _, _, _ => none
 | n + 1, a0, a1, a2, a3 => qag_t2 (qag_i2 n) a0 a1 a2 a3
def qag_l2 : List TThread → Int → Int → Int → Option (Int) := sealF (qag_i2 fuel)
def qag_f (a0 : TProg) (a1 : Int) : Option (Int) :=
  Option.bind (qag_l2 (TProg.threads a0) (↑(List.length (TProg.threads a0)) : Int) (0 : Int) a1) fun y0 =>
  some (y0)
def qag : TProg → Int → Option (Int) := sealF (qag_f)
def qbl_f (a0 : TProg) : Option (Int) :=
  Option.bind (qag (TProg.mk (TProg.cells a0) (TProg.mutexes a0) (TProg.threads a0)) (0 : Int)) fun y0 =>
  some (y0)
def qbl : TProg → Option (Int) := sealF (qbl_f)
def qbj_f (a0 : TStmt) (a1 : Int) (a2 : Int) : Option (Int) :=
  some (IntKind.wrap IntKind.i64 (a2 + (1 : Int)))
def qbj : TStmt → Int → Int → Option (Int) := sealF (qbj_f)
def qbk_f (a0 : TExpr) (a1 : Int) (a2 : Int) : Option (Int) :=
  some (IntKind.wrap IntKind.i64 (a2 + (1 : Int)))
def qbk : TExpr → Int → Int → Option (Int) := sealF (qbk_f)
def qae_t3 (rec_qae : TExpr → Int → Int → Option (Int)) (rec : Int → List TExpr → Int → Int → Int → Option (Int)) (a0 : Int) (a1 : List TExpr) (a2 : Int) (a3 : Int) (a4 : Int) : Option (Int) :=
  bif decide (a3 < a2) then
   bif decide (0 ≤ a3) then
    Option.bind (a1[Int.toNat a3]?) fun y0 =>
    Option.bind (rec_qae (TExpr.mk (TExpr.kind y0) (TExpr.num y0) (TExpr.name y0) (TExpr.args y0)) (IntKind.wrap IntKind.i64 (a0 + (1 : Int))) a4) fun y1 =>
    rec (a0) (a1) (a2) (IntKind.wrap IntKind.i64 (a3 + (1 : Int))) (y1)
   else
    none
  else
   some (a4)
def qae_i3 (rec_qae : TExpr → Int → Int → Option (Int)) : Nat → Int → List TExpr → Int → Int → Int → Option (Int)
 | 0, _, _, _, _, _ => none
 | n + 1, a0, a1, a2, a3, a4 => qae_t3 rec_qae (qae_i3 rec_qae n) a0 a1 a2 a3 a4
def qae_l3 (rec_qae : TExpr → Int → Int → Option (Int)) : Int → List TExpr → Int → Int → Int → Option (Int) := sealF (qae_i3 rec_qae fuel)
def qae_f (rec_qae : TExpr → Int → Int → Option (Int)) (a0 : TExpr) (a1 : Int) (a2 : Int) : Option (Int) :=
  Option.bind (qbk (TExpr.mk (TExpr.kind a0) (TExpr.num a0) (TExpr.name a0) (TExpr.args a0)) a1 a2) fun y0 =>
  Option.bind (qae_l3 rec_qae a1 (TExpr.args a0) (↑(List.length (TExpr.args a0)) : Int) (0 : Int) y0) fun y1 =>
  some (y1)
def qae_i : Nat → TExpr → Int → Int → Option (Int)
 | 0, _, _, _ => none
 | n + 1, a0, a1, a2 => qae_f (qae_i n) a0 a1 a2
def qae : TExpr → Int → Int → Option (Int) := sealF (qae_i fuel)
def qak_t2 (rec_qak : List TStmt → Int → Int → Option (Int)) (rec : Int → List TStmt → Int → Int → Int → Option (Int)) (a0 : Int) (a1 : List TStmt) (a2 : Int) (a3 : Int) (a4 : Int) : Option (Int) :=
  bif decide (a3 < a2) then
   bif decide (0 ≤ a3) then
    Option.bind (a1[Int.toNat a3]?) fun y0 =>
    Option.bind (qbj (TStmt.mk (TStmt.kind y0) (TStmt.reg y0) (TStmt.name y0) (TExpr.mk (TExpr.kind (TStmt.expr y0)) (TExpr.num (TStmt.expr y0)) (TExpr.name (TStmt.expr y0)) (TExpr.args (TStmt.expr y0))) (TStmt.count y0) (TStmt.then_ y0) (TStmt.else_ y0)) a0 a4) fun y1 =>
    Option.bind (α := Bool) (
      bif TExpr.kind (TStmt.expr y0) != 0 then
       some (true)
      else
       some (decide ((↑(List.length (TExpr.args (TStmt.expr y0))) : Int) > 0))) fun y2 =>
    bif y2 then
     Option.bind (qae (TExpr.mk (TExpr.kind (TStmt.expr y0)) (TExpr.num (TStmt.expr y0)) (TExpr.name (TStmt.expr y0)) (TExpr.args (TStmt.expr y0))) (1 : Int) y1) fun y3 =>
     Option.bind (rec_qak (TStmt.then_ y0) (IntKind.wrap IntKind.i64 (a0 + (1 : Int))) y3) fun y4 =>
     Option.bind (rec_qak (TStmt.else_ y0) (IntKind.wrap IntKind.i64 (a0 + (1 : Int))) y4) fun y5 =>
     rec (a0) (a1) (a2) (IntKind.wrap IntKind.i64 (a3 + (1 : Int))) (y5)
    else
     Option.bind (rec_qak (TStmt.then_ y0) (IntKind.wrap IntKind.i64 (a0 + (1 : Int))) y1) fun y6 =>
     Option.bind (rec_qak (TStmt.else_ y0) (IntKind.wrap IntKind.i64 (a0 + (1 : Int))) y6) fun y7 =>
     rec (a0) (a1) (a2) (IntKind.wrap IntKind.i64 (a3 + (1 : Int))) (y7)
   else
    none
  else
   some (a4)
def qak_i2 (rec_qak : List TStmt → Int → Int → Option (Int)) : Nat → Int → List TStmt → Int → Int → Int → Option (Int)
 | 0, _, _, _, _, _ => none
 | n + 1, a0, a1, a2, a3, a4 => qak_t2 rec_qak (qak_i2 rec_qak n) a0 a1 a2 a3 a4
def qak_l2 (rec_qak : List TStmt → Int → Int → Option (Int)) : Int → List TStmt → Int → Int → Int → Option (Int) := sealF (qak_i2 rec_qak fuel)
def qak_f (rec_qak : List TStmt → Int → Int → Option (Int)) (a0 : List TStmt) (a1 : Int) (a2 : Int) : Option (Int) :=
  Option.bind (qak_l2 rec_qak a1 a0 (↑(List.length a0) : Int) (0 : Int) a2) fun y0 =>
  some (y0)
def qak_i : Nat → List TStmt → Int → Int → Option (Int)
 | 0, _, _, _ => none
 | n + 1, a0, a1, a2 => qak_f (qak_i n) a0 a1 a2
def qak : List TStmt → Int → Int → Option (Int) := sealF (qak_i fuel)
def qah_t2 (rec : List TThread → Int → Int → Int → Option (Int)) (a0 : List TThread) (a1 : Int) (a2 : Int) (a3 : Int) : Option (Int) :=
  bif decide (a2 < a1) then
   bif decide (0 ≤ a2) then
    Option.bind (a0[Int.toNat a2]?) fun y0 =>
    Option.bind (qak (TThread.body y0) (1 : Int) a3) fun y1 =>
    rec (a0) (a1) (IntKind.wrap IntKind.i64 (a2 + (1 : Int))) (y1)
   else
    none
  else
   some (a3)
def qah_i2 : Nat → List TThread → Int → Int → Int → Option (Int)
 | 0, _, _, _, _ => none
 | n + 1, a0, a1, a2, a3 => qah_t2 (qah_i2 n) a0 a1 a2 a3
def qah_l2 : List TThread → Int → Int → Int → Option (Int) := sealF (qah_i2 fuel)
def qah_f (a0 : TProg) (a1 : Int) : Option (Int) :=
  Option.bind (qah_l2 (TProg.threads a0) (↑(List.length (TProg.threads a0)) : Int) (0 : Int) a1) fun y0 =>
  some (y0)
def qah : TProg → Int → Option (Int) := sealF (qah_f)
def qbi_f (a0 : TProg) : Option (Int) :=
  Option.bind (qah (TProg.mk (TProg.cells a0) (TProg.mutexes a0) (TProg.threads a0)) (0 : Int)) fun y0 =>
  some (y0)
def qbi : TProg → Option (Int) := sealF (qbi_f)
def qbo_f (a0 : TProg) : Option (Int) :=
  Option.bind (qbq (TProg.mk (TProg.cells a0) (TProg.mutexes a0) (TProg.threads a0))) fun y0 =>
  bif !y0 then
   some ((30 : Int))
  else
   Option.bind (qbl (TProg.mk (TProg.cells a0) (TProg.mutexes a0) (TProg.threads a0))) fun y1 =>
   bif decide (y1 > 16) then
    some ((31 : Int))
   else
    Option.bind (qbi (TProg.mk (TProg.cells a0) (TProg.mutexes a0) (TProg.threads a0))) fun y2 =>
    bif decide (y2 > 500) then
     some ((32 : Int))
    else
     some ((0 : Int))
def qbo : TProg → Option (Int) := sealF (qbo_f)
def qal_t5 (rec : List TBody → Int → Int → List Int → Int → List TBody → List (List UInt8) → List (List UInt8) → List (List UInt8) → List (List (List UInt8)) → Option ((Bool) ⊕ ((List Int) × Int × (List TBody) × (List (List UInt8)) × (List (List UInt8)) × (List (List UInt8)) × (List (List (List UInt8)))))) (a0 : List TBody) (a1 : Int) (a2 : Int) (a3 : List Int) (a4 : Int) (a5 : List TBody) (a6 : List (List UInt8)) (a7 : List (List UInt8)) (a8 : List (List UInt8)) (a9 : List (List (List UInt8))) : Option ((Bool) ⊕ ((List Int) × Int × (List TBody) × (List (List UInt8)) × (List (List UInt8)) × (List (List UInt8)) × (List (List (List UInt8))))) :=
  bif decide (a2 < a1) then
   bif decide (0 ≤ a2) then
    Option.bind (a0[Int.toNat a2]?) fun y0 =>
    Option.bind (α := Bool) (
      bif decide (TBody.regs y0 < 0) then
       some (true)
      else
       some (decide (TBody.regs y0 > 8))) fun y1 =>
    bif y1 then
     some (.inl (false))
    else
     Option.bind (qaq (TBody.regs y0)) fun y2 =>
     bif decide ((List.length a9 + List.length [y2]) * (24 : Nat) ≤ (140737488355328 : Nat) ∧ List.length a9 + List.length [y2] ≤ (9223372036854775807 : Nat)) then
      rec (a0) (a1) (IntKind.wrap IntKind.i64 (a2 + (1 : Int))) (a3) (a4) (a5) (a6) (a7) (a8) (a9 ++ [y2])
     else
      none
   else
    none
  else
   some (.inr ((a3), (a4), (a5), (a6), (a7), (a8), (a9)))
def qal_i5 : Nat → List TBody → Int → Int → List Int → Int → List TBody → List (List UInt8) → List (List UInt8) → List (List UInt8) → List (List (List UInt8)) → Option ((Bool) ⊕ ((List Int) × Int × (List TBody) × (List (List UInt8)) × (List (List UInt8)) × (List (List UInt8)) × (List (List (List UInt8)))))
 | 0, _, _, _, _, _, _, _, _, _, _ => none
 | n + 1, a0, a1, a2, a3, a4, a5, a6, a7, a8, a9 => qal_t5 (qal_i5 n) a0 a1 a2 a3 a4 a5 a6 a7 a8 a9
def qal_l5 : List TBody → Int → Int → List Int → Int → List TBody → List (List UInt8) → List (List UInt8) → List (List UInt8) → List (List (List UInt8)) → Option ((Bool) ⊕ ((List Int) × Int × (List TBody) × (List (List UInt8)) × (List (List UInt8)) × (List (List UInt8)) × (List (List (List UInt8))))) := sealF (qal_i5 fuel)
def qal_f (a0 : TUnit) : Option (Bool) :=
  Option.bind (α := Bool) (
    bif decide ((↑(List.length (TUnit.threads a0)) : Int) < 1) then
     some (true)
    else
     some (decide ((↑(List.length (TUnit.threads a0)) : Int) > 8))) fun y0 =>
  Option.bind (α := Bool) (
    bif y0 then
     some (true)
    else
     some (decide ((↑(List.length (TUnit.cells a0)) : Int) > 8))) fun y1 =>
  Option.bind (α := Bool) (
    bif y1 then
     some (true)
    else
     some (decide (TUnit.mutexes a0 < 0))) fun y2 =>
  Option.bind (α := Bool) (
    bif y2 then
     some (true)
    else
     some (decide (TUnit.mutexes a0 > 8))) fun y3 =>
  bif y3 then
   some (false)
  else
   Option.bind (qaq (↑(List.length (TUnit.cells a0)) : Int)) fun y4 =>
   Option.bind (qaq (TUnit.mutexes a0)) fun y5 =>
   Option.bind (qaq (↑(List.length (TUnit.threads a0)) : Int)) fun y6 =>
   Option.bind (qal_l5 (TUnit.threads a0) (↑(List.length (TUnit.threads a0)) : Int) (0 : Int) (TUnit.cells a0) (TUnit.mutexes a0) (TUnit.threads a0) y4 y5 y6 []) fun y7 =>
   match y7 with
   | .inl y8 =>
    some (y8)
   | .inr y8 =>
    Option.bind (qap (TUnit.mk y8.1 y8.2.1 y8.2.2.1) (Names.mk y8.2.2.2.1 y8.2.2.2.2.1 y8.2.2.2.2.2.1 y8.2.2.2.2.2.2)) fun y9 =>
    Option.bind (qbo (TProg.mk y9.1 y9.2.1 y9.2.2)) fun y10 =>
    some (y10 == 0)
def qal : TUnit → Option (Bool) := sealF (qal_f)
def qbe_f (a0 : List Int) : Option ((List Int)) :=
  bif List.isEmpty a0 then
   both (
     some ([])) (
     bif decide (((0 : Nat) + List.length a0) * (8 : Nat) ≤ (140737488355328 : Nat) ∧ (0 : Nat) + List.length a0 ≤ (9223372036854775807 : Nat)) then
      some ([] ++ a0)
     else
      none)
  else
   bif decide (((0 : Nat) + List.length a0) * (8 : Nat) ≤ (140737488355328 : Nat) ∧ (0 : Nat) + List.length a0 ≤ (9223372036854775807 : Nat)) then
    some ([] ++ a0)
   else
    none
def qbe : List Int → Option ((List Int)) := sealF (qbe_f)
def qbc_f (a0 : List Int) : Option ((List Int)) :=
  bif decide ((↑(List.length a0) : Int) = (↑(List.length a0) : Int)) && decide ((↑(List.length a0) : Int) = (↑(List.length a0) : Int)) then
   some (a0)
  else
   none
def qbc : List Int → Option ((List Int)) := sealF (qbc_f)
def qaE_t2 (rec : List Int → Int → Int → Int → Int → Int → Int → Int → Int → List Instr → Option (Int × Int × Int × Int × Int × Int × (List Instr))) (a0 : List Int) (a1 : Int) (a2 : Int) (a3 : Int) (a4 : Int) (a5 : Int) (a6 : Int) (a7 : Int) (a8 : Int) (a9 : List Instr) : Option (Int × Int × Int × Int × Int × Int × (List Instr)) :=
  bif decide (a2 < a1) then
   bif decide (0 ≤ a2) then
    Option.bind (a0[Int.toNat a2]?) fun y0 =>
    rec (a0) (a1) (IntKind.wrap IntKind.i64 (a2 + (1 : Int))) (a3) (if IntKind.wrap IntKind.i64 (y0 + (1 : Int)) > a4 then IntKind.wrap IntKind.i64 (y0 + (1 : Int)) else a4) (a5) (a6) (a7) (a8) (a9)
   else
    none
  else
   some ((a3), (a4), (a5), (a6), (a7), (a8), (a9))
def qaE_i2 : Nat → List Int → Int → Int → Int → Int → Int → Int → Int → Int → List Instr → Option (Int × Int × Int × Int × Int × Int × (List Instr))
 | 0, _, _, _, _, _, _, _, _, _, _ => none
 | n + 1, a0, a1, a2, a3, a4, a5, a6, a7, a8, a9 => qaE_t2 (qaE_i2 n) a0 a1 a2 a3 a4 a5 a6 a7 a8 a9
def qaE_l2 : List Int → Int → Int → Int → Int → Int → Int → Int → Int → List Instr → Option (Int × Int × Int × Int × Int × Int × (List Instr)) := sealF (qaE_i2 fuel)
def qaE_f (a0 : Instr) (a1 : List Int) (a2 : Int) (a3 : Int) (a4 : List Instr) : Option (Int × Int × Int × (List Instr)) :=
  Option.bind (qaE_l2 a1 (↑(List.length a1) : Int) (0 : Int) a2 a3 (Instr.op a0) (Instr.a a0) (Instr.b a0) (Instr.c a0) a4) fun y0 =>
  bif decide ((List.length y0.2.2.2.2.2.2 + List.length [Instr.mk y0.2.2.1 y0.2.2.2.1 y0.2.2.2.2.1 y0.2.2.2.2.2.1]) * (32 : Nat) ≤ (140737488355328 : Nat) ∧ List.length y0.2.2.2.2.2.2 + List.length [Instr.mk y0.2.2.1 y0.2.2.2.1 y0.2.2.2.2.1 y0.2.2.2.2.2.1] ≤ (9223372036854775807 : Nat)) then
   some ((IntKind.wrap IntKind.i64 ((↑(List.length (y0.2.2.2.2.2.2 ++ [Instr.mk y0.2.2.1 y0.2.2.2.1 y0.2.2.2.2.1 y0.2.2.2.2.2.1])) : Int) - (1 : Int))), y0.1, y0.2.1, (y0.2.2.2.2.2.2 ++ [Instr.mk y0.2.2.1 y0.2.2.2.1 y0.2.2.2.2.1 y0.2.2.2.2.2.1]))
  else
   none
def qaE : Instr → List Int → Int → Int → List Instr → Option (Int × Int × Int × (List Instr)) := sealF (qaE_f)
def qaD_f (rec_qaD : Int → TExpr → Int → Int → List Instr → Option (Int × Int × (List Instr))) (a0 : Int) (a1 : TExpr) (a2 : Int) (a3 : Int) (a4 : List Instr) : Option (Int × Int × (List Instr)) :=
  bif TExpr.kind a1 == 1 then
   Option.bind (qaE (Instr.mk (1 : Int) a0 (TExpr.num a1) (0 : Int)) [a0] a2 a3 a4) fun y0 =>
   some (y0.2.1, y0.2.2.1, y0.2.2.2)
  else
   bif TExpr.kind a1 == 2 then
    Option.bind (qaE (Instr.mk (2 : Int) a0 (TExpr.num a1) (0 : Int)) [a0, TExpr.num a1] a2 a3 a4) fun y1 =>
    some (y1.2.1, y1.2.2.1, y1.2.2.2)
   else
    Option.bind ((TExpr.args a1)[(0 : Nat)]?) fun y2 =>
    Option.bind (rec_qaD a0 y2 a2 a3 a4) fun y3 =>
    bif (↑(List.length (TExpr.args a1)) : Int) == 1 then
     Option.bind (qaE (Instr.mk (IntKind.wrap IntKind.i64 (IntKind.wrap IntKind.i64 (TExpr.kind a1 - (3 : Int)) + (3 : Int))) a0 a0 (0 : Int)) [a0] y3.1 y3.2.1 y3.2.2) fun y4 =>
     some (y4.2.1, y4.2.2.1, y4.2.2.2)
    else
     Option.bind ((TExpr.args a1)[(1 : Nat)]?) fun y5 =>
     Option.bind (rec_qaD (IntKind.wrap IntKind.i64 (a0 + (1 : Int))) y5 y3.1 y3.2.1 y3.2.2) fun y6 =>
     Option.bind (qaE (Instr.mk (IntKind.wrap IntKind.i64 (IntKind.wrap IntKind.i64 (TExpr.kind a1 - (3 : Int)) + (3 : Int))) a0 a0 (IntKind.wrap IntKind.i64 (a0 + (1 : Int)))) [a0, IntKind.wrap IntKind.i64 (a0 + (1 : Int))] y6.1 y6.2.1 y6.2.2) fun y7 =>
     some (y7.2.1, y7.2.2.1, y7.2.2.2)
def qaD_i : Nat → Int → TExpr → Int → Int → List Instr → Option (Int × Int × (List Instr))
 | 0, _, _, _, _, _ => none
 | n + 1, a0, a1, a2, a3, a4 => qaD_f (qaD_i n) a0 a1 a2 a3 a4
def qaD : Int → TExpr → Int → Int → List Instr → Option (Int × Int × (List Instr)) := sealF (qaD_i fuel)
def qaC_f (rec_qaB : List TAct → Int → Int → Int → List Instr → Option (Int × Int × (List Instr))) (a0 : TAct) (a1 : Int) (a2 : Int) (a3 : Int) (a4 : Int) (a5 : List Instr) : Option (Int × Int × (List Instr)) :=
  Option.bind (qaE (Instr.mk (19 : Int) a2 (0 : Int) (0 : Int)) [a2] a3 a4 a5) fun y0 =>
  Option.bind (rec_qaB (TAct.then_ a0) a1 y0.2.1 y0.2.2.1 y0.2.2.2) fun y1 =>
  bif decide ((↑(List.length (TAct.else_ a0)) : Int) > 0) then
   Option.bind (qaE (Instr.mk (18 : Int) (0 : Int) (0 : Int) (0 : Int)) [] y1.1 y1.2.1 y1.2.2) fun y2 =>
   bif decide ((0 : Int) ≤ y0.1) && decide (y0.1 < (↑(List.length y2.2.2.2) : Int)) then
    Option.bind (y2.2.2.2[Int.toNat y0.1]?) fun y3 =>
    Option.bind (rec_qaB (TAct.else_ a0) a1 y2.2.1 y2.2.2.1 (List.set y2.2.2.2 (Int.toNat y0.1) (Instr.mk (Instr.op y3) (Instr.a y3) (↑(List.length y2.2.2.2) : Int) (Instr.c y3)))) fun y4 =>
    bif decide ((0 : Int) ≤ y2.1) && decide (y2.1 < (↑(List.length y4.2.2) : Int)) then
     Option.bind (y4.2.2[Int.toNat y2.1]?) fun y5 =>
     some (y4.1, y4.2.1, (List.set y4.2.2 (Int.toNat y2.1) (Instr.mk (Instr.op y5) (↑(List.length y4.2.2) : Int) (Instr.b y5) (Instr.c y5))))
    else
     none
   else
    none
  else
   bif decide ((0 : Int) ≤ y0.1) && decide (y0.1 < (↑(List.length y1.2.2) : Int)) then
    Option.bind (y1.2.2[Int.toNat y0.1]?) fun y6 =>
    some (y1.1, y1.2.1, (List.set y1.2.2 (Int.toNat y0.1) (Instr.mk (Instr.op y6) (Instr.a y6) (↑(List.length y1.2.2) : Int) (Instr.c y6))))
   else
    none
def qaC (rec_qaB : List TAct → Int → Int → Int → List Instr → Option (Int × Int × (List Instr))) : TAct → Int → Int → Int → Int → List Instr → Option (Int × Int × (List Instr)) := sealF (qaC_f rec_qaB)
def qaA_f (rec_qaB : List TAct → Int → Int → Int → List Instr → Option (Int × Int × (List Instr))) (a0 : TAct) (a1 : Int) (a2 : Int) (a3 : Int) (a4 : List Instr) : Option (Int × Int × (List Instr)) :=
  bif TExpr.kind (TAct.expr a0) != 0 then
   Option.bind (qaD (IntKind.wrap IntKind.i64 (a2 + a1)) (TExpr.mk (TExpr.kind (TAct.expr a0)) (TExpr.num (TAct.expr a0)) (TExpr.name (TAct.expr a0)) (TExpr.args (TAct.expr a0))) a2 a3 a4) fun y0 =>
   bif TAct.kind a0 == 1 then
    Option.bind (qaE (Instr.mk (2 : Int) (TAct.reg a0) (IntKind.wrap IntKind.i64 (a2 + a1)) (0 : Int)) [TAct.reg a0, IntKind.wrap IntKind.i64 (a2 + a1)] y0.1 y0.2.1 y0.2.2) fun y1 =>
    some (y1.2.1, y1.2.2.1, y1.2.2.2)
   else
    bif TAct.kind a0 == 2 then
     Option.bind (qaE (Instr.mk (21 : Int) (TAct.reg a0) (TAct.obj a0) (0 : Int)) [TAct.reg a0] y0.1 y0.2.1 y0.2.2) fun y2 =>
     some (y2.2.1, y2.2.2.1, y2.2.2.2)
    else
     bif TAct.kind a0 == 3 then
      Option.bind (qaE (Instr.mk (22 : Int) (TAct.obj a0) (IntKind.wrap IntKind.i64 (a2 + a1)) (0 : Int)) [IntKind.wrap IntKind.i64 (a2 + a1)] y0.1 y0.2.1 y0.2.2) fun y3 =>
      some (y3.2.1, y3.2.2.1, y3.2.2.2)
     else
      bif TAct.kind a0 == 4 then
       Option.bind (qaE (Instr.mk (23 : Int) (TAct.reg a0) (TAct.obj a0) (IntKind.wrap IntKind.i64 (a2 + a1))) [TAct.reg a0, IntKind.wrap IntKind.i64 (a2 + a1)] y0.1 y0.2.1 y0.2.2) fun y4 =>
       some (y4.2.1, y4.2.2.1, y4.2.2.2)
      else
       bif TAct.kind a0 == 5 then
        bif TAct.kind a0 == 5 then
         Option.bind (qaE (Instr.mk (IntKind.wrap IntKind.i64 (IntKind.wrap IntKind.i64 (TAct.kind a0 - (5 : Int)) + (24 : Int))) (TAct.obj a0) (0 : Int) (0 : Int)) [] y0.1 y0.2.1 y0.2.2) fun y5 =>
         some (y5.2.1, y5.2.2.1, y5.2.2.2)
        else
         bif TAct.kind a0 == 9 then
          Option.bind (qaE (Instr.mk (28 : Int) (IntKind.wrap IntKind.i64 (a2 + a1)) (0 : Int) (0 : Int)) [IntKind.wrap IntKind.i64 (a2 + a1)] y0.1 y0.2.1 y0.2.2) fun y6 =>
          some (y6.2.1, y6.2.2.1, y6.2.2.2)
         else
          bif TAct.kind a0 == 10 then
           Option.bind (qaC rec_qaB (TAct.mk (TAct.kind a0) (TAct.reg a0) (TAct.obj a0) (TExpr.mk (TExpr.kind (TAct.expr a0)) (TExpr.num (TAct.expr a0)) (TExpr.name (TAct.expr a0)) (TExpr.args (TAct.expr a0))) (TAct.count a0) (TAct.then_ a0) (TAct.else_ a0)) a1 (IntKind.wrap IntKind.i64 (a2 + a1)) y0.1 y0.2.1 y0.2.2) fun y7 =>
           some (y7.1, y7.2.1, y7.2.2)
          else
           bif TAct.kind a0 == 11 then
            bif TAct.count a0 == 0 then
             some (y0.1, y0.2.1, y0.2.2)
            else
             Option.bind (qaE (Instr.mk (1 : Int) (IntKind.wrap IntKind.i64 (a2 + a1)) (TAct.count a0) (0 : Int)) [IntKind.wrap IntKind.i64 (a2 + a1)] y0.1 y0.2.1 y0.2.2) fun y8 =>
             Option.bind (rec_qaB (TAct.then_ a0) (IntKind.wrap IntKind.i64 (a1 + (1 : Int))) y8.2.1 y8.2.2.1 y8.2.2.2) fun y9 =>
             Option.bind (qaE (Instr.mk (20 : Int) (IntKind.wrap IntKind.i64 (a2 + a1)) (IntKind.wrap IntKind.i64 (y8.1 + (1 : Int))) (0 : Int)) [IntKind.wrap IntKind.i64 (a2 + a1)] y9.1 y9.2.1 y9.2.2) fun y10 =>
             some (y10.2.1, y10.2.2.1, y10.2.2.2)
           else
            some (y0.1, y0.2.1, y0.2.2)
       else
        bif TAct.kind a0 == 6 then
         bif TAct.kind a0 == 6 then
          Option.bind (qaE (Instr.mk (IntKind.wrap IntKind.i64 (IntKind.wrap IntKind.i64 (TAct.kind a0 - (5 : Int)) + (24 : Int))) (TAct.obj a0) (0 : Int) (0 : Int)) [] y0.1 y0.2.1 y0.2.2) fun y11 =>
          some (y11.2.1, y11.2.2.1, y11.2.2.2)
         else
          bif TAct.kind a0 == 9 then
           Option.bind (qaE (Instr.mk (28 : Int) (IntKind.wrap IntKind.i64 (a2 + a1)) (0 : Int) (0 : Int)) [IntKind.wrap IntKind.i64 (a2 + a1)] y0.1 y0.2.1 y0.2.2) fun y12 =>
           some (y12.2.1, y12.2.2.1, y12.2.2.2)
          else
           bif TAct.kind a0 == 10 then
            Option.bind (qaC rec_qaB (TAct.mk (TAct.kind a0) (TAct.reg a0) (TAct.obj a0) (TExpr.mk (TExpr.kind (TAct.expr a0)) (TExpr.num (TAct.expr a0)) (TExpr.name (TAct.expr a0)) (TExpr.args (TAct.expr a0))) (TAct.count a0) (TAct.then_ a0) (TAct.else_ a0)) a1 (IntKind.wrap IntKind.i64 (a2 + a1)) y0.1 y0.2.1 y0.2.2) fun y13 =>
            some (y13.1, y13.2.1, y13.2.2)
           else
            bif TAct.kind a0 == 11 then
             bif TAct.count a0 == 0 then
              some (y0.1, y0.2.1, y0.2.2)
             else
              Option.bind (qaE (Instr.mk (1 : Int) (IntKind.wrap IntKind.i64 (a2 + a1)) (TAct.count a0) (0 : Int)) [IntKind.wrap IntKind.i64 (a2 + a1)] y0.1 y0.2.1 y0.2.2) fun y14 =>
              Option.bind (rec_qaB (TAct.then_ a0) (IntKind.wrap IntKind.i64 (a1 + (1 : Int))) y14.2.1 y14.2.2.1 y14.2.2.2) fun y15 =>
              Option.bind (qaE (Instr.mk (20 : Int) (IntKind.wrap IntKind.i64 (a2 + a1)) (IntKind.wrap IntKind.i64 (y14.1 + (1 : Int))) (0 : Int)) [IntKind.wrap IntKind.i64 (a2 + a1)] y15.1 y15.2.1 y15.2.2) fun y16 =>
              some (y16.2.1, y16.2.2.1, y16.2.2.2)
            else
             some (y0.1, y0.2.1, y0.2.2)
        else
         bif TAct.kind a0 == 7 then
          bif TAct.kind a0 == 7 then
           Option.bind (qaE (Instr.mk (IntKind.wrap IntKind.i64 (IntKind.wrap IntKind.i64 (TAct.kind a0 - (5 : Int)) + (24 : Int))) (TAct.obj a0) (0 : Int) (0 : Int)) [] y0.1 y0.2.1 y0.2.2) fun y17 =>
           some (y17.2.1, y17.2.2.1, y17.2.2.2)
          else
           bif TAct.kind a0 == 9 then
            Option.bind (qaE (Instr.mk (28 : Int) (IntKind.wrap IntKind.i64 (a2 + a1)) (0 : Int) (0 : Int)) [IntKind.wrap IntKind.i64 (a2 + a1)] y0.1 y0.2.1 y0.2.2) fun y18 =>
            some (y18.2.1, y18.2.2.1, y18.2.2.2)
           else
            bif TAct.kind a0 == 10 then
             Option.bind (qaC rec_qaB (TAct.mk (TAct.kind a0) (TAct.reg a0) (TAct.obj a0) (TExpr.mk (TExpr.kind (TAct.expr a0)) (TExpr.num (TAct.expr a0)) (TExpr.name (TAct.expr a0)) (TExpr.args (TAct.expr a0))) (TAct.count a0) (TAct.then_ a0) (TAct.else_ a0)) a1 (IntKind.wrap IntKind.i64 (a2 + a1)) y0.1 y0.2.1 y0.2.2) fun y19 =>
             some (y19.1, y19.2.1, y19.2.2)
            else
             bif TAct.kind a0 == 11 then
              bif TAct.count a0 == 0 then
               some (y0.1, y0.2.1, y0.2.2)
              else
               Option.bind (qaE (Instr.mk (1 : Int) (IntKind.wrap IntKind.i64 (a2 + a1)) (TAct.count a0) (0 : Int)) [IntKind.wrap IntKind.i64 (a2 + a1)] y0.1 y0.2.1 y0.2.2) fun y20 =>
               Option.bind (rec_qaB (TAct.then_ a0) (IntKind.wrap IntKind.i64 (a1 + (1 : Int))) y20.2.1 y20.2.2.1 y20.2.2.2) fun y21 =>
               Option.bind (qaE (Instr.mk (20 : Int) (IntKind.wrap IntKind.i64 (a2 + a1)) (IntKind.wrap IntKind.i64 (y20.1 + (1 : Int))) (0 : Int)) [IntKind.wrap IntKind.i64 (a2 + a1)] y21.1 y21.2.1 y21.2.2) fun y22 =>
               some (y22.2.1, y22.2.2.1, y22.2.2.2)
             else
              some (y0.1, y0.2.1, y0.2.2)
         else
          bif TAct.kind a0 == 8 then
           Option.bind (qaE (Instr.mk (IntKind.wrap IntKind.i64 (IntKind.wrap IntKind.i64 (TAct.kind a0 - (5 : Int)) + (24 : Int))) (TAct.obj a0) (0 : Int) (0 : Int)) [] y0.1 y0.2.1 y0.2.2) fun y23 =>
           some (y23.2.1, y23.2.2.1, y23.2.2.2)
          else
           bif TAct.kind a0 == 9 then
            Option.bind (qaE (Instr.mk (28 : Int) (IntKind.wrap IntKind.i64 (a2 + a1)) (0 : Int) (0 : Int)) [IntKind.wrap IntKind.i64 (a2 + a1)] y0.1 y0.2.1 y0.2.2) fun y24 =>
            some (y24.2.1, y24.2.2.1, y24.2.2.2)
           else
            bif TAct.kind a0 == 10 then
             Option.bind (qaC rec_qaB (TAct.mk (TAct.kind a0) (TAct.reg a0) (TAct.obj a0) (TExpr.mk (TExpr.kind (TAct.expr a0)) (TExpr.num (TAct.expr a0)) (TExpr.name (TAct.expr a0)) (TExpr.args (TAct.expr a0))) (TAct.count a0) (TAct.then_ a0) (TAct.else_ a0)) a1 (IntKind.wrap IntKind.i64 (a2 + a1)) y0.1 y0.2.1 y0.2.2) fun y25 =>
             some (y25.1, y25.2.1, y25.2.2)
            else
             bif TAct.kind a0 == 11 then
              bif TAct.count a0 == 0 then
               some (y0.1, y0.2.1, y0.2.2)
              else
               Option.bind (qaE (Instr.mk (1 : Int) (IntKind.wrap IntKind.i64 (a2 + a1)) (TAct.count a0) (0 : Int)) [IntKind.wrap IntKind.i64 (a2 + a1)] y0.1 y0.2.1 y0.2.2) fun y26 =>
               Option.bind (rec_qaB (TAct.then_ a0) (IntKind.wrap IntKind.i64 (a1 + (1 : Int))) y26.2.1 y26.2.2.1 y26.2.2.2) fun y27 =>
               Option.bind (qaE (Instr.mk (20 : Int) (IntKind.wrap IntKind.i64 (a2 + a1)) (IntKind.wrap IntKind.i64 (y26.1 + (1 : Int))) (0 : Int)) [IntKind.wrap IntKind.i64 (a2 + a1)] y27.1 y27.2.1 y27.2.2) fun y28 =>
               some (y28.2.1, y28.2.2.1, y28.2.2.2)
             else
              some (y0.1, y0.2.1, y0.2.2)
  else
   bif TAct.kind a0 == 1 then
    Option.bind (qaE (Instr.mk (2 : Int) (TAct.reg a0) (IntKind.wrap IntKind.i64 (a2 + a1)) (0 : Int)) [TAct.reg a0, IntKind.wrap IntKind.i64 (a2 + a1)] a2 a3 a4) fun y29 =>
    some (y29.2.1, y29.2.2.1, y29.2.2.2)
   else
    bif TAct.kind a0 == 2 then
     Option.bind (qaE (Instr.mk (21 : Int) (TAct.reg a0) (TAct.obj a0) (0 : Int)) [TAct.reg a0] a2 a3 a4) fun y30 =>
     some (y30.2.1, y30.2.2.1, y30.2.2.2)
    else
     bif TAct.kind a0 == 3 then
      Option.bind (qaE (Instr.mk (22 : Int) (TAct.obj a0) (IntKind.wrap IntKind.i64 (a2 + a1)) (0 : Int)) [IntKind.wrap IntKind.i64 (a2 + a1)] a2 a3 a4) fun y31 =>
      some (y31.2.1, y31.2.2.1, y31.2.2.2)
     else
      bif TAct.kind a0 == 4 then
       Option.bind (qaE (Instr.mk (23 : Int) (TAct.reg a0) (TAct.obj a0) (IntKind.wrap IntKind.i64 (a2 + a1))) [TAct.reg a0, IntKind.wrap IntKind.i64 (a2 + a1)] a2 a3 a4) fun y32 =>
       some (y32.2.1, y32.2.2.1, y32.2.2.2)
      else
       bif TAct.kind a0 == 5 then
        bif TAct.kind a0 == 5 then
         Option.bind (qaE (Instr.mk (IntKind.wrap IntKind.i64 (IntKind.wrap IntKind.i64 (TAct.kind a0 - (5 : Int)) + (24 : Int))) (TAct.obj a0) (0 : Int) (0 : Int)) [] a2 a3 a4) fun y33 =>
         some (y33.2.1, y33.2.2.1, y33.2.2.2)
        else
         bif TAct.kind a0 == 9 then
          Option.bind (qaE (Instr.mk (28 : Int) (IntKind.wrap IntKind.i64 (a2 + a1)) (0 : Int) (0 : Int)) [IntKind.wrap IntKind.i64 (a2 + a1)] a2 a3 a4) fun y34 =>
          some (y34.2.1, y34.2.2.1, y34.2.2.2)
         else
          bif TAct.kind a0 == 10 then
           Option.bind (qaC rec_qaB (TAct.mk (TAct.kind a0) (TAct.reg a0) (TAct.obj a0) (TExpr.mk (TExpr.kind (TAct.expr a0)) (TExpr.num (TAct.expr a0)) (TExpr.name (TAct.expr a0)) (TExpr.args (TAct.expr a0))) (TAct.count a0) (TAct.then_ a0) (TAct.else_ a0)) a1 (IntKind.wrap IntKind.i64 (a2 + a1)) a2 a3 a4) fun y35 =>
           some (y35.1, y35.2.1, y35.2.2)
          else
           bif TAct.kind a0 == 11 then
            bif TAct.count a0 == 0 then
             some ((a2), (a3), (a4))
            else
             Option.bind (qaE (Instr.mk (1 : Int) (IntKind.wrap IntKind.i64 (a2 + a1)) (TAct.count a0) (0 : Int)) [IntKind.wrap IntKind.i64 (a2 + a1)] a2 a3 a4) fun y36 =>
             Option.bind (rec_qaB (TAct.then_ a0) (IntKind.wrap IntKind.i64 (a1 + (1 : Int))) y36.2.1 y36.2.2.1 y36.2.2.2) fun y37 =>
             Option.bind (qaE (Instr.mk (20 : Int) (IntKind.wrap IntKind.i64 (a2 + a1)) (IntKind.wrap IntKind.i64 (y36.1 + (1 : Int))) (0 : Int)) [IntKind.wrap IntKind.i64 (a2 + a1)] y37.1 y37.2.1 y37.2.2) fun y38 =>
             some (y38.2.1, y38.2.2.1, y38.2.2.2)
           else
            some ((a2), (a3), (a4))
       else
        bif TAct.kind a0 == 6 then
         bif TAct.kind a0 == 6 then
          Option.bind (qaE (Instr.mk (IntKind.wrap IntKind.i64 (IntKind.wrap IntKind.i64 (TAct.kind a0 - (5 : Int)) + (24 : Int))) (TAct.obj a0) (0 : Int) (0 : Int)) [] a2 a3 a4) fun y39 =>
          some (y39.2.1, y39.2.2.1, y39.2.2.2)
         else
          bif TAct.kind a0 == 9 then
           Option.bind (qaE (Instr.mk (28 : Int) (IntKind.wrap IntKind.i64 (a2 + a1)) (0 : Int) (0 : Int)) [IntKind.wrap IntKind.i64 (a2 + a1)] a2 a3 a4) fun y40 =>
           some (y40.2.1, y40.2.2.1, y40.2.2.2)
          else
           bif TAct.kind a0 == 10 then
            Option.bind (qaC rec_qaB (TAct.mk (TAct.kind a0) (TAct.reg a0) (TAct.obj a0) (TExpr.mk (TExpr.kind (TAct.expr a0)) (TExpr.num (TAct.expr a0)) (TExpr.name (TAct.expr a0)) (TExpr.args (TAct.expr a0))) (TAct.count a0) (TAct.then_ a0) (TAct.else_ a0)) a1 (IntKind.wrap IntKind.i64 (a2 + a1)) a2 a3 a4) fun y41 =>
            some (y41.1, y41.2.1, y41.2.2)
           else
            bif TAct.kind a0 == 11 then
             bif TAct.count a0 == 0 then
              some ((a2), (a3), (a4))
             else
              Option.bind (qaE (Instr.mk (1 : Int) (IntKind.wrap IntKind.i64 (a2 + a1)) (TAct.count a0) (0 : Int)) [IntKind.wrap IntKind.i64 (a2 + a1)] a2 a3 a4) fun y42 =>
              Option.bind (rec_qaB (TAct.then_ a0) (IntKind.wrap IntKind.i64 (a1 + (1 : Int))) y42.2.1 y42.2.2.1 y42.2.2.2) fun y43 =>
              Option.bind (qaE (Instr.mk (20 : Int) (IntKind.wrap IntKind.i64 (a2 + a1)) (IntKind.wrap IntKind.i64 (y42.1 + (1 : Int))) (0 : Int)) [IntKind.wrap IntKind.i64 (a2 + a1)] y43.1 y43.2.1 y43.2.2) fun y44 =>
              some (y44.2.1, y44.2.2.1, y44.2.2.2)
            else
             some ((a2), (a3), (a4))
        else
         bif TAct.kind a0 == 7 then
          bif TAct.kind a0 == 7 then
           Option.bind (qaE (Instr.mk (IntKind.wrap IntKind.i64 (IntKind.wrap IntKind.i64 (TAct.kind a0 - (5 : Int)) + (24 : Int))) (TAct.obj a0) (0 : Int) (0 : Int)) [] a2 a3 a4) fun y45 =>
           some (y45.2.1, y45.2.2.1, y45.2.2.2)
          else
           bif TAct.kind a0 == 9 then
            Option.bind (qaE (Instr.mk (28 : Int) (IntKind.wrap IntKind.i64 (a2 + a1)) (0 : Int) (0 : Int)) [IntKind.wrap IntKind.i64 (a2 + a1)] a2 a3 a4) fun y46 =>
            some (y46.2.1, y46.2.2.1, y46.2.2.2)
           else
            bif TAct.kind a0 == 10 then
             Option.bind (qaC rec_qaB (TAct.mk (TAct.kind a0) (TAct.reg a0) (TAct.obj a0) (TExpr.mk (TExpr.kind (TAct.expr a0)) (TExpr.num (TAct.expr a0)) (TExpr.name (TAct.expr a0)) (TExpr.args (TAct.expr a0))) (TAct.count a0) (TAct.then_ a0) (TAct.else_ a0)) a1 (IntKind.wrap IntKind.i64 (a2 + a1)) a2 a3 a4) fun y47 =>
             some (y47.1, y47.2.1, y47.2.2)
            else
             bif TAct.kind a0 == 11 then
              bif TAct.count a0 == 0 then
               some ((a2), (a3), (a4))
              else
               Option.bind (qaE (Instr.mk (1 : Int) (IntKind.wrap IntKind.i64 (a2 + a1)) (TAct.count a0) (0 : Int)) [IntKind.wrap IntKind.i64 (a2 + a1)] a2 a3 a4) fun y48 =>
               Option.bind (rec_qaB (TAct.then_ a0) (IntKind.wrap IntKind.i64 (a1 + (1 : Int))) y48.2.1 y48.2.2.1 y48.2.2.2) fun y49 =>
               Option.bind (qaE (Instr.mk (20 : Int) (IntKind.wrap IntKind.i64 (a2 + a1)) (IntKind.wrap IntKind.i64 (y48.1 + (1 : Int))) (0 : Int)) [IntKind.wrap IntKind.i64 (a2 + a1)] y49.1 y49.2.1 y49.2.2) fun y50 =>
               some (y50.2.1, y50.2.2.1, y50.2.2.2)
             else
              some ((a2), (a3), (a4))
         else
          bif TAct.kind a0 == 8 then
           Option.bind (qaE (Instr.mk (IntKind.wrap IntKind.i64 (IntKind.wrap IntKind.i64 (TAct.kind a0 - (5 : Int)) + (24 : Int))) (TAct.obj a0) (0 : Int) (0 : Int)) [] a2 a3 a4) fun y51 =>
           some (y51.2.1, y51.2.2.1, y51.2.2.2)
          else
           bif TAct.kind a0 == 9 then
            Option.bind (qaE (Instr.mk (28 : Int) (IntKind.wrap IntKind.i64 (a2 + a1)) (0 : Int) (0 : Int)) [IntKind.wrap IntKind.i64 (a2 + a1)] a2 a3 a4) fun y52 =>
            some (y52.2.1, y52.2.2.1, y52.2.2.2)
           else
            bif TAct.kind a0 == 10 then
             Option.bind (qaC rec_qaB (TAct.mk (TAct.kind a0) (TAct.reg a0) (TAct.obj a0) (TExpr.mk (TExpr.kind (TAct.expr a0)) (TExpr.num (TAct.expr a0)) (TExpr.name (TAct.expr a0)) (TExpr.args (TAct.expr a0))) (TAct.count a0) (TAct.then_ a0) (TAct.else_ a0)) a1 (IntKind.wrap IntKind.i64 (a2 + a1)) a2 a3 a4) fun y53 =>
             some (y53.1, y53.2.1, y53.2.2)
            else
             bif TAct.kind a0 == 11 then
              bif TAct.count a0 == 0 then
               some ((a2), (a3), (a4))
              else
               Option.bind (qaE (Instr.mk (1 : Int) (IntKind.wrap IntKind.i64 (a2 + a1)) (TAct.count a0) (0 : Int)) [IntKind.wrap IntKind.i64 (a2 + a1)] a2 a3 a4) fun y54 =>
               Option.bind (rec_qaB (TAct.then_ a0) (IntKind.wrap IntKind.i64 (a1 + (1 : Int))) y54.2.1 y54.2.2.1 y54.2.2.2) fun y55 =>
               Option.bind (qaE (Instr.mk (20 : Int) (IntKind.wrap IntKind.i64 (a2 + a1)) (IntKind.wrap IntKind.i64 (y54.1 + (1 : Int))) (0 : Int)) [IntKind.wrap IntKind.i64 (a2 + a1)] y55.1 y55.2.1 y55.2.2) fun y56 =>
               some (y56.2.1, y56.2.2.1, y56.2.2.2)
             else
              some ((a2), (a3), (a4))
def qaA (rec_qaB : List TAct → Int → Int → Int → List Instr → Option (Int × Int × (List Instr))) : TAct → Int → Int → Int → List Instr → Option (Int × Int × (List Instr)) := sealF (qaA_f rec_qaB)
def qaB_t1 (rec_qaB : List TAct → Int → Int → Int → List Instr → Option (Int × Int × (List Instr))) (rec : Int → List TAct → Int → Int → Int → Int → List Instr → Option (Int × Int × (List Instr))) (a0 : Int) (a1 : List TAct) (a2 : Int) (a3 : Int) (a4 : Int) (a5 : Int) (a6 : List Instr) : Option (Int × Int × (List Instr)) :=
  bif decide (a3 < a2) then
   bif decide (0 ≤ a3) then
    Option.bind (a1[Int.toNat a3]?) fun y0 =>
    Option.bind (qaA rec_qaB (TAct.mk (TAct.kind y0) (TAct.reg y0) (TAct.obj y0) (TExpr.mk (TExpr.kind (TAct.expr y0)) (TExpr.num (TAct.expr y0)) (TExpr.name (TAct.expr y0)) (TExpr.args (TAct.expr y0))) (TAct.count y0) (TAct.then_ y0) (TAct.else_ y0)) a0 a4 a5 a6) fun y1 =>
    rec (a0) (a1) (a2) (IntKind.wrap IntKind.i64 (a3 + (1 : Int))) y1.1 y1.2.1 y1.2.2
   else
    none
  else
   some ((a4), (a5), (a6))
def qaB_i1 (rec_qaB : List TAct → Int → Int → Int → List Instr → Option (Int × Int × (List Instr))) : Nat → Int → List TAct → Int → Int → Int → Int → List Instr → Option (Int × Int × (List Instr))
 | 0, _, _, _, _, _, _, _ => none
 | n + 1, a0, a1, a2, a3, a4, a5, a6 => qaB_t1 rec_qaB (qaB_i1 rec_qaB n) a0 a1 a2 a3 a4 a5 a6
def qaB_l1 (rec_qaB : List TAct → Int → Int → Int → List Instr → Option (Int × Int × (List Instr))) : Int → List TAct → Int → Int → Int → Int → List Instr → Option (Int × Int × (List Instr)) := sealF (qaB_i1 rec_qaB fuel)
def qaB_f (rec_qaB : List TAct → Int → Int → Int → List Instr → Option (Int × Int × (List Instr))) (a0 : List TAct) (a1 : Int) (a2 : Int) (a3 : Int) (a4 : List Instr) : Option (Int × Int × (List Instr)) :=
  Option.bind (qaB_l1 rec_qaB a1 a0 (↑(List.length a0) : Int) (0 : Int) a2 a3 a4) fun y0 =>
  some (y0.1, y0.2.1, y0.2.2)
def qaB_i : Nat → List TAct → Int → Int → Int → List Instr → Option (Int × Int × (List Instr))
 | 0, _, _, _, _, _ => none
 | n + 1, a0, a1, a2, a3, a4 => qaB_f (qaB_i n) a0 a1 a2 a3 a4
def qaB : List TAct → Int → Int → Int → List Instr → Option (Int × Int × (List Instr)) := sealF (qaB_i fuel)
def qbb_f (a0 : List Instr) : Option ((List Instr)) :=
  bif decide ((↑(List.length a0) : Int) = (↑(List.length a0) : Int)) && decide ((↑(List.length a0) : Int) = (↑(List.length a0) : Int)) then
   some (a0)
  else
   none
def qbb : List Instr → Option ((List Instr)) := sealF (qbb_f)
def qaz_t5 (rec : List TBody → Int → Int → Int → Int → List Int → List ACode → Option (Int × Int × (List Int) × (List ACode))) (a0 : List TBody) (a1 : Int) (a2 : Int) (a3 : Int) (a4 : Int) (a5 : List Int) (a6 : List ACode) : Option (Int × Int × (List Int) × (List ACode)) :=
  bif decide (a2 < a1) then
   bif decide (0 ≤ a2) then
    Option.bind (a0[Int.toNat a2]?) fun y0 =>
    Option.bind (qaB (TBody.acts y0) (0 : Int) (TBody.regs y0) (TBody.regs y0) []) fun y1 =>
    Option.bind (qaE (Instr.mk (29 : Int) (0 : Int) (0 : Int) (0 : Int)) [] y1.1 y1.2.1 y1.2.2) fun y2 =>
    Option.bind (qbb y2.2.2.2) fun y3 =>
    bif decide ((List.length a6 + List.length [ACode.mk y2.2.2.1 y3]) * (32 : Nat) ≤ (140737488355328 : Nat) ∧ List.length a6 + List.length [ACode.mk y2.2.2.1 y3] ≤ (9223372036854775807 : Nat)) then
     rec (a0) (a1) (IntKind.wrap IntKind.i64 (a2 + (1 : Int))) (a3) (a4) (a5) (a6 ++ [ACode.mk y2.2.2.1 y3])
    else
     none
   else
    none
  else
   some ((a3), (a4), (a5), (a6))
def qaz_i5 : Nat → List TBody → Int → Int → Int → Int → List Int → List ACode → Option (Int × Int × (List Int) × (List ACode))
 | 0, _, _, _, _, _, _, _ => none
 | n + 1, a0, a1, a2, a3, a4, a5, a6 => qaz_t5 (qaz_i5 n) a0 a1 a2 a3 a4 a5 a6
def qaz_l5 : List TBody → Int → Int → Int → Int → List Int → List ACode → Option (Int × Int × (List Int) × (List ACode)) := sealF (qaz_i5 fuel)
def qaz_f (a0 : TUnit) : Option (Int × Int × (List Int) × (List ACode)) :=
  Option.bind (qal (TUnit.mk (TUnit.cells a0) (TUnit.mutexes a0) (TUnit.threads a0))) fun y0 =>
  bif !y0 then
   some (((0 : Int)), ((1 : Int)), ([]), ([]))
  else
   Option.bind (qbe (TUnit.cells a0)) fun y1 =>
   Option.bind (qbc y1) fun y2 =>
   Option.bind (qaz_l5 (TUnit.threads a0) (↑(List.length (TUnit.threads a0)) : Int) (0 : Int) (0 : Int) (TUnit.mutexes a0) y2 []) fun y3 =>
   some (y3.2.1, ((0 : Int)), y3.2.2.1, y3.2.2.2)
def qaz : TUnit → Option (Int × Int × (List Int) × (List ACode)) := sealF (qaz_f)
def qaG_f : Option (Bool) :=
  Option.bind (qaz (TUnit.mk [] (1 : Int) [TBody.mk (0 : Int) [TAct.mk (11 : Int) (0 : Int) (0 : Int) (TExpr.mk (0 : Int) (0 : Int) [] []) (3 : Int) [TAct.mk (11 : Int) (0 : Int) (0 : Int) (TExpr.mk (0 : Int) (0 : Int) [] []) (2 : Int) [TAct.mk (5 : Int) (0 : Int) (0 : Int) (TExpr.mk (0 : Int) (0 : Int) [] []) (0 : Int) [] []] []] []]])) fun y0 =>
  bif y0.2.1 != 0 then
   some (false)
  else
   bif (↑(List.length y0.2.2.2) : Int) != 1 then
    some (false)
   else
    bif decide ((0 : Int) ≤ (0 : Int)) && decide ((0 : Int) < (↑(List.length y0.2.2.2) : Int)) then
     Option.bind (y0.2.2.2[(0 : Nat)]?) fun y1 =>
     bif (↑(List.length (ACode.instrs y1)) : Int) != 6 then
      some (false)
     else
      bif decide ((0 : Int) ≤ (0 : Int)) && decide ((0 : Int) < (↑(List.length y0.2.2.2) : Int)) then
       bif decide ((0 : Int) ≤ (0 : Int)) && decide ((0 : Int) < (↑(List.length y0.2.2.2) : Int)) then
        bif ACode.regs y1 == 2 then
         bif decide ((0 : Int) ≤ (0 : Int)) && decide ((0 : Int) < (↑(List.length (ACode.instrs y1)) : Int)) then
          Option.bind ((ACode.instrs y1)[(0 : Nat)]?) fun y2 =>
          bif decide (y2 = Instr.mk (1 : Int) (0 : Int) (3 : Int) (0 : Int)) then
           bif decide ((0 : Int) ≤ (3 : Int)) && decide ((3 : Int) < (↑(List.length (ACode.instrs y1)) : Int)) then
            Option.bind ((ACode.instrs y1)[(3 : Nat)]?) fun y3 =>
            bif decide (y3 = Instr.mk (20 : Int) (1 : Int) (2 : Int) (0 : Int)) then
             bif decide ((0 : Int) ≤ (4 : Int)) && decide ((4 : Int) < (↑(List.length (ACode.instrs y1)) : Int)) then
              Option.bind ((ACode.instrs y1)[(4 : Nat)]?) fun y4 =>
              bif decide (y4 = Instr.mk (20 : Int) (0 : Int) (1 : Int) (0 : Int)) then
               bif decide ((0 : Int) ≤ (5 : Int)) && decide ((5 : Int) < (↑(List.length (ACode.instrs y1)) : Int)) then
                Option.bind ((ACode.instrs y1)[(5 : Nat)]?) fun y5 =>
                some (decide (y5 = Instr.mk (29 : Int) (0 : Int) (0 : Int) (0 : Int)))
               else
                none
              else
               some (false)
             else
              none
            else
             some (false)
           else
            none
          else
           some (false)
         else
          none
        else
         some (false)
       else
        none
      else
       none
    else
     none
def qaG : Option (Bool) := sealF (qaG_f)
def qaL_f (a0 : Int) : Option (Bool × Bool × Bool × Bool × Bool × Bool) :=
  bif a0 == 1 then
   some ((true), (false), (true), (false), (false), (false))
  else
   bif a0 == 2 then
    some ((true), (true), (false), (false), (false), (false))
   else
    bif a0 == 3 then
     some ((false), (true), (true), (false), (false), (false))
    else
     bif a0 == 4 then
      some ((true), (true), (true), (false), (false), (false))
     else
      bif a0 == 5 then
       bif a0 == 5 then
        some ((false), (true), (false), (false), (false), (false))
       else
        bif a0 == 9 then
         some ((false), (false), (true), (false), (false), (false))
        else
         bif a0 == 10 then
          some ((false), (false), (true), (false), (true), (true))
         else
          bif a0 == 11 then
           some ((false), (false), (false), (true), (true), (false))
          else
           some ((false), (false), (false), (false), (false), (false))
      else
       bif a0 == 6 then
        bif a0 == 6 then
         some ((false), (true), (false), (false), (false), (false))
        else
         bif a0 == 9 then
          some ((false), (false), (true), (false), (false), (false))
         else
          bif a0 == 10 then
           some ((false), (false), (true), (false), (true), (true))
          else
           bif a0 == 11 then
            some ((false), (false), (false), (true), (true), (false))
           else
            some ((false), (false), (false), (false), (false), (false))
       else
        bif a0 == 7 then
         bif a0 == 7 then
          some ((false), (true), (false), (false), (false), (false))
         else
          bif a0 == 9 then
           some ((false), (false), (true), (false), (false), (false))
          else
           bif a0 == 10 then
            some ((false), (false), (true), (false), (true), (true))
           else
            bif a0 == 11 then
             some ((false), (false), (false), (true), (true), (false))
            else
             some ((false), (false), (false), (false), (false), (false))
        else
         bif a0 == 8 then
          some ((false), (true), (false), (false), (false), (false))
         else
          bif a0 == 9 then
           some ((false), (false), (true), (false), (false), (false))
          else
           bif a0 == 10 then
            some ((false), (false), (true), (false), (true), (true))
           else
            bif a0 == 11 then
             some ((false), (false), (false), (true), (true), (false))
            else
             some ((false), (false), (false), (false), (false), (false))
def qaL : Int → Option (Bool × Bool × Bool × Bool × Bool × Bool) := sealF (qaL_f)
def qaU_t13 (rec_qaU : TExpr → Int → Option (Bool)) (rec : Int → Int → Int → Int → List UInt8 → List TExpr → Option ((Bool) ⊕ (Unit))) (a0 : Int) (a1 : Int) (a2 : Int) (a3 : Int) (a4 : List UInt8) (a5 : List TExpr) : Option ((Bool) ⊕ (Unit)) :=
  bif decide (a1 < (↑(List.length a5) : Int)) then
   bif decide (0 ≤ a1) then
    Option.bind (a5[Int.toNat a1]?) fun y0 =>
    Option.bind (rec_qaU y0 a0) fun y1 =>
    bif !y1 then
     some (.inl (false))
    else
     rec (a0) (IntKind.wrap IntKind.i64 (a1 + (1 : Int))) (a2) (a3) (a4) (a5)
   else
    none
  else
   some (.inr ())
def qaU_i13 (rec_qaU : TExpr → Int → Option (Bool)) : Nat → Int → Int → Int → Int → List UInt8 → List TExpr → Option ((Bool) ⊕ (Unit))
 | 0, _, _, _, _, _, _ => none
 | n + 1, a0, a1, a2, a3, a4, a5 => qaU_t13 rec_qaU (qaU_i13 rec_qaU n) a0 a1 a2 a3 a4 a5
def qaU_l13 (rec_qaU : TExpr → Int → Option (Bool)) : Int → Int → Int → Int → List UInt8 → List TExpr → Option ((Bool) ⊕ (Unit)) := sealF (qaU_i13 rec_qaU fuel)
def qaU_f (rec_qaU : TExpr → Int → Option (Bool)) (a0 : TExpr) (a1 : Int) : Option (Bool) :=
  bif TExpr.kind a0 == 1 then
   Option.bind (α := Bool) (
     bif decide (TExpr.num a0 ≥ 0) then
      some (decide (TExpr.num a0 ≤ 2147483647))
     else
      some (false)) fun y0 =>
   Option.bind (α := Bool) (
     bif y0 then
      some (TExpr.name a0 == [])
     else
      some (false)) fun y1 =>
   Option.bind (α := Bool) (
     bif y1 then
      some ((↑(List.length (TExpr.args a0)) : Int) == 0)
     else
      some (false)) fun y2 =>
   some (y2)
  else
   bif TExpr.kind a0 == 2 then
    Option.bind (α := Bool) (
      bif decide (TExpr.num a0 ≥ 0) then
       some (decide (TExpr.num a0 < a1))
      else
       some (false)) fun y3 =>
    Option.bind (α := Bool) (
      bif y3 then
       some (TExpr.name a0 == [])
      else
       some (false)) fun y4 =>
    Option.bind (α := Bool) (
      bif y4 then
       some ((↑(List.length (TExpr.args a0)) : Int) == 0)
      else
       some (false)) fun y5 =>
    some (y5)
   else
    bif TExpr.kind a0 == 3 then
     bif TExpr.kind a0 == 3 then
      Option.bind (α := Bool) (
        bif decide (TExpr.kind a0 < 1) then
         some (true)
        else
         some (decide (TExpr.kind a0 > 17))) fun y6 =>
      Option.bind (α := Bool) (
        bif y6 then
         some (true)
        else
         some (TExpr.num a0 != 0)) fun y7 =>
      Option.bind (α := Bool) (
        bif y7 then
         some (true)
        else
         some (!TExpr.name a0 == [])) fun y8 =>
      Option.bind (α := Bool) (
        bif y8 then
         some (true)
        else
         some ((↑(List.length (TExpr.args a0)) : Int) != 1)) fun y9 =>
      bif y9 then
       some (false)
      else
       Option.bind (qaU_l13 rec_qaU a1 (0 : Int) (TExpr.kind a0) (TExpr.num a0) (TExpr.name a0) (TExpr.args a0)) fun y10 =>
       match y10 with
       | .inl y11 =>
        some (y11)
       | .inr y11 =>
        some (true)
     else
      Option.bind (α := Bool) (
        bif decide (TExpr.kind a0 < 1) then
         some (true)
        else
         some (decide (TExpr.kind a0 > 17))) fun y12 =>
      Option.bind (α := Bool) (
        bif y12 then
         some (true)
        else
         some (TExpr.num a0 != 0)) fun y13 =>
      Option.bind (α := Bool) (
        bif y13 then
         some (true)
        else
         some (!TExpr.name a0 == [])) fun y14 =>
      Option.bind (α := Bool) (
        bif y14 then
         some (true)
        else
         some ((↑(List.length (TExpr.args a0)) : Int) != 2)) fun y15 =>
      bif y15 then
       some (false)
      else
       Option.bind (qaU_l13 rec_qaU a1 (0 : Int) (TExpr.kind a0) (TExpr.num a0) (TExpr.name a0) (TExpr.args a0)) fun y16 =>
       match y16 with
       | .inl y17 =>
        some (y17)
       | .inr y17 =>
        some (true)
    else
     bif TExpr.kind a0 == 4 then
      Option.bind (α := Bool) (
        bif decide (TExpr.kind a0 < 1) then
         some (true)
        else
         some (decide (TExpr.kind a0 > 17))) fun y18 =>
      Option.bind (α := Bool) (
        bif y18 then
         some (true)
        else
         some (TExpr.num a0 != 0)) fun y19 =>
      Option.bind (α := Bool) (
        bif y19 then
         some (true)
        else
         some (!TExpr.name a0 == [])) fun y20 =>
      Option.bind (α := Bool) (
        bif y20 then
         some (true)
        else
         some ((↑(List.length (TExpr.args a0)) : Int) != 1)) fun y21 =>
      bif y21 then
       some (false)
      else
       Option.bind (qaU_l13 rec_qaU a1 (0 : Int) (TExpr.kind a0) (TExpr.num a0) (TExpr.name a0) (TExpr.args a0)) fun y22 =>
       match y22 with
       | .inl y23 =>
        some (y23)
       | .inr y23 =>
        some (true)
     else
      Option.bind (α := Bool) (
        bif decide (TExpr.kind a0 < 1) then
         some (true)
        else
         some (decide (TExpr.kind a0 > 17))) fun y24 =>
      Option.bind (α := Bool) (
        bif y24 then
         some (true)
        else
         some (TExpr.num a0 != 0)) fun y25 =>
      Option.bind (α := Bool) (
        bif y25 then
         some (true)
        else
         some (!TExpr.name a0 == [])) fun y26 =>
      Option.bind (α := Bool) (
        bif y26 then
         some (true)
        else
         some ((↑(List.length (TExpr.args a0)) : Int) != 2)) fun y27 =>
      bif y27 then
       some (false)
      else
       Option.bind (qaU_l13 rec_qaU a1 (0 : Int) (TExpr.kind a0) (TExpr.num a0) (TExpr.name a0) (TExpr.args a0)) fun y28 =>
       match y28 with
       | .inl y29 =>
        some (y29)
       | .inr y29 =>
        some (true)
def qaU_i : Nat → TExpr → Int → Option (Bool)
 | 0, _, _ => none
 | n + 1, a0, a1 => qaU_f (qaU_i n) a0 a1
def qaU : TExpr → Int → Option (Bool) := sealF (qaU_i fuel)
def qaM_f (a0 : TExpr) : Option (Bool) :=
  Option.bind (α := Bool) (
    bif TExpr.kind a0 == 0 then
     some (TExpr.num a0 == 0)
    else
     some (false)) fun y0 =>
  Option.bind (α := Bool) (
    bif y0 then
     some (TExpr.name a0 == [])
    else
     some (false)) fun y1 =>
  Option.bind (α := Bool) (
    bif y1 then
     some ((↑(List.length (TExpr.args a0)) : Int) == 0)
    else
     some (false)) fun y2 =>
  some (y2)
def qaM : TExpr → Option (Bool) := sealF (qaM_f)
def qaV_f (a0 : Int) (a1 : TUnit) : Option (Int) :=
  bif a0 == 2 then
   bif a0 == 2 then
    some ((↑(List.length (TUnit.cells a1)) : Int))
   else
    bif a0 == 5 then
     bif a0 == 5 then
      some (TUnit.mutexes a1)
     else
      some ((↑(List.length (TUnit.threads a1)) : Int))
    else
     bif a0 == 6 then
      some (TUnit.mutexes a1)
     else
      some ((↑(List.length (TUnit.threads a1)) : Int))
  else
   bif a0 == 3 then
    bif a0 == 3 then
     some ((↑(List.length (TUnit.cells a1)) : Int))
    else
     bif a0 == 5 then
      bif a0 == 5 then
       some (TUnit.mutexes a1)
      else
       some ((↑(List.length (TUnit.threads a1)) : Int))
     else
      bif a0 == 6 then
       some (TUnit.mutexes a1)
      else
       some ((↑(List.length (TUnit.threads a1)) : Int))
   else
    bif a0 == 4 then
     some ((↑(List.length (TUnit.cells a1)) : Int))
    else
     bif a0 == 5 then
      bif a0 == 5 then
       some (TUnit.mutexes a1)
      else
       some ((↑(List.length (TUnit.threads a1)) : Int))
     else
      bif a0 == 6 then
       some (TUnit.mutexes a1)
      else
       some ((↑(List.length (TUnit.threads a1)) : Int))
def qaV : Int → TUnit → Option (Int) := sealF (qaV_f)
def qaS_f (rec_qaT : List TAct → Int → TUnit → Option (Bool)) (a0 : TAct) (a1 : Int) (a2 : TUnit) : Option (Bool) :=
  Option.bind (α := Bool) (
    bif decide (TAct.kind a0 < 1) then
     some (true)
    else
     some (decide (TAct.kind a0 > 11))) fun y0 =>
  bif y0 then
   some (false)
  else
   Option.bind (qaL (TAct.kind a0)) fun y1 =>
   Option.bind (qaU (TExpr.mk (TExpr.kind (TAct.expr a0)) (TExpr.num (TAct.expr a0)) (TExpr.name (TAct.expr a0)) (TExpr.args (TAct.expr a0))) a1) fun y2 =>
   Option.bind (qaM (TExpr.mk (TExpr.kind (TAct.expr a0)) (TExpr.num (TAct.expr a0)) (TExpr.name (TAct.expr a0)) (TExpr.args (TAct.expr a0)))) fun y3 =>
   Option.bind (qaV (TAct.kind a0) (TUnit.mk (TUnit.cells a2) (TUnit.mutexes a2) (TUnit.threads a2))) fun y4 =>
   Option.bind (α := Bool) (
     bif y1.1 then
      Option.bind (α := Bool) (
        bif decide (TAct.reg a0 < 0) then
         some (true)
        else
         some (decide (TAct.reg a0 ≥ a1))) fun y5 =>
      some (y5)
     else
      some (false)) fun y6 =>
   Option.bind (α := Bool) (
     bif y6 then
      some (true)
     else
      Option.bind (α := Bool) (
        bif !y1.1 then
         some (TAct.reg a0 != 0)
        else
         some (false)) fun y7 =>
      some (y7)) fun y8 =>
   Option.bind (α := Bool) (
     bif y8 then
      some (true)
     else
      Option.bind (α := Bool) (
        bif y1.2.1 then
         Option.bind (α := Bool) (
           bif decide (TAct.obj a0 < 0) then
            some (true)
           else
            some (decide (TAct.obj a0 ≥ y4))) fun y9 =>
         some (y9)
        else
         some (false)) fun y10 =>
      some (y10)) fun y11 =>
   Option.bind (α := Bool) (
     bif y11 then
      some (true)
     else
      Option.bind (α := Bool) (
        bif !y1.2.1 then
         some (TAct.obj a0 != 0)
        else
         some (false)) fun y12 =>
      some (y12)) fun y13 =>
   Option.bind (α := Bool) (
     bif y13 then
      some (true)
     else
      Option.bind (α := Bool) (
        bif y1.2.2.1 then
         some (!y2)
        else
         some (false)) fun y14 =>
      some (y14)) fun y15 =>
   Option.bind (α := Bool) (
     bif y15 then
      some (true)
     else
      Option.bind (α := Bool) (
        bif !y1.2.2.1 then
         some (!y3)
        else
         some (false)) fun y16 =>
      some (y16)) fun y17 =>
   bif y17 then
    some (false)
   else
    Option.bind (α := Bool) (
      bif y1.2.2.2.1 then
       Option.bind (α := Bool) (
         bif decide (TAct.count a0 < 0) then
          some (true)
         else
          some (decide (TAct.count a0 > 1000))) fun y18 =>
       some (y18)
      else
       some (false)) fun y19 =>
    Option.bind (α := Bool) (
      bif y19 then
       some (true)
      else
       Option.bind (α := Bool) (
         bif !y1.2.2.2.1 then
          some (TAct.count a0 != 0)
         else
          some (false)) fun y20 =>
       some (y20)) fun y21 =>
    Option.bind (α := Bool) (
      bif y21 then
       some (true)
      else
       Option.bind (α := Bool) (
         bif !y1.2.2.2.2.1 then
          some (decide ((↑(List.length (TAct.then_ a0)) : Int) > 0))
         else
          some (false)) fun y22 =>
       some (y22)) fun y23 =>
    Option.bind (α := Bool) (
      bif y23 then
       some (true)
      else
       Option.bind (α := Bool) (
         bif !y1.2.2.2.2.2 then
          some (decide ((↑(List.length (TAct.else_ a0)) : Int) > 0))
         else
          some (false)) fun y24 =>
       some (y24)) fun y25 =>
    bif y25 then
     some (false)
    else
     Option.bind (rec_qaT (TAct.then_ a0) a1 (TUnit.mk (TUnit.cells a2) (TUnit.mutexes a2) (TUnit.threads a2))) fun y26 =>
     Option.bind (rec_qaT (TAct.else_ a0) a1 (TUnit.mk (TUnit.cells a2) (TUnit.mutexes a2) (TUnit.threads a2))) fun y27 =>
     Option.bind (α := Bool) (
       bif y26 then
        some (y27)
       else
        some (false)) fun y28 =>
     some (y28)
def qaS (rec_qaT : List TAct → Int → TUnit → Option (Bool)) : TAct → Int → TUnit → Option (Bool) := sealF (qaS_f rec_qaT)
def qaT_t2 (rec_qaT : List TAct → Int → TUnit → Option (Bool)) (rec : List TAct → Int → Int → List Int → Int → List TBody → Option ((Bool) ⊕ (Unit))) (a0 : List TAct) (a1 : Int) (a2 : Int) (a3 : List Int) (a4 : Int) (a5 : List TBody) : Option ((Bool) ⊕ (Unit)) :=
  bif decide (a2 < (↑(List.length a0) : Int)) then
   bif decide (0 ≤ a2) then
    Option.bind (a0[Int.toNat a2]?) fun y0 =>
    Option.bind (qaS rec_qaT y0 a1 (TUnit.mk a3 a4 a5)) fun y1 =>
    bif !y1 then
     some (.inl (false))
    else
     rec (a0) (a1) (IntKind.wrap IntKind.i64 (a2 + (1 : Int))) (a3) (a4) (a5)
   else
    none
  else
   some (.inr ())
def qaT_i2 (rec_qaT : List TAct → Int → TUnit → Option (Bool)) : Nat → List TAct → Int → Int → List Int → Int → List TBody → Option ((Bool) ⊕ (Unit))
 | 0, _, _, _, _, _, _ => none
 | n + 1, a0, a1, a2, a3, a4, a5 => qaT_t2 rec_qaT (qaT_i2 rec_qaT n) a0 a1 a2 a3 a4 a5
def qaT_l2 (rec_qaT : List TAct → Int → TUnit → Option (Bool)) : List TAct → Int → Int → List Int → Int → List TBody → Option ((Bool) ⊕ (Unit)) := sealF (qaT_i2 rec_qaT fuel)
def qaT_f (rec_qaT : List TAct → Int → TUnit → Option (Bool)) (a0 : List TAct) (a1 : Int) (a2 : TUnit) : Option (Bool) :=
  Option.bind (qaT_l2 rec_qaT a0 a1 (0 : Int) (TUnit.cells a2) (TUnit.mutexes a2) (TUnit.threads a2)) fun y0 =>
  match y0 with
  | .inl y1 =>
   some (y1)
  | .inr y1 =>
   some (true)
def qaT_i : Nat → List TAct → Int → TUnit → Option (Bool)
 | 0, _, _, _ => none
 | n + 1, a0, a1, a2 => qaT_f (qaT_i n) a0 a1 a2
def qaT : List TAct → Int → TUnit → Option (Bool) := sealF (qaT_i fuel)
def qaQ_t3 (rec_qaQ : List TAct → Option ((List TStmt))) (rec : List TAct → Int → List TStmt → Option ((List TStmt))) (a0 : List TAct) (a1 : Int) (a2 : List TStmt) : Option ((List TStmt)) :=
  bif decide (a1 < (↑(List.length a0) : Int)) then
   bif decide (0 ≤ a1) then
    Option.bind (a0[Int.toNat a1]?) fun y0 =>
    Option.bind (rec_qaQ (TAct.then_ y0)) fun y1 =>
    bif decide (0 ≤ a1) then
     Option.bind (a0[Int.toNat a1]?) fun y2 =>
     Option.bind (rec_qaQ (TAct.else_ y2)) fun y3 =>
     bif decide (0 ≤ a1) then
      Option.bind (a0[Int.toNat a1]?) fun y4 =>
      bif decide (0 ≤ a1) then
       Option.bind (a0[Int.toNat a1]?) fun y5 =>
       bif decide ((List.length a2 + List.length [TStmt.mk (TAct.kind y4) [] [] (TExpr.mk (TExpr.kind (TAct.expr y5)) (TExpr.num (TAct.expr y5)) (TExpr.name (TAct.expr y5)) (TExpr.args (TAct.expr y5))) (0 : Int) y1 y3]) * (152 : Nat) ≤ (140737488355328 : Nat) ∧ List.length a2 + List.length [TStmt.mk (TAct.kind y4) [] [] (TExpr.mk (TExpr.kind (TAct.expr y5)) (TExpr.num (TAct.expr y5)) (TExpr.name (TAct.expr y5)) (TExpr.args (TAct.expr y5))) (0 : Int) y1 y3] ≤ (9223372036854775807 : Nat)) then
        rec (a0) (IntKind.wrap IntKind.i64 (a1 + (1 : Int))) (a2 ++ [TStmt.mk (TAct.kind y4) [] [] (TExpr.mk (TExpr.kind (TAct.expr y5)) (TExpr.num (TAct.expr y5)) (TExpr.name (TAct.expr y5)) (TExpr.args (TAct.expr y5))) (0 : Int) y1 y3])
       else
        none
      else
       none
     else
      none
    else
     none
   else
    none
  else
   some (a2)
def qaQ_i3 (rec_qaQ : List TAct → Option ((List TStmt))) : Nat → List TAct → Int → List TStmt → Option ((List TStmt))
 | 0, _, _, _ => none
 | n + 1, a0, a1, a2 => qaQ_t3 rec_qaQ (qaQ_i3 rec_qaQ n) a0 a1 a2
def qaQ_l3 (rec_qaQ : List TAct → Option ((List TStmt))) : List TAct → Int → List TStmt → Option ((List TStmt)) := sealF (qaQ_i3 rec_qaQ fuel)
def qaQ_f (rec_qaQ : List TAct → Option ((List TStmt))) (a0 : List TAct) : Option ((List TStmt)) :=
  Option.bind (qaQ_l3 rec_qaQ a0 (0 : Int) []) fun y0 =>
  some (y0)
def qaQ_i : Nat → List TAct → Option ((List TStmt))
 | 0, _ => none
 | n + 1, a0 => qaQ_f (qaQ_i n) a0
def qaQ : List TAct → Option ((List TStmt)) := sealF (qaQ_i fuel)
def qaP_f (a0 : TExpr) : Option (Bool) :=
  Option.bind (α := Bool) (
    bif TExpr.kind a0 != 0 then
     some (true)
    else
     some (decide ((↑(List.length (TExpr.args a0)) : Int) > 0))) fun y0 =>
  some (y0)
def qaP : TExpr → Option (Bool) := sealF (qaP_f)
def qaK_t3 (rec_qaK : TExpr → Option (Int)) (rec : Int → Int → Int → Int → List UInt8 → List TExpr → Option (Int)) (a0 : Int) (a1 : Int) (a2 : Int) (a3 : Int) (a4 : List UInt8) (a5 : List TExpr) : Option (Int) :=
  bif decide (a1 < (↑(List.length a5) : Int)) then
   bif decide (0 ≤ a1) then
    Option.bind (a5[Int.toNat a1]?) fun y0 =>
    Option.bind (rec_qaK y0) fun y1 =>
    rec (if y1 > a0 then y1 else a0) (IntKind.wrap IntKind.i64 (a1 + (1 : Int))) (a2) (a3) (a4) (a5)
   else
    none
  else
   some (a0)
def qaK_i3 (rec_qaK : TExpr → Option (Int)) : Nat → Int → Int → Int → Int → List UInt8 → List TExpr → Option (Int)
 | 0, _, _, _, _, _, _ => none
 | n + 1, a0, a1, a2, a3, a4, a5 => qaK_t3 rec_qaK (qaK_i3 rec_qaK n) a0 a1 a2 a3 a4 a5
def qaK_l3 (rec_qaK : TExpr → Option (Int)) : Int → Int → Int → Int → List UInt8 → List TExpr → Option (Int) := sealF (qaK_i3 rec_qaK fuel)
def qaK_f (rec_qaK : TExpr → Option (Int)) (a0 : TExpr) : Option (Int) :=
  Option.bind (qaK_l3 rec_qaK (0 : Int) (0 : Int) (TExpr.kind a0) (TExpr.num a0) (TExpr.name a0) (TExpr.args a0)) fun y0 =>
  some (IntKind.wrap IntKind.i64 (y0 + (1 : Int)))
def qaK_i : Nat → TExpr → Option (Int)
 | 0, _ => none
 | n + 1, a0 => qaK_f (qaK_i n) a0
def qaK : TExpr → Option (Int) := sealF (qaK_i fuel)
def qaO_t3 (rec_qaO : List TStmt → Int → Option (Int)) (rec : List TStmt → Int → Int → Int → Option (Int)) (a0 : List TStmt) (a1 : Int) (a2 : Int) (a3 : Int) : Option (Int) :=
  bif decide (a3 < (↑(List.length a0) : Int)) then
   bif decide (0 ≤ a3) then
    Option.bind (a0[Int.toNat a3]?) fun y0 =>
    Option.bind (qaP (TExpr.mk (TExpr.kind (TStmt.expr y0)) (TExpr.num (TStmt.expr y0)) (TExpr.name (TStmt.expr y0)) (TExpr.args (TStmt.expr y0)))) fun y1 =>
    bif y1 then
     bif decide (0 ≤ a3) then
      Option.bind (a0[Int.toNat a3]?) fun y2 =>
      Option.bind (qaK (TExpr.mk (TExpr.kind (TStmt.expr y2)) (TExpr.num (TStmt.expr y2)) (TExpr.name (TStmt.expr y2)) (TExpr.args (TStmt.expr y2)))) fun y3 =>
      bif decide (0 ≤ a3) then
       Option.bind (a0[Int.toNat a3]?) fun y4 =>
       Option.bind (rec_qaO (TStmt.then_ y4) (IntKind.wrap IntKind.i64 (a1 + (1 : Int)))) fun y5 =>
       bif decide (0 ≤ a3) then
        Option.bind (a0[Int.toNat a3]?) fun y6 =>
        Option.bind (rec_qaO (TStmt.else_ y6) (IntKind.wrap IntKind.i64 (a1 + (1 : Int)))) fun y7 =>
        rec (a0) (a1) (if y7 > if y5 > if y3 > if a1 > a2 then a1 else a2 then y3 else if a1 > a2 then a1 else a2 then y5 else if y3 > if a1 > a2 then a1 else a2 then y3 else if a1 > a2 then a1 else a2 then y7 else if y5 > if y3 > if a1 > a2 then a1 else a2 then y3 else if a1 > a2 then a1 else a2 then y5 else if y3 > if a1 > a2 then a1 else a2 then y3 else if a1 > a2 then a1 else a2) (IntKind.wrap IntKind.i64 (a3 + (1 : Int)))
       else
        none
      else
       none
     else
      none
    else
     bif decide (0 ≤ a3) then
      Option.bind (a0[Int.toNat a3]?) fun y8 =>
      Option.bind (rec_qaO (TStmt.then_ y8) (IntKind.wrap IntKind.i64 (a1 + (1 : Int)))) fun y9 =>
      bif decide (0 ≤ a3) then
       Option.bind (a0[Int.toNat a3]?) fun y10 =>
       Option.bind (rec_qaO (TStmt.else_ y10) (IntKind.wrap IntKind.i64 (a1 + (1 : Int)))) fun y11 =>
       rec (a0) (a1) (if y11 > if y9 > if a1 > a2 then a1 else a2 then y9 else if a1 > a2 then a1 else a2 then y11 else if y9 > if a1 > a2 then a1 else a2 then y9 else if a1 > a2 then a1 else a2) (IntKind.wrap IntKind.i64 (a3 + (1 : Int)))
      else
       none
     else
      none
   else
    none
  else
   some (a2)
def qaO_i3 (rec_qaO : List TStmt → Int → Option (Int)) : Nat → List TStmt → Int → Int → Int → Option (Int)
 | 0, _, _, _, _ => none
 | n + 1, a0, a1, a2, a3 => qaO_t3 rec_qaO (qaO_i3 rec_qaO n) a0 a1 a2 a3
def qaO_l3 (rec_qaO : List TStmt → Int → Option (Int)) : List TStmt → Int → Int → Int → Option (Int) := sealF (qaO_i3 rec_qaO fuel)
def qaO_f (rec_qaO : List TStmt → Int → Option (Int)) (a0 : List TStmt) (a1 : Int) : Option (Int) :=
  Option.bind (qaO_l3 rec_qaO a0 a1 (0 : Int) (0 : Int)) fun y0 =>
  some (y0)
def qaO_i : Nat → List TStmt → Int → Option (Int)
 | 0, _, _ => none
 | n + 1, a0, a1 => qaO_f (qaO_i n) a0 a1
def qaO : List TStmt → Int → Option (Int) := sealF (qaO_i fuel)
def qaI_t3 (rec : Int → Int → List TCell → List (List UInt8) → List TThread → Option (Int)) (a0 : Int) (a1 : Int) (a2 : List TCell) (a3 : List (List UInt8)) (a4 : List TThread) : Option (Int) :=
  bif decide (a1 < (↑(List.length a4) : Int)) then
   bif decide (0 ≤ a1) then
    Option.bind (a4[Int.toNat a1]?) fun y0 =>
    Option.bind (qaO (TThread.body y0) (1 : Int)) fun y1 =>
    rec (if y1 > a0 then y1 else a0) (IntKind.wrap IntKind.i64 (a1 + (1 : Int))) (a2) (a3) (a4)
   else
    none
  else
   some (a0)
def qaI_i3 : Nat → Int → Int → List TCell → List (List UInt8) → List TThread → Option (Int)
 | 0, _, _, _, _, _ => none
 | n + 1, a0, a1, a2, a3, a4 => qaI_t3 (qaI_i3 n) a0 a1 a2 a3 a4
def qaI_l3 : Int → Int → List TCell → List (List UInt8) → List TThread → Option (Int) := sealF (qaI_i3 fuel)
def qaI_f (a0 : TProg) : Option (Int) :=
  Option.bind (qaI_l3 (0 : Int) (0 : Int) (TProg.cells a0) (TProg.mutexes a0) (TProg.threads a0)) fun y0 =>
  some (y0)
def qaI : TProg → Option (Int) := sealF (qaI_f)
def qaJ_t3 (rec_qaJ : TExpr → Option (Int)) (rec : Int → Int → Int → Int → List UInt8 → List TExpr → Option (Int)) (a0 : Int) (a1 : Int) (a2 : Int) (a3 : Int) (a4 : List UInt8) (a5 : List TExpr) : Option (Int) :=
  bif decide (a1 < (↑(List.length a5) : Int)) then
   bif decide (0 ≤ a1) then
    Option.bind (a5[Int.toNat a1]?) fun y0 =>
    Option.bind (rec_qaJ y0) fun y1 =>
    rec (IntKind.wrap IntKind.i64 (a0 + y1)) (IntKind.wrap IntKind.i64 (a1 + (1 : Int))) (a2) (a3) (a4) (a5)
   else
    none
  else
   some (a0)
def qaJ_i3 (rec_qaJ : TExpr → Option (Int)) : Nat → Int → Int → Int → Int → List UInt8 → List TExpr → Option (Int)
 | 0, _, _, _, _, _, _ => none
 | n + 1, a0, a1, a2, a3, a4, a5 => qaJ_t3 rec_qaJ (qaJ_i3 rec_qaJ n) a0 a1 a2 a3 a4 a5
def qaJ_l3 (rec_qaJ : TExpr → Option (Int)) : Int → Int → Int → Int → List UInt8 → List TExpr → Option (Int) := sealF (qaJ_i3 rec_qaJ fuel)
def qaJ_f (rec_qaJ : TExpr → Option (Int)) (a0 : TExpr) : Option (Int) :=
  Option.bind (qaJ_l3 rec_qaJ (1 : Int) (0 : Int) (TExpr.kind a0) (TExpr.num a0) (TExpr.name a0) (TExpr.args a0)) fun y0 =>
  some (y0)
def qaJ_i : Nat → TExpr → Option (Int)
 | 0, _ => none
 | n + 1, a0 => qaJ_f (qaJ_i n) a0
def qaJ : TExpr → Option (Int) := sealF (qaJ_i fuel)
def qaN_t3 (rec_qaN : List TStmt → Option (Int)) (rec : List TStmt → Int → Int → Option (Int)) (a0 : List TStmt) (a1 : Int) (a2 : Int) : Option (Int) :=
  bif decide (a2 < (↑(List.length a0) : Int)) then
   bif decide (0 ≤ a2) then
    Option.bind (a0[Int.toNat a2]?) fun y0 =>
    Option.bind (qaP (TExpr.mk (TExpr.kind (TStmt.expr y0)) (TExpr.num (TStmt.expr y0)) (TExpr.name (TStmt.expr y0)) (TExpr.args (TStmt.expr y0)))) fun y1 =>
    bif y1 then
     bif decide (0 ≤ a2) then
      Option.bind (a0[Int.toNat a2]?) fun y2 =>
      Option.bind (qaJ (TExpr.mk (TExpr.kind (TStmt.expr y2)) (TExpr.num (TStmt.expr y2)) (TExpr.name (TStmt.expr y2)) (TExpr.args (TStmt.expr y2)))) fun y3 =>
      bif decide (0 ≤ a2) then
       Option.bind (a0[Int.toNat a2]?) fun y4 =>
       Option.bind (rec_qaN (TStmt.then_ y4)) fun y5 =>
       bif decide (0 ≤ a2) then
        Option.bind (a0[Int.toNat a2]?) fun y6 =>
        Option.bind (rec_qaN (TStmt.else_ y6)) fun y7 =>
        rec (a0) (IntKind.wrap IntKind.i64 (IntKind.wrap IntKind.i64 (IntKind.wrap IntKind.i64 (IntKind.wrap IntKind.i64 (a1 + (1 : Int)) + y3) + y5) + y7)) (IntKind.wrap IntKind.i64 (a2 + (1 : Int)))
       else
        none
      else
       none
     else
      none
    else
     bif decide (0 ≤ a2) then
      Option.bind (a0[Int.toNat a2]?) fun y8 =>
      Option.bind (rec_qaN (TStmt.then_ y8)) fun y9 =>
      bif decide (0 ≤ a2) then
       Option.bind (a0[Int.toNat a2]?) fun y10 =>
       Option.bind (rec_qaN (TStmt.else_ y10)) fun y11 =>
       rec (a0) (IntKind.wrap IntKind.i64 (IntKind.wrap IntKind.i64 (IntKind.wrap IntKind.i64 (a1 + (1 : Int)) + y9) + y11)) (IntKind.wrap IntKind.i64 (a2 + (1 : Int)))
      else
       none
     else
      none
   else
    none
  else
   some (a1)
def qaN_i3 (rec_qaN : List TStmt → Option (Int)) : Nat → List TStmt → Int → Int → Option (Int)
 | 0, _, _, _ => none
 | n + 1, a0, a1, a2 => qaN_t3 rec_qaN (qaN_i3 rec_qaN n) a0 a1 a2
def qaN_l3 (rec_qaN : List TStmt → Option (Int)) : List TStmt → Int → Int → Option (Int) := sealF (qaN_i3 rec_qaN fuel)
def qaN_f (rec_qaN : List TStmt → Option (Int)) (a0 : List TStmt) : Option (Int) :=
  Option.bind (qaN_l3 rec_qaN a0 (0 : Int) (0 : Int)) fun y0 =>
  some (y0)
def qaN_i : Nat → List TStmt → Option (Int)
 | 0, _ => none
 | n + 1, a0 => qaN_f (qaN_i n) a0
def qaN : List TStmt → Option (Int) := sealF (qaN_i fuel)
def qaH_t3 (rec : Int → Int → List TCell → List (List UInt8) → List TThread → Option (Int)) (a0 : Int) (a1 : Int) (a2 : List TCell) (a3 : List (List UInt8)) (a4 : List TThread) : Option (Int) :=
  bif decide (a1 < (↑(List.length a4) : Int)) then
   bif decide (0 ≤ a1) then
    Option.bind (a4[Int.toNat a1]?) fun y0 =>
    Option.bind (qaN (TThread.body y0)) fun y1 =>
    rec (IntKind.wrap IntKind.i64 (a0 + y1)) (IntKind.wrap IntKind.i64 (a1 + (1 : Int))) (a2) (a3) (a4)
   else
    none
  else
   some (a0)
def qaH_i3 : Nat → Int → Int → List TCell → List (List UInt8) → List TThread → Option (Int)
 | 0, _, _, _, _, _ => none
 | n + 1, a0, a1, a2, a3, a4 => qaH_t3 (qaH_i3 n) a0 a1 a2 a3 a4
def qaH_l3 : Int → Int → List TCell → List (List UInt8) → List TThread → Option (Int) := sealF (qaH_i3 fuel)
def qaH_f (a0 : TProg) : Option (Int) :=
  Option.bind (qaH_l3 (0 : Int) (0 : Int) (TProg.cells a0) (TProg.mutexes a0) (TProg.threads a0)) fun y0 =>
  some (y0)
def qaH : TProg → Option (Int) := sealF (qaH_f)
def qaR_t4 (rec : Int → List Int → Int → List TBody → Option ((Bool) ⊕ ((List Int) × Int × (List TBody)))) (a0 : Int) (a1 : List Int) (a2 : Int) (a3 : List TBody) : Option ((Bool) ⊕ ((List Int) × Int × (List TBody))) :=
  bif decide (a0 < (↑(List.length a1) : Int)) then
   bif decide (0 ≤ a0) then
    Option.bind (a1[Int.toNat a0]?) fun y0 =>
    Option.bind (α := Bool) (
      bif decide (y0 < (-2147483647 : Int)) then
       some (true)
      else
       bif decide (0 ≤ a0) then
        Option.bind (a1[Int.toNat a0]?) fun y1 =>
        some (decide (y1 > 2147483647))
       else
        none) fun y2 =>
    bif y2 then
     some (.inl (false))
    else
     rec (IntKind.wrap IntKind.i64 (a0 + (1 : Int))) (a1) (a2) (a3)
   else
    none
  else
   some (.inr ((a1), (a2), (a3)))
def qaR_i4 : Nat → Int → List Int → Int → List TBody → Option ((Bool) ⊕ ((List Int) × Int × (List TBody)))
 | 0, _, _, _, _ => none
 | n + 1, a0, a1, a2, a3 => qaR_t4 (qaR_i4 n) a0 a1 a2 a3
def qaR_l4 : Int → List Int → Int → List TBody → Option ((Bool) ⊕ ((List Int) × Int × (List TBody))) := sealF (qaR_i4 fuel)
def qaR_t10 (rec : Int → List Int → Int → List TBody → List TThread → Option ((Bool) ⊕ ((List TThread)))) (a0 : Int) (a1 : List Int) (a2 : Int) (a3 : List TBody) (a4 : List TThread) : Option ((Bool) ⊕ ((List TThread))) :=
  bif decide (a0 < (↑(List.length a3) : Int)) then
   bif decide (0 ≤ a0) then
    Option.bind (a3[Int.toNat a0]?) fun y0 =>
    Option.bind (qaT (TBody.acts y0) (TBody.regs y0) (TUnit.mk a1 a2 a3)) fun y1 =>
    Option.bind (α := Bool) (
      bif decide (TBody.regs y0 < 0) then
       some (true)
      else
       some (decide (TBody.regs y0 > 8))) fun y2 =>
    Option.bind (α := Bool) (
      bif y2 then
       some (true)
      else
       some (!y1)) fun y3 =>
    bif y3 then
     some (.inl (false))
    else
     Option.bind (qaQ (TBody.acts y0)) fun y4 =>
     bif decide ((List.length a4 + List.length [TThread.mk [] y4]) * (40 : Nat) ≤ (140737488355328 : Nat) ∧ List.length a4 + List.length [TThread.mk [] y4] ≤ (9223372036854775807 : Nat)) then
      rec (IntKind.wrap IntKind.i64 (a0 + (1 : Int))) (a1) (a2) (a3) (a4 ++ [TThread.mk [] y4])
     else
      none
   else
    none
  else
   some (.inr (a4))
def qaR_i10 : Nat → Int → List Int → Int → List TBody → List TThread → Option ((Bool) ⊕ ((List TThread)))
 | 0, _, _, _, _, _ => none
 | n + 1, a0, a1, a2, a3, a4 => qaR_t10 (qaR_i10 n) a0 a1 a2 a3 a4
def qaR_l10 : Int → List Int → Int → List TBody → List TThread → Option ((Bool) ⊕ ((List TThread))) := sealF (qaR_i10 fuel)
def qaR_f (a0 : TUnit) : Option (Bool) :=
  Option.bind (α := Bool) (
    bif decide ((↑(List.length (TUnit.threads a0)) : Int) < 1) then
     some (true)
    else
     some (decide ((↑(List.length (TUnit.threads a0)) : Int) > 8))) fun y0 =>
  Option.bind (α := Bool) (
    bif y0 then
     some (true)
    else
     some (decide ((↑(List.length (TUnit.cells a0)) : Int) > 8))) fun y1 =>
  Option.bind (α := Bool) (
    bif y1 then
     some (true)
    else
     some (decide (TUnit.mutexes a0 < 0))) fun y2 =>
  Option.bind (α := Bool) (
    bif y2 then
     some (true)
    else
     some (decide (TUnit.mutexes a0 > 8))) fun y3 =>
  bif y3 then
   some (false)
  else
   Option.bind (qaR_l4 (0 : Int) (TUnit.cells a0) (TUnit.mutexes a0) (TUnit.threads a0)) fun y4 =>
   match y4 with
   | .inl y5 =>
    some (y5)
   | .inr y5 =>
    Option.bind (qaR_l10 (0 : Int) y5.1 y5.2.1 y5.2.2 []) fun y6 =>
    match y6 with
    | .inl y7 =>
     some (y7)
    | .inr y7 =>
     Option.bind (qaI (TProg.mk [] [] y7)) fun y8 =>
     Option.bind (qaH (TProg.mk [] [] y7)) fun y9 =>
     Option.bind (α := Bool) (
       bif decide (y8 ≤ 16) then
        some (decide (y9 ≤ 500))
       else
        some (false)) fun y10 =>
     some (y10)
def qaR : TUnit → Option (Bool) := sealF (qaR_f)
def qa4_f (a0 : Int) (a1 : Int) (a2 : Int) (a3 : Int) (a4 : Int) (a5 : List Instr) : Option (Int × Int × (List Instr)) :=
  bif decide ((List.length a5 + List.length [Instr.mk a0 a1 a2 a3]) * (32 : Nat) ≤ (140737488355328 : Nat) ∧ List.length a5 + List.length [Instr.mk a0 a1 a2 a3] ≤ (9223372036854775807 : Nat)) then
   some ((IntKind.wrap IntKind.i64 ((↑(List.length (a5 ++ [Instr.mk a0 a1 a2 a3])) : Int) - (1 : Int))), (a4), (a5 ++ [Instr.mk a0 a1 a2 a3]))
  else
   none
def qa4 : Int → Int → Int → Int → Int → List Instr → Option (Int × Int × (List Instr)) := sealF (qa4_f)
def qa3_f (rec_qa3 : TExpr → Int → Int → List Instr → Option (Int × (List Instr))) (a0 : TExpr) (a1 : Int) (a2 : Int) (a3 : List Instr) : Option (Int × (List Instr)) :=
  bif TExpr.kind a0 == 1 then
   Option.bind (qa4 (1 : Int) a1 (TExpr.num a0) (0 : Int) a2 a3) fun y0 =>
   some (y0.2.1, y0.2.2)
  else
   bif TExpr.kind a0 == 2 then
    Option.bind (qa4 (2 : Int) a1 (TExpr.num a0) (0 : Int) a2 a3) fun y1 =>
    some (y1.2.1, y1.2.2)
   else
    bif TExpr.kind a0 == 3 then
     Option.bind ((TExpr.args a0)[(0 : Nat)]?) fun y2 =>
     Option.bind (rec_qa3 y2 a1 a2 a3) fun y3 =>
     Option.bind (qa4 (3 : Int) a1 a1 (0 : Int) y3.1 y3.2) fun y4 =>
     some (y4.2.1, y4.2.2)
    else
     bif TExpr.kind a0 == 4 then
      Option.bind ((TExpr.args a0)[(0 : Nat)]?) fun y5 =>
      Option.bind (rec_qa3 y5 a1 a2 a3) fun y6 =>
      Option.bind (qa4 (4 : Int) a1 a1 (0 : Int) y6.1 y6.2) fun y7 =>
      some (y7.2.1, y7.2.2)
     else
      Option.bind ((TExpr.args a0)[(0 : Nat)]?) fun y8 =>
      Option.bind (rec_qa3 y8 a1 a2 a3) fun y9 =>
      Option.bind ((TExpr.args a0)[(1 : Nat)]?) fun y10 =>
      Option.bind (rec_qa3 y10 (IntKind.wrap IntKind.i64 (a1 + (1 : Int))) y9.1 y9.2) fun y11 =>
      Option.bind (qa4 (IntKind.wrap IntKind.i64 (IntKind.wrap IntKind.i64 ((5 : Int) + TExpr.kind a0) - (5 : Int))) a1 a1 (IntKind.wrap IntKind.i64 (a1 + (1 : Int))) y11.1 y11.2) fun y12 =>
      some (y12.2.1, y12.2.2)
def qa3_i : Nat → TExpr → Int → Int → List Instr → Option (Int × (List Instr))
 | 0, _, _, _, _ => none
 | n + 1, a0, a1, a2, a3 => qa3_f (qa3_i n) a0 a1 a2 a3
def qa3 : TExpr → Int → Int → List Instr → Option (Int × (List Instr)) := sealF (qa3_i fuel)
def qa2_f (rec_qa1 : List TAct → Int → Int → List Instr → Option (Int × (List Instr))) (a0 : TAct) (a1 : Int) (a2 : Int) (a3 : List Instr) : Option (Int × (List Instr)) :=
  Option.bind (qa4 (19 : Int) (IntKind.wrap IntKind.i64 (a2 + a1)) (0 : Int) (0 : Int) a2 a3) fun y0 =>
  Option.bind (rec_qa1 (TAct.then_ a0) a1 y0.2.1 y0.2.2) fun y1 =>
  bif (↑(List.length (TAct.else_ a0)) : Int) == 0 then
   bif decide ((0 : Int) ≤ y0.1) && decide (y0.1 < (↑(List.length y1.2) : Int)) then
    Option.bind (y1.2[Int.toNat y0.1]?) fun y2 =>
    some (y1.1, (List.set y1.2 (Int.toNat y0.1) (Instr.mk (Instr.op y2) (Instr.a y2) (↑(List.length y1.2) : Int) (Instr.c y2))))
   else
    none
  else
   Option.bind (qa4 (18 : Int) (0 : Int) (0 : Int) (0 : Int) y1.1 y1.2) fun y3 =>
   bif decide ((0 : Int) ≤ y0.1) && decide (y0.1 < (↑(List.length y3.2.2) : Int)) then
    Option.bind (y3.2.2[Int.toNat y0.1]?) fun y4 =>
    Option.bind (rec_qa1 (TAct.else_ a0) a1 y3.2.1 (List.set y3.2.2 (Int.toNat y0.1) (Instr.mk (Instr.op y4) (Instr.a y4) (↑(List.length y3.2.2) : Int) (Instr.c y4)))) fun y5 =>
    bif decide ((0 : Int) ≤ y3.1) && decide (y3.1 < (↑(List.length y5.2) : Int)) then
     Option.bind (y5.2[Int.toNat y3.1]?) fun y6 =>
     some (y5.1, (List.set y5.2 (Int.toNat y3.1) (Instr.mk (Instr.op y6) (↑(List.length y5.2) : Int) (Instr.b y6) (Instr.c y6))))
    else
     none
   else
    none
def qa2 (rec_qa1 : List TAct → Int → Int → List Instr → Option (Int × (List Instr))) : TAct → Int → Int → List Instr → Option (Int × (List Instr)) := sealF (qa2_f rec_qa1)
def qaZ_f (rec_qa1 : List TAct → Int → Int → List Instr → Option (Int × (List Instr))) (a0 : Int) : Option (Int) :=
  bif a0 == 5 then
   some ((24 : Int))
  else
   bif a0 == 6 then
    some ((25 : Int))
   else
    bif a0 == 7 then
     some ((26 : Int))
    else
     some ((27 : Int))
def qaZ (rec_qa1 : List TAct → Int → Int → List Instr → Option (Int × (List Instr))) : Int → Option (Int) := sealF (qaZ_f rec_qa1)
def qa1_t2 (rec_qa1 : List TAct → Int → Int → List Instr → Option (Int × (List Instr))) (rec : List TAct → Int → Int → Int → Int → List Instr → Option (Int × (List Instr))) (a0 : List TAct) (a1 : Int) (a2 : Int) (a3 : Int) (a4 : Int) (a5 : List Instr) : Option (Int × (List Instr)) :=
  bif decide (a3 < (↑(List.length a0) : Int)) then
   bif decide (0 ≤ a3) then
    Option.bind (a0[Int.toNat a3]?) fun y0 =>
    bif TExpr.kind (TAct.expr y0) != 0 then
     Option.bind (qa3 (TExpr.mk (TExpr.kind (TAct.expr y0)) (TExpr.num (TAct.expr y0)) (TExpr.name (TAct.expr y0)) (TExpr.args (TAct.expr y0))) a2 a4 a5) fun y1 =>
     bif TAct.kind y0 == 1 then
      Option.bind (qa4 (2 : Int) (TAct.reg y0) a2 (0 : Int) y1.1 y1.2) fun y2 =>
      rec (a0) (a1) (a2) (IntKind.wrap IntKind.i64 (a3 + (1 : Int))) y2.2.1 y2.2.2
     else
      bif TAct.kind y0 == 2 then
       Option.bind (qa4 (21 : Int) (TAct.reg y0) (TAct.obj y0) (0 : Int) y1.1 y1.2) fun y3 =>
       rec (a0) (a1) (a2) (IntKind.wrap IntKind.i64 (a3 + (1 : Int))) y3.2.1 y3.2.2
      else
       bif TAct.kind y0 == 3 then
        Option.bind (qa4 (22 : Int) (TAct.obj y0) a2 (0 : Int) y1.1 y1.2) fun y4 =>
        rec (a0) (a1) (a2) (IntKind.wrap IntKind.i64 (a3 + (1 : Int))) y4.2.1 y4.2.2
       else
        bif TAct.kind y0 == 4 then
         Option.bind (qa4 (23 : Int) (TAct.reg y0) (TAct.obj y0) a2 y1.1 y1.2) fun y5 =>
         rec (a0) (a1) (a2) (IntKind.wrap IntKind.i64 (a3 + (1 : Int))) y5.2.1 y5.2.2
        else
         bif TAct.kind y0 == 9 then
          Option.bind (qa4 (28 : Int) a2 (0 : Int) (0 : Int) y1.1 y1.2) fun y6 =>
          rec (a0) (a1) (a2) (IntKind.wrap IntKind.i64 (a3 + (1 : Int))) y6.2.1 y6.2.2
         else
          bif TAct.kind y0 == 10 then
           Option.bind (qa2 rec_qa1 (TAct.mk (TAct.kind y0) (TAct.reg y0) (TAct.obj y0) (TExpr.mk (TExpr.kind (TAct.expr y0)) (TExpr.num (TAct.expr y0)) (TExpr.name (TAct.expr y0)) (TExpr.args (TAct.expr y0))) (TAct.count y0) (TAct.then_ y0) (TAct.else_ y0)) a1 y1.1 y1.2) fun y7 =>
           rec (a0) (a1) (a2) (IntKind.wrap IntKind.i64 (a3 + (1 : Int))) y7.1 y7.2
          else
           bif TAct.kind y0 == 11 then
            bif decide (TAct.count y0 > 0) then
             Option.bind (qa4 (1 : Int) a2 (TAct.count y0) (0 : Int) y1.1 y1.2) fun y8 =>
             Option.bind (rec_qa1 (TAct.then_ y0) (IntKind.wrap IntKind.i64 (a1 + (1 : Int))) y8.2.1 y8.2.2) fun y9 =>
             Option.bind (qa4 (20 : Int) a2 (IntKind.wrap IntKind.i64 (y8.1 + (1 : Int))) (0 : Int) y9.1 y9.2) fun y10 =>
             rec (a0) (a1) (a2) (IntKind.wrap IntKind.i64 (a3 + (1 : Int))) y10.2.1 y10.2.2
            else
             rec (a0) (a1) (a2) (IntKind.wrap IntKind.i64 (a3 + (1 : Int))) y1.1 y1.2
           else
            Option.bind (qaZ rec_qa1 (TAct.kind y0)) fun y11 =>
            Option.bind (qa4 y11 (TAct.obj y0) (0 : Int) (0 : Int) y1.1 y1.2) fun y12 =>
            rec (a0) (a1) (a2) (IntKind.wrap IntKind.i64 (a3 + (1 : Int))) y12.2.1 y12.2.2
    else
     bif TAct.kind y0 == 1 then
      Option.bind (qa4 (2 : Int) (TAct.reg y0) a2 (0 : Int) a4 a5) fun y13 =>
      rec (a0) (a1) (a2) (IntKind.wrap IntKind.i64 (a3 + (1 : Int))) y13.2.1 y13.2.2
     else
      bif TAct.kind y0 == 2 then
       Option.bind (qa4 (21 : Int) (TAct.reg y0) (TAct.obj y0) (0 : Int) a4 a5) fun y14 =>
       rec (a0) (a1) (a2) (IntKind.wrap IntKind.i64 (a3 + (1 : Int))) y14.2.1 y14.2.2
      else
       bif TAct.kind y0 == 3 then
        Option.bind (qa4 (22 : Int) (TAct.obj y0) a2 (0 : Int) a4 a5) fun y15 =>
        rec (a0) (a1) (a2) (IntKind.wrap IntKind.i64 (a3 + (1 : Int))) y15.2.1 y15.2.2
       else
        bif TAct.kind y0 == 4 then
         Option.bind (qa4 (23 : Int) (TAct.reg y0) (TAct.obj y0) a2 a4 a5) fun y16 =>
         rec (a0) (a1) (a2) (IntKind.wrap IntKind.i64 (a3 + (1 : Int))) y16.2.1 y16.2.2
        else
         bif TAct.kind y0 == 9 then
          Option.bind (qa4 (28 : Int) a2 (0 : Int) (0 : Int) a4 a5) fun y17 =>
          rec (a0) (a1) (a2) (IntKind.wrap IntKind.i64 (a3 + (1 : Int))) y17.2.1 y17.2.2
         else
          bif TAct.kind y0 == 10 then
           Option.bind (qa2 rec_qa1 (TAct.mk (TAct.kind y0) (TAct.reg y0) (TAct.obj y0) (TExpr.mk (TExpr.kind (TAct.expr y0)) (TExpr.num (TAct.expr y0)) (TExpr.name (TAct.expr y0)) (TExpr.args (TAct.expr y0))) (TAct.count y0) (TAct.then_ y0) (TAct.else_ y0)) a1 a4 a5) fun y18 =>
           rec (a0) (a1) (a2) (IntKind.wrap IntKind.i64 (a3 + (1 : Int))) y18.1 y18.2
          else
           bif TAct.kind y0 == 11 then
            bif decide (TAct.count y0 > 0) then
             Option.bind (qa4 (1 : Int) a2 (TAct.count y0) (0 : Int) a4 a5) fun y19 =>
             Option.bind (rec_qa1 (TAct.then_ y0) (IntKind.wrap IntKind.i64 (a1 + (1 : Int))) y19.2.1 y19.2.2) fun y20 =>
             Option.bind (qa4 (20 : Int) a2 (IntKind.wrap IntKind.i64 (y19.1 + (1 : Int))) (0 : Int) y20.1 y20.2) fun y21 =>
             rec (a0) (a1) (a2) (IntKind.wrap IntKind.i64 (a3 + (1 : Int))) y21.2.1 y21.2.2
            else
             rec (a0) (a1) (a2) (IntKind.wrap IntKind.i64 (a3 + (1 : Int))) (a4) (a5)
           else
            Option.bind (qaZ rec_qa1 (TAct.kind y0)) fun y22 =>
            Option.bind (qa4 y22 (TAct.obj y0) (0 : Int) (0 : Int) a4 a5) fun y23 =>
            rec (a0) (a1) (a2) (IntKind.wrap IntKind.i64 (a3 + (1 : Int))) y23.2.1 y23.2.2
   else
    none
  else
   some ((a4), (a5))
def qa1_i2 (rec_qa1 : List TAct → Int → Int → List Instr → Option (Int × (List Instr))) : Nat → List TAct → Int → Int → Int → Int → List Instr → Option (Int × (List Instr))
 | 0, _, _, _, _, _, _ => none
 | n + 1, a0, a1, a2, a3, a4, a5 => qa1_t2 rec_qa1 (qa1_i2 rec_qa1 n) a0 a1 a2 a3 a4 a5
def qa1_l2 (rec_qa1 : List TAct → Int → Int → List Instr → Option (Int × (List Instr))) : List TAct → Int → Int → Int → Int → List Instr → Option (Int × (List Instr)) := sealF (qa1_i2 rec_qa1 fuel)
def qa1_f (rec_qa1 : List TAct → Int → Int → List Instr → Option (Int × (List Instr))) (a0 : List TAct) (a1 : Int) (a2 : Int) (a3 : List Instr) : Option (Int × (List Instr)) :=
  Option.bind (qa1_l2 rec_qa1 a0 a1 (IntKind.wrap IntKind.i64 (a2 + a1)) (0 : Int) a2 a3) fun y0 =>
  some (y0.1, y0.2)
def qa1_i : Nat → List TAct → Int → Int → List Instr → Option (Int × (List Instr))
 | 0, _, _, _, _ => none
 | n + 1, a0, a1, a2, a3 => qa1_f (qa1_i n) a0 a1 a2 a3
def qa1 : List TAct → Int → Int → List Instr → Option (Int × (List Instr)) := sealF (qa1_i fuel)
def qaY_f (a0 : Int) : Option (Bool × Bool × Bool) :=
  bif a0 == 1 then
   bif a0 == 1 then
    some ((true), (false), (false))
   else
    bif a0 == 2 then
     bif a0 == 2 then
      some ((true), (true), (false))
     else
      bif a0 == 22 then
       some ((false), (true), (false))
      else
       bif a0 == 23 then
        some ((true), (false), (true))
       else
        Option.bind (α := Bool) (
          bif decide (a0 ≥ 5) then
           some (decide (a0 ≤ 17))
          else
           some (false)) fun y0 =>
        some ((y0), (y0), (y0))
    else
     bif a0 == 3 then
      bif a0 == 3 then
       some ((true), (true), (false))
      else
       bif a0 == 22 then
        some ((false), (true), (false))
       else
        bif a0 == 23 then
         some ((true), (false), (true))
        else
         Option.bind (α := Bool) (
           bif decide (a0 ≥ 5) then
            some (decide (a0 ≤ 17))
           else
            some (false)) fun y1 =>
         some ((y1), (y1), (y1))
     else
      bif a0 == 4 then
       some ((true), (true), (false))
      else
       bif a0 == 22 then
        some ((false), (true), (false))
       else
        bif a0 == 23 then
         some ((true), (false), (true))
        else
         Option.bind (α := Bool) (
           bif decide (a0 ≥ 5) then
            some (decide (a0 ≤ 17))
           else
            some (false)) fun y2 =>
         some ((y2), (y2), (y2))
  else
   bif a0 == 19 then
    bif a0 == 19 then
     some ((true), (false), (false))
    else
     bif a0 == 2 then
      bif a0 == 2 then
       some ((true), (true), (false))
      else
       bif a0 == 22 then
        some ((false), (true), (false))
       else
        bif a0 == 23 then
         some ((true), (false), (true))
        else
         Option.bind (α := Bool) (
           bif decide (a0 ≥ 5) then
            some (decide (a0 ≤ 17))
           else
            some (false)) fun y3 =>
         some ((y3), (y3), (y3))
     else
      bif a0 == 3 then
       bif a0 == 3 then
        some ((true), (true), (false))
       else
        bif a0 == 22 then
         some ((false), (true), (false))
        else
         bif a0 == 23 then
          some ((true), (false), (true))
         else
          Option.bind (α := Bool) (
            bif decide (a0 ≥ 5) then
             some (decide (a0 ≤ 17))
            else
             some (false)) fun y4 =>
          some ((y4), (y4), (y4))
      else
       bif a0 == 4 then
        some ((true), (true), (false))
       else
        bif a0 == 22 then
         some ((false), (true), (false))
        else
         bif a0 == 23 then
          some ((true), (false), (true))
         else
          Option.bind (α := Bool) (
            bif decide (a0 ≥ 5) then
             some (decide (a0 ≤ 17))
            else
             some (false)) fun y5 =>
          some ((y5), (y5), (y5))
   else
    bif a0 == 20 then
     bif a0 == 20 then
      some ((true), (false), (false))
     else
      bif a0 == 2 then
       bif a0 == 2 then
        some ((true), (true), (false))
       else
        bif a0 == 22 then
         some ((false), (true), (false))
        else
         bif a0 == 23 then
          some ((true), (false), (true))
         else
          Option.bind (α := Bool) (
            bif decide (a0 ≥ 5) then
             some (decide (a0 ≤ 17))
            else
             some (false)) fun y6 =>
          some ((y6), (y6), (y6))
      else
       bif a0 == 3 then
        bif a0 == 3 then
         some ((true), (true), (false))
        else
         bif a0 == 22 then
          some ((false), (true), (false))
         else
          bif a0 == 23 then
           some ((true), (false), (true))
          else
           Option.bind (α := Bool) (
             bif decide (a0 ≥ 5) then
              some (decide (a0 ≤ 17))
             else
              some (false)) fun y7 =>
           some ((y7), (y7), (y7))
       else
        bif a0 == 4 then
         some ((true), (true), (false))
        else
         bif a0 == 22 then
          some ((false), (true), (false))
         else
          bif a0 == 23 then
           some ((true), (false), (true))
          else
           Option.bind (α := Bool) (
             bif decide (a0 ≥ 5) then
              some (decide (a0 ≤ 17))
             else
              some (false)) fun y8 =>
           some ((y8), (y8), (y8))
    else
     bif a0 == 21 then
      bif a0 == 21 then
       some ((true), (false), (false))
      else
       bif a0 == 2 then
        bif a0 == 2 then
         some ((true), (true), (false))
        else
         bif a0 == 22 then
          some ((false), (true), (false))
         else
          bif a0 == 23 then
           some ((true), (false), (true))
          else
           Option.bind (α := Bool) (
             bif decide (a0 ≥ 5) then
              some (decide (a0 ≤ 17))
             else
              some (false)) fun y9 =>
           some ((y9), (y9), (y9))
       else
        bif a0 == 3 then
         bif a0 == 3 then
          some ((true), (true), (false))
         else
          bif a0 == 22 then
           some ((false), (true), (false))
          else
           bif a0 == 23 then
            some ((true), (false), (true))
           else
            Option.bind (α := Bool) (
              bif decide (a0 ≥ 5) then
               some (decide (a0 ≤ 17))
              else
               some (false)) fun y10 =>
            some ((y10), (y10), (y10))
        else
         bif a0 == 4 then
          some ((true), (true), (false))
         else
          bif a0 == 22 then
           some ((false), (true), (false))
          else
           bif a0 == 23 then
            some ((true), (false), (true))
           else
            Option.bind (α := Bool) (
              bif decide (a0 ≥ 5) then
               some (decide (a0 ≤ 17))
              else
               some (false)) fun y11 =>
            some ((y11), (y11), (y11))
     else
      bif a0 == 28 then
       some ((true), (false), (false))
      else
       bif a0 == 2 then
        bif a0 == 2 then
         some ((true), (true), (false))
        else
         bif a0 == 22 then
          some ((false), (true), (false))
         else
          bif a0 == 23 then
           some ((true), (false), (true))
          else
           Option.bind (α := Bool) (
             bif decide (a0 ≥ 5) then
              some (decide (a0 ≤ 17))
             else
              some (false)) fun y12 =>
           some ((y12), (y12), (y12))
       else
        bif a0 == 3 then
         bif a0 == 3 then
          some ((true), (true), (false))
         else
          bif a0 == 22 then
           some ((false), (true), (false))
          else
           bif a0 == 23 then
            some ((true), (false), (true))
           else
            Option.bind (α := Bool) (
              bif decide (a0 ≥ 5) then
               some (decide (a0 ≤ 17))
              else
               some (false)) fun y13 =>
            some ((y13), (y13), (y13))
        else
         bif a0 == 4 then
          some ((true), (true), (false))
         else
          bif a0 == 22 then
           some ((false), (true), (false))
          else
           bif a0 == 23 then
            some ((true), (false), (true))
           else
            Option.bind (α := Bool) (
              bif decide (a0 ≥ 5) then
               some (decide (a0 ≤ 17))
              else
               some (false)) fun y14 =>
            some ((y14), (y14), (y14))
def qaY : Int → Option (Bool × Bool × Bool) := sealF (qaY_f)
def qa0_t3 (rec : List Instr → Int → Int → Option (Int)) (a0 : List Instr) (a1 : Int) (a2 : Int) : Option (Int) :=
  bif decide (a2 < (↑(List.length a0) : Int)) then
   bif decide (0 ≤ a2) then
    Option.bind (a0[Int.toNat a2]?) fun y0 =>
    Option.bind (qaY (Instr.op y0)) fun y1 =>
    bif y1.1 then
     bif decide (0 ≤ a2) then
      Option.bind (a0[Int.toNat a2]?) fun y2 =>
      bif y1.2.1 then
       bif decide (0 ≤ a2) then
        Option.bind (a0[Int.toNat a2]?) fun y3 =>
        bif y1.2.2 then
         bif decide (0 ≤ a2) then
          Option.bind (a0[Int.toNat a2]?) fun y4 =>
          rec (a0) (if IntKind.wrap IntKind.i64 (Instr.c y4 + (1 : Int)) > if IntKind.wrap IntKind.i64 (Instr.b y3 + (1 : Int)) > if IntKind.wrap IntKind.i64 (Instr.a y2 + (1 : Int)) > a1 then IntKind.wrap IntKind.i64 (Instr.a y2 + (1 : Int)) else a1 then IntKind.wrap IntKind.i64 (Instr.b y3 + (1 : Int)) else if IntKind.wrap IntKind.i64 (Instr.a y2 + (1 : Int)) > a1 then IntKind.wrap IntKind.i64 (Instr.a y2 + (1 : Int)) else a1 then IntKind.wrap IntKind.i64 (Instr.c y4 + (1 : Int)) else if IntKind.wrap IntKind.i64 (Instr.b y3 + (1 : Int)) > if IntKind.wrap IntKind.i64 (Instr.a y2 + (1 : Int)) > a1 then IntKind.wrap IntKind.i64 (Instr.a y2 + (1 : Int)) else a1 then IntKind.wrap IntKind.i64 (Instr.b y3 + (1 : Int)) else if IntKind.wrap IntKind.i64 (Instr.a y2 + (1 : Int)) > a1 then IntKind.wrap IntKind.i64 (Instr.a y2 + (1 : Int)) else a1) (IntKind.wrap IntKind.i64 (a2 + (1 : Int)))
         else
          none
        else
         rec (a0) (if IntKind.wrap IntKind.i64 (Instr.b y3 + (1 : Int)) > if IntKind.wrap IntKind.i64 (Instr.a y2 + (1 : Int)) > a1 then IntKind.wrap IntKind.i64 (Instr.a y2 + (1 : Int)) else a1 then IntKind.wrap IntKind.i64 (Instr.b y3 + (1 : Int)) else if IntKind.wrap IntKind.i64 (Instr.a y2 + (1 : Int)) > a1 then IntKind.wrap IntKind.i64 (Instr.a y2 + (1 : Int)) else a1) (IntKind.wrap IntKind.i64 (a2 + (1 : Int)))
       else
        none
      else
       bif y1.2.2 then
        bif decide (0 ≤ a2) then
         Option.bind (a0[Int.toNat a2]?) fun y5 =>
         rec (a0) (if IntKind.wrap IntKind.i64 (Instr.c y5 + (1 : Int)) > if IntKind.wrap IntKind.i64 (Instr.a y2 + (1 : Int)) > a1 then IntKind.wrap IntKind.i64 (Instr.a y2 + (1 : Int)) else a1 then IntKind.wrap IntKind.i64 (Instr.c y5 + (1 : Int)) else if IntKind.wrap IntKind.i64 (Instr.a y2 + (1 : Int)) > a1 then IntKind.wrap IntKind.i64 (Instr.a y2 + (1 : Int)) else a1) (IntKind.wrap IntKind.i64 (a2 + (1 : Int)))
        else
         none
       else
        rec (a0) (if IntKind.wrap IntKind.i64 (Instr.a y2 + (1 : Int)) > a1 then IntKind.wrap IntKind.i64 (Instr.a y2 + (1 : Int)) else a1) (IntKind.wrap IntKind.i64 (a2 + (1 : Int)))
     else
      none
    else
     bif y1.2.1 then
      bif decide (0 ≤ a2) then
       Option.bind (a0[Int.toNat a2]?) fun y6 =>
       bif y1.2.2 then
        bif decide (0 ≤ a2) then
         Option.bind (a0[Int.toNat a2]?) fun y7 =>
         rec (a0) (if IntKind.wrap IntKind.i64 (Instr.c y7 + (1 : Int)) > if IntKind.wrap IntKind.i64 (Instr.b y6 + (1 : Int)) > a1 then IntKind.wrap IntKind.i64 (Instr.b y6 + (1 : Int)) else a1 then IntKind.wrap IntKind.i64 (Instr.c y7 + (1 : Int)) else if IntKind.wrap IntKind.i64 (Instr.b y6 + (1 : Int)) > a1 then IntKind.wrap IntKind.i64 (Instr.b y6 + (1 : Int)) else a1) (IntKind.wrap IntKind.i64 (a2 + (1 : Int)))
        else
         none
       else
        rec (a0) (if IntKind.wrap IntKind.i64 (Instr.b y6 + (1 : Int)) > a1 then IntKind.wrap IntKind.i64 (Instr.b y6 + (1 : Int)) else a1) (IntKind.wrap IntKind.i64 (a2 + (1 : Int)))
      else
       none
     else
      bif y1.2.2 then
       bif decide (0 ≤ a2) then
        Option.bind (a0[Int.toNat a2]?) fun y8 =>
        rec (a0) (if IntKind.wrap IntKind.i64 (Instr.c y8 + (1 : Int)) > a1 then IntKind.wrap IntKind.i64 (Instr.c y8 + (1 : Int)) else a1) (IntKind.wrap IntKind.i64 (a2 + (1 : Int)))
       else
        none
      else
       rec (a0) (a1) (IntKind.wrap IntKind.i64 (a2 + (1 : Int)))
   else
    none
  else
   some (a1)
def qa0_i3 : Nat → List Instr → Int → Int → Option (Int)
 | 0, _, _, _ => none
 | n + 1, a0, a1, a2 => qa0_t3 (qa0_i3 n) a0 a1 a2
def qa0_l3 : List Instr → Int → Int → Option (Int) := sealF (qa0_i3 fuel)
def qa0_f (a0 : List Instr) (a1 : Int) : Option (Int) :=
  Option.bind (qa0_l3 a0 a1 (0 : Int)) fun y0 =>
  some (y0)
def qa0 : List Instr → Int → Option (Int) := sealF (qa0_f)
def qaW_t7 (rec : Int → List Int → Int → List TBody → Int → Int → List Int → List ACode → Option (Int × Int × (List Int) × (List ACode))) (a0 : Int) (a1 : List Int) (a2 : Int) (a3 : List TBody) (a4 : Int) (a5 : Int) (a6 : List Int) (a7 : List ACode) : Option (Int × Int × (List Int) × (List ACode)) :=
  bif decide (a0 < (↑(List.length a3) : Int)) then
   bif decide (0 ≤ a0) then
    Option.bind (a3[Int.toNat a0]?) fun y0 =>
    bif decide (0 ≤ a0) then
     Option.bind (a3[Int.toNat a0]?) fun y1 =>
     Option.bind (qa1 (TBody.acts y1) (0 : Int) (TBody.regs y0) []) fun y2 =>
     Option.bind (qa4 (29 : Int) (0 : Int) (0 : Int) (0 : Int) y2.1 y2.2) fun y3 =>
     Option.bind (qa0 y3.2.2 y3.2.1) fun y4 =>
     bif decide ((List.length a7 + List.length [ACode.mk y4 y3.2.2]) * (32 : Nat) ≤ (140737488355328 : Nat) ∧ List.length a7 + List.length [ACode.mk y4 y3.2.2] ≤ (9223372036854775807 : Nat)) then
      rec (IntKind.wrap IntKind.i64 (a0 + (1 : Int))) (a1) (a2) (a3) (a4) (a5) (a6) (a7 ++ [ACode.mk y4 y3.2.2])
     else
      none
    else
     none
   else
    none
  else
   some ((a4), (a5), (a6), (a7))
def qaW_i7 : Nat → Int → List Int → Int → List TBody → Int → Int → List Int → List ACode → Option (Int × Int × (List Int) × (List ACode))
 | 0, _, _, _, _, _, _, _, _ => none
 | n + 1, a0, a1, a2, a3, a4, a5, a6, a7 => qaW_t7 (qaW_i7 n) a0 a1 a2 a3 a4 a5 a6 a7
def qaW_l7 : Int → List Int → Int → List TBody → Int → Int → List Int → List ACode → Option (Int × Int × (List Int) × (List ACode)) := sealF (qaW_i7 fuel)
def qaW_f (a0 : TUnit) : Option (Int × Int × (List Int) × (List ACode)) :=
  Option.bind (qaR (TUnit.mk (TUnit.cells a0) (TUnit.mutexes a0) (TUnit.threads a0))) fun y0 =>
  bif !y0 then
   some (((0 : Int)), ((1 : Int)), ([]), ([]))
  else
   bif decide (List.length (TUnit.cells a0) * (8 : Nat) ≤ (140737488355328 : Nat) ∧ List.length (TUnit.cells a0) ≤ (9223372036854775807 : Nat)) then
    Option.bind (qaW_l7 (0 : Int) (TUnit.cells a0) (TUnit.mutexes a0) (TUnit.threads a0) (0 : Int) (TUnit.mutexes a0) (TUnit.cells a0) []) fun y1 =>
    some (y1.2.1, ((0 : Int)), y1.2.2.1, y1.2.2.2)
   else
    none
def qaW : TUnit → Option (Int × Int × (List Int) × (List ACode)) := sealF (qaW_f)
def qaX_t4 (rec : Int → List Int → Int → List ACode → List Int → Int → List ACode → Option ((Bool) ⊕ ((List Int) × Int × (List ACode) × (List Int) × Int × (List ACode)))) (a0 : Int) (a1 : List Int) (a2 : Int) (a3 : List ACode) (a4 : List Int) (a5 : Int) (a6 : List ACode) : Option ((Bool) ⊕ ((List Int) × Int × (List ACode) × (List Int) × Int × (List ACode))) :=
  bif decide (a0 < (↑(List.length a1) : Int)) then
   bif decide (0 ≤ a0) then
    Option.bind (a1[Int.toNat a0]?) fun y0 =>
    bif decide (0 ≤ a0) then
     Option.bind (a4[Int.toNat a0]?) fun y1 =>
     bif y0 != y1 then
      some (.inl (false))
     else
      rec (IntKind.wrap IntKind.i64 (a0 + (1 : Int))) (a1) (a2) (a3) (a4) (a5) (a6)
    else
     none
   else
    none
  else
   some (.inr ((a1), (a2), (a3), (a4), (a5), (a6)))
def qaX_i4 : Nat → Int → List Int → Int → List ACode → List Int → Int → List ACode → Option ((Bool) ⊕ ((List Int) × Int × (List ACode) × (List Int) × Int × (List ACode)))
 | 0, _, _, _, _, _, _, _ => none
 | n + 1, a0, a1, a2, a3, a4, a5, a6 => qaX_t4 (qaX_i4 n) a0 a1 a2 a3 a4 a5 a6
def qaX_l4 : Int → List Int → Int → List ACode → List Int → Int → List ACode → Option ((Bool) ⊕ ((List Int) × Int × (List ACode) × (List Int) × Int × (List ACode))) := sealF (qaX_i4 fuel)
def qaX_t16 (rec : Int → Int → List Int → Int → List ACode → List Int → Int → List ACode → Int → List Instr → Int → List Instr → Option ((Bool) ⊕ (Int × (List Int) × Int × (List ACode) × (List Int) × Int × (List ACode)))) (a0 : Int) (a1 : Int) (a2 : List Int) (a3 : Int) (a4 : List ACode) (a5 : List Int) (a6 : Int) (a7 : List ACode) (a8 : Int) (a9 : List Instr) (a10 : Int) (a11 : List Instr) : Option ((Bool) ⊕ (Int × (List Int) × Int × (List ACode) × (List Int) × Int × (List ACode))) :=
  bif decide (a1 < (↑(List.length a9) : Int)) then
   bif decide (0 ≤ a1) then
    Option.bind (a9[Int.toNat a1]?) fun y0 =>
    bif decide (0 ≤ a1) then
     Option.bind (a11[Int.toNat a1]?) fun y1 =>
     bif !decide (y0 = y1) then
      some (.inl (false))
     else
      rec (a0) (IntKind.wrap IntKind.i64 (a1 + (1 : Int))) (a2) (a3) (a4) (a5) (a6) (a7) (a8) (a9) (a10) (a11)
    else
     none
   else
    none
  else
   some (.inr ((a0), (a2), (a3), (a4), (a5), (a6), (a7)))
def qaX_i16 : Nat → Int → Int → List Int → Int → List ACode → List Int → Int → List ACode → Int → List Instr → Int → List Instr → Option ((Bool) ⊕ (Int × (List Int) × Int × (List ACode) × (List Int) × Int × (List ACode)))
 | 0, _, _, _, _, _, _, _, _, _, _, _, _ => none
 | n + 1, a0, a1, a2, a3, a4, a5, a6, a7, a8, a9, a10, a11 => qaX_t16 (qaX_i16 n) a0 a1 a2 a3 a4 a5 a6 a7 a8 a9 a10 a11
def qaX_l16 : Int → Int → List Int → Int → List ACode → List Int → Int → List ACode → Int → List Instr → Int → List Instr → Option ((Bool) ⊕ (Int × (List Int) × Int × (List ACode) × (List Int) × Int × (List ACode))) := sealF (qaX_i16 fuel)
def qaX_t9 (rec : Int → List Int → Int → List ACode → List Int → Int → List ACode → Option ((Bool) ⊕ (Unit))) (a0 : Int) (a1 : List Int) (a2 : Int) (a3 : List ACode) (a4 : List Int) (a5 : Int) (a6 : List ACode) : Option ((Bool) ⊕ (Unit)) :=
  bif decide (a0 < (↑(List.length a3) : Int)) then
   bif decide (0 ≤ a0) then
    Option.bind (a3[Int.toNat a0]?) fun y0 =>
    bif decide (0 ≤ a0) then
     Option.bind (a6[Int.toNat a0]?) fun y1 =>
     Option.bind (α := Bool) (
       bif ACode.regs y0 != ACode.regs y1 then
        some (true)
       else
        some ((↑(List.length (ACode.instrs y0)) : Int) != (↑(List.length (ACode.instrs y1)) : Int))) fun y2 =>
     bif y2 then
      some (.inl (false))
     else
      Option.bind (qaX_l16 a0 (0 : Int) a1 a2 a3 a4 a5 a6 (ACode.regs y0) (ACode.instrs y0) (ACode.regs y1) (ACode.instrs y1)) fun y3 =>
      match y3 with
      | .inl y4 =>
       some (.inl (y4))
      | .inr y4 =>
       rec (IntKind.wrap IntKind.i64 (y4.1 + (1 : Int))) y4.2.1 y4.2.2.1 y4.2.2.2.1 y4.2.2.2.2.1 y4.2.2.2.2.2.1 y4.2.2.2.2.2.2
    else
     none
   else
    none
  else
   some (.inr ())
def qaX_i9 : Nat → Int → List Int → Int → List ACode → List Int → Int → List ACode → Option ((Bool) ⊕ (Unit))
 | 0, _, _, _, _, _, _, _ => none
 | n + 1, a0, a1, a2, a3, a4, a5, a6 => qaX_t9 (qaX_i9 n) a0 a1 a2 a3 a4 a5 a6
def qaX_l9 : Int → List Int → Int → List ACode → List Int → Int → List ACode → Option ((Bool) ⊕ (Unit)) := sealF (qaX_i9 fuel)
def qaX_f (a0 : Image) (a1 : Image) : Option (Bool) :=
  Option.bind (α := Bool) (
    bif Image.mutexes a0 != Image.mutexes a1 then
     some (true)
    else
     some ((↑(List.length (Image.cells a0)) : Int) != (↑(List.length (Image.cells a1)) : Int))) fun y0 =>
  Option.bind (α := Bool) (
    bif y0 then
     some (true)
    else
     some ((↑(List.length (Image.threads a0)) : Int) != (↑(List.length (Image.threads a1)) : Int))) fun y1 =>
  bif y1 then
   some (false)
  else
   Option.bind (qaX_l4 (0 : Int) (Image.cells a0) (Image.mutexes a0) (Image.threads a0) (Image.cells a1) (Image.mutexes a1) (Image.threads a1)) fun y2 =>
   match y2 with
   | .inl y3 =>
    some (y3)
   | .inr y3 =>
    Option.bind (qaX_l9 (0 : Int) y3.1 y3.2.1 y3.2.2.1 y3.2.2.2.1 y3.2.2.2.2.1 y3.2.2.2.2.2) fun y4 =>
    match y4 with
    | .inl y5 =>
     some (y5)
    | .inr y5 =>
     some (true)
def qaX : Image → Image → Option (Bool) := sealF (qaX_f)
def qaF_t6 (rec : Bool → Int → Int → Bool → Int → List Int → Int → List TBody → Int → Int → List Int → List ACode → List Int → List ACode → Option (Bool × Int × Int × Bool × (List Int) × Int × (List TBody) × Int × Int × (List Int) × (List ACode) × (List Int) × (List ACode))) (a0 : Bool) (a1 : Int) (a2 : Int) (a3 : Bool) (a4 : Int) (a5 : List Int) (a6 : Int) (a7 : List TBody) (a8 : Int) (a9 : Int) (a10 : List Int) (a11 : List ACode) (a12 : List Int) (a13 : List ACode) : Option (Bool × Int × Int × Bool × (List Int) × Int × (List TBody) × Int × Int × (List Int) × (List ACode) × (List Int) × (List ACode)) :=
  bif decide (a4 < (↑(List.length a12) : Int)) then
   bif decide (0 ≤ a4) && decide (a4 < (↑(List.length a12) : Int)) then
    Option.bind (a12[Int.toNat a4]?) fun y0 =>
    rec (a0) (a1) (a2) (a3) (IntKind.wrap IntKind.i64 (a4 + (1 : Int))) (a5) (a6) (a7) (a8) (a9) (a10) (a11) (List.set a12 (Int.toNat a4) (-77 : Int)) (a13)
   else
    none
  else
   some ((a0), (a1), (a2), (a3), (a5), (a6), (a7), (a8), (a9), (a10), (a11), (a12), (a13))
def qaF_i6 : Nat → Bool → Int → Int → Bool → Int → List Int → Int → List TBody → Int → Int → List Int → List ACode → List Int → List ACode → Option (Bool × Int × Int × Bool × (List Int) × Int × (List TBody) × Int × Int × (List Int) × (List ACode) × (List Int) × (List ACode))
 | 0, _, _, _, _, _, _, _, _, _, _, _, _, _, _ => none
 | n + 1, a0, a1, a2, a3, a4, a5, a6, a7, a8, a9, a10, a11, a12, a13 => qaF_t6 (qaF_i6 n) a0 a1 a2 a3 a4 a5 a6 a7 a8 a9 a10 a11 a12 a13
def qaF_l6 : Bool → Int → Int → Bool → Int → List Int → Int → List TBody → Int → Int → List Int → List ACode → List Int → List ACode → Option (Bool × Int × Int × Bool × (List Int) × Int × (List TBody) × Int × Int × (List Int) × (List ACode) × (List Int) × (List ACode)) := sealF (qaF_i6 fuel)
def qaF_t15 (rec : Bool → Int → Int → Bool → Int → Int → List Int → Int → List TBody → Int → Int → List Instr → List Int → List ACode → List Int → List ACode → Nat → Int → Option (Bool × Int × Int × Bool × Int × (List Int) × Int × (List TBody) × Int × Int × (List Int) × (List ACode) × (List Int) × (List ACode))) (a0 : Bool) (a1 : Int) (a2 : Int) (a3 : Bool) (a4 : Int) (a5 : Int) (a6 : List Int) (a7 : Int) (a8 : List TBody) (a9 : Int) (a10 : Int) (a11 : List Instr) (a12 : List Int) (a13 : List ACode) (a14 : List Int) (a15 : List ACode) (a16 : Nat) (a17 : Int) : Option (Bool × Int × Int × Bool × Int × (List Int) × Int × (List TBody) × Int × Int × (List Int) × (List ACode) × (List Int) × (List ACode)) :=
  bif decide (a5 < (↑(List.length a11) : Int)) then
   bif decide (0 ≤ a5) && decide (a5 < (↑(List.length a11) : Int)) then
    Option.bind (a11[Int.toNat a5]?) fun y0 =>
    rec (a0) (a1) (a2) (a3) (a4) (IntKind.wrap IntKind.i64 (a5 + (1 : Int))) (a6) (a7) (a8) (a9) (a10) (List.set a11 (Int.toNat a5) (Instr.mk (-77 : Int) (0 : Int) (0 : Int) (0 : Int))) (a12) (a13) (a14) (a15) (a16) (a17)
   else
    none
  else
   some ((a0), (a1), (a2), (a3), (a4), (a6), (a7), (a8), (a9), (a10), (a12), (a13), (a14), (List.set a15 a16 (ACode.mk a17 a11)))
def qaF_i15 : Nat → Bool → Int → Int → Bool → Int → Int → List Int → Int → List TBody → Int → Int → List Instr → List Int → List ACode → List Int → List ACode → Nat → Int → Option (Bool × Int × Int × Bool × Int × (List Int) × Int × (List TBody) × Int × Int × (List Int) × (List ACode) × (List Int) × (List ACode))
 | 0, _, _, _, _, _, _, _, _, _, _, _, _, _, _, _, _, _, _ => none
 | n + 1, a0, a1, a2, a3, a4, a5, a6, a7, a8, a9, a10, a11, a12, a13, a14, a15, a16, a17 => qaF_t15 (qaF_i15 n) a0 a1 a2 a3 a4 a5 a6 a7 a8 a9 a10 a11 a12 a13 a14 a15 a16 a17
def qaF_l15 : Bool → Int → Int → Bool → Int → Int → List Int → Int → List TBody → Int → Int → List Instr → List Int → List ACode → List Int → List ACode → Nat → Int → Option (Bool × Int × Int × Bool × Int × (List Int) × Int × (List TBody) × Int × Int × (List Int) × (List ACode) × (List Int) × (List ACode)) := sealF (qaF_i15 fuel)
def qaF_t11 (rec : Bool → Int → Int → Bool → Int → List Int → Int → List TBody → Int → Int → List Int → List ACode → List Int → List ACode → Option (Bool × Int × Int × Bool × (List Int) × Int × (List TBody) × Int × Int × (List Int) × (List ACode) × (List Int) × (List ACode))) (a0 : Bool) (a1 : Int) (a2 : Int) (a3 : Bool) (a4 : Int) (a5 : List Int) (a6 : Int) (a7 : List TBody) (a8 : Int) (a9 : Int) (a10 : List Int) (a11 : List ACode) (a12 : List Int) (a13 : List ACode) : Option (Bool × Int × Int × Bool × (List Int) × Int × (List TBody) × Int × Int × (List Int) × (List ACode) × (List Int) × (List ACode)) :=
  bif decide (a4 < (↑(List.length a13) : Int)) then
   bif decide (0 ≤ a4) && decide (a4 < (↑(List.length a13) : Int)) then
    Option.bind (a13[Int.toNat a4]?) fun y0 =>
    Option.bind (qaF_l15 a0 a1 a2 a3 a4 (0 : Int) a5 a6 a7 a8 a9 (ACode.instrs y0) a10 a11 a12 a13 (Int.toNat a4) (ACode.regs y0)) fun y1 =>
    bif decide ((0 : Int) ≤ y1.2.2.2.2.1) && decide (y1.2.2.2.2.1 < (↑(List.length y1.2.2.2.2.2.2.2.2.2.2.2.2.2) : Int)) then
     Option.bind (y1.2.2.2.2.2.2.2.2.2.2.2.2.2[Int.toNat y1.2.2.2.2.1]?) fun y2 =>
     rec y1.1 y1.2.1 y1.2.2.1 y1.2.2.2.1 (IntKind.wrap IntKind.i64 (y1.2.2.2.2.1 + (1 : Int))) y1.2.2.2.2.2.1 y1.2.2.2.2.2.2.1 y1.2.2.2.2.2.2.2.1 y1.2.2.2.2.2.2.2.2.1 y1.2.2.2.2.2.2.2.2.2.1 y1.2.2.2.2.2.2.2.2.2.2.1 y1.2.2.2.2.2.2.2.2.2.2.2.1 y1.2.2.2.2.2.2.2.2.2.2.2.2.1 (List.set y1.2.2.2.2.2.2.2.2.2.2.2.2.2 (Int.toNat y1.2.2.2.2.1) (ACode.mk (-77 : Int) []))
    else
     none
   else
    none
  else
   some ((a0), (a1), (a2), (a3), (a5), (a6), (a7), (a8), (a9), (a10), (a11), (a12), (a13))
def qaF_i11 : Nat → Bool → Int → Int → Bool → Int → List Int → Int → List TBody → Int → Int → List Int → List ACode → List Int → List ACode → Option (Bool × Int × Int × Bool × (List Int) × Int × (List TBody) × Int × Int × (List Int) × (List ACode) × (List Int) × (List ACode))
 | 0, _, _, _, _, _, _, _, _, _, _, _, _, _, _ => none
 | n + 1, a0, a1, a2, a3, a4, a5, a6, a7, a8, a9, a10, a11, a12, a13 => qaF_t11 (qaF_i11 n) a0 a1 a2 a3 a4 a5 a6 a7 a8 a9 a10 a11 a12 a13
def qaF_l11 : Bool → Int → Int → Bool → Int → List Int → Int → List TBody → Int → Int → List Int → List ACode → List Int → List ACode → Option (Bool × Int × Int × Bool × (List Int) × Int × (List TBody) × Int × Int × (List Int) × (List ACode) × (List Int) × (List ACode)) := sealF (qaF_i11 fuel)
def qaF_f (a0 : TUnit) : Option (Bool) :=
  Option.bind (qaG) fun y0 =>
  Option.bind (qaW (TUnit.mk (TUnit.cells a0) (TUnit.mutexes a0) (TUnit.threads a0))) fun y1 =>
  Option.bind (qaz (TUnit.mk (TUnit.cells a0) (TUnit.mutexes a0) (TUnit.threads a0))) fun y2 =>
  Option.bind (qaX (Image.mk y2.2.2.1 y2.1 y2.2.2.2) (Image.mk y1.2.2.1 y1.1 y1.2.2.2)) fun y3 =>
  Option.bind (qaF_l6 y0 y1.2.1 y2.2.1 y3 (0 : Int) (TUnit.cells a0) (TUnit.mutexes a0) (TUnit.threads a0) y1.1 y2.1 y1.2.2.1 y1.2.2.2 y2.2.2.1 y2.2.2.2) fun y4 =>
  bif decide ((List.length y4.2.2.2.2.2.2.2.2.2.2.2.1 + (1 : Nat)) * (8 : Nat) ≤ (140737488355328 : Nat) ∧ List.length y4.2.2.2.2.2.2.2.2.2.2.2.1 + (1 : Nat) ≤ (9223372036854775807 : Nat)) then
   Option.bind (qaF_l11 y4.1 y4.2.1 y4.2.2.1 y4.2.2.2.1 (0 : Int) y4.2.2.2.2.1 y4.2.2.2.2.2.1 y4.2.2.2.2.2.2.1 y4.2.2.2.2.2.2.2.1 y4.2.2.2.2.2.2.2.2.1 y4.2.2.2.2.2.2.2.2.2.1 y4.2.2.2.2.2.2.2.2.2.2.1 (y4.2.2.2.2.2.2.2.2.2.2.2.1 ++ [(-78 : Int)]) y4.2.2.2.2.2.2.2.2.2.2.2.2) fun y5 =>
   Option.bind (qaz (TUnit.mk y5.2.2.2.2.1 y5.2.2.2.2.2.1 y5.2.2.2.2.2.2.1)) fun y6 =>
   Option.bind (qaX (Image.mk y6.2.2.1 y6.1 y6.2.2.2) (Image.mk y5.2.2.2.2.2.2.2.2.2.1 y5.2.2.2.2.2.2.2.1 y5.2.2.2.2.2.2.2.2.2.2.1)) fun y7 =>
   Option.bind (α := Bool) (
     bif y5.1 then
      some (y5.2.2.1 == y5.2.1)
     else
      some (false)) fun y8 =>
   Option.bind (α := Bool) (
     bif y8 then
      some (y6.2.1 == y5.2.1)
     else
      some (false)) fun y9 =>
   Option.bind (α := Bool) (
     bif y9 then
      some y5.2.2.2.1
     else
      some (false)) fun y10 =>
   Option.bind (α := Bool) (
     bif y10 then
      some (y7)
     else
      some (false)) fun y11 =>
   Option.bind (α := Bool) (
     bif y11 then
      some (decide ((↑(List.length y5.2.2.2.2.2.2.2.2.2.2.2.1) : Int) > 0))
     else
      some (false)) fun y12 =>
   some (y12)
  else
   none
def qaF : TUnit → Option (Bool) := sealF (qaF_f)
end
end Lift.Fn
