/-
  DERIVED. The functions of this seat as Lean has them; the library's modes. Conditions: none.
-/
import Derived.Test.YtekhknlanlbncaaGreatDoorLiftC
import Derived.Test.YtekhknlanlbncaaGreatDoorProg
import Derived.KernelRfl
set_option linter.unusedVariables false
set_option linter.unusedSimpArgs false
set_option linter.unusedSectionVars false
namespace Lift.H2
open Go Go.RowKit Go.Proofs Lift
@[reducible] noncomputable def U (n:Nat):Type:=match n with
 |25=>TUnit
 |30=>Image
 |38=>Fault
 |43=>Instr
 |46=>ACode
 |51=>TProg
 |54=>TBody
 |59=>TThread
 |78=>Operation
 |87=>TExpr
 |89=>TAct
 |91=>TStmt
 |97=>Names
 |123=>TCell
 |126=>Namer
 |154=>Token
 |156=>Shape
 |193=>Spot
 |1025=>TUnit
 |1030=>Image
 |1046=>ACode
 |1051=>TProg
 |1054=>TBody
 |1059=>TThread
 |1087=>TExpr
 |1089=>TAct
 |1091=>TStmt
 |1097=>Names
 |1126=>Namer
 |_=>Empty
noncomputable def cells (n:Nat):U n→List (TV U):=match n with
 |25=>fun (x:TUnit)=>[⟨.slc (.int .i64),x.cells⟩,⟨.int .i64,x.mutexes⟩,⟨.slc (.st 54),x.threads⟩]
 |30=>fun (x:Image)=>[⟨.slc (.int .i64),x.cells⟩,⟨.int .i64,x.mutexes⟩,⟨.slc (.st 46),x.threads⟩]
 |38=>fun (x:Fault)=>[⟨.int .i64,x.code⟩,⟨.int .i64,x.at_⟩,⟨.str,x.name⟩]
 |43=>fun (x:Instr)=>[⟨.int .i64,x.op⟩,⟨.int .i64,x.a⟩,⟨.int .i64,x.b⟩,⟨.int .i64,x.c⟩]
 |46=>fun (x:ACode)=>[⟨.int .i64,x.regs⟩,⟨.slc (.st 43),x.instrs⟩]
 |51=>fun (x:TProg)=>[⟨.slc (.st 123),x.cells⟩,⟨.slc (.str),x.mutexes⟩,⟨.slc (.st 59),x.threads⟩]
 |54=>fun (x:TBody)=>[⟨.int .i64,x.regs⟩,⟨.slc (.st 89),x.acts⟩]
 |59=>fun (x:TThread)=>[⟨.str,x.name⟩,⟨.slc (.st 91),x.body⟩]
 |78=>fun (x:Operation)=>[⟨.str,x.word⟩,⟨.str,x.numbers⟩]
 |87=>fun (x:TExpr)=>[⟨.int .i64,x.kind⟩,⟨.int .i64,x.num⟩,⟨.str,x.name⟩,⟨.slc (.st 87),x.args⟩]
 |89=>fun (x:TAct)=>[⟨.int .i64,x.kind⟩,⟨.int .i64,x.reg⟩,⟨.int .i64,x.obj⟩,⟨.int .i64,x.expr.kind⟩,⟨.int .i64,x.expr.num⟩,⟨.str,x.expr.name⟩,⟨.slc (.st 87),x.expr.args⟩,⟨.int .i64,x.count⟩,⟨.slc (.st 89),x.then_⟩,⟨.slc (.st 89),x.else_⟩]
 |91=>fun (x:TStmt)=>[⟨.int .i64,x.kind⟩,⟨.str,x.reg⟩,⟨.str,x.name⟩,⟨.int .i64,x.expr.kind⟩,⟨.int .i64,x.expr.num⟩,⟨.str,x.expr.name⟩,⟨.slc (.st 87),x.expr.args⟩,⟨.int .i64,x.count⟩,⟨.slc (.st 91),x.then_⟩,⟨.slc (.st 91),x.else_⟩]
 |97=>fun (x:Names)=>[⟨.slc (.str),x.cells⟩,⟨.slc (.str),x.mutexes⟩,⟨.slc (.str),x.threads⟩,⟨.slc (.slc (.str)),x.regs⟩]
 |123=>fun (x:TCell)=>[⟨.str,x.name⟩,⟨.int .i64,x.init⟩]
 |126=>fun (x:Namer)=>[⟨.slc (.str),x.cells⟩,⟨.slc (.str),x.mutexes⟩,⟨.slc (.str),x.threads⟩,⟨.slc (.str),x.regs⟩]
 |154=>fun (x:Token)=>[⟨.int .i64,x.kind⟩,⟨.str,x.text⟩,⟨.int .i64,x.num⟩,⟨.int .i64,x.at_⟩]
 |156=>fun (x:Shape)=>[⟨.bool,x.reg⟩,⟨.bool,x.name⟩,⟨.bool,x.expr⟩,⟨.bool,x.count⟩,⟨.bool,x.then_⟩,⟨.bool,x.other⟩]
 |193=>fun (x:Spot)=>[⟨.int .i64,x.rune⟩,⟨.int .i64,x.at_⟩,⟨.int .i64,x.line⟩,⟨.int .i64,x.col⟩]
 |1025=>fun (x:TUnit)=>[⟨.own 3 (.int .i64),x.cells⟩,⟨.int .i64,x.mutexes⟩,⟨.own 54 (.st 1054),x.threads⟩]
 |1030=>fun (x:Image)=>[⟨.own 3 (.int .i64),x.cells⟩,⟨.int .i64,x.mutexes⟩,⟨.own 46 (.st 1046),x.threads⟩]
 |1046=>fun (x:ACode)=>[⟨.int .i64,x.regs⟩,⟨.own 43 (.st 43),x.instrs⟩]
 |1051=>fun (x:TProg)=>[⟨.own 123 (.st 123),x.cells⟩,⟨.own 9 (.str),x.mutexes⟩,⟨.own 59 (.st 1059),x.threads⟩]
 |1054=>fun (x:TBody)=>[⟨.int .i64,x.regs⟩,⟨.own 89 (.st 1089),x.acts⟩]
 |1059=>fun (x:TThread)=>[⟨.str,x.name⟩,⟨.own 91 (.st 1091),x.body⟩]
 |1087=>fun (x:TExpr)=>[⟨.int .i64,x.kind⟩,⟨.int .i64,x.num⟩,⟨.str,x.name⟩,⟨.own 87 (.st 1087),x.args⟩]
 |1089=>fun (x:TAct)=>[⟨.int .i64,x.kind⟩,⟨.int .i64,x.reg⟩,⟨.int .i64,x.obj⟩,⟨.int .i64,x.expr.kind⟩,⟨.int .i64,x.expr.num⟩,⟨.str,x.expr.name⟩,⟨.own 87 (.st 1087),x.expr.args⟩,⟨.int .i64,x.count⟩,⟨.own 89 (.st 1089),x.then_⟩,⟨.own 89 (.st 1089),x.else_⟩]
 |1091=>fun (x:TStmt)=>[⟨.int .i64,x.kind⟩,⟨.str,x.reg⟩,⟨.str,x.name⟩,⟨.int .i64,x.expr.kind⟩,⟨.int .i64,x.expr.num⟩,⟨.str,x.expr.name⟩,⟨.own 87 (.st 1087),x.expr.args⟩,⟨.int .i64,x.count⟩,⟨.own 91 (.st 1091),x.then_⟩,⟨.own 91 (.st 1091),x.else_⟩]
 |1097=>fun (x:Names)=>[⟨.own 9 (.str),x.cells⟩,⟨.own 9 (.str),x.mutexes⟩,⟨.own 9 (.str),x.threads⟩,⟨.own 48 (.own 9 (.str)),x.regs⟩]
 |1126=>fun (x:Namer)=>[⟨.own 9 (.str),x.cells⟩,⟨.own 9 (.str),x.mutexes⟩,⟨.own 9 (.str),x.threads⟩,⟨.own 9 (.str),x.regs⟩]
 |_=>fun _=>[]
noncomputable def ctys (n:Nat):List Ty:=match n with
 |25=>[.slc (.int .i64),.int .i64,.slc (.st 54)]
 |30=>[.slc (.int .i64),.int .i64,.slc (.st 46)]
 |38=>[.int .i64,.int .i64,.str]
 |43=>[.int .i64,.int .i64,.int .i64,.int .i64]
 |46=>[.int .i64,.slc (.st 43)]
 |51=>[.slc (.st 123),.slc (.str),.slc (.st 59)]
 |54=>[.int .i64,.slc (.st 89)]
 |59=>[.str,.slc (.st 91)]
 |78=>[.str,.str]
 |87=>[.int .i64,.int .i64,.str,.slc (.st 87)]
 |89=>[.int .i64,.int .i64,.int .i64,.int .i64,.int .i64,.str,.slc (.st 87),.int .i64,.slc (.st 89),.slc (.st 89)]
 |91=>[.int .i64,.str,.str,.int .i64,.int .i64,.str,.slc (.st 87),.int .i64,.slc (.st 91),.slc (.st 91)]
 |97=>[.slc (.str),.slc (.str),.slc (.str),.slc (.slc (.str))]
 |123=>[.str,.int .i64]
 |126=>[.slc (.str),.slc (.str),.slc (.str),.slc (.str)]
 |154=>[.int .i64,.str,.int .i64,.int .i64]
 |156=>[.bool,.bool,.bool,.bool,.bool,.bool]
 |193=>[.int .i64,.int .i64,.int .i64,.int .i64]
 |1025=>[.own 3 (.int .i64),.int .i64,.own 54 (.st 1054)]
 |1030=>[.own 3 (.int .i64),.int .i64,.own 46 (.st 1046)]
 |1046=>[.int .i64,.own 43 (.st 43)]
 |1051=>[.own 123 (.st 123),.own 9 (.str),.own 59 (.st 1059)]
 |1054=>[.int .i64,.own 89 (.st 1089)]
 |1059=>[.str,.own 91 (.st 1091)]
 |1087=>[.int .i64,.int .i64,.str,.own 87 (.st 1087)]
 |1089=>[.int .i64,.int .i64,.int .i64,.int .i64,.int .i64,.str,.own 87 (.st 1087),.int .i64,.own 89 (.st 1089),.own 89 (.st 1089)]
 |1091=>[.int .i64,.str,.str,.int .i64,.int .i64,.str,.own 87 (.st 1087),.int .i64,.own 91 (.st 1091),.own 91 (.st 1091)]
 |1097=>[.own 9 (.str),.own 9 (.str),.own 9 (.str),.own 48 (.own 9 (.str))]
 |1126=>[.own 9 (.str),.own 9 (.str),.own 9 (.str),.own 9 (.str)]
 |_=>[]
noncomputable def make (n:Nat):List (TV U)→Option (U n):=match n with
 |25=>fun|[⟨.slc (.int .i64),v0⟩,⟨.int .i64,v1⟩,⟨.slc (.st 54),v2⟩]=>some (TUnit.mk v0 v1 v2)|_=>none
 |30=>fun|[⟨.slc (.int .i64),v0⟩,⟨.int .i64,v1⟩,⟨.slc (.st 46),v2⟩]=>some (Image.mk v0 v1 v2)|_=>none
 |38=>fun|[⟨.int .i64,v0⟩,⟨.int .i64,v1⟩,⟨.str,v2⟩]=>some (Fault.mk v0 v1 v2)|_=>none
 |43=>fun|[⟨.int .i64,v0⟩,⟨.int .i64,v1⟩,⟨.int .i64,v2⟩,⟨.int .i64,v3⟩]=>some (Instr.mk v0 v1 v2 v3)|_=>none
 |46=>fun|[⟨.int .i64,v0⟩,⟨.slc (.st 43),v1⟩]=>some (ACode.mk v0 v1)|_=>none
 |51=>fun|[⟨.slc (.st 123),v0⟩,⟨.slc (.str),v1⟩,⟨.slc (.st 59),v2⟩]=>some (TProg.mk v0 v1 v2)|_=>none
 |54=>fun|[⟨.int .i64,v0⟩,⟨.slc (.st 89),v1⟩]=>some (TBody.mk v0 v1)|_=>none
 |59=>fun|[⟨.str,v0⟩,⟨.slc (.st 91),v1⟩]=>some (TThread.mk v0 v1)|_=>none
 |78=>fun|[⟨.str,v0⟩,⟨.str,v1⟩]=>some (Operation.mk v0 v1)|_=>none
 |87=>fun|[⟨.int .i64,v0⟩,⟨.int .i64,v1⟩,⟨.str,v2⟩,⟨.slc (.st 87),v3⟩]=>some (TExpr.mk v0 v1 v2 v3)|_=>none
 |89=>fun|[⟨.int .i64,v0⟩,⟨.int .i64,v1⟩,⟨.int .i64,v2⟩,⟨.int .i64,v3⟩,⟨.int .i64,v4⟩,⟨.str,v5⟩,⟨.slc (.st 87),v6⟩,⟨.int .i64,v7⟩,⟨.slc (.st 89),v8⟩,⟨.slc (.st 89),v9⟩]=>some (TAct.mk v0 v1 v2 (TExpr.mk v3 v4 v5 v6) v7 v8 v9)|_=>none
 |91=>fun|[⟨.int .i64,v0⟩,⟨.str,v1⟩,⟨.str,v2⟩,⟨.int .i64,v3⟩,⟨.int .i64,v4⟩,⟨.str,v5⟩,⟨.slc (.st 87),v6⟩,⟨.int .i64,v7⟩,⟨.slc (.st 91),v8⟩,⟨.slc (.st 91),v9⟩]=>some (TStmt.mk v0 v1 v2 (TExpr.mk v3 v4 v5 v6) v7 v8 v9)|_=>none
 |97=>fun|[⟨.slc (.str),v0⟩,⟨.slc (.str),v1⟩,⟨.slc (.str),v2⟩,⟨.slc (.slc (.str)),v3⟩]=>some (Names.mk v0 v1 v2 v3)|_=>none
 |123=>fun|[⟨.str,v0⟩,⟨.int .i64,v1⟩]=>some (TCell.mk v0 v1)|_=>none
 |126=>fun|[⟨.slc (.str),v0⟩,⟨.slc (.str),v1⟩,⟨.slc (.str),v2⟩,⟨.slc (.str),v3⟩]=>some (Namer.mk v0 v1 v2 v3)|_=>none
 |154=>fun|[⟨.int .i64,v0⟩,⟨.str,v1⟩,⟨.int .i64,v2⟩,⟨.int .i64,v3⟩]=>some (Token.mk v0 v1 v2 v3)|_=>none
 |156=>fun|[⟨.bool,v0⟩,⟨.bool,v1⟩,⟨.bool,v2⟩,⟨.bool,v3⟩,⟨.bool,v4⟩,⟨.bool,v5⟩]=>some (Shape.mk v0 v1 v2 v3 v4 v5)|_=>none
 |193=>fun|[⟨.int .i64,v0⟩,⟨.int .i64,v1⟩,⟨.int .i64,v2⟩,⟨.int .i64,v3⟩]=>some (Spot.mk v0 v1 v2 v3)|_=>none
 |1025=>fun|[⟨.own 3 (.int .i64),v0⟩,⟨.int .i64,v1⟩,⟨.own 54 (.st 1054),v2⟩]=>some (TUnit.mk v0 v1 v2)|_=>none
 |1030=>fun|[⟨.own 3 (.int .i64),v0⟩,⟨.int .i64,v1⟩,⟨.own 46 (.st 1046),v2⟩]=>some (Image.mk v0 v1 v2)|_=>none
 |1046=>fun|[⟨.int .i64,v0⟩,⟨.own 43 (.st 43),v1⟩]=>some (ACode.mk v0 v1)|_=>none
 |1051=>fun|[⟨.own 123 (.st 123),v0⟩,⟨.own 9 (.str),v1⟩,⟨.own 59 (.st 1059),v2⟩]=>some (TProg.mk v0 v1 v2)|_=>none
 |1054=>fun|[⟨.int .i64,v0⟩,⟨.own 89 (.st 1089),v1⟩]=>some (TBody.mk v0 v1)|_=>none
 |1059=>fun|[⟨.str,v0⟩,⟨.own 91 (.st 1091),v1⟩]=>some (TThread.mk v0 v1)|_=>none
 |1087=>fun|[⟨.int .i64,v0⟩,⟨.int .i64,v1⟩,⟨.str,v2⟩,⟨.own 87 (.st 1087),v3⟩]=>some (TExpr.mk v0 v1 v2 v3)|_=>none
 |1089=>fun|[⟨.int .i64,v0⟩,⟨.int .i64,v1⟩,⟨.int .i64,v2⟩,⟨.int .i64,v3⟩,⟨.int .i64,v4⟩,⟨.str,v5⟩,⟨.own 87 (.st 1087),v6⟩,⟨.int .i64,v7⟩,⟨.own 89 (.st 1089),v8⟩,⟨.own 89 (.st 1089),v9⟩]=>some (TAct.mk v0 v1 v2 (TExpr.mk v3 v4 v5 v6) v7 v8 v9)|_=>none
 |1091=>fun|[⟨.int .i64,v0⟩,⟨.str,v1⟩,⟨.str,v2⟩,⟨.int .i64,v3⟩,⟨.int .i64,v4⟩,⟨.str,v5⟩,⟨.own 87 (.st 1087),v6⟩,⟨.int .i64,v7⟩,⟨.own 91 (.st 1091),v8⟩,⟨.own 91 (.st 1091),v9⟩]=>some (TStmt.mk v0 v1 v2 (TExpr.mk v3 v4 v5 v6) v7 v8 v9)|_=>none
 |1097=>fun|[⟨.own 9 (.str),v0⟩,⟨.own 9 (.str),v1⟩,⟨.own 9 (.str),v2⟩,⟨.own 48 (.own 9 (.str)),v3⟩]=>some (Names.mk v0 v1 v2 v3)|_=>none
 |1126=>fun|[⟨.own 9 (.str),v0⟩,⟨.own 9 (.str),v1⟩,⟨.own 9 (.str),v2⟩,⟨.own 9 (.str),v3⟩]=>some (Namer.mk v0 v1 v2 v3)|_=>none
 |_=>fun _=>none
def pn (n:Nat):Nat:=match n with
 |1025=>25
 |1030=>30
 |1046=>46
 |1051=>51
 |1054=>54
 |1059=>59
 |1087=>87
 |1089=>89
 |1091=>91
 |1097=>97
 |1126=>126
 |n=>n
def closed (n:Nat):Bool:=match n with
 |1025=>true
 |1030=>true
 |1046=>true
 |1051=>true
 |1054=>true
 |1059=>true
 |1087=>true
 |1089=>true
 |1091=>true
 |1126=>true
 |38=>true
 |43=>true
 |78=>true
 |123=>true
 |154=>true
 |156=>true
 |193=>true
 |_=>false
def ids:List Nat:=[25,30,38,43,46,51,54,59,78,87,89,91,97,123,126,154,156,193,1025,1030,1046,1051,1054,1059,1087,1089,1091,1097,1126]
theorem zafb {n:Nat} (h:n∉ids):(∀ x,cells n x=[])∧ctys n=[]∧pn n=n∧closed n=false:=by
 refine ⟨?_,?_,?_,?_⟩
 ·intro x; unfold cells; split<;>first|rfl|exact absurd (by decide) h
 ·unfold ctys; split<;>first|rfl|exact absurd (by decide) h
 ·unfold pn; split<;>first|rfl|exact absurd (by decide) h
 ·unfold closed; split<;>first|rfl|exact absurd (by decide) h
theorem zam6 {P:Nat→Prop} (h1:∀ n∈ids,P n) (h2:∀ n,n∉ids→P n) (n:Nat):P n:=by
 by_cases h:n∈ids
 ·exact h1 n h
 ·exact h2 n h
theorem pd:∀ n,U (pn n)=U n:=zam6 (by unfold ids; simp only[List.forall_mem_cons]; exact ⟨rfl,rfl,rfl,rfl,rfl,rfl,rfl,rfl,rfl,rfl,rfl,rfl,rfl,rfl,rfl,rfl,rfl,rfl,rfl,rfl,rfl,rfl,rfl,rfl,rfl,rfl,rfl,rfl,rfl,fun n h=>by cases h⟩) (fun n h=>by rw[(zafb h).2.2.1])
theorem pc : ∀ n (x : U n), cells (pn n) (cast (pd n).symm x) = (cells n x).map (TV.plain pd) := zam6 (by unfold ids; simp only [List.forall_mem_cons]; exact ⟨fun _ => rfl, fun _ => rfl, fun _ => rfl, fun _ => rfl, fun _ => rfl, fun _ => rfl, fun _ => rfl, fun _ => rfl, fun _ => rfl, fun _ => rfl, fun _ => rfl, fun _ => rfl, fun _ => rfl, fun _ => rfl, fun _ => rfl, fun _ => rfl, fun _ => rfl, fun _ => rfl, fun _ => rfl, fun _ => rfl, fun _ => rfl, fun _ => rfl, fun _ => rfl, fun _ => rfl, fun _ => rfl, fun _ => rfl, fun _ => rfl, fun _ => rfl, fun _ => rfl, fun n h => by cases h⟩)
 (fun n h x=>by rw[(zafb h).1 x]; exact (zafb (n:=pn n) (by rw[(zafb h).2.2.1]; exact h)).1 _)
theorem pt : ∀ n, ctys (pn n) = (ctys n).map (Ty.plain pn) := zam6 (by unfold ids; simp only [List.forall_mem_cons]; exact ⟨rfl, rfl, rfl, rfl, rfl, rfl, rfl, rfl, rfl, rfl, rfl, rfl, rfl, rfl, rfl, rfl, rfl, rfl, rfl, rfl, rfl, rfl, rfl, rfl, rfl, rfl, rfl, rfl, rfl, fun n h => by cases h⟩)
 (fun n h=>by rw[(zafb h).2.2.1,(zafb h).2.1]; rfl)
theorem closed_ok:∀ n,closed n=true→∀ t∈ctys n,(match t with
  |.int _=>true|.bool=>true|.str=>true|.err=>true|.fn=>true
  |.own _ (.st m)=>closed m
  |.own _ e=>match e with|.int _=>true|.bool=>true|.str=>true|_=>false
  |_=>false)=true:=zam6 (by unfold ids; simp only[List.forall_mem_cons]; exact ⟨fun h=>(by cases h),fun h=>(by cases h),fun _=>List.all_eq_true.1 (by rfl),fun _=>List.all_eq_true.1 (by rfl),fun h=>(by cases h),fun h=>(by cases h),fun h=>(by cases h),fun h=>(by cases h),fun _=>List.all_eq_true.1 (by rfl),fun h=>(by cases h),fun h=>(by cases h),fun h=>(by cases h),fun h=>(by cases h),fun _=>List.all_eq_true.1 (by rfl),fun h=>(by cases h),fun _=>List.all_eq_true.1 (by rfl),fun _=>List.all_eq_true.1 (by rfl),fun _=>List.all_eq_true.1 (by rfl),fun _=>List.all_eq_true.1 (by rfl),fun _=>List.all_eq_true.1 (by rfl),fun _=>List.all_eq_true.1 (by rfl),fun _=>List.all_eq_true.1 (by rfl),fun _=>List.all_eq_true.1 (by rfl),fun _=>List.all_eq_true.1 (by rfl),fun _=>List.all_eq_true.1 (by rfl),fun _=>List.all_eq_true.1 (by rfl),fun _=>List.all_eq_true.1 (by rfl),fun h=>(by cases h),fun _=>List.all_eq_true.1 (by rfl),fun n h=>by cases h⟩)
 (fun n h hc=>by rw[(zafb h).2.2.2] at hc; cases hc)
@[reducible] noncomputable def uni:Uni where
 U:=U
 cells:=cells
 ctys:=ctys
 make:=make
 make_ok:=by
  intro n cs x h;unfold make at h;split at h
  ·dsimp only at h;split at h
   ·cases h; rfl
   ·cases h
  ·dsimp only at h;split at h
   ·cases h; rfl
   ·cases h
  ·dsimp only at h;split at h
   ·cases h; rfl
   ·cases h
  ·dsimp only at h;split at h
   ·cases h; rfl
   ·cases h
  ·dsimp only at h;split at h
   ·cases h; rfl
   ·cases h
  ·dsimp only at h;split at h
   ·cases h; rfl
   ·cases h
  ·dsimp only at h;split at h
   ·cases h; rfl
   ·cases h
  ·dsimp only at h;split at h
   ·cases h; rfl
   ·cases h
  ·dsimp only at h;split at h
   ·cases h; rfl
   ·cases h
  ·dsimp only at h;split at h
   ·cases h; rfl
   ·cases h
  ·dsimp only at h;split at h
   ·cases h; rfl
   ·cases h
  ·dsimp only at h;split at h
   ·cases h; rfl
   ·cases h
  ·dsimp only at h;split at h
   ·cases h; rfl
   ·cases h
  ·dsimp only at h;split at h
   ·cases h; rfl
   ·cases h
  ·dsimp only at h;split at h
   ·cases h; rfl
   ·cases h
  ·dsimp only at h;split at h
   ·cases h; rfl
   ·cases h
  ·dsimp only at h;split at h
   ·cases h; rfl
   ·cases h
  ·dsimp only at h;split at h
   ·cases h; rfl
   ·cases h
  ·dsimp only at h;split at h
   ·cases h; rfl
   ·cases h
  ·dsimp only at h;split at h
   ·cases h; rfl
   ·cases h
  ·dsimp only at h;split at h
   ·cases h; rfl
   ·cases h
  ·dsimp only at h;split at h
   ·cases h; rfl
   ·cases h
  ·dsimp only at h;split at h
   ·cases h; rfl
   ·cases h
  ·dsimp only at h;split at h
   ·cases h; rfl
   ·cases h
  ·dsimp only at h;split at h
   ·cases h; rfl
   ·cases h
  ·dsimp only at h;split at h
   ·cases h; rfl
   ·cases h
  ·dsimp only at h;split at h
   ·cases h; rfl
   ·cases h
  ·dsimp only at h;split at h
   ·cases h; rfl
   ·cases h
  ·dsimp only at h;split at h
   ·cases h; rfl
   ·cases h
  ·cases h
 tys_ok:=by
  intro n x;unfold cells ctys;split<;>rfl
 pn:=pn
 pd:=pd
 pc:=pc
 pt:=pt
 closed:=closed
 closed_ok:=closed_ok
 flat_ok:=by
  intro n t h;have:∀ n,(ctys n).all Ty.flat=true:=by
   intro n;unfold ctys;split<;>rfl
  exact List.all_eq_true.1 (this n) t h
noncomputable def tyOf:TypeId→Option Ty
 |1=>some (.fn)
 |2=>some (.int .i64)
 |3=>some (.int .i64)
 |4=>some (.bool)
 |5=>some (.int .u8)
 |6=>some (.int .u8)
 |9=>some (.str)
 |10=>some (.str)
 |11=>some (.str)
 |12=>some (.int .u64)
 |21=>some (.int .i32)
 |22=>some (.slc (.int .i64))
 |23=>some (.slc (.st 54))
 |25=>some (.st 25)
 |26=>some (.fn)
 |27=>some (.fn)
 |28=>some (.slc (.st 46))
 |30=>some (.st 30)
 |31=>some (.int .i64)
 |33=>some (.fn)
 |34=>some (.fn)
 |36=>some (.fn)
 |38=>some (.st 38)
 |40=>some (.fn)
 |41=>some (.fn)
 |43=>some (.st 43)
 |44=>some (.slc (.st 43))
 |46=>some (.st 46)
 |47=>some (.slc (.st 123))
 |48=>some (.slc (.str))
 |49=>some (.slc (.st 59))
 |51=>some (.st 51)
 |52=>some (.slc (.st 89))
 |54=>some (.st 54)
 |55=>some (.fn)
 |56=>some (.slc (.st 91))
 |57=>some (.fn)
 |59=>some (.st 59)
 |60=>some (.fn)
 |61=>some (.fn)
 |65=>some (.fn)
 |66=>some (.fn)
 |67=>some (.fn)
 |68=>some (.fn)
 |69=>some (.fn)
 |71=>some (.slc (.int .u8))
 |74=>some (.slc (.st 78))
 |75=>some (.fn)
 |76=>some (.fn)
 |78=>some (.st 78)
 |79=>some (.fn)
 |81=>some (.fn)
 |82=>some (.fn)
 |84=>some (.fn)
 |85=>some (.slc (.st 87))
 |87=>some (.st 87)
 |89=>some (.st 89)
 |91=>some (.st 91)
 |92=>some (.fn)
 |93=>some (.fn)
 |94=>some (.fn)
 |95=>some (.slc (.slc (.str)))
 |97=>some (.st 97)
 |98=>some (.fn)
 |99=>some (.fn)
 |100=>some (.fn)
 |102=>some (.err)
 |104=>some (.fn)
 |105=>some (.fn)
 |106=>some (.fn)
 |109=>some (.fn)
 |110=>some (.fn)
 |111=>some (.fn)
 |116=>some (.fn)
 |117=>some (.fn)
 |118=>some (.fn)
 |119=>some (.fn)
 |120=>some (.fn)
 |121=>some (.fn)
 |123=>some (.st 123)
 |124=>some (.fn)
 |126=>some (.st 126)
 |127=>some (.fn)
 |128=>some (.fn)
 |129=>some (.fn)
 |130=>some (.fn)
 |132=>some (.fn)
 |133=>some (.fn)
 |134=>some (.fn)
 |135=>some (.fn)
 |136=>some (.fn)
 |139=>some (.fn)
 |140=>some (.fn)
 |141=>some (.fn)
 |142=>some (.fn)
 |144=>some (.fn)
 |145=>some (.fn)
 |146=>some (.fn)
 |147=>some (.int .u64)
 |148=>some (.fn)
 |149=>some (.fn)
 |150=>some (.slc (.st 154))
 |152=>some (.fn)
 |154=>some (.st 154)
 |156=>some (.st 156)
 |158=>some (.map (.int .i64) (.st 156))
 |159=>some (.fn)
 |160=>some (.fn)
 |161=>some (.fn)
 |163=>some (.int .u64)
 |164=>some (.fn)
 |165=>some (.fn)
 |167=>some (.fn)
 |168=>some (.int .u32)
 |170=>some (.fn)
 |171=>some (.fn)
 |172=>some (.fn)
 |173=>some (.slc (.st 193))
 |175=>some (.fn)
 |176=>some (.fn)
 |178=>some (.fn)
 |179=>some (.fn)
 |182=>some (.fn)
 |184=>some (.fn)
 |185=>some (.int .i64)
 |187=>some (.fn)
 |189=>some (.fn)
 |190=>some (.fn)
 |191=>some (.fn)
 |193=>some (.st 193)
 |195=>some (.fn)
 |196=>some (.fn)
 |197=>some (.fn)
 |198=>some (.fn)
 |199=>some (.fn)
 |200=>some (.fn)
 |202=>some (.fn)
 |205=>some (.fn)
 |206=>some (.fn)
 |207=>some (.fn)
 |214=>some (.fn)
 |218=>some (.fn)
 |222=>some (.fn)
 |223=>some (.fn)
 |225=>some (.fn)
 |226=>some (.fn)
 |227=>some (.fn)
 |233=>some (.fn)
 |234=>some (.int .u8)
 |235=>some (.int .u8)
 |236=>some (.fn)
 |237=>some (.int .i32)
 |238=>some (.int .i32)
 |_=>none
noncomputable def eqOf (T:TypeId) (n:Nat):Option (U n→U n→Bool):=match n with
 |38=>bif Nat.beq T 38 then some fun (a b:Fault)=>decide (a=b) else none
 |43=>bif Nat.beq T 43 then some fun (a b:Instr)=>decide (a=b) else none
 |78=>bif Nat.beq T 78 then some fun (a b:Operation)=>decide (a=b) else none
 |123=>bif Nat.beq T 123 then some fun (a b:TCell)=>decide (a=b) else none
 |154=>bif Nat.beq T 154 then some fun (a b:Token)=>decide (a=b) else none
 |156=>bif Nat.beq T 156 then some fun (a b:Shape)=>decide (a=b) else none
 |193=>bif Nat.beq T 193 then some fun (a b:Spot)=>decide (a=b) else none
 |_=>none
noncomputable def deepOf:TypeId→Option Ty
 |22=>some (.own 3 (.int .i64))
 |23=>some (.own 54 (.st 1054))
 |25=>some (.st 1025)
 |28=>some (.own 46 (.st 1046))
 |30=>some (.st 1030)
 |44=>some (.own 43 (.st 43))
 |46=>some (.st 1046)
 |47=>some (.own 123 (.st 123))
 |48=>some (.own 9 (.str))
 |49=>some (.own 59 (.st 1059))
 |51=>some (.st 1051)
 |52=>some (.own 89 (.st 1089))
 |54=>some (.st 1054)
 |56=>some (.own 91 (.st 1091))
 |59=>some (.st 1059)
 |71=>some (.own 5 (.int .u8))
 |74=>some (.own 78 (.st 78))
 |85=>some (.own 87 (.st 1087))
 |87=>some (.st 1087)
 |89=>some (.st 1089)
 |91=>some (.st 1091)
 |95=>some (.own 48 (.own 9 (.str)))
 |97=>some (.st 1097)
 |126=>some (.st 1126)
 |150=>some (.own 154 (.st 154))
 |173=>some (.own 193 (.st 193))
 |_=>none
@[reducible] noncomputable def kk:Kit:={ P:=Tryz.prog,u:=uni,tyOf,eqOf,modes:=fun _=>[],deepOf }
theorem eqOk:EqOk kk:=by
 refine zawf fun T n f h=>?_
 change eqOf T n=some f at h
 change zagc Tryz.prog T (ctys n)=true∧∀ a b:U n,f a b=zabn (cells n a) (cells n b)
 unfold eqOf at h;split at h
 ·cases hb:Nat.beq T 38 with
  |true=>
   rw[hb] at h;cases Nat.eq_of_beq_eq_true hb;cases h;refine ⟨by kernel_rfl,?_⟩;rintro ⟨a0,a1,a2⟩ ⟨b0,b1,b2⟩
   simp[cells,zabn,zacz,cond_eq_ite,Bool.decide_and]
  |false=>rw[hb] at h; cases h
 ·cases hb:Nat.beq T 43 with
  |true=>
   rw[hb] at h;cases Nat.eq_of_beq_eq_true hb;cases h;refine ⟨by kernel_rfl,?_⟩;rintro ⟨a0,a1,a2,a3⟩ ⟨b0,b1,b2,b3⟩
   simp[cells,zabn,zacz,cond_eq_ite,Bool.decide_and]
  |false=>rw[hb] at h; cases h
 ·cases hb:Nat.beq T 78 with
  |true=>
   rw[hb] at h;cases Nat.eq_of_beq_eq_true hb;cases h;refine ⟨by kernel_rfl,?_⟩;rintro ⟨a0,a1⟩ ⟨b0,b1⟩
   simp[cells,zabn,zacz,cond_eq_ite,Bool.decide_and]
  |false=>rw[hb] at h; cases h
 ·cases hb:Nat.beq T 123 with
  |true=>
   rw[hb] at h;cases Nat.eq_of_beq_eq_true hb;cases h;refine ⟨by kernel_rfl,?_⟩;rintro ⟨a0,a1⟩ ⟨b0,b1⟩
   simp[cells,zabn,zacz,cond_eq_ite,Bool.decide_and]
  |false=>rw[hb] at h; cases h
 ·cases hb:Nat.beq T 154 with
  |true=>
   rw[hb] at h;cases Nat.eq_of_beq_eq_true hb;cases h;refine ⟨by kernel_rfl,?_⟩;rintro ⟨a0,a1,a2,a3⟩ ⟨b0,b1,b2,b3⟩
   simp[cells,zabn,zacz,cond_eq_ite,Bool.decide_and]
  |false=>rw[hb] at h; cases h
 ·cases hb:Nat.beq T 156 with
  |true=>
   rw[hb] at h;cases Nat.eq_of_beq_eq_true hb;cases h;refine ⟨by kernel_rfl,?_⟩;rintro ⟨a0,a1,a2,a3,a4,a5⟩ ⟨b0,b1,b2,b3,b4,b5⟩
   simp[cells,zabn,zacz,cond_eq_ite,Bool.decide_and]
  |false=>rw[hb] at h; cases h
 ·cases hb:Nat.beq T 193 with
  |true=>
   rw[hb] at h;cases Nat.eq_of_beq_eq_true hb;cases h;refine ⟨by kernel_rfl,?_⟩;rintro ⟨a0,a1,a2,a3⟩ ⟨b0,b1,b2,b3⟩
   simp[cells,zabn,zacz,cond_eq_ite,Bool.decide_and]
  |false=>rw[hb] at h; cases h
 ·cases h
theorem mixed:kk.P.follows .mixedOrders=true:=by kernel_rfl
end Lift.H2
namespace Lift.H2
noncomputable section
open Go Go.RowKit Go.Proofs Lift Lift.Fn
def strings_Contains_md:Mode U:=⟨⟨⟨[0,1],[],[]⟩,[.t (.str),.t (.str)],[]⟩,[],[⟨⟨[0],[],[]⟩,[.t (.bool)],[]⟩],fun ls=>match ls with|[⟨.str,a0⟩,⟨.str,a1⟩]=>.get (strings_Contains a0 a1) (fun r=>.ret (0,[⟨.bool,r⟩]))|_=>.fail⟩
def unicode_utf8_DecodeRuneInString_md:Mode U:=⟨⟨⟨[0],[],[]⟩,[.t (.str)],[]⟩,[],[⟨⟨[0,1],[],[]⟩,[.t (.int .i32),.t (.int .i64)],[]⟩],fun ls=>match ls with|[⟨.str,a0⟩]=>.get (zaaz a0) (fun r=>.ret (0,[⟨.int .i32,r.1⟩,⟨.int .i64,r.2⟩]))|_=>.fail⟩
def unicode_utf8_RuneCountInString_md:Mode U:=⟨⟨⟨[0],[],[]⟩,[.t (.str)],[]⟩,[],[⟨⟨[0],[],[]⟩,[.t (.int .i64)],[]⟩],fun ls=>match ls with|[⟨.str,a0⟩]=>.get (zaa0 a0) (fun r=>.ret (0,[⟨.int .i64,r⟩]))|_=>.fail⟩
def strings_Trim_md:Mode U:=⟨⟨⟨[0,1],[],[]⟩,[.t (.str),.t (.str)],[]⟩,[],[⟨⟨[0],[],[]⟩,[.t (.str)],[]⟩],fun ls=>match ls with|[⟨.str,a0⟩,⟨.str,a1⟩]=>.get (zac8 a0 a1) (fun r=>.ret (0,[⟨.str,r⟩]))|_=>.fail⟩
def strings_Cut_md:Mode U:=⟨⟨⟨[0,1],[],[]⟩,[.t (.str),.t (.str)],[]⟩,[],[⟨⟨[0,1,2],[],[]⟩,[.t (.str),.t (.str),.t (.bool)],[]⟩],fun ls=>match ls with|[⟨.str,a0⟩,⟨.str,a1⟩]=>.get (strings_Cut a0 a1) (fun r=>.ret (0,[⟨.str,r.1⟩,⟨.str,r.2.1⟩,⟨.bool,r.2.2⟩]))|_=>.fail⟩
def strings_Split_md:Mode U:=⟨⟨⟨[0,1],[],[]⟩,[.t (.str),.t (.str)],[]⟩,[],[⟨⟨[0],[],[]⟩,[.t (.slc .str)],[]⟩],fun ls=>match ls with|[⟨.str,a0⟩,⟨.str,a1⟩]=>.get (strings_Split a0 a1) (fun r=>.ret (0,[⟨.slc .str,r⟩]))|_=>.fail⟩
def strconv_Atoi_md:Mode U:=⟨⟨⟨[0],[],[]⟩,[.t (.str)],[]⟩,[],[⟨⟨[0,1],[],[]⟩,[.t (.int .i64),.t (.err)],[]⟩],fun ls=>match ls with|[⟨.str,a0⟩]=>.get (zabx a0) (fun r=>.ret (0,[⟨.int .i64,r.1⟩,⟨.err,r.2⟩]))|_=>.fail⟩
def strconv_ItoaW_md:Mode U:=⟨⟨⟨[0],[],[]⟩,[.t (.int .i64)],[]⟩,[],[⟨⟨[0],[],[]⟩,[.t (.str)],[]⟩],fun ls=>match ls with|[⟨.int .i64,a0⟩]=>.get (zaco a0) (fun r=>.ret (0,[⟨.str,r⟩]))|_=>.fail⟩
def strings_Builder_copyCheck_md:Mode U:=⟨⟨⟨[0],[100000],[⟨.cell 100000 1,200001,5,.int .u8⟩]⟩,[.ptr 100000 0],[.blk 73 [.selfp 100000,.oslc 200001],.row 5 (.int .u8)]⟩,[⟨100000,.slot 0,[]⟩],[⟨⟨[],[100000],[⟨.cell 100000 1,200001,5,.int .u8⟩]⟩,[],[.blk 73 [.selfp 100000,.oslc 200001],.row 5 (.int .u8)]⟩],fun ls=>match ls with|[⟨.slc (.int .u8),l⟩]=>.ret (0,[⟨.slc (.int .u8),l⟩])|_=>.fail⟩
def strings_Builder_String_md:Mode U:=⟨⟨⟨[0],[100000],[⟨.cell 100000 1,200001,5,.int .u8⟩]⟩,[.ptr 100000 0],[.blk 73 [.selfp 100000,.oslc 200001],.row 5 (.int .u8)]⟩,[⟨100000,.slot 0,[]⟩],[⟨⟨[0],[],[]⟩,[.t .str],[]⟩],fun ls=>match ls with|[⟨.slc (.int .u8),l⟩]=>.get (zabp l) (fun r=>.ret (0,[⟨.str,r⟩]))|_=>.fail⟩
def ms0:List (FuncId×Mode U):=[]
def ms1:List (FuncId×Mode U):=(136,strings_Contains_md)::ms0
def ms2:List (FuncId×Mode U):=(111,unicode_utf8_DecodeRuneInString_md)::ms1
def ms3:List (FuncId×Mode U):=(110,unicode_utf8_RuneCountInString_md)::ms2
def ms4:List (FuncId×Mode U):=(137,strings_Trim_md)::ms3
def ms5:List (FuncId×Mode U):=(26,strings_Cut_md)::ms4
def ms6:List (FuncId×Mode U):=(60,strings_Split_md)::ms5
def ms7:List (FuncId×Mode U):=(83,strconv_Atoi_md)::ms6
def ms8:List (FuncId×Mode U):=(36,strconv_ItoaW_md)::ms7
def ms9:List (FuncId×Mode U):=(57,strings_Builder_copyCheck_md)::ms8
def ms10:List (FuncId×Mode U):=(25,strings_Builder_String_md)::ms9
end
end Lift.H2
namespace Go.Proofs
open Go.Shelf Go.RowKit
def Tryz.laysContains_ren:Go.Shelf.Ren:=⟨fun|144=>136|143=>97|219=>59|217=>78|225=>79|224=>80|267=>81|266=>93|314=>94|n=>n,fun|9=>9|4=>4|3=>3|5=>5|46=>147|146=>169|51=>168|n=>n,fun|1=>0|n=>n⟩
theorem Tryz.laysContains:Go.Proofs.LaysM.n144 Tryz.prog Tryz.laysContains_ren where
 mixed:=by kernel_rfl
 f143:=Tryz.func97.trans (congrArg some (by kernel_rfl))
 f144:=Tryz.func136.trans (congrArg some (by kernel_rfl))
 f217:=Tryz.func78.trans (congrArg some (by kernel_rfl))
 f219:=Tryz.func59.trans (congrArg some (by kernel_rfl))
 f224:=Tryz.func80.trans (congrArg some (by kernel_rfl))
 f225:=Tryz.func79.trans (congrArg some (by kernel_rfl))
 f266:=Tryz.func93.trans (congrArg some (by kernel_rfl))
 f267:=Tryz.func81.trans (congrArg some (by kernel_rfl))
 f314:=Tryz.func94.trans (congrArg some (by kernel_rfl))
 t3:=Tryz.underlying3
 a3:=Tryz.isAgg3
 z3:=Tryz.sizeOf3
 v3:=Tryz.zeroValue3
 t4:=Tryz.underlying4
 a4:=Tryz.isAgg4
 z4:=Tryz.sizeOf4
 v4:=Tryz.zeroValue4
 t5:=Tryz.underlying5
 a5:=Tryz.isAgg5
 z5:=Tryz.sizeOf5
 v5:=Tryz.zeroValue5
 t9:=Tryz.underlying9
 a9:=Tryz.isAgg9
 z9:=Tryz.sizeOf9
 v9:=Tryz.zeroValue9
 t46:=Tryz.underlying147
 a46:=Tryz.isAgg147
 z46:=Tryz.sizeOf147
 v46:=Tryz.zeroValue147
 t51:=Tryz.underlying168
 a51:=Tryz.isAgg168
 z51:=Tryz.sizeOf168
 v51:=Tryz.zeroValue168
 t146:=Tryz.underlying169
 a146:=Tryz.isAgg169
 z146:=Tryz.sizeOf169
 v146:=Tryz.zeroValue169
 g1:=by kernel_rfl
 i3:=by kernel_rfl
 i4:=by kernel_rfl
 i5:=by kernel_rfl
 i9:=by kernel_rfl
 i46:=by kernel_rfl
 i51:=by kernel_rfl
 i146:=by kernel_rfl
 m1:=by kernel_rfl
 s1_3:=fun w h=>Go.Proofs.cell_of_shapedOpen_int (zero:=#[.int .i64 0]) (t:=3) h (of_decide_eq_true (by kernel_rfl)) (by kernel_rfl) rfl (by kernel_rfl) (by kernel_rfl) Tryz.underlying3
def Tryz.laysDecode_ren:Go.Shelf.Ren:=⟨fun|197=>111|260=>130|n=>n,fun|9=>9|21=>21|3=>3|4=>4|5=>5|105=>183|119=>210|0=>0|46=>147|139=>213|138=>212|n=>n,fun|3=>6|4=>7|n=>n⟩
theorem Tryz.laysDecode:Go.Proofs.Lays.n197 Tryz.prog Tryz.laysDecode_ren where
 mixed:=by kernel_rfl
 f197:=Tryz.func111.trans (congrArg some (by kernel_rfl))
 f260:=Tryz.func130.trans (congrArg some (by kernel_rfl))
 t0:=Tryz.underlying0
 a0:=Tryz.isAgg0
 z0:=Tryz.sizeOf0
 v0:=Tryz.zeroValue0
 t3:=Tryz.underlying3
 a3:=Tryz.isAgg3
 z3:=Tryz.sizeOf3
 v3:=Tryz.zeroValue3
 t4:=Tryz.underlying4
 a4:=Tryz.isAgg4
 z4:=Tryz.sizeOf4
 v4:=Tryz.zeroValue4
 t5:=Tryz.underlying5
 a5:=Tryz.isAgg5
 z5:=Tryz.sizeOf5
 v5:=Tryz.zeroValue5
 t9:=Tryz.underlying9
 a9:=Tryz.isAgg9
 z9:=Tryz.sizeOf9
 v9:=Tryz.zeroValue9
 t21:=Tryz.underlying21
 a21:=Tryz.isAgg21
 z21:=Tryz.sizeOf21
 v21:=Tryz.zeroValue21
 t46:=Tryz.underlying147
 a46:=Tryz.isAgg147
 z46:=Tryz.sizeOf147
 v46:=Tryz.zeroValue147
 t105:=Tryz.underlying183
 a105:=Tryz.isAgg183
 z105:=Tryz.sizeOf183
 v105:=Tryz.zeroValue183
 t119:=Tryz.underlying210
 a119:=Tryz.isAgg210
 z119:=Tryz.sizeOf210
 t138:=Tryz.underlying212
 a138:=Tryz.isAgg212
 z138:=Tryz.sizeOf212
 v138:=Tryz.zeroValue212
 t139:=Tryz.underlying213
 a139:=Tryz.isAgg213
 z139:=Tryz.sizeOf213
 v139:=Tryz.zeroValue213
 g3:=by kernel_rfl
 g4:=by kernel_rfl
def Tryz.laysCount_ren:Go.Shelf.Ren:=⟨fun|195=>110|n=>n,fun|9=>9|3=>3|0=>0|4=>4|n=>n,fun|n=>n⟩
theorem Tryz.laysCount:Go.Proofs.Lays.n195 Tryz.prog Tryz.laysCount_ren where
 mixed:=by kernel_rfl
 f195:=Tryz.func110.trans (congrArg some (by kernel_rfl))
 t0:=Tryz.underlying0
 a0:=Tryz.isAgg0
 z0:=Tryz.sizeOf0
 v0:=Tryz.zeroValue0
 t3:=Tryz.underlying3
 a3:=Tryz.isAgg3
 z3:=Tryz.sizeOf3
 v3:=Tryz.zeroValue3
 t4:=Tryz.underlying4
 a4:=Tryz.isAgg4
 z4:=Tryz.sizeOf4
 v4:=Tryz.zeroValue4
 t9:=Tryz.underlying9
 a9:=Tryz.isAgg9
 z9:=Tryz.sizeOf9
 v9:=Tryz.zeroValue9
def Tryz.laysTrim_ren:Go.Shelf.Ren:=⟨fun|160=>137|232=>143|231=>142|227=>144|234=>146|233=>145|236=>148|235=>147|228=>150|271=>152|151=>151|197=>111|120=>154|152=>153|260=>130|137=>155|119=>149|224=>80|225=>79|217=>78|266=>93|n=>n,fun|9=>9|4=>4|3=>3|5=>5|117=>221|116=>220|0=>0|124=>224|21=>21|105=>183|46=>147|119=>210|139=>213|138=>212|n=>n,fun|3=>6|4=>7|n=>n⟩
theorem Tryz.laysTrim:Go.Proofs.Lays.n160 Tryz.prog Tryz.laysTrim_ren where
 mixed:=by kernel_rfl
 f119:=Tryz.func149.trans (congrArg some (by kernel_rfl))
 f120:=Tryz.func154.trans (congrArg some (by kernel_rfl))
 f137:=Tryz.func155.trans (congrArg some (by kernel_rfl))
 f151:=Tryz.func151.trans (congrArg some (by kernel_rfl))
 f152:=Tryz.func153.trans (congrArg some (by kernel_rfl))
 f160:=Tryz.func137.trans (congrArg some (by kernel_rfl))
 f197:=Tryz.func111.trans (congrArg some (by kernel_rfl))
 f217:=Tryz.func78.trans (congrArg some (by kernel_rfl))
 f224:=Tryz.func80.trans (congrArg some (by kernel_rfl))
 f225:=Tryz.func79.trans (congrArg some (by kernel_rfl))
 f227:=Tryz.func144.trans (congrArg some (by kernel_rfl))
 f228:=Tryz.func150.trans (congrArg some (by kernel_rfl))
 f231:=Tryz.func142.trans (congrArg some (by kernel_rfl))
 f232:=Tryz.func143.trans (congrArg some (by kernel_rfl))
 f233:=Tryz.func145.trans (congrArg some (by kernel_rfl))
 f234:=Tryz.func146.trans (congrArg some (by kernel_rfl))
 f235:=Tryz.func147.trans (congrArg some (by kernel_rfl))
 f236:=Tryz.func148.trans (congrArg some (by kernel_rfl))
 f260:=Tryz.func130.trans (congrArg some (by kernel_rfl))
 f266:=Tryz.func93.trans (congrArg some (by kernel_rfl))
 f271:=Tryz.func152.trans (congrArg some (by kernel_rfl))
 t0:=Tryz.underlying0
 a0:=Tryz.isAgg0
 z0:=Tryz.sizeOf0
 v0:=Tryz.zeroValue0
 t3:=Tryz.underlying3
 a3:=Tryz.isAgg3
 z3:=Tryz.sizeOf3
 v3:=Tryz.zeroValue3
 t4:=Tryz.underlying4
 a4:=Tryz.isAgg4
 z4:=Tryz.sizeOf4
 v4:=Tryz.zeroValue4
 t5:=Tryz.underlying5
 a5:=Tryz.isAgg5
 z5:=Tryz.sizeOf5
 v5:=Tryz.zeroValue5
 t9:=Tryz.underlying9
 a9:=Tryz.isAgg9
 z9:=Tryz.sizeOf9
 v9:=Tryz.zeroValue9
 t21:=Tryz.underlying21
 a21:=Tryz.isAgg21
 z21:=Tryz.sizeOf21
 v21:=Tryz.zeroValue21
 t46:=Tryz.underlying147
 a46:=Tryz.isAgg147
 z46:=Tryz.sizeOf147
 v46:=Tryz.zeroValue147
 t105:=Tryz.underlying183
 a105:=Tryz.isAgg183
 z105:=Tryz.sizeOf183
 v105:=Tryz.zeroValue183
 t116:=Tryz.underlying220
 a116:=Tryz.isAgg220
 z116:=Tryz.sizeOf220
 t117:=Tryz.underlying221
 a117:=Tryz.isAgg221
 z117:=Tryz.sizeOf221
 v117:=Tryz.zeroValue221
 t119:=Tryz.underlying210
 a119:=Tryz.isAgg210
 z119:=Tryz.sizeOf210
 t124:=Tryz.underlying224
 a124:=Tryz.isAgg224
 z124:=Tryz.sizeOf224
 v124:=Tryz.zeroValue224
 t138:=Tryz.underlying212
 a138:=Tryz.isAgg212
 z138:=Tryz.sizeOf212
 v138:=Tryz.zeroValue212
 t139:=Tryz.underlying213
 a139:=Tryz.isAgg213
 z139:=Tryz.sizeOf213
 v139:=Tryz.zeroValue213
 g3:=by kernel_rfl
 g4:=by kernel_rfl
def Tryz.laysCut_ren:Go.Shelf.Ren:=⟨fun|145=>26|220=>38|219=>59|217=>78|225=>79|224=>80|267=>81|266=>93|314=>94|n=>n,fun|9=>9|4=>4|59=>80|3=>3|5=>5|46=>147|146=>169|51=>168|n=>n,fun|1=>0|n=>n⟩
theorem Tryz.laysCut:Go.Proofs.LaysM.n145 Tryz.prog Tryz.laysCut_ren where
 mixed:=by kernel_rfl
 f145:=Tryz.func26.trans (congrArg some (by kernel_rfl))
 f217:=Tryz.func78.trans (congrArg some (by kernel_rfl))
 f219:=Tryz.func59.trans (congrArg some (by kernel_rfl))
 f220:=Tryz.func38.trans (congrArg some (by kernel_rfl))
 f224:=Tryz.func80.trans (congrArg some (by kernel_rfl))
 f225:=Tryz.func79.trans (congrArg some (by kernel_rfl))
 f266:=Tryz.func93.trans (congrArg some (by kernel_rfl))
 f267:=Tryz.func81.trans (congrArg some (by kernel_rfl))
 f314:=Tryz.func94.trans (congrArg some (by kernel_rfl))
 t3:=Tryz.underlying3
 a3:=Tryz.isAgg3
 z3:=Tryz.sizeOf3
 v3:=Tryz.zeroValue3
 t4:=Tryz.underlying4
 a4:=Tryz.isAgg4
 z4:=Tryz.sizeOf4
 v4:=Tryz.zeroValue4
 t5:=Tryz.underlying5
 a5:=Tryz.isAgg5
 z5:=Tryz.sizeOf5
 v5:=Tryz.zeroValue5
 t9:=Tryz.underlying9
 a9:=Tryz.isAgg9
 z9:=Tryz.sizeOf9
 v9:=Tryz.zeroValue9
 t46:=Tryz.underlying147
 a46:=Tryz.isAgg147
 z46:=Tryz.sizeOf147
 v46:=Tryz.zeroValue147
 t51:=Tryz.underlying168
 a51:=Tryz.isAgg168
 z51:=Tryz.sizeOf168
 v51:=Tryz.zeroValue168
 t59:=Tryz.underlying80
 a59:=Tryz.isAgg80
 z59:=Tryz.sizeOf80
 v59:=Tryz.zeroValue80
 t146:=Tryz.underlying169
 a146:=Tryz.isAgg169
 z146:=Tryz.sizeOf169
 v146:=Tryz.zeroValue169
 g1:=by kernel_rfl
 i3:=by kernel_rfl
 i4:=by kernel_rfl
 i5:=by kernel_rfl
 i9:=by kernel_rfl
 i46:=by kernel_rfl
 i51:=by kernel_rfl
 i59:=by kernel_rfl
 i146:=by kernel_rfl
 m1:=by kernel_rfl
 s1_3:=fun w h=>Go.Proofs.cell_of_shapedOpen_int (zero:=#[.int .i64 0]) (t:=3) h (of_decide_eq_true (by kernel_rfl)) (by kernel_rfl) rfl (by kernel_rfl) (by kernel_rfl) Tryz.underlying3
def Tryz.laysSplit_ren:Go.Shelf.Ren:=⟨fun|146=>60|221=>82|268=>95|138=>96|143=>97|195=>110|197=>111|218=>112|219=>59|260=>130|217=>78|225=>79|224=>80|267=>81|266=>93|314=>94|n=>n,fun|9=>9|31=>48|3=>3|4=>4|0=>0|105=>183|21=>21|5=>5|46=>147|119=>210|139=>213|138=>212|146=>169|51=>168|n=>n,fun|1=>0|3=>6|4=>7|n=>n⟩
theorem Tryz.laysSplit:Go.Proofs.LaysM.n146 Tryz.prog Tryz.laysSplit_ren where
 mixed:=by kernel_rfl
 f138:=Tryz.func96.trans (congrArg some (by kernel_rfl))
 f143:=Tryz.func97.trans (congrArg some (by kernel_rfl))
 f146:=Tryz.func60.trans (congrArg some (by kernel_rfl))
 f195:=Tryz.func110.trans (congrArg some (by kernel_rfl))
 f197:=Tryz.func111.trans (congrArg some (by kernel_rfl))
 f217:=Tryz.func78.trans (congrArg some (by kernel_rfl))
 f218:=Tryz.func112.trans (congrArg some (by kernel_rfl))
 f219:=Tryz.func59.trans (congrArg some (by kernel_rfl))
 f221:=Tryz.func82.trans (congrArg some (by kernel_rfl))
 f224:=Tryz.func80.trans (congrArg some (by kernel_rfl))
 f225:=Tryz.func79.trans (congrArg some (by kernel_rfl))
 f260:=Tryz.func130.trans (congrArg some (by kernel_rfl))
 f266:=Tryz.func93.trans (congrArg some (by kernel_rfl))
 f267:=Tryz.func81.trans (congrArg some (by kernel_rfl))
 f268:=Tryz.func95.trans (congrArg some (by kernel_rfl))
 f314:=Tryz.func94.trans (congrArg some (by kernel_rfl))
 t0:=Tryz.underlying0
 a0:=Tryz.isAgg0
 z0:=Tryz.sizeOf0
 v0:=Tryz.zeroValue0
 t3:=Tryz.underlying3
 a3:=Tryz.isAgg3
 z3:=Tryz.sizeOf3
 v3:=Tryz.zeroValue3
 t4:=Tryz.underlying4
 a4:=Tryz.isAgg4
 z4:=Tryz.sizeOf4
 v4:=Tryz.zeroValue4
 t5:=Tryz.underlying5
 a5:=Tryz.isAgg5
 z5:=Tryz.sizeOf5
 v5:=Tryz.zeroValue5
 t9:=Tryz.underlying9
 a9:=Tryz.isAgg9
 z9:=Tryz.sizeOf9
 v9:=Tryz.zeroValue9
 t21:=Tryz.underlying21
 a21:=Tryz.isAgg21
 z21:=Tryz.sizeOf21
 v21:=Tryz.zeroValue21
 t31:=Tryz.underlying48
 a31:=Tryz.isAgg48
 z31:=Tryz.sizeOf48
 v31:=Tryz.zeroValue48
 t46:=Tryz.underlying147
 a46:=Tryz.isAgg147
 z46:=Tryz.sizeOf147
 v46:=Tryz.zeroValue147
 t51:=Tryz.underlying168
 a51:=Tryz.isAgg168
 z51:=Tryz.sizeOf168
 v51:=Tryz.zeroValue168
 t105:=Tryz.underlying183
 a105:=Tryz.isAgg183
 z105:=Tryz.sizeOf183
 v105:=Tryz.zeroValue183
 t119:=Tryz.underlying210
 a119:=Tryz.isAgg210
 z119:=Tryz.sizeOf210
 t138:=Tryz.underlying212
 a138:=Tryz.isAgg212
 z138:=Tryz.sizeOf212
 v138:=Tryz.zeroValue212
 t139:=Tryz.underlying213
 a139:=Tryz.isAgg213
 z139:=Tryz.sizeOf213
 v139:=Tryz.zeroValue213
 t146:=Tryz.underlying169
 a146:=Tryz.isAgg169
 z146:=Tryz.sizeOf169
 v146:=Tryz.zeroValue169
 g1:=by kernel_rfl
 g3:=by kernel_rfl
 g4:=by kernel_rfl
 i0:=by kernel_rfl
 i3:=by kernel_rfl
 i4:=by kernel_rfl
 i5:=by kernel_rfl
 i9:=by kernel_rfl
 i21:=by kernel_rfl
 i31:=by kernel_rfl
 i46:=by kernel_rfl
 i51:=by kernel_rfl
 i105:=by kernel_rfl
 i138:=by kernel_rfl
 i139:=by kernel_rfl
 i146:=by kernel_rfl
 m1:=by kernel_rfl
 s1_3:=fun w h=>Go.Proofs.cell_of_shapedOpen_int (zero:=#[.int .i64 0]) (t:=3) h (of_decide_eq_true (by kernel_rfl)) (by kernel_rfl) rfl (by kernel_rfl) (by kernel_rfl) Tryz.underlying3
 m3:=by kernel_rfl
 m4:=by kernel_rfl
def Tryz.laysAtoi_ren:Go.Shelf.Ren:=⟨fun|172=>83|244=>98|245=>99|247=>113|279=>114|280=>115|281=>116|282=>117|287=>131|316=>132|171=>36|205=>133|321=>139|322=>140|243=>58|246=>77|283=>89|284=>90|285=>91|286=>92|129=>106|317=>105|318=>107|319=>108|320=>109|337=>128|338=>129|n=>n,fun|9=>9|3=>3|75=>102|76=>103|4=>4|5=>5|167=>185|37=>71|0=>0|85=>186|2=>2|168=>188|53=>163|175=>201|46=>147|210=>204|127=>107|145=>217|143=>215|21=>21|171=>162|173=>166|212=>180|51=>168|20=>20|213=>181|232=>208|233=>209|80=>79|n=>n,fun|15=>2|16=>3|17=>1|18=>4|19=>5|n=>n⟩
theorem Tryz.laysAtoi:Go.Proofs.LaysC.n172 Tryz.prog Tryz.laysAtoi_ren where
 mixed:=by kernel_rfl
 f129:=Tryz.func106.trans (congrArg some (by kernel_rfl))
 f171:=Tryz.func36.trans (congrArg some (by kernel_rfl))
 f172:=Tryz.func83.trans (congrArg some (by kernel_rfl))
 f205:=Tryz.func133.trans (congrArg some (by kernel_rfl))
 f243:=Tryz.func58.trans (congrArg some (by kernel_rfl))
 f244:=Tryz.func98.trans (congrArg some (by kernel_rfl))
 f245:=Tryz.func99.trans (congrArg some (by kernel_rfl))
 f246:=Tryz.func77.trans (congrArg some (by kernel_rfl))
 f247:=Tryz.func113.trans (congrArg some (by kernel_rfl))
 f279:=Tryz.func114.trans (congrArg some (by kernel_rfl))
 f280:=Tryz.func115.trans (congrArg some (by kernel_rfl))
 f281:=Tryz.func116.trans (congrArg some (by kernel_rfl))
 f282:=Tryz.func117.trans (congrArg some (by kernel_rfl))
 f283:=Tryz.func89.trans (congrArg some (by kernel_rfl))
 f284:=Tryz.func90.trans (congrArg some (by kernel_rfl))
 f285:=Tryz.func91.trans (congrArg some (by kernel_rfl))
 f286:=Tryz.func92.trans (congrArg some (by kernel_rfl))
 f287:=Tryz.func131.trans (congrArg some (by kernel_rfl))
 f316:=Tryz.func132.trans (congrArg some (by kernel_rfl))
 f317:=Tryz.func105.trans (congrArg some (by kernel_rfl))
 f318:=Tryz.func107.trans (congrArg some (by kernel_rfl))
 f319:=Tryz.func108.trans (congrArg some (by kernel_rfl))
 f320:=Tryz.func109.trans (congrArg some (by kernel_rfl))
 f321:=Tryz.func139.trans (congrArg some (by kernel_rfl))
 f322:=Tryz.func140.trans (congrArg some (by kernel_rfl))
 f337:=Tryz.func128.trans (congrArg some (by kernel_rfl))
 f338:=Tryz.func129.trans (congrArg some (by kernel_rfl))
 t0:=Tryz.underlying0
 a0:=Tryz.isAgg0
 z0:=Tryz.sizeOf0
 v0:=Tryz.zeroValue0
 t2:=Tryz.underlying2
 a2:=Tryz.isAgg2
 z2:=Tryz.sizeOf2
 v2:=Tryz.zeroValue2
 t3:=Tryz.underlying3
 a3:=Tryz.isAgg3
 z3:=Tryz.sizeOf3
 v3:=Tryz.zeroValue3
 t4:=Tryz.underlying4
 a4:=Tryz.isAgg4
 z4:=Tryz.sizeOf4
 v4:=Tryz.zeroValue4
 t5:=Tryz.underlying5
 a5:=Tryz.isAgg5
 z5:=Tryz.sizeOf5
 v5:=Tryz.zeroValue5
 t9:=Tryz.underlying9
 a9:=Tryz.isAgg9
 z9:=Tryz.sizeOf9
 v9:=Tryz.zeroValue9
 t20:=Tryz.underlying20
 a20:=Tryz.isAgg20
 z20:=Tryz.sizeOf20
 v20:=Tryz.zeroValue20
 t21:=Tryz.underlying21
 a21:=Tryz.isAgg21
 z21:=Tryz.sizeOf21
 v21:=Tryz.zeroValue21
 t37:=Tryz.underlying71
 a37:=Tryz.isAgg71
 z37:=Tryz.sizeOf71
 v37:=Tryz.zeroValue71
 t46:=Tryz.underlying147
 a46:=Tryz.isAgg147
 z46:=Tryz.sizeOf147
 v46:=Tryz.zeroValue147
 t51:=Tryz.underlying168
 a51:=Tryz.isAgg168
 z51:=Tryz.sizeOf168
 v51:=Tryz.zeroValue168
 t53:=Tryz.underlying163
 a53:=Tryz.isAgg163
 z53:=Tryz.sizeOf163
 v53:=Tryz.zeroValue163
 t75:=Tryz.underlying102
 a75:=Tryz.isAgg102
 z75:=Tryz.sizeOf102
 v75:=Tryz.zeroValue102
 t76:=Tryz.underlying103
 a76:=Tryz.isAgg103
 z76:=Tryz.sizeOf103
 v76:=Tryz.zeroValue103
 t85:=Tryz.underlying186
 a85:=Tryz.isAgg186
 z85:=Tryz.sizeOf186
 v85:=Tryz.zeroValue186
 t127:=Tryz.underlying107
 a127:=Tryz.isAgg107
 z127:=Tryz.sizeOf107
 v127:=Tryz.zeroValue107
 t143:=Tryz.underlying215
 a143:=Tryz.isAgg215
 z143:=Tryz.sizeOf215
 v143:=Tryz.zeroValue215
 t145:=Tryz.underlying217
 a145:=Tryz.isAgg217
 z145:=Tryz.sizeOf217
 v145:=Tryz.zeroValue217
 t167:=Tryz.underlying185
 a167:=Tryz.isAgg185
 z167:=Tryz.sizeOf185
 v167:=Tryz.zeroValue185
 t168:=Tryz.underlying188
 a168:=Tryz.isAgg188
 z168:=Tryz.sizeOf188
 v168:=Tryz.zeroValue188
 t171:=Tryz.underlying162
 a171:=Tryz.isAgg162
 z171:=Tryz.sizeOf162
 v171:=Tryz.zeroValue162
 t173:=Tryz.underlying166
 a173:=Tryz.isAgg166
 z173:=Tryz.sizeOf166
 v173:=Tryz.zeroValue166
 t175:=Tryz.underlying201
 a175:=Tryz.isAgg201
 z175:=Tryz.sizeOf201
 v175:=Tryz.zeroValue201
 t210:=Tryz.underlying204
 a210:=Tryz.isAgg204
 z210:=Tryz.sizeOf204
 v210:=Tryz.zeroValue204
 t212:=Tryz.underlying180
 a212:=Tryz.isAgg180
 z212:=Tryz.sizeOf180
 v212:=Tryz.zeroValue180
 t213:=Tryz.underlying181
 a213:=Tryz.isAgg181
 z213:=Tryz.sizeOf181
 t232:=Tryz.underlying208
 a232:=Tryz.isAgg208
 z232:=Tryz.sizeOf208
 v232:=Tryz.zeroValue208
 t233:=Tryz.underlying209
 a233:=Tryz.isAgg209
 z233:=Tryz.sizeOf209
 v233:=Tryz.zeroValue209
 g15:=by kernel_rfl
 g16:=by kernel_rfl
 g17:=by kernel_rfl
 g18:=by kernel_rfl
 g19:=by kernel_rfl
 t80:=Tryz.underlying79
 a80:=Tryz.isAgg79
 z80:=Tryz.sizeOf79
 v80:=Tryz.zeroValue79
 i0:=by kernel_rfl
 i2:=by kernel_rfl
 i3:=by kernel_rfl
 i4:=by kernel_rfl
 i5:=by kernel_rfl
 i9:=by kernel_rfl
 i20:=by kernel_rfl
 i21:=by kernel_rfl
 i37:=by kernel_rfl
 i46:=by kernel_rfl
 i51:=by kernel_rfl
 i53:=by kernel_rfl
 i75:=by kernel_rfl
 i76:=by kernel_rfl
 i80:=by kernel_rfl
 i85:=by kernel_rfl
 i127:=by kernel_rfl
 i143:=by kernel_rfl
 i145:=by kernel_rfl
 i167:=by kernel_rfl
 i168:=by kernel_rfl
 i171:=by kernel_rfl
 i173:=by kernel_rfl
 i175:=by kernel_rfl
 i210:=by kernel_rfl
 i212:=by kernel_rfl
 i232:=by kernel_rfl
 i233:=by kernel_rfl
 m15:=by kernel_rfl
 m16:=by kernel_rfl
 m17:=by kernel_rfl
 m18:=by kernel_rfl
 m19:=by kernel_rfl
 c0:=by kernel_rfl
 c2:=by kernel_rfl
 c3:=by kernel_rfl
 c4:=by kernel_rfl
 c5:=by kernel_rfl
 c9:=by kernel_rfl
 c20:=by kernel_rfl
 c21:=by kernel_rfl
 c37:=by kernel_rfl
 c46:=by kernel_rfl
 c51:=by kernel_rfl
 c53:=by kernel_rfl
 c75:=by kernel_rfl
 c76:=by kernel_rfl
 c80:=by kernel_rfl
 c85:=by kernel_rfl
 c127:=by kernel_rfl
 c143:=by kernel_rfl
 c145:=by kernel_rfl
 c167:=by kernel_rfl
 c168:=by kernel_rfl
 c171:=by kernel_rfl
 c173:=by kernel_rfl
 c175:=by kernel_rfl
 c210:=by kernel_rfl
 c212:=by kernel_rfl
 c213:=by kernel_rfl
 c232:=by kernel_rfl
 c233:=by kernel_rfl
def Tryz.laysItoa_ren:Go.Shelf.Ren:=⟨fun|171=>36|243=>58|246=>77|283=>89|284=>90|285=>91|286=>92|129=>106|317=>105|318=>107|319=>108|320=>109|337=>128|338=>129|n=>n,fun|3=>3|9=>9|2=>2|4=>4|171=>162|0=>0|53=>163|37=>71|5=>5|173=>166|212=>180|51=>168|20=>20|213=>181|46=>147|232=>208|233=>209|n=>n,fun|17=>1|18=>4|19=>5|n=>n⟩
theorem Tryz.laysItoa:Go.Proofs.LaysM.n171 Tryz.prog Tryz.laysItoa_ren where
 mixed:=by kernel_rfl
 f129:=Tryz.func106.trans (congrArg some (by kernel_rfl))
 f171:=Tryz.func36.trans (congrArg some (by kernel_rfl))
 f243:=Tryz.func58.trans (congrArg some (by kernel_rfl))
 f246:=Tryz.func77.trans (congrArg some (by kernel_rfl))
 f283:=Tryz.func89.trans (congrArg some (by kernel_rfl))
 f284:=Tryz.func90.trans (congrArg some (by kernel_rfl))
 f285:=Tryz.func91.trans (congrArg some (by kernel_rfl))
 f286:=Tryz.func92.trans (congrArg some (by kernel_rfl))
 f317:=Tryz.func105.trans (congrArg some (by kernel_rfl))
 f318:=Tryz.func107.trans (congrArg some (by kernel_rfl))
 f319:=Tryz.func108.trans (congrArg some (by kernel_rfl))
 f320:=Tryz.func109.trans (congrArg some (by kernel_rfl))
 f337:=Tryz.func128.trans (congrArg some (by kernel_rfl))
 f338:=Tryz.func129.trans (congrArg some (by kernel_rfl))
 t0:=Tryz.underlying0
 a0:=Tryz.isAgg0
 z0:=Tryz.sizeOf0
 v0:=Tryz.zeroValue0
 t2:=Tryz.underlying2
 a2:=Tryz.isAgg2
 z2:=Tryz.sizeOf2
 v2:=Tryz.zeroValue2
 t3:=Tryz.underlying3
 a3:=Tryz.isAgg3
 z3:=Tryz.sizeOf3
 v3:=Tryz.zeroValue3
 t4:=Tryz.underlying4
 a4:=Tryz.isAgg4
 z4:=Tryz.sizeOf4
 v4:=Tryz.zeroValue4
 t5:=Tryz.underlying5
 a5:=Tryz.isAgg5
 z5:=Tryz.sizeOf5
 v5:=Tryz.zeroValue5
 t9:=Tryz.underlying9
 a9:=Tryz.isAgg9
 z9:=Tryz.sizeOf9
 v9:=Tryz.zeroValue9
 t20:=Tryz.underlying20
 a20:=Tryz.isAgg20
 z20:=Tryz.sizeOf20
 v20:=Tryz.zeroValue20
 t37:=Tryz.underlying71
 a37:=Tryz.isAgg71
 z37:=Tryz.sizeOf71
 v37:=Tryz.zeroValue71
 t46:=Tryz.underlying147
 a46:=Tryz.isAgg147
 z46:=Tryz.sizeOf147
 v46:=Tryz.zeroValue147
 t51:=Tryz.underlying168
 a51:=Tryz.isAgg168
 z51:=Tryz.sizeOf168
 v51:=Tryz.zeroValue168
 t53:=Tryz.underlying163
 a53:=Tryz.isAgg163
 z53:=Tryz.sizeOf163
 v53:=Tryz.zeroValue163
 t171:=Tryz.underlying162
 a171:=Tryz.isAgg162
 z171:=Tryz.sizeOf162
 v171:=Tryz.zeroValue162
 t173:=Tryz.underlying166
 a173:=Tryz.isAgg166
 z173:=Tryz.sizeOf166
 v173:=Tryz.zeroValue166
 t212:=Tryz.underlying180
 a212:=Tryz.isAgg180
 z212:=Tryz.sizeOf180
 v212:=Tryz.zeroValue180
 t213:=Tryz.underlying181
 a213:=Tryz.isAgg181
 z213:=Tryz.sizeOf181
 t232:=Tryz.underlying208
 a232:=Tryz.isAgg208
 z232:=Tryz.sizeOf208
 v232:=Tryz.zeroValue208
 t233:=Tryz.underlying209
 a233:=Tryz.isAgg209
 z233:=Tryz.sizeOf209
 v233:=Tryz.zeroValue209
 g17:=by kernel_rfl
 g18:=by kernel_rfl
 g19:=by kernel_rfl
 i0:=by kernel_rfl
 i2:=by kernel_rfl
 i3:=by kernel_rfl
 i4:=by kernel_rfl
 i5:=by kernel_rfl
 i9:=by kernel_rfl
 i20:=by kernel_rfl
 i37:=by kernel_rfl
 i46:=by kernel_rfl
 i51:=by kernel_rfl
 i53:=by kernel_rfl
 i171:=by kernel_rfl
 i173:=by kernel_rfl
 i212:=by kernel_rfl
 i232:=by kernel_rfl
 i233:=by kernel_rfl
 m17:=by kernel_rfl
 m18:=by kernel_rfl
 m19:=by kernel_rfl
def Tryz.laysString_ren:Go.Shelf.Ren:=⟨fun|169=>25|n=>n,fun|70=>70|9=>9|0=>0|72=>73|37=>71|127=>107|3=>3|5=>5|n=>n,fun|n=>n⟩
theorem Tryz.laysString:Go.Proofs.Lays.n169 Tryz.prog Tryz.laysString_ren where
 mixed:=by kernel_rfl
 f169:=Tryz.func25.trans (congrArg some (by kernel_rfl))
 t0:=Tryz.underlying0
 a0:=Tryz.isAgg0
 z0:=Tryz.sizeOf0
 v0:=Tryz.zeroValue0
 t3:=Tryz.underlying3
 a3:=Tryz.isAgg3
 z3:=Tryz.sizeOf3
 v3:=Tryz.zeroValue3
 t9:=Tryz.underlying9
 a9:=Tryz.isAgg9
 z9:=Tryz.sizeOf9
 v9:=Tryz.zeroValue9
 t37:=Tryz.underlying71
 a37:=Tryz.isAgg71
 z37:=Tryz.sizeOf71
 v37:=Tryz.zeroValue71
 t70:=Tryz.underlying70
 a70:=Tryz.isAgg70
 z70:=Tryz.sizeOf70
 v70:=Tryz.zeroValue70
 t72:=Tryz.underlying73
 a72:=Tryz.isAgg73
 z72:=Tryz.sizeOf73
 v72:=Tryz.zeroValue73
 t127:=Tryz.underlying107
 a127:=Tryz.isAgg107
 z127:=Tryz.sizeOf107
 v127:=Tryz.zeroValue107
def Tryz.laysCheck_ren:Go.Shelf.Ren:=⟨fun|166=>35|240=>57|276=>76|n=>n,fun|70=>70|9=>9|3=>3|75=>102|0=>0|72=>73|37=>71|4=>4|164=>143|80=>79|5=>5|n=>n,fun|n=>n⟩
theorem Tryz.laysCheck:Go.Proofs.Lays.n166 Tryz.prog Tryz.laysCheck_ren where
 mixed:=by kernel_rfl
 f166:=Tryz.func35.trans (congrArg some (by kernel_rfl))
 f240:=Tryz.func57.trans (congrArg some (by kernel_rfl))
 f276:=Tryz.func76.trans (congrArg some (by kernel_rfl))
 t0:=Tryz.underlying0
 a0:=Tryz.isAgg0
 z0:=Tryz.sizeOf0
 v0:=Tryz.zeroValue0
 t3:=Tryz.underlying3
 a3:=Tryz.isAgg3
 z3:=Tryz.sizeOf3
 v3:=Tryz.zeroValue3
 t4:=Tryz.underlying4
 a4:=Tryz.isAgg4
 z4:=Tryz.sizeOf4
 v4:=Tryz.zeroValue4
 t9:=Tryz.underlying9
 a9:=Tryz.isAgg9
 z9:=Tryz.sizeOf9
 v9:=Tryz.zeroValue9
 t20:=Tryz.underlying20
 a20:=Tryz.isAgg20
 z20:=Tryz.sizeOf20
 v20:=Tryz.zeroValue20
 t37:=Tryz.underlying71
 a37:=Tryz.isAgg71
 z37:=Tryz.sizeOf71
 v37:=Tryz.zeroValue71
 t70:=Tryz.underlying70
 a70:=Tryz.isAgg70
 z70:=Tryz.sizeOf70
 v70:=Tryz.zeroValue70
 t72:=Tryz.underlying73
 a72:=Tryz.isAgg73
 z72:=Tryz.sizeOf73
 v72:=Tryz.zeroValue73
 t75:=Tryz.underlying102
 a75:=Tryz.isAgg102
 z75:=Tryz.sizeOf102
 v75:=Tryz.zeroValue102
 t164:=Tryz.underlying143
 a164:=Tryz.isAgg143
 z164:=Tryz.sizeOf143
 v164:=Tryz.zeroValue143
theorem Tryz.extra:Builder.Extra Tryz.prog Tryz.laysCheck_ren where
 sizeBuilder:=by kernel_rfl
 liesBuilder:=by kernel_rfl
 t5:=Tryz.underlying5
 a5:=Tryz.isAgg5
 z5:=Tryz.sizeOf5
 v5:=Tryz.zeroValue5
 infoByte:=by kernel_rfl
 cellsByte:=by kernel_rfl
 sizeByte:=by kernel_rfl
 neB5:=by decide
theorem Tryz.extraS:Builder.Extra Tryz.prog Tryz.laysString_ren where
 sizeBuilder:=by kernel_rfl
 liesBuilder:=by kernel_rfl
 t5:=Tryz.underlying5
 a5:=Tryz.isAgg5
 z5:=Tryz.sizeOf5
 v5:=Tryz.zeroValue5
 infoByte:=by kernel_rfl
 cellsByte:=by kernel_rfl
 sizeByte:=by kernel_rfl
 neB5:=by decide
theorem Tryz.boolRow:(Tryz.prog.info? (Tryz.laysTrim_ren.t 116)).map (fun i=>(i.zero,i.size))=some (some (.agg (Array.replicate 256 (.bool false))),256):=by kernel_rfl
end Go.Proofs
namespace Lift.H2
open Go Go.RowKit Go.Proofs Lift Lift.Fn
theorem zaeo {w w':World} {n:Nat} (h:∀ k,k<n→w'.heap[k]? = w.heap[k]?) {b o:Nat} (hb:b<n):w'.cell? ⟨b,o,none⟩=w.cell? ⟨b,o,none⟩:=by
 unfold World.cell?;rw[h b hb]
def isErr (v:Value):Prop:=v=.nilIface∨∃ te pe,v=.iface te pe
def globs (w : World) : Prop := Go.Lib.Utf8Tabs 6 7 w ∧ (∃ m, w.cell? ⟨0, 0, none⟩ = some (.int .i64 m)) ∧ (∃ a b, (w.cell? ⟨2, 0, none⟩ = some a ∧ isErr a) ∧ (w.cell? ⟨3, 0, none⟩ = some b ∧ isErr b)) ∧ Go.Lib.TabIs Tryz.prog w "internal/strconv.uint64pow10" .u64 Go.Lib.pow10Tab ∧ True
theorem zasa (w w':World) (h:globs w) (hs:∀ k,k<8→w'.heap[k]? = w.heap[k]?):globs w':=by
 refine ⟨?_,?_,?_,?_,trivial⟩
 ·obtain ⟨h1,h2⟩:=h.1;refine ⟨fun c hc=>?_,fun i hi=>?_⟩
  ·rw[zaeo hs (by omega)]; exact h1 c hc
  ·rw[zaeo hs (by omega),zaeo hs (by omega)]; exact h2 i hi
 ·obtain ⟨m,h3⟩:=h.2.1;exact ⟨m,by rw[zaeo hs (by omega)]; exact h3⟩
 ·obtain ⟨a,b,⟨h4,h5⟩,h6,h7⟩:=h.2.2.1;exact ⟨a,b,⟨by rw[zaeo hs (by omega)]; exact h4,h5⟩,by rw[zaeo hs (by omega)]; exact h6,h7⟩
 ·exact zaxb (g:=1) (by kernel_rfl) (by omega) hs (h.2.2.2.1)
@[reducible] def env0:Env:=⟨globs,8,fun w w' h hs _ _ _=>zasa w w' h hs⟩
theorem known0:Known kk env0 (zaac ms0):=known_nil
theorem strings_Contains_post:∀ ls j rs,(strings_Contains_md.sum ls).val=some (j,rs)→zaas kk env0 136 strings_Contains_md.sh strings_Contains_md.outs ls j rs:=by
 intro ls j rs h;simp only[strings_Contains_md] at h;split at h
 ·obtain ⟨r,hr,h⟩:=Tr.get_val h;rw[strings_Contains,zaaa,zads,cond_eq_ite,Option.ite_none_right_eq_some,decide_eq_true_eq] at hr;obtain ⟨hc,hr⟩:=hr;cases hr;cases h;exact contains_post (K:=kk) (V:=env0) (ρ:=Tryz.laysContains_ren) ({ Tryz.laysContains with }) (fun w h=>h.2.1) _ _ hc
 ·cases h
theorem known1:Known kk env0 (zaac ms1):=known_cons (by kernel_rfl) strings_Contains_post known0
theorem unicode_utf8_DecodeRuneInString_post:∀ ls j rs,(unicode_utf8_DecodeRuneInString_md.sum ls).val=some (j,rs)→zaas kk env0 111 unicode_utf8_DecodeRuneInString_md.sh unicode_utf8_DecodeRuneInString_md.outs ls j rs:=by
 intro ls j rs h;simp only[unicode_utf8_DecodeRuneInString_md] at h;split at h
 ·obtain ⟨r,hr,h⟩:=Tr.get_val h;rw[zaaz,zaaa,zabo] at hr;cases hr;cases h;exact decode_post (K:=kk) (V:=env0) (ρ:=Tryz.laysDecode_ren) Tryz.laysDecode (fun w h=>h.1) _
 ·cases h
theorem known2:Known kk env0 (zaac ms2):=known_cons (by kernel_rfl) unicode_utf8_DecodeRuneInString_post known1
theorem unicode_utf8_RuneCountInString_post:∀ ls j rs,(unicode_utf8_RuneCountInString_md.sum ls).val=some (j,rs)→zaas kk env0 110 unicode_utf8_RuneCountInString_md.sh unicode_utf8_RuneCountInString_md.outs ls j rs:=by
 intro ls j rs h;simp only[unicode_utf8_RuneCountInString_md] at h;split at h
 ·obtain ⟨r,hr,h⟩:=Tr.get_val h;rw[zaa0,zaaa,zabr,cond_eq_ite,Option.ite_none_right_eq_some,decide_eq_true_eq] at hr;obtain ⟨hc,hr⟩:=hr;cases hr;cases h;exact runeCount_post (K:=kk) (V:=env0) (ρ:=Tryz.laysCount_ren) Tryz.laysCount _ hc
 ·cases h
theorem known3:Known kk env0 (zaac ms3):=known_cons (by kernel_rfl) unicode_utf8_RuneCountInString_post known2
theorem strings_Trim_post:∀ ls j rs,(strings_Trim_md.sum ls).val=some (j,rs)→zaas kk env0 137 strings_Trim_md.sh strings_Trim_md.outs ls j rs:=by
 intro ls j rs h;simp only[strings_Trim_md] at h;split at h
 ·obtain ⟨r,hr,h⟩:=Tr.get_val h;rw[zac8,zaaa,zae7,cond_eq_ite,Option.ite_none_right_eq_some,Bool.and_eq_true,decide_eq_true_eq] at hr;obtain ⟨⟨hc,hd⟩,hr⟩:=hr;cases hr;cases h;exact trim_post (K:=kk) (V:=env0) (ρ:=Tryz.laysTrim_ren) Tryz.laysTrim Tryz.boolRow _ _ hc.1 hc.2 hd
 ·cases h
theorem known4:Known kk env0 (zaac ms4):=known_cons (by kernel_rfl) strings_Trim_post known3
theorem strings_Cut_post:∀ ls j rs,(strings_Cut_md.sum ls).val=some (j,rs)→zaas kk env0 26 strings_Cut_md.sh strings_Cut_md.outs ls j rs:=by
 intro ls j rs h;simp only[strings_Cut_md] at h;split at h
 ·obtain ⟨r,hr,h⟩:=Tr.get_val h;rw[strings_Cut,zaaa,zaf9,cond_eq_ite,Option.ite_none_right_eq_some,decide_eq_true_eq] at hr;obtain ⟨hc,hr⟩:=hr;cases hr;cases h;exact cut_post (K:=kk) (V:=env0) (ρ:=Tryz.laysCut_ren) ({ Tryz.laysCut with }) (fun w h=>h.2.1) _ _ hc
 ·cases h
theorem known5:Known kk env0 (zaac ms5):=known_cons (by kernel_rfl) strings_Cut_post known4
theorem strings_Split_post:∀ ls j rs,(strings_Split_md.sum ls).val=some (j,rs)→zaas kk env0 60 strings_Split_md.sh strings_Split_md.outs ls j rs:=by
 intro ls j rs h;simp only[strings_Split_md] at h;split at h
 ·obtain ⟨r,hr,h⟩:=Tr.get_val h;rw[strings_Split,zaaa,zae0,cond_eq_ite,Option.ite_none_right_eq_some,decide_eq_true_eq] at hr;obtain ⟨hc,hr⟩:=hr;cases hr;cases h;exact split_post (K:=kk) (V:=env0) (ρ:=Tryz.laysSplit_ren) ({ Tryz.laysSplit with }) (by kernel_rfl) (fun w h=>h.2.1) _ _ hc.1 hc.2
 ·cases h
theorem known6:Known kk env0 (zaac ms6):=known_cons (by kernel_rfl) strings_Split_post known5
theorem strconv_Atoi_post:∀ ls j rs,(strconv_Atoi_md.sum ls).val=some (j,rs)→zaas kk env0 83 strconv_Atoi_md.sh strconv_Atoi_md.outs ls j rs:=by
 intro ls j rs h;simp only[strconv_Atoi_md] at h;split at h
 ·obtain ⟨r,hr,h⟩:=Tr.get_val h;rw[zabx,zaaa,zad9,cond_eq_ite,Option.ite_none_right_eq_some,decide_eq_true_eq] at hr;obtain ⟨hc,hr⟩:=hr;cases hr;cases h;exact atoi_post (K:=kk) (V:=env0) (ρ:=Tryz.laysAtoi_ren) Tryz.laysAtoi (fun w h=>h.2.2.1) _ hc
 ·cases h
theorem known7:Known kk env0 (zaac ms7):=known_cons (by kernel_rfl) strconv_Atoi_post known6
theorem strconv_ItoaW_post:∀ ls j rs,(strconv_ItoaW_md.sum ls).val=some (j,rs)→zaas kk env0 36 strconv_ItoaW_md.sh strconv_ItoaW_md.outs ls j rs:=by
 intro ls j rs h;simp only[strconv_ItoaW_md] at h;split at h
 ·obtain ⟨r,hr,h⟩:=Tr.get_val h;rw[zaco,zaaa,zaez,cond_eq_ite,Option.ite_none_right_eq_some,decide_eq_true_eq] at hr;obtain ⟨hc,hr⟩:=hr;cases hr;cases h;exact itoaW_post (K:=kk) (V:=env0) (ρ:=Tryz.laysItoa_ren) ({ Tryz.laysItoa with }) (fun w h=>h.2.2.2.1) _ hc
 ·cases h
theorem known8:Known kk env0 (zaac ms8):=known_cons (by kernel_rfl) strconv_ItoaW_post known7
theorem strings_Builder_copyCheck_post:∀ ls j rs,(strings_Builder_copyCheck_md.sum ls).val=some (j,rs)→zaas kk env0 57 strings_Builder_copyCheck_md.sh strings_Builder_copyCheck_md.outs ls j rs:=by
 intro ls j rs h;simp only[strings_Builder_copyCheck_md] at h;split at h
 ·cases h;exact copyCheck_post (K:=kk) (V:=env0) (ρ:=Tryz.laysCheck_ren) ({ Tryz.laysCheck with }) Tryz.extra.toX72 5 _
 ·cases h
theorem known9:Known kk env0 (zaac ms9):=known_cons (by kernel_rfl) strings_Builder_copyCheck_post known8
theorem strings_Builder_String_post:∀ ls j rs,(strings_Builder_String_md.sum ls).val=some (j,rs)→zaas kk env0 25 strings_Builder_String_md.sh strings_Builder_String_md.outs ls j rs:=by
 intro ls j rs h;simp only[strings_Builder_String_md] at h;split at h
 ·obtain ⟨r,hr,h⟩:=Tr.get_val h;rw[zabp,zaaa,zaci,cond_eq_ite,Option.ite_none_right_eq_some,List.all_eq_true] at hr;obtain ⟨hc,hr⟩:=hr;cases hr;cases h;exact bstring_post (K:=kk) (V:=env0) (ρ:=Tryz.laysString_ren) Tryz.laysString Tryz.extraS _ (fun n hn=>by simpa using hc n hn)
 ·cases h
theorem known10:Known kk env0 (zaac ms10):=known_cons (by kernel_rfl) strings_Builder_String_post known9
end Lift.H2
namespace Lift.Fn
noncomputable section
open Go Lift
def qar_f (a0:Int):Option (Bool):=Option.bind (α:=Bool) ( bif decide (a0≥(-2147483647:Int)) then some (decide (a0≤2147483647)) else some (false)) fun y0=>some (y0)
def qar:=sealF (qar_f)
def qas_f:Option ((List Operation)):=some ([Operation.mk [] [],Operation.mk [(99:UInt8),(111:UInt8),(110:UInt8),(115:UInt8),(116:UInt8)] [(82:UInt8),(78:UInt8)],Operation.mk [(109:UInt8),(111:UInt8),(118:UInt8),(101:UInt8)] [(82:UInt8),(82:UInt8)],Operation.mk [(110:UInt8),(101:UInt8),(103:UInt8)] [(82:UInt8),(82:UInt8)],Operation.mk [(110:UInt8),(111:UInt8),(116:UInt8)] [(82:UInt8),(82:UInt8)],Operation.mk [(97:UInt8),(100:UInt8),(100:UInt8)] [(82:UInt8),(82:UInt8),(82:UInt8)],Operation.mk [(115:UInt8),(117:UInt8),(98:UInt8)] [(82:UInt8),(82:UInt8),(82:UInt8)],Operation.mk [(109:UInt8),(117:UInt8),(108:UInt8)] [(82:UInt8),(82:UInt8),(82:UInt8)],Operation.mk [(100:UInt8),(105:UInt8),(118:UInt8)] [(82:UInt8),(82:UInt8),(82:UInt8)],Operation.mk [(114:UInt8),(101:UInt8),(109:UInt8)] [(82:UInt8),(82:UInt8),(82:UInt8)],Operation.mk [(101:UInt8),(113:UInt8)] [(82:UInt8),(82:UInt8),(82:UInt8)],Operation.mk [(110:UInt8),(101:UInt8)] [(82:UInt8),(82:UInt8),(82:UInt8)],Operation.mk [(108:UInt8),(116:UInt8)] [(82:UInt8),(82:UInt8),(82:UInt8)],Operation.mk [(108:UInt8),(101:UInt8)] [(82:UInt8),(82:UInt8),(82:UInt8)],Operation.mk [(103:UInt8),(116:UInt8)] [(82:UInt8),(82:UInt8),(82:UInt8)],Operation.mk [(103:UInt8),(101:UInt8)] [(82:UInt8),(82:UInt8),(82:UInt8)],Operation.mk [(97:UInt8),(110:UInt8),(100:UInt8)] [(82:UInt8),(82:UInt8),(82:UInt8)],Operation.mk [(111:UInt8),(114:UInt8)] [(82:UInt8),(82:UInt8),(82:UInt8)],Operation.mk [(106:UInt8),(117:UInt8),(109:UInt8),(112:UInt8)] [(73:UInt8)],Operation.mk [(117:UInt8),(110:UInt8),(108:UInt8),(101:UInt8),(115:UInt8),(115:UInt8)] [(82:UInt8),(73:UInt8)],Operation.mk [(97:UInt8),(103:UInt8),(97:UInt8),(105:UInt8),(110:UInt8)] [(82:UInt8),(73:UInt8)],Operation.mk [(114:UInt8),(101:UInt8),(97:UInt8),(100:UInt8)] [(82:UInt8),(99:UInt8)],Operation.mk [(119:UInt8),(114:UInt8),(105:UInt8),(116:UInt8),(101:UInt8)] [(99:UInt8),(82:UInt8)],Operation.mk [(102:UInt8),(101:UInt8),(116:UInt8),(99:UInt8),(104:UInt8)] [(82:UInt8),(99:UInt8),(82:UInt8)],Operation.mk [(108:UInt8),(111:UInt8),(99:UInt8),(107:UInt8)] [(109:UInt8)],Operation.mk [(117:UInt8),(110:UInt8),(108:UInt8),(111:UInt8),(99:UInt8),(107:UInt8)] [(109:UInt8)],Operation.mk [(115:UInt8),(116:UInt8),(97:UInt8),(114:UInt8),(116:UInt8)] [(116:UInt8)],Operation.mk [(106:UInt8),(111:UInt8),(105:UInt8),(110:UInt8)] [(116:UInt8)],Operation.mk [(97:UInt8),(115:UInt8),(115:UInt8),(101:UInt8),(114:UInt8),(116:UInt8)] [(82:UInt8)],Operation.mk [(101:UInt8),(110:UInt8),(100:UInt8)] []])
def qas:=sealF (qas_f)
abbrev qao_o6:=List UInt8→Int→Int→List Int→Int→List ACode→Int→List Instr→List Int→Option ((Bool)⊕(Unit))
def qao_t6 (rec:qao_o6):qao_o6:=fun a0 a1 a2 a3 a4 a5 a6 a7 a8=>bif decide (a2<a1) then bif decide (0≤a2)&&decide (a2<(List.length a8:Int)) then (a8[Int.toNat a2]?).bind fun y0=>bif decide (a2<(List.length a0:Int)) then bif decide (0≤a2) then (a0[Int.toNat a2]?).bind fun y1=>bif (↑(UInt8.toNat y1):Int)==78 then (qar y0).bind fun y2=>bif !y2 then some (.inl (false)) else rec (a0) (a1) (IntKind.wrap IntKind.i64 (a2+(1:Int))) (a3) (a4) (a5) (a6) (a7) (a8) else bif (↑(UInt8.toNat y1):Int)==82 then Option.bind (α:=Bool) ( bif decide (y0<0) then some (true) else some (decide (y0≥a6))) fun y3=>bif y3 then some (.inl (false)) else rec (a0) (a1) (IntKind.wrap IntKind.i64 (a2+(1:Int))) (a3) (a4) (a5) (a6) (a7) (a8) else bif (↑(UInt8.toNat y1):Int)==73 then Option.bind (α:=Bool) ( bif decide (y0<0) then some (true) else some (decide (y0≥(List.length a7:Int)))) fun y4=>bif y4 then some (.inl (false)) else rec (a0) (a1) (IntKind.wrap IntKind.i64 (a2+(1:Int))) (a3) (a4) (a5) (a6) (a7) (a8) else bif (↑(UInt8.toNat y1):Int)==99 then Option.bind (α:=Bool) ( bif decide (y0<0) then some (true) else some (decide (y0≥(List.length a3:Int)))) fun y5=>bif y5 then some (.inl (false)) else rec (a0) (a1) (IntKind.wrap IntKind.i64 (a2+(1:Int))) (a3) (a4) (a5) (a6) (a7) (a8) else bif (↑(UInt8.toNat y1):Int)==109 then Option.bind (α:=Bool) ( bif decide (y0<0) then some (true) else some (decide (y0≥a4))) fun y6=>bif y6 then some (.inl (false)) else rec (a0) (a1) (IntKind.wrap IntKind.i64 (a2+(1:Int))) (a3) (a4) (a5) (a6) (a7) (a8) else bif (↑(UInt8.toNat y1):Int)==116 then Option.bind (α:=Bool) ( bif decide (y0<0) then some (true) else some (decide (y0≥(List.length a5:Int)))) fun y7=>bif y7 then some (.inl (false)) else rec (a0) (a1) (IntKind.wrap IntKind.i64 (a2+(1:Int))) (a3) (a4) (a5) (a6) (a7) (a8) else Option.bind (α:=Bool) ( bif decide (y0<0) then some (true) else some (decide (y0≥1))) fun y8=>bif y8 then some (.inl (false)) else rec (a0) (a1) (IntKind.wrap IntKind.i64 (a2+(1:Int))) (a3) (a4) (a5) (a6) (a7) (a8) else none else Option.bind (α:=Bool) ( bif decide (y0<0) then some (true) else some (decide (y0≥1))) fun y9=>bif y9 then some (.inl (false)) else rec (a0) (a1) (IntKind.wrap IntKind.i64 (a2+(1:Int))) (a3) (a4) (a5) (a6) (a7) (a8) else none else some (.inr ())
def qao_i6:Nat→qao_o6
 |0=>fun _ _ _ _ _ _ _ _ _=>none
 |n+1=>qao_t6 (qao_i6 n)
def qao_l6:=sealF (qao_i6 fuel)
def qao_f (a0:Image) (a1:ACode) (a2:Instr):Option (Bool):=(qas).bind fun y0=>Option.bind (α:=Bool) ( bif decide (Instr.op a2<1) then some (true) else some (decide (Instr.op a2≥(List.length y0:Int)))) fun y1=>Option.bind (α:=Bool) ( bif y1 then some (true) else bif decide ((0:Int)≤Instr.op a2)&&decide (Instr.op a2<(List.length y0:Int)) then (y0[Int.toNat (Instr.op a2)]?).bind fun y2=>some (decide (y2=Operation.mk [] [])) else none) fun y3=>bif y3 then some (false) else bif decide ((0:Int)≤Instr.op a2)&&decide (Instr.op a2<(List.length y0:Int)) then (y0[Int.toNat (Instr.op a2)]?).bind fun y4=>(qao_l6 (Operation.numbers y4) (List.length [Instr.a a2,Instr.b a2,Instr.c a2]:Int) (0:Int) (Image.cells a0) (Image.mutexes a0) (Image.threads a0) (ACode.regs a1) (ACode.instrs a1) [Instr.a a2,Instr.b a2,Instr.c a2]).bind fun y5=>(match y5 with|.inl y6=>some (y6)|.inr y6=>some (true)) else none
def qao:=sealF (qao_f)
abbrev qan_o4:=List Int→Int→Int→List Int→Int→List ACode→Option ((Bool)⊕((List Int)×Int×(List ACode)))
def qan_t4 (rec:qan_o4):qan_o4:=fun a0 a1 a2 a3 a4 a5=>bif decide (a2<a1) then bif decide (0≤a2) then (a0[Int.toNat a2]?).bind fun y0=>(qar y0).bind fun y1=>bif !y1 then some (.inl (false)) else rec (a0) (a1) (IntKind.wrap IntKind.i64 (a2+(1:Int))) (a3) (a4) (a5) else none else some (.inr ((a3),(a4),(a5)))
def qan_i4:Nat→qan_o4
 |0=>fun _ _ _ _ _ _=>none
 |n+1=>qan_t4 (qan_i4 n)
def qan_l4:=sealF (qan_i4 fuel)
abbrev qan_o19:=List ACode→Int→Int→List Instr→Int→Int→List Int→Int→List ACode→Int→List Instr→Option ((Bool)⊕((List ACode)×Int×Int×(List Int)×Int×(List ACode)))
def qan_t19 (rec:qan_o19):qan_o19:=fun a0 a1 a2 a3 a4 a5 a6 a7 a8 a9 a10=>bif decide (a5<a4) then bif decide (0≤a5) then (a3[Int.toNat a5]?).bind fun y0=>(qao (Image.mk a6 a7 a8) (ACode.mk a9 a10) (Instr.mk (Instr.op y0) (Instr.a y0) (Instr.b y0) (Instr.c y0))).bind fun y1=>bif !y1 then some (.inl (false)) else rec (a0) (a1) (a2) (a3) (a4) (IntKind.wrap IntKind.i64 (a5+(1:Int))) (a6) (a7) (a8) (a9) (a10) else none else some (.inr ((a0),(a1),(a2),(a6),(a7),(a8)))
def qan_i19:Nat→qan_o19
 |0=>fun _ _ _ _ _ _ _ _ _ _ _=>none
 |n+1=>qan_t19 (qan_i19 n)
def qan_l19:=sealF (qan_i19 fuel)
abbrev qan_o10:=List ACode→Int→Int→List Int→Int→List ACode→Option ((Bool)⊕(Unit))
def qan_t10 (rec:qan_o10):qan_o10:=fun a0 a1 a2 a3 a4 a5=>bif decide (a2<a1) then bif decide (0≤a2) then (a0[Int.toNat a2]?).bind fun y0=>Option.bind (α:=Bool) ( bif decide (ACode.regs y0<0) then some (true) else some (decide (ACode.regs y0>64))) fun y1=>Option.bind (α:=Bool) ( bif y1 then some (true) else some (decide ((List.length (ACode.instrs y0):Int)<1))) fun y2=>Option.bind (α:=Bool) ( bif y2 then some (true) else some (decide ((List.length (ACode.instrs y0):Int)>4000))) fun y3=>bif y3 then some (.inl (false)) else bif decide ((0:Int)≤IntKind.wrap IntKind.i64 ((List.length (ACode.instrs y0):Int)-(1:Int))) then ((ACode.instrs y0)[Int.toNat (IntKind.wrap IntKind.i64 ((List.length (ACode.instrs y0):Int)-(1:Int)))]?).bind fun y4=>Option.bind (α:=Bool) ( bif Instr.op y4 != 29 then some (Instr.op y4 != 18) else some (false)) fun y5=>bif y5 then some (.inl (false)) else (qan_l19 a0 a1 a2 (ACode.instrs y0) (List.length (ACode.instrs y0):Int) (0:Int) a3 a4 a5 (ACode.regs y0) (ACode.instrs y0)).bind fun y6=>(match y6 with|.inl y7=>some (.inl (y7))|.inr y7=>rec y7.1 y7.2.1 (IntKind.wrap IntKind.i64 (y7.2.2.1+(1:Int))) y7.2.2.2.1 y7.2.2.2.2.1 y7.2.2.2.2.2) else none else none else some (.inr ())
def qan_i10:Nat→qan_o10
 |0=>fun _ _ _ _ _ _=>none
 |n+1=>qan_t10 (qan_i10 n)
def qan_l10:=sealF (qan_i10 fuel)
def qan_f (a0:Image):Option (Bool):=Option.bind (α:=Bool) ( bif decide ((List.length (Image.threads a0):Int)<1) then some (true) else some (decide ((List.length (Image.threads a0):Int)>8))) fun y0=>Option.bind (α:=Bool) ( bif y0 then some (true) else some (decide ((List.length (Image.cells a0):Int)>8))) fun y1=>Option.bind (α:=Bool) ( bif y1 then some (true) else some (decide (Image.mutexes a0<0))) fun y2=>Option.bind (α:=Bool) ( bif y2 then some (true) else some (decide (Image.mutexes a0>8))) fun y3=>bif y3 then some (false) else (qan_l4 (Image.cells a0) (List.length (Image.cells a0):Int) (0:Int) (Image.cells a0) (Image.mutexes a0) (Image.threads a0)).bind fun y4=>(match y4 with|.inl y5=>some (y5)|.inr y5=>(qan_l10 y5.2.2 (List.length y5.2.2:Int) (0:Int) y5.1 y5.2.1 y5.2.2).bind fun y6=>(match y6 with|.inl y7=>some (y7)|.inr y7=>some (true)))
def qan:=sealF (qan_f)
def qbp_f (a0:List UInt8) (a1:List Int):Option (Int×Bool×(List Int)):=bif decide (List.length a1+List.length a0≤(140737488355328:Nat)∧List.length a1+List.length a0≤(9223372036854775807:Nat)) then some (((List.length a0:Int)),(false),(a1++ofStr a0)) else none
def qbp:=sealF (qbp_f)
def qbo_f (a0:Int) (a1:List Int):Option (Bool×(List Int)):=bif decide ((List.length a1+List.length [a0])*(1:Nat)≤(140737488355328:Nat)∧List.length a1+List.length [a0]≤(9223372036854775807:Nat)) then some ((false),(a1++[a0])) else none
def qbo:=sealF (qbo_f)
abbrev qap_o2:=List Int→Int→Int→List Int→Option ((List Int))
def qap_t2 (rec:qap_o2):qap_o2:=fun a0 a1 a2 a3=>bif decide (a2<a1) then bif decide (0≤a2) then (a0[Int.toNat a2]?).bind fun y0=>(zaco y0).bind fun y1=>bif decide ((1:Nat)+List.length y1≤(9223372036854775807:Nat)) then (qbp ([(32:UInt8)]++y1) a3).bind fun y2=>rec (a0) (a1) (IntKind.wrap IntKind.i64 (a2+(1:Int))) y2.2.2 else none else none else some (a3)
def qap_i2:Nat→qap_o2
 |0=>fun _ _ _ _=>none
 |n+1=>qap_t2 (qap_i2 n)
def qap_l2:=sealF (qap_i2 fuel)
def qap_f (a0:List UInt8) (a1:List Int) (a2:List Int):Option ((List Int)):=(qbp a0 a2).bind fun y0=>(qap_l2 a1 (List.length a1:Int) (0:Int) y0.2.2).bind fun y1=>(qbo (10:Int) y1).bind fun y2=>some y2.2
def qap:=sealF (qap_f)
abbrev qal_o12:=List ACode→Int→Int→List Instr→Int→Int→List Operation→List Int→Option ((List ACode)×Int×Int×(List Operation)×(List Int))
def qal_t12 (rec:qal_o12):qal_o12:=fun a0 a1 a2 a3 a4 a5 a6 a7=>bif decide (a5<a4) then bif decide (0≤a5) then (a3[Int.toNat a5]?).bind fun y0=>bif decide ((0:Int)≤Instr.op y0)&&decide (Instr.op y0<(List.length a6:Int)) then (a6[Int.toNat (Instr.op y0)]?).bind fun y1=>bif decide ((0:Int)≤(0:Int))&&(decide ((0:Int)≤(List.length (Operation.numbers y1):Int))&&decide ((List.length (Operation.numbers y1):Int)≤(List.length [Instr.a y0,Instr.b y0,Instr.c y0]:Int))) then (qap (Operation.word y1) (List.drop (0:Nat) (List.take (Int.toNat (List.length (Operation.numbers y1):Int)) [Instr.a y0,Instr.b y0,Instr.c y0])) a7).bind fun y2=>rec (a0) (a1) (a2) (a3) (a4) (IntKind.wrap IntKind.i64 (a5+(1:Int))) (a6) (y2) else none else none else none else some ((a0),(a1),(a2),(a6),(a7))
def qal_i12:Nat→qal_o12
 |0=>fun _ _ _ _ _ _ _ _=>none
 |n+1=>qal_t12 (qal_i12 n)
def qal_l12:=sealF (qal_i12 fuel)
abbrev qal_o8:=List ACode→Int→Int→List Operation→List Int→Option ((List Int))
def qal_t8 (rec:qal_o8):qal_o8:=fun a0 a1 a2 a3 a4=>bif decide (a2<a1) then bif decide (0≤a2) then (a0[Int.toNat a2]?).bind fun y0=>(qap [(116:UInt8),(104:UInt8),(114:UInt8),(101:UInt8),(97:UInt8),(100:UInt8)] [ACode.regs y0] a4).bind fun y1=>(qal_l12 a0 a1 a2 (ACode.instrs y0) (List.length (ACode.instrs y0):Int) (0:Int) a3 y1).bind fun y2=>rec y2.1 y2.2.1 (IntKind.wrap IntKind.i64 (y2.2.2.1+(1:Int))) y2.2.2.2.1 y2.2.2.2.2 else none else some (a4)
def qal_i8:Nat→qal_o8
 |0=>fun _ _ _ _ _=>none
 |n+1=>qal_t8 (qal_i8 n)
def qal_l8:=sealF (qal_i8 fuel)
def qal_f (a0:Image):Option ((List UInt8)×Int):=(qan (Image.mk (Image.cells a0) (Image.mutexes a0) (Image.threads a0))).bind fun y0=>bif !y0 then some (([]),((100:Int))) else (qas).bind fun y1=>(qap [(99:UInt8),(101:UInt8),(108:UInt8),(108:UInt8),(115:UInt8)] (Image.cells a0) []).bind fun y2=>(qap [(109:UInt8),(117:UInt8),(116:UInt8),(101:UInt8),(120:UInt8),(101:UInt8),(115:UInt8)] [Image.mutexes a0] y2).bind fun y3=>(qal_l8 (Image.threads a0) (List.length (Image.threads a0):Int) (0:Int) y1 y3).bind fun y4=>(zabp y4).bind fun y5=>some ((y5),((0:Int)))
def qal:=sealF (qal_f)
def qaC_f (a0:List UInt8) (a1:List UInt8):Option (Bool):=Option.bind (α:=Bool) ( bif decide ((List.length a0:Int)≥(List.length a1:Int)) then bif decide ((0:Int)≤(0:Int))&&(decide ((0:Int)≤(List.length a1:Int))&&decide ((List.length a1:Int)≤(List.length a0:Int))) then some (List.drop (0:Nat) (List.take (Int.toNat (List.length a1:Int)) a0)==a1) else none else some (false)) fun y0=>some (y0)
def qaC:=sealF (qaC_f)
def qaD_f (a0:List UInt8) (a1:List UInt8):Option ((List UInt8)):=(qaC a0 a1).bind fun y0=>bif y0 then bif decide ((0:Int)≤(List.length a1:Int))&&(decide ((List.length a1:Int)≤(List.length a0:Int))&&decide ((List.length a0:Int)≤(List.length a0:Int))) then some (List.drop (Int.toNat (List.length a1:Int)) (List.take (Int.toNat (List.length a0:Int)) a0)) else none else some (a0)
def qaD:=sealF (qaD_f)
def qbq_f (a0:List UInt8) (a1:List UInt8):Option ((List UInt8)):=(qaD a0 a1).bind fun y0=>some (y0)
def qbq:=sealF (qbq_f)
def qaq_f (a0:List UInt8):Option (Int×Bool):=(zabx a0).bind fun y0=>Option.bind (α:=Bool) ( bif !y0.2 then (qbq a0 [(45:UInt8)]).bind fun y1=>some (decide ((List.length y1:Int)≤10)) else some (false)) fun y2=>Option.bind (α:=Bool) ( bif y2 then (zaco y0.1).bind fun y3=>some (y3==a0) else some (false)) fun y4=>some (y0.1,(y4))
def qaq:=sealF (qaq_f)
abbrev qat_o4:=List (List UInt8)→List (List UInt8)→Int→Int→List Int→Option (((List UInt8)×Bool)⊕((List (List UInt8))×(List Int)))
def qat_t4 (rec:qat_o4):qat_o4:=fun a0 a1 a2 a3 a4=>bif decide (a3<a2) then bif decide (0≤a3) then (a1[Int.toNat a3]?).bind fun y0=>(qaq y0).bind fun y1=>bif !y1.2 then some (.inl (([]),(false))) else bif decide ((List.length a4+List.length [y1.1])*(8:Nat)≤(140737488355328:Nat)∧List.length a4+List.length [y1.1]≤(9223372036854775807:Nat)) then rec (a0) (a1) (a2) (IntKind.wrap IntKind.i64 (a3+(1:Int))) (a4++[y1.1]) else none else none else some (.inr ((a0),(a4)))
def qat_i4:Nat→qat_o4
 |0=>fun _ _ _ _ _=>none
 |n+1=>qat_t4 (qat_i4 n)
def qat_l4:=sealF (qat_i4 fuel)
def qat_f (a0:List UInt8):Option ((List UInt8)×Bool×(List Int)):=(strings_Split a0 [(32:UInt8)]).bind fun y0=>bif decide ((0:Int)≤(1:Int))&&(decide ((1:Int)≤(List.length y0:Int))&&decide ((List.length y0:Int)≤(List.length y0:Int))) then (qat_l4 y0 (List.drop (1:Nat) (List.take (Int.toNat (List.length y0:Int)) y0)) (↑(List.length (List.drop (1:Nat) (List.take (Int.toNat (List.length y0:Int)) y0))):Int) (0:Int) []).bind fun y1=>(match y1 with|.inl y2=>some (y2.1,y2.2,([]))|.inr y2=>(y2.1[(0:Nat)]?).bind fun y3=>some ((y3),(true),y2.2)) else none
def qat:=sealF (qat_f)
def qbh_f (a0:List Int):Option ((List Int)):=bif decide ((List.length a0:Int)=(List.length a0:Int))&&decide ((List.length a0:Int)=(List.length a0:Int)) then some (a0) else none
def qbh:=sealF (qbh_f)
def qav_f (a0:Operation) (a1:List UInt8) (a2:List Int):Option (Bool×(List UInt8)×(List Int)):=Option.bind (α:=Bool) ( bif Operation.word a0==a1 then some ((List.length (Operation.numbers a0):Int)==(List.length a2:Int)) else some (false)) fun y0=>some ((y0),(a1),(a2))
def qav:=sealF (qav_f)
abbrev qbm_o2:=List Operation→Int→Int→List UInt8→List Int→Option ((Int×(List UInt8)×(List Int))⊕((List UInt8)×(List Int)))
def qbm_t2 (rec:qbm_o2):qbm_o2:=fun a0 a1 a2 a3 a4=>bif decide (a2<a1) then bif decide (0≤a2) then (a0[Int.toNat a2]?).bind fun y0=>(qav y0 a3 a4).bind fun y1=>bif y1.1 then some (.inl ((a2),y1.2.1,y1.2.2)) else rec (a0) (a1) (IntKind.wrap IntKind.i64 (a2+(1:Int))) y1.2.1 y1.2.2 else none else some (.inr ((a3),(a4)))
def qbm_i2:Nat→qbm_o2
 |0=>fun _ _ _ _ _=>none
 |n+1=>qbm_t2 (qbm_i2 n)
def qbm_l2:=sealF (qbm_i2 fuel)
def qbm_f (a0:List Operation) (a1:List UInt8) (a2:List Int):Option (Int×(List UInt8)×(List Int)):=(qbm_l2 a0 (List.length a0:Int) (0:Int) a1 a2).bind fun y0=>(match y0 with|.inl y1=>some (y1.1,y1.2.1,y1.2.2)|.inr y1=>some (((-1:Int)),y1.1,y1.2))
def qbm:=sealF (qbm_f)
def qau_f (a0:Int) (a1:List UInt8) (a2:Int) (a3:List Int) (a4:List ACode):Option (Bool×Int×(List Int)×(List ACode)):=(qat a1).bind fun y0=>Option.bind (α:=Bool) ( bif (List.length y0.2.2:Int)==1 then bif decide ((0:Int)≤(0:Int))&&decide ((0:Int)<(List.length y0.2.2:Int)) then (y0.2.2[(0:Nat)]?).bind fun y1=>some (decide (y1≥0)) else none else some (false)) fun y2=>bif !y0.2.1 then some ((false),(a2),(a3),(a4)) else bif a0==0 then (qbh y0.2.2).bind fun y3=>some ((y0.1==[(99:UInt8),(101:UInt8),(108:UInt8),(108:UInt8),(115:UInt8)]),(a2),(y3),(a4)) else bif a0==1 then bif y2 then bif decide ((0:Int)≤(0:Int))&&decide ((0:Int)<(List.length y0.2.2:Int)) then (y0.2.2[(0:Nat)]?).bind fun y4=>Option.bind (α:=Bool) ( bif y0.1==[(109:UInt8),(117:UInt8),(116:UInt8),(101:UInt8),(120:UInt8),(101:UInt8),(115:UInt8)] then some (y2) else some (false)) fun y5=>some ((y5),(y4),(a3),(a4)) else none else Option.bind (α:=Bool) ( bif y0.1==[(109:UInt8),(117:UInt8),(116:UInt8),(101:UInt8),(120:UInt8),(101:UInt8),(115:UInt8)] then some (y2) else some (false)) fun y6=>some ((y6),(a2),(a3),(a4)) else bif y0.1==[(116:UInt8),(104:UInt8),(114:UInt8),(101:UInt8),(97:UInt8),(100:UInt8)] then bif y2 then bif decide ((0:Int)≤(0:Int))&&decide ((0:Int)<(List.length y0.2.2:Int)) then (y0.2.2[(0:Nat)]?).bind fun y7=>bif decide ((List.length a4+List.length [ACode.mk y7 []])*(32:Nat)≤(140737488355328:Nat)∧List.length a4+List.length [ACode.mk y7 []]≤(9223372036854775807:Nat)) then some ((y2),(a2),(a3),(a4++[ACode.mk y7 []])) else none else none else some ((y2),(a2),(a3),(a4)) else bif a0==2 then some ((false),(a2),(a3),(a4)) else (qas).bind fun y8=>(qbm y8 y0.1 y0.2.2).bind fun y9=>bif decide (y9.1<1) then some ((false),(a2),(a3),(a4)) else bif decide ((0:Int)<(List.length y9.2.2:Int)) then bif decide ((0:Int)≤(0:Int))&&decide ((0:Int)<(List.length y9.2.2:Int)) then (y9.2.2[(0:Nat)]?).bind fun y10=>bif decide (IntKind.wrap IntKind.i64 ((0:Int)+(1:Int))<(List.length y9.2.2:Int)) then bif decide ((0:Int)≤IntKind.wrap IntKind.i64 ((0:Int)+(1:Int)))&&decide (IntKind.wrap IntKind.i64 ((0:Int)+(1:Int))<(List.length y9.2.2:Int)) then (y9.2.2[(1:Nat)]?).bind fun y11=>bif decide (IntKind.wrap IntKind.i64 (IntKind.wrap IntKind.i64 ((0:Int)+(1:Int))+(1:Int))<(List.length y9.2.2:Int)) then bif decide ((0:Int)≤IntKind.wrap IntKind.i64 (IntKind.wrap IntKind.i64 ((0:Int)+(1:Int))+(1:Int)))&&decide (IntKind.wrap IntKind.i64 (IntKind.wrap IntKind.i64 ((0:Int)+(1:Int))+(1:Int))<(List.length y9.2.2:Int)) then (y9.2.2[(2:Nat)]?).bind fun y12=>bif decide ((0:Int)≤IntKind.wrap IntKind.i64 ((List.length a4:Int)-(1:Int)))&&decide (IntKind.wrap IntKind.i64 ((List.length a4:Int)-(1:Int))<(List.length a4:Int)) then (a4[Int.toNat (IntKind.wrap IntKind.i64 ((List.length a4:Int)-(1:Int)))]?).bind fun y13=>bif decide ((List.length (ACode.instrs y13)+List.length [Instr.mk y9.1 y10 y11 y12])*(32:Nat)≤(140737488355328:Nat)∧List.length (ACode.instrs y13)+List.length [Instr.mk y9.1 y10 y11 y12]≤(9223372036854775807:Nat)) then bif Nat.beq (Int.toNat (IntKind.wrap IntKind.i64 ((List.length a4:Int)-(1:Int)))) (Int.toNat (IntKind.wrap IntKind.i64 ((List.length a4:Int)-(1:Int)))) then some ((true),(a2),(a3),(List.set a4 (Int.toNat (IntKind.wrap IntKind.i64 ((List.length a4:Int)-(1:Int)))) (ACode.mk (ACode.regs y13) (ACode.instrs y13++[Instr.mk y9.1 y10 y11 y12])))) else none else none else none else none else bif decide ((0:Int)≤IntKind.wrap IntKind.i64 ((List.length a4:Int)-(1:Int)))&&decide (IntKind.wrap IntKind.i64 ((List.length a4:Int)-(1:Int))<(List.length a4:Int)) then (a4[Int.toNat (IntKind.wrap IntKind.i64 ((List.length a4:Int)-(1:Int)))]?).bind fun y14=>bif decide ((List.length (ACode.instrs y14)+List.length [Instr.mk y9.1 y10 y11 (0:Int)])*(32:Nat)≤(140737488355328:Nat)∧List.length (ACode.instrs y14)+List.length [Instr.mk y9.1 y10 y11 (0:Int)]≤(9223372036854775807:Nat)) then bif Nat.beq (Int.toNat (IntKind.wrap IntKind.i64 ((List.length a4:Int)-(1:Int)))) (Int.toNat (IntKind.wrap IntKind.i64 ((List.length a4:Int)-(1:Int)))) then some ((true),(a2),(a3),(List.set a4 (Int.toNat (IntKind.wrap IntKind.i64 ((List.length a4:Int)-(1:Int)))) (ACode.mk (ACode.regs y14) (ACode.instrs y14++[Instr.mk y9.1 y10 y11 (0:Int)])))) else none else none else none else none else bif decide (IntKind.wrap IntKind.i64 (IntKind.wrap IntKind.i64 ((0:Int)+(1:Int))+(1:Int))<(List.length y9.2.2:Int)) then bif decide ((0:Int)≤IntKind.wrap IntKind.i64 (IntKind.wrap IntKind.i64 ((0:Int)+(1:Int))+(1:Int)))&&decide (IntKind.wrap IntKind.i64 (IntKind.wrap IntKind.i64 ((0:Int)+(1:Int))+(1:Int))<(List.length y9.2.2:Int)) then (y9.2.2[(2:Nat)]?).bind fun y15=>bif decide ((0:Int)≤IntKind.wrap IntKind.i64 ((List.length a4:Int)-(1:Int)))&&decide (IntKind.wrap IntKind.i64 ((List.length a4:Int)-(1:Int))<(List.length a4:Int)) then (a4[Int.toNat (IntKind.wrap IntKind.i64 ((List.length a4:Int)-(1:Int)))]?).bind fun y16=>bif decide ((List.length (ACode.instrs y16)+List.length [Instr.mk y9.1 y10 (0:Int) y15])*(32:Nat)≤(140737488355328:Nat)∧List.length (ACode.instrs y16)+List.length [Instr.mk y9.1 y10 (0:Int) y15]≤(9223372036854775807:Nat)) then bif Nat.beq (Int.toNat (IntKind.wrap IntKind.i64 ((List.length a4:Int)-(1:Int)))) (Int.toNat (IntKind.wrap IntKind.i64 ((List.length a4:Int)-(1:Int)))) then some ((true),(a2),(a3),(List.set a4 (Int.toNat (IntKind.wrap IntKind.i64 ((List.length a4:Int)-(1:Int)))) (ACode.mk (ACode.regs y16) (ACode.instrs y16++[Instr.mk y9.1 y10 (0:Int) y15])))) else none else none else none else none else bif decide ((0:Int)≤IntKind.wrap IntKind.i64 ((List.length a4:Int)-(1:Int)))&&decide (IntKind.wrap IntKind.i64 ((List.length a4:Int)-(1:Int))<(List.length a4:Int)) then (a4[Int.toNat (IntKind.wrap IntKind.i64 ((List.length a4:Int)-(1:Int)))]?).bind fun y17=>bif decide ((List.length (ACode.instrs y17)+List.length [Instr.mk y9.1 y10 (0:Int) (0:Int)])*(32:Nat)≤(140737488355328:Nat)∧List.length (ACode.instrs y17)+List.length [Instr.mk y9.1 y10 (0:Int) (0:Int)]≤(9223372036854775807:Nat)) then bif Nat.beq (Int.toNat (IntKind.wrap IntKind.i64 ((List.length a4:Int)-(1:Int)))) (Int.toNat (IntKind.wrap IntKind.i64 ((List.length a4:Int)-(1:Int)))) then some ((true),(a2),(a3),(List.set a4 (Int.toNat (IntKind.wrap IntKind.i64 ((List.length a4:Int)-(1:Int)))) (ACode.mk (ACode.regs y17) (ACode.instrs y17++[Instr.mk y9.1 y10 (0:Int) (0:Int)])))) else none else none else none else none else bif decide (IntKind.wrap IntKind.i64 ((0:Int)+(1:Int))<(List.length y9.2.2:Int)) then bif decide ((0:Int)≤IntKind.wrap IntKind.i64 ((0:Int)+(1:Int)))&&decide (IntKind.wrap IntKind.i64 ((0:Int)+(1:Int))<(List.length y9.2.2:Int)) then (y9.2.2[(1:Nat)]?).bind fun y18=>bif decide (IntKind.wrap IntKind.i64 (IntKind.wrap IntKind.i64 ((0:Int)+(1:Int))+(1:Int))<(List.length y9.2.2:Int)) then bif decide ((0:Int)≤IntKind.wrap IntKind.i64 (IntKind.wrap IntKind.i64 ((0:Int)+(1:Int))+(1:Int)))&&decide (IntKind.wrap IntKind.i64 (IntKind.wrap IntKind.i64 ((0:Int)+(1:Int))+(1:Int))<(List.length y9.2.2:Int)) then (y9.2.2[(2:Nat)]?).bind fun y19=>bif decide ((0:Int)≤IntKind.wrap IntKind.i64 ((List.length a4:Int)-(1:Int)))&&decide (IntKind.wrap IntKind.i64 ((List.length a4:Int)-(1:Int))<(List.length a4:Int)) then (a4[Int.toNat (IntKind.wrap IntKind.i64 ((List.length a4:Int)-(1:Int)))]?).bind fun y20=>bif decide ((List.length (ACode.instrs y20)+List.length [Instr.mk y9.1 (0:Int) y18 y19])*(32:Nat)≤(140737488355328:Nat)∧List.length (ACode.instrs y20)+List.length [Instr.mk y9.1 (0:Int) y18 y19]≤(9223372036854775807:Nat)) then bif Nat.beq (Int.toNat (IntKind.wrap IntKind.i64 ((List.length a4:Int)-(1:Int)))) (Int.toNat (IntKind.wrap IntKind.i64 ((List.length a4:Int)-(1:Int)))) then some ((true),(a2),(a3),(List.set a4 (Int.toNat (IntKind.wrap IntKind.i64 ((List.length a4:Int)-(1:Int)))) (ACode.mk (ACode.regs y20) (ACode.instrs y20++[Instr.mk y9.1 (0:Int) y18 y19])))) else none else none else none else none else bif decide ((0:Int)≤IntKind.wrap IntKind.i64 ((List.length a4:Int)-(1:Int)))&&decide (IntKind.wrap IntKind.i64 ((List.length a4:Int)-(1:Int))<(List.length a4:Int)) then (a4[Int.toNat (IntKind.wrap IntKind.i64 ((List.length a4:Int)-(1:Int)))]?).bind fun y21=>bif decide ((List.length (ACode.instrs y21)+List.length [Instr.mk y9.1 (0:Int) y18 (0:Int)])*(32:Nat)≤(140737488355328:Nat)∧List.length (ACode.instrs y21)+List.length [Instr.mk y9.1 (0:Int) y18 (0:Int)]≤(9223372036854775807:Nat)) then bif Nat.beq (Int.toNat (IntKind.wrap IntKind.i64 ((List.length a4:Int)-(1:Int)))) (Int.toNat (IntKind.wrap IntKind.i64 ((List.length a4:Int)-(1:Int)))) then some ((true),(a2),(a3),(List.set a4 (Int.toNat (IntKind.wrap IntKind.i64 ((List.length a4:Int)-(1:Int)))) (ACode.mk (ACode.regs y21) (ACode.instrs y21++[Instr.mk y9.1 (0:Int) y18 (0:Int)])))) else none else none else none else none else bif decide (IntKind.wrap IntKind.i64 (IntKind.wrap IntKind.i64 ((0:Int)+(1:Int))+(1:Int))<(List.length y9.2.2:Int)) then bif decide ((0:Int)≤IntKind.wrap IntKind.i64 (IntKind.wrap IntKind.i64 ((0:Int)+(1:Int))+(1:Int)))&&decide (IntKind.wrap IntKind.i64 (IntKind.wrap IntKind.i64 ((0:Int)+(1:Int))+(1:Int))<(List.length y9.2.2:Int)) then (y9.2.2[(2:Nat)]?).bind fun y22=>bif decide ((0:Int)≤IntKind.wrap IntKind.i64 ((List.length a4:Int)-(1:Int)))&&decide (IntKind.wrap IntKind.i64 ((List.length a4:Int)-(1:Int))<(List.length a4:Int)) then (a4[Int.toNat (IntKind.wrap IntKind.i64 ((List.length a4:Int)-(1:Int)))]?).bind fun y23=>bif decide ((List.length (ACode.instrs y23)+List.length [Instr.mk y9.1 (0:Int) (0:Int) y22])*(32:Nat)≤(140737488355328:Nat)∧List.length (ACode.instrs y23)+List.length [Instr.mk y9.1 (0:Int) (0:Int) y22]≤(9223372036854775807:Nat)) then bif Nat.beq (Int.toNat (IntKind.wrap IntKind.i64 ((List.length a4:Int)-(1:Int)))) (Int.toNat (IntKind.wrap IntKind.i64 ((List.length a4:Int)-(1:Int)))) then some ((true),(a2),(a3),(List.set a4 (Int.toNat (IntKind.wrap IntKind.i64 ((List.length a4:Int)-(1:Int)))) (ACode.mk (ACode.regs y23) (ACode.instrs y23++[Instr.mk y9.1 (0:Int) (0:Int) y22])))) else none else none else none else none else bif decide ((0:Int)≤IntKind.wrap IntKind.i64 ((List.length a4:Int)-(1:Int)))&&decide (IntKind.wrap IntKind.i64 ((List.length a4:Int)-(1:Int))<(List.length a4:Int)) then (a4[Int.toNat (IntKind.wrap IntKind.i64 ((List.length a4:Int)-(1:Int)))]?).bind fun y24=>bif decide ((List.length (ACode.instrs y24)+List.length [Instr.mk y9.1 (0:Int) (0:Int) (0:Int)])*(32:Nat)≤(140737488355328:Nat)∧List.length (ACode.instrs y24)+List.length [Instr.mk y9.1 (0:Int) (0:Int) (0:Int)]≤(9223372036854775807:Nat)) then bif Nat.beq (Int.toNat (IntKind.wrap IntKind.i64 ((List.length a4:Int)-(1:Int)))) (Int.toNat (IntKind.wrap IntKind.i64 ((List.length a4:Int)-(1:Int)))) then some ((true),(a2),(a3),(List.set a4 (Int.toNat (IntKind.wrap IntKind.i64 ((List.length a4:Int)-(1:Int)))) (ACode.mk (ACode.regs y24) (ACode.instrs y24++[Instr.mk y9.1 (0:Int) (0:Int) (0:Int)])))) else none else none else none
def qau:=sealF (qau_f)
abbrev qam_o3:=List UInt8→Int→Int→Int→Int→Int→List UInt8→Int→List Int→List ACode→Option ((Int×Int×Int×(List UInt8))⊕(Int×Int×Int×Int×Int×(List UInt8)×Int×(List Int)×(List ACode)))
def qam_t3 (rec:qam_o3):qam_o3:=fun a0 a1 a2 a3 a4 a5 a6 a7 a8 a9=>bif decide (a1<(List.length a0:Int)) then bif decide (0≤a1)&&(decide (a1≤(List.length a0:Int))&&decide ((List.length a0:Int)≤(List.length a0:Int))) then (strings_Cut (List.drop (Int.toNat a1) (List.take (Int.toNat (List.length a0:Int)) a0)) [(10:UInt8)]).bind fun y0=>bif !y0.2.2 then some (.inl (((0:Int)),((101:Int)),(a1),([]))) else (qau a2 y0.1 a7 a8 a9).bind fun y1=>bif !y1.1 then some (.inl (((0:Int)),((101:Int)),(a1),([]))) else rec (a0) (IntKind.wrap IntKind.i64 (a1+IntKind.wrap IntKind.i64 ((List.length y0.1:Int)+(1:Int)))) (IntKind.wrap IntKind.i64 (a2+(1:Int))) (a3) (a4) (a5) (a6) y1.2.1 y1.2.2.1 y1.2.2.2 else none else some (.inr ((a1),(a2),(a3),(a4),(a5),(a6),(a7),(a8),(a9)))
def qam_i3:Nat→qam_o3
 |0=>fun _ _ _ _ _ _ _ _ _ _=>none
 |n+1=>qam_t3 (qam_i3 n)
def qam_l3:=sealF (qam_i3 fuel)
def qam_f (a0:List UInt8):Option (Int×Fault×(List Int)×(List ACode)):=(qam_l3 a0 (0:Int) (0:Int) (0:Int) (0:Int) (0:Int) [] (0:Int) [] []).bind fun y0=>(match y0 with|.inl y1=>some (y1.1,(Fault.mk y1.2.1 y1.2.2.1 y1.2.2.2),([]),([]))|.inr y1=>bif decide (y1.2.1<3) then some (((0:Int)),(Fault.mk (101:Int) y1.1 []),([]),([])) else (qan (Image.mk y1.2.2.2.2.2.2.2.1 y1.2.2.2.2.2.2.1 y1.2.2.2.2.2.2.2.2)).bind fun y2=>bif !y2 then some (((0:Int)),(Fault.mk (100:Int) (0:Int) []),([]),([])) else some (y1.2.2.2.2.2.2.1,(Fault.mk (0:Int) (0:Int) []),y1.2.2.2.2.2.2.2.1,y1.2.2.2.2.2.2.2.2))
def qam:=sealF (qam_f)
abbrev qa9_o4:=Int→List Int→Int→List ACode→List Int→Int→List ACode→Option ((Bool)⊕((List Int)×Int×(List ACode)×(List Int)×Int×(List ACode)))
def qa9_t4 (rec:qa9_o4):qa9_o4:=fun a0 a1 a2 a3 a4 a5 a6=>bif decide (a0<(List.length a1:Int)) then bif decide (0≤a0) then (a1[Int.toNat a0]?).bind fun y0=>bif decide (0≤a0) then (a4[Int.toNat a0]?).bind fun y1=>bif y0 != y1 then some (.inl (false)) else rec (IntKind.wrap IntKind.i64 (a0+(1:Int))) (a1) (a2) (a3) (a4) (a5) (a6) else none else none else some (.inr ((a1),(a2),(a3),(a4),(a5),(a6)))
def qa9_i4:Nat→qa9_o4
 |0=>fun _ _ _ _ _ _ _=>none
 |n+1=>qa9_t4 (qa9_i4 n)
def qa9_l4:=sealF (qa9_i4 fuel)
abbrev qa9_o16:=Int→Int→List Int→Int→List ACode→List Int→Int→List ACode→Int→List Instr→Int→List Instr→Option ((Bool)⊕(Int×(List Int)×Int×(List ACode)×(List Int)×Int×(List ACode)))
def qa9_t16 (rec:qa9_o16):qa9_o16:=fun a0 a1 a2 a3 a4 a5 a6 a7 a8 a9 a10 a11=>bif decide (a1<(List.length a9:Int)) then bif decide (0≤a1) then (a9[Int.toNat a1]?).bind fun y0=>bif decide (0≤a1) then (a11[Int.toNat a1]?).bind fun y1=>bif !decide (y0=y1) then some (.inl (false)) else rec (a0) (IntKind.wrap IntKind.i64 (a1+(1:Int))) (a2) (a3) (a4) (a5) (a6) (a7) (a8) (a9) (a10) (a11) else none else none else some (.inr ((a0),(a2),(a3),(a4),(a5),(a6),(a7)))
def qa9_i16:Nat→qa9_o16
 |0=>fun _ _ _ _ _ _ _ _ _ _ _ _=>none
 |n+1=>qa9_t16 (qa9_i16 n)
def qa9_l16:=sealF (qa9_i16 fuel)
abbrev qa9_o9:=Int→List Int→Int→List ACode→List Int→Int→List ACode→Option ((Bool)⊕(Unit))
def qa9_t9 (rec:qa9_o9):qa9_o9:=fun a0 a1 a2 a3 a4 a5 a6=>bif decide (a0<(List.length a3:Int)) then bif decide (0≤a0) then (a3[Int.toNat a0]?).bind fun y0=>bif decide (0≤a0) then (a6[Int.toNat a0]?).bind fun y1=>Option.bind (α:=Bool) ( bif ACode.regs y0 != ACode.regs y1 then some (true) else some ((List.length (ACode.instrs y0):Int) != (List.length (ACode.instrs y1):Int))) fun y2=>bif y2 then some (.inl (false)) else (qa9_l16 a0 (0:Int) a1 a2 a3 a4 a5 a6 (ACode.regs y0) (ACode.instrs y0) (ACode.regs y1) (ACode.instrs y1)).bind fun y3=>(match y3 with|.inl y4=>some (.inl (y4))|.inr y4=>rec (IntKind.wrap IntKind.i64 (y4.1+(1:Int))) y4.2.1 y4.2.2.1 y4.2.2.2.1 y4.2.2.2.2.1 y4.2.2.2.2.2.1 y4.2.2.2.2.2.2) else none else none else some (.inr ())
def qa9_i9:Nat→qa9_o9
 |0=>fun _ _ _ _ _ _ _=>none
 |n+1=>qa9_t9 (qa9_i9 n)
def qa9_l9:=sealF (qa9_i9 fuel)
def qa9_f (a0:Image) (a1:Image):Option (Bool):=Option.bind (α:=Bool) ( bif Image.mutexes a0 != Image.mutexes a1 then some (true) else some ((List.length (Image.cells a0):Int) != (List.length (Image.cells a1):Int))) fun y0=>Option.bind (α:=Bool) ( bif y0 then some (true) else some ((List.length (Image.threads a0):Int) != (List.length (Image.threads a1):Int))) fun y1=>bif y1 then some (false) else (qa9_l4 (0:Int) (Image.cells a0) (Image.mutexes a0) (Image.threads a0) (Image.cells a1) (Image.mutexes a1) (Image.threads a1)).bind fun y2=>(match y2 with|.inl y3=>some (y3)|.inr y3=>(qa9_l9 (0:Int) y3.1 y3.2.1 y3.2.2.1 y3.2.2.2.1 y3.2.2.2.2.1 y3.2.2.2.2.2).bind fun y4=>(match y4 with|.inl y5=>some (y5)|.inr y5=>some (true)))
def qa9:=sealF (qa9_f)
def qaT_f:Option (Bool):=(qan (Image.mk [(-3:Int)] (0:Int) [ACode.mk (1:Int) [Instr.mk (21:Int) (0:Int) (0:Int) (0:Int),Instr.mk (29:Int) (0:Int) (0:Int) (0:Int)]])).bind fun y0=>(qal (Image.mk [(-3:Int)] (0:Int) [ACode.mk (1:Int) [Instr.mk (21:Int) (0:Int) (0:Int) (0:Int),Instr.mk (29:Int) (0:Int) (0:Int) (0:Int)]])).bind fun y1=>(qam [(99:UInt8),(101:UInt8),(108:UInt8),(108:UInt8),(115:UInt8),(32:UInt8),(45:UInt8),(51:UInt8),(10:UInt8),(109:UInt8),(117:UInt8),(116:UInt8),(101:UInt8),(120:UInt8),(101:UInt8),(115:UInt8),(32:UInt8),(48:UInt8),(10:UInt8),(116:UInt8),(104:UInt8),(114:UInt8),(101:UInt8),(97:UInt8),(100:UInt8),(32:UInt8),(49:UInt8),(10:UInt8),(114:UInt8),(101:UInt8),(97:UInt8),(100:UInt8),(32:UInt8),(48:UInt8),(32:UInt8),(48:UInt8),(10:UInt8),(101:UInt8),(110:UInt8),(100:UInt8),(10:UInt8)]).bind fun y2=>(qa9 (Image.mk [(-3:Int)] (0:Int) [ACode.mk (1:Int) [Instr.mk (21:Int) (0:Int) (0:Int) (0:Int),Instr.mk (29:Int) (0:Int) (0:Int) (0:Int)]]) (Image.mk y2.2.2.1 y2.1 y2.2.2.2)).bind fun y3=>(qam (List.drop (0:Nat) (List.take (40:Nat) [(99:UInt8),(101:UInt8),(108:UInt8),(108:UInt8),(115:UInt8),(32:UInt8),(45:UInt8),(51:UInt8),(10:UInt8),(109:UInt8),(117:UInt8),(116:UInt8),(101:UInt8),(120:UInt8),(101:UInt8),(115:UInt8),(32:UInt8),(48:UInt8),(10:UInt8),(116:UInt8),(104:UInt8),(114:UInt8),(101:UInt8),(97:UInt8),(100:UInt8),(32:UInt8),(49:UInt8),(10:UInt8),(114:UInt8),(101:UInt8),(97:UInt8),(100:UInt8),(32:UInt8),(48:UInt8),(32:UInt8),(48:UInt8),(10:UInt8),(101:UInt8),(110:UInt8),(100:UInt8),(10:UInt8)]))).bind fun y4=>Option.bind (α:=Bool) ( bif y0 then some (y1.2==0) else some (false)) fun y5=>Option.bind (α:=Bool) ( bif y5 then some (y1.1==[(99:UInt8),(101:UInt8),(108:UInt8),(108:UInt8),(115:UInt8),(32:UInt8),(45:UInt8),(51:UInt8),(10:UInt8),(109:UInt8),(117:UInt8),(116:UInt8),(101:UInt8),(120:UInt8),(101:UInt8),(115:UInt8),(32:UInt8),(48:UInt8),(10:UInt8),(116:UInt8),(104:UInt8),(114:UInt8),(101:UInt8),(97:UInt8),(100:UInt8),(32:UInt8),(49:UInt8),(10:UInt8),(114:UInt8),(101:UInt8),(97:UInt8),(100:UInt8),(32:UInt8),(48:UInt8),(32:UInt8),(48:UInt8),(10:UInt8),(101:UInt8),(110:UInt8),(100:UInt8),(10:UInt8)]) else some (false)) fun y6=>Option.bind (α:=Bool) ( bif y6 then some (Fault.code y2.2.1==0) else some (false)) fun y7=>Option.bind (α:=Bool) ( bif y7 then some (y3) else some (false)) fun y8=>Option.bind (α:=Bool) ( bif y8 then some (decide (Fault.mk (Fault.code y4.2.1) (Fault.at_ y4.2.1) (Fault.name y4.2.1)=Fault.mk (101:Int) (37:Int) [])) else some (false)) fun y9=>some (y9)
def qaT:=sealF (qaT_f)
def qaY_f (a0:Int):Option (Bool×Bool×Bool×Bool×Bool×Bool):=bif a0==1 then some ((true),(false),(true),(false),(false),(false)) else bif a0==2 then some ((true),(true),(false),(false),(false),(false)) else bif a0==3 then some ((false),(true),(true),(false),(false),(false)) else bif a0==4 then some ((true),(true),(true),(false),(false),(false)) else bif a0==5 then bif a0==5 then some ((false),(true),(false),(false),(false),(false)) else bif a0==9 then some ((false),(false),(true),(false),(false),(false)) else bif a0==10 then some ((false),(false),(true),(false),(true),(true)) else bif a0==11 then some ((false),(false),(false),(true),(true),(false)) else some ((false),(false),(false),(false),(false),(false)) else bif a0==6 then bif a0==6 then some ((false),(true),(false),(false),(false),(false)) else bif a0==9 then some ((false),(false),(true),(false),(false),(false)) else bif a0==10 then some ((false),(false),(true),(false),(true),(true)) else bif a0==11 then some ((false),(false),(false),(true),(true),(false)) else some ((false),(false),(false),(false),(false),(false)) else bif a0==7 then bif a0==7 then some ((false),(true),(false),(false),(false),(false)) else bif a0==9 then some ((false),(false),(true),(false),(false),(false)) else bif a0==10 then some ((false),(false),(true),(false),(true),(true)) else bif a0==11 then some ((false),(false),(false),(true),(true),(false)) else some ((false),(false),(false),(false),(false),(false)) else bif a0==8 then some ((false),(true),(false),(false),(false),(false)) else bif a0==9 then some ((false),(false),(true),(false),(false),(false)) else bif a0==10 then some ((false),(false),(true),(false),(true),(true)) else bif a0==11 then some ((false),(false),(false),(true),(true),(false)) else some ((false),(false),(false),(false),(false),(false))
def qaY:=sealF (qaY_f)
abbrev qa7_o:=TExpr→Int→Option (Bool)
abbrev qa7_o13:=Int→Int→Int→Int→List UInt8→List TExpr→Option ((Bool)⊕(Unit))
def qa7_t13 (rec_qa7:qa7_o) (rec:qa7_o13):qa7_o13:=fun a0 a1 a2 a3 a4 a5=>bif decide (a1<(List.length a5:Int)) then bif decide (0≤a1) then (a5[Int.toNat a1]?).bind fun y0=>(rec_qa7 y0 a0).bind fun y1=>bif !y1 then some (.inl (false)) else rec (a0) (IntKind.wrap IntKind.i64 (a1+(1:Int))) (a2) (a3) (a4) (a5) else none else some (.inr ())
def qa7_i13 (rec_qa7:qa7_o):Nat→qa7_o13
 |0=>fun _ _ _ _ _ _=>none
 |n+1=>qa7_t13 rec_qa7 (qa7_i13 rec_qa7 n)
def qa7_l13 (rec_qa7:qa7_o):=sealF (qa7_i13 rec_qa7 fuel)
def qa7_f (rec_qa7:qa7_o):qa7_o:=fun a0 a1=>bif TExpr.kind a0==1 then Option.bind (α:=Bool) ( bif decide (TExpr.num a0≥0) then some (decide (TExpr.num a0≤2147483647)) else some (false)) fun y0=>Option.bind (α:=Bool) ( bif y0 then some (TExpr.name a0==[]) else some (false)) fun y1=>Option.bind (α:=Bool) ( bif y1 then some ((List.length (TExpr.args a0):Int)==0) else some (false)) fun y2=>some (y2) else bif TExpr.kind a0==2 then Option.bind (α:=Bool) ( bif decide (TExpr.num a0≥0) then some (decide (TExpr.num a0<a1)) else some (false)) fun y3=>Option.bind (α:=Bool) ( bif y3 then some (TExpr.name a0==[]) else some (false)) fun y4=>Option.bind (α:=Bool) ( bif y4 then some ((List.length (TExpr.args a0):Int)==0) else some (false)) fun y5=>some (y5) else bif TExpr.kind a0==3 then bif TExpr.kind a0==3 then Option.bind (α:=Bool) ( bif decide (TExpr.kind a0<1) then some (true) else some (decide (TExpr.kind a0>17))) fun y6=>Option.bind (α:=Bool) ( bif y6 then some (true) else some (TExpr.num a0 != 0)) fun y7=>Option.bind (α:=Bool) ( bif y7 then some (true) else some (!TExpr.name a0==[])) fun y8=>Option.bind (α:=Bool) ( bif y8 then some (true) else some ((List.length (TExpr.args a0):Int) != 1)) fun y9=>bif y9 then some (false) else (qa7_l13 rec_qa7 a1 (0:Int) (TExpr.kind a0) (TExpr.num a0) (TExpr.name a0) (TExpr.args a0)).bind fun y10=>(match y10 with|.inl y11=>some (y11)|.inr y11=>some (true)) else Option.bind (α:=Bool) ( bif decide (TExpr.kind a0<1) then some (true) else some (decide (TExpr.kind a0>17))) fun y12=>Option.bind (α:=Bool) ( bif y12 then some (true) else some (TExpr.num a0 != 0)) fun y13=>Option.bind (α:=Bool) ( bif y13 then some (true) else some (!TExpr.name a0==[])) fun y14=>Option.bind (α:=Bool) ( bif y14 then some (true) else some ((List.length (TExpr.args a0):Int) != 2)) fun y15=>bif y15 then some (false) else (qa7_l13 rec_qa7 a1 (0:Int) (TExpr.kind a0) (TExpr.num a0) (TExpr.name a0) (TExpr.args a0)).bind fun y16=>(match y16 with|.inl y17=>some (y17)|.inr y17=>some (true)) else bif TExpr.kind a0==4 then Option.bind (α:=Bool) ( bif decide (TExpr.kind a0<1) then some (true) else some (decide (TExpr.kind a0>17))) fun y18=>Option.bind (α:=Bool) ( bif y18 then some (true) else some (TExpr.num a0 != 0)) fun y19=>Option.bind (α:=Bool) ( bif y19 then some (true) else some (!TExpr.name a0==[])) fun y20=>Option.bind (α:=Bool) ( bif y20 then some (true) else some ((List.length (TExpr.args a0):Int) != 1)) fun y21=>bif y21 then some (false) else (qa7_l13 rec_qa7 a1 (0:Int) (TExpr.kind a0) (TExpr.num a0) (TExpr.name a0) (TExpr.args a0)).bind fun y22=>(match y22 with|.inl y23=>some (y23)|.inr y23=>some (true)) else Option.bind (α:=Bool) ( bif decide (TExpr.kind a0<1) then some (true) else some (decide (TExpr.kind a0>17))) fun y24=>Option.bind (α:=Bool) ( bif y24 then some (true) else some (TExpr.num a0 != 0)) fun y25=>Option.bind (α:=Bool) ( bif y25 then some (true) else some (!TExpr.name a0==[])) fun y26=>Option.bind (α:=Bool) ( bif y26 then some (true) else some ((List.length (TExpr.args a0):Int) != 2)) fun y27=>bif y27 then some (false) else (qa7_l13 rec_qa7 a1 (0:Int) (TExpr.kind a0) (TExpr.num a0) (TExpr.name a0) (TExpr.args a0)).bind fun y28=>(match y28 with|.inl y29=>some (y29)|.inr y29=>some (true))
def qa7_i:Nat→qa7_o
 |0=>fun _ _=>none
 |n+1=>qa7_f (qa7_i n)
def qa7:=sealF (qa7_i fuel)
def qaZ_f (a0:TExpr):Option (Bool):=Option.bind (α:=Bool) ( bif TExpr.kind a0==0 then some (TExpr.num a0==0) else some (false)) fun y0=>Option.bind (α:=Bool) ( bif y0 then some (TExpr.name a0==[]) else some (false)) fun y1=>Option.bind (α:=Bool) ( bif y1 then some ((List.length (TExpr.args a0):Int)==0) else some (false)) fun y2=>some (y2)
def qaZ:=sealF (qaZ_f)
def qa8_f (a0:Int) (a1:TUnit):Option (Int):=bif a0==2 then bif a0==2 then some ((List.length (TUnit.cells a1):Int)) else bif a0==5 then bif a0==5 then some (TUnit.mutexes a1) else some ((List.length (TUnit.threads a1):Int)) else bif a0==6 then some (TUnit.mutexes a1) else some ((List.length (TUnit.threads a1):Int)) else bif a0==3 then bif a0==3 then some ((List.length (TUnit.cells a1):Int)) else bif a0==5 then bif a0==5 then some (TUnit.mutexes a1) else some ((List.length (TUnit.threads a1):Int)) else bif a0==6 then some (TUnit.mutexes a1) else some ((List.length (TUnit.threads a1):Int)) else bif a0==4 then some ((List.length (TUnit.cells a1):Int)) else bif a0==5 then bif a0==5 then some (TUnit.mutexes a1) else some ((List.length (TUnit.threads a1):Int)) else bif a0==6 then some (TUnit.mutexes a1) else some ((List.length (TUnit.threads a1):Int))
def qa8:=sealF (qa8_f)
abbrev qa6_o:=List TAct→Int→TUnit→Option (Bool)
def qa5_f (rec_qa6:qa6_o) (a0:TAct) (a1:Int) (a2:TUnit):Option (Bool):=Option.bind (α:=Bool) ( bif decide (TAct.kind a0<1) then some (true) else some (decide (TAct.kind a0>11))) fun y0=>bif y0 then some (false) else (qaY (TAct.kind a0)).bind fun y1=>(qa7 (TExpr.mk (TExpr.kind (TAct.expr a0)) (TExpr.num (TAct.expr a0)) (TExpr.name (TAct.expr a0)) (TExpr.args (TAct.expr a0))) a1).bind fun y2=>(qaZ (TExpr.mk (TExpr.kind (TAct.expr a0)) (TExpr.num (TAct.expr a0)) (TExpr.name (TAct.expr a0)) (TExpr.args (TAct.expr a0)))).bind fun y3=>(qa8 (TAct.kind a0) (TUnit.mk (TUnit.cells a2) (TUnit.mutexes a2) (TUnit.threads a2))).bind fun y4=>Option.bind (α:=Bool) ( bif y1.1 then Option.bind (α:=Bool) ( bif decide (TAct.reg a0<0) then some (true) else some (decide (TAct.reg a0≥a1))) fun y5=>some (y5) else some (false)) fun y6=>Option.bind (α:=Bool) ( bif y6 then some (true) else Option.bind (α:=Bool) ( bif !y1.1 then some (TAct.reg a0 != 0) else some (false)) fun y7=>some (y7)) fun y8=>Option.bind (α:=Bool) ( bif y8 then some (true) else Option.bind (α:=Bool) ( bif y1.2.1 then Option.bind (α:=Bool) ( bif decide (TAct.obj a0<0) then some (true) else some (decide (TAct.obj a0≥y4))) fun y9=>some (y9) else some (false)) fun y10=>some (y10)) fun y11=>Option.bind (α:=Bool) ( bif y11 then some (true) else Option.bind (α:=Bool) ( bif !y1.2.1 then some (TAct.obj a0 != 0) else some (false)) fun y12=>some (y12)) fun y13=>Option.bind (α:=Bool) ( bif y13 then some (true) else Option.bind (α:=Bool) ( bif y1.2.2.1 then some (!y2) else some (false)) fun y14=>some (y14)) fun y15=>Option.bind (α:=Bool) ( bif y15 then some (true) else Option.bind (α:=Bool) ( bif !y1.2.2.1 then some (!y3) else some (false)) fun y16=>some (y16)) fun y17=>bif y17 then some (false) else Option.bind (α:=Bool) ( bif y1.2.2.2.1 then Option.bind (α:=Bool) ( bif decide (TAct.count a0<0) then some (true) else some (decide (TAct.count a0>1000))) fun y18=>some (y18) else some (false)) fun y19=>Option.bind (α:=Bool) ( bif y19 then some (true) else Option.bind (α:=Bool) ( bif !y1.2.2.2.1 then some (TAct.count a0 != 0) else some (false)) fun y20=>some (y20)) fun y21=>Option.bind (α:=Bool) ( bif y21 then some (true) else Option.bind (α:=Bool) ( bif !y1.2.2.2.2.1 then some (decide ((List.length (TAct.then_ a0):Int)>0)) else some (false)) fun y22=>some (y22)) fun y23=>Option.bind (α:=Bool) ( bif y23 then some (true) else Option.bind (α:=Bool) ( bif !y1.2.2.2.2.2 then some (decide ((List.length (TAct.else_ a0):Int)>0)) else some (false)) fun y24=>some (y24)) fun y25=>bif y25 then some (false) else (rec_qa6 (TAct.then_ a0) a1 (TUnit.mk (TUnit.cells a2) (TUnit.mutexes a2) (TUnit.threads a2))).bind fun y26=>(rec_qa6 (TAct.else_ a0) a1 (TUnit.mk (TUnit.cells a2) (TUnit.mutexes a2) (TUnit.threads a2))).bind fun y27=>Option.bind (α:=Bool) ( bif y26 then some (y27) else some (false)) fun y28=>some (y28)
def qa5 (rec_qa6:qa6_o):=sealF (qa5_f rec_qa6)
abbrev qa6_o2:=List TAct→Int→Int→List Int→Int→List TBody→Option ((Bool)⊕(Unit))
def qa6_t2 (rec_qa6:qa6_o) (rec:qa6_o2):qa6_o2:=fun a0 a1 a2 a3 a4 a5=>bif decide (a2<(List.length a0:Int)) then bif decide (0≤a2) then (a0[Int.toNat a2]?).bind fun y0=>(qa5 rec_qa6 y0 a1 (TUnit.mk a3 a4 a5)).bind fun y1=>bif !y1 then some (.inl (false)) else rec (a0) (a1) (IntKind.wrap IntKind.i64 (a2+(1:Int))) (a3) (a4) (a5) else none else some (.inr ())
def qa6_i2 (rec_qa6:qa6_o):Nat→qa6_o2
 |0=>fun _ _ _ _ _ _=>none
 |n+1=>qa6_t2 rec_qa6 (qa6_i2 rec_qa6 n)
def qa6_l2 (rec_qa6:qa6_o):=sealF (qa6_i2 rec_qa6 fuel)
def qa6_f (rec_qa6:qa6_o):qa6_o:=fun a0 a1 a2=>(qa6_l2 rec_qa6 a0 a1 (0:Int) (TUnit.cells a2) (TUnit.mutexes a2) (TUnit.threads a2)).bind fun y0=>(match y0 with|.inl y1=>some (y1)|.inr y1=>some (true))
def qa6_i:Nat→qa6_o
 |0=>fun _ _ _=>none
 |n+1=>qa6_f (qa6_i n)
def qa6:=sealF (qa6_i fuel)
abbrev qa3_o:=List TAct→Option ((List TStmt))
abbrev qa3_o3:=List TAct→Int→List TStmt→Option ((List TStmt))
def qa3_t3 (rec_qa3:qa3_o) (rec:qa3_o3):qa3_o3:=fun a0 a1 a2=>bif decide (a1<(List.length a0:Int)) then bif decide (0≤a1) then (a0[Int.toNat a1]?).bind fun y0=>(rec_qa3 (TAct.then_ y0)).bind fun y1=>bif decide (0≤a1) then (a0[Int.toNat a1]?).bind fun y2=>(rec_qa3 (TAct.else_ y2)).bind fun y3=>bif decide (0≤a1) then (a0[Int.toNat a1]?).bind fun y4=>bif decide (0≤a1) then (a0[Int.toNat a1]?).bind fun y5=>bif decide ((List.length a2+List.length [TStmt.mk (TAct.kind y4) [] [] (TExpr.mk (TExpr.kind (TAct.expr y5)) (TExpr.num (TAct.expr y5)) (TExpr.name (TAct.expr y5)) (TExpr.args (TAct.expr y5))) (0:Int) y1 y3])*(152:Nat)≤(140737488355328:Nat)∧List.length a2+List.length [TStmt.mk (TAct.kind y4) [] [] (TExpr.mk (TExpr.kind (TAct.expr y5)) (TExpr.num (TAct.expr y5)) (TExpr.name (TAct.expr y5)) (TExpr.args (TAct.expr y5))) (0:Int) y1 y3]≤(9223372036854775807:Nat)) then rec (a0) (IntKind.wrap IntKind.i64 (a1+(1:Int))) (a2++[TStmt.mk (TAct.kind y4) [] [] (TExpr.mk (TExpr.kind (TAct.expr y5)) (TExpr.num (TAct.expr y5)) (TExpr.name (TAct.expr y5)) (TExpr.args (TAct.expr y5))) (0:Int) y1 y3]) else none else none else none else none else none else some (a2)
def qa3_i3 (rec_qa3:qa3_o):Nat→qa3_o3
 |0=>fun _ _ _=>none
 |n+1=>qa3_t3 rec_qa3 (qa3_i3 rec_qa3 n)
def qa3_l3 (rec_qa3:qa3_o):=sealF (qa3_i3 rec_qa3 fuel)
def qa3_f (rec_qa3:qa3_o):qa3_o:=fun a0=>(qa3_l3 rec_qa3 a0 (0:Int) []).bind fun y0=>some (y0)
def qa3_i:Nat→qa3_o
 |0=>fun _=>none
 |n+1=>qa3_f (qa3_i n)
def qa3:=sealF (qa3_i fuel)
def qa2_f (a0:TExpr):Option (Bool):=Option.bind (α:=Bool) ( bif TExpr.kind a0 != 0 then some (true) else some (decide ((List.length (TExpr.args a0):Int)>0))) fun y0=>some (y0)
def qa2:=sealF (qa2_f)
abbrev qaX_o:=TExpr→Option (Int)
abbrev qaX_o3:=Int→Int→Int→Int→List UInt8→List TExpr→Option (Int)
def qaX_t3 (rec_qaX:qaX_o) (rec:qaX_o3):qaX_o3:=fun a0 a1 a2 a3 a4 a5=>bif decide (a1<(List.length a5:Int)) then bif decide (0≤a1) then (a5[Int.toNat a1]?).bind fun y0=>(rec_qaX y0).bind fun y1=>rec (if y1>a0 then y1 else a0) (IntKind.wrap IntKind.i64 (a1+(1:Int))) (a2) (a3) (a4) (a5) else none else some (a0)
def qaX_i3 (rec_qaX:qaX_o):Nat→qaX_o3
 |0=>fun _ _ _ _ _ _=>none
 |n+1=>qaX_t3 rec_qaX (qaX_i3 rec_qaX n)
def qaX_l3 (rec_qaX:qaX_o):=sealF (qaX_i3 rec_qaX fuel)
def qaX_f (rec_qaX:qaX_o):qaX_o:=fun a0=>(qaX_l3 rec_qaX (0:Int) (0:Int) (TExpr.kind a0) (TExpr.num a0) (TExpr.name a0) (TExpr.args a0)).bind fun y0=>some (IntKind.wrap IntKind.i64 (y0+(1:Int)))
def qaX_i:Nat→qaX_o
 |0=>fun _=>none
 |n+1=>qaX_f (qaX_i n)
def qaX:=sealF (qaX_i fuel)
abbrev qa1_o:=List TStmt→Int→Option (Int)
abbrev qa1_o3:=List TStmt→Int→Int→Int→Option (Int)
def qa1_t3 (rec_qa1:qa1_o) (rec:qa1_o3):qa1_o3:=fun a0 a1 a2 a3=>bif decide (a3<(List.length a0:Int)) then bif decide (0≤a3) then (a0[Int.toNat a3]?).bind fun y0=>(qa2 (TExpr.mk (TExpr.kind (TStmt.expr y0)) (TExpr.num (TStmt.expr y0)) (TExpr.name (TStmt.expr y0)) (TExpr.args (TStmt.expr y0)))).bind fun y1=>bif y1 then bif decide (0≤a3) then (a0[Int.toNat a3]?).bind fun y2=>(qaX (TExpr.mk (TExpr.kind (TStmt.expr y2)) (TExpr.num (TStmt.expr y2)) (TExpr.name (TStmt.expr y2)) (TExpr.args (TStmt.expr y2)))).bind fun y3=>bif decide (0≤a3) then (a0[Int.toNat a3]?).bind fun y4=>(rec_qa1 (TStmt.then_ y4) (IntKind.wrap IntKind.i64 (a1+(1:Int)))).bind fun y5=>bif decide (0≤a3) then (a0[Int.toNat a3]?).bind fun y6=>(rec_qa1 (TStmt.else_ y6) (IntKind.wrap IntKind.i64 (a1+(1:Int)))).bind fun y7=>rec (a0) (a1) (if y7>if y5>if y3>if a1>a2 then a1 else a2 then y3 else if a1>a2 then a1 else a2 then y5 else if y3>if a1>a2 then a1 else a2 then y3 else if a1>a2 then a1 else a2 then y7 else if y5>if y3>if a1>a2 then a1 else a2 then y3 else if a1>a2 then a1 else a2 then y5 else if y3>if a1>a2 then a1 else a2 then y3 else if a1>a2 then a1 else a2) (IntKind.wrap IntKind.i64 (a3+(1:Int))) else none else none else none else bif decide (0≤a3) then (a0[Int.toNat a3]?).bind fun y8=>(rec_qa1 (TStmt.then_ y8) (IntKind.wrap IntKind.i64 (a1+(1:Int)))).bind fun y9=>bif decide (0≤a3) then (a0[Int.toNat a3]?).bind fun y10=>(rec_qa1 (TStmt.else_ y10) (IntKind.wrap IntKind.i64 (a1+(1:Int)))).bind fun y11=>rec (a0) (a1) (if y11>if y9>if a1>a2 then a1 else a2 then y9 else if a1>a2 then a1 else a2 then y11 else if y9>if a1>a2 then a1 else a2 then y9 else if a1>a2 then a1 else a2) (IntKind.wrap IntKind.i64 (a3+(1:Int))) else none else none else none else some (a2)
def qa1_i3 (rec_qa1:qa1_o):Nat→qa1_o3
 |0=>fun _ _ _ _=>none
 |n+1=>qa1_t3 rec_qa1 (qa1_i3 rec_qa1 n)
def qa1_l3 (rec_qa1:qa1_o):=sealF (qa1_i3 rec_qa1 fuel)
def qa1_f (rec_qa1:qa1_o):qa1_o:=fun a0 a1=>(qa1_l3 rec_qa1 a0 a1 (0:Int) (0:Int)).bind fun y0=>some (y0)
def qa1_i:Nat→qa1_o
 |0=>fun _ _=>none
 |n+1=>qa1_f (qa1_i n)
def qa1:=sealF (qa1_i fuel)
abbrev qaV_o3:=Int→Int→List TCell→List (List UInt8)→List TThread→Option (Int)
def qaV_t3 (rec:qaV_o3):qaV_o3:=fun a0 a1 a2 a3 a4=>bif decide (a1<(List.length a4:Int)) then bif decide (0≤a1) then (a4[Int.toNat a1]?).bind fun y0=>(qa1 (TThread.body y0) (1:Int)).bind fun y1=>rec (if y1>a0 then y1 else a0) (IntKind.wrap IntKind.i64 (a1+(1:Int))) (a2) (a3) (a4) else none else some (a0)
def qaV_i3:Nat→qaV_o3
 |0=>fun _ _ _ _ _=>none
 |n+1=>qaV_t3 (qaV_i3 n)
def qaV_l3:=sealF (qaV_i3 fuel)
def qaV_f (a0:TProg):Option (Int):=(qaV_l3 (0:Int) (0:Int) (TProg.cells a0) (TProg.mutexes a0) (TProg.threads a0)).bind fun y0=>some (y0)
def qaV:=sealF (qaV_f)
abbrev qaW_o:=TExpr→Option (Int)
abbrev qaW_o3:=Int→Int→Int→Int→List UInt8→List TExpr→Option (Int)
def qaW_t3 (rec_qaW:qaW_o) (rec:qaW_o3):qaW_o3:=fun a0 a1 a2 a3 a4 a5=>bif decide (a1<(List.length a5:Int)) then bif decide (0≤a1) then (a5[Int.toNat a1]?).bind fun y0=>(rec_qaW y0).bind fun y1=>rec (IntKind.wrap IntKind.i64 (a0+y1)) (IntKind.wrap IntKind.i64 (a1+(1:Int))) (a2) (a3) (a4) (a5) else none else some (a0)
def qaW_i3 (rec_qaW:qaW_o):Nat→qaW_o3
 |0=>fun _ _ _ _ _ _=>none
 |n+1=>qaW_t3 rec_qaW (qaW_i3 rec_qaW n)
def qaW_l3 (rec_qaW:qaW_o):=sealF (qaW_i3 rec_qaW fuel)
def qaW_f (rec_qaW:qaW_o):qaW_o:=fun a0=>(qaW_l3 rec_qaW (1:Int) (0:Int) (TExpr.kind a0) (TExpr.num a0) (TExpr.name a0) (TExpr.args a0)).bind fun y0=>some (y0)
def qaW_i:Nat→qaW_o
 |0=>fun _=>none
 |n+1=>qaW_f (qaW_i n)
def qaW:=sealF (qaW_i fuel)
abbrev qa0_o:=List TStmt→Option (Int)
abbrev qa0_o3:=List TStmt→Int→Int→Option (Int)
def qa0_t3 (rec_qa0:qa0_o) (rec:qa0_o3):qa0_o3:=fun a0 a1 a2=>bif decide (a2<(List.length a0:Int)) then bif decide (0≤a2) then (a0[Int.toNat a2]?).bind fun y0=>(qa2 (TExpr.mk (TExpr.kind (TStmt.expr y0)) (TExpr.num (TStmt.expr y0)) (TExpr.name (TStmt.expr y0)) (TExpr.args (TStmt.expr y0)))).bind fun y1=>bif y1 then bif decide (0≤a2) then (a0[Int.toNat a2]?).bind fun y2=>(qaW (TExpr.mk (TExpr.kind (TStmt.expr y2)) (TExpr.num (TStmt.expr y2)) (TExpr.name (TStmt.expr y2)) (TExpr.args (TStmt.expr y2)))).bind fun y3=>bif decide (0≤a2) then (a0[Int.toNat a2]?).bind fun y4=>(rec_qa0 (TStmt.then_ y4)).bind fun y5=>bif decide (0≤a2) then (a0[Int.toNat a2]?).bind fun y6=>(rec_qa0 (TStmt.else_ y6)).bind fun y7=>rec (a0) (IntKind.wrap IntKind.i64 (IntKind.wrap IntKind.i64 (IntKind.wrap IntKind.i64 (IntKind.wrap IntKind.i64 (a1+(1:Int))+y3)+y5)+y7)) (IntKind.wrap IntKind.i64 (a2+(1:Int))) else none else none else none else bif decide (0≤a2) then (a0[Int.toNat a2]?).bind fun y8=>(rec_qa0 (TStmt.then_ y8)).bind fun y9=>bif decide (0≤a2) then (a0[Int.toNat a2]?).bind fun y10=>(rec_qa0 (TStmt.else_ y10)).bind fun y11=>rec (a0) (IntKind.wrap IntKind.i64 (IntKind.wrap IntKind.i64 (IntKind.wrap IntKind.i64 (a1+(1:Int))+y9)+y11)) (IntKind.wrap IntKind.i64 (a2+(1:Int))) else none else none else none else some (a1)
def qa0_i3 (rec_qa0:qa0_o):Nat→qa0_o3
 |0=>fun _ _ _=>none
 |n+1=>qa0_t3 rec_qa0 (qa0_i3 rec_qa0 n)
def qa0_l3 (rec_qa0:qa0_o):=sealF (qa0_i3 rec_qa0 fuel)
def qa0_f (rec_qa0:qa0_o):qa0_o:=fun a0=>(qa0_l3 rec_qa0 a0 (0:Int) (0:Int)).bind fun y0=>some (y0)
def qa0_i:Nat→qa0_o
 |0=>fun _=>none
 |n+1=>qa0_f (qa0_i n)
def qa0:=sealF (qa0_i fuel)
abbrev qaU_o3:=Int→Int→List TCell→List (List UInt8)→List TThread→Option (Int)
def qaU_t3 (rec:qaU_o3):qaU_o3:=fun a0 a1 a2 a3 a4=>bif decide (a1<(List.length a4:Int)) then bif decide (0≤a1) then (a4[Int.toNat a1]?).bind fun y0=>(qa0 (TThread.body y0)).bind fun y1=>rec (IntKind.wrap IntKind.i64 (a0+y1)) (IntKind.wrap IntKind.i64 (a1+(1:Int))) (a2) (a3) (a4) else none else some (a0)
def qaU_i3:Nat→qaU_o3
 |0=>fun _ _ _ _ _=>none
 |n+1=>qaU_t3 (qaU_i3 n)
def qaU_l3:=sealF (qaU_i3 fuel)
def qaU_f (a0:TProg):Option (Int):=(qaU_l3 (0:Int) (0:Int) (TProg.cells a0) (TProg.mutexes a0) (TProg.threads a0)).bind fun y0=>some (y0)
def qaU:=sealF (qaU_f)
abbrev qa4_o4:=Int→List Int→Int→List TBody→Option ((Bool)⊕((List Int)×Int×(List TBody)))
def qa4_t4 (rec:qa4_o4):qa4_o4:=fun a0 a1 a2 a3=>bif decide (a0<(List.length a1:Int)) then bif decide (0≤a0) then (a1[Int.toNat a0]?).bind fun y0=>Option.bind (α:=Bool) ( bif decide (y0<(-2147483647:Int)) then some (true) else bif decide (0≤a0) then (a1[Int.toNat a0]?).bind fun y1=>some (decide (y1>2147483647)) else none) fun y2=>bif y2 then some (.inl (false)) else rec (IntKind.wrap IntKind.i64 (a0+(1:Int))) (a1) (a2) (a3) else none else some (.inr ((a1),(a2),(a3)))
def qa4_i4:Nat→qa4_o4
 |0=>fun _ _ _ _=>none
 |n+1=>qa4_t4 (qa4_i4 n)
def qa4_l4:=sealF (qa4_i4 fuel)
abbrev qa4_o10:=Int→List Int→Int→List TBody→List TThread→Option ((Bool)⊕((List TThread)))
def qa4_t10 (rec:qa4_o10):qa4_o10:=fun a0 a1 a2 a3 a4=>bif decide (a0<(List.length a3:Int)) then bif decide (0≤a0) then (a3[Int.toNat a0]?).bind fun y0=>(qa6 (TBody.acts y0) (TBody.regs y0) (TUnit.mk a1 a2 a3)).bind fun y1=>Option.bind (α:=Bool) ( bif decide (TBody.regs y0<0) then some (true) else some (decide (TBody.regs y0>8))) fun y2=>Option.bind (α:=Bool) ( bif y2 then some (true) else some (!y1)) fun y3=>bif y3 then some (.inl (false)) else (qa3 (TBody.acts y0)).bind fun y4=>bif decide ((List.length a4+List.length [TThread.mk [] y4])*(40:Nat)≤(140737488355328:Nat)∧List.length a4+List.length [TThread.mk [] y4]≤(9223372036854775807:Nat)) then rec (IntKind.wrap IntKind.i64 (a0+(1:Int))) (a1) (a2) (a3) (a4++[TThread.mk [] y4]) else none else none else some (.inr (a4))
def qa4_i10:Nat→qa4_o10
 |0=>fun _ _ _ _ _=>none
 |n+1=>qa4_t10 (qa4_i10 n)
def qa4_l10:=sealF (qa4_i10 fuel)
def qa4_f (a0:TUnit):Option (Bool):=Option.bind (α:=Bool) ( bif decide ((List.length (TUnit.threads a0):Int)<1) then some (true) else some (decide ((List.length (TUnit.threads a0):Int)>8))) fun y0=>Option.bind (α:=Bool) ( bif y0 then some (true) else some (decide ((List.length (TUnit.cells a0):Int)>8))) fun y1=>Option.bind (α:=Bool) ( bif y1 then some (true) else some (decide (TUnit.mutexes a0<0))) fun y2=>Option.bind (α:=Bool) ( bif y2 then some (true) else some (decide (TUnit.mutexes a0>8))) fun y3=>bif y3 then some (false) else (qa4_l4 (0:Int) (TUnit.cells a0) (TUnit.mutexes a0) (TUnit.threads a0)).bind fun y4=>(match y4 with|.inl y5=>some (y5)|.inr y5=>(qa4_l10 (0:Int) y5.1 y5.2.1 y5.2.2 []).bind fun y6=>(match y6 with|.inl y7=>some (y7)|.inr y7=>(qaV (TProg.mk [] [] y7)).bind fun y8=>(qaU (TProg.mk [] [] y7)).bind fun y9=>Option.bind (α:=Bool) ( bif decide (y8≤16) then some (decide (y9≤500)) else some (false)) fun y10=>some (y10)))
def qa4:=sealF (qa4_f)
abbrev qaB_o3:=Int→Int→List (List UInt8)→Option ((List (List UInt8)))
def qaB_t3 (rec:qaB_o3):qaB_o3:=fun a0 a1 a2=>bif decide (a1<a0) then bif decide ((List.length a2+(1:Nat))*(16:Nat)≤(140737488355328:Nat)∧List.length a2+(1:Nat)≤(9223372036854775807:Nat)) then rec (a0) (IntKind.wrap IntKind.i64 (a1+(1:Int))) (a2++[[(120:UInt8)]]) else none else some (a2)
def qaB_i3:Nat→qaB_o3
 |0=>fun _ _ _=>none
 |n+1=>qaB_t3 (qaB_i3 n)
def qaB_l3:=sealF (qaB_i3 fuel)
def qaB_f (a0:Int):Option ((List (List UInt8))):=(qaB_l3 a0 (0:Int) []).bind fun y0=>some (y0)
def qaB:=sealF (qaB_f)
def qbk_f (a0:List (List UInt8)):Option ((List (List UInt8))):=bif List.isEmpty a0 then both ( some ([])) ( bif decide (((0:Nat)+List.length a0)*(16:Nat)≤(140737488355328:Nat)∧(0:Nat)+List.length a0≤(9223372036854775807:Nat)) then some ([]++a0) else none) else bif decide (((0:Nat)+List.length a0)*(16:Nat)≤(140737488355328:Nat)∧(0:Nat)+List.length a0≤(9223372036854775807:Nat)) then some ([]++a0) else none
def qbk:=sealF (qbk_f)
def qbi_f (a0:List (List UInt8)):Option ((List (List UInt8))):=bif decide ((List.length a0:Int)=(List.length a0:Int))&&decide ((List.length a0:Int)=(List.length a0:Int)) then some (a0) else none
def qbi:=sealF (qbi_f)
def qax_f (a0:List (List UInt8)) (a1:Int):Option ((List UInt8)):=Option.bind (α:=Bool) ( bif decide (a1<0) then some (true) else some (decide (a1≥(List.length a0:Int)))) fun y0=>bif y0 then some ([]) else bif decide (0≤a1) then (a0[Int.toNat a1]?).bind fun y1=>some (y1) else none
def qax:=sealF (qax_f)
abbrev qaa_o:=Namer→TExpr→Option (Int×Int×(List UInt8)×(List TExpr))
abbrev qaa_o8:=List TExpr→Int→Int→List (List UInt8)→List (List UInt8)→List (List UInt8)→List (List UInt8)→Int→Int→List UInt8→Int→Int→List UInt8→List TExpr→Option (Int×Int×(List UInt8)×Int×Int×(List UInt8)×(List TExpr))
def qaa_t8 (rec_qaa:qaa_o) (rec:qaa_o8):qaa_o8:=fun a0 a1 a2 a3 a4 a5 a6 a7 a8 a9 a10 a11 a12 a13=>bif decide (a2<a1) then bif decide (0≤a2) then (a0[Int.toNat a2]?).bind fun y0=>(rec_qaa (Namer.mk a3 a4 a5 a6) (TExpr.mk (TExpr.kind y0) (TExpr.num y0) (TExpr.name y0) (TExpr.args y0))).bind fun y1=>bif decide ((List.length a13+List.length [TExpr.mk y1.1 y1.2.1 y1.2.2.1 y1.2.2.2])*(56:Nat)≤(140737488355328:Nat)∧List.length a13+List.length [TExpr.mk y1.1 y1.2.1 y1.2.2.1 y1.2.2.2]≤(9223372036854775807:Nat)) then rec (a0) (a1) (IntKind.wrap IntKind.i64 (a2+(1:Int))) (a3) (a4) (a5) (a6) (a7) (a8) (a9) (a10) (a11) (a12) (a13++[TExpr.mk y1.1 y1.2.1 y1.2.2.1 y1.2.2.2]) else none else none else some ((a7),(a8),(a9),(a10),(a11),(a12),(a13))
def qaa_i8 (rec_qaa:qaa_o):Nat→qaa_o8
 |0=>fun _ _ _ _ _ _ _ _ _ _ _ _ _ _=>none
 |n+1=>qaa_t8 rec_qaa (qaa_i8 rec_qaa n)
def qaa_l8 (rec_qaa:qaa_o):=sealF (qaa_i8 rec_qaa fuel)
def qaa_f (rec_qaa:qaa_o):qaa_o:=fun a0 a1=>bif TExpr.kind a1==2 then bif TExpr.name a1==[] then (qax (Namer.regs a0) (TExpr.num a1)).bind fun y0=>(qaa_l8 rec_qaa (TExpr.args a1) (List.length (TExpr.args a1):Int) (0:Int) (Namer.cells a0) (Namer.mutexes a0) (Namer.threads a0) (Namer.regs a0) (0:Int) (0:Int) [] (TExpr.kind a1) (0:Int) y0 []).bind fun y1=>some (y1.2.2.2.1,y1.2.2.2.2.1,y1.2.2.2.2.2.1,y1.2.2.2.2.2.2) else (qaa_l8 rec_qaa (TExpr.args a1) (List.length (TExpr.args a1):Int) (0:Int) (Namer.cells a0) (Namer.mutexes a0) (Namer.threads a0) (Namer.regs a0) (0:Int) (0:Int) [] (TExpr.kind a1) (0:Int) [] []).bind fun y2=>some (y2.2.2.2.1,y2.2.2.2.2.1,y2.2.2.2.2.2.1,y2.2.2.2.2.2.2) else (qaa_l8 rec_qaa (TExpr.args a1) (List.length (TExpr.args a1):Int) (0:Int) (Namer.cells a0) (Namer.mutexes a0) (Namer.threads a0) (Namer.regs a0) (0:Int) (0:Int) [] (TExpr.kind a1) (TExpr.num a1) (TExpr.name a1) []).bind fun y3=>some (y3.2.2.2.1,y3.2.2.2.2.1,y3.2.2.2.2.2.1,y3.2.2.2.2.2.2)
def qaa_i:Nat→qaa_o
 |0=>fun _ _=>none
 |n+1=>qaa_f (qaa_i n)
def qaa:=sealF (qaa_i fuel)
abbrev qab_o:=Namer→List TAct→Option ((List TStmt))
def qay_f (rec_qab:qab_o) (a0:Int):Option (Bool):=Option.bind (α:=Bool) ( bif a0==1 then some (true) else some (a0==2)) fun y0=>Option.bind (α:=Bool) ( bif y0 then some (true) else some (a0==4)) fun y1=>some (y1)
def qay (rec_qab:qab_o):=sealF (qay_f rec_qab)
def qaz_f (rec_qab:qab_o) (a0:Int):Option (Int):=bif a0==2 then bif a0==2 then some ((1:Int)) else bif a0==5 then bif a0==5 then some ((2:Int)) else bif a0==7 then bif a0==7 then some ((3:Int)) else some ((0:Int)) else bif a0==8 then some ((3:Int)) else some ((0:Int)) else bif a0==6 then some ((2:Int)) else bif a0==7 then bif a0==7 then some ((3:Int)) else some ((0:Int)) else bif a0==8 then some ((3:Int)) else some ((0:Int)) else bif a0==3 then bif a0==3 then some ((1:Int)) else bif a0==5 then bif a0==5 then some ((2:Int)) else bif a0==7 then bif a0==7 then some ((3:Int)) else some ((0:Int)) else bif a0==8 then some ((3:Int)) else some ((0:Int)) else bif a0==6 then some ((2:Int)) else bif a0==7 then bif a0==7 then some ((3:Int)) else some ((0:Int)) else bif a0==8 then some ((3:Int)) else some ((0:Int)) else bif a0==4 then some ((1:Int)) else bif a0==5 then bif a0==5 then some ((2:Int)) else bif a0==7 then bif a0==7 then some ((3:Int)) else some ((0:Int)) else bif a0==8 then some ((3:Int)) else some ((0:Int)) else bif a0==6 then some ((2:Int)) else bif a0==7 then bif a0==7 then some ((3:Int)) else some ((0:Int)) else bif a0==8 then some ((3:Int)) else some ((0:Int))
def qaz (rec_qab:qab_o):=sealF (qaz_f rec_qab)
abbrev qab_o3:=List TAct→Int→Int→List (List UInt8)→List (List UInt8)→List (List UInt8)→List (List UInt8)→List TStmt→Option ((List TStmt))
def qab_t3 (rec_qab:qab_o) (rec:qab_o3):qab_o3:=fun a0 a1 a2 a3 a4 a5 a6 a7=>bif decide (a2<a1) then bif decide (0≤a2) then (a0[Int.toNat a2]?).bind fun y0=>(qaa (Namer.mk a3 a4 a5 a6) (TExpr.mk (TExpr.kind (TAct.expr y0)) (TExpr.num (TAct.expr y0)) (TExpr.name (TAct.expr y0)) (TExpr.args (TAct.expr y0)))).bind fun y1=>(rec_qab (Namer.mk a3 a4 a5 a6) (TAct.then_ y0)).bind fun y2=>(rec_qab (Namer.mk a3 a4 a5 a6) (TAct.else_ y0)).bind fun y3=>(qay rec_qab (TAct.kind y0)).bind fun y4=>bif y4 then (qax a6 (TAct.reg y0)).bind fun y5=>(qaz rec_qab (TAct.kind y0)).bind fun y6=>bif y6==1 then (qax a3 (TAct.obj y0)).bind fun y7=>bif decide ((List.length a7+List.length [TStmt.mk (TAct.kind y0) y5 y7 (TExpr.mk y1.1 y1.2.1 y1.2.2.1 y1.2.2.2) (TAct.count y0) y2 y3])*(152:Nat)≤(140737488355328:Nat)∧List.length a7+List.length [TStmt.mk (TAct.kind y0) y5 y7 (TExpr.mk y1.1 y1.2.1 y1.2.2.1 y1.2.2.2) (TAct.count y0) y2 y3]≤(9223372036854775807:Nat)) then rec (a0) (a1) (IntKind.wrap IntKind.i64 (a2+(1:Int))) (a3) (a4) (a5) (a6) (a7++[TStmt.mk (TAct.kind y0) y5 y7 (TExpr.mk y1.1 y1.2.1 y1.2.2.1 y1.2.2.2) (TAct.count y0) y2 y3]) else none else bif y6==2 then (qax a4 (TAct.obj y0)).bind fun y8=>bif decide ((List.length a7+List.length [TStmt.mk (TAct.kind y0) y5 y8 (TExpr.mk y1.1 y1.2.1 y1.2.2.1 y1.2.2.2) (TAct.count y0) y2 y3])*(152:Nat)≤(140737488355328:Nat)∧List.length a7+List.length [TStmt.mk (TAct.kind y0) y5 y8 (TExpr.mk y1.1 y1.2.1 y1.2.2.1 y1.2.2.2) (TAct.count y0) y2 y3]≤(9223372036854775807:Nat)) then rec (a0) (a1) (IntKind.wrap IntKind.i64 (a2+(1:Int))) (a3) (a4) (a5) (a6) (a7++[TStmt.mk (TAct.kind y0) y5 y8 (TExpr.mk y1.1 y1.2.1 y1.2.2.1 y1.2.2.2) (TAct.count y0) y2 y3]) else none else bif y6==3 then (qax a5 (TAct.obj y0)).bind fun y9=>bif decide ((List.length a7+List.length [TStmt.mk (TAct.kind y0) y5 y9 (TExpr.mk y1.1 y1.2.1 y1.2.2.1 y1.2.2.2) (TAct.count y0) y2 y3])*(152:Nat)≤(140737488355328:Nat)∧List.length a7+List.length [TStmt.mk (TAct.kind y0) y5 y9 (TExpr.mk y1.1 y1.2.1 y1.2.2.1 y1.2.2.2) (TAct.count y0) y2 y3]≤(9223372036854775807:Nat)) then rec (a0) (a1) (IntKind.wrap IntKind.i64 (a2+(1:Int))) (a3) (a4) (a5) (a6) (a7++[TStmt.mk (TAct.kind y0) y5 y9 (TExpr.mk y1.1 y1.2.1 y1.2.2.1 y1.2.2.2) (TAct.count y0) y2 y3]) else none else bif TAct.obj y0 != 0 then bif decide ((List.length a7+List.length [TStmt.mk (0:Int) y5 [] (TExpr.mk y1.1 y1.2.1 y1.2.2.1 y1.2.2.2) (TAct.count y0) y2 y3])*(152:Nat)≤(140737488355328:Nat)∧List.length a7+List.length [TStmt.mk (0:Int) y5 [] (TExpr.mk y1.1 y1.2.1 y1.2.2.1 y1.2.2.2) (TAct.count y0) y2 y3]≤(9223372036854775807:Nat)) then rec (a0) (a1) (IntKind.wrap IntKind.i64 (a2+(1:Int))) (a3) (a4) (a5) (a6) (a7++[TStmt.mk (0:Int) y5 [] (TExpr.mk y1.1 y1.2.1 y1.2.2.1 y1.2.2.2) (TAct.count y0) y2 y3]) else none else bif decide ((List.length a7+List.length [TStmt.mk (TAct.kind y0) y5 [] (TExpr.mk y1.1 y1.2.1 y1.2.2.1 y1.2.2.2) (TAct.count y0) y2 y3])*(152:Nat)≤(140737488355328:Nat)∧List.length a7+List.length [TStmt.mk (TAct.kind y0) y5 [] (TExpr.mk y1.1 y1.2.1 y1.2.2.1 y1.2.2.2) (TAct.count y0) y2 y3]≤(9223372036854775807:Nat)) then rec (a0) (a1) (IntKind.wrap IntKind.i64 (a2+(1:Int))) (a3) (a4) (a5) (a6) (a7++[TStmt.mk (TAct.kind y0) y5 [] (TExpr.mk y1.1 y1.2.1 y1.2.2.1 y1.2.2.2) (TAct.count y0) y2 y3]) else none else bif TAct.reg y0 != 0 then (qaz rec_qab (TAct.kind y0)).bind fun y10=>bif y10==1 then (qax a3 (TAct.obj y0)).bind fun y11=>bif decide ((List.length a7+List.length [TStmt.mk (0:Int) [] y11 (TExpr.mk y1.1 y1.2.1 y1.2.2.1 y1.2.2.2) (TAct.count y0) y2 y3])*(152:Nat)≤(140737488355328:Nat)∧List.length a7+List.length [TStmt.mk (0:Int) [] y11 (TExpr.mk y1.1 y1.2.1 y1.2.2.1 y1.2.2.2) (TAct.count y0) y2 y3]≤(9223372036854775807:Nat)) then rec (a0) (a1) (IntKind.wrap IntKind.i64 (a2+(1:Int))) (a3) (a4) (a5) (a6) (a7++[TStmt.mk (0:Int) [] y11 (TExpr.mk y1.1 y1.2.1 y1.2.2.1 y1.2.2.2) (TAct.count y0) y2 y3]) else none else bif y10==2 then (qax a4 (TAct.obj y0)).bind fun y12=>bif decide ((List.length a7+List.length [TStmt.mk (0:Int) [] y12 (TExpr.mk y1.1 y1.2.1 y1.2.2.1 y1.2.2.2) (TAct.count y0) y2 y3])*(152:Nat)≤(140737488355328:Nat)∧List.length a7+List.length [TStmt.mk (0:Int) [] y12 (TExpr.mk y1.1 y1.2.1 y1.2.2.1 y1.2.2.2) (TAct.count y0) y2 y3]≤(9223372036854775807:Nat)) then rec (a0) (a1) (IntKind.wrap IntKind.i64 (a2+(1:Int))) (a3) (a4) (a5) (a6) (a7++[TStmt.mk (0:Int) [] y12 (TExpr.mk y1.1 y1.2.1 y1.2.2.1 y1.2.2.2) (TAct.count y0) y2 y3]) else none else bif y10==3 then (qax a5 (TAct.obj y0)).bind fun y13=>bif decide ((List.length a7+List.length [TStmt.mk (0:Int) [] y13 (TExpr.mk y1.1 y1.2.1 y1.2.2.1 y1.2.2.2) (TAct.count y0) y2 y3])*(152:Nat)≤(140737488355328:Nat)∧List.length a7+List.length [TStmt.mk (0:Int) [] y13 (TExpr.mk y1.1 y1.2.1 y1.2.2.1 y1.2.2.2) (TAct.count y0) y2 y3]≤(9223372036854775807:Nat)) then rec (a0) (a1) (IntKind.wrap IntKind.i64 (a2+(1:Int))) (a3) (a4) (a5) (a6) (a7++[TStmt.mk (0:Int) [] y13 (TExpr.mk y1.1 y1.2.1 y1.2.2.1 y1.2.2.2) (TAct.count y0) y2 y3]) else none else bif TAct.obj y0 != 0 then bif decide ((List.length a7+List.length [TStmt.mk (0:Int) [] [] (TExpr.mk y1.1 y1.2.1 y1.2.2.1 y1.2.2.2) (TAct.count y0) y2 y3])*(152:Nat)≤(140737488355328:Nat)∧List.length a7+List.length [TStmt.mk (0:Int) [] [] (TExpr.mk y1.1 y1.2.1 y1.2.2.1 y1.2.2.2) (TAct.count y0) y2 y3]≤(9223372036854775807:Nat)) then rec (a0) (a1) (IntKind.wrap IntKind.i64 (a2+(1:Int))) (a3) (a4) (a5) (a6) (a7++[TStmt.mk (0:Int) [] [] (TExpr.mk y1.1 y1.2.1 y1.2.2.1 y1.2.2.2) (TAct.count y0) y2 y3]) else none else bif decide ((List.length a7+List.length [TStmt.mk (0:Int) [] [] (TExpr.mk y1.1 y1.2.1 y1.2.2.1 y1.2.2.2) (TAct.count y0) y2 y3])*(152:Nat)≤(140737488355328:Nat)∧List.length a7+List.length [TStmt.mk (0:Int) [] [] (TExpr.mk y1.1 y1.2.1 y1.2.2.1 y1.2.2.2) (TAct.count y0) y2 y3]≤(9223372036854775807:Nat)) then rec (a0) (a1) (IntKind.wrap IntKind.i64 (a2+(1:Int))) (a3) (a4) (a5) (a6) (a7++[TStmt.mk (0:Int) [] [] (TExpr.mk y1.1 y1.2.1 y1.2.2.1 y1.2.2.2) (TAct.count y0) y2 y3]) else none else (qaz rec_qab (TAct.kind y0)).bind fun y14=>bif y14==1 then (qax a3 (TAct.obj y0)).bind fun y15=>bif decide ((List.length a7+List.length [TStmt.mk (TAct.kind y0) [] y15 (TExpr.mk y1.1 y1.2.1 y1.2.2.1 y1.2.2.2) (TAct.count y0) y2 y3])*(152:Nat)≤(140737488355328:Nat)∧List.length a7+List.length [TStmt.mk (TAct.kind y0) [] y15 (TExpr.mk y1.1 y1.2.1 y1.2.2.1 y1.2.2.2) (TAct.count y0) y2 y3]≤(9223372036854775807:Nat)) then rec (a0) (a1) (IntKind.wrap IntKind.i64 (a2+(1:Int))) (a3) (a4) (a5) (a6) (a7++[TStmt.mk (TAct.kind y0) [] y15 (TExpr.mk y1.1 y1.2.1 y1.2.2.1 y1.2.2.2) (TAct.count y0) y2 y3]) else none else bif y14==2 then (qax a4 (TAct.obj y0)).bind fun y16=>bif decide ((List.length a7+List.length [TStmt.mk (TAct.kind y0) [] y16 (TExpr.mk y1.1 y1.2.1 y1.2.2.1 y1.2.2.2) (TAct.count y0) y2 y3])*(152:Nat)≤(140737488355328:Nat)∧List.length a7+List.length [TStmt.mk (TAct.kind y0) [] y16 (TExpr.mk y1.1 y1.2.1 y1.2.2.1 y1.2.2.2) (TAct.count y0) y2 y3]≤(9223372036854775807:Nat)) then rec (a0) (a1) (IntKind.wrap IntKind.i64 (a2+(1:Int))) (a3) (a4) (a5) (a6) (a7++[TStmt.mk (TAct.kind y0) [] y16 (TExpr.mk y1.1 y1.2.1 y1.2.2.1 y1.2.2.2) (TAct.count y0) y2 y3]) else none else bif y14==3 then (qax a5 (TAct.obj y0)).bind fun y17=>bif decide ((List.length a7+List.length [TStmt.mk (TAct.kind y0) [] y17 (TExpr.mk y1.1 y1.2.1 y1.2.2.1 y1.2.2.2) (TAct.count y0) y2 y3])*(152:Nat)≤(140737488355328:Nat)∧List.length a7+List.length [TStmt.mk (TAct.kind y0) [] y17 (TExpr.mk y1.1 y1.2.1 y1.2.2.1 y1.2.2.2) (TAct.count y0) y2 y3]≤(9223372036854775807:Nat)) then rec (a0) (a1) (IntKind.wrap IntKind.i64 (a2+(1:Int))) (a3) (a4) (a5) (a6) (a7++[TStmt.mk (TAct.kind y0) [] y17 (TExpr.mk y1.1 y1.2.1 y1.2.2.1 y1.2.2.2) (TAct.count y0) y2 y3]) else none else bif TAct.obj y0 != 0 then bif decide ((List.length a7+List.length [TStmt.mk (0:Int) [] [] (TExpr.mk y1.1 y1.2.1 y1.2.2.1 y1.2.2.2) (TAct.count y0) y2 y3])*(152:Nat)≤(140737488355328:Nat)∧List.length a7+List.length [TStmt.mk (0:Int) [] [] (TExpr.mk y1.1 y1.2.1 y1.2.2.1 y1.2.2.2) (TAct.count y0) y2 y3]≤(9223372036854775807:Nat)) then rec (a0) (a1) (IntKind.wrap IntKind.i64 (a2+(1:Int))) (a3) (a4) (a5) (a6) (a7++[TStmt.mk (0:Int) [] [] (TExpr.mk y1.1 y1.2.1 y1.2.2.1 y1.2.2.2) (TAct.count y0) y2 y3]) else none else bif decide ((List.length a7+List.length [TStmt.mk (TAct.kind y0) [] [] (TExpr.mk y1.1 y1.2.1 y1.2.2.1 y1.2.2.2) (TAct.count y0) y2 y3])*(152:Nat)≤(140737488355328:Nat)∧List.length a7+List.length [TStmt.mk (TAct.kind y0) [] [] (TExpr.mk y1.1 y1.2.1 y1.2.2.1 y1.2.2.2) (TAct.count y0) y2 y3]≤(9223372036854775807:Nat)) then rec (a0) (a1) (IntKind.wrap IntKind.i64 (a2+(1:Int))) (a3) (a4) (a5) (a6) (a7++[TStmt.mk (TAct.kind y0) [] [] (TExpr.mk y1.1 y1.2.1 y1.2.2.1 y1.2.2.2) (TAct.count y0) y2 y3]) else none else none else some (a7)
def qab_i3 (rec_qab:qab_o):Nat→qab_o3
 |0=>fun _ _ _ _ _ _ _ _=>none
 |n+1=>qab_t3 rec_qab (qab_i3 rec_qab n)
def qab_l3 (rec_qab:qab_o):=sealF (qab_i3 rec_qab fuel)
def qab_f (rec_qab:qab_o):qab_o:=fun a0 a1=>(qab_l3 rec_qab a1 (List.length a1:Int) (0:Int) (Namer.cells a0) (Namer.mutexes a0) (Namer.threads a0) (Namer.regs a0) []).bind fun y0=>some (y0)
def qab_i:Nat→qab_o
 |0=>fun _ _=>none
 |n+1=>qab_f (qab_i n)
def qab:=sealF (qab_i fuel)
abbrev qaA_o3:=List Int→Int→Int→List Int→Int→List TBody→List (List UInt8)→List (List UInt8)→List (List UInt8)→List (List (List UInt8))→List TCell→Option ((List Int)×Int×(List TBody)×(List (List UInt8))×(List (List UInt8))×(List (List UInt8))×(List (List (List UInt8)))×(List TCell))
def qaA_t3 (rec:qaA_o3):qaA_o3:=fun a0 a1 a2 a3 a4 a5 a6 a7 a8 a9 a10=>bif decide (a2<a1) then bif decide (0≤a2) then (a0[Int.toNat a2]?).bind fun y0=>bif decide (0≤a2) then (a6[Int.toNat a2]?).bind fun y1=>bif decide ((List.length a10+List.length [TCell.mk y1 y0])*(24:Nat)≤(140737488355328:Nat)∧List.length a10+List.length [TCell.mk y1 y0]≤(9223372036854775807:Nat)) then rec (a0) (a1) (IntKind.wrap IntKind.i64 (a2+(1:Int))) (a3) (a4) (a5) (a6) (a7) (a8) (a9) (a10++[TCell.mk y1 y0]) else none else none else none else some ((a3),(a4),(a5),(a6),(a7),(a8),(a9),(a10))
def qaA_i3:Nat→qaA_o3
 |0=>fun _ _ _ _ _ _ _ _ _ _ _=>none
 |n+1=>qaA_t3 (qaA_i3 n)
def qaA_l3:=sealF (qaA_i3 fuel)
abbrev qaA_o9:=List TBody→Int→Int→List (List UInt8)→List (List UInt8)→List (List UInt8)→List (List (List UInt8))→List TCell→List (List UInt8)→List TThread→Option ((List TCell)×(List (List UInt8))×(List TThread))
def qaA_t9 (rec:qaA_o9):qaA_o9:=fun a0 a1 a2 a3 a4 a5 a6 a7 a8 a9=>bif decide (a2<a1) then bif decide (0≤a2) then (a0[Int.toNat a2]?).bind fun y0=>bif decide (0≤a2) then (a6[Int.toNat a2]?).bind fun y1=>bif decide (0≤a2) then (a5[Int.toNat a2]?).bind fun y2=>(qab (Namer.mk a3 a4 a5 y1) (TBody.acts y0)).bind fun y3=>bif decide ((List.length a9+List.length [TThread.mk y2 y3])*(40:Nat)≤(140737488355328:Nat)∧List.length a9+List.length [TThread.mk y2 y3]≤(9223372036854775807:Nat)) then rec (a0) (a1) (IntKind.wrap IntKind.i64 (a2+(1:Int))) (a3) (a4) (a5) (a6) (a7) (a8) (a9++[TThread.mk y2 y3]) else none else none else none else none else some ((a7),(a8),(a9))
def qaA_i9:Nat→qaA_o9
 |0=>fun _ _ _ _ _ _ _ _ _ _=>none
 |n+1=>qaA_t9 (qaA_i9 n)
def qaA_l9:=sealF (qaA_i9 fuel)
def qaA_f (a0:TUnit) (a1:Names):Option ((List TCell)×(List (List UInt8))×(List TThread)):=(qaA_l3 (TUnit.cells a0) (List.length (TUnit.cells a0):Int) (0:Int) (TUnit.cells a0) (TUnit.mutexes a0) (TUnit.threads a0) (Names.cells a1) (Names.mutexes a1) (Names.threads a1) (Names.regs a1) []).bind fun y0=>(qbk y0.2.2.2.2.1).bind fun y1=>(qbi y1).bind fun y2=>(qaA_l9 y0.2.2.1 (List.length y0.2.2.1:Int) (0:Int) y0.2.2.2.1 y0.2.2.2.2.1 y0.2.2.2.2.2.1 y0.2.2.2.2.2.2.1 y0.2.2.2.2.2.2.2 y2 []).bind fun y3=>some (y3.1,y3.2.1,y3.2.2)
def qaA:=sealF (qaA_f)
def qbG_f (a0:Int):Option (Int):=bif decide (a0<0) then some ((-1:Int)) else bif decide (a0≤127) then some ((1:Int)) else bif decide (a0≤2047) then some ((2:Int)) else bif decide ((55296:Int)≤a0) then bif decide (a0≤57343) then some ((-1:Int)) else bif decide (a0≤65535) then some ((3:Int)) else bif decide (a0≤1114111) then some ((4:Int)) else some ((-1:Int)) else bif decide (a0≤65535) then some ((3:Int)) else bif decide (a0≤1114111) then some ((4:Int)) else some ((-1:Int))
def qbG:=sealF (qbG_f)
abbrev qbe_o4:=List UInt8→Int→Int→Int→Int→Int→Int→Int→Int→List UInt8→Nat→List Spot→Option ((Int×Int×Int×Int×(List Spot))⊕(Int×Int×Int×Int×Int×Int×Int×Int×(List Spot)))
def qbe_t4 (rec:qbe_o4):qbe_o4:=fun a0 a1 a2 a3 a4 a5 a6 a7 a8 a9 a10 a11=>bif decide (a10<List.length a9) then bif (↑(Prod.fst (Utf8.decode (ByteArray.mk (List.toArray a9)) a10)):Int)==65533 then bif decide ((0:Int)≤(↑a10:Int))&&(decide ((↑a10:Int)≤if IntKind.wrap IntKind.i64 ((↑a10:Int)+(3:Int))<(List.length a0:Int) then IntKind.wrap IntKind.i64 ((↑a10:Int)+(3:Int)) else (List.length a0:Int))&&decide ((if IntKind.wrap IntKind.i64 ((↑a10:Int)+(3:Int))<(List.length a0:Int) then IntKind.wrap IntKind.i64 ((↑a10:Int)+(3:Int)) else (List.length a0:Int))≤(List.length a0:Int))) then bif !List.drop (Int.toNat (↑a10:Int)) (List.take (Int.toNat (if IntKind.wrap IntKind.i64 ((↑a10:Int)+(3:Int))<(List.length a0:Int) then IntKind.wrap IntKind.i64 ((↑a10:Int)+(3:Int)) else (List.length a0:Int))) a0)==[(239:UInt8),(191:UInt8),(189:UInt8)] then some (.inl ((a5),(a6),(a7),(a8),(a11))) else bif decide ((List.length a11+List.length [Spot.mk (IntKind.wrap IntKind.i64 (↑(Prod.fst (Utf8.decode (ByteArray.mk (List.toArray a9)) a10)):Int)) a6 a7 a8])*(32:Nat)≤(140737488355328:Nat)∧List.length a11+List.length [Spot.mk (IntKind.wrap IntKind.i64 (↑(Prod.fst (Utf8.decode (ByteArray.mk (List.toArray a9)) a10)):Int)) a6 a7 a8]≤(9223372036854775807:Nat)) then (qbG (↑(Prod.fst (Utf8.decode (ByteArray.mk (List.toArray a9)) a10)):Int)).bind fun y0=>bif (↑(Prod.fst (Utf8.decode (ByteArray.mk (List.toArray a9)) a10)):Int)==10 then rec (a0) (a1) (a2) (a3) (a4) ((-1:Int)) (IntKind.wrap IntKind.i64 (a6+y0)) (IntKind.wrap IntKind.i64 (a7+(1:Int))) ((1:Int)) (a9) (a10+Prod.snd (Utf8.decode (ByteArray.mk (List.toArray a9)) a10)) (a11++[Spot.mk (IntKind.wrap IntKind.i64 (↑(Prod.fst (Utf8.decode (ByteArray.mk (List.toArray a9)) a10)):Int)) a6 a7 a8]) else rec (a0) (a1) (a2) (a3) (a4) ((-1:Int)) (IntKind.wrap IntKind.i64 (a6+y0)) (a7) (IntKind.wrap IntKind.i64 (a8+(1:Int))) (a9) (a10+Prod.snd (Utf8.decode (ByteArray.mk (List.toArray a9)) a10)) (a11++[Spot.mk (IntKind.wrap IntKind.i64 (↑(Prod.fst (Utf8.decode (ByteArray.mk (List.toArray a9)) a10)):Int)) a6 a7 a8]) else none else none else bif decide ((List.length a11+List.length [Spot.mk (IntKind.wrap IntKind.i64 (↑(Prod.fst (Utf8.decode (ByteArray.mk (List.toArray a9)) a10)):Int)) a6 a7 a8])*(32:Nat)≤(140737488355328:Nat)∧List.length a11+List.length [Spot.mk (IntKind.wrap IntKind.i64 (↑(Prod.fst (Utf8.decode (ByteArray.mk (List.toArray a9)) a10)):Int)) a6 a7 a8]≤(9223372036854775807:Nat)) then (qbG (↑(Prod.fst (Utf8.decode (ByteArray.mk (List.toArray a9)) a10)):Int)).bind fun y1=>bif (↑(Prod.fst (Utf8.decode (ByteArray.mk (List.toArray a9)) a10)):Int)==10 then rec (a0) (a1) (a2) (a3) (a4) ((-1:Int)) (IntKind.wrap IntKind.i64 (a6+y1)) (IntKind.wrap IntKind.i64 (a7+(1:Int))) ((1:Int)) (a9) (a10+Prod.snd (Utf8.decode (ByteArray.mk (List.toArray a9)) a10)) (a11++[Spot.mk (IntKind.wrap IntKind.i64 (↑(Prod.fst (Utf8.decode (ByteArray.mk (List.toArray a9)) a10)):Int)) a6 a7 a8]) else rec (a0) (a1) (a2) (a3) (a4) ((-1:Int)) (IntKind.wrap IntKind.i64 (a6+y1)) (a7) (IntKind.wrap IntKind.i64 (a8+(1:Int))) (a9) (a10+Prod.snd (Utf8.decode (ByteArray.mk (List.toArray a9)) a10)) (a11++[Spot.mk (IntKind.wrap IntKind.i64 (↑(Prod.fst (Utf8.decode (ByteArray.mk (List.toArray a9)) a10)):Int)) a6 a7 a8]) else none else some (.inr ((a1),(a2),(a3),(a4),(a5),(a6),(a7),(a8),(a11)))
def qbe_i4:Nat→qbe_o4
 |0=>fun _ _ _ _ _ _ _ _ _ _ _ _=>none
 |n+1=>qbe_t4 (qbe_i4 n)
def qbe_l4:=sealF (qbe_i4 fuel)
def qbe_f (a0:List UInt8):Option (Spot×(List Spot)):=(qbe_l4 a0 (0:Int) (0:Int) (0:Int) (0:Int) (-1:Int) (0:Int) (1:Int) (1:Int) a0 (0:Nat) []).bind fun y0=>(match y0 with|.inl y1=>some ((Spot.mk y1.1 y1.2.1 y1.2.2.1 y1.2.2.2.1),y1.2.2.2.2)|.inr y1=>some ((Spot.mk y1.2.2.2.2.1 y1.2.2.2.2.2.1 y1.2.2.2.2.2.2.1 y1.2.2.2.2.2.2.2.1),y1.2.2.2.2.2.2.2.2))
def qbe:=sealF (qbe_f)
def qbd_f (a0:List UInt8):Option (Fault×(List Spot)):=bif decide ((List.length a0:Int)>4000) then some ((Fault.mk (10:Int) (4000:Int) []),([])) else (qbe a0).bind fun y0=>bif decide (Spot.at_ y0.1<(List.length a0:Int)) then some ((Fault.mk (11:Int) (Spot.at_ y0.1) []),([])) else some ((Fault.mk (0:Int) (0:Int) []),y0.2)
def qbd:=sealF (qbd_f)
def qba_f (a0:Int):Option (Bool):=bif a0==9 then some (true) else bif a0==10 then some (true) else bif a0==13 then some (true) else some (a0==32)
def qba:=sealF (qba_f)
abbrev qaI_o3:=List UInt8→Bool→List UInt8→Nat→Option ((Int)⊕((List UInt8)))
def qaI_t3 (rec:qaI_o3):qaI_o3:=fun a0 a1 a2 a3=>bif decide (a3<List.length a2) then bif a1 then rec (a0) ((↑(Prod.fst (Utf8.decode (ByteArray.mk (List.toArray a2)) a3)):Int) != 10) (a2) (a3+Prod.snd (Utf8.decode (ByteArray.mk (List.toArray a2)) a3)) else bif (↑(Prod.fst (Utf8.decode (ByteArray.mk (List.toArray a2)) a3)):Int)==35 then rec (a0) (true) (a2) (a3+Prod.snd (Utf8.decode (ByteArray.mk (List.toArray a2)) a3)) else (qba (IntKind.wrap IntKind.i64 (↑(Prod.fst (Utf8.decode (ByteArray.mk (List.toArray a2)) a3)):Int))).bind fun y0=>bif !y0 then some (.inl ((↑a3:Int))) else rec (a0) (a1) (a2) (a3+Prod.snd (Utf8.decode (ByteArray.mk (List.toArray a2)) a3)) else some (.inr (a0))
def qaI_i3:Nat→qaI_o3
 |0=>fun _ _ _ _=>none
 |n+1=>qaI_t3 (qaI_i3 n)
def qaI_l3:=sealF (qaI_i3 fuel)
def qaI_f (a0:List UInt8):Option (Int):=(qaI_l3 a0 false a0 (0:Nat)).bind fun y0=>(match y0 with|.inl y1=>some (y1)|.inr y1=>some ((List.length y1:Int)))
def qaI:=sealF (qaI_f)
def qbH_f (a0:Int):Option (Bool):=bif decide (0≤a0) then bif decide (a0<55296) then some (true) else bif decide ((57343:Int)<a0) then bif decide (a0≤1114111) then some (true) else some (false) else some (false) else bif decide ((57343:Int)<a0) then bif decide (a0≤1114111) then some (true) else some (false) else some (false)
def qbH:=sealF (qbH_f)
def qbf_f (a0:Int):Option (Bool):=bif decide (a0≥0) then bif decide (a0≤1114111) then (qbH (IntKind.wrap IntKind.i32 a0)).bind fun y0=>some (y0) else some (false) else some (false)
def qbf:=sealF (qbf_f)
def qbc_f (a0:Int):Option (Bool):=bif decide (a0≥97) then bif decide (a0≤122) then bif decide (a0≤122) then some (true) else bif decide (a0≥192) then (qbf a0).bind fun y0=>some (y0) else some (false) else bif decide (a0≥65) then bif decide (a0≤90) then bif decide (a0≤90) then some (true) else bif decide (a0≥192) then (qbf a0).bind fun y1=>some (y1) else some (false) else bif a0==95 then some (true) else bif decide (a0≥192) then (qbf a0).bind fun y2=>some (y2) else some (false) else bif a0==95 then some (true) else bif decide (a0≥192) then (qbf a0).bind fun y3=>some (y3) else some (false) else bif decide (a0≥65) then bif decide (a0≤90) then bif decide (a0≤90) then some (true) else bif decide (a0≥192) then (qbf a0).bind fun y4=>some (y4) else some (false) else bif a0==95 then some (true) else bif decide (a0≥192) then (qbf a0).bind fun y5=>some (y5) else some (false) else bif a0==95 then some (true) else bif decide (a0≥192) then (qbf a0).bind fun y6=>some (y6) else some (false)
def qbc:=sealF (qbc_f)
def qbb_f (a0:Int):Option (Bool):=bif decide (a0≥48) then some (decide (a0≤57)) else some (false)
def qbb:=sealF (qbb_f)
def qaG_f (a0:Int):Option (Bool):=(qbc (IntKind.wrap IntKind.i64 a0)).bind fun y0=>bif y0 then some (true) else (qbb (IntKind.wrap IntKind.i64 a0)).bind fun y1=>some (y1)
def qaG:=sealF (qaG_f)
abbrev qbn_o2:=List (List UInt8)→List UInt8→Int→Int→Option ((Int)⊕(Unit))
def qbn_t2 (rec:qbn_o2):qbn_o2:=fun a0 a1 a2 a3=>bif decide (a3<a2) then bif decide (0≤a3) then (a0[Int.toNat a3]?).bind fun y0=>bif a1==y0 then some (.inl (a3)) else rec (a0) (a1) (a2) (IntKind.wrap IntKind.i64 (a3+(1:Int))) else none else some (.inr ())
def qbn_i2:Nat→qbn_o2
 |0=>fun _ _ _ _=>none
 |n+1=>qbn_t2 (qbn_i2 n)
def qbn_l2:=sealF (qbn_i2 fuel)
def qbn_f (a0:List (List UInt8)) (a1:List UInt8):Option (Int):=(qbn_l2 a0 a1 (List.length a0:Int) (0:Int)).bind fun y0=>(match y0 with|.inl y1=>some (y1)|.inr y1=>some ((-1:Int)))
def qbn:=sealF (qbn_f)
def qbl_f (a0:List (List UInt8)) (a1:List UInt8):Option (Bool):=(qbn a0 a1).bind fun y0=>some (decide (y0≥0))
def qbl:=sealF (qbl_f)
def qaJ_f (a0:List UInt8):Option ((List UInt8)):=bif decide ((List.length a0:Int)>1) then bif decide ((0:Int)≤(0:Int))&&(decide ((0:Int)≤(2:Int))&&decide ((2:Int)≤(List.length a0:Int))) then (qbl [[(58:UInt8),(61:UInt8)],[(60:UInt8),(45:UInt8)],[(61:UInt8),(61:UInt8)],[(33:UInt8),(61:UInt8)],[(60:UInt8),(61:UInt8)],[(62:UInt8),(61:UInt8)],[(38:UInt8),(38:UInt8)],[(124:UInt8),(124:UInt8)]] (List.drop (0:Nat) (List.take (2:Nat) a0))).bind fun y0=>bif y0 then bif decide ((0:Int)≤(0:Int))&&(decide ((0:Int)≤(2:Int))&&decide ((2:Int)≤(List.length a0:Int))) then some (List.drop (0:Nat) (List.take (2:Nat) a0)) else none else bif decide ((0:Int)≤(0:Int))&&(decide ((0:Int)≤(1:Int))&&decide ((1:Int)≤(List.length a0:Int))) then (strings_Contains [(61:UInt8),(60:UInt8),(62:UInt8),(33:UInt8),(43:UInt8),(45:UInt8),(42:UInt8),(47:UInt8),(37:UInt8),(59:UInt8),(123:UInt8),(125:UInt8),(40:UInt8),(41:UInt8)] (List.drop (0:Nat) (List.take (1:Nat) a0))).bind fun y1=>bif y1 then bif decide ((0:Int)≤(0:Int))&&(decide ((0:Int)≤(1:Int))&&decide ((1:Int)≤(List.length a0:Int))) then some (List.drop (0:Nat) (List.take (1:Nat) a0)) else none else some ([]) else none else none else bif decide ((0:Int)≤(0:Int))&&(decide ((0:Int)≤(1:Int))&&decide ((1:Int)≤(List.length a0:Int))) then (strings_Contains [(61:UInt8),(60:UInt8),(62:UInt8),(33:UInt8),(43:UInt8),(45:UInt8),(42:UInt8),(47:UInt8),(37:UInt8),(59:UInt8),(123:UInt8),(125:UInt8),(40:UInt8),(41:UInt8)] (List.drop (0:Nat) (List.take (1:Nat) a0))).bind fun y2=>bif y2 then bif decide ((0:Int)≤(0:Int))&&(decide ((0:Int)≤(1:Int))&&decide ((1:Int)≤(List.length a0:Int))) then some (List.drop (0:Nat) (List.take (1:Nat) a0)) else none else some ([]) else none
def qaJ:=sealF (qaJ_f)
abbrev qaL_o2:=List UInt8→List UInt8→Nat→Option (((List UInt8))⊕((List UInt8)))
def qaL_t2 (rec:qaL_o2):qaL_o2:=fun a0 a1 a2=>bif decide (a2<List.length a1) then (qaG (↑(Prod.fst (Utf8.decode (ByteArray.mk (List.toArray a1)) a2)):Int)).bind fun y0=>bif !y0 then bif decide ((0:Int)≤(0:Int))&&(decide ((0:Int)≤(↑a2:Int))&&decide ((↑a2:Int)≤(List.length a0:Int))) then some (.inl (List.drop (0:Nat) (List.take (Int.toNat (↑a2:Int)) a0))) else none else rec (a0) (a1) (a2+Prod.snd (Utf8.decode (ByteArray.mk (List.toArray a1)) a2)) else some (.inr (a0))
def qaL_i2:Nat→qaL_o2
 |0=>fun _ _ _=>none
 |n+1=>qaL_t2 (qaL_i2 n)
def qaL_l2:=sealF (qaL_i2 fuel)
def qaL_f (a0:List UInt8):Option ((List UInt8)):=(qaL_l2 a0 a0 (0:Nat)).bind fun y0=>(match y0 with|.inl y1=>some (y1)|.inr y1=>some (y1))
def qaL:=sealF (qaL_f)
def qaH_f (a0:List UInt8):Option (Int×Bool):=bif decide ((List.length a0:Int)>1) then (a0[(0:Nat)]?).bind fun y0=>bif (↑(UInt8.toNat y0):Int)==48 then some (((0:Int)),(false)) else (zac8 a0 [(48:UInt8),(49:UInt8),(50:UInt8),(51:UInt8),(52:UInt8),(53:UInt8),(54:UInt8),(55:UInt8),(56:UInt8),(57:UInt8)]).bind fun y1=>bif !y1==[] then some (((0:Int)),(false)) else (zabx a0).bind fun y2=>bif !y2.2 then some (y2.1,(decide (y2.1≤2147483647))) else some (y2.1,(false)) else (zac8 a0 [(48:UInt8),(49:UInt8),(50:UInt8),(51:UInt8),(52:UInt8),(53:UInt8),(54:UInt8),(55:UInt8),(56:UInt8),(57:UInt8)]).bind fun y3=>bif !y3==[] then some (((0:Int)),(false)) else (zabx a0).bind fun y4=>bif !y4.2 then some (y4.1,(decide (y4.1≤2147483647))) else some (y4.1,(false))
def qaH:=sealF (qaH_f)
def qaF_f:Option ((List (List UInt8))):=some ([[(97:UInt8),(100:UInt8),(100:UInt8)],[(97:UInt8),(115:UInt8),(115:UInt8),(101:UInt8),(114:UInt8),(116:UInt8)],[(99:UInt8),(101:UInt8),(108:UInt8),(108:UInt8)],[(101:UInt8),(108:UInt8),(115:UInt8),(101:UInt8)],[(105:UInt8),(102:UInt8)],[(106:UInt8),(111:UInt8),(105:UInt8),(110:UInt8)],[(108:UInt8),(111:UInt8),(99:UInt8),(107:UInt8)],[(109:UInt8),(117:UInt8),(116:UInt8),(101:UInt8),(120:UInt8)],[(114:UInt8),(101:UInt8),(112:UInt8),(101:UInt8),(97:UInt8),(116:UInt8)],[(115:UInt8),(116:UInt8),(97:UInt8),(114:UInt8),(116:UInt8)],[(116:UInt8),(104:UInt8),(114:UInt8),(101:UInt8),(97:UInt8),(100:UInt8)],[(117:UInt8),(110:UInt8),(108:UInt8),(111:UInt8),(99:UInt8),(107:UInt8)]])
def qaF:=sealF (qaF_f)
def qaK_f (a0:List UInt8):Option (Token×Int):=(zaaz a0).bind fun y0=>(qaG y0.1).bind fun y1=>bif !y1 then (qaJ a0).bind fun y2=>bif y2==[] then some ((Token.mk (0:Int) [] (0:Int) (0:Int)),((20:Int))) else some ((Token.mk (3:Int) y2 (0:Int) (0:Int)),((0:Int))) else (qaL a0).bind fun y3=>(qbb (IntKind.wrap IntKind.i64 y0.1)).bind fun y4=>bif y4 then (qaH y3).bind fun y5=>bif !y5.2 then some ((Token.mk (1:Int) y3 (0:Int) (0:Int)),((22:Int))) else some ((Token.mk (2:Int) y3 y5.1 (0:Int)),((0:Int))) else (qaF).bind fun y6=>(qbl y6 y3).bind fun y7=>bif y7 then some ((Token.mk (4:Int) y3 (0:Int) (0:Int)),((0:Int))) else (zaa0 y3).bind fun y8=>bif decide (y8>16) then some ((Token.mk (1:Int) y3 (0:Int) (0:Int)),((21:Int))) else some ((Token.mk (1:Int) y3 (0:Int) (0:Int)),((0:Int)))
def qaK:=sealF (qaK_f)
abbrev qaE_o6:=List UInt8→Int→Int→Int→List UInt8→List Token→Option ((Int×Int×(List UInt8))⊕((List UInt8)×Int×Int×(List UInt8)×(List Token)))
def qaE_t6 (rec:qaE_o6):qaE_o6:=fun a0 a1 a2 a3 a4 a5=>bif decide (a1<(List.length a0:Int)) then bif decide (0≤a1)&&(decide (a1≤(List.length a0:Int))&&decide ((List.length a0:Int)≤(List.length a0:Int))) then (qaK (List.drop (Int.toNat a1) (List.take (Int.toNat (List.length a0:Int)) a0))).bind fun y0=>bif y0.2 != 0 then some (.inl (y0.2,(a1),([]))) else bif decide ((List.length a5+List.length [Token.mk (Token.kind y0.1) (Token.text y0.1) (Token.num y0.1) a1])*(40:Nat)≤(140737488355328:Nat)∧List.length a5+List.length [Token.mk (Token.kind y0.1) (Token.text y0.1) (Token.num y0.1) a1]≤(9223372036854775807:Nat)) then bif decide ((0:Int)≤IntKind.wrap IntKind.i64 (a1+(List.length (Token.text y0.1):Int)))&&(decide (IntKind.wrap IntKind.i64 (a1+(List.length (Token.text y0.1):Int))≤(List.length a0:Int))&&decide ((List.length a0:Int)≤(List.length a0:Int))) then (qaI (List.drop (Int.toNat (IntKind.wrap IntKind.i64 (a1+(List.length (Token.text y0.1):Int)))) (List.take (Int.toNat (List.length a0:Int)) a0))).bind fun y1=>rec (a0) (IntKind.wrap IntKind.i64 (IntKind.wrap IntKind.i64 (a1+(List.length (Token.text y0.1):Int))+y1)) (a2) (a3) (a4) (a5++[Token.mk (Token.kind y0.1) (Token.text y0.1) (Token.num y0.1) a1]) else none else none else none else some (.inr ((a0),(a2),(a3),(a4),(a5)))
def qaE_i6:Nat→qaE_o6
 |0=>fun _ _ _ _ _ _=>none
 |n+1=>qaE_t6 (qaE_i6 n)
def qaE_l6:=sealF (qaE_i6 fuel)
def qaE_f (a0:List UInt8):Option (Fault×(List Token)):=(qbd a0).bind fun y0=>bif Fault.code y0.1 != 0 then some ((Fault.mk (Fault.code y0.1) (Fault.at_ y0.1) (Fault.name y0.1)),([])) else (qaI a0).bind fun y1=>(qaE_l6 a0 y1 (0:Int) (0:Int) [] []).bind fun y2=>(match y2 with|.inl y3=>some ((Fault.mk y3.1 y3.2.1 y3.2.2),([]))|.inr y3=>bif decide ((List.length y3.2.2.2.2+List.length [Token.mk (5:Int) [] (0:Int) (List.length y3.1:Int)])*(40:Nat)≤(140737488355328:Nat)∧List.length y3.2.2.2.2+List.length [Token.mk (5:Int) [] (0:Int) (List.length y3.1:Int)]≤(9223372036854775807:Nat)) then some ((Fault.mk (0:Int) (0:Int) []),(y3.2.2.2.2++[Token.mk (5:Int) [] (0:Int) (List.length y3.1:Int)])) else none)
def qaE:=sealF (qaE_f)
def qbD_f (a0:List UInt8):Option (Bool):=bif decide ((List.length a0:Int)>64) then some (false) else (qaE a0).bind fun y0=>Option.bind (α:=Bool) ( bif Fault.code y0.1==0 then some ((List.length y0.2:Int)==2) else some (false)) fun y1=>Option.bind (α:=Bool) ( bif y1 then bif decide ((0:Int)≤(0:Int))&&decide ((0:Int)<(List.length y0.2:Int)) then (y0.2[(0:Nat)]?).bind fun y2=>some (Token.kind y2==1) else none else some (false)) fun y3=>Option.bind (α:=Bool) ( bif y3 then bif decide ((0:Int)≤(0:Int))&&decide ((0:Int)<(List.length y0.2:Int)) then (y0.2[(0:Nat)]?).bind fun y4=>some (Token.text y4==a0) else none else some (false)) fun y5=>some (y5)
def qbD:=sealF (qbD_f)
def qbE_f:Option ((List ((Int)×(Shape)))):=some (zaau (11:Int) (Shape.mk false false false true true false) (zaau (10:Int) (Shape.mk false false true false true true) (zaau (9:Int) (Shape.mk false false true false false false) (zaau (8:Int) (Shape.mk false true false false false false) (zaau (7:Int) (Shape.mk false true false false false false) (zaau (6:Int) (Shape.mk false true false false false false) (zaau (5:Int) (Shape.mk false true false false false false) (zaau (4:Int) (Shape.mk true true true false false false) (zaau (3:Int) (Shape.mk false true true false false false) (zaau (2:Int) (Shape.mk true true false false false false) (zaau (1:Int) (Shape.mk true false true false false false) [])))))))))))
def qbE:=sealF (qbE_f)
def qbC_f (a0:List UInt8) (a1:Bool):Option (Bool):=Option.bind (α:=Bool) ( bif a1 then (qbD a0).bind fun y0=>some (y0) else some (false)) fun y1=>Option.bind (α:=Bool) ( bif y1 then some (true) else Option.bind (α:=Bool) ( bif !a1 then some (a0==[]) else some (false)) fun y2=>some (y2)) fun y3=>some (y3)
def qbC:=sealF (qbC_f)
def qbF_f (a0:TStmt):Option (Bool):=(qbE).bind fun y0=>Option.bind (α:=Bool) ( bif TExpr.kind (TStmt.expr a0)==0 then some (TExpr.num (TStmt.expr a0)==0) else some (false)) fun y1=>Option.bind (α:=Bool) ( bif y1 then some (TExpr.name (TStmt.expr a0)==[]) else some (false)) fun y2=>Option.bind (α:=Bool) ( bif y2 then some ((↑(List.length (TExpr.args (TStmt.expr a0))):Int)==0) else some (false)) fun y3=>Option.bind (α:=Bool) ( bif TStmt.count a0==0 then some (true) else Option.bind (α:=Bool) ( bif Shape.count (Option.getD (mapAt y0 (TStmt.kind a0)) (Shape.mk false false false false false false)) then some (decide (TStmt.count a0>0)) else some (false)) fun y4=>Option.bind (α:=Bool) ( bif y4 then some (decide (TStmt.count a0≤1000)) else some (false)) fun y5=>some (y5)) fun y6=>Option.bind (α:=Bool) ( bif Option.isSome (mapAt y0 (TStmt.kind a0)) then (qbC (TStmt.reg a0) (Shape.reg (Option.getD (mapAt y0 (TStmt.kind a0)) (Shape.mk false false false false false false)))).bind fun y7=>some (y7) else some (false)) fun y8=>Option.bind (α:=Bool) ( bif y8 then (qbC (TStmt.name a0) (Shape.name (Option.getD (mapAt y0 (TStmt.kind a0)) (Shape.mk false false false false false false)))).bind fun y9=>some (y9) else some (false)) fun y10=>Option.bind (α:=Bool) ( bif y10 then Option.bind (α:=Bool) ( bif Shape.expr (Option.getD (mapAt y0 (TStmt.kind a0)) (Shape.mk false false false false false false)) then some (TExpr.kind (TStmt.expr a0) != 0) else some (false)) fun y11=>Option.bind (α:=Bool) ( bif y11 then some (true) else Option.bind (α:=Bool) ( bif !Shape.expr (Option.getD (mapAt y0 (TStmt.kind a0)) (Shape.mk false false false false false false)) then some (y3) else some (false)) fun y12=>some (y12)) fun y13=>some (y13) else some (false)) fun y14=>Option.bind (α:=Bool) ( bif y14 then some (y6) else some (false)) fun y15=>Option.bind (α:=Bool) ( bif y15 then Option.bind (α:=Bool) ( bif Shape.then_ (Option.getD (mapAt y0 (TStmt.kind a0)) (Shape.mk false false false false false false)) then some (true) else some ((List.length (TStmt.then_ a0):Int)==0)) fun y16=>some (y16) else some (false)) fun y17=>Option.bind (α:=Bool) ( bif y17 then Option.bind (α:=Bool) ( bif Shape.other (Option.getD (mapAt y0 (TStmt.kind a0)) (Shape.mk false false false false false false)) then some (true) else some ((List.length (TStmt.else_ a0):Int)==0)) fun y18=>some (y18) else some (false)) fun y19=>some (y19)
def qbF:=sealF (qbF_f)
def qbA_f (a0:TStmt) (a1:Int) (a2:Bool):Option (Bool):=Option.bind (α:=Bool) ( bif a2 then (qbF (TStmt.mk (TStmt.kind a0) (TStmt.reg a0) (TStmt.name a0) (TExpr.mk (TExpr.kind (TStmt.expr a0)) (TExpr.num (TStmt.expr a0)) (TExpr.name (TStmt.expr a0)) (TExpr.args (TStmt.expr a0))) (TStmt.count a0) (TStmt.then_ a0) (TStmt.else_ a0))).bind fun y0=>some (y0) else some (false)) fun y1=>some (y1)
def qbA:=sealF (qbA_f)
def qby_f (a0:TExpr):Option (Bool):=bif TExpr.kind a0==1 then Option.bind (α:=Bool) ( bif decide (TExpr.num a0≥0) then some (decide (TExpr.num a0≤2147483647)) else some (false)) fun y0=>Option.bind (α:=Bool) ( bif y0 then some (TExpr.name a0==[]) else some (false)) fun y1=>Option.bind (α:=Bool) ( bif y1 then some ((List.length (TExpr.args a0):Int)==0) else some (false)) fun y2=>some (y2) else bif TExpr.kind a0==2 then (qbD (TExpr.name a0)).bind fun y3=>Option.bind (α:=Bool) ( bif y3 then some (TExpr.num a0==0) else some (false)) fun y4=>Option.bind (α:=Bool) ( bif y4 then some ((List.length (TExpr.args a0):Int)==0) else some (false)) fun y5=>some (y5) else Option.bind (α:=Bool) ( bif TExpr.kind a0==3 then some (true) else some (TExpr.kind a0==4)) fun y6=>bif y6 then Option.bind (α:=Bool) ( bif decide (TExpr.kind a0≥3) then some (decide (TExpr.kind a0≤17)) else some (false)) fun y7=>Option.bind (α:=Bool) ( bif y7 then some ((List.length (TExpr.args a0):Int)==1) else some (false)) fun y8=>Option.bind (α:=Bool) ( bif y8 then some (TExpr.num a0==0) else some (false)) fun y9=>Option.bind (α:=Bool) ( bif y9 then some (TExpr.name a0==[]) else some (false)) fun y10=>some (y10) else Option.bind (α:=Bool) ( bif decide (TExpr.kind a0≥3) then some (decide (TExpr.kind a0≤17)) else some (false)) fun y11=>Option.bind (α:=Bool) ( bif y11 then some ((List.length (TExpr.args a0):Int)==2) else some (false)) fun y12=>Option.bind (α:=Bool) ( bif y12 then some (TExpr.num a0==0) else some (false)) fun y13=>Option.bind (α:=Bool) ( bif y13 then some (TExpr.name a0==[]) else some (false)) fun y14=>some (y14)
def qby:=sealF (qby_f)
def qbB_f (a0:TExpr) (a1:Int) (a2:Bool):Option (Bool):=Option.bind (α:=Bool) ( bif a2 then (qby (TExpr.mk (TExpr.kind a0) (TExpr.num a0) (TExpr.name a0) (TExpr.args a0))).bind fun y0=>some (y0) else some (false)) fun y1=>some (y1)
def qbB:=sealF (qbB_f)
abbrev qac_o:=TExpr→Int→Bool→Option (Bool)
abbrev qac_o3:=Int→List TExpr→Int→Int→Bool→Option (Bool)
def qac_t3 (rec_qac:qac_o) (rec:qac_o3):qac_o3:=fun a0 a1 a2 a3 a4=>bif decide (a3<a2) then bif decide (0≤a3) then (a1[Int.toNat a3]?).bind fun y0=>(rec_qac (TExpr.mk (TExpr.kind y0) (TExpr.num y0) (TExpr.name y0) (TExpr.args y0)) (IntKind.wrap IntKind.i64 (a0+(1:Int))) a4).bind fun y1=>rec (a0) (a1) (a2) (IntKind.wrap IntKind.i64 (a3+(1:Int))) (y1) else none else some (a4)
def qac_i3 (rec_qac:qac_o):Nat→qac_o3
 |0=>fun _ _ _ _ _=>none
 |n+1=>qac_t3 rec_qac (qac_i3 rec_qac n)
def qac_l3 (rec_qac:qac_o):=sealF (qac_i3 rec_qac fuel)
def qac_f (rec_qac:qac_o):qac_o:=fun a0 a1 a2=>(qbB (TExpr.mk (TExpr.kind a0) (TExpr.num a0) (TExpr.name a0) (TExpr.args a0)) a1 a2).bind fun y0=>(qac_l3 rec_qac a1 (TExpr.args a0) (List.length (TExpr.args a0):Int) (0:Int) y0).bind fun y1=>some (y1)
def qac_i:Nat→qac_o
 |0=>fun _ _ _=>none
 |n+1=>qac_f (qac_i n)
def qac:=sealF (qac_i fuel)
abbrev qai_o:=List TStmt→Int→Bool→Option (Bool)
abbrev qai_o2:=Int→List TStmt→Int→Int→Bool→Option (Bool)
def qai_t2 (rec_qai:qai_o) (rec:qai_o2):qai_o2:=fun a0 a1 a2 a3 a4=>bif decide (a3<a2) then bif decide (0≤a3) then (a1[Int.toNat a3]?).bind fun y0=>(qbA (TStmt.mk (TStmt.kind y0) (TStmt.reg y0) (TStmt.name y0) (TExpr.mk (TExpr.kind (TStmt.expr y0)) (TExpr.num (TStmt.expr y0)) (TExpr.name (TStmt.expr y0)) (TExpr.args (TStmt.expr y0))) (TStmt.count y0) (TStmt.then_ y0) (TStmt.else_ y0)) a0 a4).bind fun y1=>Option.bind (α:=Bool) ( bif TExpr.kind (TStmt.expr y0) != 0 then some (true) else some (decide ((↑(List.length (TExpr.args (TStmt.expr y0))):Int)>0))) fun y2=>bif y2 then (qac (TExpr.mk (TExpr.kind (TStmt.expr y0)) (TExpr.num (TStmt.expr y0)) (TExpr.name (TStmt.expr y0)) (TExpr.args (TStmt.expr y0))) (1:Int) y1).bind fun y3=>(rec_qai (TStmt.then_ y0) (IntKind.wrap IntKind.i64 (a0+(1:Int))) y3).bind fun y4=>(rec_qai (TStmt.else_ y0) (IntKind.wrap IntKind.i64 (a0+(1:Int))) y4).bind fun y5=>rec (a0) (a1) (a2) (IntKind.wrap IntKind.i64 (a3+(1:Int))) (y5) else (rec_qai (TStmt.then_ y0) (IntKind.wrap IntKind.i64 (a0+(1:Int))) y1).bind fun y6=>(rec_qai (TStmt.else_ y0) (IntKind.wrap IntKind.i64 (a0+(1:Int))) y6).bind fun y7=>rec (a0) (a1) (a2) (IntKind.wrap IntKind.i64 (a3+(1:Int))) (y7) else none else some (a4)
def qai_i2 (rec_qai:qai_o):Nat→qai_o2
 |0=>fun _ _ _ _ _=>none
 |n+1=>qai_t2 rec_qai (qai_i2 rec_qai n)
def qai_l2 (rec_qai:qai_o):=sealF (qai_i2 rec_qai fuel)
def qai_f (rec_qai:qai_o):qai_o:=fun a0 a1 a2=>(qai_l2 rec_qai a1 a0 (List.length a0:Int) (0:Int) a2).bind fun y0=>some (y0)
def qai_i:Nat→qai_o
 |0=>fun _ _ _=>none
 |n+1=>qai_f (qai_i n)
def qai:=sealF (qai_i fuel)
abbrev qaf_o2:=List TThread→Int→Int→Bool→Option (Bool)
def qaf_t2 (rec:qaf_o2):qaf_o2:=fun a0 a1 a2 a3=>bif decide (a2<a1) then bif decide (0≤a2) then (a0[Int.toNat a2]?).bind fun y0=>(qai (TThread.body y0) (1:Int) a3).bind fun y1=>rec (a0) (a1) (IntKind.wrap IntKind.i64 (a2+(1:Int))) (y1) else none else some (a3)
def qaf_i2:Nat→qaf_o2
 |0=>fun _ _ _ _=>none
 |n+1=>qaf_t2 (qaf_i2 n)
def qaf_l2:=sealF (qaf_i2 fuel)
def qaf_f (a0:TProg) (a1:Bool):Option (Bool):=(qaf_l2 (TProg.threads a0) (List.length (TProg.threads a0):Int) (0:Int) a1).bind fun y0=>some (y0)
def qaf:=sealF (qaf_f)
abbrev qbz_o3:=List TCell→Int→Int→List TCell→List (List UInt8)→List TThread→Bool→Option ((List TCell)×(List (List UInt8))×(List TThread)×Bool)
def qbz_t3 (rec:qbz_o3):qbz_o3:=fun a0 a1 a2 a3 a4 a5 a6=>bif decide (a2<a1) then bif decide (0≤a2) then (a0[Int.toNat a2]?).bind fun y0=>Option.bind (α:=Bool) ( bif a6 then (qbD (TCell.name y0)).bind fun y1=>some (y1) else some (false)) fun y2=>Option.bind (α:=Bool) ( bif y2 then some (decide (TCell.init y0≥(-2147483647:Int))) else some (false)) fun y3=>Option.bind (α:=Bool) ( bif y3 then some (decide (TCell.init y0≤2147483647)) else some (false)) fun y4=>rec (a0) (a1) (IntKind.wrap IntKind.i64 (a2+(1:Int))) (a3) (a4) (a5) (y4) else none else some ((a3),(a4),(a5),(a6))
def qbz_i3:Nat→qbz_o3
 |0=>fun _ _ _ _ _ _ _=>none
 |n+1=>qbz_t3 (qbz_i3 n)
def qbz_l3:=sealF (qbz_i3 fuel)
abbrev qbz_o8:=List (List UInt8)→Int→Int→List TCell→List (List UInt8)→List TThread→Bool→Option ((List TCell)×(List (List UInt8))×(List TThread)×Bool)
def qbz_t8 (rec:qbz_o8):qbz_o8:=fun a0 a1 a2 a3 a4 a5 a6=>bif decide (a2<a1) then bif decide (0≤a2) then (a0[Int.toNat a2]?).bind fun y0=>Option.bind (α:=Bool) ( bif a6 then (qbD y0).bind fun y1=>some (y1) else some (false)) fun y2=>rec (a0) (a1) (IntKind.wrap IntKind.i64 (a2+(1:Int))) (a3) (a4) (a5) (y2) else none else some ((a3),(a4),(a5),(a6))
def qbz_i8:Nat→qbz_o8
 |0=>fun _ _ _ _ _ _ _=>none
 |n+1=>qbz_t8 (qbz_i8 n)
def qbz_l8:=sealF (qbz_i8 fuel)
abbrev qbz_o13:=List TThread→Int→Int→List TCell→List (List UInt8)→List TThread→Bool→Option ((List TCell)×(List (List UInt8))×(List TThread)×Bool)
def qbz_t13 (rec:qbz_o13):qbz_o13:=fun a0 a1 a2 a3 a4 a5 a6=>bif decide (a2<a1) then bif decide (0≤a2) then (a0[Int.toNat a2]?).bind fun y0=>Option.bind (α:=Bool) ( bif a6 then (qbD (TThread.name y0)).bind fun y1=>some (y1) else some (false)) fun y2=>rec (a0) (a1) (IntKind.wrap IntKind.i64 (a2+(1:Int))) (a3) (a4) (a5) (y2) else none else some ((a3),(a4),(a5),(a6))
def qbz_i13:Nat→qbz_o13
 |0=>fun _ _ _ _ _ _ _=>none
 |n+1=>qbz_t13 (qbz_i13 n)
def qbz_l13:=sealF (qbz_i13 fuel)
def qbz_f (a0:TProg):Option (Bool):=(qbz_l3 (TProg.cells a0) (List.length (TProg.cells a0):Int) (0:Int) (TProg.cells a0) (TProg.mutexes a0) (TProg.threads a0) true).bind fun y0=>(qbz_l8 y0.2.1 (List.length y0.2.1:Int) (0:Int) y0.1 y0.2.1 y0.2.2.1 y0.2.2.2).bind fun y1=>(qbz_l13 y1.2.2.1 (List.length y1.2.2.1:Int) (0:Int) y1.1 y1.2.1 y1.2.2.1 y1.2.2.2).bind fun y2=>bif y2.2.2.2 then (qaf (TProg.mk y2.1 y2.2.1 y2.2.2.1) y2.2.2.2).bind fun y3=>some (y3) else some y2.2.2.2
def qbz:=sealF (qbz_f)
def qbv_f (a0:TStmt) (a1:Int) (a2:Int):Option (Int):=some (if a1>a2 then a1 else a2)
def qbv:=sealF (qbv_f)
def qbw_f (a0:TExpr) (a1:Int) (a2:Int):Option (Int):=some (if a1>a2 then a1 else a2)
def qbw:=sealF (qbw_f)
abbrev qad_o:=TExpr→Int→Int→Option (Int)
abbrev qad_o3:=Int→List TExpr→Int→Int→Int→Option (Int)
def qad_t3 (rec_qad:qad_o) (rec:qad_o3):qad_o3:=fun a0 a1 a2 a3 a4=>bif decide (a3<a2) then bif decide (0≤a3) then (a1[Int.toNat a3]?).bind fun y0=>(rec_qad (TExpr.mk (TExpr.kind y0) (TExpr.num y0) (TExpr.name y0) (TExpr.args y0)) (IntKind.wrap IntKind.i64 (a0+(1:Int))) a4).bind fun y1=>rec (a0) (a1) (a2) (IntKind.wrap IntKind.i64 (a3+(1:Int))) (y1) else none else some (a4)
def qad_i3 (rec_qad:qad_o):Nat→qad_o3
 |0=>fun _ _ _ _ _=>none
 |n+1=>qad_t3 rec_qad (qad_i3 rec_qad n)
def qad_l3 (rec_qad:qad_o):=sealF (qad_i3 rec_qad fuel)
def qad_f (rec_qad:qad_o):qad_o:=fun a0 a1 a2=>(qbw (TExpr.mk (TExpr.kind a0) (TExpr.num a0) (TExpr.name a0) (TExpr.args a0)) a1 a2).bind fun y0=>(qad_l3 rec_qad a1 (TExpr.args a0) (List.length (TExpr.args a0):Int) (0:Int) y0).bind fun y1=>some (y1)
def qad_i:Nat→qad_o
 |0=>fun _ _ _=>none
 |n+1=>qad_f (qad_i n)
def qad:=sealF (qad_i fuel)
abbrev qaj_o:=List TStmt→Int→Int→Option (Int)
abbrev qaj_o2:=Int→List TStmt→Int→Int→Int→Option (Int)
def qaj_t2 (rec_qaj:qaj_o) (rec:qaj_o2):qaj_o2:=fun a0 a1 a2 a3 a4=>bif decide (a3<a2) then bif decide (0≤a3) then (a1[Int.toNat a3]?).bind fun y0=>(qbv (TStmt.mk (TStmt.kind y0) (TStmt.reg y0) (TStmt.name y0) (TExpr.mk (TExpr.kind (TStmt.expr y0)) (TExpr.num (TStmt.expr y0)) (TExpr.name (TStmt.expr y0)) (TExpr.args (TStmt.expr y0))) (TStmt.count y0) (TStmt.then_ y0) (TStmt.else_ y0)) a0 a4).bind fun y1=>Option.bind (α:=Bool) ( bif TExpr.kind (TStmt.expr y0) != 0 then some (true) else some (decide ((↑(List.length (TExpr.args (TStmt.expr y0))):Int)>0))) fun y2=>bif y2 then (qad (TExpr.mk (TExpr.kind (TStmt.expr y0)) (TExpr.num (TStmt.expr y0)) (TExpr.name (TStmt.expr y0)) (TExpr.args (TStmt.expr y0))) (1:Int) y1).bind fun y3=>(rec_qaj (TStmt.then_ y0) (IntKind.wrap IntKind.i64 (a0+(1:Int))) y3).bind fun y4=>(rec_qaj (TStmt.else_ y0) (IntKind.wrap IntKind.i64 (a0+(1:Int))) y4).bind fun y5=>rec (a0) (a1) (a2) (IntKind.wrap IntKind.i64 (a3+(1:Int))) (y5) else (rec_qaj (TStmt.then_ y0) (IntKind.wrap IntKind.i64 (a0+(1:Int))) y1).bind fun y6=>(rec_qaj (TStmt.else_ y0) (IntKind.wrap IntKind.i64 (a0+(1:Int))) y6).bind fun y7=>rec (a0) (a1) (a2) (IntKind.wrap IntKind.i64 (a3+(1:Int))) (y7) else none else some (a4)
def qaj_i2 (rec_qaj:qaj_o):Nat→qaj_o2
 |0=>fun _ _ _ _ _=>none
 |n+1=>qaj_t2 rec_qaj (qaj_i2 rec_qaj n)
def qaj_l2 (rec_qaj:qaj_o):=sealF (qaj_i2 rec_qaj fuel)
def qaj_f (rec_qaj:qaj_o):qaj_o:=fun a0 a1 a2=>(qaj_l2 rec_qaj a1 a0 (List.length a0:Int) (0:Int) a2).bind fun y0=>some (y0)
def qaj_i:Nat→qaj_o
 |0=>fun _ _ _=>none
 |n+1=>qaj_f (qaj_i n)
def qaj:=sealF (qaj_i fuel)
abbrev qag_o2:=List TThread→Int→Int→Int→Option (Int)
def qag_t2 (rec:qag_o2):qag_o2:=fun a0 a1 a2 a3=>bif decide (a2<a1) then bif decide (0≤a2) then (a0[Int.toNat a2]?).bind fun y0=>(qaj (TThread.body y0) (1:Int) a3).bind fun y1=>rec (a0) (a1) (IntKind.wrap IntKind.i64 (a2+(1:Int))) (y1) else none else some (a3)
def qag_i2:Nat→qag_o2
 |0=>fun _ _ _ _=>none
 |n+1=>qag_t2 (qag_i2 n)
def qag_l2:=sealF (qag_i2 fuel)
def qag_f (a0:TProg) (a1:Int):Option (Int):=(qag_l2 (TProg.threads a0) (List.length (TProg.threads a0):Int) (0:Int) a1).bind fun y0=>some (y0)
def qag:=sealF (qag_f)
def qbu_f (a0:TProg):Option (Int):=(qag (TProg.mk (TProg.cells a0) (TProg.mutexes a0) (TProg.threads a0)) (0:Int)).bind fun y0=>some (y0)
def qbu:=sealF (qbu_f)
def qbs_f (a0:TStmt) (a1:Int) (a2:Int):Option (Int):=some (IntKind.wrap IntKind.i64 (a2+(1:Int)))
def qbs:=sealF (qbs_f)
def qbt_f (a0:TExpr) (a1:Int) (a2:Int):Option (Int):=some (IntKind.wrap IntKind.i64 (a2+(1:Int)))
def qbt:=sealF (qbt_f)
abbrev qae_o:=TExpr→Int→Int→Option (Int)
abbrev qae_o3:=Int→List TExpr→Int→Int→Int→Option (Int)
def qae_t3 (rec_qae:qae_o) (rec:qae_o3):qae_o3:=fun a0 a1 a2 a3 a4=>bif decide (a3<a2) then bif decide (0≤a3) then (a1[Int.toNat a3]?).bind fun y0=>(rec_qae (TExpr.mk (TExpr.kind y0) (TExpr.num y0) (TExpr.name y0) (TExpr.args y0)) (IntKind.wrap IntKind.i64 (a0+(1:Int))) a4).bind fun y1=>rec (a0) (a1) (a2) (IntKind.wrap IntKind.i64 (a3+(1:Int))) (y1) else none else some (a4)
def qae_i3 (rec_qae:qae_o):Nat→qae_o3
 |0=>fun _ _ _ _ _=>none
 |n+1=>qae_t3 rec_qae (qae_i3 rec_qae n)
def qae_l3 (rec_qae:qae_o):=sealF (qae_i3 rec_qae fuel)
def qae_f (rec_qae:qae_o):qae_o:=fun a0 a1 a2=>(qbt (TExpr.mk (TExpr.kind a0) (TExpr.num a0) (TExpr.name a0) (TExpr.args a0)) a1 a2).bind fun y0=>(qae_l3 rec_qae a1 (TExpr.args a0) (List.length (TExpr.args a0):Int) (0:Int) y0).bind fun y1=>some (y1)
def qae_i:Nat→qae_o
 |0=>fun _ _ _=>none
 |n+1=>qae_f (qae_i n)
def qae:=sealF (qae_i fuel)
abbrev qak_o:=List TStmt→Int→Int→Option (Int)
abbrev qak_o2:=Int→List TStmt→Int→Int→Int→Option (Int)
def qak_t2 (rec_qak:qak_o) (rec:qak_o2):qak_o2:=fun a0 a1 a2 a3 a4=>bif decide (a3<a2) then bif decide (0≤a3) then (a1[Int.toNat a3]?).bind fun y0=>(qbs (TStmt.mk (TStmt.kind y0) (TStmt.reg y0) (TStmt.name y0) (TExpr.mk (TExpr.kind (TStmt.expr y0)) (TExpr.num (TStmt.expr y0)) (TExpr.name (TStmt.expr y0)) (TExpr.args (TStmt.expr y0))) (TStmt.count y0) (TStmt.then_ y0) (TStmt.else_ y0)) a0 a4).bind fun y1=>Option.bind (α:=Bool) ( bif TExpr.kind (TStmt.expr y0) != 0 then some (true) else some (decide ((↑(List.length (TExpr.args (TStmt.expr y0))):Int)>0))) fun y2=>bif y2 then (qae (TExpr.mk (TExpr.kind (TStmt.expr y0)) (TExpr.num (TStmt.expr y0)) (TExpr.name (TStmt.expr y0)) (TExpr.args (TStmt.expr y0))) (1:Int) y1).bind fun y3=>(rec_qak (TStmt.then_ y0) (IntKind.wrap IntKind.i64 (a0+(1:Int))) y3).bind fun y4=>(rec_qak (TStmt.else_ y0) (IntKind.wrap IntKind.i64 (a0+(1:Int))) y4).bind fun y5=>rec (a0) (a1) (a2) (IntKind.wrap IntKind.i64 (a3+(1:Int))) (y5) else (rec_qak (TStmt.then_ y0) (IntKind.wrap IntKind.i64 (a0+(1:Int))) y1).bind fun y6=>(rec_qak (TStmt.else_ y0) (IntKind.wrap IntKind.i64 (a0+(1:Int))) y6).bind fun y7=>rec (a0) (a1) (a2) (IntKind.wrap IntKind.i64 (a3+(1:Int))) (y7) else none else some (a4)
def qak_i2 (rec_qak:qak_o):Nat→qak_o2
 |0=>fun _ _ _ _ _=>none
 |n+1=>qak_t2 rec_qak (qak_i2 rec_qak n)
def qak_l2 (rec_qak:qak_o):=sealF (qak_i2 rec_qak fuel)
def qak_f (rec_qak:qak_o):qak_o:=fun a0 a1 a2=>(qak_l2 rec_qak a1 a0 (List.length a0:Int) (0:Int) a2).bind fun y0=>some (y0)
def qak_i:Nat→qak_o
 |0=>fun _ _ _=>none
 |n+1=>qak_f (qak_i n)
def qak:=sealF (qak_i fuel)
abbrev qah_o2:=List TThread→Int→Int→Int→Option (Int)
def qah_t2 (rec:qah_o2):qah_o2:=fun a0 a1 a2 a3=>bif decide (a2<a1) then bif decide (0≤a2) then (a0[Int.toNat a2]?).bind fun y0=>(qak (TThread.body y0) (1:Int) a3).bind fun y1=>rec (a0) (a1) (IntKind.wrap IntKind.i64 (a2+(1:Int))) (y1) else none else some (a3)
def qah_i2:Nat→qah_o2
 |0=>fun _ _ _ _=>none
 |n+1=>qah_t2 (qah_i2 n)
def qah_l2:=sealF (qah_i2 fuel)
def qah_f (a0:TProg) (a1:Int):Option (Int):=(qah_l2 (TProg.threads a0) (List.length (TProg.threads a0):Int) (0:Int) a1).bind fun y0=>some (y0)
def qah:=sealF (qah_f)
def qbr_f (a0:TProg):Option (Int):=(qah (TProg.mk (TProg.cells a0) (TProg.mutexes a0) (TProg.threads a0)) (0:Int)).bind fun y0=>some (y0)
def qbr:=sealF (qbr_f)
def qbx_f (a0:TProg):Option (Int):=(qbz (TProg.mk (TProg.cells a0) (TProg.mutexes a0) (TProg.threads a0))).bind fun y0=>bif !y0 then some ((30:Int)) else (qbu (TProg.mk (TProg.cells a0) (TProg.mutexes a0) (TProg.threads a0))).bind fun y1=>bif decide (y1>16) then some ((31:Int)) else (qbr (TProg.mk (TProg.cells a0) (TProg.mutexes a0) (TProg.threads a0))).bind fun y2=>bif decide (y2>500) then some ((32:Int)) else some ((0:Int))
def qbx:=sealF (qbx_f)
abbrev qaw_o5:=List TBody→Int→Int→List Int→Int→List TBody→List (List UInt8)→List (List UInt8)→List (List UInt8)→List (List (List UInt8))→Option ((Bool)⊕((List Int)×Int×(List TBody)×(List (List UInt8))×(List (List UInt8))×(List (List UInt8))×(List (List (List UInt8)))))
def qaw_t5 (rec:qaw_o5):qaw_o5:=fun a0 a1 a2 a3 a4 a5 a6 a7 a8 a9=>bif decide (a2<a1) then bif decide (0≤a2) then (a0[Int.toNat a2]?).bind fun y0=>Option.bind (α:=Bool) ( bif decide (TBody.regs y0<0) then some (true) else some (decide (TBody.regs y0>8))) fun y1=>bif y1 then some (.inl (false)) else (qaB (TBody.regs y0)).bind fun y2=>bif decide ((List.length a9+List.length [y2])*(24:Nat)≤(140737488355328:Nat)∧List.length a9+List.length [y2]≤(9223372036854775807:Nat)) then rec (a0) (a1) (IntKind.wrap IntKind.i64 (a2+(1:Int))) (a3) (a4) (a5) (a6) (a7) (a8) (a9++[y2]) else none else none else some (.inr ((a3),(a4),(a5),(a6),(a7),(a8),(a9)))
def qaw_i5:Nat→qaw_o5
 |0=>fun _ _ _ _ _ _ _ _ _ _=>none
 |n+1=>qaw_t5 (qaw_i5 n)
def qaw_l5:=sealF (qaw_i5 fuel)
def qaw_f (a0:TUnit):Option (Bool):=Option.bind (α:=Bool) ( bif decide ((List.length (TUnit.threads a0):Int)<1) then some (true) else some (decide ((List.length (TUnit.threads a0):Int)>8))) fun y0=>Option.bind (α:=Bool) ( bif y0 then some (true) else some (decide ((List.length (TUnit.cells a0):Int)>8))) fun y1=>Option.bind (α:=Bool) ( bif y1 then some (true) else some (decide (TUnit.mutexes a0<0))) fun y2=>Option.bind (α:=Bool) ( bif y2 then some (true) else some (decide (TUnit.mutexes a0>8))) fun y3=>bif y3 then some (false) else (qaB (List.length (TUnit.cells a0):Int)).bind fun y4=>(qaB (TUnit.mutexes a0)).bind fun y5=>(qaB (List.length (TUnit.threads a0):Int)).bind fun y6=>(qaw_l5 (TUnit.threads a0) (List.length (TUnit.threads a0):Int) (0:Int) (TUnit.cells a0) (TUnit.mutexes a0) (TUnit.threads a0) y4 y5 y6 []).bind fun y7=>(match y7 with|.inl y8=>some (y8)|.inr y8=>(qaA (TUnit.mk y8.1 y8.2.1 y8.2.2.1) (Names.mk y8.2.2.2.1 y8.2.2.2.2.1 y8.2.2.2.2.2.1 y8.2.2.2.2.2.2)).bind fun y9=>(qbx (TProg.mk y9.1 y9.2.1 y9.2.2)).bind fun y10=>some (y10==0))
def qaw:=sealF (qaw_f)
def qbj_f (a0:List Int):Option ((List Int)):=bif List.isEmpty a0 then both ( some ([])) ( bif decide (((0:Nat)+List.length a0)*(8:Nat)≤(140737488355328:Nat)∧(0:Nat)+List.length a0≤(9223372036854775807:Nat)) then some ([]++a0) else none) else bif decide (((0:Nat)+List.length a0)*(8:Nat)≤(140737488355328:Nat)∧(0:Nat)+List.length a0≤(9223372036854775807:Nat)) then some ([]++a0) else none
def qbj:=sealF (qbj_f)
abbrev qaR_o2:=List Int→Int→Int→Int→Int→Int→Int→Int→Int→List Instr→Option (Int×Int×Int×Int×Int×Int×(List Instr))
def qaR_t2 (rec:qaR_o2):qaR_o2:=fun a0 a1 a2 a3 a4 a5 a6 a7 a8 a9=>bif decide (a2<a1) then bif decide (0≤a2) then (a0[Int.toNat a2]?).bind fun y0=>rec (a0) (a1) (IntKind.wrap IntKind.i64 (a2+(1:Int))) (a3) (if IntKind.wrap IntKind.i64 (y0+(1:Int))>a4 then IntKind.wrap IntKind.i64 (y0+(1:Int)) else a4) (a5) (a6) (a7) (a8) (a9) else none else some ((a3),(a4),(a5),(a6),(a7),(a8),(a9))
def qaR_i2:Nat→qaR_o2
 |0=>fun _ _ _ _ _ _ _ _ _ _=>none
 |n+1=>qaR_t2 (qaR_i2 n)
def qaR_l2:=sealF (qaR_i2 fuel)
def qaR_f (a0:Instr) (a1:List Int) (a2:Int) (a3:Int) (a4:List Instr):Option (Int×Int×Int×(List Instr)):=(qaR_l2 a1 (List.length a1:Int) (0:Int) a2 a3 (Instr.op a0) (Instr.a a0) (Instr.b a0) (Instr.c a0) a4).bind fun y0=>bif decide ((List.length y0.2.2.2.2.2.2+List.length [Instr.mk y0.2.2.1 y0.2.2.2.1 y0.2.2.2.2.1 y0.2.2.2.2.2.1])*(32:Nat)≤(140737488355328:Nat)∧List.length y0.2.2.2.2.2.2+List.length [Instr.mk y0.2.2.1 y0.2.2.2.1 y0.2.2.2.2.1 y0.2.2.2.2.2.1]≤(9223372036854775807:Nat)) then some ((IntKind.wrap IntKind.i64 ((List.length (y0.2.2.2.2.2.2++[Instr.mk y0.2.2.1 y0.2.2.2.1 y0.2.2.2.2.1 y0.2.2.2.2.2.1]):Int)-(1:Int))),y0.1,y0.2.1,(y0.2.2.2.2.2.2++[Instr.mk y0.2.2.1 y0.2.2.2.1 y0.2.2.2.2.1 y0.2.2.2.2.2.1])) else none
def qaR:=sealF (qaR_f)
abbrev qaQ_o:=Int→TExpr→Int→Int→List Instr→Option (Int×Int×(List Instr))
def qaQ_f (rec_qaQ:qaQ_o):qaQ_o:=fun a0 a1 a2 a3 a4=>bif TExpr.kind a1==1 then (qaR (Instr.mk (1:Int) a0 (TExpr.num a1) (0:Int)) [a0] a2 a3 a4).bind fun y0=>some (y0.2.1,y0.2.2.1,y0.2.2.2) else bif TExpr.kind a1==2 then (qaR (Instr.mk (2:Int) a0 (TExpr.num a1) (0:Int)) [a0,TExpr.num a1] a2 a3 a4).bind fun y1=>some (y1.2.1,y1.2.2.1,y1.2.2.2) else ((TExpr.args a1)[(0:Nat)]?).bind fun y2=>(rec_qaQ a0 y2 a2 a3 a4).bind fun y3=>bif (List.length (TExpr.args a1):Int)==1 then (qaR (Instr.mk (IntKind.wrap IntKind.i64 (IntKind.wrap IntKind.i64 (TExpr.kind a1-(3:Int))+(3:Int))) a0 a0 (0:Int)) [a0] y3.1 y3.2.1 y3.2.2).bind fun y4=>some (y4.2.1,y4.2.2.1,y4.2.2.2) else ((TExpr.args a1)[(1:Nat)]?).bind fun y5=>(rec_qaQ (IntKind.wrap IntKind.i64 (a0+(1:Int))) y5 y3.1 y3.2.1 y3.2.2).bind fun y6=>(qaR (Instr.mk (IntKind.wrap IntKind.i64 (IntKind.wrap IntKind.i64 (TExpr.kind a1-(3:Int))+(3:Int))) a0 a0 (IntKind.wrap IntKind.i64 (a0+(1:Int)))) [a0,IntKind.wrap IntKind.i64 (a0+(1:Int))] y6.1 y6.2.1 y6.2.2).bind fun y7=>some (y7.2.1,y7.2.2.1,y7.2.2.2)
def qaQ_i:Nat→qaQ_o
 |0=>fun _ _ _ _ _=>none
 |n+1=>qaQ_f (qaQ_i n)
def qaQ:=sealF (qaQ_i fuel)
abbrev qaO_o:=List TAct→Int→Int→Int→List Instr→Option (Int×Int×(List Instr))
def qaP_f (rec_qaO:qaO_o) (a0:TAct) (a1:Int) (a2:Int) (a3:Int) (a4:Int) (a5:List Instr):Option (Int×Int×(List Instr)):=(qaR (Instr.mk (19:Int) a2 (0:Int) (0:Int)) [a2] a3 a4 a5).bind fun y0=>(rec_qaO (TAct.then_ a0) a1 y0.2.1 y0.2.2.1 y0.2.2.2).bind fun y1=>bif decide ((List.length (TAct.else_ a0):Int)>0) then (qaR (Instr.mk (18:Int) (0:Int) (0:Int) (0:Int)) [] y1.1 y1.2.1 y1.2.2).bind fun y2=>bif decide ((0:Int)≤y0.1)&&decide (y0.1<(List.length y2.2.2.2:Int)) then (y2.2.2.2[Int.toNat y0.1]?).bind fun y3=>(rec_qaO (TAct.else_ a0) a1 y2.2.1 y2.2.2.1 (List.set y2.2.2.2 (Int.toNat y0.1) (Instr.mk (Instr.op y3) (Instr.a y3) (List.length y2.2.2.2:Int) (Instr.c y3)))).bind fun y4=>bif decide ((0:Int)≤y2.1)&&decide (y2.1<(List.length y4.2.2:Int)) then (y4.2.2[Int.toNat y2.1]?).bind fun y5=>some (y4.1,y4.2.1,(List.set y4.2.2 (Int.toNat y2.1) (Instr.mk (Instr.op y5) (List.length y4.2.2:Int) (Instr.b y5) (Instr.c y5)))) else none else none else bif decide ((0:Int)≤y0.1)&&decide (y0.1<(List.length y1.2.2:Int)) then (y1.2.2[Int.toNat y0.1]?).bind fun y6=>some (y1.1,y1.2.1,(List.set y1.2.2 (Int.toNat y0.1) (Instr.mk (Instr.op y6) (Instr.a y6) (List.length y1.2.2:Int) (Instr.c y6)))) else none
def qaP (rec_qaO:qaO_o):=sealF (qaP_f rec_qaO)
def qaN_f (rec_qaO:qaO_o) (a0:TAct) (a1:Int) (a2:Int) (a3:Int) (a4:List Instr):Option (Int×Int×(List Instr)):=bif TExpr.kind (TAct.expr a0) != 0 then (qaQ (IntKind.wrap IntKind.i64 (a2+a1)) (TExpr.mk (TExpr.kind (TAct.expr a0)) (TExpr.num (TAct.expr a0)) (TExpr.name (TAct.expr a0)) (TExpr.args (TAct.expr a0))) a2 a3 a4).bind fun y0=>bif TAct.kind a0==1 then (qaR (Instr.mk (2:Int) (TAct.reg a0) (IntKind.wrap IntKind.i64 (a2+a1)) (0:Int)) [TAct.reg a0,IntKind.wrap IntKind.i64 (a2+a1)] y0.1 y0.2.1 y0.2.2).bind fun y1=>some (y1.2.1,y1.2.2.1,y1.2.2.2) else bif TAct.kind a0==2 then (qaR (Instr.mk (21:Int) (TAct.reg a0) (TAct.obj a0) (0:Int)) [TAct.reg a0] y0.1 y0.2.1 y0.2.2).bind fun y2=>some (y2.2.1,y2.2.2.1,y2.2.2.2) else bif TAct.kind a0==3 then (qaR (Instr.mk (22:Int) (TAct.obj a0) (IntKind.wrap IntKind.i64 (a2+a1)) (0:Int)) [IntKind.wrap IntKind.i64 (a2+a1)] y0.1 y0.2.1 y0.2.2).bind fun y3=>some (y3.2.1,y3.2.2.1,y3.2.2.2) else bif TAct.kind a0==4 then (qaR (Instr.mk (23:Int) (TAct.reg a0) (TAct.obj a0) (IntKind.wrap IntKind.i64 (a2+a1))) [TAct.reg a0,IntKind.wrap IntKind.i64 (a2+a1)] y0.1 y0.2.1 y0.2.2).bind fun y4=>some (y4.2.1,y4.2.2.1,y4.2.2.2) else bif TAct.kind a0==5 then bif TAct.kind a0==5 then (qaR (Instr.mk (IntKind.wrap IntKind.i64 (IntKind.wrap IntKind.i64 (TAct.kind a0-(5:Int))+(24:Int))) (TAct.obj a0) (0:Int) (0:Int)) [] y0.1 y0.2.1 y0.2.2).bind fun y5=>some (y5.2.1,y5.2.2.1,y5.2.2.2) else bif TAct.kind a0==9 then (qaR (Instr.mk (28:Int) (IntKind.wrap IntKind.i64 (a2+a1)) (0:Int) (0:Int)) [IntKind.wrap IntKind.i64 (a2+a1)] y0.1 y0.2.1 y0.2.2).bind fun y6=>some (y6.2.1,y6.2.2.1,y6.2.2.2) else bif TAct.kind a0==10 then (qaP rec_qaO (TAct.mk (TAct.kind a0) (TAct.reg a0) (TAct.obj a0) (TExpr.mk (TExpr.kind (TAct.expr a0)) (TExpr.num (TAct.expr a0)) (TExpr.name (TAct.expr a0)) (TExpr.args (TAct.expr a0))) (TAct.count a0) (TAct.then_ a0) (TAct.else_ a0)) a1 (IntKind.wrap IntKind.i64 (a2+a1)) y0.1 y0.2.1 y0.2.2).bind fun y7=>some (y7.1,y7.2.1,y7.2.2) else bif TAct.kind a0==11 then bif TAct.count a0==0 then some (y0.1,y0.2.1,y0.2.2) else (qaR (Instr.mk (1:Int) (IntKind.wrap IntKind.i64 (a2+a1)) (TAct.count a0) (0:Int)) [IntKind.wrap IntKind.i64 (a2+a1)] y0.1 y0.2.1 y0.2.2).bind fun y8=>(rec_qaO (TAct.then_ a0) (IntKind.wrap IntKind.i64 (a1+(1:Int))) y8.2.1 y8.2.2.1 y8.2.2.2).bind fun y9=>(qaR (Instr.mk (20:Int) (IntKind.wrap IntKind.i64 (a2+a1)) (IntKind.wrap IntKind.i64 (y8.1+(1:Int))) (0:Int)) [IntKind.wrap IntKind.i64 (a2+a1)] y9.1 y9.2.1 y9.2.2).bind fun y10=>some (y10.2.1,y10.2.2.1,y10.2.2.2) else some (y0.1,y0.2.1,y0.2.2) else bif TAct.kind a0==6 then bif TAct.kind a0==6 then (qaR (Instr.mk (IntKind.wrap IntKind.i64 (IntKind.wrap IntKind.i64 (TAct.kind a0-(5:Int))+(24:Int))) (TAct.obj a0) (0:Int) (0:Int)) [] y0.1 y0.2.1 y0.2.2).bind fun y11=>some (y11.2.1,y11.2.2.1,y11.2.2.2) else bif TAct.kind a0==9 then (qaR (Instr.mk (28:Int) (IntKind.wrap IntKind.i64 (a2+a1)) (0:Int) (0:Int)) [IntKind.wrap IntKind.i64 (a2+a1)] y0.1 y0.2.1 y0.2.2).bind fun y12=>some (y12.2.1,y12.2.2.1,y12.2.2.2) else bif TAct.kind a0==10 then (qaP rec_qaO (TAct.mk (TAct.kind a0) (TAct.reg a0) (TAct.obj a0) (TExpr.mk (TExpr.kind (TAct.expr a0)) (TExpr.num (TAct.expr a0)) (TExpr.name (TAct.expr a0)) (TExpr.args (TAct.expr a0))) (TAct.count a0) (TAct.then_ a0) (TAct.else_ a0)) a1 (IntKind.wrap IntKind.i64 (a2+a1)) y0.1 y0.2.1 y0.2.2).bind fun y13=>some (y13.1,y13.2.1,y13.2.2) else bif TAct.kind a0==11 then bif TAct.count a0==0 then some (y0.1,y0.2.1,y0.2.2) else (qaR (Instr.mk (1:Int) (IntKind.wrap IntKind.i64 (a2+a1)) (TAct.count a0) (0:Int)) [IntKind.wrap IntKind.i64 (a2+a1)] y0.1 y0.2.1 y0.2.2).bind fun y14=>(rec_qaO (TAct.then_ a0) (IntKind.wrap IntKind.i64 (a1+(1:Int))) y14.2.1 y14.2.2.1 y14.2.2.2).bind fun y15=>(qaR (Instr.mk (20:Int) (IntKind.wrap IntKind.i64 (a2+a1)) (IntKind.wrap IntKind.i64 (y14.1+(1:Int))) (0:Int)) [IntKind.wrap IntKind.i64 (a2+a1)] y15.1 y15.2.1 y15.2.2).bind fun y16=>some (y16.2.1,y16.2.2.1,y16.2.2.2) else some (y0.1,y0.2.1,y0.2.2) else bif TAct.kind a0==7 then bif TAct.kind a0==7 then (qaR (Instr.mk (IntKind.wrap IntKind.i64 (IntKind.wrap IntKind.i64 (TAct.kind a0-(5:Int))+(24:Int))) (TAct.obj a0) (0:Int) (0:Int)) [] y0.1 y0.2.1 y0.2.2).bind fun y17=>some (y17.2.1,y17.2.2.1,y17.2.2.2) else bif TAct.kind a0==9 then (qaR (Instr.mk (28:Int) (IntKind.wrap IntKind.i64 (a2+a1)) (0:Int) (0:Int)) [IntKind.wrap IntKind.i64 (a2+a1)] y0.1 y0.2.1 y0.2.2).bind fun y18=>some (y18.2.1,y18.2.2.1,y18.2.2.2) else bif TAct.kind a0==10 then (qaP rec_qaO (TAct.mk (TAct.kind a0) (TAct.reg a0) (TAct.obj a0) (TExpr.mk (TExpr.kind (TAct.expr a0)) (TExpr.num (TAct.expr a0)) (TExpr.name (TAct.expr a0)) (TExpr.args (TAct.expr a0))) (TAct.count a0) (TAct.then_ a0) (TAct.else_ a0)) a1 (IntKind.wrap IntKind.i64 (a2+a1)) y0.1 y0.2.1 y0.2.2).bind fun y19=>some (y19.1,y19.2.1,y19.2.2) else bif TAct.kind a0==11 then bif TAct.count a0==0 then some (y0.1,y0.2.1,y0.2.2) else (qaR (Instr.mk (1:Int) (IntKind.wrap IntKind.i64 (a2+a1)) (TAct.count a0) (0:Int)) [IntKind.wrap IntKind.i64 (a2+a1)] y0.1 y0.2.1 y0.2.2).bind fun y20=>(rec_qaO (TAct.then_ a0) (IntKind.wrap IntKind.i64 (a1+(1:Int))) y20.2.1 y20.2.2.1 y20.2.2.2).bind fun y21=>(qaR (Instr.mk (20:Int) (IntKind.wrap IntKind.i64 (a2+a1)) (IntKind.wrap IntKind.i64 (y20.1+(1:Int))) (0:Int)) [IntKind.wrap IntKind.i64 (a2+a1)] y21.1 y21.2.1 y21.2.2).bind fun y22=>some (y22.2.1,y22.2.2.1,y22.2.2.2) else some (y0.1,y0.2.1,y0.2.2) else bif TAct.kind a0==8 then (qaR (Instr.mk (IntKind.wrap IntKind.i64 (IntKind.wrap IntKind.i64 (TAct.kind a0-(5:Int))+(24:Int))) (TAct.obj a0) (0:Int) (0:Int)) [] y0.1 y0.2.1 y0.2.2).bind fun y23=>some (y23.2.1,y23.2.2.1,y23.2.2.2) else bif TAct.kind a0==9 then (qaR (Instr.mk (28:Int) (IntKind.wrap IntKind.i64 (a2+a1)) (0:Int) (0:Int)) [IntKind.wrap IntKind.i64 (a2+a1)] y0.1 y0.2.1 y0.2.2).bind fun y24=>some (y24.2.1,y24.2.2.1,y24.2.2.2) else bif TAct.kind a0==10 then (qaP rec_qaO (TAct.mk (TAct.kind a0) (TAct.reg a0) (TAct.obj a0) (TExpr.mk (TExpr.kind (TAct.expr a0)) (TExpr.num (TAct.expr a0)) (TExpr.name (TAct.expr a0)) (TExpr.args (TAct.expr a0))) (TAct.count a0) (TAct.then_ a0) (TAct.else_ a0)) a1 (IntKind.wrap IntKind.i64 (a2+a1)) y0.1 y0.2.1 y0.2.2).bind fun y25=>some (y25.1,y25.2.1,y25.2.2) else bif TAct.kind a0==11 then bif TAct.count a0==0 then some (y0.1,y0.2.1,y0.2.2) else (qaR (Instr.mk (1:Int) (IntKind.wrap IntKind.i64 (a2+a1)) (TAct.count a0) (0:Int)) [IntKind.wrap IntKind.i64 (a2+a1)] y0.1 y0.2.1 y0.2.2).bind fun y26=>(rec_qaO (TAct.then_ a0) (IntKind.wrap IntKind.i64 (a1+(1:Int))) y26.2.1 y26.2.2.1 y26.2.2.2).bind fun y27=>(qaR (Instr.mk (20:Int) (IntKind.wrap IntKind.i64 (a2+a1)) (IntKind.wrap IntKind.i64 (y26.1+(1:Int))) (0:Int)) [IntKind.wrap IntKind.i64 (a2+a1)] y27.1 y27.2.1 y27.2.2).bind fun y28=>some (y28.2.1,y28.2.2.1,y28.2.2.2) else some (y0.1,y0.2.1,y0.2.2) else bif TAct.kind a0==1 then (qaR (Instr.mk (2:Int) (TAct.reg a0) (IntKind.wrap IntKind.i64 (a2+a1)) (0:Int)) [TAct.reg a0,IntKind.wrap IntKind.i64 (a2+a1)] a2 a3 a4).bind fun y29=>some (y29.2.1,y29.2.2.1,y29.2.2.2) else bif TAct.kind a0==2 then (qaR (Instr.mk (21:Int) (TAct.reg a0) (TAct.obj a0) (0:Int)) [TAct.reg a0] a2 a3 a4).bind fun y30=>some (y30.2.1,y30.2.2.1,y30.2.2.2) else bif TAct.kind a0==3 then (qaR (Instr.mk (22:Int) (TAct.obj a0) (IntKind.wrap IntKind.i64 (a2+a1)) (0:Int)) [IntKind.wrap IntKind.i64 (a2+a1)] a2 a3 a4).bind fun y31=>some (y31.2.1,y31.2.2.1,y31.2.2.2) else bif TAct.kind a0==4 then (qaR (Instr.mk (23:Int) (TAct.reg a0) (TAct.obj a0) (IntKind.wrap IntKind.i64 (a2+a1))) [TAct.reg a0,IntKind.wrap IntKind.i64 (a2+a1)] a2 a3 a4).bind fun y32=>some (y32.2.1,y32.2.2.1,y32.2.2.2) else bif TAct.kind a0==5 then bif TAct.kind a0==5 then (qaR (Instr.mk (IntKind.wrap IntKind.i64 (IntKind.wrap IntKind.i64 (TAct.kind a0-(5:Int))+(24:Int))) (TAct.obj a0) (0:Int) (0:Int)) [] a2 a3 a4).bind fun y33=>some (y33.2.1,y33.2.2.1,y33.2.2.2) else bif TAct.kind a0==9 then (qaR (Instr.mk (28:Int) (IntKind.wrap IntKind.i64 (a2+a1)) (0:Int) (0:Int)) [IntKind.wrap IntKind.i64 (a2+a1)] a2 a3 a4).bind fun y34=>some (y34.2.1,y34.2.2.1,y34.2.2.2) else bif TAct.kind a0==10 then (qaP rec_qaO (TAct.mk (TAct.kind a0) (TAct.reg a0) (TAct.obj a0) (TExpr.mk (TExpr.kind (TAct.expr a0)) (TExpr.num (TAct.expr a0)) (TExpr.name (TAct.expr a0)) (TExpr.args (TAct.expr a0))) (TAct.count a0) (TAct.then_ a0) (TAct.else_ a0)) a1 (IntKind.wrap IntKind.i64 (a2+a1)) a2 a3 a4).bind fun y35=>some (y35.1,y35.2.1,y35.2.2) else bif TAct.kind a0==11 then bif TAct.count a0==0 then some ((a2),(a3),(a4)) else (qaR (Instr.mk (1:Int) (IntKind.wrap IntKind.i64 (a2+a1)) (TAct.count a0) (0:Int)) [IntKind.wrap IntKind.i64 (a2+a1)] a2 a3 a4).bind fun y36=>(rec_qaO (TAct.then_ a0) (IntKind.wrap IntKind.i64 (a1+(1:Int))) y36.2.1 y36.2.2.1 y36.2.2.2).bind fun y37=>(qaR (Instr.mk (20:Int) (IntKind.wrap IntKind.i64 (a2+a1)) (IntKind.wrap IntKind.i64 (y36.1+(1:Int))) (0:Int)) [IntKind.wrap IntKind.i64 (a2+a1)] y37.1 y37.2.1 y37.2.2).bind fun y38=>some (y38.2.1,y38.2.2.1,y38.2.2.2) else some ((a2),(a3),(a4)) else bif TAct.kind a0==6 then bif TAct.kind a0==6 then (qaR (Instr.mk (IntKind.wrap IntKind.i64 (IntKind.wrap IntKind.i64 (TAct.kind a0-(5:Int))+(24:Int))) (TAct.obj a0) (0:Int) (0:Int)) [] a2 a3 a4).bind fun y39=>some (y39.2.1,y39.2.2.1,y39.2.2.2) else bif TAct.kind a0==9 then (qaR (Instr.mk (28:Int) (IntKind.wrap IntKind.i64 (a2+a1)) (0:Int) (0:Int)) [IntKind.wrap IntKind.i64 (a2+a1)] a2 a3 a4).bind fun y40=>some (y40.2.1,y40.2.2.1,y40.2.2.2) else bif TAct.kind a0==10 then (qaP rec_qaO (TAct.mk (TAct.kind a0) (TAct.reg a0) (TAct.obj a0) (TExpr.mk (TExpr.kind (TAct.expr a0)) (TExpr.num (TAct.expr a0)) (TExpr.name (TAct.expr a0)) (TExpr.args (TAct.expr a0))) (TAct.count a0) (TAct.then_ a0) (TAct.else_ a0)) a1 (IntKind.wrap IntKind.i64 (a2+a1)) a2 a3 a4).bind fun y41=>some (y41.1,y41.2.1,y41.2.2) else bif TAct.kind a0==11 then bif TAct.count a0==0 then some ((a2),(a3),(a4)) else (qaR (Instr.mk (1:Int) (IntKind.wrap IntKind.i64 (a2+a1)) (TAct.count a0) (0:Int)) [IntKind.wrap IntKind.i64 (a2+a1)] a2 a3 a4).bind fun y42=>(rec_qaO (TAct.then_ a0) (IntKind.wrap IntKind.i64 (a1+(1:Int))) y42.2.1 y42.2.2.1 y42.2.2.2).bind fun y43=>(qaR (Instr.mk (20:Int) (IntKind.wrap IntKind.i64 (a2+a1)) (IntKind.wrap IntKind.i64 (y42.1+(1:Int))) (0:Int)) [IntKind.wrap IntKind.i64 (a2+a1)] y43.1 y43.2.1 y43.2.2).bind fun y44=>some (y44.2.1,y44.2.2.1,y44.2.2.2) else some ((a2),(a3),(a4)) else bif TAct.kind a0==7 then bif TAct.kind a0==7 then (qaR (Instr.mk (IntKind.wrap IntKind.i64 (IntKind.wrap IntKind.i64 (TAct.kind a0-(5:Int))+(24:Int))) (TAct.obj a0) (0:Int) (0:Int)) [] a2 a3 a4).bind fun y45=>some (y45.2.1,y45.2.2.1,y45.2.2.2) else bif TAct.kind a0==9 then (qaR (Instr.mk (28:Int) (IntKind.wrap IntKind.i64 (a2+a1)) (0:Int) (0:Int)) [IntKind.wrap IntKind.i64 (a2+a1)] a2 a3 a4).bind fun y46=>some (y46.2.1,y46.2.2.1,y46.2.2.2) else bif TAct.kind a0==10 then (qaP rec_qaO (TAct.mk (TAct.kind a0) (TAct.reg a0) (TAct.obj a0) (TExpr.mk (TExpr.kind (TAct.expr a0)) (TExpr.num (TAct.expr a0)) (TExpr.name (TAct.expr a0)) (TExpr.args (TAct.expr a0))) (TAct.count a0) (TAct.then_ a0) (TAct.else_ a0)) a1 (IntKind.wrap IntKind.i64 (a2+a1)) a2 a3 a4).bind fun y47=>some (y47.1,y47.2.1,y47.2.2) else bif TAct.kind a0==11 then bif TAct.count a0==0 then some ((a2),(a3),(a4)) else (qaR (Instr.mk (1:Int) (IntKind.wrap IntKind.i64 (a2+a1)) (TAct.count a0) (0:Int)) [IntKind.wrap IntKind.i64 (a2+a1)] a2 a3 a4).bind fun y48=>(rec_qaO (TAct.then_ a0) (IntKind.wrap IntKind.i64 (a1+(1:Int))) y48.2.1 y48.2.2.1 y48.2.2.2).bind fun y49=>(qaR (Instr.mk (20:Int) (IntKind.wrap IntKind.i64 (a2+a1)) (IntKind.wrap IntKind.i64 (y48.1+(1:Int))) (0:Int)) [IntKind.wrap IntKind.i64 (a2+a1)] y49.1 y49.2.1 y49.2.2).bind fun y50=>some (y50.2.1,y50.2.2.1,y50.2.2.2) else some ((a2),(a3),(a4)) else bif TAct.kind a0==8 then (qaR (Instr.mk (IntKind.wrap IntKind.i64 (IntKind.wrap IntKind.i64 (TAct.kind a0-(5:Int))+(24:Int))) (TAct.obj a0) (0:Int) (0:Int)) [] a2 a3 a4).bind fun y51=>some (y51.2.1,y51.2.2.1,y51.2.2.2) else bif TAct.kind a0==9 then (qaR (Instr.mk (28:Int) (IntKind.wrap IntKind.i64 (a2+a1)) (0:Int) (0:Int)) [IntKind.wrap IntKind.i64 (a2+a1)] a2 a3 a4).bind fun y52=>some (y52.2.1,y52.2.2.1,y52.2.2.2) else bif TAct.kind a0==10 then (qaP rec_qaO (TAct.mk (TAct.kind a0) (TAct.reg a0) (TAct.obj a0) (TExpr.mk (TExpr.kind (TAct.expr a0)) (TExpr.num (TAct.expr a0)) (TExpr.name (TAct.expr a0)) (TExpr.args (TAct.expr a0))) (TAct.count a0) (TAct.then_ a0) (TAct.else_ a0)) a1 (IntKind.wrap IntKind.i64 (a2+a1)) a2 a3 a4).bind fun y53=>some (y53.1,y53.2.1,y53.2.2) else bif TAct.kind a0==11 then bif TAct.count a0==0 then some ((a2),(a3),(a4)) else (qaR (Instr.mk (1:Int) (IntKind.wrap IntKind.i64 (a2+a1)) (TAct.count a0) (0:Int)) [IntKind.wrap IntKind.i64 (a2+a1)] a2 a3 a4).bind fun y54=>(rec_qaO (TAct.then_ a0) (IntKind.wrap IntKind.i64 (a1+(1:Int))) y54.2.1 y54.2.2.1 y54.2.2.2).bind fun y55=>(qaR (Instr.mk (20:Int) (IntKind.wrap IntKind.i64 (a2+a1)) (IntKind.wrap IntKind.i64 (y54.1+(1:Int))) (0:Int)) [IntKind.wrap IntKind.i64 (a2+a1)] y55.1 y55.2.1 y55.2.2).bind fun y56=>some (y56.2.1,y56.2.2.1,y56.2.2.2) else some ((a2),(a3),(a4))
def qaN (rec_qaO:qaO_o):=sealF (qaN_f rec_qaO)
abbrev qaO_o1:=Int→List TAct→Int→Int→Int→Int→List Instr→Option (Int×Int×(List Instr))
def qaO_t1 (rec_qaO:qaO_o) (rec:qaO_o1):qaO_o1:=fun a0 a1 a2 a3 a4 a5 a6=>bif decide (a3<a2) then bif decide (0≤a3) then (a1[Int.toNat a3]?).bind fun y0=>(qaN rec_qaO (TAct.mk (TAct.kind y0) (TAct.reg y0) (TAct.obj y0) (TExpr.mk (TExpr.kind (TAct.expr y0)) (TExpr.num (TAct.expr y0)) (TExpr.name (TAct.expr y0)) (TExpr.args (TAct.expr y0))) (TAct.count y0) (TAct.then_ y0) (TAct.else_ y0)) a0 a4 a5 a6).bind fun y1=>rec (a0) (a1) (a2) (IntKind.wrap IntKind.i64 (a3+(1:Int))) y1.1 y1.2.1 y1.2.2 else none else some ((a4),(a5),(a6))
def qaO_i1 (rec_qaO:qaO_o):Nat→qaO_o1
 |0=>fun _ _ _ _ _ _ _=>none
 |n+1=>qaO_t1 rec_qaO (qaO_i1 rec_qaO n)
def qaO_l1 (rec_qaO:qaO_o):=sealF (qaO_i1 rec_qaO fuel)
def qaO_f (rec_qaO:qaO_o):qaO_o:=fun a0 a1 a2 a3 a4=>(qaO_l1 rec_qaO a1 a0 (List.length a0:Int) (0:Int) a2 a3 a4).bind fun y0=>some (y0.1,y0.2.1,y0.2.2)
def qaO_i:Nat→qaO_o
 |0=>fun _ _ _ _ _=>none
 |n+1=>qaO_f (qaO_i n)
def qaO:=sealF (qaO_i fuel)
def qbg_f (a0:List Instr):Option ((List Instr)):=bif decide ((List.length a0:Int)=(List.length a0:Int))&&decide ((List.length a0:Int)=(List.length a0:Int)) then some (a0) else none
def qbg:=sealF (qbg_f)
abbrev qaM_o5:=List TBody→Int→Int→Int→Int→List Int→List ACode→Option (Int×Int×(List Int)×(List ACode))
def qaM_t5 (rec:qaM_o5):qaM_o5:=fun a0 a1 a2 a3 a4 a5 a6=>bif decide (a2<a1) then bif decide (0≤a2) then (a0[Int.toNat a2]?).bind fun y0=>(qaO (TBody.acts y0) (0:Int) (TBody.regs y0) (TBody.regs y0) []).bind fun y1=>(qaR (Instr.mk (29:Int) (0:Int) (0:Int) (0:Int)) [] y1.1 y1.2.1 y1.2.2).bind fun y2=>(qbg y2.2.2.2).bind fun y3=>bif decide ((List.length a6+List.length [ACode.mk y2.2.2.1 y3])*(32:Nat)≤(140737488355328:Nat)∧List.length a6+List.length [ACode.mk y2.2.2.1 y3]≤(9223372036854775807:Nat)) then rec (a0) (a1) (IntKind.wrap IntKind.i64 (a2+(1:Int))) (a3) (a4) (a5) (a6++[ACode.mk y2.2.2.1 y3]) else none else none else some ((a3),(a4),(a5),(a6))
def qaM_i5:Nat→qaM_o5
 |0=>fun _ _ _ _ _ _ _=>none
 |n+1=>qaM_t5 (qaM_i5 n)
def qaM_l5:=sealF (qaM_i5 fuel)
def qaM_f (a0:TUnit):Option (Int×Int×(List Int)×(List ACode)):=(qaw (TUnit.mk (TUnit.cells a0) (TUnit.mutexes a0) (TUnit.threads a0))).bind fun y0=>bif !y0 then some (((0:Int)),((1:Int)),([]),([])) else (qbj (TUnit.cells a0)).bind fun y1=>(qbh y1).bind fun y2=>(qaM_l5 (TUnit.threads a0) (List.length (TUnit.threads a0):Int) (0:Int) (0:Int) (TUnit.mutexes a0) y2 []).bind fun y3=>some (y3.2.1,((0:Int)),y3.2.2.1,y3.2.2.2)
def qaM:=sealF (qaM_f)
def qaS_f (a0:TUnit):Option (Bool):=(qaT).bind fun y0=>(qa4 (TUnit.mk (TUnit.cells a0) (TUnit.mutexes a0) (TUnit.threads a0))).bind fun y1=>(qaM (TUnit.mk (TUnit.cells a0) (TUnit.mutexes a0) (TUnit.threads a0))).bind fun y2=>Option.bind (α:=Bool) ( bif !y0 then some (true) else some (!y1)) fun y3=>bif y3 then Option.bind (α:=Bool) ( bif y0 then some (y2.2.1==1) else some (false)) fun y4=>some (y4) else (qan (Image.mk y2.2.2.1 y2.1 y2.2.2.2)).bind fun y5=>(qal (Image.mk y2.2.2.1 y2.1 y2.2.2.2)).bind fun y6=>(qam y6.1).bind fun y7=>(qa9 (Image.mk y2.2.2.1 y2.1 y2.2.2.2) (Image.mk y7.2.2.1 y7.1 y7.2.2.2)).bind fun y8=>Option.bind (α:=Bool) ( bif y2.2.1==0 then some (y5) else some (false)) fun y9=>Option.bind (α:=Bool) ( bif y9 then some (y6.2==0) else some (false)) fun y10=>Option.bind (α:=Bool) ( bif y10 then some (Fault.code y7.2.1==0) else some (false)) fun y11=>Option.bind (α:=Bool) ( bif y11 then some (y8) else some (false)) fun y12=>some (y12)
def qaS:=sealF (qaS_f)
end
end Lift.Fn
