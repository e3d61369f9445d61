/-
  DERIVED. The functions of this seat as Lean has them; the library's modes. Conditions: none.
-/
import Derived.Test.YtnjaffjkdeelhaaGreatDoorLiftC
import Derived.Test.YtnjaffjkdeelhaaGreatDoorProg
import Derived.KernelRfl
set_option linter.unusedVariables false
set_option linter.unusedSimpArgs false
set_option linter.unusedSectionVars false
namespace Lift.J6
open Go Go.RowKit Go.Proofs Lift
@[reducible] noncomputable def U (n:Nat):Type:=match n with
 |26=>TProg
 |32=>TUnit
 |35=>Names
 |48=>TCell
 |51=>TThread
 |60=>TExpr
 |62=>TStmt
 |65=>TBody
 |67=>TAct
 |75=>Refused
 |103=>Thing
 |111=>Namer
 |130=>Fault
 |134=>Token
 |136=>Shape
 |146=>Spot
 |1026=>TProg
 |1032=>TUnit
 |1035=>Names
 |1051=>TThread
 |1060=>TExpr
 |1062=>TStmt
 |1065=>TBody
 |1067=>TAct
 |1111=>Namer
 |_=>Empty
noncomputable def cells (n:Nat):U n→List (TV U):=match n with
 |26=>fun (x:TProg)=>[⟨.slc (.st 48),x.cells⟩,⟨.slc (.str),x.mutexes⟩,⟨.slc (.st 51),x.threads⟩]
 |32=>fun (x:TUnit)=>[⟨.slc (.int .i64),x.cells⟩,⟨.int .i64,x.mutexes⟩,⟨.slc (.st 65),x.threads⟩]
 |35=>fun (x:Names)=>[⟨.slc (.str),x.cells⟩,⟨.slc (.str),x.mutexes⟩,⟨.slc (.str),x.threads⟩,⟨.slc (.slc (.str)),x.regs⟩]
 |48=>fun (x:TCell)=>[⟨.str,x.name⟩,⟨.int .i64,x.init⟩]
 |51=>fun (x:TThread)=>[⟨.str,x.name⟩,⟨.slc (.st 62),x.body⟩]
 |60=>fun (x:TExpr)=>[⟨.int .i64,x.kind⟩,⟨.int .i64,x.num⟩,⟨.str,x.name⟩,⟨.slc (.st 60),x.args⟩]
 |62=>fun (x:TStmt)=>[⟨.int .i64,x.kind⟩,⟨.str,x.reg⟩,⟨.str,x.name⟩,⟨.int .i64,x.expr.kind⟩,⟨.int .i64,x.expr.num⟩,⟨.str,x.expr.name⟩,⟨.slc (.st 60),x.expr.args⟩,⟨.int .i64,x.count⟩,⟨.slc (.st 62),x.then_⟩,⟨.slc (.st 62),x.else_⟩]
 |65=>fun (x:TBody)=>[⟨.int .i64,x.regs⟩,⟨.slc (.st 67),x.acts⟩]
 |67=>fun (x:TAct)=>[⟨.int .i64,x.kind⟩,⟨.int .i64,x.reg⟩,⟨.int .i64,x.obj⟩,⟨.int .i64,x.expr.kind⟩,⟨.int .i64,x.expr.num⟩,⟨.str,x.expr.name⟩,⟨.slc (.st 60),x.expr.args⟩,⟨.int .i64,x.count⟩,⟨.slc (.st 67),x.then_⟩,⟨.slc (.st 67),x.else_⟩]
 |75=>fun (x:Refused)=>[⟨.int .i64,x.e⟩,⟨.str,x.name⟩]
 |103=>fun (x:Thing)=>[⟨.int .i64,x.kind⟩,⟨.int .i64,x.number⟩]
 |111=>fun (x:Namer)=>[⟨.slc (.str),x.cells⟩,⟨.slc (.str),x.mutexes⟩,⟨.slc (.str),x.threads⟩,⟨.slc (.str),x.regs⟩]
 |130=>fun (x:Fault)=>[⟨.int .i64,x.code⟩,⟨.int .i64,x.at_⟩,⟨.str,x.name⟩]
 |134=>fun (x:Token)=>[⟨.int .i64,x.kind⟩,⟨.str,x.text⟩,⟨.int .i64,x.num⟩,⟨.int .i64,x.at_⟩]
 |136=>fun (x:Shape)=>[⟨.bool,x.reg⟩,⟨.bool,x.name⟩,⟨.bool,x.expr⟩,⟨.bool,x.count⟩,⟨.bool,x.then_⟩,⟨.bool,x.other⟩]
 |146=>fun (x:Spot)=>[⟨.int .i64,x.rune⟩,⟨.int .i64,x.at_⟩,⟨.int .i64,x.line⟩,⟨.int .i64,x.col⟩]
 |1026=>fun (x:TProg)=>[⟨.own 48 (.st 48),x.cells⟩,⟨.own 9 (.str),x.mutexes⟩,⟨.own 51 (.st 1051),x.threads⟩]
 |1032=>fun (x:TUnit)=>[⟨.own 3 (.int .i64),x.cells⟩,⟨.int .i64,x.mutexes⟩,⟨.own 65 (.st 1065),x.threads⟩]
 |1035=>fun (x:Names)=>[⟨.own 9 (.str),x.cells⟩,⟨.own 9 (.str),x.mutexes⟩,⟨.own 9 (.str),x.threads⟩,⟨.own 23 (.own 9 (.str)),x.regs⟩]
 |1051=>fun (x:TThread)=>[⟨.str,x.name⟩,⟨.own 62 (.st 1062),x.body⟩]
 |1060=>fun (x:TExpr)=>[⟨.int .i64,x.kind⟩,⟨.int .i64,x.num⟩,⟨.str,x.name⟩,⟨.own 60 (.st 1060),x.args⟩]
 |1062=>fun (x:TStmt)=>[⟨.int .i64,x.kind⟩,⟨.str,x.reg⟩,⟨.str,x.name⟩,⟨.int .i64,x.expr.kind⟩,⟨.int .i64,x.expr.num⟩,⟨.str,x.expr.name⟩,⟨.own 60 (.st 1060),x.expr.args⟩,⟨.int .i64,x.count⟩,⟨.own 62 (.st 1062),x.then_⟩,⟨.own 62 (.st 1062),x.else_⟩]
 |1065=>fun (x:TBody)=>[⟨.int .i64,x.regs⟩,⟨.own 67 (.st 1067),x.acts⟩]
 |1067=>fun (x:TAct)=>[⟨.int .i64,x.kind⟩,⟨.int .i64,x.reg⟩,⟨.int .i64,x.obj⟩,⟨.int .i64,x.expr.kind⟩,⟨.int .i64,x.expr.num⟩,⟨.str,x.expr.name⟩,⟨.own 60 (.st 1060),x.expr.args⟩,⟨.int .i64,x.count⟩,⟨.own 67 (.st 1067),x.then_⟩,⟨.own 67 (.st 1067),x.else_⟩]
 |1111=>fun (x:Namer)=>[⟨.own 9 (.str),x.cells⟩,⟨.own 9 (.str),x.mutexes⟩,⟨.own 9 (.str),x.threads⟩,⟨.own 9 (.str),x.regs⟩]
 |_=>fun _=>[]
noncomputable def ctys (n:Nat):List Ty:=match n with
 |26=>[.slc (.st 48),.slc (.str),.slc (.st 51)]
 |32=>[.slc (.int .i64),.int .i64,.slc (.st 65)]
 |35=>[.slc (.str),.slc (.str),.slc (.str),.slc (.slc (.str))]
 |48=>[.str,.int .i64]
 |51=>[.str,.slc (.st 62)]
 |60=>[.int .i64,.int .i64,.str,.slc (.st 60)]
 |62=>[.int .i64,.str,.str,.int .i64,.int .i64,.str,.slc (.st 60),.int .i64,.slc (.st 62),.slc (.st 62)]
 |65=>[.int .i64,.slc (.st 67)]
 |67=>[.int .i64,.int .i64,.int .i64,.int .i64,.int .i64,.str,.slc (.st 60),.int .i64,.slc (.st 67),.slc (.st 67)]
 |75=>[.int .i64,.str]
 |103=>[.int .i64,.int .i64]
 |111=>[.slc (.str),.slc (.str),.slc (.str),.slc (.str)]
 |130=>[.int .i64,.int .i64,.str]
 |134=>[.int .i64,.str,.int .i64,.int .i64]
 |136=>[.bool,.bool,.bool,.bool,.bool,.bool]
 |146=>[.int .i64,.int .i64,.int .i64,.int .i64]
 |1026=>[.own 48 (.st 48),.own 9 (.str),.own 51 (.st 1051)]
 |1032=>[.own 3 (.int .i64),.int .i64,.own 65 (.st 1065)]
 |1035=>[.own 9 (.str),.own 9 (.str),.own 9 (.str),.own 23 (.own 9 (.str))]
 |1051=>[.str,.own 62 (.st 1062)]
 |1060=>[.int .i64,.int .i64,.str,.own 60 (.st 1060)]
 |1062=>[.int .i64,.str,.str,.int .i64,.int .i64,.str,.own 60 (.st 1060),.int .i64,.own 62 (.st 1062),.own 62 (.st 1062)]
 |1065=>[.int .i64,.own 67 (.st 1067)]
 |1067=>[.int .i64,.int .i64,.int .i64,.int .i64,.int .i64,.str,.own 60 (.st 1060),.int .i64,.own 67 (.st 1067),.own 67 (.st 1067)]
 |1111=>[.own 9 (.str),.own 9 (.str),.own 9 (.str),.own 9 (.str)]
 |_=>[]
noncomputable def make (n:Nat):List (TV U)→Option (U n):=match n with
 |26=>fun|[⟨.slc (.st 48),v0⟩,⟨.slc (.str),v1⟩,⟨.slc (.st 51),v2⟩]=>some (TProg.mk v0 v1 v2)|_=>none
 |32=>fun|[⟨.slc (.int .i64),v0⟩,⟨.int .i64,v1⟩,⟨.slc (.st 65),v2⟩]=>some (TUnit.mk v0 v1 v2)|_=>none
 |35=>fun|[⟨.slc (.str),v0⟩,⟨.slc (.str),v1⟩,⟨.slc (.str),v2⟩,⟨.slc (.slc (.str)),v3⟩]=>some (Names.mk v0 v1 v2 v3)|_=>none
 |48=>fun|[⟨.str,v0⟩,⟨.int .i64,v1⟩]=>some (TCell.mk v0 v1)|_=>none
 |51=>fun|[⟨.str,v0⟩,⟨.slc (.st 62),v1⟩]=>some (TThread.mk v0 v1)|_=>none
 |60=>fun|[⟨.int .i64,v0⟩,⟨.int .i64,v1⟩,⟨.str,v2⟩,⟨.slc (.st 60),v3⟩]=>some (TExpr.mk v0 v1 v2 v3)|_=>none
 |62=>fun|[⟨.int .i64,v0⟩,⟨.str,v1⟩,⟨.str,v2⟩,⟨.int .i64,v3⟩,⟨.int .i64,v4⟩,⟨.str,v5⟩,⟨.slc (.st 60),v6⟩,⟨.int .i64,v7⟩,⟨.slc (.st 62),v8⟩,⟨.slc (.st 62),v9⟩]=>some (TStmt.mk v0 v1 v2 (TExpr.mk v3 v4 v5 v6) v7 v8 v9)|_=>none
 |65=>fun|[⟨.int .i64,v0⟩,⟨.slc (.st 67),v1⟩]=>some (TBody.mk v0 v1)|_=>none
 |67=>fun|[⟨.int .i64,v0⟩,⟨.int .i64,v1⟩,⟨.int .i64,v2⟩,⟨.int .i64,v3⟩,⟨.int .i64,v4⟩,⟨.str,v5⟩,⟨.slc (.st 60),v6⟩,⟨.int .i64,v7⟩,⟨.slc (.st 67),v8⟩,⟨.slc (.st 67),v9⟩]=>some (TAct.mk v0 v1 v2 (TExpr.mk v3 v4 v5 v6) v7 v8 v9)|_=>none
 |75=>fun|[⟨.int .i64,v0⟩,⟨.str,v1⟩]=>some (Refused.mk v0 v1)|_=>none
 |103=>fun|[⟨.int .i64,v0⟩,⟨.int .i64,v1⟩]=>some (Thing.mk v0 v1)|_=>none
 |111=>fun|[⟨.slc (.str),v0⟩,⟨.slc (.str),v1⟩,⟨.slc (.str),v2⟩,⟨.slc (.str),v3⟩]=>some (Namer.mk v0 v1 v2 v3)|_=>none
 |130=>fun|[⟨.int .i64,v0⟩,⟨.int .i64,v1⟩,⟨.str,v2⟩]=>some (Fault.mk v0 v1 v2)|_=>none
 |134=>fun|[⟨.int .i64,v0⟩,⟨.str,v1⟩,⟨.int .i64,v2⟩,⟨.int .i64,v3⟩]=>some (Token.mk v0 v1 v2 v3)|_=>none
 |136=>fun|[⟨.bool,v0⟩,⟨.bool,v1⟩,⟨.bool,v2⟩,⟨.bool,v3⟩,⟨.bool,v4⟩,⟨.bool,v5⟩]=>some (Shape.mk v0 v1 v2 v3 v4 v5)|_=>none
 |146=>fun|[⟨.int .i64,v0⟩,⟨.int .i64,v1⟩,⟨.int .i64,v2⟩,⟨.int .i64,v3⟩]=>some (Spot.mk v0 v1 v2 v3)|_=>none
 |1026=>fun|[⟨.own 48 (.st 48),v0⟩,⟨.own 9 (.str),v1⟩,⟨.own 51 (.st 1051),v2⟩]=>some (TProg.mk v0 v1 v2)|_=>none
 |1032=>fun|[⟨.own 3 (.int .i64),v0⟩,⟨.int .i64,v1⟩,⟨.own 65 (.st 1065),v2⟩]=>some (TUnit.mk v0 v1 v2)|_=>none
 |1035=>fun|[⟨.own 9 (.str),v0⟩,⟨.own 9 (.str),v1⟩,⟨.own 9 (.str),v2⟩,⟨.own 23 (.own 9 (.str)),v3⟩]=>some (Names.mk v0 v1 v2 v3)|_=>none
 |1051=>fun|[⟨.str,v0⟩,⟨.own 62 (.st 1062),v1⟩]=>some (TThread.mk v0 v1)|_=>none
 |1060=>fun|[⟨.int .i64,v0⟩,⟨.int .i64,v1⟩,⟨.str,v2⟩,⟨.own 60 (.st 1060),v3⟩]=>some (TExpr.mk v0 v1 v2 v3)|_=>none
 |1062=>fun|[⟨.int .i64,v0⟩,⟨.str,v1⟩,⟨.str,v2⟩,⟨.int .i64,v3⟩,⟨.int .i64,v4⟩,⟨.str,v5⟩,⟨.own 60 (.st 1060),v6⟩,⟨.int .i64,v7⟩,⟨.own 62 (.st 1062),v8⟩,⟨.own 62 (.st 1062),v9⟩]=>some (TStmt.mk v0 v1 v2 (TExpr.mk v3 v4 v5 v6) v7 v8 v9)|_=>none
 |1065=>fun|[⟨.int .i64,v0⟩,⟨.own 67 (.st 1067),v1⟩]=>some (TBody.mk v0 v1)|_=>none
 |1067=>fun|[⟨.int .i64,v0⟩,⟨.int .i64,v1⟩,⟨.int .i64,v2⟩,⟨.int .i64,v3⟩,⟨.int .i64,v4⟩,⟨.str,v5⟩,⟨.own 60 (.st 1060),v6⟩,⟨.int .i64,v7⟩,⟨.own 67 (.st 1067),v8⟩,⟨.own 67 (.st 1067),v9⟩]=>some (TAct.mk v0 v1 v2 (TExpr.mk v3 v4 v5 v6) v7 v8 v9)|_=>none
 |1111=>fun|[⟨.own 9 (.str),v0⟩,⟨.own 9 (.str),v1⟩,⟨.own 9 (.str),v2⟩,⟨.own 9 (.str),v3⟩]=>some (Namer.mk v0 v1 v2 v3)|_=>none
 |_=>fun _=>none
def pn (n:Nat):Nat:=match n with
 |1026=>26
 |1032=>32
 |1035=>35
 |1051=>51
 |1060=>60
 |1062=>62
 |1065=>65
 |1067=>67
 |1111=>111
 |n=>n
def closed (n:Nat):Bool:=match n with
 |1026=>true
 |1032=>true
 |1051=>true
 |1060=>true
 |1062=>true
 |1065=>true
 |1067=>true
 |1111=>true
 |48=>true
 |75=>true
 |103=>true
 |130=>true
 |134=>true
 |136=>true
 |146=>true
 |_=>false
def ids:List Nat:=[26,32,35,48,51,60,62,65,67,75,103,111,130,134,136,146,1026,1032,1035,1051,1060,1062,1065,1067,1111]
theorem zafm {n:Nat} (h:n∉ids):(∀ x,cells n x=[])∧ctys n=[]∧pn n=n∧closed n=false:=by
 refine ⟨?_,?_,?_,?_⟩
 ·intro x; unfold cells; split<;>first|rfl|exact absurd (by decide) h
 ·unfold ctys; split<;>first|rfl|exact absurd (by decide) h
 ·unfold pn; split<;>first|rfl|exact absurd (by decide) h
 ·unfold closed; split<;>first|rfl|exact absurd (by decide) h
theorem zaml {P:Nat→Prop} (h1:∀ n∈ids,P n) (h2:∀ n,n∉ids→P n) (n:Nat):P n:=by
 by_cases h:n∈ids
 ·exact h1 n h
 ·exact h2 n h
theorem pd:∀ n,U (pn n)=U n:=zaml (by unfold ids; simp only[List.forall_mem_cons]; exact ⟨rfl,rfl,rfl,rfl,rfl,rfl,rfl,rfl,rfl,rfl,rfl,rfl,rfl,rfl,rfl,rfl,rfl,rfl,rfl,rfl,rfl,rfl,rfl,rfl,rfl,fun n h=>by cases h⟩) (fun n h=>by rw[(zafm h).2.2.1])
theorem pc : ∀ n (x : U n), cells (pn n) (cast (pd n).symm x) = (cells n x).map (TV.plain pd) := zaml (by unfold ids; simp only [List.forall_mem_cons]; exact ⟨fun _ => rfl, fun _ => rfl, fun _ => rfl, fun _ => rfl, fun _ => rfl, fun _ => rfl, fun _ => rfl, fun _ => rfl, fun _ => rfl, fun _ => rfl, fun _ => rfl, fun _ => rfl, fun _ => rfl, fun _ => rfl, fun _ => rfl, fun _ => rfl, fun _ => rfl, fun _ => rfl, fun _ => rfl, fun _ => rfl, fun _ => rfl, fun _ => rfl, fun _ => rfl, fun _ => rfl, fun _ => rfl, fun n h => by cases h⟩)
 (fun n h x=>by rw[(zafm h).1 x]; exact (zafm (n:=pn n) (by rw[(zafm h).2.2.1]; exact h)).1 _)
theorem pt : ∀ n, ctys (pn n) = (ctys n).map (Ty.plain pn) := zaml (by unfold ids; simp only [List.forall_mem_cons]; exact ⟨rfl, rfl, rfl, rfl, rfl, rfl, rfl, rfl, rfl, rfl, rfl, rfl, rfl, rfl, rfl, rfl, rfl, rfl, rfl, rfl, rfl, rfl, rfl, rfl, rfl, fun n h => by cases h⟩)
 (fun n h=>by rw[(zafm h).2.2.1,(zafm h).2.1]; rfl)
theorem closed_ok:∀ n,closed n=true→∀ t∈ctys n,(match t with
  |.int _=>true|.bool=>true|.str=>true|.err=>true|.fn=>true
  |.own _ (.st m)=>closed m
  |.own _ e=>match e with|.int _=>true|.bool=>true|.str=>true|_=>false
  |_=>false)=true:=zaml (by unfold ids; simp only[List.forall_mem_cons]; exact ⟨fun h=>(by cases h),fun h=>(by cases h),fun h=>(by cases h),fun _=>List.all_eq_true.1 (by rfl),fun h=>(by cases h),fun h=>(by cases h),fun h=>(by cases h),fun h=>(by cases h),fun h=>(by cases h),fun _=>List.all_eq_true.1 (by rfl),fun _=>List.all_eq_true.1 (by rfl),fun h=>(by cases h),fun _=>List.all_eq_true.1 (by rfl),fun _=>List.all_eq_true.1 (by rfl),fun _=>List.all_eq_true.1 (by rfl),fun _=>List.all_eq_true.1 (by rfl),fun _=>List.all_eq_true.1 (by rfl),fun _=>List.all_eq_true.1 (by rfl),fun h=>(by cases h),fun _=>List.all_eq_true.1 (by rfl),fun _=>List.all_eq_true.1 (by rfl),fun _=>List.all_eq_true.1 (by rfl),fun _=>List.all_eq_true.1 (by rfl),fun _=>List.all_eq_true.1 (by rfl),fun _=>List.all_eq_true.1 (by rfl),fun n h=>by cases h⟩)
 (fun n h hc=>by rw[(zafm h).2.2.2] at hc; cases hc)
@[reducible] noncomputable def uni:Uni where
 U:=U
 cells:=cells
 ctys:=ctys
 make:=make
 make_ok:=by
  intro n cs x h;unfold make at h;split at h
  ·dsimp only at h;split at h
   ·cases h; rfl
   ·cases h
  ·dsimp only at h;split at h
   ·cases h; rfl
   ·cases h
  ·dsimp only at h;split at h
   ·cases h; rfl
   ·cases h
  ·dsimp only at h;split at h
   ·cases h; rfl
   ·cases h
  ·dsimp only at h;split at h
   ·cases h; rfl
   ·cases h
  ·dsimp only at h;split at h
   ·cases h; rfl
   ·cases h
  ·dsimp only at h;split at h
   ·cases h; rfl
   ·cases h
  ·dsimp only at h;split at h
   ·cases h; rfl
   ·cases h
  ·dsimp only at h;split at h
   ·cases h; rfl
   ·cases h
  ·dsimp only at h;split at h
   ·cases h; rfl
   ·cases h
  ·dsimp only at h;split at h
   ·cases h; rfl
   ·cases h
  ·dsimp only at h;split at h
   ·cases h; rfl
   ·cases h
  ·dsimp only at h;split at h
   ·cases h; rfl
   ·cases h
  ·dsimp only at h;split at h
   ·cases h; rfl
   ·cases h
  ·dsimp only at h;split at h
   ·cases h; rfl
   ·cases h
  ·dsimp only at h;split at h
   ·cases h; rfl
   ·cases h
  ·dsimp only at h;split at h
   ·cases h; rfl
   ·cases h
  ·dsimp only at h;split at h
   ·cases h; rfl
   ·cases h
  ·dsimp only at h;split at h
   ·cases h; rfl
   ·cases h
  ·dsimp only at h;split at h
   ·cases h; rfl
   ·cases h
  ·dsimp only at h;split at h
   ·cases h; rfl
   ·cases h
  ·dsimp only at h;split at h
   ·cases h; rfl
   ·cases h
  ·dsimp only at h;split at h
   ·cases h; rfl
   ·cases h
  ·dsimp only at h;split at h
   ·cases h; rfl
   ·cases h
  ·dsimp only at h;split at h
   ·cases h; rfl
   ·cases h
  ·cases h
 tys_ok:=by
  intro n x;unfold cells ctys;split<;>rfl
 pn:=pn
 pd:=pd
 pc:=pc
 pt:=pt
 closed:=closed
 closed_ok:=closed_ok
 flat_ok:=by
  intro n t h;have:∀ n,(ctys n).all Ty.flat=true:=by
   intro n;unfold ctys;split<;>rfl
  exact List.all_eq_true.1 (this n) t h
noncomputable def tyOf:TypeId→Option Ty
 |1=>some (.fn)
 |2=>some (.int .i64)
 |3=>some (.int .i64)
 |4=>some (.bool)
 |5=>some (.int .u8)
 |6=>some (.int .u8)
 |9=>some (.str)
 |10=>some (.str)
 |11=>some (.str)
 |12=>some (.int .u64)
 |21=>some (.int .i32)
 |22=>some (.slc (.st 48))
 |23=>some (.slc (.str))
 |24=>some (.slc (.st 51))
 |26=>some (.st 26)
 |27=>some (.fn)
 |28=>some (.fn)
 |29=>some (.slc (.int .i64))
 |30=>some (.slc (.st 65))
 |32=>some (.st 32)
 |33=>some (.slc (.slc (.str)))
 |35=>some (.st 35)
 |36=>some (.int .i64)
 |38=>some (.fn)
 |39=>some (.fn)
 |40=>some (.fn)
 |41=>some (.fn)
 |42=>some (.fn)
 |43=>some (.fn)
 |44=>some (.fn)
 |45=>some (.fn)
 |46=>some (.fn)
 |48=>some (.st 48)
 |49=>some (.slc (.st 62))
 |51=>some (.st 51)
 |52=>some (.fn)
 |53=>some (.fn)
 |54=>some (.fn)
 |56=>some (.fn)
 |57=>some (.fn)
 |58=>some (.slc (.st 60))
 |60=>some (.st 60)
 |62=>some (.st 62)
 |63=>some (.slc (.st 67))
 |65=>some (.st 65)
 |67=>some (.st 67)
 |68=>some (.fn)
 |72=>some (.fn)
 |73=>some (.fn)
 |75=>some (.st 75)
 |77=>some (.fn)
 |79=>some (.map (.str) (.st 103))
 |82=>some (.fn)
 |83=>some (.fn)
 |84=>some (.fn)
 |85=>some (.fn)
 |86=>some (.fn)
 |87=>some (.fn)
 |88=>some (.fn)
 |89=>some (.fn)
 |90=>some (.fn)
 |91=>some (.fn)
 |92=>some (.fn)
 |93=>some (.fn)
 |94=>some (.fn)
 |95=>some (.fn)
 |96=>some (.fn)
 |98=>some (.fn)
 |99=>some (.fn)
 |100=>some (.fn)
 |101=>some (.fn)
 |103=>some (.st 103)
 |105=>some (.fn)
 |106=>some (.fn)
 |107=>some (.fn)
 |108=>some (.fn)
 |109=>some (.fn)
 |111=>some (.st 111)
 |112=>some (.fn)
 |113=>some (.fn)
 |114=>some (.fn)
 |115=>some (.fn)
 |116=>some (.fn)
 |117=>some (.fn)
 |118=>some (.fn)
 |119=>some (.fn)
 |120=>some (.fn)
 |123=>some (.fn)
 |124=>some (.fn)
 |125=>some (.fn)
 |126=>some (.fn)
 |127=>some (.fn)
 |128=>some (.slc (.st 134))
 |130=>some (.st 130)
 |132=>some (.fn)
 |134=>some (.st 134)
 |136=>some (.st 136)
 |138=>some (.map (.int .i64) (.st 136))
 |139=>some (.fn)
 |140=>some (.fn)
 |141=>some (.fn)
 |142=>some (.slc (.st 146))
 |144=>some (.fn)
 |146=>some (.st 146)
 |148=>some (.fn)
 |150=>some (.fn)
 |152=>some (.fn)
 |153=>some (.fn)
 |154=>some (.fn)
 |155=>some (.fn)
 |157=>some (.fn)
 |158=>some (.fn)
 |160=>some (.fn)
 |161=>some (.fn)
 |162=>some (.fn)
 |164=>some (.fn)
 |165=>some (.fn)
 |166=>some (.fn)
 |167=>some (.fn)
 |168=>some (.fn)
 |170=>some (.err)
 |172=>some (.fn)
 |174=>some (.int .u64)
 |178=>some (.fn)
 |179=>some (.fn)
 |183=>some (.fn)
 |184=>some (.fn)
 |186=>some (.fn)
 |187=>some (.fn)
 |188=>some (.fn)
 |189=>some (.int .i64)
 |190=>some (.slc (.int .u8))
 |192=>some (.fn)
 |194=>some (.fn)
 |195=>some (.fn)
 |196=>some (.fn)
 |197=>some (.fn)
 |198=>some (.int .u64)
 |200=>some (.fn)
 |203=>some (.fn)
 |204=>some (.fn)
 |205=>some (.int .u32)
 |207=>some (.fn)
 |208=>some (.fn)
 |213=>some (.fn)
 |215=>some (.fn)
 |216=>some (.fn)
 |218=>some (.fn)
 |219=>some (.fn)
 |222=>some (.fn)
 |223=>some (.fn)
 |226=>some (.fn)
 |232=>some (.fn)
 |233=>some (.int .u8)
 |234=>some (.int .u8)
 |235=>some (.fn)
 |236=>some (.int .i32)
 |237=>some (.int .i32)
 |_=>none
noncomputable def eqOf (T:TypeId) (n:Nat):Option (U n→U n→Bool):=match n with
 |48=>bif Nat.beq T 48 then some fun (a b:TCell)=>decide (a=b) else none
 |75=>bif Nat.beq T 75 then some fun (a b:Refused)=>decide (a=b) else none
 |103=>bif Nat.beq T 103 then some fun (a b:Thing)=>decide (a=b) else none
 |130=>bif Nat.beq T 130 then some fun (a b:Fault)=>decide (a=b) else none
 |134=>bif Nat.beq T 134 then some fun (a b:Token)=>decide (a=b) else none
 |136=>bif Nat.beq T 136 then some fun (a b:Shape)=>decide (a=b) else none
 |146=>bif Nat.beq T 146 then some fun (a b:Spot)=>decide (a=b) else none
 |_=>none
noncomputable def deepOf:TypeId→Option Ty
 |22=>some (.own 48 (.st 48))
 |23=>some (.own 9 (.str))
 |24=>some (.own 51 (.st 1051))
 |26=>some (.st 1026)
 |29=>some (.own 3 (.int .i64))
 |30=>some (.own 65 (.st 1065))
 |32=>some (.st 1032)
 |33=>some (.own 23 (.own 9 (.str)))
 |35=>some (.st 1035)
 |49=>some (.own 62 (.st 1062))
 |51=>some (.st 1051)
 |58=>some (.own 60 (.st 1060))
 |60=>some (.st 1060)
 |62=>some (.st 1062)
 |63=>some (.own 67 (.st 1067))
 |65=>some (.st 1065)
 |67=>some (.st 1067)
 |111=>some (.st 1111)
 |128=>some (.own 134 (.st 134))
 |142=>some (.own 146 (.st 146))
 |190=>some (.own 5 (.int .u8))
 |_=>none
@[reducible] noncomputable def kk:Kit:={ P:=Tryz.prog,u:=uni,tyOf,eqOf,modes:=fun _=>[],deepOf }
theorem eqOk:EqOk kk:=by
 refine zatl fun T n f h=>?_
 change eqOf T n=some f at h
 change zagc Tryz.prog T (ctys n)=true∧∀ a b:U n,f a b=zabn (cells n a) (cells n b)
 unfold eqOf at h;split at h
 ·cases hb:Nat.beq T 48 with
  |true=>
   rw[hb] at h;cases Nat.eq_of_beq_eq_true hb;cases h;refine ⟨by kernel_rfl,?_⟩;rintro ⟨a0,a1⟩ ⟨b0,b1⟩
   simp[cells,zabn,zacx,cond_eq_ite,Bool.decide_and]
  |false=>rw[hb] at h; cases h
 ·cases hb:Nat.beq T 75 with
  |true=>
   rw[hb] at h;cases Nat.eq_of_beq_eq_true hb;cases h;refine ⟨by kernel_rfl,?_⟩;rintro ⟨a0,a1⟩ ⟨b0,b1⟩
   simp[cells,zabn,zacx,cond_eq_ite,Bool.decide_and]
  |false=>rw[hb] at h; cases h
 ·cases hb:Nat.beq T 103 with
  |true=>
   rw[hb] at h;cases Nat.eq_of_beq_eq_true hb;cases h;refine ⟨by kernel_rfl,?_⟩;rintro ⟨a0,a1⟩ ⟨b0,b1⟩
   simp[cells,zabn,zacx,cond_eq_ite,Bool.decide_and]
  |false=>rw[hb] at h; cases h
 ·cases hb:Nat.beq T 130 with
  |true=>
   rw[hb] at h;cases Nat.eq_of_beq_eq_true hb;cases h;refine ⟨by kernel_rfl,?_⟩;rintro ⟨a0,a1,a2⟩ ⟨b0,b1,b2⟩
   simp[cells,zabn,zacx,cond_eq_ite,Bool.decide_and]
  |false=>rw[hb] at h; cases h
 ·cases hb:Nat.beq T 134 with
  |true=>
   rw[hb] at h;cases Nat.eq_of_beq_eq_true hb;cases h;refine ⟨by kernel_rfl,?_⟩;rintro ⟨a0,a1,a2,a3⟩ ⟨b0,b1,b2,b3⟩
   simp[cells,zabn,zacx,cond_eq_ite,Bool.decide_and]
  |false=>rw[hb] at h; cases h
 ·cases hb:Nat.beq T 136 with
  |true=>
   rw[hb] at h;cases Nat.eq_of_beq_eq_true hb;cases h;refine ⟨by kernel_rfl,?_⟩;rintro ⟨a0,a1,a2,a3,a4,a5⟩ ⟨b0,b1,b2,b3,b4,b5⟩
   simp[cells,zabn,zacx,cond_eq_ite,Bool.decide_and]
  |false=>rw[hb] at h; cases h
 ·cases hb:Nat.beq T 146 with
  |true=>
   rw[hb] at h;cases Nat.eq_of_beq_eq_true hb;cases h;refine ⟨by kernel_rfl,?_⟩;rintro ⟨a0,a1,a2,a3⟩ ⟨b0,b1,b2,b3⟩
   simp[cells,zabn,zacx,cond_eq_ite,Bool.decide_and]
  |false=>rw[hb] at h; cases h
 ·cases h
theorem mixed:kk.P.follows .mixedOrders=true:=by kernel_rfl
end Lift.J6
namespace Lift.J6
open Go Go.RowKit Go.Proofs Lift Lift.Fn
noncomputable def strings_Contains_md:Mode U:=⟨⟨⟨[0,1],[],[]⟩,[.t (.str),.t (.str)],[]⟩,[],[⟨⟨[0],[],[]⟩,[.t (.bool)],[]⟩],fun ls=>match ls with|[⟨.str,a0⟩,⟨.str,a1⟩]=>.get (strings_Contains a0 a1) (fun r=>.ret (0,[⟨.bool,r⟩]))|_=>.fail⟩
noncomputable def unicode_utf8_DecodeRuneInString_md:Mode U:=⟨⟨⟨[0],[],[]⟩,[.t (.str)],[]⟩,[],[⟨⟨[0,1],[],[]⟩,[.t (.int .i32),.t (.int .i64)],[]⟩],fun ls=>match ls with|[⟨.str,a0⟩]=>.get (zaa1 a0) (fun r=>.ret (0,[⟨.int .i32,r.1⟩,⟨.int .i64,r.2⟩]))|_=>.fail⟩
noncomputable def unicode_utf8_RuneCountInString_md:Mode U:=⟨⟨⟨[0],[],[]⟩,[.t (.str)],[]⟩,[],[⟨⟨[0],[],[]⟩,[.t (.int .i64)],[]⟩],fun ls=>match ls with|[⟨.str,a0⟩]=>.get (zaa3 a0) (fun r=>.ret (0,[⟨.int .i64,r⟩]))|_=>.fail⟩
noncomputable def strings_Trim_md:Mode U:=⟨⟨⟨[0,1],[],[]⟩,[.t (.str),.t (.str)],[]⟩,[],[⟨⟨[0],[],[]⟩,[.t (.str)],[]⟩],fun ls=>match ls with|[⟨.str,a0⟩,⟨.str,a1⟩]=>.get (zac1 a0 a1) (fun r=>.ret (0,[⟨.str,r⟩]))|_=>.fail⟩
noncomputable def strconv_Atoi_md:Mode U:=⟨⟨⟨[0],[],[]⟩,[.t (.str)],[]⟩,[],[⟨⟨[0,1],[],[]⟩,[.t (.int .i64),.t (.err)],[]⟩],fun ls=>match ls with|[⟨.str,a0⟩]=>.get (zacz a0) (fun r=>.ret (0,[⟨.int .i64,r.1⟩,⟨.err,r.2⟩]))|_=>.fail⟩
noncomputable def ms0:List (FuncId×Mode U):=[]
noncomputable def ms1:List (FuncId×Mode U):=(132,strings_Contains_md)::ms0
noncomputable def ms2:List (FuncId×Mode U):=(116,unicode_utf8_DecodeRuneInString_md)::ms1
noncomputable def ms3:List (FuncId×Mode U):=(124,unicode_utf8_RuneCountInString_md)::ms2
noncomputable def ms4:List (FuncId×Mode U):=(133,strings_Trim_md)::ms3
noncomputable def ms5:List (FuncId×Mode U):=(134,strconv_Atoi_md)::ms4
end Lift.J6
namespace Go.Proofs
open Go.Shelf Go.RowKit
def Tryz.laysContains_ren:Go.Shelf.Ren:=⟨fun|144=>132|143=>137|219=>148|217=>157|225=>158|224=>159|267=>160|266=>167|314=>168|n=>n,fun|9=>9|4=>4|3=>3|5=>5|46=>174|146=>206|51=>205|n=>n,fun|1=>2|n=>n⟩
theorem Tryz.laysContains:Go.Proofs.LaysM.n144 Tryz.prog Tryz.laysContains_ren where
 mixed:=by kernel_rfl
 f143:=Tryz.func137.trans (congrArg some (by kernel_rfl))
 f144:=Tryz.func132.trans (congrArg some (by kernel_rfl))
 f217:=Tryz.func157.trans (congrArg some (by kernel_rfl))
 f219:=Tryz.func148.trans (congrArg some (by kernel_rfl))
 f224:=Tryz.func159.trans (congrArg some (by kernel_rfl))
 f225:=Tryz.func158.trans (congrArg some (by kernel_rfl))
 f266:=Tryz.func167.trans (congrArg some (by kernel_rfl))
 f267:=Tryz.func160.trans (congrArg some (by kernel_rfl))
 f314:=Tryz.func168.trans (congrArg some (by kernel_rfl))
 t3:=Tryz.underlying3
 a3:=Tryz.isAgg3
 z3:=Tryz.sizeOf3
 v3:=Tryz.zeroValue3
 t4:=Tryz.underlying4
 a4:=Tryz.isAgg4
 z4:=Tryz.sizeOf4
 v4:=Tryz.zeroValue4
 t5:=Tryz.underlying5
 a5:=Tryz.isAgg5
 z5:=Tryz.sizeOf5
 v5:=Tryz.zeroValue5
 t9:=Tryz.underlying9
 a9:=Tryz.isAgg9
 z9:=Tryz.sizeOf9
 v9:=Tryz.zeroValue9
 t46:=Tryz.underlying174
 a46:=Tryz.isAgg174
 z46:=Tryz.sizeOf174
 v46:=Tryz.zeroValue174
 t51:=Tryz.underlying205
 a51:=Tryz.isAgg205
 z51:=Tryz.sizeOf205
 v51:=Tryz.zeroValue205
 t146:=Tryz.underlying206
 a146:=Tryz.isAgg206
 z146:=Tryz.sizeOf206
 v146:=Tryz.zeroValue206
 g1:=by kernel_rfl
 i3:=by kernel_rfl
 i4:=by kernel_rfl
 i5:=by kernel_rfl
 i9:=by kernel_rfl
 i46:=by kernel_rfl
 i51:=by kernel_rfl
 i146:=by kernel_rfl
 m1:=by kernel_rfl
 s1_3:=fun w h=>Go.Proofs.cell_of_shapedOpen_int (zero:=#[.int .i64 0]) (t:=3) h (of_decide_eq_true (by kernel_rfl)) (by kernel_rfl) rfl (by kernel_rfl) (by kernel_rfl) Tryz.underlying3
def Tryz.laysDecode_ren:Go.Shelf.Ren:=⟨fun|197=>116|260=>130|n=>n,fun|9=>9|21=>21|3=>3|4=>4|5=>5|105=>159|119=>173|0=>0|46=>174|139=>177|138=>176|n=>n,fun|3=>0|4=>1|n=>n⟩
theorem Tryz.laysDecode:Go.Proofs.Lays.n197 Tryz.prog Tryz.laysDecode_ren where
 mixed:=by kernel_rfl
 f197:=Tryz.func116.trans (congrArg some (by kernel_rfl))
 f260:=Tryz.func130.trans (congrArg some (by kernel_rfl))
 t0:=Tryz.underlying0
 a0:=Tryz.isAgg0
 z0:=Tryz.sizeOf0
 v0:=Tryz.zeroValue0
 t3:=Tryz.underlying3
 a3:=Tryz.isAgg3
 z3:=Tryz.sizeOf3
 v3:=Tryz.zeroValue3
 t4:=Tryz.underlying4
 a4:=Tryz.isAgg4
 z4:=Tryz.sizeOf4
 v4:=Tryz.zeroValue4
 t5:=Tryz.underlying5
 a5:=Tryz.isAgg5
 z5:=Tryz.sizeOf5
 v5:=Tryz.zeroValue5
 t9:=Tryz.underlying9
 a9:=Tryz.isAgg9
 z9:=Tryz.sizeOf9
 v9:=Tryz.zeroValue9
 t21:=Tryz.underlying21
 a21:=Tryz.isAgg21
 z21:=Tryz.sizeOf21
 v21:=Tryz.zeroValue21
 t46:=Tryz.underlying174
 a46:=Tryz.isAgg174
 z46:=Tryz.sizeOf174
 v46:=Tryz.zeroValue174
 t105:=Tryz.underlying159
 a105:=Tryz.isAgg159
 z105:=Tryz.sizeOf159
 v105:=Tryz.zeroValue159
 t119:=Tryz.underlying173
 a119:=Tryz.isAgg173
 z119:=Tryz.sizeOf173
 t138:=Tryz.underlying176
 a138:=Tryz.isAgg176
 z138:=Tryz.sizeOf176
 v138:=Tryz.zeroValue176
 t139:=Tryz.underlying177
 a139:=Tryz.isAgg177
 z139:=Tryz.sizeOf177
 v139:=Tryz.zeroValue177
 g3:=by kernel_rfl
 g4:=by kernel_rfl
def Tryz.laysCount_ren:Go.Shelf.Ren:=⟨fun|195=>124|n=>n,fun|9=>9|3=>3|0=>0|4=>4|n=>n,fun|n=>n⟩
theorem Tryz.laysCount:Go.Proofs.Lays.n195 Tryz.prog Tryz.laysCount_ren where
 mixed:=by kernel_rfl
 f195:=Tryz.func124.trans (congrArg some (by kernel_rfl))
 t0:=Tryz.underlying0
 a0:=Tryz.isAgg0
 z0:=Tryz.sizeOf0
 v0:=Tryz.zeroValue0
 t3:=Tryz.underlying3
 a3:=Tryz.isAgg3
 z3:=Tryz.sizeOf3
 v3:=Tryz.zeroValue3
 t4:=Tryz.underlying4
 a4:=Tryz.isAgg4
 z4:=Tryz.sizeOf4
 v4:=Tryz.zeroValue4
 t9:=Tryz.underlying9
 a9:=Tryz.isAgg9
 z9:=Tryz.sizeOf9
 v9:=Tryz.zeroValue9
def Tryz.laysTrim_ren:Go.Shelf.Ren:=⟨fun|160=>133|232=>139|231=>138|227=>140|234=>142|233=>141|236=>144|235=>143|228=>149|271=>151|151=>150|197=>116|120=>162|152=>161|260=>130|137=>169|119=>147|224=>159|225=>158|217=>157|266=>167|n=>n,fun|9=>9|4=>4|3=>3|5=>5|117=>182|116=>181|0=>0|124=>185|21=>21|105=>159|46=>174|119=>173|139=>177|138=>176|n=>n,fun|3=>0|4=>1|n=>n⟩
theorem Tryz.laysTrim:Go.Proofs.Lays.n160 Tryz.prog Tryz.laysTrim_ren where
 mixed:=by kernel_rfl
 f119:=Tryz.func147.trans (congrArg some (by kernel_rfl))
 f120:=Tryz.func162.trans (congrArg some (by kernel_rfl))
 f137:=Tryz.func169.trans (congrArg some (by kernel_rfl))
 f151:=Tryz.func150.trans (congrArg some (by kernel_rfl))
 f152:=Tryz.func161.trans (congrArg some (by kernel_rfl))
 f160:=Tryz.func133.trans (congrArg some (by kernel_rfl))
 f197:=Tryz.func116.trans (congrArg some (by kernel_rfl))
 f217:=Tryz.func157.trans (congrArg some (by kernel_rfl))
 f224:=Tryz.func159.trans (congrArg some (by kernel_rfl))
 f225:=Tryz.func158.trans (congrArg some (by kernel_rfl))
 f227:=Tryz.func140.trans (congrArg some (by kernel_rfl))
 f228:=Tryz.func149.trans (congrArg some (by kernel_rfl))
 f231:=Tryz.func138.trans (congrArg some (by kernel_rfl))
 f232:=Tryz.func139.trans (congrArg some (by kernel_rfl))
 f233:=Tryz.func141.trans (congrArg some (by kernel_rfl))
 f234:=Tryz.func142.trans (congrArg some (by kernel_rfl))
 f235:=Tryz.func143.trans (congrArg some (by kernel_rfl))
 f236:=Tryz.func144.trans (congrArg some (by kernel_rfl))
 f260:=Tryz.func130.trans (congrArg some (by kernel_rfl))
 f266:=Tryz.func167.trans (congrArg some (by kernel_rfl))
 f271:=Tryz.func151.trans (congrArg some (by kernel_rfl))
 t0:=Tryz.underlying0
 a0:=Tryz.isAgg0
 z0:=Tryz.sizeOf0
 v0:=Tryz.zeroValue0
 t3:=Tryz.underlying3
 a3:=Tryz.isAgg3
 z3:=Tryz.sizeOf3
 v3:=Tryz.zeroValue3
 t4:=Tryz.underlying4
 a4:=Tryz.isAgg4
 z4:=Tryz.sizeOf4
 v4:=Tryz.zeroValue4
 t5:=Tryz.underlying5
 a5:=Tryz.isAgg5
 z5:=Tryz.sizeOf5
 v5:=Tryz.zeroValue5
 t9:=Tryz.underlying9
 a9:=Tryz.isAgg9
 z9:=Tryz.sizeOf9
 v9:=Tryz.zeroValue9
 t21:=Tryz.underlying21
 a21:=Tryz.isAgg21
 z21:=Tryz.sizeOf21
 v21:=Tryz.zeroValue21
 t46:=Tryz.underlying174
 a46:=Tryz.isAgg174
 z46:=Tryz.sizeOf174
 v46:=Tryz.zeroValue174
 t105:=Tryz.underlying159
 a105:=Tryz.isAgg159
 z105:=Tryz.sizeOf159
 v105:=Tryz.zeroValue159
 t116:=Tryz.underlying181
 a116:=Tryz.isAgg181
 z116:=Tryz.sizeOf181
 t117:=Tryz.underlying182
 a117:=Tryz.isAgg182
 z117:=Tryz.sizeOf182
 v117:=Tryz.zeroValue182
 t119:=Tryz.underlying173
 a119:=Tryz.isAgg173
 z119:=Tryz.sizeOf173
 t124:=Tryz.underlying185
 a124:=Tryz.isAgg185
 z124:=Tryz.sizeOf185
 v124:=Tryz.zeroValue185
 t138:=Tryz.underlying176
 a138:=Tryz.isAgg176
 z138:=Tryz.sizeOf176
 v138:=Tryz.zeroValue176
 t139:=Tryz.underlying177
 a139:=Tryz.isAgg177
 z139:=Tryz.sizeOf177
 v139:=Tryz.zeroValue177
 g3:=by kernel_rfl
 g4:=by kernel_rfl
def Tryz.laysAtoi_ren:Go.Shelf.Ren:=⟨fun|172=>134|244=>145|245=>146|247=>152|279=>153|280=>154|281=>155|282=>156|287=>163|316=>164|171=>166|205=>165|321=>170|322=>171|243=>172|246=>173|283=>174|284=>175|285=>176|286=>177|129=>179|317=>178|318=>180|319=>181|320=>182|337=>183|338=>184|n=>n,fun|9=>9|3=>3|75=>170|76=>171|4=>4|5=>5|167=>189|37=>190|0=>0|85=>191|2=>2|168=>193|53=>198|175=>199|46=>174|210=>202|127=>209|145=>212|143=>210|21=>21|171=>214|173=>217|212=>220|51=>205|20=>20|213=>221|232=>224|233=>225|80=>226|n=>n,fun|15=>3|16=>4|17=>5|18=>6|19=>7|n=>n⟩
theorem Tryz.laysAtoi:Go.Proofs.LaysC.n172 Tryz.prog Tryz.laysAtoi_ren where
 mixed:=by kernel_rfl
 f129:=Tryz.func179.trans (congrArg some (by kernel_rfl))
 f171:=Tryz.func166.trans (congrArg some (by kernel_rfl))
 f172:=Tryz.func134.trans (congrArg some (by kernel_rfl))
 f205:=Tryz.func165.trans (congrArg some (by kernel_rfl))
 f243:=Tryz.func172.trans (congrArg some (by kernel_rfl))
 f244:=Tryz.func145.trans (congrArg some (by kernel_rfl))
 f245:=Tryz.func146.trans (congrArg some (by kernel_rfl))
 f246:=Tryz.func173.trans (congrArg some (by kernel_rfl))
 f247:=Tryz.func152.trans (congrArg some (by kernel_rfl))
 f279:=Tryz.func153.trans (congrArg some (by kernel_rfl))
 f280:=Tryz.func154.trans (congrArg some (by kernel_rfl))
 f281:=Tryz.func155.trans (congrArg some (by kernel_rfl))
 f282:=Tryz.func156.trans (congrArg some (by kernel_rfl))
 f283:=Tryz.func174.trans (congrArg some (by kernel_rfl))
 f284:=Tryz.func175.trans (congrArg some (by kernel_rfl))
 f285:=Tryz.func176.trans (congrArg some (by kernel_rfl))
 f286:=Tryz.func177.trans (congrArg some (by kernel_rfl))
 f287:=Tryz.func163.trans (congrArg some (by kernel_rfl))
 f316:=Tryz.func164.trans (congrArg some (by kernel_rfl))
 f317:=Tryz.func178.trans (congrArg some (by kernel_rfl))
 f318:=Tryz.func180.trans (congrArg some (by kernel_rfl))
 f319:=Tryz.func181.trans (congrArg some (by kernel_rfl))
 f320:=Tryz.func182.trans (congrArg some (by kernel_rfl))
 f321:=Tryz.func170.trans (congrArg some (by kernel_rfl))
 f322:=Tryz.func171.trans (congrArg some (by kernel_rfl))
 f337:=Tryz.func183.trans (congrArg some (by kernel_rfl))
 f338:=Tryz.func184.trans (congrArg some (by kernel_rfl))
 t0:=Tryz.underlying0
 a0:=Tryz.isAgg0
 z0:=Tryz.sizeOf0
 v0:=Tryz.zeroValue0
 t2:=Tryz.underlying2
 a2:=Tryz.isAgg2
 z2:=Tryz.sizeOf2
 v2:=Tryz.zeroValue2
 t3:=Tryz.underlying3
 a3:=Tryz.isAgg3
 z3:=Tryz.sizeOf3
 v3:=Tryz.zeroValue3
 t4:=Tryz.underlying4
 a4:=Tryz.isAgg4
 z4:=Tryz.sizeOf4
 v4:=Tryz.zeroValue4
 t5:=Tryz.underlying5
 a5:=Tryz.isAgg5
 z5:=Tryz.sizeOf5
 v5:=Tryz.zeroValue5
 t9:=Tryz.underlying9
 a9:=Tryz.isAgg9
 z9:=Tryz.sizeOf9
 v9:=Tryz.zeroValue9
 t20:=Tryz.underlying20
 a20:=Tryz.isAgg20
 z20:=Tryz.sizeOf20
 v20:=Tryz.zeroValue20
 t21:=Tryz.underlying21
 a21:=Tryz.isAgg21
 z21:=Tryz.sizeOf21
 v21:=Tryz.zeroValue21
 t37:=Tryz.underlying190
 a37:=Tryz.isAgg190
 z37:=Tryz.sizeOf190
 v37:=Tryz.zeroValue190
 t46:=Tryz.underlying174
 a46:=Tryz.isAgg174
 z46:=Tryz.sizeOf174
 v46:=Tryz.zeroValue174
 t51:=Tryz.underlying205
 a51:=Tryz.isAgg205
 z51:=Tryz.sizeOf205
 v51:=Tryz.zeroValue205
 t53:=Tryz.underlying198
 a53:=Tryz.isAgg198
 z53:=Tryz.sizeOf198
 v53:=Tryz.zeroValue198
 t75:=Tryz.underlying170
 a75:=Tryz.isAgg170
 z75:=Tryz.sizeOf170
 v75:=Tryz.zeroValue170
 t76:=Tryz.underlying171
 a76:=Tryz.isAgg171
 z76:=Tryz.sizeOf171
 v76:=Tryz.zeroValue171
 t85:=Tryz.underlying191
 a85:=Tryz.isAgg191
 z85:=Tryz.sizeOf191
 v85:=Tryz.zeroValue191
 t127:=Tryz.underlying209
 a127:=Tryz.isAgg209
 z127:=Tryz.sizeOf209
 v127:=Tryz.zeroValue209
 t143:=Tryz.underlying210
 a143:=Tryz.isAgg210
 z143:=Tryz.sizeOf210
 v143:=Tryz.zeroValue210
 t145:=Tryz.underlying212
 a145:=Tryz.isAgg212
 z145:=Tryz.sizeOf212
 v145:=Tryz.zeroValue212
 t167:=Tryz.underlying189
 a167:=Tryz.isAgg189
 z167:=Tryz.sizeOf189
 v167:=Tryz.zeroValue189
 t168:=Tryz.underlying193
 a168:=Tryz.isAgg193
 z168:=Tryz.sizeOf193
 v168:=Tryz.zeroValue193
 t171:=Tryz.underlying214
 a171:=Tryz.isAgg214
 z171:=Tryz.sizeOf214
 v171:=Tryz.zeroValue214
 t173:=Tryz.underlying217
 a173:=Tryz.isAgg217
 z173:=Tryz.sizeOf217
 v173:=Tryz.zeroValue217
 t175:=Tryz.underlying199
 a175:=Tryz.isAgg199
 z175:=Tryz.sizeOf199
 v175:=Tryz.zeroValue199
 t210:=Tryz.underlying202
 a210:=Tryz.isAgg202
 z210:=Tryz.sizeOf202
 v210:=Tryz.zeroValue202
 t212:=Tryz.underlying220
 a212:=Tryz.isAgg220
 z212:=Tryz.sizeOf220
 v212:=Tryz.zeroValue220
 t213:=Tryz.underlying221
 a213:=Tryz.isAgg221
 z213:=Tryz.sizeOf221
 t232:=Tryz.underlying224
 a232:=Tryz.isAgg224
 z232:=Tryz.sizeOf224
 v232:=Tryz.zeroValue224
 t233:=Tryz.underlying225
 a233:=Tryz.isAgg225
 z233:=Tryz.sizeOf225
 v233:=Tryz.zeroValue225
 g15:=by kernel_rfl
 g16:=by kernel_rfl
 g17:=by kernel_rfl
 g18:=by kernel_rfl
 g19:=by kernel_rfl
 t80:=Tryz.underlying226
 a80:=Tryz.isAgg226
 z80:=Tryz.sizeOf226
 v80:=Tryz.zeroValue226
 i0:=by kernel_rfl
 i2:=by kernel_rfl
 i3:=by kernel_rfl
 i4:=by kernel_rfl
 i5:=by kernel_rfl
 i9:=by kernel_rfl
 i20:=by kernel_rfl
 i21:=by kernel_rfl
 i37:=by kernel_rfl
 i46:=by kernel_rfl
 i51:=by kernel_rfl
 i53:=by kernel_rfl
 i75:=by kernel_rfl
 i76:=by kernel_rfl
 i80:=by kernel_rfl
 i85:=by kernel_rfl
 i127:=by kernel_rfl
 i143:=by kernel_rfl
 i145:=by kernel_rfl
 i167:=by kernel_rfl
 i168:=by kernel_rfl
 i171:=by kernel_rfl
 i173:=by kernel_rfl
 i175:=by kernel_rfl
 i210:=by kernel_rfl
 i212:=by kernel_rfl
 i232:=by kernel_rfl
 i233:=by kernel_rfl
 m15:=by kernel_rfl
 m16:=by kernel_rfl
 m17:=by kernel_rfl
 m18:=by kernel_rfl
 m19:=by kernel_rfl
 c0:=by kernel_rfl
 c2:=by kernel_rfl
 c3:=by kernel_rfl
 c4:=by kernel_rfl
 c5:=by kernel_rfl
 c9:=by kernel_rfl
 c20:=by kernel_rfl
 c21:=by kernel_rfl
 c37:=by kernel_rfl
 c46:=by kernel_rfl
 c51:=by kernel_rfl
 c53:=by kernel_rfl
 c75:=by kernel_rfl
 c76:=by kernel_rfl
 c80:=by kernel_rfl
 c85:=by kernel_rfl
 c127:=by kernel_rfl
 c143:=by kernel_rfl
 c145:=by kernel_rfl
 c167:=by kernel_rfl
 c168:=by kernel_rfl
 c171:=by kernel_rfl
 c173:=by kernel_rfl
 c175:=by kernel_rfl
 c210:=by kernel_rfl
 c212:=by kernel_rfl
 c213:=by kernel_rfl
 c232:=by kernel_rfl
 c233:=by kernel_rfl
theorem Tryz.boolRow:(Tryz.prog.info? (Tryz.laysTrim_ren.t 116)).map (fun i=>(i.zero,i.size))=some (some (.agg (Array.replicate 256 (.bool false))),256):=by kernel_rfl
end Go.Proofs
namespace Lift.J6
open Go Go.RowKit Go.Proofs Lift Lift.Fn
theorem zaeq {w w':World} {n:Nat} (h:∀ k,k<n→w'.heap[k]? = w.heap[k]?) {b o:Nat} (hb:b<n):w'.cell? ⟨b,o,none⟩=w.cell? ⟨b,o,none⟩:=by
 unfold World.cell?;rw[h b hb]
def isErr (v:Value):Prop:=v=.nilIface∨∃ te pe,v=.iface te pe
def globs (w:World):Prop:=Go.Lib.Utf8Tabs 0 1 w∧(∃ m,w.cell? ⟨2,0,none⟩=some (.int .i64 m))∧(∃ a b,(w.cell? ⟨3,0,none⟩=some a∧isErr a)∧(w.cell? ⟨4,0,none⟩=some b∧isErr b))∧True
theorem zaqu (w w':World) (h:globs w) (hs:∀ k,k<5→w'.heap[k]? = w.heap[k]?):globs w':=by
 refine ⟨?_,?_,?_,trivial⟩
 ·obtain ⟨h1,h2⟩:=h.1;refine ⟨fun c hc=>?_,fun i hi=>?_⟩
  ·rw[zaeq hs (by omega)]; exact h1 c hc
  ·rw[zaeq hs (by omega),zaeq hs (by omega)]; exact h2 i hi
 ·obtain ⟨m,h3⟩:=h.2.1;exact ⟨m,by rw[zaeq hs (by omega)]; exact h3⟩
 ·obtain ⟨a,b,⟨h4,h5⟩,h6,h7⟩:=h.2.2.1;exact ⟨a,b,⟨by rw[zaeq hs (by omega)]; exact h4,h5⟩,by rw[zaeq hs (by omega)]; exact h6,h7⟩
@[reducible] def env0:Env:=⟨globs,5,fun w w' h hs _ _ _=>zaqu w w' h hs⟩
theorem known0:Known kk env0 (zaac ms0):=known_nil
theorem strings_Contains_post:∀ ls j rs,(strings_Contains_md.sum ls).val=some (j,rs)→zabc kk env0 132 strings_Contains_md.sh strings_Contains_md.outs ls j rs:=by
 intro ls j rs h;simp only[strings_Contains_md] at h;split at h
 ·obtain ⟨r,hr,h⟩:=Tr.get_val h;rw[strings_Contains,zaaa,zadv,cond_eq_ite,Option.ite_none_right_eq_some,decide_eq_true_eq] at hr;obtain ⟨hc,hr⟩:=hr;cases hr;cases h;exact contains_post (K:=kk) (V:=env0) (ρ:=Tryz.laysContains_ren) ({ Tryz.laysContains with }) (fun w h=>h.2.1) _ _ hc
 ·cases h
theorem known1:Known kk env0 (zaac ms1):=known_cons (by kernel_rfl) strings_Contains_post known0
theorem unicode_utf8_DecodeRuneInString_post:∀ ls j rs,(unicode_utf8_DecodeRuneInString_md.sum ls).val=some (j,rs)→zabc kk env0 116 unicode_utf8_DecodeRuneInString_md.sh unicode_utf8_DecodeRuneInString_md.outs ls j rs:=by
 intro ls j rs h;simp only[unicode_utf8_DecodeRuneInString_md] at h;split at h
 ·obtain ⟨r,hr,h⟩:=Tr.get_val h;rw[zaa1,zaaa,zabo] at hr;cases hr;cases h;exact decode_post (K:=kk) (V:=env0) (ρ:=Tryz.laysDecode_ren) Tryz.laysDecode (fun w h=>h.1) _
 ·cases h
theorem known2:Known kk env0 (zaac ms2):=known_cons (by kernel_rfl) unicode_utf8_DecodeRuneInString_post known1
theorem unicode_utf8_RuneCountInString_post:∀ ls j rs,(unicode_utf8_RuneCountInString_md.sum ls).val=some (j,rs)→zabc kk env0 124 unicode_utf8_RuneCountInString_md.sh unicode_utf8_RuneCountInString_md.outs ls j rs:=by
 intro ls j rs h;simp only[unicode_utf8_RuneCountInString_md] at h;split at h
 ·obtain ⟨r,hr,h⟩:=Tr.get_val h;rw[zaa3,zaaa,zabs,cond_eq_ite,Option.ite_none_right_eq_some,decide_eq_true_eq] at hr;obtain ⟨hc,hr⟩:=hr;cases hr;cases h;exact runeCount_post (K:=kk) (V:=env0) (ρ:=Tryz.laysCount_ren) Tryz.laysCount _ hc
 ·cases h
theorem known3:Known kk env0 (zaac ms3):=known_cons (by kernel_rfl) unicode_utf8_RuneCountInString_post known2
theorem strings_Trim_post:∀ ls j rs,(strings_Trim_md.sum ls).val=some (j,rs)→zabc kk env0 133 strings_Trim_md.sh strings_Trim_md.outs ls j rs:=by
 intro ls j rs h;simp only[strings_Trim_md] at h;split at h
 ·obtain ⟨r,hr,h⟩:=Tr.get_val h;rw[zac1,zaaa,zafd,cond_eq_ite,Option.ite_none_right_eq_some,Bool.and_eq_true,decide_eq_true_eq] at hr;obtain ⟨⟨hc,hd⟩,hr⟩:=hr;cases hr;cases h;exact trim_post (K:=kk) (V:=env0) (ρ:=Tryz.laysTrim_ren) Tryz.laysTrim Tryz.boolRow _ _ hc.1 hc.2 hd
 ·cases h
theorem known4:Known kk env0 (zaac ms4):=known_cons (by kernel_rfl) strings_Trim_post known3
theorem strconv_Atoi_post:∀ ls j rs,(strconv_Atoi_md.sum ls).val=some (j,rs)→zabc kk env0 134 strconv_Atoi_md.sh strconv_Atoi_md.outs ls j rs:=by
 intro ls j rs h;simp only[strconv_Atoi_md] at h;split at h
 ·obtain ⟨r,hr,h⟩:=Tr.get_val h;rw[zacz,zaaa,zafi,cond_eq_ite,Option.ite_none_right_eq_some,decide_eq_true_eq] at hr;obtain ⟨hc,hr⟩:=hr;cases hr;cases h;exact atoi_post (K:=kk) (V:=env0) (ρ:=Tryz.laysAtoi_ren) Tryz.laysAtoi (fun w h=>h.2.2.1) _ hc
 ·cases h
theorem known5:Known kk env0 (zaac ms5):=known_cons (by kernel_rfl) strconv_Atoi_post known4
end Lift.J6
namespace Lift.Fn
noncomputable section
open Go Lift
def qbO_f (a0:Int):Option (Int):=bif decide (a0<0) then some ((-1:Int)) else bif decide (a0≤127) then some ((1:Int)) else bif decide (a0≤2047) then some ((2:Int)) else bif decide ((55296:Int)≤a0) then bif decide (a0≤57343) then some ((-1:Int)) else bif decide (a0≤65535) then some ((3:Int)) else bif decide (a0≤1114111) then some ((4:Int)) else some ((-1:Int)) else bif decide (a0≤65535) then some ((3:Int)) else bif decide (a0≤1114111) then some ((4:Int)) else some ((-1:Int))
def qbO:=sealF (qbO_f)
abbrev qbt_o4:=List UInt8→Int→Int→Int→Int→Int→Int→Int→Int→List UInt8→Nat→List Spot→Option ((Int×Int×Int×Int×(List Spot))⊕(Int×Int×Int×Int×Int×Int×Int×Int×(List Spot)))
def qbt_t4 (rec:qbt_o4):qbt_o4:=fun a0 a1 a2 a3 a4 a5 a6 a7 a8 a9 a10 a11=>bif decide (a10<List.length a9) then bif (↑(Prod.fst (Utf8.decode (ByteArray.mk (List.toArray a9)) a10)):Int)==65533 then bif decide ((0:Int)≤(↑a10:Int))&&(decide ((↑a10:Int)≤if IntKind.wrap IntKind.i64 ((↑a10:Int)+(3:Int))<(List.length a0:Int) then IntKind.wrap IntKind.i64 ((↑a10:Int)+(3:Int)) else (List.length a0:Int))&&decide ((if IntKind.wrap IntKind.i64 ((↑a10:Int)+(3:Int))<(List.length a0:Int) then IntKind.wrap IntKind.i64 ((↑a10:Int)+(3:Int)) else (List.length a0:Int))≤(List.length a0:Int))) then bif !List.drop (Int.toNat (↑a10:Int)) (List.take (Int.toNat (if IntKind.wrap IntKind.i64 ((↑a10:Int)+(3:Int))<(List.length a0:Int) then IntKind.wrap IntKind.i64 ((↑a10:Int)+(3:Int)) else (List.length a0:Int))) a0)==[(239:UInt8),(191:UInt8),(189:UInt8)] then some (.inl ((a5),(a6),(a7),(a8),(a11))) else bif decide ((List.length a11+List.length [Spot.mk (IntKind.wrap IntKind.i64 (↑(Prod.fst (Utf8.decode (ByteArray.mk (List.toArray a9)) a10)):Int)) a6 a7 a8])*(32:Nat)≤(140737488355328:Nat)∧List.length a11+List.length [Spot.mk (IntKind.wrap IntKind.i64 (↑(Prod.fst (Utf8.decode (ByteArray.mk (List.toArray a9)) a10)):Int)) a6 a7 a8]≤(9223372036854775807:Nat)) then (qbO (↑(Prod.fst (Utf8.decode (ByteArray.mk (List.toArray a9)) a10)):Int)).bind fun y0=>bif (↑(Prod.fst (Utf8.decode (ByteArray.mk (List.toArray a9)) a10)):Int)==10 then rec (a0) (a1) (a2) (a3) (a4) ((-1:Int)) (IntKind.wrap IntKind.i64 (a6+y0)) (IntKind.wrap IntKind.i64 (a7+(1:Int))) ((1:Int)) (a9) (a10+Prod.snd (Utf8.decode (ByteArray.mk (List.toArray a9)) a10)) (a11++[Spot.mk (IntKind.wrap IntKind.i64 (↑(Prod.fst (Utf8.decode (ByteArray.mk (List.toArray a9)) a10)):Int)) a6 a7 a8]) else rec (a0) (a1) (a2) (a3) (a4) ((-1:Int)) (IntKind.wrap IntKind.i64 (a6+y0)) (a7) (IntKind.wrap IntKind.i64 (a8+(1:Int))) (a9) (a10+Prod.snd (Utf8.decode (ByteArray.mk (List.toArray a9)) a10)) (a11++[Spot.mk (IntKind.wrap IntKind.i64 (↑(Prod.fst (Utf8.decode (ByteArray.mk (List.toArray a9)) a10)):Int)) a6 a7 a8]) else none else none else bif decide ((List.length a11+List.length [Spot.mk (IntKind.wrap IntKind.i64 (↑(Prod.fst (Utf8.decode (ByteArray.mk (List.toArray a9)) a10)):Int)) a6 a7 a8])*(32:Nat)≤(140737488355328:Nat)∧List.length a11+List.length [Spot.mk (IntKind.wrap IntKind.i64 (↑(Prod.fst (Utf8.decode (ByteArray.mk (List.toArray a9)) a10)):Int)) a6 a7 a8]≤(9223372036854775807:Nat)) then (qbO (↑(Prod.fst (Utf8.decode (ByteArray.mk (List.toArray a9)) a10)):Int)).bind fun y1=>bif (↑(Prod.fst (Utf8.decode (ByteArray.mk (List.toArray a9)) a10)):Int)==10 then rec (a0) (a1) (a2) (a3) (a4) ((-1:Int)) (IntKind.wrap IntKind.i64 (a6+y1)) (IntKind.wrap IntKind.i64 (a7+(1:Int))) ((1:Int)) (a9) (a10+Prod.snd (Utf8.decode (ByteArray.mk (List.toArray a9)) a10)) (a11++[Spot.mk (IntKind.wrap IntKind.i64 (↑(Prod.fst (Utf8.decode (ByteArray.mk (List.toArray a9)) a10)):Int)) a6 a7 a8]) else rec (a0) (a1) (a2) (a3) (a4) ((-1:Int)) (IntKind.wrap IntKind.i64 (a6+y1)) (a7) (IntKind.wrap IntKind.i64 (a8+(1:Int))) (a9) (a10+Prod.snd (Utf8.decode (ByteArray.mk (List.toArray a9)) a10)) (a11++[Spot.mk (IntKind.wrap IntKind.i64 (↑(Prod.fst (Utf8.decode (ByteArray.mk (List.toArray a9)) a10)):Int)) a6 a7 a8]) else none else some (.inr ((a1),(a2),(a3),(a4),(a5),(a6),(a7),(a8),(a11)))
def qbt_i4:Nat→qbt_o4
 |0=>fun _ _ _ _ _ _ _ _ _ _ _ _=>none
 |n+1=>qbt_t4 (qbt_i4 n)
def qbt_l4:=sealF (qbt_i4 fuel)
def qbt_f (a0:List UInt8):Option (Spot×(List Spot)):=(qbt_l4 a0 (0:Int) (0:Int) (0:Int) (0:Int) (-1:Int) (0:Int) (1:Int) (1:Int) a0 (0:Nat) []).bind fun y0=>(match y0 with|.inl y1=>some ((Spot.mk y1.1 y1.2.1 y1.2.2.1 y1.2.2.2.1),y1.2.2.2.2)|.inr y1=>some ((Spot.mk y1.2.2.2.2.1 y1.2.2.2.2.2.1 y1.2.2.2.2.2.2.1 y1.2.2.2.2.2.2.2.1),y1.2.2.2.2.2.2.2.2))
def qbt:=sealF (qbt_f)
def qbs_f (a0:List UInt8):Option (Fault×(List Spot)):=bif decide ((List.length a0:Int)>4000) then some ((Fault.mk (10:Int) (4000:Int) []),([])) else (qbt a0).bind fun y0=>bif decide (Spot.at_ y0.1<(List.length a0:Int)) then some ((Fault.mk (11:Int) (Spot.at_ y0.1) []),([])) else some ((Fault.mk (0:Int) (0:Int) []),y0.2)
def qbs:=sealF (qbs_f)
def qbp_f (a0:Int):Option (Bool):=bif a0==9 then some (true) else bif a0==10 then some (true) else bif a0==13 then some (true) else some (a0==32)
def qbp:=sealF (qbp_f)
abbrev qaB_o3:=List UInt8→Bool→List UInt8→Nat→Option ((Int)⊕((List UInt8)))
def qaB_t3 (rec:qaB_o3):qaB_o3:=fun a0 a1 a2 a3=>bif decide (a3<List.length a2) then bif a1 then rec (a0) ((↑(Prod.fst (Utf8.decode (ByteArray.mk (List.toArray a2)) a3)):Int) != 10) (a2) (a3+Prod.snd (Utf8.decode (ByteArray.mk (List.toArray a2)) a3)) else bif (↑(Prod.fst (Utf8.decode (ByteArray.mk (List.toArray a2)) a3)):Int)==35 then rec (a0) (true) (a2) (a3+Prod.snd (Utf8.decode (ByteArray.mk (List.toArray a2)) a3)) else (qbp (IntKind.wrap IntKind.i64 (↑(Prod.fst (Utf8.decode (ByteArray.mk (List.toArray a2)) a3)):Int))).bind fun y0=>bif !y0 then some (.inl ((↑a3:Int))) else rec (a0) (a1) (a2) (a3+Prod.snd (Utf8.decode (ByteArray.mk (List.toArray a2)) a3)) else some (.inr (a0))
def qaB_i3:Nat→qaB_o3
 |0=>fun _ _ _ _=>none
 |n+1=>qaB_t3 (qaB_i3 n)
def qaB_l3:=sealF (qaB_i3 fuel)
def qaB_f (a0:List UInt8):Option (Int):=(qaB_l3 a0 false a0 (0:Nat)).bind fun y0=>(match y0 with|.inl y1=>some (y1)|.inr y1=>some ((List.length y1:Int)))
def qaB:=sealF (qaB_f)
def qbP_f (a0:Int):Option (Bool):=bif decide (0≤a0) then bif decide (a0<55296) then some (true) else bif decide ((57343:Int)<a0) then bif decide (a0≤1114111) then some (true) else some (false) else some (false) else bif decide ((57343:Int)<a0) then bif decide (a0≤1114111) then some (true) else some (false) else some (false)
def qbP:=sealF (qbP_f)
def qbu_f (a0:Int):Option (Bool):=bif decide (a0≥0) then bif decide (a0≤1114111) then (qbP (IntKind.wrap IntKind.i32 a0)).bind fun y0=>some (y0) else some (false) else some (false)
def qbu:=sealF (qbu_f)
def qbr_f (a0:Int):Option (Bool):=bif decide (a0≥97) then bif decide (a0≤122) then bif decide (a0≤122) then some (true) else bif decide (a0≥192) then (qbu a0).bind fun y0=>some (y0) else some (false) else bif decide (a0≥65) then bif decide (a0≤90) then bif decide (a0≤90) then some (true) else bif decide (a0≥192) then (qbu a0).bind fun y1=>some (y1) else some (false) else bif a0==95 then some (true) else bif decide (a0≥192) then (qbu a0).bind fun y2=>some (y2) else some (false) else bif a0==95 then some (true) else bif decide (a0≥192) then (qbu a0).bind fun y3=>some (y3) else some (false) else bif decide (a0≥65) then bif decide (a0≤90) then bif decide (a0≤90) then some (true) else bif decide (a0≥192) then (qbu a0).bind fun y4=>some (y4) else some (false) else bif a0==95 then some (true) else bif decide (a0≥192) then (qbu a0).bind fun y5=>some (y5) else some (false) else bif a0==95 then some (true) else bif decide (a0≥192) then (qbu a0).bind fun y6=>some (y6) else some (false)
def qbr:=sealF (qbr_f)
def qbq_f (a0:Int):Option (Bool):=bif decide (a0≥48) then some (decide (a0≤57)) else some (false)
def qbq:=sealF (qbq_f)
def qaz_f (a0:Int):Option (Bool):=(qbr (IntKind.wrap IntKind.i64 a0)).bind fun y0=>bif y0 then some (true) else (qbq (IntKind.wrap IntKind.i64 a0)).bind fun y1=>some (y1)
def qaz:=sealF (qaz_f)
abbrev qby_o2:=List (List UInt8)→List UInt8→Int→Int→Option ((Int)⊕(Unit))
def qby_t2 (rec:qby_o2):qby_o2:=fun a0 a1 a2 a3=>bif decide (a3<a2) then bif decide (0≤a3) then (a0[Int.toNat a3]?).bind fun y0=>bif a1==y0 then some (.inl (a3)) else rec (a0) (a1) (a2) (IntKind.wrap IntKind.i64 (a3+(1:Int))) else none else some (.inr ())
def qby_i2:Nat→qby_o2
 |0=>fun _ _ _ _=>none
 |n+1=>qby_t2 (qby_i2 n)
def qby_l2:=sealF (qby_i2 fuel)
def qby_f (a0:List (List UInt8)) (a1:List UInt8):Option (Int):=(qby_l2 a0 a1 (List.length a0:Int) (0:Int)).bind fun y0=>(match y0 with|.inl y1=>some (y1)|.inr y1=>some ((-1:Int)))
def qby:=sealF (qby_f)
def qbx_f (a0:List (List UInt8)) (a1:List UInt8):Option (Bool):=(qby a0 a1).bind fun y0=>some (decide (y0≥0))
def qbx:=sealF (qbx_f)
def qaC_f (a0:List UInt8):Option ((List UInt8)):=bif decide ((List.length a0:Int)>1) then bif decide ((0:Int)≤(0:Int))&&(decide ((0:Int)≤(2:Int))&&decide ((2:Int)≤(List.length a0:Int))) then (qbx [[(58:UInt8),(61:UInt8)],[(60:UInt8),(45:UInt8)],[(61:UInt8),(61:UInt8)],[(33:UInt8),(61:UInt8)],[(60:UInt8),(61:UInt8)],[(62:UInt8),(61:UInt8)],[(38:UInt8),(38:UInt8)],[(124:UInt8),(124:UInt8)]] (List.drop (0:Nat) (List.take (2:Nat) a0))).bind fun y0=>bif y0 then bif decide ((0:Int)≤(0:Int))&&(decide ((0:Int)≤(2:Int))&&decide ((2:Int)≤(List.length a0:Int))) then some (List.drop (0:Nat) (List.take (2:Nat) a0)) else none else bif decide ((0:Int)≤(0:Int))&&(decide ((0:Int)≤(1:Int))&&decide ((1:Int)≤(List.length a0:Int))) then (strings_Contains [(61:UInt8),(60:UInt8),(62:UInt8),(33:UInt8),(43:UInt8),(45:UInt8),(42:UInt8),(47:UInt8),(37:UInt8),(59:UInt8),(123:UInt8),(125:UInt8),(40:UInt8),(41:UInt8)] (List.drop (0:Nat) (List.take (1:Nat) a0))).bind fun y1=>bif y1 then bif decide ((0:Int)≤(0:Int))&&(decide ((0:Int)≤(1:Int))&&decide ((1:Int)≤(List.length a0:Int))) then some (List.drop (0:Nat) (List.take (1:Nat) a0)) else none else some ([]) else none else none else bif decide ((0:Int)≤(0:Int))&&(decide ((0:Int)≤(1:Int))&&decide ((1:Int)≤(List.length a0:Int))) then (strings_Contains [(61:UInt8),(60:UInt8),(62:UInt8),(33:UInt8),(43:UInt8),(45:UInt8),(42:UInt8),(47:UInt8),(37:UInt8),(59:UInt8),(123:UInt8),(125:UInt8),(40:UInt8),(41:UInt8)] (List.drop (0:Nat) (List.take (1:Nat) a0))).bind fun y2=>bif y2 then bif decide ((0:Int)≤(0:Int))&&(decide ((0:Int)≤(1:Int))&&decide ((1:Int)≤(List.length a0:Int))) then some (List.drop (0:Nat) (List.take (1:Nat) a0)) else none else some ([]) else none
def qaC:=sealF (qaC_f)
abbrev qaE_o2:=List UInt8→List UInt8→Nat→Option (((List UInt8))⊕((List UInt8)))
def qaE_t2 (rec:qaE_o2):qaE_o2:=fun a0 a1 a2=>bif decide (a2<List.length a1) then (qaz (↑(Prod.fst (Utf8.decode (ByteArray.mk (List.toArray a1)) a2)):Int)).bind fun y0=>bif !y0 then bif decide ((0:Int)≤(0:Int))&&(decide ((0:Int)≤(↑a2:Int))&&decide ((↑a2:Int)≤(List.length a0:Int))) then some (.inl (List.drop (0:Nat) (List.take (Int.toNat (↑a2:Int)) a0))) else none else rec (a0) (a1) (a2+Prod.snd (Utf8.decode (ByteArray.mk (List.toArray a1)) a2)) else some (.inr (a0))
def qaE_i2:Nat→qaE_o2
 |0=>fun _ _ _=>none
 |n+1=>qaE_t2 (qaE_i2 n)
def qaE_l2:=sealF (qaE_i2 fuel)
def qaE_f (a0:List UInt8):Option ((List UInt8)):=(qaE_l2 a0 a0 (0:Nat)).bind fun y0=>(match y0 with|.inl y1=>some (y1)|.inr y1=>some (y1))
def qaE:=sealF (qaE_f)
def qaA_f (a0:List UInt8):Option (Int×Bool):=bif decide ((List.length a0:Int)>1) then (a0[(0:Nat)]?).bind fun y0=>bif (↑(UInt8.toNat y0):Int)==48 then some (((0:Int)),(false)) else (zac1 a0 [(48:UInt8),(49:UInt8),(50:UInt8),(51:UInt8),(52:UInt8),(53:UInt8),(54:UInt8),(55:UInt8),(56:UInt8),(57:UInt8)]).bind fun y1=>bif !y1==[] then some (((0:Int)),(false)) else (zacz a0).bind fun y2=>bif !y2.2 then some (y2.1,(decide (y2.1≤2147483647))) else some (y2.1,(false)) else (zac1 a0 [(48:UInt8),(49:UInt8),(50:UInt8),(51:UInt8),(52:UInt8),(53:UInt8),(54:UInt8),(55:UInt8),(56:UInt8),(57:UInt8)]).bind fun y3=>bif !y3==[] then some (((0:Int)),(false)) else (zacz a0).bind fun y4=>bif !y4.2 then some (y4.1,(decide (y4.1≤2147483647))) else some (y4.1,(false))
def qaA:=sealF (qaA_f)
def qay_f:Option ((List (List UInt8))):=some ([[(97:UInt8),(100:UInt8),(100:UInt8)],[(97:UInt8),(115:UInt8),(115:UInt8),(101:UInt8),(114:UInt8),(116:UInt8)],[(99:UInt8),(101:UInt8),(108:UInt8),(108:UInt8)],[(101:UInt8),(108:UInt8),(115:UInt8),(101:UInt8)],[(105:UInt8),(102:UInt8)],[(106:UInt8),(111:UInt8),(105:UInt8),(110:UInt8)],[(108:UInt8),(111:UInt8),(99:UInt8),(107:UInt8)],[(109:UInt8),(117:UInt8),(116:UInt8),(101:UInt8),(120:UInt8)],[(114:UInt8),(101:UInt8),(112:UInt8),(101:UInt8),(97:UInt8),(116:UInt8)],[(115:UInt8),(116:UInt8),(97:UInt8),(114:UInt8),(116:UInt8)],[(116:UInt8),(104:UInt8),(114:UInt8),(101:UInt8),(97:UInt8),(100:UInt8)],[(117:UInt8),(110:UInt8),(108:UInt8),(111:UInt8),(99:UInt8),(107:UInt8)]])
def qay:=sealF (qay_f)
def qaD_f (a0:List UInt8):Option (Token×Int):=(zaa1 a0).bind fun y0=>(qaz y0.1).bind fun y1=>bif !y1 then (qaC a0).bind fun y2=>bif y2==[] then some ((Token.mk (0:Int) [] (0:Int) (0:Int)),((20:Int))) else some ((Token.mk (3:Int) y2 (0:Int) (0:Int)),((0:Int))) else (qaE a0).bind fun y3=>(qbq (IntKind.wrap IntKind.i64 y0.1)).bind fun y4=>bif y4 then (qaA y3).bind fun y5=>bif !y5.2 then some ((Token.mk (1:Int) y3 (0:Int) (0:Int)),((22:Int))) else some ((Token.mk (2:Int) y3 y5.1 (0:Int)),((0:Int))) else (qay).bind fun y6=>(qbx y6 y3).bind fun y7=>bif y7 then some ((Token.mk (4:Int) y3 (0:Int) (0:Int)),((0:Int))) else (zaa3 y3).bind fun y8=>bif decide (y8>16) then some ((Token.mk (1:Int) y3 (0:Int) (0:Int)),((21:Int))) else some ((Token.mk (1:Int) y3 (0:Int) (0:Int)),((0:Int)))
def qaD:=sealF (qaD_f)
abbrev qax_o6:=List UInt8→Int→Int→Int→List UInt8→List Token→Option ((Int×Int×(List UInt8))⊕((List UInt8)×Int×Int×(List UInt8)×(List Token)))
def qax_t6 (rec:qax_o6):qax_o6:=fun a0 a1 a2 a3 a4 a5=>bif decide (a1<(List.length a0:Int)) then bif decide (0≤a1)&&(decide (a1≤(List.length a0:Int))&&decide ((List.length a0:Int)≤(List.length a0:Int))) then (qaD (List.drop (Int.toNat a1) (List.take (Int.toNat (List.length a0:Int)) a0))).bind fun y0=>bif y0.2 != 0 then some (.inl (y0.2,(a1),([]))) else bif decide ((List.length a5+List.length [Token.mk (Token.kind y0.1) (Token.text y0.1) (Token.num y0.1) a1])*(40:Nat)≤(140737488355328:Nat)∧List.length a5+List.length [Token.mk (Token.kind y0.1) (Token.text y0.1) (Token.num y0.1) a1]≤(9223372036854775807:Nat)) then bif decide ((0:Int)≤IntKind.wrap IntKind.i64 (a1+(List.length (Token.text y0.1):Int)))&&(decide (IntKind.wrap IntKind.i64 (a1+(List.length (Token.text y0.1):Int))≤(List.length a0:Int))&&decide ((List.length a0:Int)≤(List.length a0:Int))) then (qaB (List.drop (Int.toNat (IntKind.wrap IntKind.i64 (a1+(List.length (Token.text y0.1):Int)))) (List.take (Int.toNat (List.length a0:Int)) a0))).bind fun y1=>rec (a0) (IntKind.wrap IntKind.i64 (IntKind.wrap IntKind.i64 (a1+(List.length (Token.text y0.1):Int))+y1)) (a2) (a3) (a4) (a5++[Token.mk (Token.kind y0.1) (Token.text y0.1) (Token.num y0.1) a1]) else none else none else none else some (.inr ((a0),(a2),(a3),(a4),(a5)))
def qax_i6:Nat→qax_o6
 |0=>fun _ _ _ _ _ _=>none
 |n+1=>qax_t6 (qax_i6 n)
def qax_l6:=sealF (qax_i6 fuel)
def qax_f (a0:List UInt8):Option (Fault×(List Token)):=(qbs a0).bind fun y0=>bif Fault.code y0.1 != 0 then some ((Fault.mk (Fault.code y0.1) (Fault.at_ y0.1) (Fault.name y0.1)),([])) else (qaB a0).bind fun y1=>(qax_l6 a0 y1 (0:Int) (0:Int) [] []).bind fun y2=>(match y2 with|.inl y3=>some ((Fault.mk y3.1 y3.2.1 y3.2.2),([]))|.inr y3=>bif decide ((List.length y3.2.2.2.2+List.length [Token.mk (5:Int) [] (0:Int) (List.length y3.1:Int)])*(40:Nat)≤(140737488355328:Nat)∧List.length y3.2.2.2.2+List.length [Token.mk (5:Int) [] (0:Int) (List.length y3.1:Int)]≤(9223372036854775807:Nat)) then some ((Fault.mk (0:Int) (0:Int) []),(y3.2.2.2.2++[Token.mk (5:Int) [] (0:Int) (List.length y3.1:Int)])) else none)
def qax:=sealF (qax_f)
def qbL_f (a0:List UInt8):Option (Bool):=bif decide ((List.length a0:Int)>64) then some (false) else (qax a0).bind fun y0=>Option.bind (α:=Bool) ( bif Fault.code y0.1==0 then some ((List.length y0.2:Int)==2) else some (false)) fun y1=>Option.bind (α:=Bool) ( bif y1 then bif decide ((0:Int)≤(0:Int))&&decide ((0:Int)<(List.length y0.2:Int)) then (y0.2[(0:Nat)]?).bind fun y2=>some (Token.kind y2==1) else none else some (false)) fun y3=>Option.bind (α:=Bool) ( bif y3 then bif decide ((0:Int)≤(0:Int))&&decide ((0:Int)<(List.length y0.2:Int)) then (y0.2[(0:Nat)]?).bind fun y4=>some (Token.text y4==a0) else none else some (false)) fun y5=>some (y5)
def qbL:=sealF (qbL_f)
def qbM_f:Option ((List ((Int)×(Shape)))):=some (zaau (11:Int) (Shape.mk false false false true true false) (zaau (10:Int) (Shape.mk false false true false true true) (zaau (9:Int) (Shape.mk false false true false false false) (zaau (8:Int) (Shape.mk false true false false false false) (zaau (7:Int) (Shape.mk false true false false false false) (zaau (6:Int) (Shape.mk false true false false false false) (zaau (5:Int) (Shape.mk false true false false false false) (zaau (4:Int) (Shape.mk true true true false false false) (zaau (3:Int) (Shape.mk false true true false false false) (zaau (2:Int) (Shape.mk true true false false false false) (zaau (1:Int) (Shape.mk true false true false false false) [])))))))))))
def qbM:=sealF (qbM_f)
def qbK_f (a0:List UInt8) (a1:Bool):Option (Bool):=Option.bind (α:=Bool) ( bif a1 then (qbL a0).bind fun y0=>some (y0) else some (false)) fun y1=>Option.bind (α:=Bool) ( bif y1 then some (true) else Option.bind (α:=Bool) ( bif !a1 then some (a0==[]) else some (false)) fun y2=>some (y2)) fun y3=>some (y3)
def qbK:=sealF (qbK_f)
def qbN_f (a0:TStmt):Option (Bool):=(qbM).bind fun y0=>Option.bind (α:=Bool) ( bif TExpr.kind (TStmt.expr a0)==0 then some (TExpr.num (TStmt.expr a0)==0) else some (false)) fun y1=>Option.bind (α:=Bool) ( bif y1 then some (TExpr.name (TStmt.expr a0)==[]) else some (false)) fun y2=>Option.bind (α:=Bool) ( bif y2 then some ((↑(List.length (TExpr.args (TStmt.expr a0))):Int)==0) else some (false)) fun y3=>Option.bind (α:=Bool) ( bif TStmt.count a0==0 then some (true) else Option.bind (α:=Bool) ( bif Shape.count (Option.getD (mapAt y0 (TStmt.kind a0)) (Shape.mk false false false false false false)) then some (decide (TStmt.count a0>0)) else some (false)) fun y4=>Option.bind (α:=Bool) ( bif y4 then some (decide (TStmt.count a0≤1000)) else some (false)) fun y5=>some (y5)) fun y6=>Option.bind (α:=Bool) ( bif Option.isSome (mapAt y0 (TStmt.kind a0)) then (qbK (TStmt.reg a0) (Shape.reg (Option.getD (mapAt y0 (TStmt.kind a0)) (Shape.mk false false false false false false)))).bind fun y7=>some (y7) else some (false)) fun y8=>Option.bind (α:=Bool) ( bif y8 then (qbK (TStmt.name a0) (Shape.name (Option.getD (mapAt y0 (TStmt.kind a0)) (Shape.mk false false false false false false)))).bind fun y9=>some (y9) else some (false)) fun y10=>Option.bind (α:=Bool) ( bif y10 then Option.bind (α:=Bool) ( bif Shape.expr (Option.getD (mapAt y0 (TStmt.kind a0)) (Shape.mk false false false false false false)) then some (TExpr.kind (TStmt.expr a0) != 0) else some (false)) fun y11=>Option.bind (α:=Bool) ( bif y11 then some (true) else Option.bind (α:=Bool) ( bif !Shape.expr (Option.getD (mapAt y0 (TStmt.kind a0)) (Shape.mk false false false false false false)) then some (y3) else some (false)) fun y12=>some (y12)) fun y13=>some (y13) else some (false)) fun y14=>Option.bind (α:=Bool) ( bif y14 then some (y6) else some (false)) fun y15=>Option.bind (α:=Bool) ( bif y15 then Option.bind (α:=Bool) ( bif Shape.then_ (Option.getD (mapAt y0 (TStmt.kind a0)) (Shape.mk false false false false false false)) then some (true) else some ((List.length (TStmt.then_ a0):Int)==0)) fun y16=>some (y16) else some (false)) fun y17=>Option.bind (α:=Bool) ( bif y17 then Option.bind (α:=Bool) ( bif Shape.other (Option.getD (mapAt y0 (TStmt.kind a0)) (Shape.mk false false false false false false)) then some (true) else some ((List.length (TStmt.else_ a0):Int)==0)) fun y18=>some (y18) else some (false)) fun y19=>some (y19)
def qbN:=sealF (qbN_f)
def qbI_f (a0:TStmt) (a1:Int) (a2:Bool):Option (Bool):=Option.bind (α:=Bool) ( bif a2 then (qbN (TStmt.mk (TStmt.kind a0) (TStmt.reg a0) (TStmt.name a0) (TExpr.mk (TExpr.kind (TStmt.expr a0)) (TExpr.num (TStmt.expr a0)) (TExpr.name (TStmt.expr a0)) (TExpr.args (TStmt.expr a0))) (TStmt.count a0) (TStmt.then_ a0) (TStmt.else_ a0))).bind fun y0=>some (y0) else some (false)) fun y1=>some (y1)
def qbI:=sealF (qbI_f)
def qbG_f (a0:TExpr):Option (Bool):=bif TExpr.kind a0==1 then Option.bind (α:=Bool) ( bif decide (TExpr.num a0≥0) then some (decide (TExpr.num a0≤2147483647)) else some (false)) fun y0=>Option.bind (α:=Bool) ( bif y0 then some (TExpr.name a0==[]) else some (false)) fun y1=>Option.bind (α:=Bool) ( bif y1 then some ((List.length (TExpr.args a0):Int)==0) else some (false)) fun y2=>some (y2) else bif TExpr.kind a0==2 then (qbL (TExpr.name a0)).bind fun y3=>Option.bind (α:=Bool) ( bif y3 then some (TExpr.num a0==0) else some (false)) fun y4=>Option.bind (α:=Bool) ( bif y4 then some ((List.length (TExpr.args a0):Int)==0) else some (false)) fun y5=>some (y5) else Option.bind (α:=Bool) ( bif TExpr.kind a0==3 then some (true) else some (TExpr.kind a0==4)) fun y6=>bif y6 then Option.bind (α:=Bool) ( bif decide (TExpr.kind a0≥3) then some (decide (TExpr.kind a0≤17)) else some (false)) fun y7=>Option.bind (α:=Bool) ( bif y7 then some ((List.length (TExpr.args a0):Int)==1) else some (false)) fun y8=>Option.bind (α:=Bool) ( bif y8 then some (TExpr.num a0==0) else some (false)) fun y9=>Option.bind (α:=Bool) ( bif y9 then some (TExpr.name a0==[]) else some (false)) fun y10=>some (y10) else Option.bind (α:=Bool) ( bif decide (TExpr.kind a0≥3) then some (decide (TExpr.kind a0≤17)) else some (false)) fun y11=>Option.bind (α:=Bool) ( bif y11 then some ((List.length (TExpr.args a0):Int)==2) else some (false)) fun y12=>Option.bind (α:=Bool) ( bif y12 then some (TExpr.num a0==0) else some (false)) fun y13=>Option.bind (α:=Bool) ( bif y13 then some (TExpr.name a0==[]) else some (false)) fun y14=>some (y14)
def qbG:=sealF (qbG_f)
def qbJ_f (a0:TExpr) (a1:Int) (a2:Bool):Option (Bool):=Option.bind (α:=Bool) ( bif a2 then (qbG (TExpr.mk (TExpr.kind a0) (TExpr.num a0) (TExpr.name a0) (TExpr.args a0))).bind fun y0=>some (y0) else some (false)) fun y1=>some (y1)
def qbJ:=sealF (qbJ_f)
abbrev qac_o:=TExpr→Int→Bool→Option (Bool)
abbrev qac_o3:=Int→List TExpr→Int→Int→Bool→Option (Bool)
def qac_t3 (rec_qac:qac_o) (rec:qac_o3):qac_o3:=fun a0 a1 a2 a3 a4=>bif decide (a3<a2) then bif decide (0≤a3) then (a1[Int.toNat a3]?).bind fun y0=>(rec_qac (TExpr.mk (TExpr.kind y0) (TExpr.num y0) (TExpr.name y0) (TExpr.args y0)) (IntKind.wrap IntKind.i64 (a0+(1:Int))) a4).bind fun y1=>rec (a0) (a1) (a2) (IntKind.wrap IntKind.i64 (a3+(1:Int))) (y1) else none else some (a4)
def qac_i3 (rec_qac:qac_o):Nat→qac_o3
 |0=>fun _ _ _ _ _=>none
 |n+1=>qac_t3 rec_qac (qac_i3 rec_qac n)
def qac_l3 (rec_qac:qac_o):=sealF (qac_i3 rec_qac fuel)
def qac_f (rec_qac:qac_o):qac_o:=fun a0 a1 a2=>(qbJ (TExpr.mk (TExpr.kind a0) (TExpr.num a0) (TExpr.name a0) (TExpr.args a0)) a1 a2).bind fun y0=>(qac_l3 rec_qac a1 (TExpr.args a0) (List.length (TExpr.args a0):Int) (0:Int) y0).bind fun y1=>some (y1)
def qac_i:Nat→qac_o
 |0=>fun _ _ _=>none
 |n+1=>qac_f (qac_i n)
def qac:=sealF (qac_i fuel)
abbrev qai_o:=List TStmt→Int→Bool→Option (Bool)
abbrev qai_o2:=Int→List TStmt→Int→Int→Bool→Option (Bool)
def qai_t2 (rec_qai:qai_o) (rec:qai_o2):qai_o2:=fun a0 a1 a2 a3 a4=>bif decide (a3<a2) then bif decide (0≤a3) then (a1[Int.toNat a3]?).bind fun y0=>(qbI (TStmt.mk (TStmt.kind y0) (TStmt.reg y0) (TStmt.name y0) (TExpr.mk (TExpr.kind (TStmt.expr y0)) (TExpr.num (TStmt.expr y0)) (TExpr.name (TStmt.expr y0)) (TExpr.args (TStmt.expr y0))) (TStmt.count y0) (TStmt.then_ y0) (TStmt.else_ y0)) a0 a4).bind fun y1=>Option.bind (α:=Bool) ( bif TExpr.kind (TStmt.expr y0) != 0 then some (true) else some (decide ((↑(List.length (TExpr.args (TStmt.expr y0))):Int)>0))) fun y2=>bif y2 then (qac (TExpr.mk (TExpr.kind (TStmt.expr y0)) (TExpr.num (TStmt.expr y0)) (TExpr.name (TStmt.expr y0)) (TExpr.args (TStmt.expr y0))) (1:Int) y1).bind fun y3=>(rec_qai (TStmt.then_ y0) (IntKind.wrap IntKind.i64 (a0+(1:Int))) y3).bind fun y4=>(rec_qai (TStmt.else_ y0) (IntKind.wrap IntKind.i64 (a0+(1:Int))) y4).bind fun y5=>rec (a0) (a1) (a2) (IntKind.wrap IntKind.i64 (a3+(1:Int))) (y5) else (rec_qai (TStmt.then_ y0) (IntKind.wrap IntKind.i64 (a0+(1:Int))) y1).bind fun y6=>(rec_qai (TStmt.else_ y0) (IntKind.wrap IntKind.i64 (a0+(1:Int))) y6).bind fun y7=>rec (a0) (a1) (a2) (IntKind.wrap IntKind.i64 (a3+(1:Int))) (y7) else none else some (a4)
def qai_i2 (rec_qai:qai_o):Nat→qai_o2
 |0=>fun _ _ _ _ _=>none
 |n+1=>qai_t2 rec_qai (qai_i2 rec_qai n)
def qai_l2 (rec_qai:qai_o):=sealF (qai_i2 rec_qai fuel)
def qai_f (rec_qai:qai_o):qai_o:=fun a0 a1 a2=>(qai_l2 rec_qai a1 a0 (List.length a0:Int) (0:Int) a2).bind fun y0=>some (y0)
def qai_i:Nat→qai_o
 |0=>fun _ _ _=>none
 |n+1=>qai_f (qai_i n)
def qai:=sealF (qai_i fuel)
abbrev qaf_o2:=List TThread→Int→Int→Bool→Option (Bool)
def qaf_t2 (rec:qaf_o2):qaf_o2:=fun a0 a1 a2 a3=>bif decide (a2<a1) then bif decide (0≤a2) then (a0[Int.toNat a2]?).bind fun y0=>(qai (TThread.body y0) (1:Int) a3).bind fun y1=>rec (a0) (a1) (IntKind.wrap IntKind.i64 (a2+(1:Int))) (y1) else none else some (a3)
def qaf_i2:Nat→qaf_o2
 |0=>fun _ _ _ _=>none
 |n+1=>qaf_t2 (qaf_i2 n)
def qaf_l2:=sealF (qaf_i2 fuel)
def qaf_f (a0:TProg) (a1:Bool):Option (Bool):=(qaf_l2 (TProg.threads a0) (List.length (TProg.threads a0):Int) (0:Int) a1).bind fun y0=>some (y0)
def qaf:=sealF (qaf_f)
abbrev qbH_o3:=List TCell→Int→Int→List TCell→List (List UInt8)→List TThread→Bool→Option ((List TCell)×(List (List UInt8))×(List TThread)×Bool)
def qbH_t3 (rec:qbH_o3):qbH_o3:=fun a0 a1 a2 a3 a4 a5 a6=>bif decide (a2<a1) then bif decide (0≤a2) then (a0[Int.toNat a2]?).bind fun y0=>Option.bind (α:=Bool) ( bif a6 then (qbL (TCell.name y0)).bind fun y1=>some (y1) else some (false)) fun y2=>Option.bind (α:=Bool) ( bif y2 then some (decide (TCell.init y0≥(-2147483647:Int))) else some (false)) fun y3=>Option.bind (α:=Bool) ( bif y3 then some (decide (TCell.init y0≤2147483647)) else some (false)) fun y4=>rec (a0) (a1) (IntKind.wrap IntKind.i64 (a2+(1:Int))) (a3) (a4) (a5) (y4) else none else some ((a3),(a4),(a5),(a6))
def qbH_i3:Nat→qbH_o3
 |0=>fun _ _ _ _ _ _ _=>none
 |n+1=>qbH_t3 (qbH_i3 n)
def qbH_l3:=sealF (qbH_i3 fuel)
abbrev qbH_o8:=List (List UInt8)→Int→Int→List TCell→List (List UInt8)→List TThread→Bool→Option ((List TCell)×(List (List UInt8))×(List TThread)×Bool)
def qbH_t8 (rec:qbH_o8):qbH_o8:=fun a0 a1 a2 a3 a4 a5 a6=>bif decide (a2<a1) then bif decide (0≤a2) then (a0[Int.toNat a2]?).bind fun y0=>Option.bind (α:=Bool) ( bif a6 then (qbL y0).bind fun y1=>some (y1) else some (false)) fun y2=>rec (a0) (a1) (IntKind.wrap IntKind.i64 (a2+(1:Int))) (a3) (a4) (a5) (y2) else none else some ((a3),(a4),(a5),(a6))
def qbH_i8:Nat→qbH_o8
 |0=>fun _ _ _ _ _ _ _=>none
 |n+1=>qbH_t8 (qbH_i8 n)
def qbH_l8:=sealF (qbH_i8 fuel)
abbrev qbH_o13:=List TThread→Int→Int→List TCell→List (List UInt8)→List TThread→Bool→Option ((List TCell)×(List (List UInt8))×(List TThread)×Bool)
def qbH_t13 (rec:qbH_o13):qbH_o13:=fun a0 a1 a2 a3 a4 a5 a6=>bif decide (a2<a1) then bif decide (0≤a2) then (a0[Int.toNat a2]?).bind fun y0=>Option.bind (α:=Bool) ( bif a6 then (qbL (TThread.name y0)).bind fun y1=>some (y1) else some (false)) fun y2=>rec (a0) (a1) (IntKind.wrap IntKind.i64 (a2+(1:Int))) (a3) (a4) (a5) (y2) else none else some ((a3),(a4),(a5),(a6))
def qbH_i13:Nat→qbH_o13
 |0=>fun _ _ _ _ _ _ _=>none
 |n+1=>qbH_t13 (qbH_i13 n)
def qbH_l13:=sealF (qbH_i13 fuel)
def qbH_f (a0:TProg):Option (Bool):=(qbH_l3 (TProg.cells a0) (List.length (TProg.cells a0):Int) (0:Int) (TProg.cells a0) (TProg.mutexes a0) (TProg.threads a0) true).bind fun y0=>(qbH_l8 y0.2.1 (List.length y0.2.1:Int) (0:Int) y0.1 y0.2.1 y0.2.2.1 y0.2.2.2).bind fun y1=>(qbH_l13 y1.2.2.1 (List.length y1.2.2.1:Int) (0:Int) y1.1 y1.2.1 y1.2.2.1 y1.2.2.2).bind fun y2=>bif y2.2.2.2 then (qaf (TProg.mk y2.1 y2.2.1 y2.2.2.1) y2.2.2.2).bind fun y3=>some (y3) else some y2.2.2.2
def qbH:=sealF (qbH_f)
def qbD_f (a0:TStmt) (a1:Int) (a2:Int):Option (Int):=some (if a1>a2 then a1 else a2)
def qbD:=sealF (qbD_f)
def qbE_f (a0:TExpr) (a1:Int) (a2:Int):Option (Int):=some (if a1>a2 then a1 else a2)
def qbE:=sealF (qbE_f)
abbrev qad_o:=TExpr→Int→Int→Option (Int)
abbrev qad_o3:=Int→List TExpr→Int→Int→Int→Option (Int)
def qad_t3 (rec_qad:qad_o) (rec:qad_o3):qad_o3:=fun a0 a1 a2 a3 a4=>bif decide (a3<a2) then bif decide (0≤a3) then (a1[Int.toNat a3]?).bind fun y0=>(rec_qad (TExpr.mk (TExpr.kind y0) (TExpr.num y0) (TExpr.name y0) (TExpr.args y0)) (IntKind.wrap IntKind.i64 (a0+(1:Int))) a4).bind fun y1=>rec (a0) (a1) (a2) (IntKind.wrap IntKind.i64 (a3+(1:Int))) (y1) else none else some (a4)
def qad_i3 (rec_qad:qad_o):Nat→qad_o3
 |0=>fun _ _ _ _ _=>none
 |n+1=>qad_t3 rec_qad (qad_i3 rec_qad n)
def qad_l3 (rec_qad:qad_o):=sealF (qad_i3 rec_qad fuel)
def qad_f (rec_qad:qad_o):qad_o:=fun a0 a1 a2=>(qbE (TExpr.mk (TExpr.kind a0) (TExpr.num a0) (TExpr.name a0) (TExpr.args a0)) a1 a2).bind fun y0=>(qad_l3 rec_qad a1 (TExpr.args a0) (List.length (TExpr.args a0):Int) (0:Int) y0).bind fun y1=>some (y1)
def qad_i:Nat→qad_o
 |0=>fun _ _ _=>none
 |n+1=>qad_f (qad_i n)
def qad:=sealF (qad_i fuel)
abbrev qaj_o:=List TStmt→Int→Int→Option (Int)
abbrev qaj_o2:=Int→List TStmt→Int→Int→Int→Option (Int)
def qaj_t2 (rec_qaj:qaj_o) (rec:qaj_o2):qaj_o2:=fun a0 a1 a2 a3 a4=>bif decide (a3<a2) then bif decide (0≤a3) then (a1[Int.toNat a3]?).bind fun y0=>(qbD (TStmt.mk (TStmt.kind y0) (TStmt.reg y0) (TStmt.name y0) (TExpr.mk (TExpr.kind (TStmt.expr y0)) (TExpr.num (TStmt.expr y0)) (TExpr.name (TStmt.expr y0)) (TExpr.args (TStmt.expr y0))) (TStmt.count y0) (TStmt.then_ y0) (TStmt.else_ y0)) a0 a4).bind fun y1=>Option.bind (α:=Bool) ( bif TExpr.kind (TStmt.expr y0) != 0 then some (true) else some (decide ((↑(List.length (TExpr.args (TStmt.expr y0))):Int)>0))) fun y2=>bif y2 then (qad (TExpr.mk (TExpr.kind (TStmt.expr y0)) (TExpr.num (TStmt.expr y0)) (TExpr.name (TStmt.expr y0)) (TExpr.args (TStmt.expr y0))) (1:Int) y1).bind fun y3=>(rec_qaj (TStmt.then_ y0) (IntKind.wrap IntKind.i64 (a0+(1:Int))) y3).bind fun y4=>(rec_qaj (TStmt.else_ y0) (IntKind.wrap IntKind.i64 (a0+(1:Int))) y4).bind fun y5=>rec (a0) (a1) (a2) (IntKind.wrap IntKind.i64 (a3+(1:Int))) (y5) else (rec_qaj (TStmt.then_ y0) (IntKind.wrap IntKind.i64 (a0+(1:Int))) y1).bind fun y6=>(rec_qaj (TStmt.else_ y0) (IntKind.wrap IntKind.i64 (a0+(1:Int))) y6).bind fun y7=>rec (a0) (a1) (a2) (IntKind.wrap IntKind.i64 (a3+(1:Int))) (y7) else none else some (a4)
def qaj_i2 (rec_qaj:qaj_o):Nat→qaj_o2
 |0=>fun _ _ _ _ _=>none
 |n+1=>qaj_t2 rec_qaj (qaj_i2 rec_qaj n)
def qaj_l2 (rec_qaj:qaj_o):=sealF (qaj_i2 rec_qaj fuel)
def qaj_f (rec_qaj:qaj_o):qaj_o:=fun a0 a1 a2=>(qaj_l2 rec_qaj a1 a0 (List.length a0:Int) (0:Int) a2).bind fun y0=>some (y0)
def qaj_i:Nat→qaj_o
 |0=>fun _ _ _=>none
 |n+1=>qaj_f (qaj_i n)
def qaj:=sealF (qaj_i fuel)
abbrev qag_o2:=List TThread→Int→Int→Int→Option (Int)
def qag_t2 (rec:qag_o2):qag_o2:=fun a0 a1 a2 a3=>bif decide (a2<a1) then bif decide (0≤a2) then (a0[Int.toNat a2]?).bind fun y0=>(qaj (TThread.body y0) (1:Int) a3).bind fun y1=>rec (a0) (a1) (IntKind.wrap IntKind.i64 (a2+(1:Int))) (y1) else none else some (a3)
def qag_i2:Nat→qag_o2
 |0=>fun _ _ _ _=>none
 |n+1=>qag_t2 (qag_i2 n)
def qag_l2:=sealF (qag_i2 fuel)
def qag_f (a0:TProg) (a1:Int):Option (Int):=(qag_l2 (TProg.threads a0) (List.length (TProg.threads a0):Int) (0:Int) a1).bind fun y0=>some (y0)
def qag:=sealF (qag_f)
def qbC_f (a0:TProg):Option (Int):=(qag (TProg.mk (TProg.cells a0) (TProg.mutexes a0) (TProg.threads a0)) (0:Int)).bind fun y0=>some (y0)
def qbC:=sealF (qbC_f)
def qbA_f (a0:TStmt) (a1:Int) (a2:Int):Option (Int):=some (IntKind.wrap IntKind.i64 (a2+(1:Int)))
def qbA:=sealF (qbA_f)
def qbB_f (a0:TExpr) (a1:Int) (a2:Int):Option (Int):=some (IntKind.wrap IntKind.i64 (a2+(1:Int)))
def qbB:=sealF (qbB_f)
abbrev qae_o:=TExpr→Int→Int→Option (Int)
abbrev qae_o3:=Int→List TExpr→Int→Int→Int→Option (Int)
def qae_t3 (rec_qae:qae_o) (rec:qae_o3):qae_o3:=fun a0 a1 a2 a3 a4=>bif decide (a3<a2) then bif decide (0≤a3) then (a1[Int.toNat a3]?).bind fun y0=>(rec_qae (TExpr.mk (TExpr.kind y0) (TExpr.num y0) (TExpr.name y0) (TExpr.args y0)) (IntKind.wrap IntKind.i64 (a0+(1:Int))) a4).bind fun y1=>rec (a0) (a1) (a2) (IntKind.wrap IntKind.i64 (a3+(1:Int))) (y1) else none else some (a4)
def qae_i3 (rec_qae:qae_o):Nat→qae_o3
 |0=>fun _ _ _ _ _=>none
 |n+1=>qae_t3 rec_qae (qae_i3 rec_qae n)
def qae_l3 (rec_qae:qae_o):=sealF (qae_i3 rec_qae fuel)
def qae_f (rec_qae:qae_o):qae_o:=fun a0 a1 a2=>(qbB (TExpr.mk (TExpr.kind a0) (TExpr.num a0) (TExpr.name a0) (TExpr.args a0)) a1 a2).bind fun y0=>(qae_l3 rec_qae a1 (TExpr.args a0) (List.length (TExpr.args a0):Int) (0:Int) y0).bind fun y1=>some (y1)
def qae_i:Nat→qae_o
 |0=>fun _ _ _=>none
 |n+1=>qae_f (qae_i n)
def qae:=sealF (qae_i fuel)
abbrev qak_o:=List TStmt→Int→Int→Option (Int)
abbrev qak_o2:=Int→List TStmt→Int→Int→Int→Option (Int)
def qak_t2 (rec_qak:qak_o) (rec:qak_o2):qak_o2:=fun a0 a1 a2 a3 a4=>bif decide (a3<a2) then bif decide (0≤a3) then (a1[Int.toNat a3]?).bind fun y0=>(qbA (TStmt.mk (TStmt.kind y0) (TStmt.reg y0) (TStmt.name y0) (TExpr.mk (TExpr.kind (TStmt.expr y0)) (TExpr.num (TStmt.expr y0)) (TExpr.name (TStmt.expr y0)) (TExpr.args (TStmt.expr y0))) (TStmt.count y0) (TStmt.then_ y0) (TStmt.else_ y0)) a0 a4).bind fun y1=>Option.bind (α:=Bool) ( bif TExpr.kind (TStmt.expr y0) != 0 then some (true) else some (decide ((↑(List.length (TExpr.args (TStmt.expr y0))):Int)>0))) fun y2=>bif y2 then (qae (TExpr.mk (TExpr.kind (TStmt.expr y0)) (TExpr.num (TStmt.expr y0)) (TExpr.name (TStmt.expr y0)) (TExpr.args (TStmt.expr y0))) (1:Int) y1).bind fun y3=>(rec_qak (TStmt.then_ y0) (IntKind.wrap IntKind.i64 (a0+(1:Int))) y3).bind fun y4=>(rec_qak (TStmt.else_ y0) (IntKind.wrap IntKind.i64 (a0+(1:Int))) y4).bind fun y5=>rec (a0) (a1) (a2) (IntKind.wrap IntKind.i64 (a3+(1:Int))) (y5) else (rec_qak (TStmt.then_ y0) (IntKind.wrap IntKind.i64 (a0+(1:Int))) y1).bind fun y6=>(rec_qak (TStmt.else_ y0) (IntKind.wrap IntKind.i64 (a0+(1:Int))) y6).bind fun y7=>rec (a0) (a1) (a2) (IntKind.wrap IntKind.i64 (a3+(1:Int))) (y7) else none else some (a4)
def qak_i2 (rec_qak:qak_o):Nat→qak_o2
 |0=>fun _ _ _ _ _=>none
 |n+1=>qak_t2 rec_qak (qak_i2 rec_qak n)
def qak_l2 (rec_qak:qak_o):=sealF (qak_i2 rec_qak fuel)
def qak_f (rec_qak:qak_o):qak_o:=fun a0 a1 a2=>(qak_l2 rec_qak a1 a0 (List.length a0:Int) (0:Int) a2).bind fun y0=>some (y0)
def qak_i:Nat→qak_o
 |0=>fun _ _ _=>none
 |n+1=>qak_f (qak_i n)
def qak:=sealF (qak_i fuel)
abbrev qah_o2:=List TThread→Int→Int→Int→Option (Int)
def qah_t2 (rec:qah_o2):qah_o2:=fun a0 a1 a2 a3=>bif decide (a2<a1) then bif decide (0≤a2) then (a0[Int.toNat a2]?).bind fun y0=>(qak (TThread.body y0) (1:Int) a3).bind fun y1=>rec (a0) (a1) (IntKind.wrap IntKind.i64 (a2+(1:Int))) (y1) else none else some (a3)
def qah_i2:Nat→qah_o2
 |0=>fun _ _ _ _=>none
 |n+1=>qah_t2 (qah_i2 n)
def qah_l2:=sealF (qah_i2 fuel)
def qah_f (a0:TProg) (a1:Int):Option (Int):=(qah_l2 (TProg.threads a0) (List.length (TProg.threads a0):Int) (0:Int) a1).bind fun y0=>some (y0)
def qah:=sealF (qah_f)
def qbz_f (a0:TProg):Option (Int):=(qah (TProg.mk (TProg.cells a0) (TProg.mutexes a0) (TProg.threads a0)) (0:Int)).bind fun y0=>some (y0)
def qbz:=sealF (qbz_f)
def qbF_f (a0:TProg):Option (Int):=(qbH (TProg.mk (TProg.cells a0) (TProg.mutexes a0) (TProg.threads a0))).bind fun y0=>bif !y0 then some ((30:Int)) else (qbC (TProg.mk (TProg.cells a0) (TProg.mutexes a0) (TProg.threads a0))).bind fun y1=>bif decide (y1>16) then some ((31:Int)) else (qbz (TProg.mk (TProg.cells a0) (TProg.mutexes a0) (TProg.threads a0))).bind fun y2=>bif decide (y2>500) then some ((32:Int)) else some ((0:Int))
def qbF:=sealF (qbF_f)
def qbw_f (a0:List (List UInt8)):Option ((List (List UInt8))):=bif List.isEmpty a0 then both ( some ([])) ( bif decide (((0:Nat)+List.length a0)*(16:Nat)≤(140737488355328:Nat)∧(0:Nat)+List.length a0≤(9223372036854775807:Nat)) then some ([]++a0) else none) else bif decide (((0:Nat)+List.length a0)*(16:Nat)≤(140737488355328:Nat)∧(0:Nat)+List.length a0≤(9223372036854775807:Nat)) then some ([]++a0) else none
def qbw:=sealF (qbw_f)
def qbv_f (a0:List (List UInt8)):Option ((List (List UInt8))):=bif decide ((List.length a0:Int)=(List.length a0:Int))&&decide ((List.length a0:Int)=(List.length a0:Int)) then some (a0) else none
def qbv:=sealF (qbv_f)
def qar_f (a0:List (List UInt8)) (a1:Int) (a2:Int):Option ((Unit)⊕(Refused)):=bif decide ((List.length a0:Int)>a1) then bif decide (0≤a1) then (a0[Int.toNat a1]?).bind fun y0=>some (.inr (Refused.mk a2 y0)) else none else some (.inl ())
def qar:=sealF (qar_f)
abbrev qaq_o11:=Int→Int→Int→List (List UInt8)→Int→Int→List ((List UInt8)×(Thing))→List (List (List UInt8))→List (List UInt8)→Option ((Refused)⊕(Int×Int×(List ((List UInt8)×(Thing)))×(List (List (List UInt8)))×(List (List UInt8))))
def qaq_t11 (rec:qaq_o11):qaq_o11:=fun a0 a1 a2 a3 a4 a5 a6 a7 a8=>bif decide (a5<a4) then bif decide (0≤a5) then (a3[Int.toNat a5]?).bind fun y0=>bif Option.isSome (mapAt a6 y0) then some (.inl (Refused.mk (63:Int) y0)) else rec (a0) (a1) (a2) (a3) (a4) (IntKind.wrap IntKind.i64 (a5+(1:Int))) (zaau y0 (Thing.mk (IntKind.wrap IntKind.i64 ((1:Int)+a0)) a5) a6) (a7) (a8) else none else some (.inr ((a1),(a2),(a6),(a7),(a8)))
def qaq_i11:Nat→qaq_o11
 |0=>fun _ _ _ _ _ _ _ _ _=>none
 |n+1=>qaq_t11 (qaq_i11 n)
def qaq_l11:=sealF (qaq_i11 fuel)
abbrev qaq_o8:=Int→Int→List ((List UInt8)×(Thing))→List (List (List UInt8))→List (List UInt8)→Option ((Refused)⊕((List ((List UInt8)×(Thing)))×(List (List UInt8))))
def qaq_t8 (rec:qaq_o8):qaq_o8:=fun a0 a1 a2 a3 a4=>bif decide (a1<a0) then bif decide (0≤a1)&&decide (a1<(List.length a3:Int)) then (a3[Int.toNat a1]?).bind fun y0=>(qaq_l11 a1 a0 a1 y0 (List.length y0:Int) (0:Int) a2 a3 a4).bind fun y1=>(match y1 with|.inl y2=>some (.inl (y2))|.inr y2=>rec y2.1 (IntKind.wrap IntKind.i64 (y2.2.1+(1:Int))) y2.2.2.1 y2.2.2.2.1 y2.2.2.2.2) else none else some (.inr ((a2),(a4)))
def qaq_i8:Nat→qaq_o8
 |0=>fun _ _ _ _ _=>none
 |n+1=>qaq_t8 (qaq_i8 n)
def qaq_l8:=sealF (qaq_i8 fuel)
def qaq_f (a0:Names) (a1:List ((List UInt8)×(Thing))) (a2:List (List UInt8)):Option (((List ((List UInt8)×(Thing)))×(List (List UInt8)))⊕(Refused)):=bif (List.length (Names.threads a0):Int)==0 then some (.inr (Refused.mk (60:Int) [])) else (qar (Names.threads a0) (8:Int) (60:Int)).bind fun y0=>(match y0 with|.inl y1=>(qar (Names.cells a0) (8:Int) (61:Int)).bind fun y2=>(match y2 with|.inl y3=>(qar (Names.mutexes a0) (8:Int) (62:Int)).bind fun y4=>(match y4 with|.inl y5=>(qaq_l8 (List.length [Names.cells a0,Names.mutexes a0,Names.threads a0]:Int) (0:Int) a1 [Names.cells a0,Names.mutexes a0,Names.threads a0] a2).bind fun y6=>(match y6 with|.inl y7=>some (.inr (y7))|.inr y7=>some (.inl (y7.1,y7.2)))|.inr y5=>some (.inr (y5)))|.inr y3=>some (.inr (y3)))|.inr y1=>some (.inr (y1)))
def qaq:=sealF (qaq_f)
def qas_f (a0:List UInt8) (a1:List ((List UInt8)×(Thing))) (a2:List (List UInt8)):Option ((Int×(List ((List UInt8)×(Thing)))×(List (List UInt8)))⊕(Refused)):=bif Option.isSome (mapAt a1 a0) then some (.inr (Refused.mk (65:Int) a0)) else (qby a2 a0).bind fun y0=>bif decide (y0<0) then bif (List.length a2:Int)==8 then some (.inr (Refused.mk (66:Int) a0)) else bif decide ((List.length a2+List.length [a0])*(16:Nat)≤(140737488355328:Nat)∧List.length a2+List.length [a0]≤(9223372036854775807:Nat)) then some (.inl (((List.length a2:Int)),(a1),(a2++[a0]))) else none else some (.inl ((y0),(a1),(a2)))
def qas:=sealF (qas_f)
def qau_f (a0:Int):Option (Int):=bif a0==2 then bif a0==2 then some ((1:Int)) else bif a0==5 then bif a0==5 then some ((2:Int)) else bif a0==7 then bif a0==7 then some ((3:Int)) else some ((0:Int)) else bif a0==8 then some ((3:Int)) else some ((0:Int)) else bif a0==6 then some ((2:Int)) else bif a0==7 then bif a0==7 then some ((3:Int)) else some ((0:Int)) else bif a0==8 then some ((3:Int)) else some ((0:Int)) else bif a0==3 then bif a0==3 then some ((1:Int)) else bif a0==5 then bif a0==5 then some ((2:Int)) else bif a0==7 then bif a0==7 then some ((3:Int)) else some ((0:Int)) else bif a0==8 then some ((3:Int)) else some ((0:Int)) else bif a0==6 then some ((2:Int)) else bif a0==7 then bif a0==7 then some ((3:Int)) else some ((0:Int)) else bif a0==8 then some ((3:Int)) else some ((0:Int)) else bif a0==4 then some ((1:Int)) else bif a0==5 then bif a0==5 then some ((2:Int)) else bif a0==7 then bif a0==7 then some ((3:Int)) else some ((0:Int)) else bif a0==8 then some ((3:Int)) else some ((0:Int)) else bif a0==6 then some ((2:Int)) else bif a0==7 then bif a0==7 then some ((3:Int)) else some ((0:Int)) else bif a0==8 then some ((3:Int)) else some ((0:Int))
def qau:=sealF (qau_f)
abbrev qap_o:=TExpr→List ((List UInt8)×(Thing))→List (List UInt8)→Option ((Int×Int×(List UInt8)×(List ((List UInt8)×(Thing)))×(List TExpr)×(List (List UInt8)))⊕(Refused))
abbrev qap_o5:=List TExpr→Int→Int→List ((List UInt8)×(Thing))→Int→Int→List UInt8→Int→Int→List UInt8→List (List UInt8)→List TExpr→Option ((Refused)⊕((List ((List UInt8)×(Thing)))×Int×Int×(List UInt8)×Int×Int×(List UInt8)×(List (List UInt8))×(List TExpr)))
def qap_t5 (rec_qap:qap_o) (rec:qap_o5):qap_o5:=fun a0 a1 a2 a3 a4 a5 a6 a7 a8 a9 a10 a11=>bif decide (a2<a1) then bif decide (0≤a2) then (a0[Int.toNat a2]?).bind fun y0=>(rec_qap (TExpr.mk (TExpr.kind y0) (TExpr.num y0) (TExpr.name y0) (TExpr.args y0)) a3 a10).bind fun y1=>(match y1 with|.inl y2=>bif decide ((List.length a11+List.length [TExpr.mk y2.1 y2.2.1 y2.2.2.1 y2.2.2.2.2.1])*(56:Nat)≤(140737488355328:Nat)∧List.length a11+List.length [TExpr.mk y2.1 y2.2.1 y2.2.2.1 y2.2.2.2.2.1]≤(9223372036854775807:Nat)) then rec (a0) (a1) (IntKind.wrap IntKind.i64 (a2+(1:Int))) y2.2.2.2.1 (a4) (a5) (a6) (a7) (a8) (a9) y2.2.2.2.2.2 (a11++[TExpr.mk y2.1 y2.2.1 y2.2.2.1 y2.2.2.2.2.1]) else none|.inr y2=>some (.inl (y2))) else none else some (.inr ((a3),(a4),(a5),(a6),(a7),(a8),(a9),(a10),(a11)))
def qap_i5 (rec_qap:qap_o):Nat→qap_o5
 |0=>fun _ _ _ _ _ _ _ _ _ _ _ _=>none
 |n+1=>qap_t5 rec_qap (qap_i5 rec_qap n)
def qap_l5 (rec_qap:qap_o):=sealF (qap_i5 rec_qap fuel)
def qap_f (rec_qap:qap_o):qap_o:=fun a0 a1 a2=>bif TExpr.kind a0==2 then (qas (TExpr.name a0) a1 a2).bind fun y0=>(match y0 with|.inl y1=>(qap_l5 rec_qap (TExpr.args a0) (List.length (TExpr.args a0):Int) (0:Int) y1.2.1 (0:Int) (0:Int) [] (TExpr.kind a0) y1.1 [] y1.2.2 []).bind fun y2=>(match y2 with|.inl y3=>some (.inr (y3))|.inr y3=>some (.inl (y3.2.2.2.2.1,y3.2.2.2.2.2.1,y3.2.2.2.2.2.2.1,y3.1,y3.2.2.2.2.2.2.2.2,y3.2.2.2.2.2.2.2.1)))|.inr y1=>some (.inr (y1))) else (qap_l5 rec_qap (TExpr.args a0) (List.length (TExpr.args a0):Int) (0:Int) a1 (0:Int) (0:Int) [] (TExpr.kind a0) (TExpr.num a0) [] a2 []).bind fun y4=>(match y4 with|.inl y5=>some (.inr (y5))|.inr y5=>some (.inl (y5.2.2.2.2.1,y5.2.2.2.2.2.1,y5.2.2.2.2.2.2.1,y5.1,y5.2.2.2.2.2.2.2.2,y5.2.2.2.2.2.2.2.1)))
def qap_i:Nat→qap_o
 |0=>fun _ _ _=>none
 |n+1=>qap_f (qap_i n)
def qap:=sealF (qap_i fuel)
abbrev qao_o:=List TStmt→List ((List UInt8)×(Thing))→List (List UInt8)→Option (((List ((List UInt8)×(Thing)))×(List TAct)×(List (List UInt8)))⊕(Refused))
abbrev qao_o3:=List TStmt→Int→Int→List ((List UInt8)×(Thing))→List (List UInt8)→List TAct→Option ((Refused)⊕((List ((List UInt8)×(Thing)))×(List TAct)×(List (List UInt8))))
def qao_t3 (rec_qao:qao_o) (rec:qao_o3):qao_o3:=fun a0 a1 a2 a3 a4 a5=>bif decide (a2<a1) then bif decide (0≤a2) then (a0[Int.toNat a2]?).bind fun y0=>bif !TStmt.reg y0==[] then (qas (TStmt.reg y0) a3 a4).bind fun y1=>(match y1 with|.inl y2=>(qau (TStmt.kind y0)).bind fun y3=>bif y3 != 0 then bif !Option.isSome (mapAt y2.2.1 (TStmt.name y0)) then some (.inl (Refused.mk (64:Int) (TStmt.name y0))) else bif Thing.kind (Option.getD (mapAt y2.2.1 (TStmt.name y0)) (Thing.mk (0:Int) (0:Int))) != y3 then some (.inl (Refused.mk (65:Int) (TStmt.name y0))) else bif TExpr.kind (TStmt.expr y0) != 0 then (qap (TExpr.mk (TExpr.kind (TStmt.expr y0)) (TExpr.num (TStmt.expr y0)) (TExpr.name (TStmt.expr y0)) (TExpr.args (TStmt.expr y0))) y2.2.1 y2.2.2).bind fun y4=>(match y4 with|.inl y5=>(rec_qao (TStmt.then_ y0) y5.2.2.2.1 y5.2.2.2.2.2).bind fun y6=>(match y6 with|.inl y7=>(rec_qao (TStmt.else_ y0) y7.1 y7.2.2).bind fun y8=>(match y8 with|.inl y9=>bif decide ((List.length a5+List.length [TAct.mk (TStmt.kind y0) y2.1 (Thing.number (Option.getD (mapAt y2.2.1 (TStmt.name y0)) (Thing.mk (0:Int) (0:Int)))) (TExpr.mk y5.1 y5.2.1 y5.2.2.1 y5.2.2.2.2.1) (TStmt.count y0) y7.2.1 y9.2.1])*(136:Nat)≤(140737488355328:Nat)∧List.length a5+List.length [TAct.mk (TStmt.kind y0) y2.1 (Thing.number (Option.getD (mapAt y2.2.1 (TStmt.name y0)) (Thing.mk (0:Int) (0:Int)))) (TExpr.mk y5.1 y5.2.1 y5.2.2.1 y5.2.2.2.2.1) (TStmt.count y0) y7.2.1 y9.2.1]≤(9223372036854775807:Nat)) then rec (a0) (a1) (IntKind.wrap IntKind.i64 (a2+(1:Int))) y9.1 y9.2.2 (a5++[TAct.mk (TStmt.kind y0) y2.1 (Thing.number (Option.getD (mapAt y2.2.1 (TStmt.name y0)) (Thing.mk (0:Int) (0:Int)))) (TExpr.mk y5.1 y5.2.1 y5.2.2.1 y5.2.2.2.2.1) (TStmt.count y0) y7.2.1 y9.2.1]) else none|.inr y9=>some (.inl (y9)))|.inr y7=>some (.inl (y7)))|.inr y5=>some (.inl (y5))) else (rec_qao (TStmt.then_ y0) y2.2.1 y2.2.2).bind fun y10=>(match y10 with|.inl y11=>(rec_qao (TStmt.else_ y0) y11.1 y11.2.2).bind fun y12=>(match y12 with|.inl y13=>bif decide ((List.length a5+List.length [TAct.mk (TStmt.kind y0) y2.1 (Thing.number (Option.getD (mapAt y2.2.1 (TStmt.name y0)) (Thing.mk (0:Int) (0:Int)))) (TExpr.mk (0:Int) (0:Int) [] []) (TStmt.count y0) y11.2.1 y13.2.1])*(136:Nat)≤(140737488355328:Nat)∧List.length a5+List.length [TAct.mk (TStmt.kind y0) y2.1 (Thing.number (Option.getD (mapAt y2.2.1 (TStmt.name y0)) (Thing.mk (0:Int) (0:Int)))) (TExpr.mk (0:Int) (0:Int) [] []) (TStmt.count y0) y11.2.1 y13.2.1]≤(9223372036854775807:Nat)) then rec (a0) (a1) (IntKind.wrap IntKind.i64 (a2+(1:Int))) y13.1 y13.2.2 (a5++[TAct.mk (TStmt.kind y0) y2.1 (Thing.number (Option.getD (mapAt y2.2.1 (TStmt.name y0)) (Thing.mk (0:Int) (0:Int)))) (TExpr.mk (0:Int) (0:Int) [] []) (TStmt.count y0) y11.2.1 y13.2.1]) else none|.inr y13=>some (.inl (y13)))|.inr y11=>some (.inl (y11))) else bif TExpr.kind (TStmt.expr y0) != 0 then (qap (TExpr.mk (TExpr.kind (TStmt.expr y0)) (TExpr.num (TStmt.expr y0)) (TExpr.name (TStmt.expr y0)) (TExpr.args (TStmt.expr y0))) y2.2.1 y2.2.2).bind fun y14=>(match y14 with|.inl y15=>(rec_qao (TStmt.then_ y0) y15.2.2.2.1 y15.2.2.2.2.2).bind fun y16=>(match y16 with|.inl y17=>(rec_qao (TStmt.else_ y0) y17.1 y17.2.2).bind fun y18=>(match y18 with|.inl y19=>bif decide ((List.length a5+List.length [TAct.mk (TStmt.kind y0) y2.1 (0:Int) (TExpr.mk y15.1 y15.2.1 y15.2.2.1 y15.2.2.2.2.1) (TStmt.count y0) y17.2.1 y19.2.1])*(136:Nat)≤(140737488355328:Nat)∧List.length a5+List.length [TAct.mk (TStmt.kind y0) y2.1 (0:Int) (TExpr.mk y15.1 y15.2.1 y15.2.2.1 y15.2.2.2.2.1) (TStmt.count y0) y17.2.1 y19.2.1]≤(9223372036854775807:Nat)) then rec (a0) (a1) (IntKind.wrap IntKind.i64 (a2+(1:Int))) y19.1 y19.2.2 (a5++[TAct.mk (TStmt.kind y0) y2.1 (0:Int) (TExpr.mk y15.1 y15.2.1 y15.2.2.1 y15.2.2.2.2.1) (TStmt.count y0) y17.2.1 y19.2.1]) else none|.inr y19=>some (.inl (y19)))|.inr y17=>some (.inl (y17)))|.inr y15=>some (.inl (y15))) else (rec_qao (TStmt.then_ y0) y2.2.1 y2.2.2).bind fun y20=>(match y20 with|.inl y21=>(rec_qao (TStmt.else_ y0) y21.1 y21.2.2).bind fun y22=>(match y22 with|.inl y23=>bif decide ((List.length a5+List.length [TAct.mk (TStmt.kind y0) y2.1 (0:Int) (TExpr.mk (0:Int) (0:Int) [] []) (TStmt.count y0) y21.2.1 y23.2.1])*(136:Nat)≤(140737488355328:Nat)∧List.length a5+List.length [TAct.mk (TStmt.kind y0) y2.1 (0:Int) (TExpr.mk (0:Int) (0:Int) [] []) (TStmt.count y0) y21.2.1 y23.2.1]≤(9223372036854775807:Nat)) then rec (a0) (a1) (IntKind.wrap IntKind.i64 (a2+(1:Int))) y23.1 y23.2.2 (a5++[TAct.mk (TStmt.kind y0) y2.1 (0:Int) (TExpr.mk (0:Int) (0:Int) [] []) (TStmt.count y0) y21.2.1 y23.2.1]) else none|.inr y23=>some (.inl (y23)))|.inr y21=>some (.inl (y21)))|.inr y2=>some (.inl (y2))) else (qau (TStmt.kind y0)).bind fun y24=>bif y24 != 0 then bif !Option.isSome (mapAt a3 (TStmt.name y0)) then some (.inl (Refused.mk (64:Int) (TStmt.name y0))) else bif Thing.kind (Option.getD (mapAt a3 (TStmt.name y0)) (Thing.mk (0:Int) (0:Int))) != y24 then some (.inl (Refused.mk (65:Int) (TStmt.name y0))) else bif TExpr.kind (TStmt.expr y0) != 0 then (qap (TExpr.mk (TExpr.kind (TStmt.expr y0)) (TExpr.num (TStmt.expr y0)) (TExpr.name (TStmt.expr y0)) (TExpr.args (TStmt.expr y0))) a3 a4).bind fun y25=>(match y25 with|.inl y26=>(rec_qao (TStmt.then_ y0) y26.2.2.2.1 y26.2.2.2.2.2).bind fun y27=>(match y27 with|.inl y28=>(rec_qao (TStmt.else_ y0) y28.1 y28.2.2).bind fun y29=>(match y29 with|.inl y30=>bif decide ((List.length a5+List.length [TAct.mk (TStmt.kind y0) (0:Int) (Thing.number (Option.getD (mapAt a3 (TStmt.name y0)) (Thing.mk (0:Int) (0:Int)))) (TExpr.mk y26.1 y26.2.1 y26.2.2.1 y26.2.2.2.2.1) (TStmt.count y0) y28.2.1 y30.2.1])*(136:Nat)≤(140737488355328:Nat)∧List.length a5+List.length [TAct.mk (TStmt.kind y0) (0:Int) (Thing.number (Option.getD (mapAt a3 (TStmt.name y0)) (Thing.mk (0:Int) (0:Int)))) (TExpr.mk y26.1 y26.2.1 y26.2.2.1 y26.2.2.2.2.1) (TStmt.count y0) y28.2.1 y30.2.1]≤(9223372036854775807:Nat)) then rec (a0) (a1) (IntKind.wrap IntKind.i64 (a2+(1:Int))) y30.1 y30.2.2 (a5++[TAct.mk (TStmt.kind y0) (0:Int) (Thing.number (Option.getD (mapAt a3 (TStmt.name y0)) (Thing.mk (0:Int) (0:Int)))) (TExpr.mk y26.1 y26.2.1 y26.2.2.1 y26.2.2.2.2.1) (TStmt.count y0) y28.2.1 y30.2.1]) else none|.inr y30=>some (.inl (y30)))|.inr y28=>some (.inl (y28)))|.inr y26=>some (.inl (y26))) else (rec_qao (TStmt.then_ y0) a3 a4).bind fun y31=>(match y31 with|.inl y32=>(rec_qao (TStmt.else_ y0) y32.1 y32.2.2).bind fun y33=>(match y33 with|.inl y34=>bif decide ((List.length a5+List.length [TAct.mk (TStmt.kind y0) (0:Int) (Thing.number (Option.getD (mapAt a3 (TStmt.name y0)) (Thing.mk (0:Int) (0:Int)))) (TExpr.mk (0:Int) (0:Int) [] []) (TStmt.count y0) y32.2.1 y34.2.1])*(136:Nat)≤(140737488355328:Nat)∧List.length a5+List.length [TAct.mk (TStmt.kind y0) (0:Int) (Thing.number (Option.getD (mapAt a3 (TStmt.name y0)) (Thing.mk (0:Int) (0:Int)))) (TExpr.mk (0:Int) (0:Int) [] []) (TStmt.count y0) y32.2.1 y34.2.1]≤(9223372036854775807:Nat)) then rec (a0) (a1) (IntKind.wrap IntKind.i64 (a2+(1:Int))) y34.1 y34.2.2 (a5++[TAct.mk (TStmt.kind y0) (0:Int) (Thing.number (Option.getD (mapAt a3 (TStmt.name y0)) (Thing.mk (0:Int) (0:Int)))) (TExpr.mk (0:Int) (0:Int) [] []) (TStmt.count y0) y32.2.1 y34.2.1]) else none|.inr y34=>some (.inl (y34)))|.inr y32=>some (.inl (y32))) else bif TExpr.kind (TStmt.expr y0) != 0 then (qap (TExpr.mk (TExpr.kind (TStmt.expr y0)) (TExpr.num (TStmt.expr y0)) (TExpr.name (TStmt.expr y0)) (TExpr.args (TStmt.expr y0))) a3 a4).bind fun y35=>(match y35 with|.inl y36=>(rec_qao (TStmt.then_ y0) y36.2.2.2.1 y36.2.2.2.2.2).bind fun y37=>(match y37 with|.inl y38=>(rec_qao (TStmt.else_ y0) y38.1 y38.2.2).bind fun y39=>(match y39 with|.inl y40=>bif decide ((List.length a5+List.length [TAct.mk (TStmt.kind y0) (0:Int) (0:Int) (TExpr.mk y36.1 y36.2.1 y36.2.2.1 y36.2.2.2.2.1) (TStmt.count y0) y38.2.1 y40.2.1])*(136:Nat)≤(140737488355328:Nat)∧List.length a5+List.length [TAct.mk (TStmt.kind y0) (0:Int) (0:Int) (TExpr.mk y36.1 y36.2.1 y36.2.2.1 y36.2.2.2.2.1) (TStmt.count y0) y38.2.1 y40.2.1]≤(9223372036854775807:Nat)) then rec (a0) (a1) (IntKind.wrap IntKind.i64 (a2+(1:Int))) y40.1 y40.2.2 (a5++[TAct.mk (TStmt.kind y0) (0:Int) (0:Int) (TExpr.mk y36.1 y36.2.1 y36.2.2.1 y36.2.2.2.2.1) (TStmt.count y0) y38.2.1 y40.2.1]) else none|.inr y40=>some (.inl (y40)))|.inr y38=>some (.inl (y38)))|.inr y36=>some (.inl (y36))) else (rec_qao (TStmt.then_ y0) a3 a4).bind fun y41=>(match y41 with|.inl y42=>(rec_qao (TStmt.else_ y0) y42.1 y42.2.2).bind fun y43=>(match y43 with|.inl y44=>bif decide ((List.length a5+List.length [TAct.mk (TStmt.kind y0) (0:Int) (0:Int) (TExpr.mk (0:Int) (0:Int) [] []) (TStmt.count y0) y42.2.1 y44.2.1])*(136:Nat)≤(140737488355328:Nat)∧List.length a5+List.length [TAct.mk (TStmt.kind y0) (0:Int) (0:Int) (TExpr.mk (0:Int) (0:Int) [] []) (TStmt.count y0) y42.2.1 y44.2.1]≤(9223372036854775807:Nat)) then rec (a0) (a1) (IntKind.wrap IntKind.i64 (a2+(1:Int))) y44.1 y44.2.2 (a5++[TAct.mk (TStmt.kind y0) (0:Int) (0:Int) (TExpr.mk (0:Int) (0:Int) [] []) (TStmt.count y0) y42.2.1 y44.2.1]) else none|.inr y44=>some (.inl (y44)))|.inr y42=>some (.inl (y42))) else none else some (.inr ((a3),(a5),(a4)))
def qao_i3 (rec_qao:qao_o):Nat→qao_o3
 |0=>fun _ _ _ _ _ _=>none
 |n+1=>qao_t3 rec_qao (qao_i3 rec_qao n)
def qao_l3 (rec_qao:qao_o):=sealF (qao_i3 rec_qao fuel)
def qao_f (rec_qao:qao_o):qao_o:=fun a0 a1 a2=>(qao_l3 rec_qao a0 (List.length a0:Int) (0:Int) a1 a2 []).bind fun y0=>(match y0 with|.inl y1=>some (.inr (y1))|.inr y1=>some (.inl (y1.1,y1.2.1,y1.2.2)))
def qao_i:Nat→qao_o
 |0=>fun _ _ _=>none
 |n+1=>qao_f (qao_i n)
def qao:=sealF (qao_i fuel)
abbrev qal_o6:=List TCell→Int→Int→List TCell→List (List UInt8)→List TThread→Int→Int→List UInt8→List Int→List (List UInt8)→Option ((List TCell)×(List (List UInt8))×(List TThread)×Int×Int×(List UInt8)×(List Int)×(List (List UInt8)))
def qal_t6 (rec:qal_o6):qal_o6:=fun a0 a1 a2 a3 a4 a5 a6 a7 a8 a9 a10=>bif decide (a2<a1) then bif decide (0≤a2) then (a0[Int.toNat a2]?).bind fun y0=>bif decide ((List.length a9+List.length [TCell.init y0])*(8:Nat)≤(140737488355328:Nat)∧List.length a9+List.length [TCell.init y0]≤(9223372036854775807:Nat)) then bif decide ((List.length a10+List.length [TCell.name y0])*(16:Nat)≤(140737488355328:Nat)∧List.length a10+List.length [TCell.name y0]≤(9223372036854775807:Nat)) then rec (a0) (a1) (IntKind.wrap IntKind.i64 (a2+(1:Int))) (a3) (a4) (a5) (a6) (a7) (a8) (a9++[TCell.init y0]) (a10++[TCell.name y0]) else none else none else none else some ((a3),(a4),(a5),(a6),(a7),(a8),(a9),(a10))
def qal_i6:Nat→qal_o6
 |0=>fun _ _ _ _ _ _ _ _ _ _ _=>none
 |n+1=>qal_t6 (qal_i6 n)
def qal_l6:=sealF (qal_i6 fuel)
abbrev qal_o14:=List TThread→Int→Int→List TCell→List (List UInt8)→List TThread→Int→Int→List UInt8→List Int→List (List UInt8)→List (List UInt8)→List (List UInt8)→Option ((List TCell)×(List (List UInt8))×(List TThread)×Int×Int×(List UInt8)×(List Int)×(List (List UInt8))×(List (List UInt8))×(List (List UInt8)))
def qal_t14 (rec:qal_o14):qal_o14:=fun a0 a1 a2 a3 a4 a5 a6 a7 a8 a9 a10 a11 a12=>bif decide (a2<a1) then bif decide (0≤a2) then (a0[Int.toNat a2]?).bind fun y0=>bif decide ((List.length a12+List.length [TThread.name y0])*(16:Nat)≤(140737488355328:Nat)∧List.length a12+List.length [TThread.name y0]≤(9223372036854775807:Nat)) then rec (a0) (a1) (IntKind.wrap IntKind.i64 (a2+(1:Int))) (a3) (a4) (a5) (a6) (a7) (a8) (a9) (a10) (a11) (a12++[TThread.name y0]) else none else none else some ((a3),(a4),(a5),(a6),(a7),(a8),(a9),(a10),(a11),(a12))
def qal_i14:Nat→qal_o14
 |0=>fun _ _ _ _ _ _ _ _ _ _ _ _ _=>none
 |n+1=>qal_t14 (qal_i14 n)
def qal_l14:=sealF (qal_i14 fuel)
abbrev qal_o21:=List TThread→Int→Int→Int→List (List UInt8)→List (List UInt8)→List (List UInt8)→Int→List UInt8→List ((List UInt8)×(Thing))→List Int→List TBody→List (List (List UInt8))→Option ((Refused×Int×(List (List UInt8))×(List (List UInt8))×(List (List UInt8))×Int×(List UInt8)×(List Int)×(List TBody)×(List (List (List UInt8))))⊕(Int×(List (List UInt8))×(List (List UInt8))×(List (List UInt8))×Int×(List UInt8)×(List Int)×(List TBody)×(List (List (List UInt8)))))
def qal_t21 (rec:qal_o21):qal_o21:=fun a0 a1 a2 a3 a4 a5 a6 a7 a8 a9 a10 a11 a12=>bif decide (a2<a1) then bif decide (0≤a2) then (a0[Int.toNat a2]?).bind fun y0=>(qao (TThread.body y0) a9 []).bind fun y1=>(match y1 with|.inl y2=>bif decide ((List.length a11+List.length [TBody.mk (List.length y2.2.2:Int) y2.2.1])*(32:Nat)≤(140737488355328:Nat)∧List.length a11+List.length [TBody.mk (List.length y2.2.2:Int) y2.2.1]≤(9223372036854775807:Nat)) then (qbv y2.2.2).bind fun y3=>bif decide ((List.length a12+List.length [y3])*(24:Nat)≤(140737488355328:Nat)∧List.length a12+List.length [y3]≤(9223372036854775807:Nat)) then rec (a0) (a1) (IntKind.wrap IntKind.i64 (a2+(1:Int))) (a3) (a4) (a5) (a6) (a7) (a8) y2.1 (a10) (a11++[TBody.mk (List.length y2.2.2:Int) y2.2.1]) (a12++[y3]) else none else none|.inr y2=>some (.inl ((y2),(a3),(a4),(a5),(a6),(a7),(a8),(a10),(a11),(a12)))) else none else some (.inr ((a3),(a4),(a5),(a6),(a7),(a8),(a10),(a11),(a12)))
def qal_i21:Nat→qal_o21
 |0=>fun _ _ _ _ _ _ _ _ _ _ _ _ _=>none
 |n+1=>qal_t21 (qal_i21 n)
def qal_l21:=sealF (qal_i21 fuel)
def qal_f (a0:TProg):Option (TUnit×Names×Int×(List UInt8)):=(qbF (TProg.mk (TProg.cells a0) (TProg.mutexes a0) (TProg.threads a0))).bind fun y0=>bif y0 != 0 then some ((TUnit.mk [] (0:Int) []),(Names.mk [] [] [] []),(y0),([])) else (qal_l6 (TProg.cells a0) (List.length (TProg.cells a0):Int) (0:Int) (TProg.cells a0) (TProg.mutexes a0) (TProg.threads a0) (0:Int) (0:Int) [] [] []).bind fun y1=>(qbw y1.2.1).bind fun y2=>(qbv y2).bind fun y3=>(qal_l14 y1.2.2.1 (List.length y1.2.2.1:Int) (0:Int) y1.1 y1.2.1 y1.2.2.1 (List.length y1.2.1:Int) y1.2.2.2.2.1 y1.2.2.2.2.2.1 y1.2.2.2.2.2.2.1 y1.2.2.2.2.2.2.2 y3 []).bind fun y4=>(qaq (Names.mk y4.2.2.2.2.2.2.2.1 y4.2.2.2.2.2.2.2.2.1 y4.2.2.2.2.2.2.2.2.2 []) [] []).bind fun y5=>(match y5 with|.inl y6=>(qal_l21 y4.2.2.1 (List.length y4.2.2.1:Int) (0:Int) y4.2.2.2.1 y4.2.2.2.2.2.2.2.1 y4.2.2.2.2.2.2.2.2.1 y4.2.2.2.2.2.2.2.2.2 y4.2.2.2.2.1 y4.2.2.2.2.2.1 y6.1 y4.2.2.2.2.2.2.1 [] []).bind fun y7=>(match y7 with|.inl y8=>some ((TUnit.mk [] (0:Int) []),(Names.mk [] [] [] []),(Refused.e y8.1),(Refused.name y8.1))|.inr y8=>some ((TUnit.mk y8.2.2.2.2.2.2.1 y8.1 y8.2.2.2.2.2.2.2.1),(Names.mk y8.2.1 y8.2.2.1 y8.2.2.2.1 y8.2.2.2.2.2.2.2.2),((0:Int)),([])))|.inr y6=>some ((TUnit.mk [] (0:Int) []),(Names.mk [] [] [] []),(Refused.e y6),(Refused.name y6)))
def qal:=sealF (qal_f)
abbrev qaw_o3:=Int→Int→List (List UInt8)→Option ((List (List UInt8)))
def qaw_t3 (rec:qaw_o3):qaw_o3:=fun a0 a1 a2=>bif decide (a1<a0) then bif decide ((List.length a2+(1:Nat))*(16:Nat)≤(140737488355328:Nat)∧List.length a2+(1:Nat)≤(9223372036854775807:Nat)) then rec (a0) (IntKind.wrap IntKind.i64 (a1+(1:Int))) (a2++[[(120:UInt8)]]) else none else some (a2)
def qaw_i3:Nat→qaw_o3
 |0=>fun _ _ _=>none
 |n+1=>qaw_t3 (qaw_i3 n)
def qaw_l3:=sealF (qaw_i3 fuel)
def qaw_f (a0:Int):Option ((List (List UInt8))):=(qaw_l3 a0 (0:Int) []).bind fun y0=>some (y0)
def qaw:=sealF (qaw_f)
def qan_f (a0:List (List UInt8)) (a1:Int):Option ((List UInt8)):=Option.bind (α:=Bool) ( bif decide (a1<0) then some (true) else some (decide (a1≥(List.length a0:Int)))) fun y0=>bif y0 then some ([]) else bif decide (0≤a1) then (a0[Int.toNat a1]?).bind fun y1=>some (y1) else none
def qan:=sealF (qan_f)
abbrev qaa_o:=Namer→TExpr→Option (Int×Int×(List UInt8)×(List TExpr))
abbrev qaa_o8:=List TExpr→Int→Int→List (List UInt8)→List (List UInt8)→List (List UInt8)→List (List UInt8)→Int→Int→List UInt8→Int→Int→List UInt8→List TExpr→Option (Int×Int×(List UInt8)×Int×Int×(List UInt8)×(List TExpr))
def qaa_t8 (rec_qaa:qaa_o) (rec:qaa_o8):qaa_o8:=fun a0 a1 a2 a3 a4 a5 a6 a7 a8 a9 a10 a11 a12 a13=>bif decide (a2<a1) then bif decide (0≤a2) then (a0[Int.toNat a2]?).bind fun y0=>(rec_qaa (Namer.mk a3 a4 a5 a6) (TExpr.mk (TExpr.kind y0) (TExpr.num y0) (TExpr.name y0) (TExpr.args y0))).bind fun y1=>bif decide ((List.length a13+List.length [TExpr.mk y1.1 y1.2.1 y1.2.2.1 y1.2.2.2])*(56:Nat)≤(140737488355328:Nat)∧List.length a13+List.length [TExpr.mk y1.1 y1.2.1 y1.2.2.1 y1.2.2.2]≤(9223372036854775807:Nat)) then rec (a0) (a1) (IntKind.wrap IntKind.i64 (a2+(1:Int))) (a3) (a4) (a5) (a6) (a7) (a8) (a9) (a10) (a11) (a12) (a13++[TExpr.mk y1.1 y1.2.1 y1.2.2.1 y1.2.2.2]) else none else none else some ((a7),(a8),(a9),(a10),(a11),(a12),(a13))
def qaa_i8 (rec_qaa:qaa_o):Nat→qaa_o8
 |0=>fun _ _ _ _ _ _ _ _ _ _ _ _ _ _=>none
 |n+1=>qaa_t8 rec_qaa (qaa_i8 rec_qaa n)
def qaa_l8 (rec_qaa:qaa_o):=sealF (qaa_i8 rec_qaa fuel)
def qaa_f (rec_qaa:qaa_o):qaa_o:=fun a0 a1=>bif TExpr.kind a1==2 then bif TExpr.name a1==[] then (qan (Namer.regs a0) (TExpr.num a1)).bind fun y0=>(qaa_l8 rec_qaa (TExpr.args a1) (List.length (TExpr.args a1):Int) (0:Int) (Namer.cells a0) (Namer.mutexes a0) (Namer.threads a0) (Namer.regs a0) (0:Int) (0:Int) [] (TExpr.kind a1) (0:Int) y0 []).bind fun y1=>some (y1.2.2.2.1,y1.2.2.2.2.1,y1.2.2.2.2.2.1,y1.2.2.2.2.2.2) else (qaa_l8 rec_qaa (TExpr.args a1) (List.length (TExpr.args a1):Int) (0:Int) (Namer.cells a0) (Namer.mutexes a0) (Namer.threads a0) (Namer.regs a0) (0:Int) (0:Int) [] (TExpr.kind a1) (0:Int) [] []).bind fun y2=>some (y2.2.2.2.1,y2.2.2.2.2.1,y2.2.2.2.2.2.1,y2.2.2.2.2.2.2) else (qaa_l8 rec_qaa (TExpr.args a1) (List.length (TExpr.args a1):Int) (0:Int) (Namer.cells a0) (Namer.mutexes a0) (Namer.threads a0) (Namer.regs a0) (0:Int) (0:Int) [] (TExpr.kind a1) (TExpr.num a1) (TExpr.name a1) []).bind fun y3=>some (y3.2.2.2.1,y3.2.2.2.2.1,y3.2.2.2.2.2.1,y3.2.2.2.2.2.2)
def qaa_i:Nat→qaa_o
 |0=>fun _ _=>none
 |n+1=>qaa_f (qaa_i n)
def qaa:=sealF (qaa_i fuel)
abbrev qab_o:=Namer→List TAct→Option ((List TStmt))
def qat_f (rec_qab:qab_o) (a0:Int):Option (Bool):=Option.bind (α:=Bool) ( bif a0==1 then some (true) else some (a0==2)) fun y0=>Option.bind (α:=Bool) ( bif y0 then some (true) else some (a0==4)) fun y1=>some (y1)
def qat (rec_qab:qab_o):=sealF (qat_f rec_qab)
abbrev qab_o3:=List TAct→Int→Int→List (List UInt8)→List (List UInt8)→List (List UInt8)→List (List UInt8)→List TStmt→Option ((List TStmt))
def qab_t3 (rec_qab:qab_o) (rec:qab_o3):qab_o3:=fun a0 a1 a2 a3 a4 a5 a6 a7=>bif decide (a2<a1) then bif decide (0≤a2) then (a0[Int.toNat a2]?).bind fun y0=>(qaa (Namer.mk a3 a4 a5 a6) (TExpr.mk (TExpr.kind (TAct.expr y0)) (TExpr.num (TAct.expr y0)) (TExpr.name (TAct.expr y0)) (TExpr.args (TAct.expr y0)))).bind fun y1=>(rec_qab (Namer.mk a3 a4 a5 a6) (TAct.then_ y0)).bind fun y2=>(rec_qab (Namer.mk a3 a4 a5 a6) (TAct.else_ y0)).bind fun y3=>(qat rec_qab (TAct.kind y0)).bind fun y4=>bif y4 then (qan a6 (TAct.reg y0)).bind fun y5=>(qau (TAct.kind y0)).bind fun y6=>bif y6==1 then (qan a3 (TAct.obj y0)).bind fun y7=>bif decide ((List.length a7+List.length [TStmt.mk (TAct.kind y0) y5 y7 (TExpr.mk y1.1 y1.2.1 y1.2.2.1 y1.2.2.2) (TAct.count y0) y2 y3])*(152:Nat)≤(140737488355328:Nat)∧List.length a7+List.length [TStmt.mk (TAct.kind y0) y5 y7 (TExpr.mk y1.1 y1.2.1 y1.2.2.1 y1.2.2.2) (TAct.count y0) y2 y3]≤(9223372036854775807:Nat)) then rec (a0) (a1) (IntKind.wrap IntKind.i64 (a2+(1:Int))) (a3) (a4) (a5) (a6) (a7++[TStmt.mk (TAct.kind y0) y5 y7 (TExpr.mk y1.1 y1.2.1 y1.2.2.1 y1.2.2.2) (TAct.count y0) y2 y3]) else none else bif y6==2 then (qan a4 (TAct.obj y0)).bind fun y8=>bif decide ((List.length a7+List.length [TStmt.mk (TAct.kind y0) y5 y8 (TExpr.mk y1.1 y1.2.1 y1.2.2.1 y1.2.2.2) (TAct.count y0) y2 y3])*(152:Nat)≤(140737488355328:Nat)∧List.length a7+List.length [TStmt.mk (TAct.kind y0) y5 y8 (TExpr.mk y1.1 y1.2.1 y1.2.2.1 y1.2.2.2) (TAct.count y0) y2 y3]≤(9223372036854775807:Nat)) then rec (a0) (a1) (IntKind.wrap IntKind.i64 (a2+(1:Int))) (a3) (a4) (a5) (a6) (a7++[TStmt.mk (TAct.kind y0) y5 y8 (TExpr.mk y1.1 y1.2.1 y1.2.2.1 y1.2.2.2) (TAct.count y0) y2 y3]) else none else bif y6==3 then (qan a5 (TAct.obj y0)).bind fun y9=>bif decide ((List.length a7+List.length [TStmt.mk (TAct.kind y0) y5 y9 (TExpr.mk y1.1 y1.2.1 y1.2.2.1 y1.2.2.2) (TAct.count y0) y2 y3])*(152:Nat)≤(140737488355328:Nat)∧List.length a7+List.length [TStmt.mk (TAct.kind y0) y5 y9 (TExpr.mk y1.1 y1.2.1 y1.2.2.1 y1.2.2.2) (TAct.count y0) y2 y3]≤(9223372036854775807:Nat)) then rec (a0) (a1) (IntKind.wrap IntKind.i64 (a2+(1:Int))) (a3) (a4) (a5) (a6) (a7++[TStmt.mk (TAct.kind y0) y5 y9 (TExpr.mk y1.1 y1.2.1 y1.2.2.1 y1.2.2.2) (TAct.count y0) y2 y3]) else none else bif TAct.obj y0 != 0 then bif decide ((List.length a7+List.length [TStmt.mk (0:Int) y5 [] (TExpr.mk y1.1 y1.2.1 y1.2.2.1 y1.2.2.2) (TAct.count y0) y2 y3])*(152:Nat)≤(140737488355328:Nat)∧List.length a7+List.length [TStmt.mk (0:Int) y5 [] (TExpr.mk y1.1 y1.2.1 y1.2.2.1 y1.2.2.2) (TAct.count y0) y2 y3]≤(9223372036854775807:Nat)) then rec (a0) (a1) (IntKind.wrap IntKind.i64 (a2+(1:Int))) (a3) (a4) (a5) (a6) (a7++[TStmt.mk (0:Int) y5 [] (TExpr.mk y1.1 y1.2.1 y1.2.2.1 y1.2.2.2) (TAct.count y0) y2 y3]) else none else bif decide ((List.length a7+List.length [TStmt.mk (TAct.kind y0) y5 [] (TExpr.mk y1.1 y1.2.1 y1.2.2.1 y1.2.2.2) (TAct.count y0) y2 y3])*(152:Nat)≤(140737488355328:Nat)∧List.length a7+List.length [TStmt.mk (TAct.kind y0) y5 [] (TExpr.mk y1.1 y1.2.1 y1.2.2.1 y1.2.2.2) (TAct.count y0) y2 y3]≤(9223372036854775807:Nat)) then rec (a0) (a1) (IntKind.wrap IntKind.i64 (a2+(1:Int))) (a3) (a4) (a5) (a6) (a7++[TStmt.mk (TAct.kind y0) y5 [] (TExpr.mk y1.1 y1.2.1 y1.2.2.1 y1.2.2.2) (TAct.count y0) y2 y3]) else none else bif TAct.reg y0 != 0 then (qau (TAct.kind y0)).bind fun y10=>bif y10==1 then (qan a3 (TAct.obj y0)).bind fun y11=>bif decide ((List.length a7+List.length [TStmt.mk (0:Int) [] y11 (TExpr.mk y1.1 y1.2.1 y1.2.2.1 y1.2.2.2) (TAct.count y0) y2 y3])*(152:Nat)≤(140737488355328:Nat)∧List.length a7+List.length [TStmt.mk (0:Int) [] y11 (TExpr.mk y1.1 y1.2.1 y1.2.2.1 y1.2.2.2) (TAct.count y0) y2 y3]≤(9223372036854775807:Nat)) then rec (a0) (a1) (IntKind.wrap IntKind.i64 (a2+(1:Int))) (a3) (a4) (a5) (a6) (a7++[TStmt.mk (0:Int) [] y11 (TExpr.mk y1.1 y1.2.1 y1.2.2.1 y1.2.2.2) (TAct.count y0) y2 y3]) else none else bif y10==2 then (qan a4 (TAct.obj y0)).bind fun y12=>bif decide ((List.length a7+List.length [TStmt.mk (0:Int) [] y12 (TExpr.mk y1.1 y1.2.1 y1.2.2.1 y1.2.2.2) (TAct.count y0) y2 y3])*(152:Nat)≤(140737488355328:Nat)∧List.length a7+List.length [TStmt.mk (0:Int) [] y12 (TExpr.mk y1.1 y1.2.1 y1.2.2.1 y1.2.2.2) (TAct.count y0) y2 y3]≤(9223372036854775807:Nat)) then rec (a0) (a1) (IntKind.wrap IntKind.i64 (a2+(1:Int))) (a3) (a4) (a5) (a6) (a7++[TStmt.mk (0:Int) [] y12 (TExpr.mk y1.1 y1.2.1 y1.2.2.1 y1.2.2.2) (TAct.count y0) y2 y3]) else none else bif y10==3 then (qan a5 (TAct.obj y0)).bind fun y13=>bif decide ((List.length a7+List.length [TStmt.mk (0:Int) [] y13 (TExpr.mk y1.1 y1.2.1 y1.2.2.1 y1.2.2.2) (TAct.count y0) y2 y3])*(152:Nat)≤(140737488355328:Nat)∧List.length a7+List.length [TStmt.mk (0:Int) [] y13 (TExpr.mk y1.1 y1.2.1 y1.2.2.1 y1.2.2.2) (TAct.count y0) y2 y3]≤(9223372036854775807:Nat)) then rec (a0) (a1) (IntKind.wrap IntKind.i64 (a2+(1:Int))) (a3) (a4) (a5) (a6) (a7++[TStmt.mk (0:Int) [] y13 (TExpr.mk y1.1 y1.2.1 y1.2.2.1 y1.2.2.2) (TAct.count y0) y2 y3]) else none else bif TAct.obj y0 != 0 then bif decide ((List.length a7+List.length [TStmt.mk (0:Int) [] [] (TExpr.mk y1.1 y1.2.1 y1.2.2.1 y1.2.2.2) (TAct.count y0) y2 y3])*(152:Nat)≤(140737488355328:Nat)∧List.length a7+List.length [TStmt.mk (0:Int) [] [] (TExpr.mk y1.1 y1.2.1 y1.2.2.1 y1.2.2.2) (TAct.count y0) y2 y3]≤(9223372036854775807:Nat)) then rec (a0) (a1) (IntKind.wrap IntKind.i64 (a2+(1:Int))) (a3) (a4) (a5) (a6) (a7++[TStmt.mk (0:Int) [] [] (TExpr.mk y1.1 y1.2.1 y1.2.2.1 y1.2.2.2) (TAct.count y0) y2 y3]) else none else bif decide ((List.length a7+List.length [TStmt.mk (0:Int) [] [] (TExpr.mk y1.1 y1.2.1 y1.2.2.1 y1.2.2.2) (TAct.count y0) y2 y3])*(152:Nat)≤(140737488355328:Nat)∧List.length a7+List.length [TStmt.mk (0:Int) [] [] (TExpr.mk y1.1 y1.2.1 y1.2.2.1 y1.2.2.2) (TAct.count y0) y2 y3]≤(9223372036854775807:Nat)) then rec (a0) (a1) (IntKind.wrap IntKind.i64 (a2+(1:Int))) (a3) (a4) (a5) (a6) (a7++[TStmt.mk (0:Int) [] [] (TExpr.mk y1.1 y1.2.1 y1.2.2.1 y1.2.2.2) (TAct.count y0) y2 y3]) else none else (qau (TAct.kind y0)).bind fun y14=>bif y14==1 then (qan a3 (TAct.obj y0)).bind fun y15=>bif decide ((List.length a7+List.length [TStmt.mk (TAct.kind y0) [] y15 (TExpr.mk y1.1 y1.2.1 y1.2.2.1 y1.2.2.2) (TAct.count y0) y2 y3])*(152:Nat)≤(140737488355328:Nat)∧List.length a7+List.length [TStmt.mk (TAct.kind y0) [] y15 (TExpr.mk y1.1 y1.2.1 y1.2.2.1 y1.2.2.2) (TAct.count y0) y2 y3]≤(9223372036854775807:Nat)) then rec (a0) (a1) (IntKind.wrap IntKind.i64 (a2+(1:Int))) (a3) (a4) (a5) (a6) (a7++[TStmt.mk (TAct.kind y0) [] y15 (TExpr.mk y1.1 y1.2.1 y1.2.2.1 y1.2.2.2) (TAct.count y0) y2 y3]) else none else bif y14==2 then (qan a4 (TAct.obj y0)).bind fun y16=>bif decide ((List.length a7+List.length [TStmt.mk (TAct.kind y0) [] y16 (TExpr.mk y1.1 y1.2.1 y1.2.2.1 y1.2.2.2) (TAct.count y0) y2 y3])*(152:Nat)≤(140737488355328:Nat)∧List.length a7+List.length [TStmt.mk (TAct.kind y0) [] y16 (TExpr.mk y1.1 y1.2.1 y1.2.2.1 y1.2.2.2) (TAct.count y0) y2 y3]≤(9223372036854775807:Nat)) then rec (a0) (a1) (IntKind.wrap IntKind.i64 (a2+(1:Int))) (a3) (a4) (a5) (a6) (a7++[TStmt.mk (TAct.kind y0) [] y16 (TExpr.mk y1.1 y1.2.1 y1.2.2.1 y1.2.2.2) (TAct.count y0) y2 y3]) else none else bif y14==3 then (qan a5 (TAct.obj y0)).bind fun y17=>bif decide ((List.length a7+List.length [TStmt.mk (TAct.kind y0) [] y17 (TExpr.mk y1.1 y1.2.1 y1.2.2.1 y1.2.2.2) (TAct.count y0) y2 y3])*(152:Nat)≤(140737488355328:Nat)∧List.length a7+List.length [TStmt.mk (TAct.kind y0) [] y17 (TExpr.mk y1.1 y1.2.1 y1.2.2.1 y1.2.2.2) (TAct.count y0) y2 y3]≤(9223372036854775807:Nat)) then rec (a0) (a1) (IntKind.wrap IntKind.i64 (a2+(1:Int))) (a3) (a4) (a5) (a6) (a7++[TStmt.mk (TAct.kind y0) [] y17 (TExpr.mk y1.1 y1.2.1 y1.2.2.1 y1.2.2.2) (TAct.count y0) y2 y3]) else none else bif TAct.obj y0 != 0 then bif decide ((List.length a7+List.length [TStmt.mk (0:Int) [] [] (TExpr.mk y1.1 y1.2.1 y1.2.2.1 y1.2.2.2) (TAct.count y0) y2 y3])*(152:Nat)≤(140737488355328:Nat)∧List.length a7+List.length [TStmt.mk (0:Int) [] [] (TExpr.mk y1.1 y1.2.1 y1.2.2.1 y1.2.2.2) (TAct.count y0) y2 y3]≤(9223372036854775807:Nat)) then rec (a0) (a1) (IntKind.wrap IntKind.i64 (a2+(1:Int))) (a3) (a4) (a5) (a6) (a7++[TStmt.mk (0:Int) [] [] (TExpr.mk y1.1 y1.2.1 y1.2.2.1 y1.2.2.2) (TAct.count y0) y2 y3]) else none else bif decide ((List.length a7+List.length [TStmt.mk (TAct.kind y0) [] [] (TExpr.mk y1.1 y1.2.1 y1.2.2.1 y1.2.2.2) (TAct.count y0) y2 y3])*(152:Nat)≤(140737488355328:Nat)∧List.length a7+List.length [TStmt.mk (TAct.kind y0) [] [] (TExpr.mk y1.1 y1.2.1 y1.2.2.1 y1.2.2.2) (TAct.count y0) y2 y3]≤(9223372036854775807:Nat)) then rec (a0) (a1) (IntKind.wrap IntKind.i64 (a2+(1:Int))) (a3) (a4) (a5) (a6) (a7++[TStmt.mk (TAct.kind y0) [] [] (TExpr.mk y1.1 y1.2.1 y1.2.2.1 y1.2.2.2) (TAct.count y0) y2 y3]) else none else none else some (a7)
def qab_i3 (rec_qab:qab_o):Nat→qab_o3
 |0=>fun _ _ _ _ _ _ _ _=>none
 |n+1=>qab_t3 rec_qab (qab_i3 rec_qab n)
def qab_l3 (rec_qab:qab_o):=sealF (qab_i3 rec_qab fuel)
def qab_f (rec_qab:qab_o):qab_o:=fun a0 a1=>(qab_l3 rec_qab a1 (List.length a1:Int) (0:Int) (Namer.cells a0) (Namer.mutexes a0) (Namer.threads a0) (Namer.regs a0) []).bind fun y0=>some (y0)
def qab_i:Nat→qab_o
 |0=>fun _ _=>none
 |n+1=>qab_f (qab_i n)
def qab:=sealF (qab_i fuel)
abbrev qav_o3:=List Int→Int→Int→List Int→Int→List TBody→List (List UInt8)→List (List UInt8)→List (List UInt8)→List (List (List UInt8))→List TCell→Option ((List Int)×Int×(List TBody)×(List (List UInt8))×(List (List UInt8))×(List (List UInt8))×(List (List (List UInt8)))×(List TCell))
def qav_t3 (rec:qav_o3):qav_o3:=fun a0 a1 a2 a3 a4 a5 a6 a7 a8 a9 a10=>bif decide (a2<a1) then bif decide (0≤a2) then (a0[Int.toNat a2]?).bind fun y0=>bif decide (0≤a2) then (a6[Int.toNat a2]?).bind fun y1=>bif decide ((List.length a10+List.length [TCell.mk y1 y0])*(24:Nat)≤(140737488355328:Nat)∧List.length a10+List.length [TCell.mk y1 y0]≤(9223372036854775807:Nat)) then rec (a0) (a1) (IntKind.wrap IntKind.i64 (a2+(1:Int))) (a3) (a4) (a5) (a6) (a7) (a8) (a9) (a10++[TCell.mk y1 y0]) else none else none else none else some ((a3),(a4),(a5),(a6),(a7),(a8),(a9),(a10))
def qav_i3:Nat→qav_o3
 |0=>fun _ _ _ _ _ _ _ _ _ _ _=>none
 |n+1=>qav_t3 (qav_i3 n)
def qav_l3:=sealF (qav_i3 fuel)
abbrev qav_o9:=List TBody→Int→Int→List (List UInt8)→List (List UInt8)→List (List UInt8)→List (List (List UInt8))→List TCell→List (List UInt8)→List TThread→Option ((List TCell)×(List (List UInt8))×(List TThread))
def qav_t9 (rec:qav_o9):qav_o9:=fun a0 a1 a2 a3 a4 a5 a6 a7 a8 a9=>bif decide (a2<a1) then bif decide (0≤a2) then (a0[Int.toNat a2]?).bind fun y0=>bif decide (0≤a2) then (a6[Int.toNat a2]?).bind fun y1=>bif decide (0≤a2) then (a5[Int.toNat a2]?).bind fun y2=>(qab (Namer.mk a3 a4 a5 y1) (TBody.acts y0)).bind fun y3=>bif decide ((List.length a9+List.length [TThread.mk y2 y3])*(40:Nat)≤(140737488355328:Nat)∧List.length a9+List.length [TThread.mk y2 y3]≤(9223372036854775807:Nat)) then rec (a0) (a1) (IntKind.wrap IntKind.i64 (a2+(1:Int))) (a3) (a4) (a5) (a6) (a7) (a8) (a9++[TThread.mk y2 y3]) else none else none else none else none else some ((a7),(a8),(a9))
def qav_i9:Nat→qav_o9
 |0=>fun _ _ _ _ _ _ _ _ _ _=>none
 |n+1=>qav_t9 (qav_i9 n)
def qav_l9:=sealF (qav_i9 fuel)
def qav_f (a0:TUnit) (a1:Names):Option ((List TCell)×(List (List UInt8))×(List TThread)):=(qav_l3 (TUnit.cells a0) (List.length (TUnit.cells a0):Int) (0:Int) (TUnit.cells a0) (TUnit.mutexes a0) (TUnit.threads a0) (Names.cells a1) (Names.mutexes a1) (Names.threads a1) (Names.regs a1) []).bind fun y0=>(qbw y0.2.2.2.2.1).bind fun y1=>(qbv y1).bind fun y2=>(qav_l9 y0.2.2.1 (List.length y0.2.2.1:Int) (0:Int) y0.2.2.2.1 y0.2.2.2.2.1 y0.2.2.2.2.2.1 y0.2.2.2.2.2.2.1 y0.2.2.2.2.2.2.2 y2 []).bind fun y3=>some (y3.1,y3.2.1,y3.2.2)
def qav:=sealF (qav_f)
abbrev qam_o5:=List TBody→Int→Int→List Int→Int→List TBody→List (List UInt8)→List (List UInt8)→List (List UInt8)→List (List (List UInt8))→Option ((Bool)⊕((List Int)×Int×(List TBody)×(List (List UInt8))×(List (List UInt8))×(List (List UInt8))×(List (List (List UInt8)))))
def qam_t5 (rec:qam_o5):qam_o5:=fun a0 a1 a2 a3 a4 a5 a6 a7 a8 a9=>bif decide (a2<a1) then bif decide (0≤a2) then (a0[Int.toNat a2]?).bind fun y0=>Option.bind (α:=Bool) ( bif decide (TBody.regs y0<0) then some (true) else some (decide (TBody.regs y0>8))) fun y1=>bif y1 then some (.inl (false)) else (qaw (TBody.regs y0)).bind fun y2=>bif decide ((List.length a9+List.length [y2])*(24:Nat)≤(140737488355328:Nat)∧List.length a9+List.length [y2]≤(9223372036854775807:Nat)) then rec (a0) (a1) (IntKind.wrap IntKind.i64 (a2+(1:Int))) (a3) (a4) (a5) (a6) (a7) (a8) (a9++[y2]) else none else none else some (.inr ((a3),(a4),(a5),(a6),(a7),(a8),(a9)))
def qam_i5:Nat→qam_o5
 |0=>fun _ _ _ _ _ _ _ _ _ _=>none
 |n+1=>qam_t5 (qam_i5 n)
def qam_l5:=sealF (qam_i5 fuel)
def qam_f (a0:TUnit):Option (Bool):=Option.bind (α:=Bool) ( bif decide ((List.length (TUnit.threads a0):Int)<1) then some (true) else some (decide ((List.length (TUnit.threads a0):Int)>8))) fun y0=>Option.bind (α:=Bool) ( bif y0 then some (true) else some (decide ((List.length (TUnit.cells a0):Int)>8))) fun y1=>Option.bind (α:=Bool) ( bif y1 then some (true) else some (decide (TUnit.mutexes a0<0))) fun y2=>Option.bind (α:=Bool) ( bif y2 then some (true) else some (decide (TUnit.mutexes a0>8))) fun y3=>bif y3 then some (false) else (qaw (List.length (TUnit.cells a0):Int)).bind fun y4=>(qaw (TUnit.mutexes a0)).bind fun y5=>(qaw (List.length (TUnit.threads a0):Int)).bind fun y6=>(qam_l5 (TUnit.threads a0) (List.length (TUnit.threads a0):Int) (0:Int) (TUnit.cells a0) (TUnit.mutexes a0) (TUnit.threads a0) y4 y5 y6 []).bind fun y7=>(match y7 with|.inl y8=>some (y8)|.inr y8=>(qav (TUnit.mk y8.1 y8.2.1 y8.2.2.1) (Names.mk y8.2.2.2.1 y8.2.2.2.2.1 y8.2.2.2.2.2.1 y8.2.2.2.2.2.2)).bind fun y9=>(qbF (TProg.mk y9.1 y9.2.1 y9.2.2)).bind fun y10=>some (y10==0))
def qam:=sealF (qam_f)
def qaM_f:Option (Bool):=(qal (TProg.mk [TCell.mk [(120:UInt8)] (3:Int)] [] [TThread.mk [(116:UInt8)] [TStmt.mk (2:Int) [(97:UInt8)] [(120:UInt8)] (TExpr.mk (0:Int) (0:Int) [] []) (0:Int) [] [],TStmt.mk (1:Int) [(98:UInt8)] [] (TExpr.mk (5:Int) (0:Int) [] [TExpr.mk (2:Int) (0:Int) [(97:UInt8)] [],TExpr.mk (2:Int) (0:Int) [(99:UInt8)] []]) (0:Int) [] []]])).bind fun y0=>(qal (TProg.mk [TCell.mk [(116:UInt8)] (0:Int)] [] [TThread.mk [(116:UInt8)] []])).bind fun y1=>(qam (TUnit.mk (TUnit.cells y0.1) (TUnit.mutexes y0.1) (TUnit.threads y0.1))).bind fun y2=>Option.bind (α:=Bool) ( bif y0.2.2.1 != 0 then some (true) else some (!y0.2.2.2==[])) fun y3=>Option.bind (α:=Bool) ( bif y3 then some (true) else some (!y2)) fun y4=>Option.bind (α:=Bool) ( bif y4 then some (true) else some ((List.length (TUnit.threads y0.1):Int) != 1)) fun y5=>Option.bind (α:=Bool) ( bif y5 then some (true) else ((TUnit.threads y0.1)[(0:Nat)]?).bind fun y6=>some ((List.length (TBody.acts y6):Int) != 2)) fun y7=>Option.bind (α:=Bool) ( bif y7 then some (true) else some ((List.length (Names.regs y0.2.1):Int) != 1)) fun y8=>Option.bind (α:=Bool) ( bif y8 then some (true) else ((Names.regs y0.2.1)[(0:Nat)]?).bind fun y9=>some ((List.length y9:Int) != 3)) fun y10=>bif y10 then some (false) else ((TUnit.threads y0.1)[(0:Nat)]?).bind fun y11=>Option.bind (α:=Bool) ( bif TBody.regs y11==3 then ((TUnit.threads y0.1)[(0:Nat)]?).bind fun y12=>((TBody.acts y12)[(1:Nat)]?).bind fun y13=>some (TAct.reg y13==1) else some (false)) fun y14=>Option.bind (α:=Bool) ( bif y14 then ((Names.regs y0.2.1)[(0:Nat)]?).bind fun y15=>(y15[(2:Nat)]?).bind fun y16=>some (y16==[(99:UInt8)]) else some (false)) fun y17=>Option.bind (α:=Bool) ( bif y17 then some (y1.2.2.1==63) else some (false)) fun y18=>Option.bind (α:=Bool) ( bif y18 then some (y1.2.2.2==[(116:UInt8)]) else some (false)) fun y19=>some (y19)
def qaM:=sealF (qaM_f)
def qbc_f (a0:Int):Option (Bool×Bool×Bool×Bool×Bool×Bool):=bif a0==1 then some ((true),(false),(true),(false),(false),(false)) else bif a0==2 then some ((true),(true),(false),(false),(false),(false)) else bif a0==3 then some ((false),(true),(true),(false),(false),(false)) else bif a0==4 then some ((true),(true),(true),(false),(false),(false)) else bif a0==5 then bif a0==5 then some ((false),(true),(false),(false),(false),(false)) else bif a0==9 then some ((false),(false),(true),(false),(false),(false)) else bif a0==10 then some ((false),(false),(true),(false),(true),(true)) else bif a0==11 then some ((false),(false),(false),(true),(true),(false)) else some ((false),(false),(false),(false),(false),(false)) else bif a0==6 then bif a0==6 then some ((false),(true),(false),(false),(false),(false)) else bif a0==9 then some ((false),(false),(true),(false),(false),(false)) else bif a0==10 then some ((false),(false),(true),(false),(true),(true)) else bif a0==11 then some ((false),(false),(false),(true),(true),(false)) else some ((false),(false),(false),(false),(false),(false)) else bif a0==7 then bif a0==7 then some ((false),(true),(false),(false),(false),(false)) else bif a0==9 then some ((false),(false),(true),(false),(false),(false)) else bif a0==10 then some ((false),(false),(true),(false),(true),(true)) else bif a0==11 then some ((false),(false),(false),(true),(true),(false)) else some ((false),(false),(false),(false),(false),(false)) else bif a0==8 then some ((false),(true),(false),(false),(false),(false)) else bif a0==9 then some ((false),(false),(true),(false),(false),(false)) else bif a0==10 then some ((false),(false),(true),(false),(true),(true)) else bif a0==11 then some ((false),(false),(false),(true),(true),(false)) else some ((false),(false),(false),(false),(false),(false))
def qbc:=sealF (qbc_f)
def qbe_f (a0:TExpr):Option (Bool):=Option.bind (α:=Bool) ( bif TExpr.kind a0==0 then some (TExpr.num a0==0) else some (false)) fun y0=>Option.bind (α:=Bool) ( bif y0 then some (TExpr.name a0==[]) else some (false)) fun y1=>Option.bind (α:=Bool) ( bif y1 then some ((List.length (TExpr.args a0):Int)==0) else some (false)) fun y2=>some (y2)
def qbe:=sealF (qbe_f)
def qbo_f (a0:TExpr):Option (Bool):=Option.bind (α:=Bool) ( bif TExpr.kind a0 != 0 then some (true) else some (decide ((List.length (TExpr.args a0):Int)>0))) fun y0=>some (y0)
def qbo:=sealF (qbo_f)
abbrev qa9_o:=TExpr→Option (Int)
abbrev qa9_o3:=Int→Int→Int→Int→List UInt8→List TExpr→Option (Int)
def qa9_t3 (rec_qa9:qa9_o) (rec:qa9_o3):qa9_o3:=fun a0 a1 a2 a3 a4 a5=>bif decide (a1<(List.length a5:Int)) then bif decide (0≤a1) then (a5[Int.toNat a1]?).bind fun y0=>(rec_qa9 y0).bind fun y1=>rec (if y1>a0 then y1 else a0) (IntKind.wrap IntKind.i64 (a1+(1:Int))) (a2) (a3) (a4) (a5) else none else some (a0)
def qa9_i3 (rec_qa9:qa9_o):Nat→qa9_o3
 |0=>fun _ _ _ _ _ _=>none
 |n+1=>qa9_t3 rec_qa9 (qa9_i3 rec_qa9 n)
def qa9_l3 (rec_qa9:qa9_o):=sealF (qa9_i3 rec_qa9 fuel)
def qa9_f (rec_qa9:qa9_o):qa9_o:=fun a0=>(qa9_l3 rec_qa9 (0:Int) (0:Int) (TExpr.kind a0) (TExpr.num a0) (TExpr.name a0) (TExpr.args a0)).bind fun y0=>some (IntKind.wrap IntKind.i64 (y0+(1:Int)))
def qa9_i:Nat→qa9_o
 |0=>fun _=>none
 |n+1=>qa9_f (qa9_i n)
def qa9:=sealF (qa9_i fuel)
abbrev qbi_o:=List TStmt→Int→Option (Int)
abbrev qbi_o3:=List TStmt→Int→Int→Int→Option (Int)
def qbi_t3 (rec_qbi:qbi_o) (rec:qbi_o3):qbi_o3:=fun a0 a1 a2 a3=>bif decide (a3<(List.length a0:Int)) then bif decide (0≤a3) then (a0[Int.toNat a3]?).bind fun y0=>(qbo (TExpr.mk (TExpr.kind (TStmt.expr y0)) (TExpr.num (TStmt.expr y0)) (TExpr.name (TStmt.expr y0)) (TExpr.args (TStmt.expr y0)))).bind fun y1=>bif y1 then bif decide (0≤a3) then (a0[Int.toNat a3]?).bind fun y2=>(qa9 (TExpr.mk (TExpr.kind (TStmt.expr y2)) (TExpr.num (TStmt.expr y2)) (TExpr.name (TStmt.expr y2)) (TExpr.args (TStmt.expr y2)))).bind fun y3=>bif decide (0≤a3) then (a0[Int.toNat a3]?).bind fun y4=>(rec_qbi (TStmt.then_ y4) (IntKind.wrap IntKind.i64 (a1+(1:Int)))).bind fun y5=>bif decide (0≤a3) then (a0[Int.toNat a3]?).bind fun y6=>(rec_qbi (TStmt.else_ y6) (IntKind.wrap IntKind.i64 (a1+(1:Int)))).bind fun y7=>rec (a0) (a1) (if y7>if y5>if y3>if a1>a2 then a1 else a2 then y3 else if a1>a2 then a1 else a2 then y5 else if y3>if a1>a2 then a1 else a2 then y3 else if a1>a2 then a1 else a2 then y7 else if y5>if y3>if a1>a2 then a1 else a2 then y3 else if a1>a2 then a1 else a2 then y5 else if y3>if a1>a2 then a1 else a2 then y3 else if a1>a2 then a1 else a2) (IntKind.wrap IntKind.i64 (a3+(1:Int))) else none else none else none else bif decide (0≤a3) then (a0[Int.toNat a3]?).bind fun y8=>(rec_qbi (TStmt.then_ y8) (IntKind.wrap IntKind.i64 (a1+(1:Int)))).bind fun y9=>bif decide (0≤a3) then (a0[Int.toNat a3]?).bind fun y10=>(rec_qbi (TStmt.else_ y10) (IntKind.wrap IntKind.i64 (a1+(1:Int)))).bind fun y11=>rec (a0) (a1) (if y11>if y9>if a1>a2 then a1 else a2 then y9 else if a1>a2 then a1 else a2 then y11 else if y9>if a1>a2 then a1 else a2 then y9 else if a1>a2 then a1 else a2) (IntKind.wrap IntKind.i64 (a3+(1:Int))) else none else none else none else some (a2)
def qbi_i3 (rec_qbi:qbi_o):Nat→qbi_o3
 |0=>fun _ _ _ _=>none
 |n+1=>qbi_t3 rec_qbi (qbi_i3 rec_qbi n)
def qbi_l3 (rec_qbi:qbi_o):=sealF (qbi_i3 rec_qbi fuel)
def qbi_f (rec_qbi:qbi_o):qbi_o:=fun a0 a1=>(qbi_l3 rec_qbi a0 a1 (0:Int) (0:Int)).bind fun y0=>some (y0)
def qbi_i:Nat→qbi_o
 |0=>fun _ _=>none
 |n+1=>qbi_f (qbi_i n)
def qbi:=sealF (qbi_i fuel)
abbrev qa7_o3:=Int→Int→List TCell→List (List UInt8)→List TThread→Option (Int)
def qa7_t3 (rec:qa7_o3):qa7_o3:=fun a0 a1 a2 a3 a4=>bif decide (a1<(List.length a4:Int)) then bif decide (0≤a1) then (a4[Int.toNat a1]?).bind fun y0=>(qbi (TThread.body y0) (1:Int)).bind fun y1=>rec (if y1>a0 then y1 else a0) (IntKind.wrap IntKind.i64 (a1+(1:Int))) (a2) (a3) (a4) else none else some (a0)
def qa7_i3:Nat→qa7_o3
 |0=>fun _ _ _ _ _=>none
 |n+1=>qa7_t3 (qa7_i3 n)
def qa7_l3:=sealF (qa7_i3 fuel)
def qa7_f (a0:TProg):Option (Int):=(qa7_l3 (0:Int) (0:Int) (TProg.cells a0) (TProg.mutexes a0) (TProg.threads a0)).bind fun y0=>some (y0)
def qa7:=sealF (qa7_f)
abbrev qa8_o:=TExpr→Option (Int)
abbrev qa8_o3:=Int→Int→Int→Int→List UInt8→List TExpr→Option (Int)
def qa8_t3 (rec_qa8:qa8_o) (rec:qa8_o3):qa8_o3:=fun a0 a1 a2 a3 a4 a5=>bif decide (a1<(List.length a5:Int)) then bif decide (0≤a1) then (a5[Int.toNat a1]?).bind fun y0=>(rec_qa8 y0).bind fun y1=>rec (IntKind.wrap IntKind.i64 (a0+y1)) (IntKind.wrap IntKind.i64 (a1+(1:Int))) (a2) (a3) (a4) (a5) else none else some (a0)
def qa8_i3 (rec_qa8:qa8_o):Nat→qa8_o3
 |0=>fun _ _ _ _ _ _=>none
 |n+1=>qa8_t3 rec_qa8 (qa8_i3 rec_qa8 n)
def qa8_l3 (rec_qa8:qa8_o):=sealF (qa8_i3 rec_qa8 fuel)
def qa8_f (rec_qa8:qa8_o):qa8_o:=fun a0=>(qa8_l3 rec_qa8 (1:Int) (0:Int) (TExpr.kind a0) (TExpr.num a0) (TExpr.name a0) (TExpr.args a0)).bind fun y0=>some (y0)
def qa8_i:Nat→qa8_o
 |0=>fun _=>none
 |n+1=>qa8_f (qa8_i n)
def qa8:=sealF (qa8_i fuel)
abbrev qbh_o:=List TStmt→Option (Int)
abbrev qbh_o3:=List TStmt→Int→Int→Option (Int)
def qbh_t3 (rec_qbh:qbh_o) (rec:qbh_o3):qbh_o3:=fun a0 a1 a2=>bif decide (a2<(List.length a0:Int)) then bif decide (0≤a2) then (a0[Int.toNat a2]?).bind fun y0=>(qbo (TExpr.mk (TExpr.kind (TStmt.expr y0)) (TExpr.num (TStmt.expr y0)) (TExpr.name (TStmt.expr y0)) (TExpr.args (TStmt.expr y0)))).bind fun y1=>bif y1 then bif decide (0≤a2) then (a0[Int.toNat a2]?).bind fun y2=>(qa8 (TExpr.mk (TExpr.kind (TStmt.expr y2)) (TExpr.num (TStmt.expr y2)) (TExpr.name (TStmt.expr y2)) (TExpr.args (TStmt.expr y2)))).bind fun y3=>bif decide (0≤a2) then (a0[Int.toNat a2]?).bind fun y4=>(rec_qbh (TStmt.then_ y4)).bind fun y5=>bif decide (0≤a2) then (a0[Int.toNat a2]?).bind fun y6=>(rec_qbh (TStmt.else_ y6)).bind fun y7=>rec (a0) (IntKind.wrap IntKind.i64 (IntKind.wrap IntKind.i64 (IntKind.wrap IntKind.i64 (IntKind.wrap IntKind.i64 (a1+(1:Int))+y3)+y5)+y7)) (IntKind.wrap IntKind.i64 (a2+(1:Int))) else none else none else none else bif decide (0≤a2) then (a0[Int.toNat a2]?).bind fun y8=>(rec_qbh (TStmt.then_ y8)).bind fun y9=>bif decide (0≤a2) then (a0[Int.toNat a2]?).bind fun y10=>(rec_qbh (TStmt.else_ y10)).bind fun y11=>rec (a0) (IntKind.wrap IntKind.i64 (IntKind.wrap IntKind.i64 (IntKind.wrap IntKind.i64 (a1+(1:Int))+y9)+y11)) (IntKind.wrap IntKind.i64 (a2+(1:Int))) else none else none else none else some (a1)
def qbh_i3 (rec_qbh:qbh_o):Nat→qbh_o3
 |0=>fun _ _ _=>none
 |n+1=>qbh_t3 rec_qbh (qbh_i3 rec_qbh n)
def qbh_l3 (rec_qbh:qbh_o):=sealF (qbh_i3 rec_qbh fuel)
def qbh_f (rec_qbh:qbh_o):qbh_o:=fun a0=>(qbh_l3 rec_qbh a0 (0:Int) (0:Int)).bind fun y0=>some (y0)
def qbh_i:Nat→qbh_o
 |0=>fun _=>none
 |n+1=>qbh_f (qbh_i n)
def qbh:=sealF (qbh_i fuel)
abbrev qa6_o3:=Int→Int→List TCell→List (List UInt8)→List TThread→Option (Int)
def qa6_t3 (rec:qa6_o3):qa6_o3:=fun a0 a1 a2 a3 a4=>bif decide (a1<(List.length a4:Int)) then bif decide (0≤a1) then (a4[Int.toNat a1]?).bind fun y0=>(qbh (TThread.body y0)).bind fun y1=>rec (IntKind.wrap IntKind.i64 (a0+y1)) (IntKind.wrap IntKind.i64 (a1+(1:Int))) (a2) (a3) (a4) else none else some (a0)
def qa6_i3:Nat→qa6_o3
 |0=>fun _ _ _ _ _=>none
 |n+1=>qa6_t3 (qa6_i3 n)
def qa6_l3:=sealF (qa6_i3 fuel)
def qa6_f (a0:TProg):Option (Int):=(qa6_l3 (0:Int) (0:Int) (TProg.cells a0) (TProg.mutexes a0) (TProg.threads a0)).bind fun y0=>some (y0)
def qa6:=sealF (qa6_f)
def qaQ_f (a0:Int):Option (Bool):=bif decide (a0≥0) then bif decide (a0≤1114111) then bif decide (a0<55296) then some (true) else some (decide (a0>57343)) else some (false) else some (false)
def qaQ:=sealF (qaQ_f)
def qaT_f (a0:Int):Option (Int):=bif decide (a0<128) then some ((1:Int)) else bif decide (a0<2048) then some ((2:Int)) else bif decide (a0<65536) then some ((3:Int)) else some ((4:Int))
def qaT:=sealF (qaT_f)
abbrev qaN_o18:=List UInt8→Int→Int→Int→Int→Option ((Int×Int)⊕(Int×Int))
def qaN_t18 (rec:qaN_o18):qaN_o18:=fun a0 a1 a2 a3 a4=>bif decide (a4<a2) then bif decide ((0:Int)≤IntKind.wrap IntKind.i64 (a1+a4)) then (a0[Int.toNat (IntKind.wrap IntKind.i64 (a1+a4))]?).bind fun y0=>bif decide (IntKind.wrap IntKind.i64 (↑(UInt8.toNat y0):Int)<128) then some (.inl (((0:Int)),((0:Int)))) else bif decide (IntKind.wrap IntKind.i64 (↑(UInt8.toNat y0):Int)>191) then some (.inl (((0:Int)),((0:Int)))) else rec (a0) (a1) (a2) (IntKind.wrap IntKind.i64 (IntKind.wrap IntKind.i64 (IntKind.wrap IntKind.i64 ((64:Int)*a3)+IntKind.wrap IntKind.i64 (↑(UInt8.toNat y0):Int))-(128:Int))) (IntKind.wrap IntKind.i64 (a4+(1:Int))) else none else some (.inr ((a2),(a3)))
def qaN_i18:Nat→qaN_o18
 |0=>fun _ _ _ _ _=>none
 |n+1=>qaN_t18 (qaN_i18 n)
def qaN_l18:=sealF (qaN_i18 fuel)
def qaN_f (a0:List UInt8) (a1:Int):Option (Int×Int):=bif decide (0≤a1) then (a0[Int.toNat a1]?).bind fun y0=>bif decide (IntKind.wrap IntKind.i64 (↑(UInt8.toNat y0):Int)≥240) then bif decide (IntKind.wrap IntKind.i64 ((List.length a0:Int)-a1)<4) then some (((0:Int)),((0:Int))) else (qaN_l18 a0 a1 (4:Int) (IntKind.wrap IntKind.i64 (IntKind.wrap IntKind.i64 (↑(UInt8.toNat y0):Int)-(240:Int))) (1:Int)).bind fun y1=>(match y1 with|.inl y2=>some (y2.1,y2.2)|.inr y2=>(qaQ y2.2).bind fun y3=>bif !y3 then some (((0:Int)),((0:Int))) else (qaT y2.2).bind fun y4=>bif y4 != y2.1 then some (((0:Int)),((0:Int))) else some (y2.2,y2.1)) else bif decide (IntKind.wrap IntKind.i64 (↑(UInt8.toNat y0):Int)≥224) then bif decide (IntKind.wrap IntKind.i64 ((List.length a0:Int)-a1)<3) then some (((0:Int)),((0:Int))) else (qaN_l18 a0 a1 (3:Int) (IntKind.wrap IntKind.i64 (IntKind.wrap IntKind.i64 (↑(UInt8.toNat y0):Int)-(224:Int))) (1:Int)).bind fun y5=>(match y5 with|.inl y6=>some (y6.1,y6.2)|.inr y6=>(qaQ y6.2).bind fun y7=>bif !y7 then some (((0:Int)),((0:Int))) else (qaT y6.2).bind fun y8=>bif y8 != y6.1 then some (((0:Int)),((0:Int))) else some (y6.2,y6.1)) else bif decide (IntKind.wrap IntKind.i64 (↑(UInt8.toNat y0):Int)≥192) then bif decide (IntKind.wrap IntKind.i64 ((List.length a0:Int)-a1)<2) then some (((0:Int)),((0:Int))) else (qaN_l18 a0 a1 (2:Int) (IntKind.wrap IntKind.i64 (IntKind.wrap IntKind.i64 (↑(UInt8.toNat y0):Int)-(192:Int))) (1:Int)).bind fun y9=>(match y9 with|.inl y10=>some (y10.1,y10.2)|.inr y10=>(qaQ y10.2).bind fun y11=>bif !y11 then some (((0:Int)),((0:Int))) else (qaT y10.2).bind fun y12=>bif y12 != y10.1 then some (((0:Int)),((0:Int))) else some (y10.2,y10.1)) else bif decide (IntKind.wrap IntKind.i64 (↑(UInt8.toNat y0):Int)≥128) then some (((0:Int)),((0:Int))) else bif decide (IntKind.wrap IntKind.i64 ((List.length a0:Int)-a1)<1) then some (((0:Int)),((0:Int))) else (qaN_l18 a0 a1 (1:Int) (IntKind.wrap IntKind.i64 (↑(UInt8.toNat y0):Int)) (1:Int)).bind fun y13=>(match y13 with|.inl y14=>some (y14.1,y14.2)|.inr y14=>(qaQ y14.2).bind fun y15=>bif !y15 then some (((0:Int)),((0:Int))) else (qaT y14.2).bind fun y16=>bif y16 != y14.1 then some (((0:Int)),((0:Int))) else some (y14.2,y14.1)) else none
def qaN:=sealF (qaN_f)
def qaU_f (a0:Spot) (a1:Int) (a2:Int):Option (Spot):=bif a1==10 then some (Spot.mk (Spot.rune a0) (IntKind.wrap IntKind.i64 (Spot.at_ a0+a2)) (IntKind.wrap IntKind.i64 (Spot.line a0+(1:Int))) (1:Int)) else some (Spot.mk (Spot.rune a0) (IntKind.wrap IntKind.i64 (Spot.at_ a0+a2)) (Spot.line a0) (IntKind.wrap IntKind.i64 (Spot.col a0+(1:Int))))
def qaU:=sealF (qaU_f)
abbrev qaV_o3:=List UInt8→Int→Int→Int→Int→Int→Int→Int→Int→List Spot→Option (Int×Int×Int×Int×Int×Int×Int×Int×(List Spot))
def qaV_t3 (rec:qaV_o3):qaV_o3:=fun a0 a1 a2 a3 a4 a5 a6 a7 a8 a9=>bif decide (a6<(List.length a0:Int)) then (qaN a0 a6).bind fun y0=>bif y0.2==0 then some ((a1),(a2),(a3),(a4),(a5),(a6),(a7),(a8),(a9)) else bif decide ((List.length a9+List.length [Spot.mk y0.1 a6 a7 a8])*(32:Nat)≤(140737488355328:Nat)∧List.length a9+List.length [Spot.mk y0.1 a6 a7 a8]≤(9223372036854775807:Nat)) then (qaU (Spot.mk y0.1 a6 a7 a8) y0.1 y0.2).bind fun y1=>rec (a0) (a1) (a2) (a3) (a4) (Spot.rune y1) (Spot.at_ y1) (Spot.line y1) (Spot.col y1) (a9++[Spot.mk y0.1 a6 a7 a8]) else none else some ((a1),(a2),(a3),(a4),(a5),(a6),(a7),(a8),(a9))
def qaV_i3:Nat→qaV_o3
 |0=>fun _ _ _ _ _ _ _ _ _ _=>none
 |n+1=>qaV_t3 (qaV_i3 n)
def qaV_l3:=sealF (qaV_i3 fuel)
def qaV_f (a0:List UInt8):Option (Spot×(List Spot)):=(qaV_l3 a0 (0:Int) (0:Int) (0:Int) (0:Int) (0:Int) (0:Int) (1:Int) (1:Int) []).bind fun y0=>some ((Spot.mk (-1:Int) y0.2.2.2.2.2.1 y0.2.2.2.2.2.2.1 y0.2.2.2.2.2.2.2.1),y0.2.2.2.2.2.2.2.2)
def qaV:=sealF (qaV_f)
def qaS_f (a0:List UInt8):Option (Fault×(List Spot)):=bif decide ((List.length a0:Int)>4000) then some ((Fault.mk (10:Int) (4000:Int) []),([])) else (qaV a0).bind fun y0=>bif decide (Spot.at_ y0.1<(List.length a0:Int)) then some ((Fault.mk (11:Int) (Spot.at_ y0.1) []),([])) else some ((Fault.mk (0:Int) (0:Int) []),y0.2)
def qaS:=sealF (qaS_f)
def qaO_f (a0:Int):Option (Bool):=bif a0==9 then some (true) else bif a0==10 then some (true) else bif a0==13 then some (true) else some (a0==32)
def qaO:=sealF (qaO_f)
def qaR_f (a0:Int):Option (Bool):=(qaQ a0).bind fun y0=>bif y0 then bif decide (a0≥65) then bif decide (a0≤90) then some (true) else bif a0==95 then some (true) else bif decide (a0≥97) then bif decide (a0≤122) then some (true) else some (decide (a0≥192)) else some (decide (a0≥192)) else bif a0==95 then some (true) else bif decide (a0≥97) then bif decide (a0≤122) then some (true) else some (decide (a0≥192)) else some (decide (a0≥192)) else some (false)
def qaR:=sealF (qaR_f)
def qaP_f (a0:Int):Option (Bool):=bif decide (a0≥48) then some (decide (a0≤57)) else some (false)
def qaP:=sealF (qaP_f)
abbrev qa2_o2:=List Spot→Int→Option (Int)
def qa2_t2 (rec:qa2_o2):qa2_o2:=fun a0 a1=>bif decide (a1<(List.length a0:Int)) then bif decide (0≤a1) then (a0[Int.toNat a1]?).bind fun y0=>(qaR (Spot.rune y0)).bind fun y1=>bif decide (0≤a1) then (a0[Int.toNat a1]?).bind fun y2=>(qaP (Spot.rune y2)).bind fun y3=>bif !y1 then bif !y3 then some (a1) else rec (a0) (IntKind.wrap IntKind.i64 (a1+(1:Int))) else rec (a0) (IntKind.wrap IntKind.i64 (a1+(1:Int))) else none else none else some (a1)
def qa2_i2:Nat→qa2_o2
 |0=>fun _ _=>none
 |n+1=>qa2_t2 (qa2_i2 n)
def qa2_l2:=sealF (qa2_i2 fuel)
def qa2_f (a0:List Spot) (a1:Int):Option (Int):=(qa2_l2 a0 a1).bind fun y0=>some (y0)
def qa2:=sealF (qa2_f)
def qa1_f (a0:List Spot) (a1:List UInt8) (a2:Int) (a3:Int):Option ((List UInt8)):=bif decide (a3<(List.length a0:Int)) then bif decide (0≤a3) then (a0[Int.toNat a3]?).bind fun y0=>bif decide (0≤a2) then (a0[Int.toNat a2]?).bind fun y1=>bif decide ((0:Int)≤Spot.at_ y1)&&(decide (Spot.at_ y1≤Spot.at_ y0)&&decide (Spot.at_ y0≤(List.length a1:Int))) then some (List.drop (Int.toNat (Spot.at_ y1)) (List.take (Int.toNat (Spot.at_ y0)) a1)) else none else none else none else bif decide (0≤a2) then (a0[Int.toNat a2]?).bind fun y2=>bif decide ((0:Int)≤Spot.at_ y2)&&(decide (Spot.at_ y2≤(List.length a1:Int))&&decide ((List.length a1:Int)≤(List.length a1:Int))) then some (List.drop (Int.toNat (Spot.at_ y2)) (List.take (Int.toNat (List.length a1:Int)) a1)) else none else none
def qa1:=sealF (qa1_f)
def qaZ_f:Option ((List (List UInt8))):=some ([[(97:UInt8),(100:UInt8),(100:UInt8)],[(97:UInt8),(115:UInt8),(115:UInt8),(101:UInt8),(114:UInt8),(116:UInt8)],[(99:UInt8),(101:UInt8),(108:UInt8),(108:UInt8)],[(101:UInt8),(108:UInt8),(115:UInt8),(101:UInt8)],[(105:UInt8),(102:UInt8)],[(106:UInt8),(111:UInt8),(105:UInt8),(110:UInt8)],[(108:UInt8),(111:UInt8),(99:UInt8),(107:UInt8)],[(109:UInt8),(117:UInt8),(116:UInt8),(101:UInt8),(120:UInt8)],[(114:UInt8),(101:UInt8),(112:UInt8),(101:UInt8),(97:UInt8),(116:UInt8)],[(115:UInt8),(116:UInt8),(97:UInt8),(114:UInt8),(116:UInt8)],[(116:UInt8),(104:UInt8),(114:UInt8),(101:UInt8),(97:UInt8),(100:UInt8)],[(117:UInt8),(110:UInt8),(108:UInt8),(111:UInt8),(99:UInt8),(107:UInt8)]])
def qaZ:=sealF (qaZ_f)
abbrev qaW_o2:=List (List UInt8)→List UInt8→Int→Option ((Bool)⊕(Unit))
def qaW_t2 (rec:qaW_o2):qaW_o2:=fun a0 a1 a2=>bif decide (a2<(List.length a0:Int)) then bif decide (0≤a2) then (a0[Int.toNat a2]?).bind fun y0=>bif y0==a1 then some (.inl (true)) else rec (a0) (a1) (IntKind.wrap IntKind.i64 (a2+(1:Int))) else none else some (.inr ())
def qaW_i2:Nat→qaW_o2
 |0=>fun _ _ _=>none
 |n+1=>qaW_t2 (qaW_i2 n)
def qaW_l2:=sealF (qaW_i2 fuel)
def qaW_f (a0:List (List UInt8)) (a1:List UInt8):Option (Bool):=(qaW_l2 a0 a1 (0:Int)).bind fun y0=>(match y0 with|.inl y1=>some (y1)|.inr y1=>some (false))
def qaW:=sealF (qaW_f)
abbrev qa0_o5:=List UInt8→Int→Int→Option ((Int×Bool)⊕(Int))
def qa0_t5 (rec:qa0_o5):qa0_o5:=fun a0 a1 a2=>bif decide (a2<(List.length a0:Int)) then bif decide (0≤a2) then (a0[Int.toNat a2]?).bind fun y0=>bif decide ((↑(UInt8.toNat y0):Int)<48) then some (.inl (((0:Int)),(false))) else bif decide (0≤a2) then (a0[Int.toNat a2]?).bind fun y1=>bif decide ((↑(UInt8.toNat y1):Int)>57) then some (.inl (((0:Int)),(false))) else bif decide (0≤a2) then (a0[Int.toNat a2]?).bind fun y2=>rec (a0) (IntKind.wrap IntKind.i64 (IntKind.wrap IntKind.i64 (IntKind.wrap IntKind.i64 ((10:Int)*a1)+IntKind.wrap IntKind.i64 (↑(UInt8.toNat y2):Int))-(48:Int))) (IntKind.wrap IntKind.i64 (a2+(1:Int))) else none else none else none else some (.inr (a1))
def qa0_i5:Nat→qa0_o5
 |0=>fun _ _ _=>none
 |n+1=>qa0_t5 (qa0_i5 n)
def qa0_l5:=sealF (qa0_i5 fuel)
def qa0_f (a0:List UInt8):Option (Int×Bool):=bif decide ((List.length a0:Int)>1) then (a0[(0:Nat)]?).bind fun y0=>bif (↑(UInt8.toNat y0):Int)==48 then some (((0:Int)),(false)) else bif decide ((List.length a0:Int)>10) then some (((0:Int)),(false)) else bif (List.length a0:Int)==0 then some (((0:Int)),(false)) else (qa0_l5 a0 (0:Int) (0:Int)).bind fun y1=>(match y1 with|.inl y2=>some (y2.1,y2.2)|.inr y2=>some ((y2),(decide (y2≤2147483647)))) else bif decide ((List.length a0:Int)>10) then some (((0:Int)),(false)) else bif (List.length a0:Int)==0 then some (((0:Int)),(false)) else (qa0_l5 a0 (0:Int) (0:Int)).bind fun y3=>(match y3 with|.inl y4=>some (y4.1,y4.2)|.inr y4=>some ((y4),(decide (y4≤2147483647))))
def qa0:=sealF (qa0_f)
def qa4_f:Option ((List (List UInt8))):=some ([[(58:UInt8),(61:UInt8)],[(60:UInt8),(45:UInt8)],[(61:UInt8),(61:UInt8)],[(33:UInt8),(61:UInt8)],[(60:UInt8),(61:UInt8)],[(62:UInt8),(61:UInt8)],[(38:UInt8),(38:UInt8)],[(124:UInt8),(124:UInt8)],[(61:UInt8)],[(60:UInt8)],[(62:UInt8)],[(33:UInt8)],[(43:UInt8)],[(45:UInt8)],[(42:UInt8)],[(47:UInt8)],[(37:UInt8)],[(59:UInt8)],[(123:UInt8)],[(125:UInt8)],[(40:UInt8)],[(41:UInt8)]])
def qa4:=sealF (qa4_f)
abbrev qa3_o3:=List UInt8→Int→Int→List (List UInt8)→Option (((List UInt8))⊕(Unit))
def qa3_t3 (rec:qa3_o3):qa3_o3:=fun a0 a1 a2 a3=>bif decide (a2<(List.length a3:Int)) then bif decide (0≤a2)&&decide (a2<(List.length a3:Int)) then (a3[Int.toNat a2]?).bind fun y0=>bif decide (IntKind.wrap IntKind.i64 ((List.length a0:Int)-a1)≥(List.length y0:Int)) then bif decide (0≤a1)&&(decide (a1≤IntKind.wrap IntKind.i64 (a1+(List.length y0:Int)))&&decide (IntKind.wrap IntKind.i64 (a1+(List.length y0:Int))≤(List.length a0:Int))) then bif decide (0≤a2)&&decide (a2<(List.length a3:Int)) then (a3[Int.toNat a2]?).bind fun y1=>bif List.drop (Int.toNat a1) (List.take (Int.toNat (IntKind.wrap IntKind.i64 (a1+(List.length y0:Int)))) a0)==y1 then bif decide (0≤a2)&&decide (a2<(List.length a3:Int)) then (a3[Int.toNat a2]?).bind fun y2=>some (.inl (y2)) else none else rec (a0) (a1) (IntKind.wrap IntKind.i64 (a2+(1:Int))) (a3) else none else none else rec (a0) (a1) (IntKind.wrap IntKind.i64 (a2+(1:Int))) (a3) else none else some (.inr ())
def qa3_i3:Nat→qa3_o3
 |0=>fun _ _ _ _=>none
 |n+1=>qa3_t3 (qa3_i3 n)
def qa3_l3:=sealF (qa3_i3 fuel)
def qa3_f (a0:List UInt8) (a1:Int):Option ((List UInt8)):=(qa4).bind fun y0=>(qa3_l3 a0 a1 (0:Int) y0).bind fun y1=>(match y1 with|.inl y2=>some (y2)|.inr y2=>some ([]))
def qa3:=sealF (qa3_f)
def qa5_f (a0:List Spot) (a1:List UInt8) (a2:Int):Option (Token×Int×Int):=bif decide (0≤a2) then (a0[Int.toNat a2]?).bind fun y0=>(qaR (Spot.rune y0)).bind fun y1=>(qaP (Spot.rune y0)).bind fun y2=>bif decide (0≤a2) then (a0[Int.toNat a2]?).bind fun y3=>bif y1 then (qa2 a0 a2).bind fun y4=>(qa1 a0 a1 a2 y4).bind fun y5=>(qaZ).bind fun y6=>(qaW y6 y5).bind fun y7=>bif y2 then (qa0 y5).bind fun y8=>bif !y8.2 then some ((Token.mk (0:Int) y5 (0:Int) (Spot.at_ y3)),(a2),((22:Int))) else some ((Token.mk (2:Int) y5 y8.1 (Spot.at_ y3)),(y4),((0:Int))) else bif y7 then some ((Token.mk (4:Int) y5 (0:Int) (Spot.at_ y3)),(y4),((0:Int))) else bif decide (IntKind.wrap IntKind.i64 (y4-a2)>16) then some ((Token.mk (0:Int) y5 (0:Int) (Spot.at_ y3)),(a2),((21:Int))) else some ((Token.mk (1:Int) y5 (0:Int) (Spot.at_ y3)),(y4),((0:Int))) else bif y2 then (qa2 a0 a2).bind fun y9=>(qa1 a0 a1 a2 y9).bind fun y10=>(qaZ).bind fun y11=>(qaW y11 y10).bind fun y12=>bif y2 then (qa0 y10).bind fun y13=>bif !y13.2 then some ((Token.mk (0:Int) y10 (0:Int) (Spot.at_ y3)),(a2),((22:Int))) else some ((Token.mk (2:Int) y10 y13.1 (Spot.at_ y3)),(y9),((0:Int))) else bif y12 then some ((Token.mk (4:Int) y10 (0:Int) (Spot.at_ y3)),(y9),((0:Int))) else bif decide (IntKind.wrap IntKind.i64 (y9-a2)>16) then some ((Token.mk (0:Int) y10 (0:Int) (Spot.at_ y3)),(a2),((21:Int))) else some ((Token.mk (1:Int) y10 (0:Int) (Spot.at_ y3)),(y9),((0:Int))) else bif decide (0≤a2) then (a0[Int.toNat a2]?).bind fun y14=>(qa3 a1 (Spot.at_ y14)).bind fun y15=>bif y15==[] then some ((Token.mk (0:Int) y15 (0:Int) (Spot.at_ y3)),(a2),((20:Int))) else some ((Token.mk (3:Int) y15 (0:Int) (Spot.at_ y3)),(IntKind.wrap IntKind.i64 (a2+(List.length y15:Int))),((0:Int))) else none else none else none
def qa5:=sealF (qa5_f)
abbrev qaY_o11:=List UInt8→List Spot→Int→Int→Int→List UInt8→List Token→Option ((List UInt8)×(List Spot)×Int×Int×Int×(List UInt8)×(List Token))
def qaY_t11 (rec:qaY_o11):qaY_o11:=fun a0 a1 a2 a3 a4 a5 a6=>bif decide (a2<(List.length a1:Int)) then bif decide (0≤a2) then (a1[Int.toNat a2]?).bind fun y0=>bif Spot.rune y0 != 10 then rec (a0) (a1) (IntKind.wrap IntKind.i64 (a2+(1:Int))) (a3) (a4) (a5) (a6) else some ((a0),(a1),(a2),(a3),(a4),(a5),(a6)) else none else some ((a0),(a1),(a2),(a3),(a4),(a5),(a6))
def qaY_i11:Nat→qaY_o11
 |0=>fun _ _ _ _ _ _ _=>none
 |n+1=>qaY_t11 (qaY_i11 n)
def qaY_l11:=sealF (qaY_i11 fuel)
abbrev qaY_o6:=List UInt8→List Spot→Int→Int→Int→List UInt8→List Token→Option ((Int×Int×(List UInt8))⊕((List UInt8)×Int×Int×(List UInt8)×(List Token)))
def qaY_t6 (rec:qaY_o6):qaY_o6:=fun a0 a1 a2 a3 a4 a5 a6=>bif decide (a2<(List.length a1:Int)) then bif decide (0≤a2) then (a1[Int.toNat a2]?).bind fun y0=>(qaO (Spot.rune y0)).bind fun y1=>bif y1 then rec (a0) (a1) (IntKind.wrap IntKind.i64 (a2+(1:Int))) (a3) (a4) (a5) (a6) else bif decide (0≤a2) then (a1[Int.toNat a2]?).bind fun y2=>bif Spot.rune y2==35 then (qaY_l11 a0 a1 a2 a3 a4 a5 a6).bind fun y3=>rec y3.1 y3.2.1 y3.2.2.1 y3.2.2.2.1 y3.2.2.2.2.1 y3.2.2.2.2.2.1 y3.2.2.2.2.2.2 else (qa5 a1 a0 a2).bind fun y4=>bif y4.2.2 != 0 then some (.inl (y4.2.2,(Token.at_ y4.1),([]))) else bif decide ((List.length a6+List.length [Token.mk (Token.kind y4.1) (Token.text y4.1) (Token.num y4.1) (Token.at_ y4.1)])*(40:Nat)≤(140737488355328:Nat)∧List.length a6+List.length [Token.mk (Token.kind y4.1) (Token.text y4.1) (Token.num y4.1) (Token.at_ y4.1)]≤(9223372036854775807:Nat)) then rec (a0) (a1) y4.2.1 (a3) (a4) (a5) (a6++[Token.mk (Token.kind y4.1) (Token.text y4.1) (Token.num y4.1) (Token.at_ y4.1)]) else none else none else none else some (.inr ((a0),(a3),(a4),(a5),(a6)))
def qaY_i6:Nat→qaY_o6
 |0=>fun _ _ _ _ _ _ _=>none
 |n+1=>qaY_t6 (qaY_i6 n)
def qaY_l6:=sealF (qaY_i6 fuel)
def qaY_f (a0:List UInt8):Option (Fault×(List Token)):=(qaS a0).bind fun y0=>bif Fault.code y0.1 != 0 then some ((Fault.mk (Fault.code y0.1) (Fault.at_ y0.1) (Fault.name y0.1)),([])) else (qaY_l6 a0 y0.2 (0:Int) (0:Int) (0:Int) [] []).bind fun y1=>(match y1 with|.inl y2=>some ((Fault.mk y2.1 y2.2.1 y2.2.2),([]))|.inr y2=>bif decide ((List.length y2.2.2.2.2+List.length [Token.mk (5:Int) [] (0:Int) (List.length y2.1:Int)])*(40:Nat)≤(140737488355328:Nat)∧List.length y2.2.2.2.2+List.length [Token.mk (5:Int) [] (0:Int) (List.length y2.1:Int)]≤(9223372036854775807:Nat)) then some ((Fault.mk (0:Int) (0:Int) []),(y2.2.2.2.2++[Token.mk (5:Int) [] (0:Int) (List.length y2.1:Int)])) else none)
def qaY:=sealF (qaY_f)
def qaX_f (a0:List UInt8):Option (Bool):=bif decide ((List.length a0:Int)>64) then some (false) else (qaY a0).bind fun y0=>bif Fault.code y0.1==0 then bif (List.length y0.2:Int)==2 then bif decide ((0:Int)≤(0:Int))&&decide ((0:Int)<(List.length y0.2:Int)) then (y0.2[(0:Nat)]?).bind fun y1=>bif Token.kind y1==1 then bif decide ((0:Int)≤(0:Int))&&decide ((0:Int)<(List.length y0.2:Int)) then (y0.2[(0:Nat)]?).bind fun y2=>some (Token.text y2==a0) else none else some (false) else none else some (false) else some (false)
def qaX:=sealF (qaX_f)
abbrev qba_o:=TExpr→Option (Bool)
abbrev qba_o14:=Int→Int→Int→List UInt8→List TExpr→Option ((Bool)⊕(Unit))
def qba_t14 (rec_qba:qba_o) (rec:qba_o14):qba_o14:=fun a0 a1 a2 a3 a4=>bif decide (a0<(List.length a4:Int)) then bif decide (0≤a0) then (a4[Int.toNat a0]?).bind fun y0=>(rec_qba y0).bind fun y1=>bif !y1 then some (.inl (false)) else rec (IntKind.wrap IntKind.i64 (a0+(1:Int))) (a1) (a2) (a3) (a4) else none else some (.inr ())
def qba_i14 (rec_qba:qba_o):Nat→qba_o14
 |0=>fun _ _ _ _ _=>none
 |n+1=>qba_t14 rec_qba (qba_i14 rec_qba n)
def qba_l14 (rec_qba:qba_o):=sealF (qba_i14 rec_qba fuel)
def qba_f (rec_qba:qba_o):qba_o:=fun a0=>bif TExpr.kind a0==1 then Option.bind (α:=Bool) ( bif decide (TExpr.num a0≥0) then some (decide (TExpr.num a0≤2147483647)) else some (false)) fun y0=>Option.bind (α:=Bool) ( bif y0 then some (TExpr.name a0==[]) else some (false)) fun y1=>Option.bind (α:=Bool) ( bif y1 then some ((List.length (TExpr.args a0):Int)==0) else some (false)) fun y2=>some (y2) else bif TExpr.kind a0==2 then (qaX (TExpr.name a0)).bind fun y3=>Option.bind (α:=Bool) ( bif y3 then some (TExpr.num a0==0) else some (false)) fun y4=>Option.bind (α:=Bool) ( bif y4 then some ((List.length (TExpr.args a0):Int)==0) else some (false)) fun y5=>some (y5) else bif TExpr.kind a0==3 then bif TExpr.kind a0==3 then Option.bind (α:=Bool) ( bif decide (TExpr.kind a0<1) then some (true) else some (decide (TExpr.kind a0>17))) fun y6=>Option.bind (α:=Bool) ( bif y6 then some (true) else some (TExpr.num a0 != 0)) fun y7=>Option.bind (α:=Bool) ( bif y7 then some (true) else some (!TExpr.name a0==[])) fun y8=>Option.bind (α:=Bool) ( bif y8 then some (true) else some ((List.length (TExpr.args a0):Int) != 1)) fun y9=>bif y9 then some (false) else (qba_l14 rec_qba (0:Int) (TExpr.kind a0) (TExpr.num a0) (TExpr.name a0) (TExpr.args a0)).bind fun y10=>(match y10 with|.inl y11=>some (y11)|.inr y11=>some (true)) else Option.bind (α:=Bool) ( bif decide (TExpr.kind a0<1) then some (true) else some (decide (TExpr.kind a0>17))) fun y12=>Option.bind (α:=Bool) ( bif y12 then some (true) else some (TExpr.num a0 != 0)) fun y13=>Option.bind (α:=Bool) ( bif y13 then some (true) else some (!TExpr.name a0==[])) fun y14=>Option.bind (α:=Bool) ( bif y14 then some (true) else some ((List.length (TExpr.args a0):Int) != 2)) fun y15=>bif y15 then some (false) else (qba_l14 rec_qba (0:Int) (TExpr.kind a0) (TExpr.num a0) (TExpr.name a0) (TExpr.args a0)).bind fun y16=>(match y16 with|.inl y17=>some (y17)|.inr y17=>some (true)) else bif TExpr.kind a0==4 then Option.bind (α:=Bool) ( bif decide (TExpr.kind a0<1) then some (true) else some (decide (TExpr.kind a0>17))) fun y18=>Option.bind (α:=Bool) ( bif y18 then some (true) else some (TExpr.num a0 != 0)) fun y19=>Option.bind (α:=Bool) ( bif y19 then some (true) else some (!TExpr.name a0==[])) fun y20=>Option.bind (α:=Bool) ( bif y20 then some (true) else some ((List.length (TExpr.args a0):Int) != 1)) fun y21=>bif y21 then some (false) else (qba_l14 rec_qba (0:Int) (TExpr.kind a0) (TExpr.num a0) (TExpr.name a0) (TExpr.args a0)).bind fun y22=>(match y22 with|.inl y23=>some (y23)|.inr y23=>some (true)) else Option.bind (α:=Bool) ( bif decide (TExpr.kind a0<1) then some (true) else some (decide (TExpr.kind a0>17))) fun y24=>Option.bind (α:=Bool) ( bif y24 then some (true) else some (TExpr.num a0 != 0)) fun y25=>Option.bind (α:=Bool) ( bif y25 then some (true) else some (!TExpr.name a0==[])) fun y26=>Option.bind (α:=Bool) ( bif y26 then some (true) else some ((List.length (TExpr.args a0):Int) != 2)) fun y27=>bif y27 then some (false) else (qba_l14 rec_qba (0:Int) (TExpr.kind a0) (TExpr.num a0) (TExpr.name a0) (TExpr.args a0)).bind fun y28=>(match y28 with|.inl y29=>some (y29)|.inr y29=>some (true))
def qba_i:Nat→qba_o
 |0=>fun _=>none
 |n+1=>qba_f (qba_i n)
def qba:=sealF (qba_i fuel)
abbrev qbn_o:=List TStmt→Option (Bool)
def qbm_f (rec_qbn:qbn_o) (a0:TStmt):Option (Bool):=Option.bind (α:=Bool) ( bif decide (TStmt.kind a0<1) then some (true) else some (decide (TStmt.kind a0>11))) fun y0=>bif y0 then some (false) else (qbc (TStmt.kind a0)).bind fun y1=>(qaX (TStmt.reg a0)).bind fun y2=>(qaX (TStmt.name a0)).bind fun y3=>(qba (TExpr.mk (TExpr.kind (TStmt.expr a0)) (TExpr.num (TStmt.expr a0)) (TExpr.name (TStmt.expr a0)) (TExpr.args (TStmt.expr a0)))).bind fun y4=>(qbe (TExpr.mk (TExpr.kind (TStmt.expr a0)) (TExpr.num (TStmt.expr a0)) (TExpr.name (TStmt.expr a0)) (TExpr.args (TStmt.expr a0)))).bind fun y5=>Option.bind (α:=Bool) ( bif y1.1 then some (!y2) else some (false)) fun y6=>Option.bind (α:=Bool) ( bif y6 then some (true) else Option.bind (α:=Bool) ( bif !y1.1 then some (!TStmt.reg a0==[]) else some (false)) fun y7=>some (y7)) fun y8=>Option.bind (α:=Bool) ( bif y8 then some (true) else Option.bind (α:=Bool) ( bif y1.2.1 then some (!y3) else some (false)) fun y9=>some (y9)) fun y10=>Option.bind (α:=Bool) ( bif y10 then some (true) else Option.bind (α:=Bool) ( bif !y1.2.1 then some (!TStmt.name a0==[]) else some (false)) fun y11=>some (y11)) fun y12=>Option.bind (α:=Bool) ( bif y12 then some (true) else Option.bind (α:=Bool) ( bif y1.2.2.1 then some (!y4) else some (false)) fun y13=>some (y13)) fun y14=>Option.bind (α:=Bool) ( bif y14 then some (true) else Option.bind (α:=Bool) ( bif !y1.2.2.1 then some (!y5) else some (false)) fun y15=>some (y15)) fun y16=>bif y16 then some (false) else Option.bind (α:=Bool) ( bif y1.2.2.2.1 then Option.bind (α:=Bool) ( bif decide (TStmt.count a0<0) then some (true) else some (decide (TStmt.count a0>1000))) fun y17=>some (y17) else some (false)) fun y18=>Option.bind (α:=Bool) ( bif y18 then some (true) else Option.bind (α:=Bool) ( bif !y1.2.2.2.1 then some (TStmt.count a0 != 0) else some (false)) fun y19=>some (y19)) fun y20=>Option.bind (α:=Bool) ( bif y20 then some (true) else Option.bind (α:=Bool) ( bif !y1.2.2.2.2.1 then some (decide ((List.length (TStmt.then_ a0):Int)>0)) else some (false)) fun y21=>some (y21)) fun y22=>Option.bind (α:=Bool) ( bif y22 then some (true) else Option.bind (α:=Bool) ( bif !y1.2.2.2.2.2 then some (decide ((List.length (TStmt.else_ a0):Int)>0)) else some (false)) fun y23=>some (y23)) fun y24=>bif y24 then some (false) else (rec_qbn (TStmt.then_ a0)).bind fun y25=>(rec_qbn (TStmt.else_ a0)).bind fun y26=>Option.bind (α:=Bool) ( bif y25 then some (y26) else some (false)) fun y27=>some (y27)
def qbm (rec_qbn:qbn_o):=sealF (qbm_f rec_qbn)
abbrev qbn_o2:=List TStmt→Int→Option ((Bool)⊕(Unit))
def qbn_t2 (rec_qbn:qbn_o) (rec:qbn_o2):qbn_o2:=fun a0 a1=>bif decide (a1<(List.length a0:Int)) then bif decide (0≤a1) then (a0[Int.toNat a1]?).bind fun y0=>(qbm rec_qbn y0).bind fun y1=>bif !y1 then some (.inl (false)) else rec (a0) (IntKind.wrap IntKind.i64 (a1+(1:Int))) else none else some (.inr ())
def qbn_i2 (rec_qbn:qbn_o):Nat→qbn_o2
 |0=>fun _ _=>none
 |n+1=>qbn_t2 rec_qbn (qbn_i2 rec_qbn n)
def qbn_l2 (rec_qbn:qbn_o):=sealF (qbn_i2 rec_qbn fuel)
def qbn_f (rec_qbn:qbn_o):qbn_o:=fun a0=>(qbn_l2 rec_qbn a0 (0:Int)).bind fun y0=>(match y0 with|.inl y1=>some (y1)|.inr y1=>some (true))
def qbn_i:Nat→qbn_o
 |0=>fun _=>none
 |n+1=>qbn_f (qbn_i n)
def qbn:=sealF (qbn_i fuel)
abbrev qbj_o2:=Int→List TCell→List (List UInt8)→List TThread→Option ((Bool)⊕((List TCell)×(List (List UInt8))×(List TThread)))
def qbj_t2 (rec:qbj_o2):qbj_o2:=fun a0 a1 a2 a3=>bif decide (a0<(List.length a1:Int)) then bif decide (0≤a0) then (a1[Int.toNat a0]?).bind fun y0=>(qaX (TCell.name y0)).bind fun y1=>Option.bind (α:=Bool) ( bif !y1 then some (true) else bif decide (0≤a0) then (a1[Int.toNat a0]?).bind fun y2=>some (decide (TCell.init y2<(-2147483647:Int))) else none) fun y3=>Option.bind (α:=Bool) ( bif y3 then some (true) else bif decide (0≤a0) then (a1[Int.toNat a0]?).bind fun y4=>some (decide (TCell.init y4>2147483647)) else none) fun y5=>bif y5 then some (.inl (false)) else rec (IntKind.wrap IntKind.i64 (a0+(1:Int))) (a1) (a2) (a3) else none else some (.inr ((a1),(a2),(a3)))
def qbj_i2:Nat→qbj_o2
 |0=>fun _ _ _ _=>none
 |n+1=>qbj_t2 (qbj_i2 n)
def qbj_l2:=sealF (qbj_i2 fuel)
abbrev qbj_o8:=Int→List TCell→List (List UInt8)→List TThread→Option ((Bool)⊕((List TCell)×(List (List UInt8))×(List TThread)))
def qbj_t8 (rec:qbj_o8):qbj_o8:=fun a0 a1 a2 a3=>bif decide (a0<(List.length a2:Int)) then bif decide (0≤a0) then (a2[Int.toNat a0]?).bind fun y0=>(qaX y0).bind fun y1=>bif !y1 then some (.inl (false)) else rec (IntKind.wrap IntKind.i64 (a0+(1:Int))) (a1) (a2) (a3) else none else some (.inr ((a1),(a2),(a3)))
def qbj_i8:Nat→qbj_o8
 |0=>fun _ _ _ _=>none
 |n+1=>qbj_t8 (qbj_i8 n)
def qbj_l8:=sealF (qbj_i8 fuel)
abbrev qbj_o14:=Int→List TCell→List (List UInt8)→List TThread→Option ((Bool)⊕(Unit))
def qbj_t14 (rec:qbj_o14):qbj_o14:=fun a0 a1 a2 a3=>bif decide (a0<(List.length a3:Int)) then bif decide (0≤a0) then (a3[Int.toNat a0]?).bind fun y0=>(qaX (TThread.name y0)).bind fun y1=>bif decide (0≤a0) then (a3[Int.toNat a0]?).bind fun y2=>(qbn (TThread.body y2)).bind fun y3=>Option.bind (α:=Bool) ( bif !y1 then some (true) else some (!y3)) fun y4=>bif y4 then some (.inl (false)) else rec (IntKind.wrap IntKind.i64 (a0+(1:Int))) (a1) (a2) (a3) else none else none else some (.inr ())
def qbj_i14:Nat→qbj_o14
 |0=>fun _ _ _ _=>none
 |n+1=>qbj_t14 (qbj_i14 n)
def qbj_l14:=sealF (qbj_i14 fuel)
def qbj_f (a0:TProg):Option (Bool):=(qbj_l2 (0:Int) (TProg.cells a0) (TProg.mutexes a0) (TProg.threads a0)).bind fun y0=>(match y0 with|.inl y1=>some (y1)|.inr y1=>(qbj_l8 (0:Int) y1.1 y1.2.1 y1.2.2).bind fun y2=>(match y2 with|.inl y3=>some (y3)|.inr y3=>(qbj_l14 (0:Int) y3.1 y3.2.1 y3.2.2).bind fun y4=>(match y4 with|.inl y5=>some (y5)|.inr y5=>some (true))))
def qbj:=sealF (qbj_f)
def qbf_f (a0:TProg):Option (Int):=(qbj (TProg.mk (TProg.cells a0) (TProg.mutexes a0) (TProg.threads a0))).bind fun y0=>bif !y0 then some ((30:Int)) else (qa7 (TProg.mk (TProg.cells a0) (TProg.mutexes a0) (TProg.threads a0))).bind fun y1=>bif decide (y1>16) then some ((31:Int)) else (qa6 (TProg.mk (TProg.cells a0) (TProg.mutexes a0) (TProg.threads a0))).bind fun y2=>bif decide (y2>500) then some ((32:Int)) else some ((0:Int))
def qbf:=sealF (qbf_f)
abbrev qbg_o:=TExpr→TExpr→Option (Bool)
abbrev qbg_o4:=Int→Int→Int→List UInt8→List TExpr→Int→Int→List UInt8→List TExpr→Option ((Bool)⊕(Unit))
def qbg_t4 (rec_qbg:qbg_o) (rec:qbg_o4):qbg_o4:=fun a0 a1 a2 a3 a4 a5 a6 a7 a8=>bif decide (a0<(List.length a4:Int)) then bif decide (0≤a0) then (a4[Int.toNat a0]?).bind fun y0=>bif decide (0≤a0) then (a8[Int.toNat a0]?).bind fun y1=>(rec_qbg y0 y1).bind fun y2=>bif !y2 then some (.inl (false)) else rec (IntKind.wrap IntKind.i64 (a0+(1:Int))) (a1) (a2) (a3) (a4) (a5) (a6) (a7) (a8) else none else none else some (.inr ())
def qbg_i4 (rec_qbg:qbg_o):Nat→qbg_o4
 |0=>fun _ _ _ _ _ _ _ _ _=>none
 |n+1=>qbg_t4 rec_qbg (qbg_i4 rec_qbg n)
def qbg_l4 (rec_qbg:qbg_o):=sealF (qbg_i4 rec_qbg fuel)
def qbg_f (rec_qbg:qbg_o):qbg_o:=fun a0 a1=>Option.bind (α:=Bool) ( bif TExpr.kind a0 != TExpr.kind a1 then some (true) else some (TExpr.num a0 != TExpr.num a1)) fun y0=>Option.bind (α:=Bool) ( bif y0 then some (true) else some (!TExpr.name a0==TExpr.name a1)) fun y1=>Option.bind (α:=Bool) ( bif y1 then some (true) else some ((List.length (TExpr.args a0):Int) != (List.length (TExpr.args a1):Int))) fun y2=>bif y2 then some (false) else (qbg_l4 rec_qbg (0:Int) (TExpr.kind a0) (TExpr.num a0) (TExpr.name a0) (TExpr.args a0) (TExpr.kind a1) (TExpr.num a1) (TExpr.name a1) (TExpr.args a1)).bind fun y3=>(match y3 with|.inl y4=>some (y4)|.inr y4=>some (true))
def qbg_i:Nat→qbg_o
 |0=>fun _ _=>none
 |n+1=>qbg_f (qbg_i n)
def qbg:=sealF (qbg_i fuel)
abbrev qaL_o:=List TAct→List TAct→Option (Bool)
abbrev qaL_o4:=List TAct→List TAct→Int→Option ((Bool)⊕(Unit))
def qaL_t4 (rec_qaL:qaL_o) (rec:qaL_o4):qaL_o4:=fun a0 a1 a2=>bif decide (a2<(List.length a0:Int)) then bif decide (0≤a2) then (a0[Int.toNat a2]?).bind fun y0=>bif decide (0≤a2) then (a1[Int.toNat a2]?).bind fun y1=>(qbg (TExpr.mk (TExpr.kind (TAct.expr y0)) (TExpr.num (TAct.expr y0)) (TExpr.name (TAct.expr y0)) (TExpr.args (TAct.expr y0))) (TExpr.mk (TExpr.kind (TAct.expr y1)) (TExpr.num (TAct.expr y1)) (TExpr.name (TAct.expr y1)) (TExpr.args (TAct.expr y1)))).bind fun y2=>bif decide (0≤a2) then (a0[Int.toNat a2]?).bind fun y3=>bif decide (0≤a2) then (a1[Int.toNat a2]?).bind fun y4=>(rec_qaL (TAct.then_ y3) (TAct.then_ y4)).bind fun y5=>bif decide (0≤a2) then (a0[Int.toNat a2]?).bind fun y6=>bif decide (0≤a2) then (a1[Int.toNat a2]?).bind fun y7=>(rec_qaL (TAct.else_ y6) (TAct.else_ y7)).bind fun y8=>bif decide (0≤a2) then (a0[Int.toNat a2]?).bind fun y9=>bif decide (0≤a2) then (a1[Int.toNat a2]?).bind fun y10=>bif TAct.kind y9 != TAct.kind y10 then some (.inl (false)) else bif decide (0≤a2) then (a0[Int.toNat a2]?).bind fun y11=>bif decide (0≤a2) then (a1[Int.toNat a2]?).bind fun y12=>bif TAct.reg y11 != TAct.reg y12 then some (.inl (false)) else bif decide (0≤a2) then (a0[Int.toNat a2]?).bind fun y13=>bif decide (0≤a2) then (a1[Int.toNat a2]?).bind fun y14=>bif TAct.obj y13 != TAct.obj y14 then some (.inl (false)) else bif decide (0≤a2) then (a0[Int.toNat a2]?).bind fun y15=>bif decide (0≤a2) then (a1[Int.toNat a2]?).bind fun y16=>bif TAct.count y15 != TAct.count y16 then some (.inl (false)) else bif !y2 then some (.inl (false)) else bif !y5 then some (.inl (false)) else bif !y8 then some (.inl (false)) else rec (a0) (a1) (IntKind.wrap IntKind.i64 (a2+(1:Int))) else none else none else none else none else none else none else none else none else none else none else none else none else none else none else some (.inr ())
def qaL_i4 (rec_qaL:qaL_o):Nat→qaL_o4
 |0=>fun _ _ _=>none
 |n+1=>qaL_t4 rec_qaL (qaL_i4 rec_qaL n)
def qaL_l4 (rec_qaL:qaL_o):=sealF (qaL_i4 rec_qaL fuel)
def qaL_f (rec_qaL:qaL_o):qaL_o:=fun a0 a1=>bif (List.length a0:Int) != (List.length a1:Int) then some (false) else (qaL_l4 rec_qaL a0 a1 (0:Int)).bind fun y0=>(match y0 with|.inl y1=>some (y1)|.inr y1=>some (true))
def qaL_i:Nat→qaL_o
 |0=>fun _ _=>none
 |n+1=>qaL_f (qaL_i n)
def qaL:=sealF (qaL_i fuel)
abbrev qaG_o4:=Int→List Int→Int→List TBody→List Int→Int→List TBody→Option ((Bool)⊕((List Int)×Int×(List TBody)×(List Int)×Int×(List TBody)))
def qaG_t4 (rec:qaG_o4):qaG_o4:=fun a0 a1 a2 a3 a4 a5 a6=>bif decide (a0<(List.length a1:Int)) then bif decide (0≤a0) then (a1[Int.toNat a0]?).bind fun y0=>bif decide (0≤a0) then (a4[Int.toNat a0]?).bind fun y1=>bif y0 != y1 then some (.inl (false)) else rec (IntKind.wrap IntKind.i64 (a0+(1:Int))) (a1) (a2) (a3) (a4) (a5) (a6) else none else none else some (.inr ((a1),(a2),(a3),(a4),(a5),(a6)))
def qaG_i4:Nat→qaG_o4
 |0=>fun _ _ _ _ _ _ _=>none
 |n+1=>qaG_t4 (qaG_i4 n)
def qaG_l4:=sealF (qaG_i4 fuel)
abbrev qaG_o9:=Int→List Int→Int→List TBody→List Int→Int→List TBody→Option ((Bool)⊕(Unit))
def qaG_t9 (rec:qaG_o9):qaG_o9:=fun a0 a1 a2 a3 a4 a5 a6=>bif decide (a0<(List.length a3:Int)) then bif decide (0≤a0) then (a3[Int.toNat a0]?).bind fun y0=>bif decide (0≤a0) then (a6[Int.toNat a0]?).bind fun y1=>(qaL (TBody.acts y0) (TBody.acts y1)).bind fun y2=>bif decide (0≤a0) then (a3[Int.toNat a0]?).bind fun y3=>bif decide (0≤a0) then (a6[Int.toNat a0]?).bind fun y4=>bif TBody.regs y3 != TBody.regs y4 then some (.inl (false)) else bif !y2 then some (.inl (false)) else rec (IntKind.wrap IntKind.i64 (a0+(1:Int))) (a1) (a2) (a3) (a4) (a5) (a6) else none else none else none else none else some (.inr ())
def qaG_i9:Nat→qaG_o9
 |0=>fun _ _ _ _ _ _ _=>none
 |n+1=>qaG_t9 (qaG_i9 n)
def qaG_l9:=sealF (qaG_i9 fuel)
def qaG_f (a0:TUnit) (a1:TUnit):Option (Bool):=Option.bind (α:=Bool) ( bif TUnit.mutexes a0 != TUnit.mutexes a1 then some (true) else some ((List.length (TUnit.cells a0):Int) != (List.length (TUnit.cells a1):Int))) fun y0=>Option.bind (α:=Bool) ( bif y0 then some (true) else some ((List.length (TUnit.threads a0):Int) != (List.length (TUnit.threads a1):Int))) fun y1=>bif y1 then some (false) else (qaG_l4 (0:Int) (TUnit.cells a0) (TUnit.mutexes a0) (TUnit.threads a0) (TUnit.cells a1) (TUnit.mutexes a1) (TUnit.threads a1)).bind fun y2=>(match y2 with|.inl y3=>some (y3)|.inr y3=>(qaG_l9 (0:Int) y3.1 y3.2.1 y3.2.2.1 y3.2.2.2.1 y3.2.2.2.2.1 y3.2.2.2.2.2).bind fun y4=>(match y4 with|.inl y5=>some (y5)|.inr y5=>some (true)))
def qaG:=sealF (qaG_f)
def qbl_f (a0:List UInt8) (a1:List (List UInt8)):Option ((List (List UInt8))):=(qaW a1 a0).bind fun y0=>Option.bind (α:=Bool) ( bif y0 then some (true) else some (a0==[])) fun y1=>bif y1 then some (a1) else bif decide ((List.length a1+List.length [a0])*(16:Nat)≤(140737488355328:Nat)∧List.length a1+List.length [a0]≤(9223372036854775807:Nat)) then some (a1++[a0]) else none
def qbl:=sealF (qbl_f)
abbrev qbb_o:=TExpr→List (List UInt8)→Option ((List (List UInt8)))
abbrev qbb_o3:=Int→Int→Int→List UInt8→List TExpr→List (List UInt8)→Option ((List (List UInt8)))
def qbb_t3 (rec_qbb:qbb_o) (rec:qbb_o3):qbb_o3:=fun a0 a1 a2 a3 a4 a5=>bif decide (a0<(List.length a4:Int)) then bif decide (0≤a0) then (a4[Int.toNat a0]?).bind fun y0=>(rec_qbb y0 a5).bind fun y1=>rec (IntKind.wrap IntKind.i64 (a0+(1:Int))) (a1) (a2) (a3) (a4) (y1) else none else some (a5)
def qbb_i3 (rec_qbb:qbb_o):Nat→qbb_o3
 |0=>fun _ _ _ _ _ _=>none
 |n+1=>qbb_t3 rec_qbb (qbb_i3 rec_qbb n)
def qbb_l3 (rec_qbb:qbb_o):=sealF (qbb_i3 rec_qbb fuel)
def qbb_f (rec_qbb:qbb_o):qbb_o:=fun a0 a1=>(qbl (TExpr.name a0) a1).bind fun y0=>(qbb_l3 rec_qbb (0:Int) (TExpr.kind a0) (TExpr.num a0) (TExpr.name a0) (TExpr.args a0) y0).bind fun y1=>some (y1)
def qbb_i:Nat→qbb_o
 |0=>fun _ _=>none
 |n+1=>qbb_f (qbb_i n)
def qbb:=sealF (qbb_i fuel)
abbrev qbk_o:=List TStmt→List (List UInt8)→Option ((List (List UInt8)))
abbrev qbk_o2:=List TStmt→Int→List (List UInt8)→Option ((List (List UInt8)))
def qbk_t2 (rec_qbk:qbk_o) (rec:qbk_o2):qbk_o2:=fun a0 a1 a2=>bif decide (a1<(List.length a0:Int)) then bif decide (0≤a1) then (a0[Int.toNat a1]?).bind fun y0=>(qbl (TStmt.reg y0) a2).bind fun y1=>bif decide (0≤a1) then (a0[Int.toNat a1]?).bind fun y2=>(qbl (TStmt.name y2) y1).bind fun y3=>bif decide (0≤a1) then (a0[Int.toNat a1]?).bind fun y4=>(qbo (TExpr.mk (TExpr.kind (TStmt.expr y4)) (TExpr.num (TStmt.expr y4)) (TExpr.name (TStmt.expr y4)) (TExpr.args (TStmt.expr y4)))).bind fun y5=>bif y5 then bif decide (0≤a1) then (a0[Int.toNat a1]?).bind fun y6=>(qbb (TExpr.mk (TExpr.kind (TStmt.expr y6)) (TExpr.num (TStmt.expr y6)) (TExpr.name (TStmt.expr y6)) (TExpr.args (TStmt.expr y6))) y3).bind fun y7=>bif decide (0≤a1) then (a0[Int.toNat a1]?).bind fun y8=>(rec_qbk (TStmt.then_ y8) y7).bind fun y9=>bif decide (0≤a1) then (a0[Int.toNat a1]?).bind fun y10=>(rec_qbk (TStmt.else_ y10) y9).bind fun y11=>rec (a0) (IntKind.wrap IntKind.i64 (a1+(1:Int))) (y11) else none else none else none else bif decide (0≤a1) then (a0[Int.toNat a1]?).bind fun y12=>(rec_qbk (TStmt.then_ y12) y3).bind fun y13=>bif decide (0≤a1) then (a0[Int.toNat a1]?).bind fun y14=>(rec_qbk (TStmt.else_ y14) y13).bind fun y15=>rec (a0) (IntKind.wrap IntKind.i64 (a1+(1:Int))) (y15) else none else none else none else none else none else some (a2)
def qbk_i2 (rec_qbk:qbk_o):Nat→qbk_o2
 |0=>fun _ _ _=>none
 |n+1=>qbk_t2 rec_qbk (qbk_i2 rec_qbk n)
def qbk_l2 (rec_qbk:qbk_o):=sealF (qbk_i2 rec_qbk fuel)
def qbk_f (rec_qbk:qbk_o):qbk_o:=fun a0 a1=>(qbk_l2 rec_qbk a0 (0:Int) a1).bind fun y0=>some (y0)
def qbk_i:Nat→qbk_o
 |0=>fun _ _=>none
 |n+1=>qbk_f (qbk_i n)
def qbk:=sealF (qbk_i fuel)
abbrev qbd_o3:=Int→List TCell→List (List UInt8)→List TThread→List (List UInt8)→Option ((List TCell)×(List (List UInt8))×(List TThread)×(List (List UInt8)))
def qbd_t3 (rec:qbd_o3):qbd_o3:=fun a0 a1 a2 a3 a4=>bif decide (a0<(List.length a1:Int)) then bif decide (0≤a0) then (a1[Int.toNat a0]?).bind fun y0=>(qbl (TCell.name y0) a4).bind fun y1=>rec (IntKind.wrap IntKind.i64 (a0+(1:Int))) (a1) (a2) (a3) (y1) else none else some ((a1),(a2),(a3),(a4))
def qbd_i3:Nat→qbd_o3
 |0=>fun _ _ _ _ _=>none
 |n+1=>qbd_t3 (qbd_i3 n)
def qbd_l3:=sealF (qbd_i3 fuel)
abbrev qbd_o7:=Int→List TCell→List (List UInt8)→List TThread→List (List UInt8)→Option ((List TCell)×(List (List UInt8))×(List TThread)×(List (List UInt8)))
def qbd_t7 (rec:qbd_o7):qbd_o7:=fun a0 a1 a2 a3 a4=>bif decide (a0<(List.length a2:Int)) then bif decide (0≤a0) then (a2[Int.toNat a0]?).bind fun y0=>(qbl y0 a4).bind fun y1=>rec (IntKind.wrap IntKind.i64 (a0+(1:Int))) (a1) (a2) (a3) (y1) else none else some ((a1),(a2),(a3),(a4))
def qbd_i7:Nat→qbd_o7
 |0=>fun _ _ _ _ _=>none
 |n+1=>qbd_t7 (qbd_i7 n)
def qbd_l7:=sealF (qbd_i7 fuel)
abbrev qbd_o11:=Int→List TCell→List (List UInt8)→List TThread→List (List UInt8)→Option ((List TCell)×(List (List UInt8))×(List TThread)×(List (List UInt8)))
def qbd_t11 (rec:qbd_o11):qbd_o11:=fun a0 a1 a2 a3 a4=>bif decide (a0<(List.length a3:Int)) then bif decide (0≤a0) then (a3[Int.toNat a0]?).bind fun y0=>(qbl (TThread.name y0) a4).bind fun y1=>rec (IntKind.wrap IntKind.i64 (a0+(1:Int))) (a1) (a2) (a3) (y1) else none else some ((a1),(a2),(a3),(a4))
def qbd_i11:Nat→qbd_o11
 |0=>fun _ _ _ _ _=>none
 |n+1=>qbd_t11 (qbd_i11 n)
def qbd_l11:=sealF (qbd_i11 fuel)
abbrev qbd_o15:=Int→List TCell→List (List UInt8)→List TThread→List (List UInt8)→Option ((List (List UInt8)))
def qbd_t15 (rec:qbd_o15):qbd_o15:=fun a0 a1 a2 a3 a4=>bif decide (a0<(List.length a3:Int)) then bif decide (0≤a0) then (a3[Int.toNat a0]?).bind fun y0=>(qbk (TThread.body y0) a4).bind fun y1=>rec (IntKind.wrap IntKind.i64 (a0+(1:Int))) (a1) (a2) (a3) (y1) else none else some (a4)
def qbd_i15:Nat→qbd_o15
 |0=>fun _ _ _ _ _=>none
 |n+1=>qbd_t15 (qbd_i15 n)
def qbd_l15:=sealF (qbd_i15 fuel)
def qbd_f (a0:TProg):Option ((List (List UInt8))):=(qbd_l3 (0:Int) (TProg.cells a0) (TProg.mutexes a0) (TProg.threads a0) []).bind fun y0=>(qbd_l7 (0:Int) y0.1 y0.2.1 y0.2.2.1 y0.2.2.2).bind fun y1=>(qbd_l11 (0:Int) y1.1 y1.2.1 y1.2.2.1 y1.2.2.2).bind fun y2=>(qbd_l15 (0:Int) y2.1 y2.2.1 y2.2.2.1 y2.2.2.2).bind fun y3=>some (y3)
def qbd:=sealF (qbd_f)
abbrev qaH_o2:=List (List UInt8)→List UInt8→Int→Option ((Int)⊕(Unit))
def qaH_t2 (rec:qaH_o2):qaH_o2:=fun a0 a1 a2=>bif decide (a2<(List.length a0:Int)) then bif decide (0≤a2) then (a0[Int.toNat a2]?).bind fun y0=>bif y0==a1 then some (.inl (a2)) else rec (a0) (a1) (IntKind.wrap IntKind.i64 (a2+(1:Int))) else none else some (.inr ())
def qaH_i2:Nat→qaH_o2
 |0=>fun _ _ _=>none
 |n+1=>qaH_t2 (qaH_i2 n)
def qaH_l2:=sealF (qaH_i2 fuel)
def qaH_f (a0:List (List UInt8)) (a1:List UInt8):Option (Int):=(qaH_l2 a0 a1 (0:Int)).bind fun y0=>(match y0 with|.inl y1=>some (y1)|.inr y1=>some ((-1:Int)))
def qaH:=sealF (qaH_f)
def qaI_f (a0:List UInt8) (a1:List (List UInt8)) (a2:List (List UInt8)):Option ((List UInt8)):=(qaH a1 a0).bind fun y0=>bif decide (y0<0) then some (a0) else bif decide ((0:Int)≤y0) then (a2[Int.toNat y0]?).bind fun y1=>some (y1) else none
def qaI:=sealF (qaI_f)
abbrev qaJ_o:=TExpr→List (List UInt8)→List (List UInt8)→Option (TExpr)
abbrev qaJ_o4:=List (List UInt8)→List (List UInt8)→Int→Int→Int→List UInt8→List TExpr→Int→Int→List UInt8→Int→Int→List UInt8→List TExpr→Option (Int×Int×(List UInt8)×Int×Int×(List UInt8)×(List TExpr))
def qaJ_t4 (rec_qaJ:qaJ_o) (rec:qaJ_o4):qaJ_o4:=fun a0 a1 a2 a3 a4 a5 a6 a7 a8 a9 a10 a11 a12 a13=>bif decide (a2<(List.length a6:Int)) then bif decide (0≤a2) then (a6[Int.toNat a2]?).bind fun y0=>(rec_qaJ y0 a0 a1).bind fun y1=>bif decide ((List.length a13+List.length [TExpr.mk (TExpr.kind y1) (TExpr.num y1) (TExpr.name y1) (TExpr.args y1)])*(56:Nat)≤(140737488355328:Nat)∧List.length a13+List.length [TExpr.mk (TExpr.kind y1) (TExpr.num y1) (TExpr.name y1) (TExpr.args y1)]≤(9223372036854775807:Nat)) then rec (a0) (a1) (IntKind.wrap IntKind.i64 (a2+(1:Int))) (a3) (a4) (a5) (a6) (a7) (a8) (a9) (a10) (a11) (a12) (a13++[TExpr.mk (TExpr.kind y1) (TExpr.num y1) (TExpr.name y1) (TExpr.args y1)]) else none else none else some ((a7),(a8),(a9),(a10),(a11),(a12),(a13))
def qaJ_i4 (rec_qaJ:qaJ_o):Nat→qaJ_o4
 |0=>fun _ _ _ _ _ _ _ _ _ _ _ _ _ _=>none
 |n+1=>qaJ_t4 rec_qaJ (qaJ_i4 rec_qaJ n)
def qaJ_l4 (rec_qaJ:qaJ_o):=sealF (qaJ_i4 rec_qaJ fuel)
def qaJ_f (rec_qaJ:qaJ_o):qaJ_o:=fun a0 a1 a2=>(qaI (TExpr.name a0) a1 a2).bind fun y0=>(qaJ_l4 rec_qaJ a1 a2 (0:Int) (TExpr.kind a0) (TExpr.num a0) (TExpr.name a0) (TExpr.args a0) (0:Int) (0:Int) [] (TExpr.kind a0) (TExpr.num a0) y0 []).bind fun y1=>some (TExpr.mk y1.2.2.2.1 y1.2.2.2.2.1 y1.2.2.2.2.2.1 y1.2.2.2.2.2.2)
def qaJ_i:Nat→qaJ_o
 |0=>fun _ _ _=>none
 |n+1=>qaJ_f (qaJ_i n)
def qaJ:=sealF (qaJ_i fuel)
abbrev qaK_o:=List TStmt→List (List UInt8)→List (List UInt8)→Option ((List TStmt))
abbrev qaK_o3:=List TStmt→List (List UInt8)→List (List UInt8)→Int→List TStmt→Option ((List TStmt))
def qaK_t3 (rec_qaK:qaK_o) (rec:qaK_o3):qaK_o3:=fun a0 a1 a2 a3 a4=>bif decide (a3<(List.length a0:Int)) then bif decide (0≤a3) then (a0[Int.toNat a3]?).bind fun y0=>bif decide (0≤a3) then (a0[Int.toNat a3]?).bind fun y1=>bif decide (0≤a3) then (a0[Int.toNat a3]?).bind fun y2=>(qaI (TStmt.reg y2) a1 a2).bind fun y3=>bif decide (0≤a3) then (a0[Int.toNat a3]?).bind fun y4=>(qaI (TStmt.name y4) a1 a2).bind fun y5=>bif decide (0≤a3) then (a0[Int.toNat a3]?).bind fun y6=>(qaJ (TExpr.mk (TExpr.kind (TStmt.expr y6)) (TExpr.num (TStmt.expr y6)) (TExpr.name (TStmt.expr y6)) (TExpr.args (TStmt.expr y6))) a1 a2).bind fun y7=>bif decide (0≤a3) then (a0[Int.toNat a3]?).bind fun y8=>(rec_qaK (TStmt.then_ y8) a1 a2).bind fun y9=>bif decide (0≤a3) then (a0[Int.toNat a3]?).bind fun y10=>(rec_qaK (TStmt.else_ y10) a1 a2).bind fun y11=>bif decide ((List.length a4+List.length [TStmt.mk (TStmt.kind y0) y3 y5 (TExpr.mk (TExpr.kind y7) (TExpr.num y7) (TExpr.name y7) (TExpr.args y7)) (TStmt.count y1) y9 y11])*(152:Nat)≤(140737488355328:Nat)∧List.length a4+List.length [TStmt.mk (TStmt.kind y0) y3 y5 (TExpr.mk (TExpr.kind y7) (TExpr.num y7) (TExpr.name y7) (TExpr.args y7)) (TStmt.count y1) y9 y11]≤(9223372036854775807:Nat)) then rec (a0) (a1) (a2) (IntKind.wrap IntKind.i64 (a3+(1:Int))) (a4++[TStmt.mk (TStmt.kind y0) y3 y5 (TExpr.mk (TExpr.kind y7) (TExpr.num y7) (TExpr.name y7) (TExpr.args y7)) (TStmt.count y1) y9 y11]) else none else none else none else none else none else none else none else none else some (a4)
def qaK_i3 (rec_qaK:qaK_o):Nat→qaK_o3
 |0=>fun _ _ _ _ _=>none
 |n+1=>qaK_t3 rec_qaK (qaK_i3 rec_qaK n)
def qaK_l3 (rec_qaK:qaK_o):=sealF (qaK_i3 rec_qaK fuel)
def qaK_f (rec_qaK:qaK_o):qaK_o:=fun a0 a1 a2=>(qaK_l3 rec_qaK a0 a1 a2 (0:Int) []).bind fun y0=>some (y0)
def qaK_i:Nat→qaK_o
 |0=>fun _ _ _=>none
 |n+1=>qaK_f (qaK_i n)
def qaK:=sealF (qaK_i fuel)
abbrev qaF_o6:=List (List UInt8)→Int→List TCell→List (List UInt8)→List TThread→List (List UInt8)→Option ((Bool)⊕((List (List UInt8))×(List TCell)×(List (List UInt8))×(List TThread)×(List (List UInt8))))
def qaF_t6 (rec:qaF_o6):qaF_o6:=fun a0 a1 a2 a3 a4 a5=>bif decide (a1<(List.length a5:Int)) then bif decide (0≤a1) then (a0[Int.toNat a1]?).bind fun y0=>(qaH a0 y0).bind fun y1=>bif decide (y1<a1) then some (.inl (true)) else rec (a0) (IntKind.wrap IntKind.i64 (a1+(1:Int))) (a2) (a3) (a4) (a5) else none else some (.inr ((a0),(a2),(a3),(a4),(a5)))
def qaF_i6:Nat→qaF_o6
 |0=>fun _ _ _ _ _ _=>none
 |n+1=>qaF_t6 (qaF_i6 n)
def qaF_l6:=sealF (qaF_i6 fuel)
abbrev qaF_o13:=List (List UInt8)→Int→List TCell→List (List UInt8)→List TThread→List (List UInt8)→List TCell→Option ((List (List UInt8))×(List TCell)×(List (List UInt8))×(List TThread)×(List (List UInt8))×(List TCell))
def qaF_t13 (rec:qaF_o13):qaF_o13:=fun a0 a1 a2 a3 a4 a5 a6=>bif decide (a1<(List.length a2:Int)) then bif decide (0≤a1) then (a2[Int.toNat a1]?).bind fun y0=>(qaI (TCell.name y0) a5 a0).bind fun y1=>bif decide (0≤a1) then (a2[Int.toNat a1]?).bind fun y2=>bif decide ((List.length a6+List.length [TCell.mk y1 (TCell.init y2)])*(24:Nat)≤(140737488355328:Nat)∧List.length a6+List.length [TCell.mk y1 (TCell.init y2)]≤(9223372036854775807:Nat)) then rec (a0) (IntKind.wrap IntKind.i64 (a1+(1:Int))) (a2) (a3) (a4) (a5) (a6++[TCell.mk y1 (TCell.init y2)]) else none else none else none else some ((a0),(a2),(a3),(a4),(a5),(a6))
def qaF_i13:Nat→qaF_o13
 |0=>fun _ _ _ _ _ _ _=>none
 |n+1=>qaF_t13 (qaF_i13 n)
def qaF_l13:=sealF (qaF_i13 fuel)
abbrev qaF_o18:=List (List UInt8)→Int→List TCell→List (List UInt8)→List TThread→List (List UInt8)→List TCell→List (List UInt8)→Option ((List (List UInt8))×(List TCell)×(List (List UInt8))×(List TThread)×(List (List UInt8))×(List TCell)×(List (List UInt8)))
def qaF_t18 (rec:qaF_o18):qaF_o18:=fun a0 a1 a2 a3 a4 a5 a6 a7=>bif decide (a1<(List.length a3:Int)) then bif decide (0≤a1) then (a3[Int.toNat a1]?).bind fun y0=>(qaI y0 a5 a0).bind fun y1=>bif decide ((List.length a7+List.length [y1])*(16:Nat)≤(140737488355328:Nat)∧List.length a7+List.length [y1]≤(9223372036854775807:Nat)) then rec (a0) (IntKind.wrap IntKind.i64 (a1+(1:Int))) (a2) (a3) (a4) (a5) (a6) (a7++[y1]) else none else none else some ((a0),(a2),(a3),(a4),(a5),(a6),(a7))
def qaF_i18:Nat→qaF_o18
 |0=>fun _ _ _ _ _ _ _ _=>none
 |n+1=>qaF_t18 (qaF_i18 n)
def qaF_l18:=sealF (qaF_i18 fuel)
abbrev qaF_o23:=List (List UInt8)→List (List UInt8)→Int→List TCell→List (List UInt8)→List TThread→List TCell→List (List UInt8)→List TThread→Option ((List (List UInt8))×(List (List UInt8))×(List TCell)×(List (List UInt8))×(List TThread)×(List TCell)×(List (List UInt8))×(List TThread))
def qaF_t23 (rec:qaF_o23):qaF_o23:=fun a0 a1 a2 a3 a4 a5 a6 a7 a8=>bif decide (a2<(List.length a5:Int)) then bif decide (0≤a2) then (a5[Int.toNat a2]?).bind fun y0=>(qaI (TThread.name y0) a1 a0).bind fun y1=>bif decide (0≤a2) then (a5[Int.toNat a2]?).bind fun y2=>(qaK (TThread.body y2) a1 a0).bind fun y3=>bif decide ((List.length a8+List.length [TThread.mk y1 y3])*(40:Nat)≤(140737488355328:Nat)∧List.length a8+List.length [TThread.mk y1 y3]≤(9223372036854775807:Nat)) then rec (a0) (a1) (IntKind.wrap IntKind.i64 (a2+(1:Int))) (a3) (a4) (a5) (a6) (a7) (a8++[TThread.mk y1 y3]) else none else none else none else some ((a0),(a1),(a3),(a4),(a5),(a6),(a7),(a8))
def qaF_i23:Nat→qaF_o23
 |0=>fun _ _ _ _ _ _ _ _ _=>none
 |n+1=>qaF_t23 (qaF_i23 n)
def qaF_l23:=sealF (qaF_i23 fuel)
def qaF_f (a0:TProg) (a1:List (List UInt8)):Option (Bool):=(qaM).bind fun y0=>(qbd (TProg.mk (TProg.cells a0) (TProg.mutexes a0) (TProg.threads a0))).bind fun y1=>Option.bind (α:=Bool) ( bif !y0 then some (true) else some (decide ((List.length a1:Int)<(List.length y1:Int)))) fun y2=>bif y2 then some (y0) else (qaF_l6 a1 (0:Int) (TProg.cells a0) (TProg.mutexes a0) (TProg.threads a0) y1).bind fun y3=>(match y3 with|.inl y4=>some (y4)|.inr y4=>(qaF_l13 y4.1 (0:Int) y4.2.1 y4.2.2.1 y4.2.2.2.1 y4.2.2.2.2 []).bind fun y5=>(qaF_l18 y5.1 (0:Int) y5.2.1 y5.2.2.1 y5.2.2.2.1 y5.2.2.2.2.1 y5.2.2.2.2.2 []).bind fun y6=>(qaF_l23 y6.1 y6.2.2.2.2.1 (0:Int) y6.2.1 y6.2.2.1 y6.2.2.2.1 y6.2.2.2.2.2.1 y6.2.2.2.2.2.2 []).bind fun y7=>(qbf (TProg.mk y7.2.2.1 y7.2.2.2.1 y7.2.2.2.2.1)).bind fun y8=>(qbf (TProg.mk y7.2.2.2.2.2.1 y7.2.2.2.2.2.2.1 y7.2.2.2.2.2.2.2)).bind fun y9=>Option.bind (α:=Bool) ( bif y8 != 0 then some (true) else some (y9 != 0)) fun y10=>bif y10 then some (true) else (qal (TProg.mk y7.2.2.1 y7.2.2.2.1 y7.2.2.2.2.1)).bind fun y11=>(qal (TProg.mk y7.2.2.2.2.2.1 y7.2.2.2.2.2.2.1 y7.2.2.2.2.2.2.2)).bind fun y12=>(qaG (TUnit.mk (TUnit.cells y11.1) (TUnit.mutexes y11.1) (TUnit.threads y11.1)) (TUnit.mk (TUnit.cells y12.1) (TUnit.mutexes y12.1) (TUnit.threads y12.1))).bind fun y13=>(qaI y11.2.2.2 y7.2.1 y7.1).bind fun y14=>Option.bind (α:=Bool) ( bif y11.2.2.1==y12.2.2.1 then some (y13) else some (false)) fun y15=>Option.bind (α:=Bool) ( bif y15 then some (y12.2.2.2==y14) else some (false)) fun y16=>some (y16))
def qaF:=sealF (qaF_f)
end
end Lift.Fn
