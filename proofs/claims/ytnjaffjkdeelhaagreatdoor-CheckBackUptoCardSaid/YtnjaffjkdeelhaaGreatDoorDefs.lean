/-
  DERIVED. The functions of this seat as Lean has them; the library's modes. Conditions: none.
-/
import Derived.Test.YtnjaffjkdeelhaaGreatDoorLiftC
import Derived.Test.YtnjaffjkdeelhaaGreatDoorProg
import Derived.KernelRfl
set_option linter.unusedVariables false
set_option linter.unusedSimpArgs false
set_option linter.unusedSectionVars false
namespace Lift.J6
open Go Go.RowKit Go.Proofs Lift
@[reducible] noncomputable def U (n:Nat):Type:=match n with
 |26=>TProg
 |32=>TUnit
 |35=>Names
 |48=>TCell
 |51=>TThread
 |60=>TExpr
 |62=>TStmt
 |65=>TBody
 |67=>TAct
 |75=>Refused
 |103=>Thing
 |111=>Namer
 |130=>Fault
 |134=>Token
 |136=>Shape
 |146=>Spot
 |1026=>TProg
 |1032=>TUnit
 |1035=>Names
 |1051=>TThread
 |1060=>TExpr
 |1062=>TStmt
 |1065=>TBody
 |1067=>TAct
 |1111=>Namer
 |_=>Empty
noncomputable def cells (n:Nat):U n→List (TV U):=match n with
 |26=>fun (x:TProg)=>[⟨.slc (.st 48),x.cells⟩,⟨.slc (.str),x.mutexes⟩,⟨.slc (.st 51),x.threads⟩]
 |32=>fun (x:TUnit)=>[⟨.slc (.int .i64),x.cells⟩,⟨.int .i64,x.mutexes⟩,⟨.slc (.st 65),x.threads⟩]
 |35=>fun (x:Names)=>[⟨.slc (.str),x.cells⟩,⟨.slc (.str),x.mutexes⟩,⟨.slc (.str),x.threads⟩,⟨.slc (.slc (.str)),x.regs⟩]
 |48=>fun (x:TCell)=>[⟨.str,x.name⟩,⟨.int .i64,x.init⟩]
 |51=>fun (x:TThread)=>[⟨.str,x.name⟩,⟨.slc (.st 62),x.body⟩]
 |60=>fun (x:TExpr)=>[⟨.int .i64,x.kind⟩,⟨.int .i64,x.num⟩,⟨.str,x.name⟩,⟨.slc (.st 60),x.args⟩]
 |62=>fun (x:TStmt)=>[⟨.int .i64,x.kind⟩,⟨.str,x.reg⟩,⟨.str,x.name⟩,⟨.int .i64,x.expr.kind⟩,⟨.int .i64,x.expr.num⟩,⟨.str,x.expr.name⟩,⟨.slc (.st 60),x.expr.args⟩,⟨.int .i64,x.count⟩,⟨.slc (.st 62),x.then_⟩,⟨.slc (.st 62),x.else_⟩]
 |65=>fun (x:TBody)=>[⟨.int .i64,x.regs⟩,⟨.slc (.st 67),x.acts⟩]
 |67=>fun (x:TAct)=>[⟨.int .i64,x.kind⟩,⟨.int .i64,x.reg⟩,⟨.int .i64,x.obj⟩,⟨.int .i64,x.expr.kind⟩,⟨.int .i64,x.expr.num⟩,⟨.str,x.expr.name⟩,⟨.slc (.st 60),x.expr.args⟩,⟨.int .i64,x.count⟩,⟨.slc (.st 67),x.then_⟩,⟨.slc (.st 67),x.else_⟩]
 |75=>fun (x:Refused)=>[⟨.int .i64,x.e⟩,⟨.str,x.name⟩]
 |103=>fun (x:Thing)=>[⟨.int .i64,x.kind⟩,⟨.int .i64,x.number⟩]
 |111=>fun (x:Namer)=>[⟨.slc (.str),x.cells⟩,⟨.slc (.str),x.mutexes⟩,⟨.slc (.str),x.threads⟩,⟨.slc (.str),x.regs⟩]
 |130=>fun (x:Fault)=>[⟨.int .i64,x.code⟩,⟨.int .i64,x.at_⟩,⟨.str,x.name⟩]
 |134=>fun (x:Token)=>[⟨.int .i64,x.kind⟩,⟨.str,x.text⟩,⟨.int .i64,x.num⟩,⟨.int .i64,x.at_⟩]
 |136=>fun (x:Shape)=>[⟨.bool,x.reg⟩,⟨.bool,x.name⟩,⟨.bool,x.expr⟩,⟨.bool,x.count⟩,⟨.bool,x.then_⟩,⟨.bool,x.other⟩]
 |146=>fun (x:Spot)=>[⟨.int .i64,x.rune⟩,⟨.int .i64,x.at_⟩,⟨.int .i64,x.line⟩,⟨.int .i64,x.col⟩]
 |1026=>fun (x:TProg)=>[⟨.own 48 (.st 48),x.cells⟩,⟨.own 9 (.str),x.mutexes⟩,⟨.own 51 (.st 1051),x.threads⟩]
 |1032=>fun (x:TUnit)=>[⟨.own 3 (.int .i64),x.cells⟩,⟨.int .i64,x.mutexes⟩,⟨.own 65 (.st 1065),x.threads⟩]
 |1035=>fun (x:Names)=>[⟨.own 9 (.str),x.cells⟩,⟨.own 9 (.str),x.mutexes⟩,⟨.own 9 (.str),x.threads⟩,⟨.own 23 (.own 9 (.str)),x.regs⟩]
 |1051=>fun (x:TThread)=>[⟨.str,x.name⟩,⟨.own 62 (.st 1062),x.body⟩]
 |1060=>fun (x:TExpr)=>[⟨.int .i64,x.kind⟩,⟨.int .i64,x.num⟩,⟨.str,x.name⟩,⟨.own 60 (.st 1060),x.args⟩]
 |1062=>fun (x:TStmt)=>[⟨.int .i64,x.kind⟩,⟨.str,x.reg⟩,⟨.str,x.name⟩,⟨.int .i64,x.expr.kind⟩,⟨.int .i64,x.expr.num⟩,⟨.str,x.expr.name⟩,⟨.own 60 (.st 1060),x.expr.args⟩,⟨.int .i64,x.count⟩,⟨.own 62 (.st 1062),x.then_⟩,⟨.own 62 (.st 1062),x.else_⟩]
 |1065=>fun (x:TBody)=>[⟨.int .i64,x.regs⟩,⟨.own 67 (.st 1067),x.acts⟩]
 |1067=>fun (x:TAct)=>[⟨.int .i64,x.kind⟩,⟨.int .i64,x.reg⟩,⟨.int .i64,x.obj⟩,⟨.int .i64,x.expr.kind⟩,⟨.int .i64,x.expr.num⟩,⟨.str,x.expr.name⟩,⟨.own 60 (.st 1060),x.expr.args⟩,⟨.int .i64,x.count⟩,⟨.own 67 (.st 1067),x.then_⟩,⟨.own 67 (.st 1067),x.else_⟩]
 |1111=>fun (x:Namer)=>[⟨.own 9 (.str),x.cells⟩,⟨.own 9 (.str),x.mutexes⟩,⟨.own 9 (.str),x.threads⟩,⟨.own 9 (.str),x.regs⟩]
 |_=>fun _=>[]
noncomputable def ctys (n:Nat):List Ty:=match n with
 |26=>[.slc (.st 48),.slc (.str),.slc (.st 51)]
 |32=>[.slc (.int .i64),.int .i64,.slc (.st 65)]
 |35=>[.slc (.str),.slc (.str),.slc (.str),.slc (.slc (.str))]
 |48=>[.str,.int .i64]
 |51=>[.str,.slc (.st 62)]
 |60=>[.int .i64,.int .i64,.str,.slc (.st 60)]
 |62=>[.int .i64,.str,.str,.int .i64,.int .i64,.str,.slc (.st 60),.int .i64,.slc (.st 62),.slc (.st 62)]
 |65=>[.int .i64,.slc (.st 67)]
 |67=>[.int .i64,.int .i64,.int .i64,.int .i64,.int .i64,.str,.slc (.st 60),.int .i64,.slc (.st 67),.slc (.st 67)]
 |75=>[.int .i64,.str]
 |103=>[.int .i64,.int .i64]
 |111=>[.slc (.str),.slc (.str),.slc (.str),.slc (.str)]
 |130=>[.int .i64,.int .i64,.str]
 |134=>[.int .i64,.str,.int .i64,.int .i64]
 |136=>[.bool,.bool,.bool,.bool,.bool,.bool]
 |146=>[.int .i64,.int .i64,.int .i64,.int .i64]
 |1026=>[.own 48 (.st 48),.own 9 (.str),.own 51 (.st 1051)]
 |1032=>[.own 3 (.int .i64),.int .i64,.own 65 (.st 1065)]
 |1035=>[.own 9 (.str),.own 9 (.str),.own 9 (.str),.own 23 (.own 9 (.str))]
 |1051=>[.str,.own 62 (.st 1062)]
 |1060=>[.int .i64,.int .i64,.str,.own 60 (.st 1060)]
 |1062=>[.int .i64,.str,.str,.int .i64,.int .i64,.str,.own 60 (.st 1060),.int .i64,.own 62 (.st 1062),.own 62 (.st 1062)]
 |1065=>[.int .i64,.own 67 (.st 1067)]
 |1067=>[.int .i64,.int .i64,.int .i64,.int .i64,.int .i64,.str,.own 60 (.st 1060),.int .i64,.own 67 (.st 1067),.own 67 (.st 1067)]
 |1111=>[.own 9 (.str),.own 9 (.str),.own 9 (.str),.own 9 (.str)]
 |_=>[]
noncomputable def make (n:Nat):List (TV U)→Option (U n):=match n with
 |26=>fun|[⟨.slc (.st 48),v0⟩,⟨.slc (.str),v1⟩,⟨.slc (.st 51),v2⟩]=>some (TProg.mk v0 v1 v2)|_=>none
 |32=>fun|[⟨.slc (.int .i64),v0⟩,⟨.int .i64,v1⟩,⟨.slc (.st 65),v2⟩]=>some (TUnit.mk v0 v1 v2)|_=>none
 |35=>fun|[⟨.slc (.str),v0⟩,⟨.slc (.str),v1⟩,⟨.slc (.str),v2⟩,⟨.slc (.slc (.str)),v3⟩]=>some (Names.mk v0 v1 v2 v3)|_=>none
 |48=>fun|[⟨.str,v0⟩,⟨.int .i64,v1⟩]=>some (TCell.mk v0 v1)|_=>none
 |51=>fun|[⟨.str,v0⟩,⟨.slc (.st 62),v1⟩]=>some (TThread.mk v0 v1)|_=>none
 |60=>fun|[⟨.int .i64,v0⟩,⟨.int .i64,v1⟩,⟨.str,v2⟩,⟨.slc (.st 60),v3⟩]=>some (TExpr.mk v0 v1 v2 v3)|_=>none
 |62=>fun|[⟨.int .i64,v0⟩,⟨.str,v1⟩,⟨.str,v2⟩,⟨.int .i64,v3⟩,⟨.int .i64,v4⟩,⟨.str,v5⟩,⟨.slc (.st 60),v6⟩,⟨.int .i64,v7⟩,⟨.slc (.st 62),v8⟩,⟨.slc (.st 62),v9⟩]=>some (TStmt.mk v0 v1 v2 (TExpr.mk v3 v4 v5 v6) v7 v8 v9)|_=>none
 |65=>fun|[⟨.int .i64,v0⟩,⟨.slc (.st 67),v1⟩]=>some (TBody.mk v0 v1)|_=>none
 |67=>fun|[⟨.int .i64,v0⟩,⟨.int .i64,v1⟩,⟨.int .i64,v2⟩,⟨.int .i64,v3⟩,⟨.int .i64,v4⟩,⟨.str,v5⟩,⟨.slc (.st 60),v6⟩,⟨.int .i64,v7⟩,⟨.slc (.st 67),v8⟩,⟨.slc (.st 67),v9⟩]=>some (TAct.mk v0 v1 v2 (TExpr.mk v3 v4 v5 v6) v7 v8 v9)|_=>none
 |75=>fun|[⟨.int .i64,v0⟩,⟨.str,v1⟩]=>some (Refused.mk v0 v1)|_=>none
 |103=>fun|[⟨.int .i64,v0⟩,⟨.int .i64,v1⟩]=>some (Thing.mk v0 v1)|_=>none
 |111=>fun|[⟨.slc (.str),v0⟩,⟨.slc (.str),v1⟩,⟨.slc (.str),v2⟩,⟨.slc (.str),v3⟩]=>some (Namer.mk v0 v1 v2 v3)|_=>none
 |130=>fun|[⟨.int .i64,v0⟩,⟨.int .i64,v1⟩,⟨.str,v2⟩]=>some (Fault.mk v0 v1 v2)|_=>none
 |134=>fun|[⟨.int .i64,v0⟩,⟨.str,v1⟩,⟨.int .i64,v2⟩,⟨.int .i64,v3⟩]=>some (Token.mk v0 v1 v2 v3)|_=>none
 |136=>fun|[⟨.bool,v0⟩,⟨.bool,v1⟩,⟨.bool,v2⟩,⟨.bool,v3⟩,⟨.bool,v4⟩,⟨.bool,v5⟩]=>some (Shape.mk v0 v1 v2 v3 v4 v5)|_=>none
 |146=>fun|[⟨.int .i64,v0⟩,⟨.int .i64,v1⟩,⟨.int .i64,v2⟩,⟨.int .i64,v3⟩]=>some (Spot.mk v0 v1 v2 v3)|_=>none
 |1026=>fun|[⟨.own 48 (.st 48),v0⟩,⟨.own 9 (.str),v1⟩,⟨.own 51 (.st 1051),v2⟩]=>some (TProg.mk v0 v1 v2)|_=>none
 |1032=>fun|[⟨.own 3 (.int .i64),v0⟩,⟨.int .i64,v1⟩,⟨.own 65 (.st 1065),v2⟩]=>some (TUnit.mk v0 v1 v2)|_=>none
 |1035=>fun|[⟨.own 9 (.str),v0⟩,⟨.own 9 (.str),v1⟩,⟨.own 9 (.str),v2⟩,⟨.own 23 (.own 9 (.str)),v3⟩]=>some (Names.mk v0 v1 v2 v3)|_=>none
 |1051=>fun|[⟨.str,v0⟩,⟨.own 62 (.st 1062),v1⟩]=>some (TThread.mk v0 v1)|_=>none
 |1060=>fun|[⟨.int .i64,v0⟩,⟨.int .i64,v1⟩,⟨.str,v2⟩,⟨.own 60 (.st 1060),v3⟩]=>some (TExpr.mk v0 v1 v2 v3)|_=>none
 |1062=>fun|[⟨.int .i64,v0⟩,⟨.str,v1⟩,⟨.str,v2⟩,⟨.int .i64,v3⟩,⟨.int .i64,v4⟩,⟨.str,v5⟩,⟨.own 60 (.st 1060),v6⟩,⟨.int .i64,v7⟩,⟨.own 62 (.st 1062),v8⟩,⟨.own 62 (.st 1062),v9⟩]=>some (TStmt.mk v0 v1 v2 (TExpr.mk v3 v4 v5 v6) v7 v8 v9)|_=>none
 |1065=>fun|[⟨.int .i64,v0⟩,⟨.own 67 (.st 1067),v1⟩]=>some (TBody.mk v0 v1)|_=>none
 |1067=>fun|[⟨.int .i64,v0⟩,⟨.int .i64,v1⟩,⟨.int .i64,v2⟩,⟨.int .i64,v3⟩,⟨.int .i64,v4⟩,⟨.str,v5⟩,⟨.own 60 (.st 1060),v6⟩,⟨.int .i64,v7⟩,⟨.own 67 (.st 1067),v8⟩,⟨.own 67 (.st 1067),v9⟩]=>some (TAct.mk v0 v1 v2 (TExpr.mk v3 v4 v5 v6) v7 v8 v9)|_=>none
 |1111=>fun|[⟨.own 9 (.str),v0⟩,⟨.own 9 (.str),v1⟩,⟨.own 9 (.str),v2⟩,⟨.own 9 (.str),v3⟩]=>some (Namer.mk v0 v1 v2 v3)|_=>none
 |_=>fun _=>none
def pn (n:Nat):Nat:=match n with
 |1026=>26
 |1032=>32
 |1035=>35
 |1051=>51
 |1060=>60
 |1062=>62
 |1065=>65
 |1067=>67
 |1111=>111
 |n=>n
def closed (n:Nat):Bool:=match n with
 |1026=>true
 |1032=>true
 |1051=>true
 |1060=>true
 |1062=>true
 |1065=>true
 |1067=>true
 |1111=>true
 |48=>true
 |75=>true
 |103=>true
 |130=>true
 |134=>true
 |136=>true
 |146=>true
 |_=>false
def ids:List Nat:=[26,32,35,48,51,60,62,65,67,75,103,111,130,134,136,146,1026,1032,1035,1051,1060,1062,1065,1067,1111]
theorem zaew {n:Nat} (h:n∉ids):(∀ x,cells n x=[])∧ctys n=[]∧pn n=n∧closed n=false:=by
 refine ⟨?_,?_,?_,?_⟩
 ·intro x; unfold cells; split<;>first|rfl|exact absurd (by decide) h
 ·unfold ctys; split<;>first|rfl|exact absurd (by decide) h
 ·unfold pn; split<;>first|rfl|exact absurd (by decide) h
 ·unfold closed; split<;>first|rfl|exact absurd (by decide) h
theorem zalb {P:Nat→Prop} (h1:∀ n∈ids,P n) (h2:∀ n,n∉ids→P n) (n:Nat):P n:=by
 by_cases h:n∈ids
 ·exact h1 n h
 ·exact h2 n h
theorem pd:∀ n,U (pn n)=U n:=zalb (by unfold ids; simp only[List.forall_mem_cons]; exact ⟨rfl,rfl,rfl,rfl,rfl,rfl,rfl,rfl,rfl,rfl,rfl,rfl,rfl,rfl,rfl,rfl,rfl,rfl,rfl,rfl,rfl,rfl,rfl,rfl,rfl,fun n h=>by cases h⟩) (fun n h=>by rw[(zaew h).2.2.1])
theorem pc : ∀ n (x : U n), cells (pn n) (cast (pd n).symm x) = (cells n x).map (TV.plain pd) := zalb (by unfold ids; simp only [List.forall_mem_cons]; exact ⟨fun _ => rfl, fun _ => rfl, fun _ => rfl, fun _ => rfl, fun _ => rfl, fun _ => rfl, fun _ => rfl, fun _ => rfl, fun _ => rfl, fun _ => rfl, fun _ => rfl, fun _ => rfl, fun _ => rfl, fun _ => rfl, fun _ => rfl, fun _ => rfl, fun _ => rfl, fun _ => rfl, fun _ => rfl, fun _ => rfl, fun _ => rfl, fun _ => rfl, fun _ => rfl, fun _ => rfl, fun _ => rfl, fun n h => by cases h⟩)
 (fun n h x=>by rw[(zaew h).1 x]; exact (zaew (n:=pn n) (by rw[(zaew h).2.2.1]; exact h)).1 _)
theorem pt : ∀ n, ctys (pn n) = (ctys n).map (Ty.plain pn) := zalb (by unfold ids; simp only [List.forall_mem_cons]; exact ⟨rfl, rfl, rfl, rfl, rfl, rfl, rfl, rfl, rfl, rfl, rfl, rfl, rfl, rfl, rfl, rfl, rfl, rfl, rfl, rfl, rfl, rfl, rfl, rfl, rfl, fun n h => by cases h⟩)
 (fun n h=>by rw[(zaew h).2.2.1,(zaew h).2.1]; rfl)
theorem closed_ok:∀ n,closed n=true→∀ t∈ctys n,(match t with
  |.int _=>true|.bool=>true|.str=>true|.err=>true|.fn=>true
  |.own _ (.st m)=>closed m
  |.own _ e=>match e with|.int _=>true|.bool=>true|.str=>true|_=>false
  |_=>false)=true:=zalb (by unfold ids; simp only[List.forall_mem_cons]; exact ⟨fun h=>(by cases h),fun h=>(by cases h),fun h=>(by cases h),fun _=>List.all_eq_true.1 (by rfl),fun h=>(by cases h),fun h=>(by cases h),fun h=>(by cases h),fun h=>(by cases h),fun h=>(by cases h),fun _=>List.all_eq_true.1 (by rfl),fun _=>List.all_eq_true.1 (by rfl),fun h=>(by cases h),fun _=>List.all_eq_true.1 (by rfl),fun _=>List.all_eq_true.1 (by rfl),fun _=>List.all_eq_true.1 (by rfl),fun _=>List.all_eq_true.1 (by rfl),fun _=>List.all_eq_true.1 (by rfl),fun _=>List.all_eq_true.1 (by rfl),fun h=>(by cases h),fun _=>List.all_eq_true.1 (by rfl),fun _=>List.all_eq_true.1 (by rfl),fun _=>List.all_eq_true.1 (by rfl),fun _=>List.all_eq_true.1 (by rfl),fun _=>List.all_eq_true.1 (by rfl),fun _=>List.all_eq_true.1 (by rfl),fun n h=>by cases h⟩)
 (fun n h hc=>by rw[(zaew h).2.2.2] at hc; cases hc)
@[reducible] noncomputable def uni:Uni where
 U:=U
 cells:=cells
 ctys:=ctys
 make:=make
 make_ok:=by
  intro n cs x h;unfold make at h;split at h
  ·dsimp only at h;split at h
   ·cases h; rfl
   ·cases h
  ·dsimp only at h;split at h
   ·cases h; rfl
   ·cases h
  ·dsimp only at h;split at h
   ·cases h; rfl
   ·cases h
  ·dsimp only at h;split at h
   ·cases h; rfl
   ·cases h
  ·dsimp only at h;split at h
   ·cases h; rfl
   ·cases h
  ·dsimp only at h;split at h
   ·cases h; rfl
   ·cases h
  ·dsimp only at h;split at h
   ·cases h; rfl
   ·cases h
  ·dsimp only at h;split at h
   ·cases h; rfl
   ·cases h
  ·dsimp only at h;split at h
   ·cases h; rfl
   ·cases h
  ·dsimp only at h;split at h
   ·cases h; rfl
   ·cases h
  ·dsimp only at h;split at h
   ·cases h; rfl
   ·cases h
  ·dsimp only at h;split at h
   ·cases h; rfl
   ·cases h
  ·dsimp only at h;split at h
   ·cases h; rfl
   ·cases h
  ·dsimp only at h;split at h
   ·cases h; rfl
   ·cases h
  ·dsimp only at h;split at h
   ·cases h; rfl
   ·cases h
  ·dsimp only at h;split at h
   ·cases h; rfl
   ·cases h
  ·dsimp only at h;split at h
   ·cases h; rfl
   ·cases h
  ·dsimp only at h;split at h
   ·cases h; rfl
   ·cases h
  ·dsimp only at h;split at h
   ·cases h; rfl
   ·cases h
  ·dsimp only at h;split at h
   ·cases h; rfl
   ·cases h
  ·dsimp only at h;split at h
   ·cases h; rfl
   ·cases h
  ·dsimp only at h;split at h
   ·cases h; rfl
   ·cases h
  ·dsimp only at h;split at h
   ·cases h; rfl
   ·cases h
  ·dsimp only at h;split at h
   ·cases h; rfl
   ·cases h
  ·dsimp only at h;split at h
   ·cases h; rfl
   ·cases h
  ·cases h
 tys_ok:=by
  intro n x;unfold cells ctys;split<;>rfl
 pn:=pn
 pd:=pd
 pc:=pc
 pt:=pt
 closed:=closed
 closed_ok:=closed_ok
 flat_ok:=by
  intro n t h;have:∀ n,(ctys n).all Ty.flat=true:=by
   intro n;unfold ctys;split<;>rfl
  exact List.all_eq_true.1 (this n) t h
noncomputable def tyOf:TypeId→Option Ty
 |1=>some (.fn)
 |2=>some (.int .i64)
 |3=>some (.int .i64)
 |4=>some (.bool)
 |5=>some (.int .u8)
 |6=>some (.int .u8)
 |9=>some (.str)
 |10=>some (.str)
 |11=>some (.str)
 |12=>some (.int .u64)
 |21=>some (.int .i32)
 |22=>some (.slc (.st 48))
 |23=>some (.slc (.str))
 |24=>some (.slc (.st 51))
 |26=>some (.st 26)
 |27=>some (.fn)
 |28=>some (.fn)
 |29=>some (.slc (.int .i64))
 |30=>some (.slc (.st 65))
 |32=>some (.st 32)
 |33=>some (.slc (.slc (.str)))
 |35=>some (.st 35)
 |36=>some (.int .i64)
 |38=>some (.fn)
 |39=>some (.fn)
 |40=>some (.fn)
 |41=>some (.fn)
 |42=>some (.fn)
 |43=>some (.fn)
 |44=>some (.fn)
 |45=>some (.fn)
 |46=>some (.fn)
 |48=>some (.st 48)
 |49=>some (.slc (.st 62))
 |51=>some (.st 51)
 |52=>some (.fn)
 |53=>some (.fn)
 |54=>some (.fn)
 |56=>some (.fn)
 |57=>some (.fn)
 |58=>some (.slc (.st 60))
 |60=>some (.st 60)
 |62=>some (.st 62)
 |63=>some (.slc (.st 67))
 |65=>some (.st 65)
 |67=>some (.st 67)
 |68=>some (.fn)
 |72=>some (.fn)
 |73=>some (.fn)
 |75=>some (.st 75)
 |77=>some (.fn)
 |79=>some (.map (.str) (.st 103))
 |82=>some (.fn)
 |83=>some (.fn)
 |84=>some (.fn)
 |85=>some (.fn)
 |86=>some (.fn)
 |87=>some (.fn)
 |88=>some (.fn)
 |89=>some (.fn)
 |90=>some (.fn)
 |91=>some (.fn)
 |92=>some (.fn)
 |93=>some (.fn)
 |94=>some (.fn)
 |95=>some (.fn)
 |96=>some (.fn)
 |98=>some (.fn)
 |99=>some (.fn)
 |100=>some (.fn)
 |101=>some (.fn)
 |103=>some (.st 103)
 |105=>some (.fn)
 |106=>some (.fn)
 |107=>some (.fn)
 |108=>some (.fn)
 |109=>some (.fn)
 |111=>some (.st 111)
 |112=>some (.fn)
 |113=>some (.fn)
 |114=>some (.fn)
 |115=>some (.fn)
 |116=>some (.fn)
 |117=>some (.fn)
 |118=>some (.fn)
 |119=>some (.fn)
 |120=>some (.fn)
 |123=>some (.fn)
 |124=>some (.fn)
 |125=>some (.fn)
 |126=>some (.fn)
 |127=>some (.fn)
 |128=>some (.slc (.st 134))
 |130=>some (.st 130)
 |132=>some (.fn)
 |134=>some (.st 134)
 |136=>some (.st 136)
 |138=>some (.map (.int .i64) (.st 136))
 |139=>some (.fn)
 |140=>some (.fn)
 |141=>some (.fn)
 |142=>some (.slc (.st 146))
 |144=>some (.fn)
 |146=>some (.st 146)
 |148=>some (.fn)
 |150=>some (.fn)
 |152=>some (.fn)
 |153=>some (.fn)
 |154=>some (.fn)
 |155=>some (.fn)
 |157=>some (.fn)
 |158=>some (.fn)
 |160=>some (.fn)
 |161=>some (.fn)
 |162=>some (.fn)
 |164=>some (.fn)
 |165=>some (.fn)
 |166=>some (.fn)
 |167=>some (.fn)
 |168=>some (.fn)
 |170=>some (.err)
 |172=>some (.fn)
 |174=>some (.int .u64)
 |178=>some (.fn)
 |179=>some (.fn)
 |183=>some (.fn)
 |184=>some (.fn)
 |186=>some (.fn)
 |187=>some (.fn)
 |188=>some (.fn)
 |189=>some (.int .i64)
 |190=>some (.slc (.int .u8))
 |192=>some (.fn)
 |194=>some (.fn)
 |195=>some (.fn)
 |196=>some (.fn)
 |197=>some (.fn)
 |198=>some (.int .u64)
 |200=>some (.fn)
 |203=>some (.fn)
 |204=>some (.fn)
 |205=>some (.int .u32)
 |207=>some (.fn)
 |208=>some (.fn)
 |213=>some (.fn)
 |215=>some (.fn)
 |216=>some (.fn)
 |218=>some (.fn)
 |219=>some (.fn)
 |222=>some (.fn)
 |223=>some (.fn)
 |226=>some (.fn)
 |232=>some (.fn)
 |233=>some (.int .u8)
 |234=>some (.int .u8)
 |235=>some (.fn)
 |236=>some (.int .i32)
 |237=>some (.int .i32)
 |_=>none
noncomputable def eqOf (T:TypeId) (n:Nat):Option (U n→U n→Bool):=match n with
 |48=>bif Nat.beq T 48 then some fun (a b:TCell)=>decide (a=b) else none
 |75=>bif Nat.beq T 75 then some fun (a b:Refused)=>decide (a=b) else none
 |103=>bif Nat.beq T 103 then some fun (a b:Thing)=>decide (a=b) else none
 |130=>bif Nat.beq T 130 then some fun (a b:Fault)=>decide (a=b) else none
 |134=>bif Nat.beq T 134 then some fun (a b:Token)=>decide (a=b) else none
 |136=>bif Nat.beq T 136 then some fun (a b:Shape)=>decide (a=b) else none
 |146=>bif Nat.beq T 146 then some fun (a b:Spot)=>decide (a=b) else none
 |_=>none
noncomputable def deepOf:TypeId→Option Ty
 |22=>some (.own 48 (.st 48))
 |23=>some (.own 9 (.str))
 |24=>some (.own 51 (.st 1051))
 |26=>some (.st 1026)
 |29=>some (.own 3 (.int .i64))
 |30=>some (.own 65 (.st 1065))
 |32=>some (.st 1032)
 |33=>some (.own 23 (.own 9 (.str)))
 |35=>some (.st 1035)
 |49=>some (.own 62 (.st 1062))
 |51=>some (.st 1051)
 |58=>some (.own 60 (.st 1060))
 |60=>some (.st 1060)
 |62=>some (.st 1062)
 |63=>some (.own 67 (.st 1067))
 |65=>some (.st 1065)
 |67=>some (.st 1067)
 |111=>some (.st 1111)
 |128=>some (.own 134 (.st 134))
 |142=>some (.own 146 (.st 146))
 |190=>some (.own 5 (.int .u8))
 |_=>none
@[reducible] noncomputable def kk:Kit:={ P:=Tryz.prog,u:=uni,tyOf,eqOf,modes:=fun _=>[],deepOf }
theorem eqOk:EqOk kk:=by
 refine zatj fun T n f h=>?_
 change eqOf T n=some f at h
 change zaf1 Tryz.prog T (ctys n)=true∧∀ a b:U n,f a b=zabk (cells n a) (cells n b)
 unfold eqOf at h;split at h
 ·cases hb:Nat.beq T 48 with
  |true=>
   rw[hb] at h;cases Nat.eq_of_beq_eq_true hb;cases h;refine ⟨by kernel_rfl,?_⟩;rintro ⟨a0,a1⟩ ⟨b0,b1⟩
   simp[cells,zabk,zact,cond_eq_ite,Bool.decide_and]
  |false=>rw[hb] at h; cases h
 ·cases hb:Nat.beq T 75 with
  |true=>
   rw[hb] at h;cases Nat.eq_of_beq_eq_true hb;cases h;refine ⟨by kernel_rfl,?_⟩;rintro ⟨a0,a1⟩ ⟨b0,b1⟩
   simp[cells,zabk,zact,cond_eq_ite,Bool.decide_and]
  |false=>rw[hb] at h; cases h
 ·cases hb:Nat.beq T 103 with
  |true=>
   rw[hb] at h;cases Nat.eq_of_beq_eq_true hb;cases h;refine ⟨by kernel_rfl,?_⟩;rintro ⟨a0,a1⟩ ⟨b0,b1⟩
   simp[cells,zabk,zact,cond_eq_ite,Bool.decide_and]
  |false=>rw[hb] at h; cases h
 ·cases hb:Nat.beq T 130 with
  |true=>
   rw[hb] at h;cases Nat.eq_of_beq_eq_true hb;cases h;refine ⟨by kernel_rfl,?_⟩;rintro ⟨a0,a1,a2⟩ ⟨b0,b1,b2⟩
   simp[cells,zabk,zact,cond_eq_ite,Bool.decide_and]
  |false=>rw[hb] at h; cases h
 ·cases hb:Nat.beq T 134 with
  |true=>
   rw[hb] at h;cases Nat.eq_of_beq_eq_true hb;cases h;refine ⟨by kernel_rfl,?_⟩;rintro ⟨a0,a1,a2,a3⟩ ⟨b0,b1,b2,b3⟩
   simp[cells,zabk,zact,cond_eq_ite,Bool.decide_and]
  |false=>rw[hb] at h; cases h
 ·cases hb:Nat.beq T 136 with
  |true=>
   rw[hb] at h;cases Nat.eq_of_beq_eq_true hb;cases h;refine ⟨by kernel_rfl,?_⟩;rintro ⟨a0,a1,a2,a3,a4,a5⟩ ⟨b0,b1,b2,b3,b4,b5⟩
   simp[cells,zabk,zact,cond_eq_ite,Bool.decide_and]
  |false=>rw[hb] at h; cases h
 ·cases hb:Nat.beq T 146 with
  |true=>
   rw[hb] at h;cases Nat.eq_of_beq_eq_true hb;cases h;refine ⟨by kernel_rfl,?_⟩;rintro ⟨a0,a1,a2,a3⟩ ⟨b0,b1,b2,b3⟩
   simp[cells,zabk,zact,cond_eq_ite,Bool.decide_and]
  |false=>rw[hb] at h; cases h
 ·cases h
theorem mixed:kk.P.follows .mixedOrders=true:=by kernel_rfl
end Lift.J6
namespace Lift.J6
open Go Go.RowKit Go.Proofs Lift Lift.Fn
noncomputable def strings_Contains_md:Mode U:=⟨⟨⟨[0,1],[],[]⟩,[.t (.str),.t (.str)],[]⟩,[],[⟨⟨[0],[],[]⟩,[.t (.bool)],[]⟩],fun ls=>match ls with|[⟨.str,a0⟩,⟨.str,a1⟩]=>.get (strings_Contains a0 a1) (fun r=>.ret (0,[⟨.bool,r⟩]))|_=>.fail⟩
noncomputable def unicode_utf8_DecodeRuneInString_md:Mode U:=⟨⟨⟨[0],[],[]⟩,[.t (.str)],[]⟩,[],[⟨⟨[0,1],[],[]⟩,[.t (.int .i32),.t (.int .i64)],[]⟩],fun ls=>match ls with|[⟨.str,a0⟩]=>.get (zaa0 a0) (fun r=>.ret (0,[⟨.int .i32,r.1⟩,⟨.int .i64,r.2⟩]))|_=>.fail⟩
noncomputable def unicode_utf8_RuneCountInString_md:Mode U:=⟨⟨⟨[0],[],[]⟩,[.t (.str)],[]⟩,[],[⟨⟨[0],[],[]⟩,[.t (.int .i64)],[]⟩],fun ls=>match ls with|[⟨.str,a0⟩]=>.get (zaa2 a0) (fun r=>.ret (0,[⟨.int .i64,r⟩]))|_=>.fail⟩
noncomputable def strings_Trim_md:Mode U:=⟨⟨⟨[0,1],[],[]⟩,[.t (.str),.t (.str)],[]⟩,[],[⟨⟨[0],[],[]⟩,[.t (.str)],[]⟩],fun ls=>match ls with|[⟨.str,a0⟩,⟨.str,a1⟩]=>.get (zacx a0 a1) (fun r=>.ret (0,[⟨.str,r⟩]))|_=>.fail⟩
noncomputable def strconv_Atoi_md:Mode U:=⟨⟨⟨[0],[],[]⟩,[.t (.str)],[]⟩,[],[⟨⟨[0,1],[],[]⟩,[.t (.int .i64),.t (.err)],[]⟩],fun ls=>match ls with|[⟨.str,a0⟩]=>.get (zacv a0) (fun r=>.ret (0,[⟨.int .i64,r.1⟩,⟨.err,r.2⟩]))|_=>.fail⟩
noncomputable def ms0:List (FuncId×Mode U):=[]
noncomputable def ms1:List (FuncId×Mode U):=(132,strings_Contains_md)::ms0
noncomputable def ms2:List (FuncId×Mode U):=(116,unicode_utf8_DecodeRuneInString_md)::ms1
noncomputable def ms3:List (FuncId×Mode U):=(124,unicode_utf8_RuneCountInString_md)::ms2
noncomputable def ms4:List (FuncId×Mode U):=(133,strings_Trim_md)::ms3
noncomputable def ms5:List (FuncId×Mode U):=(134,strconv_Atoi_md)::ms4
end Lift.J6
namespace Go.Proofs
open Go.Shelf Go.RowKit
def Tryz.laysContains_ren:Go.Shelf.Ren:=⟨fun|144=>132|143=>137|219=>148|217=>157|225=>158|224=>159|267=>160|266=>167|314=>168|n=>n,fun|9=>9|4=>4|3=>3|5=>5|46=>174|146=>206|51=>205|n=>n,fun|1=>2|n=>n⟩
theorem Tryz.laysContains:Go.Proofs.LaysM.n144 Tryz.prog Tryz.laysContains_ren where
 mixed:=by kernel_rfl
 f143:=Tryz.func137.trans (congrArg some (by kernel_rfl))
 f144:=Tryz.func132.trans (congrArg some (by kernel_rfl))
 f217:=Tryz.func157.trans (congrArg some (by kernel_rfl))
 f219:=Tryz.func148.trans (congrArg some (by kernel_rfl))
 f224:=Tryz.func159.trans (congrArg some (by kernel_rfl))
 f225:=Tryz.func158.trans (congrArg some (by kernel_rfl))
 f266:=Tryz.func167.trans (congrArg some (by kernel_rfl))
 f267:=Tryz.func160.trans (congrArg some (by kernel_rfl))
 f314:=Tryz.func168.trans (congrArg some (by kernel_rfl))
 t3:=Tryz.underlying3
 a3:=Tryz.isAgg3
 z3:=Tryz.sizeOf3
 v3:=Tryz.zeroValue3
 t4:=Tryz.underlying4
 a4:=Tryz.isAgg4
 z4:=Tryz.sizeOf4
 v4:=Tryz.zeroValue4
 t5:=Tryz.underlying5
 a5:=Tryz.isAgg5
 z5:=Tryz.sizeOf5
 v5:=Tryz.zeroValue5
 t9:=Tryz.underlying9
 a9:=Tryz.isAgg9
 z9:=Tryz.sizeOf9
 v9:=Tryz.zeroValue9
 t46:=Tryz.underlying174
 a46:=Tryz.isAgg174
 z46:=Tryz.sizeOf174
 v46:=Tryz.zeroValue174
 t51:=Tryz.underlying205
 a51:=Tryz.isAgg205
 z51:=Tryz.sizeOf205
 v51:=Tryz.zeroValue205
 t146:=Tryz.underlying206
 a146:=Tryz.isAgg206
 z146:=Tryz.sizeOf206
 v146:=Tryz.zeroValue206
 g1:=by kernel_rfl
 i3:=by kernel_rfl
 i4:=by kernel_rfl
 i5:=by kernel_rfl
 i9:=by kernel_rfl
 i46:=by kernel_rfl
 i51:=by kernel_rfl
 i146:=by kernel_rfl
 m1:=by kernel_rfl
 s1_3:=fun w h=>Go.Proofs.cell_of_shapedOpen_int (zero:=#[.int .i64 0]) (t:=3) h (of_decide_eq_true (by kernel_rfl)) (by kernel_rfl) rfl (by kernel_rfl) (by kernel_rfl) Tryz.underlying3
def Tryz.laysDecode_ren:Go.Shelf.Ren:=⟨fun|197=>116|260=>130|n=>n,fun|9=>9|21=>21|3=>3|4=>4|5=>5|105=>159|119=>173|0=>0|46=>174|139=>177|138=>176|n=>n,fun|3=>0|4=>1|n=>n⟩
theorem Tryz.laysDecode:Go.Proofs.Lays.n197 Tryz.prog Tryz.laysDecode_ren where
 mixed:=by kernel_rfl
 f197:=Tryz.func116.trans (congrArg some (by kernel_rfl))
 f260:=Tryz.func130.trans (congrArg some (by kernel_rfl))
 t0:=Tryz.underlying0
 a0:=Tryz.isAgg0
 z0:=Tryz.sizeOf0
 v0:=Tryz.zeroValue0
 t3:=Tryz.underlying3
 a3:=Tryz.isAgg3
 z3:=Tryz.sizeOf3
 v3:=Tryz.zeroValue3
 t4:=Tryz.underlying4
 a4:=Tryz.isAgg4
 z4:=Tryz.sizeOf4
 v4:=Tryz.zeroValue4
 t5:=Tryz.underlying5
 a5:=Tryz.isAgg5
 z5:=Tryz.sizeOf5
 v5:=Tryz.zeroValue5
 t9:=Tryz.underlying9
 a9:=Tryz.isAgg9
 z9:=Tryz.sizeOf9
 v9:=Tryz.zeroValue9
 t21:=Tryz.underlying21
 a21:=Tryz.isAgg21
 z21:=Tryz.sizeOf21
 v21:=Tryz.zeroValue21
 t46:=Tryz.underlying174
 a46:=Tryz.isAgg174
 z46:=Tryz.sizeOf174
 v46:=Tryz.zeroValue174
 t105:=Tryz.underlying159
 a105:=Tryz.isAgg159
 z105:=Tryz.sizeOf159
 v105:=Tryz.zeroValue159
 t119:=Tryz.underlying173
 a119:=Tryz.isAgg173
 z119:=Tryz.sizeOf173
 t138:=Tryz.underlying176
 a138:=Tryz.isAgg176
 z138:=Tryz.sizeOf176
 v138:=Tryz.zeroValue176
 t139:=Tryz.underlying177
 a139:=Tryz.isAgg177
 z139:=Tryz.sizeOf177
 v139:=Tryz.zeroValue177
 g3:=by kernel_rfl
 g4:=by kernel_rfl
def Tryz.laysCount_ren:Go.Shelf.Ren:=⟨fun|195=>124|n=>n,fun|9=>9|3=>3|0=>0|4=>4|n=>n,fun|n=>n⟩
theorem Tryz.laysCount:Go.Proofs.Lays.n195 Tryz.prog Tryz.laysCount_ren where
 mixed:=by kernel_rfl
 f195:=Tryz.func124.trans (congrArg some (by kernel_rfl))
 t0:=Tryz.underlying0
 a0:=Tryz.isAgg0
 z0:=Tryz.sizeOf0
 v0:=Tryz.zeroValue0
 t3:=Tryz.underlying3
 a3:=Tryz.isAgg3
 z3:=Tryz.sizeOf3
 v3:=Tryz.zeroValue3
 t4:=Tryz.underlying4
 a4:=Tryz.isAgg4
 z4:=Tryz.sizeOf4
 v4:=Tryz.zeroValue4
 t9:=Tryz.underlying9
 a9:=Tryz.isAgg9
 z9:=Tryz.sizeOf9
 v9:=Tryz.zeroValue9
def Tryz.laysTrim_ren:Go.Shelf.Ren:=⟨fun|160=>133|232=>139|231=>138|227=>140|234=>142|233=>141|236=>144|235=>143|228=>149|271=>151|151=>150|197=>116|120=>162|152=>161|260=>130|137=>169|119=>147|224=>159|225=>158|217=>157|266=>167|n=>n,fun|9=>9|4=>4|3=>3|5=>5|117=>182|116=>181|0=>0|124=>185|21=>21|105=>159|46=>174|119=>173|139=>177|138=>176|n=>n,fun|3=>0|4=>1|n=>n⟩
theorem Tryz.laysTrim:Go.Proofs.Lays.n160 Tryz.prog Tryz.laysTrim_ren where
 mixed:=by kernel_rfl
 f119:=Tryz.func147.trans (congrArg some (by kernel_rfl))
 f120:=Tryz.func162.trans (congrArg some (by kernel_rfl))
 f137:=Tryz.func169.trans (congrArg some (by kernel_rfl))
 f151:=Tryz.func150.trans (congrArg some (by kernel_rfl))
 f152:=Tryz.func161.trans (congrArg some (by kernel_rfl))
 f160:=Tryz.func133.trans (congrArg some (by kernel_rfl))
 f197:=Tryz.func116.trans (congrArg some (by kernel_rfl))
 f217:=Tryz.func157.trans (congrArg some (by kernel_rfl))
 f224:=Tryz.func159.trans (congrArg some (by kernel_rfl))
 f225:=Tryz.func158.trans (congrArg some (by kernel_rfl))
 f227:=Tryz.func140.trans (congrArg some (by kernel_rfl))
 f228:=Tryz.func149.trans (congrArg some (by kernel_rfl))
 f231:=Tryz.func138.trans (congrArg some (by kernel_rfl))
 f232:=Tryz.func139.trans (congrArg some (by kernel_rfl))
 f233:=Tryz.func141.trans (congrArg some (by kernel_rfl))
 f234:=Tryz.func142.trans (congrArg some (by kernel_rfl))
 f235:=Tryz.func143.trans (congrArg some (by kernel_rfl))
 f236:=Tryz.func144.trans (congrArg some (by kernel_rfl))
 f260:=Tryz.func130.trans (congrArg some (by kernel_rfl))
 f266:=Tryz.func167.trans (congrArg some (by kernel_rfl))
 f271:=Tryz.func151.trans (congrArg some (by kernel_rfl))
 t0:=Tryz.underlying0
 a0:=Tryz.isAgg0
 z0:=Tryz.sizeOf0
 v0:=Tryz.zeroValue0
 t3:=Tryz.underlying3
 a3:=Tryz.isAgg3
 z3:=Tryz.sizeOf3
 v3:=Tryz.zeroValue3
 t4:=Tryz.underlying4
 a4:=Tryz.isAgg4
 z4:=Tryz.sizeOf4
 v4:=Tryz.zeroValue4
 t5:=Tryz.underlying5
 a5:=Tryz.isAgg5
 z5:=Tryz.sizeOf5
 v5:=Tryz.zeroValue5
 t9:=Tryz.underlying9
 a9:=Tryz.isAgg9
 z9:=Tryz.sizeOf9
 v9:=Tryz.zeroValue9
 t21:=Tryz.underlying21
 a21:=Tryz.isAgg21
 z21:=Tryz.sizeOf21
 v21:=Tryz.zeroValue21
 t46:=Tryz.underlying174
 a46:=Tryz.isAgg174
 z46:=Tryz.sizeOf174
 v46:=Tryz.zeroValue174
 t105:=Tryz.underlying159
 a105:=Tryz.isAgg159
 z105:=Tryz.sizeOf159
 v105:=Tryz.zeroValue159
 t116:=Tryz.underlying181
 a116:=Tryz.isAgg181
 z116:=Tryz.sizeOf181
 t117:=Tryz.underlying182
 a117:=Tryz.isAgg182
 z117:=Tryz.sizeOf182
 v117:=Tryz.zeroValue182
 t119:=Tryz.underlying173
 a119:=Tryz.isAgg173
 z119:=Tryz.sizeOf173
 t124:=Tryz.underlying185
 a124:=Tryz.isAgg185
 z124:=Tryz.sizeOf185
 v124:=Tryz.zeroValue185
 t138:=Tryz.underlying176
 a138:=Tryz.isAgg176
 z138:=Tryz.sizeOf176
 v138:=Tryz.zeroValue176
 t139:=Tryz.underlying177
 a139:=Tryz.isAgg177
 z139:=Tryz.sizeOf177
 v139:=Tryz.zeroValue177
 g3:=by kernel_rfl
 g4:=by kernel_rfl
def Tryz.laysAtoi_ren:Go.Shelf.Ren:=⟨fun|172=>134|244=>145|245=>146|247=>152|279=>153|280=>154|281=>155|282=>156|287=>163|316=>164|171=>166|205=>165|321=>170|322=>171|243=>172|246=>173|283=>174|284=>175|285=>176|286=>177|129=>179|317=>178|318=>180|319=>181|320=>182|337=>183|338=>184|n=>n,fun|9=>9|3=>3|75=>170|76=>171|4=>4|5=>5|167=>189|37=>190|0=>0|85=>191|2=>2|168=>193|53=>198|175=>199|46=>174|210=>202|127=>209|145=>212|143=>210|21=>21|171=>214|173=>217|212=>220|51=>205|20=>20|213=>221|232=>224|233=>225|80=>226|n=>n,fun|15=>3|16=>4|17=>5|18=>6|19=>7|n=>n⟩
theorem Tryz.laysAtoi:Go.Proofs.LaysC.n172 Tryz.prog Tryz.laysAtoi_ren where
 mixed:=by kernel_rfl
 f129:=Tryz.func179.trans (congrArg some (by kernel_rfl))
 f171:=Tryz.func166.trans (congrArg some (by kernel_rfl))
 f172:=Tryz.func134.trans (congrArg some (by kernel_rfl))
 f205:=Tryz.func165.trans (congrArg some (by kernel_rfl))
 f243:=Tryz.func172.trans (congrArg some (by kernel_rfl))
 f244:=Tryz.func145.trans (congrArg some (by kernel_rfl))
 f245:=Tryz.func146.trans (congrArg some (by kernel_rfl))
 f246:=Tryz.func173.trans (congrArg some (by kernel_rfl))
 f247:=Tryz.func152.trans (congrArg some (by kernel_rfl))
 f279:=Tryz.func153.trans (congrArg some (by kernel_rfl))
 f280:=Tryz.func154.trans (congrArg some (by kernel_rfl))
 f281:=Tryz.func155.trans (congrArg some (by kernel_rfl))
 f282:=Tryz.func156.trans (congrArg some (by kernel_rfl))
 f283:=Tryz.func174.trans (congrArg some (by kernel_rfl))
 f284:=Tryz.func175.trans (congrArg some (by kernel_rfl))
 f285:=Tryz.func176.trans (congrArg some (by kernel_rfl))
 f286:=Tryz.func177.trans (congrArg some (by kernel_rfl))
 f287:=Tryz.func163.trans (congrArg some (by kernel_rfl))
 f316:=Tryz.func164.trans (congrArg some (by kernel_rfl))
 f317:=Tryz.func178.trans (congrArg some (by kernel_rfl))
 f318:=Tryz.func180.trans (congrArg some (by kernel_rfl))
 f319:=Tryz.func181.trans (congrArg some (by kernel_rfl))
 f320:=Tryz.func182.trans (congrArg some (by kernel_rfl))
 f321:=Tryz.func170.trans (congrArg some (by kernel_rfl))
 f322:=Tryz.func171.trans (congrArg some (by kernel_rfl))
 f337:=Tryz.func183.trans (congrArg some (by kernel_rfl))
 f338:=Tryz.func184.trans (congrArg some (by kernel_rfl))
 t0:=Tryz.underlying0
 a0:=Tryz.isAgg0
 z0:=Tryz.sizeOf0
 v0:=Tryz.zeroValue0
 t2:=Tryz.underlying2
 a2:=Tryz.isAgg2
 z2:=Tryz.sizeOf2
 v2:=Tryz.zeroValue2
 t3:=Tryz.underlying3
 a3:=Tryz.isAgg3
 z3:=Tryz.sizeOf3
 v3:=Tryz.zeroValue3
 t4:=Tryz.underlying4
 a4:=Tryz.isAgg4
 z4:=Tryz.sizeOf4
 v4:=Tryz.zeroValue4
 t5:=Tryz.underlying5
 a5:=Tryz.isAgg5
 z5:=Tryz.sizeOf5
 v5:=Tryz.zeroValue5
 t9:=Tryz.underlying9
 a9:=Tryz.isAgg9
 z9:=Tryz.sizeOf9
 v9:=Tryz.zeroValue9
 t20:=Tryz.underlying20
 a20:=Tryz.isAgg20
 z20:=Tryz.sizeOf20
 v20:=Tryz.zeroValue20
 t21:=Tryz.underlying21
 a21:=Tryz.isAgg21
 z21:=Tryz.sizeOf21
 v21:=Tryz.zeroValue21
 t37:=Tryz.underlying190
 a37:=Tryz.isAgg190
 z37:=Tryz.sizeOf190
 v37:=Tryz.zeroValue190
 t46:=Tryz.underlying174
 a46:=Tryz.isAgg174
 z46:=Tryz.sizeOf174
 v46:=Tryz.zeroValue174
 t51:=Tryz.underlying205
 a51:=Tryz.isAgg205
 z51:=Tryz.sizeOf205
 v51:=Tryz.zeroValue205
 t53:=Tryz.underlying198
 a53:=Tryz.isAgg198
 z53:=Tryz.sizeOf198
 v53:=Tryz.zeroValue198
 t75:=Tryz.underlying170
 a75:=Tryz.isAgg170
 z75:=Tryz.sizeOf170
 v75:=Tryz.zeroValue170
 t76:=Tryz.underlying171
 a76:=Tryz.isAgg171
 z76:=Tryz.sizeOf171
 v76:=Tryz.zeroValue171
 t85:=Tryz.underlying191
 a85:=Tryz.isAgg191
 z85:=Tryz.sizeOf191
 v85:=Tryz.zeroValue191
 t127:=Tryz.underlying209
 a127:=Tryz.isAgg209
 z127:=Tryz.sizeOf209
 v127:=Tryz.zeroValue209
 t143:=Tryz.underlying210
 a143:=Tryz.isAgg210
 z143:=Tryz.sizeOf210
 v143:=Tryz.zeroValue210
 t145:=Tryz.underlying212
 a145:=Tryz.isAgg212
 z145:=Tryz.sizeOf212
 v145:=Tryz.zeroValue212
 t167:=Tryz.underlying189
 a167:=Tryz.isAgg189
 z167:=Tryz.sizeOf189
 v167:=Tryz.zeroValue189
 t168:=Tryz.underlying193
 a168:=Tryz.isAgg193
 z168:=Tryz.sizeOf193
 v168:=Tryz.zeroValue193
 t171:=Tryz.underlying214
 a171:=Tryz.isAgg214
 z171:=Tryz.sizeOf214
 v171:=Tryz.zeroValue214
 t173:=Tryz.underlying217
 a173:=Tryz.isAgg217
 z173:=Tryz.sizeOf217
 v173:=Tryz.zeroValue217
 t175:=Tryz.underlying199
 a175:=Tryz.isAgg199
 z175:=Tryz.sizeOf199
 v175:=Tryz.zeroValue199
 t210:=Tryz.underlying202
 a210:=Tryz.isAgg202
 z210:=Tryz.sizeOf202
 v210:=Tryz.zeroValue202
 t212:=Tryz.underlying220
 a212:=Tryz.isAgg220
 z212:=Tryz.sizeOf220
 v212:=Tryz.zeroValue220
 t213:=Tryz.underlying221
 a213:=Tryz.isAgg221
 z213:=Tryz.sizeOf221
 t232:=Tryz.underlying224
 a232:=Tryz.isAgg224
 z232:=Tryz.sizeOf224
 v232:=Tryz.zeroValue224
 t233:=Tryz.underlying225
 a233:=Tryz.isAgg225
 z233:=Tryz.sizeOf225
 v233:=Tryz.zeroValue225
 g15:=by kernel_rfl
 g16:=by kernel_rfl
 g17:=by kernel_rfl
 g18:=by kernel_rfl
 g19:=by kernel_rfl
 t80:=Tryz.underlying226
 a80:=Tryz.isAgg226
 z80:=Tryz.sizeOf226
 v80:=Tryz.zeroValue226
 i0:=by kernel_rfl
 i2:=by kernel_rfl
 i3:=by kernel_rfl
 i4:=by kernel_rfl
 i5:=by kernel_rfl
 i9:=by kernel_rfl
 i20:=by kernel_rfl
 i21:=by kernel_rfl
 i37:=by kernel_rfl
 i46:=by kernel_rfl
 i51:=by kernel_rfl
 i53:=by kernel_rfl
 i75:=by kernel_rfl
 i76:=by kernel_rfl
 i80:=by kernel_rfl
 i85:=by kernel_rfl
 i127:=by kernel_rfl
 i143:=by kernel_rfl
 i145:=by kernel_rfl
 i167:=by kernel_rfl
 i168:=by kernel_rfl
 i171:=by kernel_rfl
 i173:=by kernel_rfl
 i175:=by kernel_rfl
 i210:=by kernel_rfl
 i212:=by kernel_rfl
 i232:=by kernel_rfl
 i233:=by kernel_rfl
 m15:=by kernel_rfl
 m16:=by kernel_rfl
 m17:=by kernel_rfl
 m18:=by kernel_rfl
 m19:=by kernel_rfl
 c0:=by kernel_rfl
 c2:=by kernel_rfl
 c3:=by kernel_rfl
 c4:=by kernel_rfl
 c5:=by kernel_rfl
 c9:=by kernel_rfl
 c20:=by kernel_rfl
 c21:=by kernel_rfl
 c37:=by kernel_rfl
 c46:=by kernel_rfl
 c51:=by kernel_rfl
 c53:=by kernel_rfl
 c75:=by kernel_rfl
 c76:=by kernel_rfl
 c80:=by kernel_rfl
 c85:=by kernel_rfl
 c127:=by kernel_rfl
 c143:=by kernel_rfl
 c145:=by kernel_rfl
 c167:=by kernel_rfl
 c168:=by kernel_rfl
 c171:=by kernel_rfl
 c173:=by kernel_rfl
 c175:=by kernel_rfl
 c210:=by kernel_rfl
 c212:=by kernel_rfl
 c213:=by kernel_rfl
 c232:=by kernel_rfl
 c233:=by kernel_rfl
theorem Tryz.boolRow:(Tryz.prog.info? (Tryz.laysTrim_ren.t 116)).map (fun i=>(i.zero,i.size))=some (some (.agg (Array.replicate 256 (.bool false))),256):=by kernel_rfl
end Go.Proofs
namespace Lift.J6
open Go Go.RowKit Go.Proofs Lift Lift.Fn
theorem zad8 {w w':World} {n:Nat} (h:∀ k,k<n→w'.heap[k]? = w.heap[k]?) {b o:Nat} (hb:b<n):w'.cell? ⟨b,o,none⟩=w.cell? ⟨b,o,none⟩:=by
 unfold World.cell?;rw[h b hb]
def isErr (v:Value):Prop:=v=.nilIface∨∃ te pe,v=.iface te pe
def globs (w:World):Prop:=Go.Lib.Utf8Tabs 0 1 w∧(∃ m,w.cell? ⟨2,0,none⟩=some (.int .i64 m))∧(∃ a b,(w.cell? ⟨3,0,none⟩=some a∧isErr a)∧(w.cell? ⟨4,0,none⟩=some b∧isErr b))∧True
theorem zaqy (w w':World) (h:globs w) (hs:∀ k,k<5→w'.heap[k]? = w.heap[k]?):globs w':=by
 refine ⟨?_,?_,?_,trivial⟩
 ·obtain ⟨h1,h2⟩:=h.1;refine ⟨fun c hc=>?_,fun i hi=>?_⟩
  ·rw[zad8 hs (by omega)]; exact h1 c hc
  ·rw[zad8 hs (by omega),zad8 hs (by omega)]; exact h2 i hi
 ·obtain ⟨m,h3⟩:=h.2.1;exact ⟨m,by rw[zad8 hs (by omega)]; exact h3⟩
 ·obtain ⟨a,b,⟨h4,h5⟩,h6,h7⟩:=h.2.2.1;exact ⟨a,b,⟨by rw[zad8 hs (by omega)]; exact h4,h5⟩,by rw[zad8 hs (by omega)]; exact h6,h7⟩
@[reducible] def env0:Env:=⟨globs,5,fun w w' h hs _ _ _=>zaqy w w' h hs⟩
theorem known0:Known kk env0 (zaac ms0):=known_nil
theorem strings_Contains_post:∀ ls j rs,(strings_Contains_md.sum ls).val=some (j,rs)→zaa6 kk env0 132 strings_Contains_md.sh strings_Contains_md.outs ls j rs:=by
 intro ls j rs h;simp only[strings_Contains_md] at h;split at h
 ·obtain ⟨r,hr,h⟩:=Tr.get_val h;rw[strings_Contains,zaaa,zadk,cond_eq_ite,Option.ite_none_right_eq_some,decide_eq_true_eq] at hr;obtain ⟨hc,hr⟩:=hr;cases hr;cases h;exact contains_post (K:=kk) (V:=env0) (ρ:=Tryz.laysContains_ren) ({ Tryz.laysContains with }) (fun w h=>h.2.1) _ _ hc
 ·cases h
theorem known1:Known kk env0 (zaac ms1):=known_cons (by kernel_rfl) strings_Contains_post known0
theorem unicode_utf8_DecodeRuneInString_post:∀ ls j rs,(unicode_utf8_DecodeRuneInString_md.sum ls).val=some (j,rs)→zaa6 kk env0 116 unicode_utf8_DecodeRuneInString_md.sh unicode_utf8_DecodeRuneInString_md.outs ls j rs:=by
 intro ls j rs h;simp only[unicode_utf8_DecodeRuneInString_md] at h;split at h
 ·obtain ⟨r,hr,h⟩:=Tr.get_val h;rw[zaa0,zaaa,zabm] at hr;cases hr;cases h;exact decode_post (K:=kk) (V:=env0) (ρ:=Tryz.laysDecode_ren) Tryz.laysDecode (fun w h=>h.1) _
 ·cases h
theorem known2:Known kk env0 (zaac ms2):=known_cons (by kernel_rfl) unicode_utf8_DecodeRuneInString_post known1
theorem unicode_utf8_RuneCountInString_post:∀ ls j rs,(unicode_utf8_RuneCountInString_md.sum ls).val=some (j,rs)→zaa6 kk env0 124 unicode_utf8_RuneCountInString_md.sh unicode_utf8_RuneCountInString_md.outs ls j rs:=by
 intro ls j rs h;simp only[unicode_utf8_RuneCountInString_md] at h;split at h
 ·obtain ⟨r,hr,h⟩:=Tr.get_val h;rw[zaa2,zaaa,zabo,cond_eq_ite,Option.ite_none_right_eq_some,decide_eq_true_eq] at hr;obtain ⟨hc,hr⟩:=hr;cases hr;cases h;exact runeCount_post (K:=kk) (V:=env0) (ρ:=Tryz.laysCount_ren) Tryz.laysCount _ hc
 ·cases h
theorem known3:Known kk env0 (zaac ms3):=known_cons (by kernel_rfl) unicode_utf8_RuneCountInString_post known2
theorem strings_Trim_post:∀ ls j rs,(strings_Trim_md.sum ls).val=some (j,rs)→zaa6 kk env0 133 strings_Trim_md.sh strings_Trim_md.outs ls j rs:=by
 intro ls j rs h;simp only[strings_Trim_md] at h;split at h
 ·obtain ⟨r,hr,h⟩:=Tr.get_val h;rw[zacx,zaaa,zae3,cond_eq_ite,Option.ite_none_right_eq_some,Bool.and_eq_true,decide_eq_true_eq] at hr;obtain ⟨⟨hc,hd⟩,hr⟩:=hr;cases hr;cases h;exact trim_post (K:=kk) (V:=env0) (ρ:=Tryz.laysTrim_ren) Tryz.laysTrim Tryz.boolRow _ _ hc.1 hc.2 hd
 ·cases h
theorem known4:Known kk env0 (zaac ms4):=known_cons (by kernel_rfl) strings_Trim_post known3
theorem strconv_Atoi_post:∀ ls j rs,(strconv_Atoi_md.sum ls).val=some (j,rs)→zaa6 kk env0 134 strconv_Atoi_md.sh strconv_Atoi_md.outs ls j rs:=by
 intro ls j rs h;simp only[strconv_Atoi_md] at h;split at h
 ·obtain ⟨r,hr,h⟩:=Tr.get_val h;rw[zacv,zaaa,zaeu,cond_eq_ite,Option.ite_none_right_eq_some,decide_eq_true_eq] at hr;obtain ⟨hc,hr⟩:=hr;cases hr;cases h;exact atoi_post (K:=kk) (V:=env0) (ρ:=Tryz.laysAtoi_ren) Tryz.laysAtoi (fun w h=>h.2.2.1) _ hc
 ·cases h
theorem known5:Known kk env0 (zaac ms5):=known_cons (by kernel_rfl) strconv_Atoi_post known4
end Lift.J6
namespace Lift.Fn
noncomputable section
open Go Lift
def qba_f (a0:Int):Option (Int):=bif decide (a0<0) then some ((-1:Int)) else bif decide (a0≤127) then some ((1:Int)) else bif decide (a0≤2047) then some ((2:Int)) else bif decide ((55296:Int)≤a0) then bif decide (a0≤57343) then some ((-1:Int)) else bif decide (a0≤65535) then some ((3:Int)) else bif decide (a0≤1114111) then some ((4:Int)) else some ((-1:Int)) else bif decide (a0≤65535) then some ((3:Int)) else bif decide (a0≤1114111) then some ((4:Int)) else some ((-1:Int))
def qba:=sealF (qba_f)
abbrev qaP_o4:=List UInt8→Int→Int→Int→Int→Int→Int→Int→Int→List UInt8→Nat→List Spot→Option ((Int×Int×Int×Int×(List Spot))⊕(Int×Int×Int×Int×Int×Int×Int×Int×(List Spot)))
def qaP_t4 (rec:qaP_o4):qaP_o4:=fun a0 a1 a2 a3 a4 a5 a6 a7 a8 a9 a10 a11=>bif decide (a10<List.length a9) then bif (↑(Prod.fst (Utf8.decode (ByteArray.mk (List.toArray a9)) a10)):Int)==65533 then bif decide ((0:Int)≤(↑a10:Int))&&(decide ((↑a10:Int)≤if IntKind.wrap IntKind.i64 ((↑a10:Int)+(3:Int))<(List.length a0:Int) then IntKind.wrap IntKind.i64 ((↑a10:Int)+(3:Int)) else (List.length a0:Int))&&decide ((if IntKind.wrap IntKind.i64 ((↑a10:Int)+(3:Int))<(List.length a0:Int) then IntKind.wrap IntKind.i64 ((↑a10:Int)+(3:Int)) else (List.length a0:Int))≤(List.length a0:Int))) then bif !List.drop (Int.toNat (↑a10:Int)) (List.take (Int.toNat (if IntKind.wrap IntKind.i64 ((↑a10:Int)+(3:Int))<(List.length a0:Int) then IntKind.wrap IntKind.i64 ((↑a10:Int)+(3:Int)) else (List.length a0:Int))) a0)==[(239:UInt8),(191:UInt8),(189:UInt8)] then some (.inl ((a5),(a6),(a7),(a8),(a11))) else bif decide ((List.length a11+List.length [Spot.mk (IntKind.wrap IntKind.i64 (↑(Prod.fst (Utf8.decode (ByteArray.mk (List.toArray a9)) a10)):Int)) a6 a7 a8])*(32:Nat)≤(140737488355328:Nat)∧List.length a11+List.length [Spot.mk (IntKind.wrap IntKind.i64 (↑(Prod.fst (Utf8.decode (ByteArray.mk (List.toArray a9)) a10)):Int)) a6 a7 a8]≤(9223372036854775807:Nat)) then (qba (↑(Prod.fst (Utf8.decode (ByteArray.mk (List.toArray a9)) a10)):Int)).bind fun y0=>bif (↑(Prod.fst (Utf8.decode (ByteArray.mk (List.toArray a9)) a10)):Int)==10 then rec (a0) (a1) (a2) (a3) (a4) ((-1:Int)) (IntKind.wrap IntKind.i64 (a6+y0)) (IntKind.wrap IntKind.i64 (a7+(1:Int))) ((1:Int)) (a9) (a10+Prod.snd (Utf8.decode (ByteArray.mk (List.toArray a9)) a10)) (a11++[Spot.mk (IntKind.wrap IntKind.i64 (↑(Prod.fst (Utf8.decode (ByteArray.mk (List.toArray a9)) a10)):Int)) a6 a7 a8]) else rec (a0) (a1) (a2) (a3) (a4) ((-1:Int)) (IntKind.wrap IntKind.i64 (a6+y0)) (a7) (IntKind.wrap IntKind.i64 (a8+(1:Int))) (a9) (a10+Prod.snd (Utf8.decode (ByteArray.mk (List.toArray a9)) a10)) (a11++[Spot.mk (IntKind.wrap IntKind.i64 (↑(Prod.fst (Utf8.decode (ByteArray.mk (List.toArray a9)) a10)):Int)) a6 a7 a8]) else none else none else bif decide ((List.length a11+List.length [Spot.mk (IntKind.wrap IntKind.i64 (↑(Prod.fst (Utf8.decode (ByteArray.mk (List.toArray a9)) a10)):Int)) a6 a7 a8])*(32:Nat)≤(140737488355328:Nat)∧List.length a11+List.length [Spot.mk (IntKind.wrap IntKind.i64 (↑(Prod.fst (Utf8.decode (ByteArray.mk (List.toArray a9)) a10)):Int)) a6 a7 a8]≤(9223372036854775807:Nat)) then (qba (↑(Prod.fst (Utf8.decode (ByteArray.mk (List.toArray a9)) a10)):Int)).bind fun y1=>bif (↑(Prod.fst (Utf8.decode (ByteArray.mk (List.toArray a9)) a10)):Int)==10 then rec (a0) (a1) (a2) (a3) (a4) ((-1:Int)) (IntKind.wrap IntKind.i64 (a6+y1)) (IntKind.wrap IntKind.i64 (a7+(1:Int))) ((1:Int)) (a9) (a10+Prod.snd (Utf8.decode (ByteArray.mk (List.toArray a9)) a10)) (a11++[Spot.mk (IntKind.wrap IntKind.i64 (↑(Prod.fst (Utf8.decode (ByteArray.mk (List.toArray a9)) a10)):Int)) a6 a7 a8]) else rec (a0) (a1) (a2) (a3) (a4) ((-1:Int)) (IntKind.wrap IntKind.i64 (a6+y1)) (a7) (IntKind.wrap IntKind.i64 (a8+(1:Int))) (a9) (a10+Prod.snd (Utf8.decode (ByteArray.mk (List.toArray a9)) a10)) (a11++[Spot.mk (IntKind.wrap IntKind.i64 (↑(Prod.fst (Utf8.decode (ByteArray.mk (List.toArray a9)) a10)):Int)) a6 a7 a8]) else none else some (.inr ((a1),(a2),(a3),(a4),(a5),(a6),(a7),(a8),(a11)))
def qaP_i4:Nat→qaP_o4
 |0=>fun _ _ _ _ _ _ _ _ _ _ _ _=>none
 |n+1=>qaP_t4 (qaP_i4 n)
def qaP_l4:=sealF (qaP_i4 fuel)
def qaP_f (a0:List UInt8):Option (Spot×(List Spot)):=(qaP_l4 a0 (0:Int) (0:Int) (0:Int) (0:Int) (-1:Int) (0:Int) (1:Int) (1:Int) a0 (0:Nat) []).bind fun y0=>(match y0 with|.inl y1=>some ((Spot.mk y1.1 y1.2.1 y1.2.2.1 y1.2.2.2.1),y1.2.2.2.2)|.inr y1=>some ((Spot.mk y1.2.2.2.2.1 y1.2.2.2.2.2.1 y1.2.2.2.2.2.2.1 y1.2.2.2.2.2.2.2.1),y1.2.2.2.2.2.2.2.2))
def qaP:=sealF (qaP_f)
def qaO_f (a0:List UInt8):Option (Fault×(List Spot)):=bif decide ((List.length a0:Int)>4000) then some ((Fault.mk (10:Int) (4000:Int) []),([])) else (qaP a0).bind fun y0=>bif decide (Spot.at_ y0.1<(List.length a0:Int)) then some ((Fault.mk (11:Int) (Spot.at_ y0.1) []),([])) else some ((Fault.mk (0:Int) (0:Int) []),y0.2)
def qaO:=sealF (qaO_f)
def qaL_f (a0:Int):Option (Bool):=bif a0==9 then some (true) else bif a0==10 then some (true) else bif a0==13 then some (true) else some (a0==32)
def qaL:=sealF (qaL_f)
abbrev qaC_o3:=List UInt8→Bool→List UInt8→Nat→Option ((Int)⊕((List UInt8)))
def qaC_t3 (rec:qaC_o3):qaC_o3:=fun a0 a1 a2 a3=>bif decide (a3<List.length a2) then bif a1 then rec (a0) ((↑(Prod.fst (Utf8.decode (ByteArray.mk (List.toArray a2)) a3)):Int) != 10) (a2) (a3+Prod.snd (Utf8.decode (ByteArray.mk (List.toArray a2)) a3)) else bif (↑(Prod.fst (Utf8.decode (ByteArray.mk (List.toArray a2)) a3)):Int)==35 then rec (a0) (true) (a2) (a3+Prod.snd (Utf8.decode (ByteArray.mk (List.toArray a2)) a3)) else (qaL (IntKind.wrap IntKind.i64 (↑(Prod.fst (Utf8.decode (ByteArray.mk (List.toArray a2)) a3)):Int))).bind fun y0=>bif !y0 then some (.inl ((↑a3:Int))) else rec (a0) (a1) (a2) (a3+Prod.snd (Utf8.decode (ByteArray.mk (List.toArray a2)) a3)) else some (.inr (a0))
def qaC_i3:Nat→qaC_o3
 |0=>fun _ _ _ _=>none
 |n+1=>qaC_t3 (qaC_i3 n)
def qaC_l3:=sealF (qaC_i3 fuel)
def qaC_f (a0:List UInt8):Option (Int):=(qaC_l3 a0 false a0 (0:Nat)).bind fun y0=>(match y0 with|.inl y1=>some (y1)|.inr y1=>some ((List.length y1:Int)))
def qaC:=sealF (qaC_f)
def qbb_f (a0:Int):Option (Bool):=bif decide (0≤a0) then bif decide (a0<55296) then some (true) else bif decide ((57343:Int)<a0) then bif decide (a0≤1114111) then some (true) else some (false) else some (false) else bif decide ((57343:Int)<a0) then bif decide (a0≤1114111) then some (true) else some (false) else some (false)
def qbb:=sealF (qbb_f)
def qaQ_f (a0:Int):Option (Bool):=bif decide (a0≥0) then bif decide (a0≤1114111) then (qbb (IntKind.wrap IntKind.i32 a0)).bind fun y0=>some (y0) else some (false) else some (false)
def qaQ:=sealF (qaQ_f)
def qaN_f (a0:Int):Option (Bool):=bif decide (a0≥97) then bif decide (a0≤122) then bif decide (a0≤122) then some (true) else bif decide (a0≥192) then (qaQ a0).bind fun y0=>some (y0) else some (false) else bif decide (a0≥65) then bif decide (a0≤90) then bif decide (a0≤90) then some (true) else bif decide (a0≥192) then (qaQ a0).bind fun y1=>some (y1) else some (false) else bif a0==95 then some (true) else bif decide (a0≥192) then (qaQ a0).bind fun y2=>some (y2) else some (false) else bif a0==95 then some (true) else bif decide (a0≥192) then (qaQ a0).bind fun y3=>some (y3) else some (false) else bif decide (a0≥65) then bif decide (a0≤90) then bif decide (a0≤90) then some (true) else bif decide (a0≥192) then (qaQ a0).bind fun y4=>some (y4) else some (false) else bif a0==95 then some (true) else bif decide (a0≥192) then (qaQ a0).bind fun y5=>some (y5) else some (false) else bif a0==95 then some (true) else bif decide (a0≥192) then (qaQ a0).bind fun y6=>some (y6) else some (false)
def qaN:=sealF (qaN_f)
def qaM_f (a0:Int):Option (Bool):=bif decide (a0≥48) then some (decide (a0≤57)) else some (false)
def qaM:=sealF (qaM_f)
def qaA_f (a0:Int):Option (Bool):=(qaN (IntKind.wrap IntKind.i64 a0)).bind fun y0=>bif y0 then some (true) else (qaM (IntKind.wrap IntKind.i64 a0)).bind fun y1=>some (y1)
def qaA:=sealF (qaA_f)
abbrev qaU_o2:=List (List UInt8)→List UInt8→Int→Int→Option ((Int)⊕(Unit))
def qaU_t2 (rec:qaU_o2):qaU_o2:=fun a0 a1 a2 a3=>bif decide (a3<a2) then bif decide (0≤a3) then (a0[Int.toNat a3]?).bind fun y0=>bif a1==y0 then some (.inl (a3)) else rec (a0) (a1) (a2) (IntKind.wrap IntKind.i64 (a3+(1:Int))) else none else some (.inr ())
def qaU_i2:Nat→qaU_o2
 |0=>fun _ _ _ _=>none
 |n+1=>qaU_t2 (qaU_i2 n)
def qaU_l2:=sealF (qaU_i2 fuel)
def qaU_f (a0:List (List UInt8)) (a1:List UInt8):Option (Int):=(qaU_l2 a0 a1 (List.length a0:Int) (0:Int)).bind fun y0=>(match y0 with|.inl y1=>some (y1)|.inr y1=>some ((-1:Int)))
def qaU:=sealF (qaU_f)
def qaT_f (a0:List (List UInt8)) (a1:List UInt8):Option (Bool):=(qaU a0 a1).bind fun y0=>some (decide (y0≥0))
def qaT:=sealF (qaT_f)
def qaD_f (a0:List UInt8):Option ((List UInt8)):=bif decide ((List.length a0:Int)>1) then bif decide ((0:Int)≤(0:Int))&&(decide ((0:Int)≤(2:Int))&&decide ((2:Int)≤(List.length a0:Int))) then (qaT [[(58:UInt8),(61:UInt8)],[(60:UInt8),(45:UInt8)],[(61:UInt8),(61:UInt8)],[(33:UInt8),(61:UInt8)],[(60:UInt8),(61:UInt8)],[(62:UInt8),(61:UInt8)],[(38:UInt8),(38:UInt8)],[(124:UInt8),(124:UInt8)]] (List.drop (0:Nat) (List.take (2:Nat) a0))).bind fun y0=>bif y0 then bif decide ((0:Int)≤(0:Int))&&(decide ((0:Int)≤(2:Int))&&decide ((2:Int)≤(List.length a0:Int))) then some (List.drop (0:Nat) (List.take (2:Nat) a0)) else none else bif decide ((0:Int)≤(0:Int))&&(decide ((0:Int)≤(1:Int))&&decide ((1:Int)≤(List.length a0:Int))) then (strings_Contains [(61:UInt8),(60:UInt8),(62:UInt8),(33:UInt8),(43:UInt8),(45:UInt8),(42:UInt8),(47:UInt8),(37:UInt8),(59:UInt8),(123:UInt8),(125:UInt8),(40:UInt8),(41:UInt8)] (List.drop (0:Nat) (List.take (1:Nat) a0))).bind fun y1=>bif y1 then bif decide ((0:Int)≤(0:Int))&&(decide ((0:Int)≤(1:Int))&&decide ((1:Int)≤(List.length a0:Int))) then some (List.drop (0:Nat) (List.take (1:Nat) a0)) else none else some ([]) else none else none else bif decide ((0:Int)≤(0:Int))&&(decide ((0:Int)≤(1:Int))&&decide ((1:Int)≤(List.length a0:Int))) then (strings_Contains [(61:UInt8),(60:UInt8),(62:UInt8),(33:UInt8),(43:UInt8),(45:UInt8),(42:UInt8),(47:UInt8),(37:UInt8),(59:UInt8),(123:UInt8),(125:UInt8),(40:UInt8),(41:UInt8)] (List.drop (0:Nat) (List.take (1:Nat) a0))).bind fun y2=>bif y2 then bif decide ((0:Int)≤(0:Int))&&(decide ((0:Int)≤(1:Int))&&decide ((1:Int)≤(List.length a0:Int))) then some (List.drop (0:Nat) (List.take (1:Nat) a0)) else none else some ([]) else none
def qaD:=sealF (qaD_f)
abbrev qaF_o2:=List UInt8→List UInt8→Nat→Option (((List UInt8))⊕((List UInt8)))
def qaF_t2 (rec:qaF_o2):qaF_o2:=fun a0 a1 a2=>bif decide (a2<List.length a1) then (qaA (↑(Prod.fst (Utf8.decode (ByteArray.mk (List.toArray a1)) a2)):Int)).bind fun y0=>bif !y0 then bif decide ((0:Int)≤(0:Int))&&(decide ((0:Int)≤(↑a2:Int))&&decide ((↑a2:Int)≤(List.length a0:Int))) then some (.inl (List.drop (0:Nat) (List.take (Int.toNat (↑a2:Int)) a0))) else none else rec (a0) (a1) (a2+Prod.snd (Utf8.decode (ByteArray.mk (List.toArray a1)) a2)) else some (.inr (a0))
def qaF_i2:Nat→qaF_o2
 |0=>fun _ _ _=>none
 |n+1=>qaF_t2 (qaF_i2 n)
def qaF_l2:=sealF (qaF_i2 fuel)
def qaF_f (a0:List UInt8):Option ((List UInt8)):=(qaF_l2 a0 a0 (0:Nat)).bind fun y0=>(match y0 with|.inl y1=>some (y1)|.inr y1=>some (y1))
def qaF:=sealF (qaF_f)
def qaB_f (a0:List UInt8):Option (Int×Bool):=bif decide ((List.length a0:Int)>1) then (a0[(0:Nat)]?).bind fun y0=>bif (↑(UInt8.toNat y0):Int)==48 then some (((0:Int)),(false)) else (zacx a0 [(48:UInt8),(49:UInt8),(50:UInt8),(51:UInt8),(52:UInt8),(53:UInt8),(54:UInt8),(55:UInt8),(56:UInt8),(57:UInt8)]).bind fun y1=>bif !y1==[] then some (((0:Int)),(false)) else (zacv a0).bind fun y2=>bif !y2.2 then some (y2.1,(decide (y2.1≤2147483647))) else some (y2.1,(false)) else (zacx a0 [(48:UInt8),(49:UInt8),(50:UInt8),(51:UInt8),(52:UInt8),(53:UInt8),(54:UInt8),(55:UInt8),(56:UInt8),(57:UInt8)]).bind fun y3=>bif !y3==[] then some (((0:Int)),(false)) else (zacv a0).bind fun y4=>bif !y4.2 then some (y4.1,(decide (y4.1≤2147483647))) else some (y4.1,(false))
def qaB:=sealF (qaB_f)
def qaz_f:Option ((List (List UInt8))):=some ([[(97:UInt8),(100:UInt8),(100:UInt8)],[(97:UInt8),(115:UInt8),(115:UInt8),(101:UInt8),(114:UInt8),(116:UInt8)],[(99:UInt8),(101:UInt8),(108:UInt8),(108:UInt8)],[(101:UInt8),(108:UInt8),(115:UInt8),(101:UInt8)],[(105:UInt8),(102:UInt8)],[(106:UInt8),(111:UInt8),(105:UInt8),(110:UInt8)],[(108:UInt8),(111:UInt8),(99:UInt8),(107:UInt8)],[(109:UInt8),(117:UInt8),(116:UInt8),(101:UInt8),(120:UInt8)],[(114:UInt8),(101:UInt8),(112:UInt8),(101:UInt8),(97:UInt8),(116:UInt8)],[(115:UInt8),(116:UInt8),(97:UInt8),(114:UInt8),(116:UInt8)],[(116:UInt8),(104:UInt8),(114:UInt8),(101:UInt8),(97:UInt8),(100:UInt8)],[(117:UInt8),(110:UInt8),(108:UInt8),(111:UInt8),(99:UInt8),(107:UInt8)]])
def qaz:=sealF (qaz_f)
def qaE_f (a0:List UInt8):Option (Token×Int):=(zaa0 a0).bind fun y0=>(qaA y0.1).bind fun y1=>bif !y1 then (qaD a0).bind fun y2=>bif y2==[] then some ((Token.mk (0:Int) [] (0:Int) (0:Int)),((20:Int))) else some ((Token.mk (3:Int) y2 (0:Int) (0:Int)),((0:Int))) else (qaF a0).bind fun y3=>(qaM (IntKind.wrap IntKind.i64 y0.1)).bind fun y4=>bif y4 then (qaB y3).bind fun y5=>bif !y5.2 then some ((Token.mk (1:Int) y3 (0:Int) (0:Int)),((22:Int))) else some ((Token.mk (2:Int) y3 y5.1 (0:Int)),((0:Int))) else (qaz).bind fun y6=>(qaT y6 y3).bind fun y7=>bif y7 then some ((Token.mk (4:Int) y3 (0:Int) (0:Int)),((0:Int))) else (zaa2 y3).bind fun y8=>bif decide (y8>16) then some ((Token.mk (1:Int) y3 (0:Int) (0:Int)),((21:Int))) else some ((Token.mk (1:Int) y3 (0:Int) (0:Int)),((0:Int)))
def qaE:=sealF (qaE_f)
abbrev qay_o6:=List UInt8→Int→Int→Int→List UInt8→List Token→Option ((Int×Int×(List UInt8))⊕((List UInt8)×Int×Int×(List UInt8)×(List Token)))
def qay_t6 (rec:qay_o6):qay_o6:=fun a0 a1 a2 a3 a4 a5=>bif decide (a1<(List.length a0:Int)) then bif decide (0≤a1)&&(decide (a1≤(List.length a0:Int))&&decide ((List.length a0:Int)≤(List.length a0:Int))) then (qaE (List.drop (Int.toNat a1) (List.take (Int.toNat (List.length a0:Int)) a0))).bind fun y0=>bif y0.2 != 0 then some (.inl (y0.2,(a1),([]))) else bif decide ((List.length a5+List.length [Token.mk (Token.kind y0.1) (Token.text y0.1) (Token.num y0.1) a1])*(40:Nat)≤(140737488355328:Nat)∧List.length a5+List.length [Token.mk (Token.kind y0.1) (Token.text y0.1) (Token.num y0.1) a1]≤(9223372036854775807:Nat)) then bif decide ((0:Int)≤IntKind.wrap IntKind.i64 (a1+(List.length (Token.text y0.1):Int)))&&(decide (IntKind.wrap IntKind.i64 (a1+(List.length (Token.text y0.1):Int))≤(List.length a0:Int))&&decide ((List.length a0:Int)≤(List.length a0:Int))) then (qaC (List.drop (Int.toNat (IntKind.wrap IntKind.i64 (a1+(List.length (Token.text y0.1):Int)))) (List.take (Int.toNat (List.length a0:Int)) a0))).bind fun y1=>rec (a0) (IntKind.wrap IntKind.i64 (IntKind.wrap IntKind.i64 (a1+(List.length (Token.text y0.1):Int))+y1)) (a2) (a3) (a4) (a5++[Token.mk (Token.kind y0.1) (Token.text y0.1) (Token.num y0.1) a1]) else none else none else none else some (.inr ((a0),(a2),(a3),(a4),(a5)))
def qay_i6:Nat→qay_o6
 |0=>fun _ _ _ _ _ _=>none
 |n+1=>qay_t6 (qay_i6 n)
def qay_l6:=sealF (qay_i6 fuel)
def qay_f (a0:List UInt8):Option (Fault×(List Token)):=(qaO a0).bind fun y0=>bif Fault.code y0.1 != 0 then some ((Fault.mk (Fault.code y0.1) (Fault.at_ y0.1) (Fault.name y0.1)),([])) else (qaC a0).bind fun y1=>(qay_l6 a0 y1 (0:Int) (0:Int) [] []).bind fun y2=>(match y2 with|.inl y3=>some ((Fault.mk y3.1 y3.2.1 y3.2.2),([]))|.inr y3=>bif decide ((List.length y3.2.2.2.2+List.length [Token.mk (5:Int) [] (0:Int) (List.length y3.1:Int)])*(40:Nat)≤(140737488355328:Nat)∧List.length y3.2.2.2.2+List.length [Token.mk (5:Int) [] (0:Int) (List.length y3.1:Int)]≤(9223372036854775807:Nat)) then some ((Fault.mk (0:Int) (0:Int) []),(y3.2.2.2.2++[Token.mk (5:Int) [] (0:Int) (List.length y3.1:Int)])) else none)
def qay:=sealF (qay_f)
def qa7_f (a0:List UInt8):Option (Bool):=bif decide ((List.length a0:Int)>64) then some (false) else (qay a0).bind fun y0=>Option.bind (α:=Bool) ( bif Fault.code y0.1==0 then some ((List.length y0.2:Int)==2) else some (false)) fun y1=>Option.bind (α:=Bool) ( bif y1 then bif decide ((0:Int)≤(0:Int))&&decide ((0:Int)<(List.length y0.2:Int)) then (y0.2[(0:Nat)]?).bind fun y2=>some (Token.kind y2==1) else none else some (false)) fun y3=>Option.bind (α:=Bool) ( bif y3 then bif decide ((0:Int)≤(0:Int))&&decide ((0:Int)<(List.length y0.2:Int)) then (y0.2[(0:Nat)]?).bind fun y4=>some (Token.text y4==a0) else none else some (false)) fun y5=>some (y5)
def qa7:=sealF (qa7_f)
def qa8_f:Option ((List ((Int)×(Shape)))):=some (zaap (11:Int) (Shape.mk false false false true true false) (zaap (10:Int) (Shape.mk false false true false true true) (zaap (9:Int) (Shape.mk false false true false false false) (zaap (8:Int) (Shape.mk false true false false false false) (zaap (7:Int) (Shape.mk false true false false false false) (zaap (6:Int) (Shape.mk false true false false false false) (zaap (5:Int) (Shape.mk false true false false false false) (zaap (4:Int) (Shape.mk true true true false false false) (zaap (3:Int) (Shape.mk false true true false false false) (zaap (2:Int) (Shape.mk true true false false false false) (zaap (1:Int) (Shape.mk true false true false false false) [])))))))))))
def qa8:=sealF (qa8_f)
def qa6_f (a0:List UInt8) (a1:Bool):Option (Bool):=Option.bind (α:=Bool) ( bif a1 then (qa7 a0).bind fun y0=>some (y0) else some (false)) fun y1=>Option.bind (α:=Bool) ( bif y1 then some (true) else Option.bind (α:=Bool) ( bif !a1 then some (a0==[]) else some (false)) fun y2=>some (y2)) fun y3=>some (y3)
def qa6:=sealF (qa6_f)
def qa9_f (a0:TStmt):Option (Bool):=(qa8).bind fun y0=>Option.bind (α:=Bool) ( bif TExpr.kind (TStmt.expr a0)==0 then some (TExpr.num (TStmt.expr a0)==0) else some (false)) fun y1=>Option.bind (α:=Bool) ( bif y1 then some (TExpr.name (TStmt.expr a0)==[]) else some (false)) fun y2=>Option.bind (α:=Bool) ( bif y2 then some ((↑(List.length (TExpr.args (TStmt.expr a0))):Int)==0) else some (false)) fun y3=>Option.bind (α:=Bool) ( bif TStmt.count a0==0 then some (true) else Option.bind (α:=Bool) ( bif Shape.count (Option.getD (mapAt y0 (TStmt.kind a0)) (Shape.mk false false false false false false)) then some (decide (TStmt.count a0>0)) else some (false)) fun y4=>Option.bind (α:=Bool) ( bif y4 then some (decide (TStmt.count a0≤1000)) else some (false)) fun y5=>some (y5)) fun y6=>Option.bind (α:=Bool) ( bif Option.isSome (mapAt y0 (TStmt.kind a0)) then (qa6 (TStmt.reg a0) (Shape.reg (Option.getD (mapAt y0 (TStmt.kind a0)) (Shape.mk false false false false false false)))).bind fun y7=>some (y7) else some (false)) fun y8=>Option.bind (α:=Bool) ( bif y8 then (qa6 (TStmt.name a0) (Shape.name (Option.getD (mapAt y0 (TStmt.kind a0)) (Shape.mk false false false false false false)))).bind fun y9=>some (y9) else some (false)) fun y10=>Option.bind (α:=Bool) ( bif y10 then Option.bind (α:=Bool) ( bif Shape.expr (Option.getD (mapAt y0 (TStmt.kind a0)) (Shape.mk false false false false false false)) then some (TExpr.kind (TStmt.expr a0) != 0) else some (false)) fun y11=>Option.bind (α:=Bool) ( bif y11 then some (true) else Option.bind (α:=Bool) ( bif !Shape.expr (Option.getD (mapAt y0 (TStmt.kind a0)) (Shape.mk false false false false false false)) then some (y3) else some (false)) fun y12=>some (y12)) fun y13=>some (y13) else some (false)) fun y14=>Option.bind (α:=Bool) ( bif y14 then some (y6) else some (false)) fun y15=>Option.bind (α:=Bool) ( bif y15 then Option.bind (α:=Bool) ( bif Shape.then_ (Option.getD (mapAt y0 (TStmt.kind a0)) (Shape.mk false false false false false false)) then some (true) else some ((List.length (TStmt.then_ a0):Int)==0)) fun y16=>some (y16) else some (false)) fun y17=>Option.bind (α:=Bool) ( bif y17 then Option.bind (α:=Bool) ( bif Shape.other (Option.getD (mapAt y0 (TStmt.kind a0)) (Shape.mk false false false false false false)) then some (true) else some ((List.length (TStmt.else_ a0):Int)==0)) fun y18=>some (y18) else some (false)) fun y19=>some (y19)
def qa9:=sealF (qa9_f)
def qa4_f (a0:TStmt) (a1:Int) (a2:Bool):Option (Bool):=Option.bind (α:=Bool) ( bif a2 then (qa9 (TStmt.mk (TStmt.kind a0) (TStmt.reg a0) (TStmt.name a0) (TExpr.mk (TExpr.kind (TStmt.expr a0)) (TExpr.num (TStmt.expr a0)) (TExpr.name (TStmt.expr a0)) (TExpr.args (TStmt.expr a0))) (TStmt.count a0) (TStmt.then_ a0) (TStmt.else_ a0))).bind fun y0=>some (y0) else some (false)) fun y1=>some (y1)
def qa4:=sealF (qa4_f)
def qa2_f (a0:TExpr):Option (Bool):=bif TExpr.kind a0==1 then Option.bind (α:=Bool) ( bif decide (TExpr.num a0≥0) then some (decide (TExpr.num a0≤2147483647)) else some (false)) fun y0=>Option.bind (α:=Bool) ( bif y0 then some (TExpr.name a0==[]) else some (false)) fun y1=>Option.bind (α:=Bool) ( bif y1 then some ((List.length (TExpr.args a0):Int)==0) else some (false)) fun y2=>some (y2) else bif TExpr.kind a0==2 then (qa7 (TExpr.name a0)).bind fun y3=>Option.bind (α:=Bool) ( bif y3 then some (TExpr.num a0==0) else some (false)) fun y4=>Option.bind (α:=Bool) ( bif y4 then some ((List.length (TExpr.args a0):Int)==0) else some (false)) fun y5=>some (y5) else Option.bind (α:=Bool) ( bif TExpr.kind a0==3 then some (true) else some (TExpr.kind a0==4)) fun y6=>bif y6 then Option.bind (α:=Bool) ( bif decide (TExpr.kind a0≥3) then some (decide (TExpr.kind a0≤17)) else some (false)) fun y7=>Option.bind (α:=Bool) ( bif y7 then some ((List.length (TExpr.args a0):Int)==1) else some (false)) fun y8=>Option.bind (α:=Bool) ( bif y8 then some (TExpr.num a0==0) else some (false)) fun y9=>Option.bind (α:=Bool) ( bif y9 then some (TExpr.name a0==[]) else some (false)) fun y10=>some (y10) else Option.bind (α:=Bool) ( bif decide (TExpr.kind a0≥3) then some (decide (TExpr.kind a0≤17)) else some (false)) fun y11=>Option.bind (α:=Bool) ( bif y11 then some ((List.length (TExpr.args a0):Int)==2) else some (false)) fun y12=>Option.bind (α:=Bool) ( bif y12 then some (TExpr.num a0==0) else some (false)) fun y13=>Option.bind (α:=Bool) ( bif y13 then some (TExpr.name a0==[]) else some (false)) fun y14=>some (y14)
def qa2:=sealF (qa2_f)
def qa5_f (a0:TExpr) (a1:Int) (a2:Bool):Option (Bool):=Option.bind (α:=Bool) ( bif a2 then (qa2 (TExpr.mk (TExpr.kind a0) (TExpr.num a0) (TExpr.name a0) (TExpr.args a0))).bind fun y0=>some (y0) else some (false)) fun y1=>some (y1)
def qa5:=sealF (qa5_f)
abbrev qac_o:=TExpr→Int→Bool→Option (Bool)
abbrev qac_o3:=Int→List TExpr→Int→Int→Bool→Option (Bool)
def qac_t3 (rec_qac:qac_o) (rec:qac_o3):qac_o3:=fun a0 a1 a2 a3 a4=>bif decide (a3<a2) then bif decide (0≤a3) then (a1[Int.toNat a3]?).bind fun y0=>(rec_qac (TExpr.mk (TExpr.kind y0) (TExpr.num y0) (TExpr.name y0) (TExpr.args y0)) (IntKind.wrap IntKind.i64 (a0+(1:Int))) a4).bind fun y1=>rec (a0) (a1) (a2) (IntKind.wrap IntKind.i64 (a3+(1:Int))) (y1) else none else some (a4)
def qac_i3 (rec_qac:qac_o):Nat→qac_o3
 |0=>fun _ _ _ _ _=>none
 |n+1=>qac_t3 rec_qac (qac_i3 rec_qac n)
def qac_l3 (rec_qac:qac_o):=sealF (qac_i3 rec_qac fuel)
def qac_f (rec_qac:qac_o):qac_o:=fun a0 a1 a2=>(qa5 (TExpr.mk (TExpr.kind a0) (TExpr.num a0) (TExpr.name a0) (TExpr.args a0)) a1 a2).bind fun y0=>(qac_l3 rec_qac a1 (TExpr.args a0) (List.length (TExpr.args a0):Int) (0:Int) y0).bind fun y1=>some (y1)
def qac_i:Nat→qac_o
 |0=>fun _ _ _=>none
 |n+1=>qac_f (qac_i n)
def qac:=sealF (qac_i fuel)
abbrev qai_o:=List TStmt→Int→Bool→Option (Bool)
abbrev qai_o2:=Int→List TStmt→Int→Int→Bool→Option (Bool)
def qai_t2 (rec_qai:qai_o) (rec:qai_o2):qai_o2:=fun a0 a1 a2 a3 a4=>bif decide (a3<a2) then bif decide (0≤a3) then (a1[Int.toNat a3]?).bind fun y0=>(qa4 (TStmt.mk (TStmt.kind y0) (TStmt.reg y0) (TStmt.name y0) (TExpr.mk (TExpr.kind (TStmt.expr y0)) (TExpr.num (TStmt.expr y0)) (TExpr.name (TStmt.expr y0)) (TExpr.args (TStmt.expr y0))) (TStmt.count y0) (TStmt.then_ y0) (TStmt.else_ y0)) a0 a4).bind fun y1=>Option.bind (α:=Bool) ( bif TExpr.kind (TStmt.expr y0) != 0 then some (true) else some (decide ((↑(List.length (TExpr.args (TStmt.expr y0))):Int)>0))) fun y2=>bif y2 then (qac (TExpr.mk (TExpr.kind (TStmt.expr y0)) (TExpr.num (TStmt.expr y0)) (TExpr.name (TStmt.expr y0)) (TExpr.args (TStmt.expr y0))) (1:Int) y1).bind fun y3=>(rec_qai (TStmt.then_ y0) (IntKind.wrap IntKind.i64 (a0+(1:Int))) y3).bind fun y4=>(rec_qai (TStmt.else_ y0) (IntKind.wrap IntKind.i64 (a0+(1:Int))) y4).bind fun y5=>rec (a0) (a1) (a2) (IntKind.wrap IntKind.i64 (a3+(1:Int))) (y5) else (rec_qai (TStmt.then_ y0) (IntKind.wrap IntKind.i64 (a0+(1:Int))) y1).bind fun y6=>(rec_qai (TStmt.else_ y0) (IntKind.wrap IntKind.i64 (a0+(1:Int))) y6).bind fun y7=>rec (a0) (a1) (a2) (IntKind.wrap IntKind.i64 (a3+(1:Int))) (y7) else none else some (a4)
def qai_i2 (rec_qai:qai_o):Nat→qai_o2
 |0=>fun _ _ _ _ _=>none
 |n+1=>qai_t2 rec_qai (qai_i2 rec_qai n)
def qai_l2 (rec_qai:qai_o):=sealF (qai_i2 rec_qai fuel)
def qai_f (rec_qai:qai_o):qai_o:=fun a0 a1 a2=>(qai_l2 rec_qai a1 a0 (List.length a0:Int) (0:Int) a2).bind fun y0=>some (y0)
def qai_i:Nat→qai_o
 |0=>fun _ _ _=>none
 |n+1=>qai_f (qai_i n)
def qai:=sealF (qai_i fuel)
abbrev qaf_o2:=List TThread→Int→Int→Bool→Option (Bool)
def qaf_t2 (rec:qaf_o2):qaf_o2:=fun a0 a1 a2 a3=>bif decide (a2<a1) then bif decide (0≤a2) then (a0[Int.toNat a2]?).bind fun y0=>(qai (TThread.body y0) (1:Int) a3).bind fun y1=>rec (a0) (a1) (IntKind.wrap IntKind.i64 (a2+(1:Int))) (y1) else none else some (a3)
def qaf_i2:Nat→qaf_o2
 |0=>fun _ _ _ _=>none
 |n+1=>qaf_t2 (qaf_i2 n)
def qaf_l2:=sealF (qaf_i2 fuel)
def qaf_f (a0:TProg) (a1:Bool):Option (Bool):=(qaf_l2 (TProg.threads a0) (List.length (TProg.threads a0):Int) (0:Int) a1).bind fun y0=>some (y0)
def qaf:=sealF (qaf_f)
abbrev qa3_o3:=List TCell→Int→Int→List TCell→List (List UInt8)→List TThread→Bool→Option ((List TCell)×(List (List UInt8))×(List TThread)×Bool)
def qa3_t3 (rec:qa3_o3):qa3_o3:=fun a0 a1 a2 a3 a4 a5 a6=>bif decide (a2<a1) then bif decide (0≤a2) then (a0[Int.toNat a2]?).bind fun y0=>Option.bind (α:=Bool) ( bif a6 then (qa7 (TCell.name y0)).bind fun y1=>some (y1) else some (false)) fun y2=>Option.bind (α:=Bool) ( bif y2 then some (decide (TCell.init y0≥(-2147483647:Int))) else some (false)) fun y3=>Option.bind (α:=Bool) ( bif y3 then some (decide (TCell.init y0≤2147483647)) else some (false)) fun y4=>rec (a0) (a1) (IntKind.wrap IntKind.i64 (a2+(1:Int))) (a3) (a4) (a5) (y4) else none else some ((a3),(a4),(a5),(a6))
def qa3_i3:Nat→qa3_o3
 |0=>fun _ _ _ _ _ _ _=>none
 |n+1=>qa3_t3 (qa3_i3 n)
def qa3_l3:=sealF (qa3_i3 fuel)
abbrev qa3_o8:=List (List UInt8)→Int→Int→List TCell→List (List UInt8)→List TThread→Bool→Option ((List TCell)×(List (List UInt8))×(List TThread)×Bool)
def qa3_t8 (rec:qa3_o8):qa3_o8:=fun a0 a1 a2 a3 a4 a5 a6=>bif decide (a2<a1) then bif decide (0≤a2) then (a0[Int.toNat a2]?).bind fun y0=>Option.bind (α:=Bool) ( bif a6 then (qa7 y0).bind fun y1=>some (y1) else some (false)) fun y2=>rec (a0) (a1) (IntKind.wrap IntKind.i64 (a2+(1:Int))) (a3) (a4) (a5) (y2) else none else some ((a3),(a4),(a5),(a6))
def qa3_i8:Nat→qa3_o8
 |0=>fun _ _ _ _ _ _ _=>none
 |n+1=>qa3_t8 (qa3_i8 n)
def qa3_l8:=sealF (qa3_i8 fuel)
abbrev qa3_o13:=List TThread→Int→Int→List TCell→List (List UInt8)→List TThread→Bool→Option ((List TCell)×(List (List UInt8))×(List TThread)×Bool)
def qa3_t13 (rec:qa3_o13):qa3_o13:=fun a0 a1 a2 a3 a4 a5 a6=>bif decide (a2<a1) then bif decide (0≤a2) then (a0[Int.toNat a2]?).bind fun y0=>Option.bind (α:=Bool) ( bif a6 then (qa7 (TThread.name y0)).bind fun y1=>some (y1) else some (false)) fun y2=>rec (a0) (a1) (IntKind.wrap IntKind.i64 (a2+(1:Int))) (a3) (a4) (a5) (y2) else none else some ((a3),(a4),(a5),(a6))
def qa3_i13:Nat→qa3_o13
 |0=>fun _ _ _ _ _ _ _=>none
 |n+1=>qa3_t13 (qa3_i13 n)
def qa3_l13:=sealF (qa3_i13 fuel)
def qa3_f (a0:TProg):Option (Bool):=(qa3_l3 (TProg.cells a0) (List.length (TProg.cells a0):Int) (0:Int) (TProg.cells a0) (TProg.mutexes a0) (TProg.threads a0) true).bind fun y0=>(qa3_l8 y0.2.1 (List.length y0.2.1:Int) (0:Int) y0.1 y0.2.1 y0.2.2.1 y0.2.2.2).bind fun y1=>(qa3_l13 y1.2.2.1 (List.length y1.2.2.1:Int) (0:Int) y1.1 y1.2.1 y1.2.2.1 y1.2.2.2).bind fun y2=>bif y2.2.2.2 then (qaf (TProg.mk y2.1 y2.2.1 y2.2.2.1) y2.2.2.2).bind fun y3=>some (y3) else some y2.2.2.2
def qa3:=sealF (qa3_f)
def qaZ_f (a0:TStmt) (a1:Int) (a2:Int):Option (Int):=some (if a1>a2 then a1 else a2)
def qaZ:=sealF (qaZ_f)
def qa0_f (a0:TExpr) (a1:Int) (a2:Int):Option (Int):=some (if a1>a2 then a1 else a2)
def qa0:=sealF (qa0_f)
abbrev qad_o:=TExpr→Int→Int→Option (Int)
abbrev qad_o3:=Int→List TExpr→Int→Int→Int→Option (Int)
def qad_t3 (rec_qad:qad_o) (rec:qad_o3):qad_o3:=fun a0 a1 a2 a3 a4=>bif decide (a3<a2) then bif decide (0≤a3) then (a1[Int.toNat a3]?).bind fun y0=>(rec_qad (TExpr.mk (TExpr.kind y0) (TExpr.num y0) (TExpr.name y0) (TExpr.args y0)) (IntKind.wrap IntKind.i64 (a0+(1:Int))) a4).bind fun y1=>rec (a0) (a1) (a2) (IntKind.wrap IntKind.i64 (a3+(1:Int))) (y1) else none else some (a4)
def qad_i3 (rec_qad:qad_o):Nat→qad_o3
 |0=>fun _ _ _ _ _=>none
 |n+1=>qad_t3 rec_qad (qad_i3 rec_qad n)
def qad_l3 (rec_qad:qad_o):=sealF (qad_i3 rec_qad fuel)
def qad_f (rec_qad:qad_o):qad_o:=fun a0 a1 a2=>(qa0 (TExpr.mk (TExpr.kind a0) (TExpr.num a0) (TExpr.name a0) (TExpr.args a0)) a1 a2).bind fun y0=>(qad_l3 rec_qad a1 (TExpr.args a0) (List.length (TExpr.args a0):Int) (0:Int) y0).bind fun y1=>some (y1)
def qad_i:Nat→qad_o
 |0=>fun _ _ _=>none
 |n+1=>qad_f (qad_i n)
def qad:=sealF (qad_i fuel)
abbrev qaj_o:=List TStmt→Int→Int→Option (Int)
abbrev qaj_o2:=Int→List TStmt→Int→Int→Int→Option (Int)
def qaj_t2 (rec_qaj:qaj_o) (rec:qaj_o2):qaj_o2:=fun a0 a1 a2 a3 a4=>bif decide (a3<a2) then bif decide (0≤a3) then (a1[Int.toNat a3]?).bind fun y0=>(qaZ (TStmt.mk (TStmt.kind y0) (TStmt.reg y0) (TStmt.name y0) (TExpr.mk (TExpr.kind (TStmt.expr y0)) (TExpr.num (TStmt.expr y0)) (TExpr.name (TStmt.expr y0)) (TExpr.args (TStmt.expr y0))) (TStmt.count y0) (TStmt.then_ y0) (TStmt.else_ y0)) a0 a4).bind fun y1=>Option.bind (α:=Bool) ( bif TExpr.kind (TStmt.expr y0) != 0 then some (true) else some (decide ((↑(List.length (TExpr.args (TStmt.expr y0))):Int)>0))) fun y2=>bif y2 then (qad (TExpr.mk (TExpr.kind (TStmt.expr y0)) (TExpr.num (TStmt.expr y0)) (TExpr.name (TStmt.expr y0)) (TExpr.args (TStmt.expr y0))) (1:Int) y1).bind fun y3=>(rec_qaj (TStmt.then_ y0) (IntKind.wrap IntKind.i64 (a0+(1:Int))) y3).bind fun y4=>(rec_qaj (TStmt.else_ y0) (IntKind.wrap IntKind.i64 (a0+(1:Int))) y4).bind fun y5=>rec (a0) (a1) (a2) (IntKind.wrap IntKind.i64 (a3+(1:Int))) (y5) else (rec_qaj (TStmt.then_ y0) (IntKind.wrap IntKind.i64 (a0+(1:Int))) y1).bind fun y6=>(rec_qaj (TStmt.else_ y0) (IntKind.wrap IntKind.i64 (a0+(1:Int))) y6).bind fun y7=>rec (a0) (a1) (a2) (IntKind.wrap IntKind.i64 (a3+(1:Int))) (y7) else none else some (a4)
def qaj_i2 (rec_qaj:qaj_o):Nat→qaj_o2
 |0=>fun _ _ _ _ _=>none
 |n+1=>qaj_t2 rec_qaj (qaj_i2 rec_qaj n)
def qaj_l2 (rec_qaj:qaj_o):=sealF (qaj_i2 rec_qaj fuel)
def qaj_f (rec_qaj:qaj_o):qaj_o:=fun a0 a1 a2=>(qaj_l2 rec_qaj a1 a0 (List.length a0:Int) (0:Int) a2).bind fun y0=>some (y0)
def qaj_i:Nat→qaj_o
 |0=>fun _ _ _=>none
 |n+1=>qaj_f (qaj_i n)
def qaj:=sealF (qaj_i fuel)
abbrev qag_o2:=List TThread→Int→Int→Int→Option (Int)
def qag_t2 (rec:qag_o2):qag_o2:=fun a0 a1 a2 a3=>bif decide (a2<a1) then bif decide (0≤a2) then (a0[Int.toNat a2]?).bind fun y0=>(qaj (TThread.body y0) (1:Int) a3).bind fun y1=>rec (a0) (a1) (IntKind.wrap IntKind.i64 (a2+(1:Int))) (y1) else none else some (a3)
def qag_i2:Nat→qag_o2
 |0=>fun _ _ _ _=>none
 |n+1=>qag_t2 (qag_i2 n)
def qag_l2:=sealF (qag_i2 fuel)
def qag_f (a0:TProg) (a1:Int):Option (Int):=(qag_l2 (TProg.threads a0) (List.length (TProg.threads a0):Int) (0:Int) a1).bind fun y0=>some (y0)
def qag:=sealF (qag_f)
def qaY_f (a0:TProg):Option (Int):=(qag (TProg.mk (TProg.cells a0) (TProg.mutexes a0) (TProg.threads a0)) (0:Int)).bind fun y0=>some (y0)
def qaY:=sealF (qaY_f)
def qaW_f (a0:TStmt) (a1:Int) (a2:Int):Option (Int):=some (IntKind.wrap IntKind.i64 (a2+(1:Int)))
def qaW:=sealF (qaW_f)
def qaX_f (a0:TExpr) (a1:Int) (a2:Int):Option (Int):=some (IntKind.wrap IntKind.i64 (a2+(1:Int)))
def qaX:=sealF (qaX_f)
abbrev qae_o:=TExpr→Int→Int→Option (Int)
abbrev qae_o3:=Int→List TExpr→Int→Int→Int→Option (Int)
def qae_t3 (rec_qae:qae_o) (rec:qae_o3):qae_o3:=fun a0 a1 a2 a3 a4=>bif decide (a3<a2) then bif decide (0≤a3) then (a1[Int.toNat a3]?).bind fun y0=>(rec_qae (TExpr.mk (TExpr.kind y0) (TExpr.num y0) (TExpr.name y0) (TExpr.args y0)) (IntKind.wrap IntKind.i64 (a0+(1:Int))) a4).bind fun y1=>rec (a0) (a1) (a2) (IntKind.wrap IntKind.i64 (a3+(1:Int))) (y1) else none else some (a4)
def qae_i3 (rec_qae:qae_o):Nat→qae_o3
 |0=>fun _ _ _ _ _=>none
 |n+1=>qae_t3 rec_qae (qae_i3 rec_qae n)
def qae_l3 (rec_qae:qae_o):=sealF (qae_i3 rec_qae fuel)
def qae_f (rec_qae:qae_o):qae_o:=fun a0 a1 a2=>(qaX (TExpr.mk (TExpr.kind a0) (TExpr.num a0) (TExpr.name a0) (TExpr.args a0)) a1 a2).bind fun y0=>(qae_l3 rec_qae a1 (TExpr.args a0) (List.length (TExpr.args a0):Int) (0:Int) y0).bind fun y1=>some (y1)
def qae_i:Nat→qae_o
 |0=>fun _ _ _=>none
 |n+1=>qae_f (qae_i n)
def qae:=sealF (qae_i fuel)
abbrev qak_o:=List TStmt→Int→Int→Option (Int)
abbrev qak_o2:=Int→List TStmt→Int→Int→Int→Option (Int)
def qak_t2 (rec_qak:qak_o) (rec:qak_o2):qak_o2:=fun a0 a1 a2 a3 a4=>bif decide (a3<a2) then bif decide (0≤a3) then (a1[Int.toNat a3]?).bind fun y0=>(qaW (TStmt.mk (TStmt.kind y0) (TStmt.reg y0) (TStmt.name y0) (TExpr.mk (TExpr.kind (TStmt.expr y0)) (TExpr.num (TStmt.expr y0)) (TExpr.name (TStmt.expr y0)) (TExpr.args (TStmt.expr y0))) (TStmt.count y0) (TStmt.then_ y0) (TStmt.else_ y0)) a0 a4).bind fun y1=>Option.bind (α:=Bool) ( bif TExpr.kind (TStmt.expr y0) != 0 then some (true) else some (decide ((↑(List.length (TExpr.args (TStmt.expr y0))):Int)>0))) fun y2=>bif y2 then (qae (TExpr.mk (TExpr.kind (TStmt.expr y0)) (TExpr.num (TStmt.expr y0)) (TExpr.name (TStmt.expr y0)) (TExpr.args (TStmt.expr y0))) (1:Int) y1).bind fun y3=>(rec_qak (TStmt.then_ y0) (IntKind.wrap IntKind.i64 (a0+(1:Int))) y3).bind fun y4=>(rec_qak (TStmt.else_ y0) (IntKind.wrap IntKind.i64 (a0+(1:Int))) y4).bind fun y5=>rec (a0) (a1) (a2) (IntKind.wrap IntKind.i64 (a3+(1:Int))) (y5) else (rec_qak (TStmt.then_ y0) (IntKind.wrap IntKind.i64 (a0+(1:Int))) y1).bind fun y6=>(rec_qak (TStmt.else_ y0) (IntKind.wrap IntKind.i64 (a0+(1:Int))) y6).bind fun y7=>rec (a0) (a1) (a2) (IntKind.wrap IntKind.i64 (a3+(1:Int))) (y7) else none else some (a4)
def qak_i2 (rec_qak:qak_o):Nat→qak_o2
 |0=>fun _ _ _ _ _=>none
 |n+1=>qak_t2 rec_qak (qak_i2 rec_qak n)
def qak_l2 (rec_qak:qak_o):=sealF (qak_i2 rec_qak fuel)
def qak_f (rec_qak:qak_o):qak_o:=fun a0 a1 a2=>(qak_l2 rec_qak a1 a0 (List.length a0:Int) (0:Int) a2).bind fun y0=>some (y0)
def qak_i:Nat→qak_o
 |0=>fun _ _ _=>none
 |n+1=>qak_f (qak_i n)
def qak:=sealF (qak_i fuel)
abbrev qah_o2:=List TThread→Int→Int→Int→Option (Int)
def qah_t2 (rec:qah_o2):qah_o2:=fun a0 a1 a2 a3=>bif decide (a2<a1) then bif decide (0≤a2) then (a0[Int.toNat a2]?).bind fun y0=>(qak (TThread.body y0) (1:Int) a3).bind fun y1=>rec (a0) (a1) (IntKind.wrap IntKind.i64 (a2+(1:Int))) (y1) else none else some (a3)
def qah_i2:Nat→qah_o2
 |0=>fun _ _ _ _=>none
 |n+1=>qah_t2 (qah_i2 n)
def qah_l2:=sealF (qah_i2 fuel)
def qah_f (a0:TProg) (a1:Int):Option (Int):=(qah_l2 (TProg.threads a0) (List.length (TProg.threads a0):Int) (0:Int) a1).bind fun y0=>some (y0)
def qah:=sealF (qah_f)
def qaV_f (a0:TProg):Option (Int):=(qah (TProg.mk (TProg.cells a0) (TProg.mutexes a0) (TProg.threads a0)) (0:Int)).bind fun y0=>some (y0)
def qaV:=sealF (qaV_f)
def qa1_f (a0:TProg):Option (Int):=(qa3 (TProg.mk (TProg.cells a0) (TProg.mutexes a0) (TProg.threads a0))).bind fun y0=>bif !y0 then some ((30:Int)) else (qaY (TProg.mk (TProg.cells a0) (TProg.mutexes a0) (TProg.threads a0))).bind fun y1=>bif decide (y1>16) then some ((31:Int)) else (qaV (TProg.mk (TProg.cells a0) (TProg.mutexes a0) (TProg.threads a0))).bind fun y2=>bif decide (y2>500) then some ((32:Int)) else some ((0:Int))
def qa1:=sealF (qa1_f)
def qaS_f (a0:List (List UInt8)):Option ((List (List UInt8))):=bif List.isEmpty a0 then both ( some ([])) ( bif decide (((0:Nat)+List.length a0)*(16:Nat)≤(140737488355328:Nat)∧(0:Nat)+List.length a0≤(9223372036854775807:Nat)) then some ([]++a0) else none) else bif decide (((0:Nat)+List.length a0)*(16:Nat)≤(140737488355328:Nat)∧(0:Nat)+List.length a0≤(9223372036854775807:Nat)) then some ([]++a0) else none
def qaS:=sealF (qaS_f)
def qaR_f (a0:List (List UInt8)):Option ((List (List UInt8))):=bif decide ((List.length a0:Int)=(List.length a0:Int))&&decide ((List.length a0:Int)=(List.length a0:Int)) then some (a0) else none
def qaR:=sealF (qaR_f)
def qas_f (a0:List (List UInt8)) (a1:Int) (a2:Int):Option ((Unit)⊕(Refused)):=bif decide ((List.length a0:Int)>a1) then bif decide (0≤a1) then (a0[Int.toNat a1]?).bind fun y0=>some (.inr (Refused.mk a2 y0)) else none else some (.inl ())
def qas:=sealF (qas_f)
abbrev qar_o11:=Int→Int→Int→List (List UInt8)→Int→Int→List ((List UInt8)×(Thing))→List (List (List UInt8))→List (List UInt8)→Option ((Refused)⊕(Int×Int×(List ((List UInt8)×(Thing)))×(List (List (List UInt8)))×(List (List UInt8))))
def qar_t11 (rec:qar_o11):qar_o11:=fun a0 a1 a2 a3 a4 a5 a6 a7 a8=>bif decide (a5<a4) then bif decide (0≤a5) then (a3[Int.toNat a5]?).bind fun y0=>bif Option.isSome (mapAt a6 y0) then some (.inl (Refused.mk (63:Int) y0)) else rec (a0) (a1) (a2) (a3) (a4) (IntKind.wrap IntKind.i64 (a5+(1:Int))) (zaap y0 (Thing.mk (IntKind.wrap IntKind.i64 ((1:Int)+a0)) a5) a6) (a7) (a8) else none else some (.inr ((a1),(a2),(a6),(a7),(a8)))
def qar_i11:Nat→qar_o11
 |0=>fun _ _ _ _ _ _ _ _ _=>none
 |n+1=>qar_t11 (qar_i11 n)
def qar_l11:=sealF (qar_i11 fuel)
abbrev qar_o8:=Int→Int→List ((List UInt8)×(Thing))→List (List (List UInt8))→List (List UInt8)→Option ((Refused)⊕((List ((List UInt8)×(Thing)))×(List (List UInt8))))
def qar_t8 (rec:qar_o8):qar_o8:=fun a0 a1 a2 a3 a4=>bif decide (a1<a0) then bif decide (0≤a1)&&decide (a1<(List.length a3:Int)) then (a3[Int.toNat a1]?).bind fun y0=>(qar_l11 a1 a0 a1 y0 (List.length y0:Int) (0:Int) a2 a3 a4).bind fun y1=>(match y1 with|.inl y2=>some (.inl (y2))|.inr y2=>rec y2.1 (IntKind.wrap IntKind.i64 (y2.2.1+(1:Int))) y2.2.2.1 y2.2.2.2.1 y2.2.2.2.2) else none else some (.inr ((a2),(a4)))
def qar_i8:Nat→qar_o8
 |0=>fun _ _ _ _ _=>none
 |n+1=>qar_t8 (qar_i8 n)
def qar_l8:=sealF (qar_i8 fuel)
def qar_f (a0:Names) (a1:List ((List UInt8)×(Thing))) (a2:List (List UInt8)):Option (((List ((List UInt8)×(Thing)))×(List (List UInt8)))⊕(Refused)):=bif (List.length (Names.threads a0):Int)==0 then some (.inr (Refused.mk (60:Int) [])) else (qas (Names.threads a0) (8:Int) (60:Int)).bind fun y0=>(match y0 with|.inl y1=>(qas (Names.cells a0) (8:Int) (61:Int)).bind fun y2=>(match y2 with|.inl y3=>(qas (Names.mutexes a0) (8:Int) (62:Int)).bind fun y4=>(match y4 with|.inl y5=>(qar_l8 (List.length [Names.cells a0,Names.mutexes a0,Names.threads a0]:Int) (0:Int) a1 [Names.cells a0,Names.mutexes a0,Names.threads a0] a2).bind fun y6=>(match y6 with|.inl y7=>some (.inr (y7))|.inr y7=>some (.inl (y7.1,y7.2)))|.inr y5=>some (.inr (y5)))|.inr y3=>some (.inr (y3)))|.inr y1=>some (.inr (y1)))
def qar:=sealF (qar_f)
def qat_f (a0:List UInt8) (a1:List ((List UInt8)×(Thing))) (a2:List (List UInt8)):Option ((Int×(List ((List UInt8)×(Thing)))×(List (List UInt8)))⊕(Refused)):=bif Option.isSome (mapAt a1 a0) then some (.inr (Refused.mk (65:Int) a0)) else (qaU a2 a0).bind fun y0=>bif decide (y0<0) then bif (List.length a2:Int)==8 then some (.inr (Refused.mk (66:Int) a0)) else bif decide ((List.length a2+List.length [a0])*(16:Nat)≤(140737488355328:Nat)∧List.length a2+List.length [a0]≤(9223372036854775807:Nat)) then some (.inl (((List.length a2:Int)),(a1),(a2++[a0]))) else none else some (.inl ((y0),(a1),(a2)))
def qat:=sealF (qat_f)
def qav_f (a0:Int):Option (Int):=bif a0==2 then bif a0==2 then some ((1:Int)) else bif a0==5 then bif a0==5 then some ((2:Int)) else bif a0==7 then bif a0==7 then some ((3:Int)) else some ((0:Int)) else bif a0==8 then some ((3:Int)) else some ((0:Int)) else bif a0==6 then some ((2:Int)) else bif a0==7 then bif a0==7 then some ((3:Int)) else some ((0:Int)) else bif a0==8 then some ((3:Int)) else some ((0:Int)) else bif a0==3 then bif a0==3 then some ((1:Int)) else bif a0==5 then bif a0==5 then some ((2:Int)) else bif a0==7 then bif a0==7 then some ((3:Int)) else some ((0:Int)) else bif a0==8 then some ((3:Int)) else some ((0:Int)) else bif a0==6 then some ((2:Int)) else bif a0==7 then bif a0==7 then some ((3:Int)) else some ((0:Int)) else bif a0==8 then some ((3:Int)) else some ((0:Int)) else bif a0==4 then some ((1:Int)) else bif a0==5 then bif a0==5 then some ((2:Int)) else bif a0==7 then bif a0==7 then some ((3:Int)) else some ((0:Int)) else bif a0==8 then some ((3:Int)) else some ((0:Int)) else bif a0==6 then some ((2:Int)) else bif a0==7 then bif a0==7 then some ((3:Int)) else some ((0:Int)) else bif a0==8 then some ((3:Int)) else some ((0:Int))
def qav:=sealF (qav_f)
abbrev qaq_o:=TExpr→List ((List UInt8)×(Thing))→List (List UInt8)→Option ((Int×Int×(List UInt8)×(List ((List UInt8)×(Thing)))×(List TExpr)×(List (List UInt8)))⊕(Refused))
abbrev qaq_o5:=List TExpr→Int→Int→List ((List UInt8)×(Thing))→Int→Int→List UInt8→Int→Int→List UInt8→List (List UInt8)→List TExpr→Option ((Refused)⊕((List ((List UInt8)×(Thing)))×Int×Int×(List UInt8)×Int×Int×(List UInt8)×(List (List UInt8))×(List TExpr)))
def qaq_t5 (rec_qaq:qaq_o) (rec:qaq_o5):qaq_o5:=fun a0 a1 a2 a3 a4 a5 a6 a7 a8 a9 a10 a11=>bif decide (a2<a1) then bif decide (0≤a2) then (a0[Int.toNat a2]?).bind fun y0=>(rec_qaq (TExpr.mk (TExpr.kind y0) (TExpr.num y0) (TExpr.name y0) (TExpr.args y0)) a3 a10).bind fun y1=>(match y1 with|.inl y2=>bif decide ((List.length a11+List.length [TExpr.mk y2.1 y2.2.1 y2.2.2.1 y2.2.2.2.2.1])*(56:Nat)≤(140737488355328:Nat)∧List.length a11+List.length [TExpr.mk y2.1 y2.2.1 y2.2.2.1 y2.2.2.2.2.1]≤(9223372036854775807:Nat)) then rec (a0) (a1) (IntKind.wrap IntKind.i64 (a2+(1:Int))) y2.2.2.2.1 (a4) (a5) (a6) (a7) (a8) (a9) y2.2.2.2.2.2 (a11++[TExpr.mk y2.1 y2.2.1 y2.2.2.1 y2.2.2.2.2.1]) else none|.inr y2=>some (.inl (y2))) else none else some (.inr ((a3),(a4),(a5),(a6),(a7),(a8),(a9),(a10),(a11)))
def qaq_i5 (rec_qaq:qaq_o):Nat→qaq_o5
 |0=>fun _ _ _ _ _ _ _ _ _ _ _ _=>none
 |n+1=>qaq_t5 rec_qaq (qaq_i5 rec_qaq n)
def qaq_l5 (rec_qaq:qaq_o):=sealF (qaq_i5 rec_qaq fuel)
def qaq_f (rec_qaq:qaq_o):qaq_o:=fun a0 a1 a2=>bif TExpr.kind a0==2 then (qat (TExpr.name a0) a1 a2).bind fun y0=>(match y0 with|.inl y1=>(qaq_l5 rec_qaq (TExpr.args a0) (List.length (TExpr.args a0):Int) (0:Int) y1.2.1 (0:Int) (0:Int) [] (TExpr.kind a0) y1.1 [] y1.2.2 []).bind fun y2=>(match y2 with|.inl y3=>some (.inr (y3))|.inr y3=>some (.inl (y3.2.2.2.2.1,y3.2.2.2.2.2.1,y3.2.2.2.2.2.2.1,y3.1,y3.2.2.2.2.2.2.2.2,y3.2.2.2.2.2.2.2.1)))|.inr y1=>some (.inr (y1))) else (qaq_l5 rec_qaq (TExpr.args a0) (List.length (TExpr.args a0):Int) (0:Int) a1 (0:Int) (0:Int) [] (TExpr.kind a0) (TExpr.num a0) [] a2 []).bind fun y4=>(match y4 with|.inl y5=>some (.inr (y5))|.inr y5=>some (.inl (y5.2.2.2.2.1,y5.2.2.2.2.2.1,y5.2.2.2.2.2.2.1,y5.1,y5.2.2.2.2.2.2.2.2,y5.2.2.2.2.2.2.2.1)))
def qaq_i:Nat→qaq_o
 |0=>fun _ _ _=>none
 |n+1=>qaq_f (qaq_i n)
def qaq:=sealF (qaq_i fuel)
abbrev qap_o:=List TStmt→List ((List UInt8)×(Thing))→List (List UInt8)→Option (((List ((List UInt8)×(Thing)))×(List TAct)×(List (List UInt8)))⊕(Refused))
abbrev qap_o3:=List TStmt→Int→Int→List ((List UInt8)×(Thing))→List (List UInt8)→List TAct→Option ((Refused)⊕((List ((List UInt8)×(Thing)))×(List TAct)×(List (List UInt8))))
def qap_t3 (rec_qap:qap_o) (rec:qap_o3):qap_o3:=fun a0 a1 a2 a3 a4 a5=>bif decide (a2<a1) then bif decide (0≤a2) then (a0[Int.toNat a2]?).bind fun y0=>bif !TStmt.reg y0==[] then (qat (TStmt.reg y0) a3 a4).bind fun y1=>(match y1 with|.inl y2=>(qav (TStmt.kind y0)).bind fun y3=>bif y3 != 0 then bif !Option.isSome (mapAt y2.2.1 (TStmt.name y0)) then some (.inl (Refused.mk (64:Int) (TStmt.name y0))) else bif Thing.kind (Option.getD (mapAt y2.2.1 (TStmt.name y0)) (Thing.mk (0:Int) (0:Int))) != y3 then some (.inl (Refused.mk (65:Int) (TStmt.name y0))) else bif TExpr.kind (TStmt.expr y0) != 0 then (qaq (TExpr.mk (TExpr.kind (TStmt.expr y0)) (TExpr.num (TStmt.expr y0)) (TExpr.name (TStmt.expr y0)) (TExpr.args (TStmt.expr y0))) y2.2.1 y2.2.2).bind fun y4=>(match y4 with|.inl y5=>(rec_qap (TStmt.then_ y0) y5.2.2.2.1 y5.2.2.2.2.2).bind fun y6=>(match y6 with|.inl y7=>(rec_qap (TStmt.else_ y0) y7.1 y7.2.2).bind fun y8=>(match y8 with|.inl y9=>bif decide ((List.length a5+List.length [TAct.mk (TStmt.kind y0) y2.1 (Thing.number (Option.getD (mapAt y2.2.1 (TStmt.name y0)) (Thing.mk (0:Int) (0:Int)))) (TExpr.mk y5.1 y5.2.1 y5.2.2.1 y5.2.2.2.2.1) (TStmt.count y0) y7.2.1 y9.2.1])*(136:Nat)≤(140737488355328:Nat)∧List.length a5+List.length [TAct.mk (TStmt.kind y0) y2.1 (Thing.number (Option.getD (mapAt y2.2.1 (TStmt.name y0)) (Thing.mk (0:Int) (0:Int)))) (TExpr.mk y5.1 y5.2.1 y5.2.2.1 y5.2.2.2.2.1) (TStmt.count y0) y7.2.1 y9.2.1]≤(9223372036854775807:Nat)) then rec (a0) (a1) (IntKind.wrap IntKind.i64 (a2+(1:Int))) y9.1 y9.2.2 (a5++[TAct.mk (TStmt.kind y0) y2.1 (Thing.number (Option.getD (mapAt y2.2.1 (TStmt.name y0)) (Thing.mk (0:Int) (0:Int)))) (TExpr.mk y5.1 y5.2.1 y5.2.2.1 y5.2.2.2.2.1) (TStmt.count y0) y7.2.1 y9.2.1]) else none|.inr y9=>some (.inl (y9)))|.inr y7=>some (.inl (y7)))|.inr y5=>some (.inl (y5))) else (rec_qap (TStmt.then_ y0) y2.2.1 y2.2.2).bind fun y10=>(match y10 with|.inl y11=>(rec_qap (TStmt.else_ y0) y11.1 y11.2.2).bind fun y12=>(match y12 with|.inl y13=>bif decide ((List.length a5+List.length [TAct.mk (TStmt.kind y0) y2.1 (Thing.number (Option.getD (mapAt y2.2.1 (TStmt.name y0)) (Thing.mk (0:Int) (0:Int)))) (TExpr.mk (0:Int) (0:Int) [] []) (TStmt.count y0) y11.2.1 y13.2.1])*(136:Nat)≤(140737488355328:Nat)∧List.length a5+List.length [TAct.mk (TStmt.kind y0) y2.1 (Thing.number (Option.getD (mapAt y2.2.1 (TStmt.name y0)) (Thing.mk (0:Int) (0:Int)))) (TExpr.mk (0:Int) (0:Int) [] []) (TStmt.count y0) y11.2.1 y13.2.1]≤(9223372036854775807:Nat)) then rec (a0) (a1) (IntKind.wrap IntKind.i64 (a2+(1:Int))) y13.1 y13.2.2 (a5++[TAct.mk (TStmt.kind y0) y2.1 (Thing.number (Option.getD (mapAt y2.2.1 (TStmt.name y0)) (Thing.mk (0:Int) (0:Int)))) (TExpr.mk (0:Int) (0:Int) [] []) (TStmt.count y0) y11.2.1 y13.2.1]) else none|.inr y13=>some (.inl (y13)))|.inr y11=>some (.inl (y11))) else bif TExpr.kind (TStmt.expr y0) != 0 then (qaq (TExpr.mk (TExpr.kind (TStmt.expr y0)) (TExpr.num (TStmt.expr y0)) (TExpr.name (TStmt.expr y0)) (TExpr.args (TStmt.expr y0))) y2.2.1 y2.2.2).bind fun y14=>(match y14 with|.inl y15=>(rec_qap (TStmt.then_ y0) y15.2.2.2.1 y15.2.2.2.2.2).bind fun y16=>(match y16 with|.inl y17=>(rec_qap (TStmt.else_ y0) y17.1 y17.2.2).bind fun y18=>(match y18 with|.inl y19=>bif decide ((List.length a5+List.length [TAct.mk (TStmt.kind y0) y2.1 (0:Int) (TExpr.mk y15.1 y15.2.1 y15.2.2.1 y15.2.2.2.2.1) (TStmt.count y0) y17.2.1 y19.2.1])*(136:Nat)≤(140737488355328:Nat)∧List.length a5+List.length [TAct.mk (TStmt.kind y0) y2.1 (0:Int) (TExpr.mk y15.1 y15.2.1 y15.2.2.1 y15.2.2.2.2.1) (TStmt.count y0) y17.2.1 y19.2.1]≤(9223372036854775807:Nat)) then rec (a0) (a1) (IntKind.wrap IntKind.i64 (a2+(1:Int))) y19.1 y19.2.2 (a5++[TAct.mk (TStmt.kind y0) y2.1 (0:Int) (TExpr.mk y15.1 y15.2.1 y15.2.2.1 y15.2.2.2.2.1) (TStmt.count y0) y17.2.1 y19.2.1]) else none|.inr y19=>some (.inl (y19)))|.inr y17=>some (.inl (y17)))|.inr y15=>some (.inl (y15))) else (rec_qap (TStmt.then_ y0) y2.2.1 y2.2.2).bind fun y20=>(match y20 with|.inl y21=>(rec_qap (TStmt.else_ y0) y21.1 y21.2.2).bind fun y22=>(match y22 with|.inl y23=>bif decide ((List.length a5+List.length [TAct.mk (TStmt.kind y0) y2.1 (0:Int) (TExpr.mk (0:Int) (0:Int) [] []) (TStmt.count y0) y21.2.1 y23.2.1])*(136:Nat)≤(140737488355328:Nat)∧List.length a5+List.length [TAct.mk (TStmt.kind y0) y2.1 (0:Int) (TExpr.mk (0:Int) (0:Int) [] []) (TStmt.count y0) y21.2.1 y23.2.1]≤(9223372036854775807:Nat)) then rec (a0) (a1) (IntKind.wrap IntKind.i64 (a2+(1:Int))) y23.1 y23.2.2 (a5++[TAct.mk (TStmt.kind y0) y2.1 (0:Int) (TExpr.mk (0:Int) (0:Int) [] []) (TStmt.count y0) y21.2.1 y23.2.1]) else none|.inr y23=>some (.inl (y23)))|.inr y21=>some (.inl (y21)))|.inr y2=>some (.inl (y2))) else (qav (TStmt.kind y0)).bind fun y24=>bif y24 != 0 then bif !Option.isSome (mapAt a3 (TStmt.name y0)) then some (.inl (Refused.mk (64:Int) (TStmt.name y0))) else bif Thing.kind (Option.getD (mapAt a3 (TStmt.name y0)) (Thing.mk (0:Int) (0:Int))) != y24 then some (.inl (Refused.mk (65:Int) (TStmt.name y0))) else bif TExpr.kind (TStmt.expr y0) != 0 then (qaq (TExpr.mk (TExpr.kind (TStmt.expr y0)) (TExpr.num (TStmt.expr y0)) (TExpr.name (TStmt.expr y0)) (TExpr.args (TStmt.expr y0))) a3 a4).bind fun y25=>(match y25 with|.inl y26=>(rec_qap (TStmt.then_ y0) y26.2.2.2.1 y26.2.2.2.2.2).bind fun y27=>(match y27 with|.inl y28=>(rec_qap (TStmt.else_ y0) y28.1 y28.2.2).bind fun y29=>(match y29 with|.inl y30=>bif decide ((List.length a5+List.length [TAct.mk (TStmt.kind y0) (0:Int) (Thing.number (Option.getD (mapAt a3 (TStmt.name y0)) (Thing.mk (0:Int) (0:Int)))) (TExpr.mk y26.1 y26.2.1 y26.2.2.1 y26.2.2.2.2.1) (TStmt.count y0) y28.2.1 y30.2.1])*(136:Nat)≤(140737488355328:Nat)∧List.length a5+List.length [TAct.mk (TStmt.kind y0) (0:Int) (Thing.number (Option.getD (mapAt a3 (TStmt.name y0)) (Thing.mk (0:Int) (0:Int)))) (TExpr.mk y26.1 y26.2.1 y26.2.2.1 y26.2.2.2.2.1) (TStmt.count y0) y28.2.1 y30.2.1]≤(9223372036854775807:Nat)) then rec (a0) (a1) (IntKind.wrap IntKind.i64 (a2+(1:Int))) y30.1 y30.2.2 (a5++[TAct.mk (TStmt.kind y0) (0:Int) (Thing.number (Option.getD (mapAt a3 (TStmt.name y0)) (Thing.mk (0:Int) (0:Int)))) (TExpr.mk y26.1 y26.2.1 y26.2.2.1 y26.2.2.2.2.1) (TStmt.count y0) y28.2.1 y30.2.1]) else none|.inr y30=>some (.inl (y30)))|.inr y28=>some (.inl (y28)))|.inr y26=>some (.inl (y26))) else (rec_qap (TStmt.then_ y0) a3 a4).bind fun y31=>(match y31 with|.inl y32=>(rec_qap (TStmt.else_ y0) y32.1 y32.2.2).bind fun y33=>(match y33 with|.inl y34=>bif decide ((List.length a5+List.length [TAct.mk (TStmt.kind y0) (0:Int) (Thing.number (Option.getD (mapAt a3 (TStmt.name y0)) (Thing.mk (0:Int) (0:Int)))) (TExpr.mk (0:Int) (0:Int) [] []) (TStmt.count y0) y32.2.1 y34.2.1])*(136:Nat)≤(140737488355328:Nat)∧List.length a5+List.length [TAct.mk (TStmt.kind y0) (0:Int) (Thing.number (Option.getD (mapAt a3 (TStmt.name y0)) (Thing.mk (0:Int) (0:Int)))) (TExpr.mk (0:Int) (0:Int) [] []) (TStmt.count y0) y32.2.1 y34.2.1]≤(9223372036854775807:Nat)) then rec (a0) (a1) (IntKind.wrap IntKind.i64 (a2+(1:Int))) y34.1 y34.2.2 (a5++[TAct.mk (TStmt.kind y0) (0:Int) (Thing.number (Option.getD (mapAt a3 (TStmt.name y0)) (Thing.mk (0:Int) (0:Int)))) (TExpr.mk (0:Int) (0:Int) [] []) (TStmt.count y0) y32.2.1 y34.2.1]) else none|.inr y34=>some (.inl (y34)))|.inr y32=>some (.inl (y32))) else bif TExpr.kind (TStmt.expr y0) != 0 then (qaq (TExpr.mk (TExpr.kind (TStmt.expr y0)) (TExpr.num (TStmt.expr y0)) (TExpr.name (TStmt.expr y0)) (TExpr.args (TStmt.expr y0))) a3 a4).bind fun y35=>(match y35 with|.inl y36=>(rec_qap (TStmt.then_ y0) y36.2.2.2.1 y36.2.2.2.2.2).bind fun y37=>(match y37 with|.inl y38=>(rec_qap (TStmt.else_ y0) y38.1 y38.2.2).bind fun y39=>(match y39 with|.inl y40=>bif decide ((List.length a5+List.length [TAct.mk (TStmt.kind y0) (0:Int) (0:Int) (TExpr.mk y36.1 y36.2.1 y36.2.2.1 y36.2.2.2.2.1) (TStmt.count y0) y38.2.1 y40.2.1])*(136:Nat)≤(140737488355328:Nat)∧List.length a5+List.length [TAct.mk (TStmt.kind y0) (0:Int) (0:Int) (TExpr.mk y36.1 y36.2.1 y36.2.2.1 y36.2.2.2.2.1) (TStmt.count y0) y38.2.1 y40.2.1]≤(9223372036854775807:Nat)) then rec (a0) (a1) (IntKind.wrap IntKind.i64 (a2+(1:Int))) y40.1 y40.2.2 (a5++[TAct.mk (TStmt.kind y0) (0:Int) (0:Int) (TExpr.mk y36.1 y36.2.1 y36.2.2.1 y36.2.2.2.2.1) (TStmt.count y0) y38.2.1 y40.2.1]) else none|.inr y40=>some (.inl (y40)))|.inr y38=>some (.inl (y38)))|.inr y36=>some (.inl (y36))) else (rec_qap (TStmt.then_ y0) a3 a4).bind fun y41=>(match y41 with|.inl y42=>(rec_qap (TStmt.else_ y0) y42.1 y42.2.2).bind fun y43=>(match y43 with|.inl y44=>bif decide ((List.length a5+List.length [TAct.mk (TStmt.kind y0) (0:Int) (0:Int) (TExpr.mk (0:Int) (0:Int) [] []) (TStmt.count y0) y42.2.1 y44.2.1])*(136:Nat)≤(140737488355328:Nat)∧List.length a5+List.length [TAct.mk (TStmt.kind y0) (0:Int) (0:Int) (TExpr.mk (0:Int) (0:Int) [] []) (TStmt.count y0) y42.2.1 y44.2.1]≤(9223372036854775807:Nat)) then rec (a0) (a1) (IntKind.wrap IntKind.i64 (a2+(1:Int))) y44.1 y44.2.2 (a5++[TAct.mk (TStmt.kind y0) (0:Int) (0:Int) (TExpr.mk (0:Int) (0:Int) [] []) (TStmt.count y0) y42.2.1 y44.2.1]) else none|.inr y44=>some (.inl (y44)))|.inr y42=>some (.inl (y42))) else none else some (.inr ((a3),(a5),(a4)))
def qap_i3 (rec_qap:qap_o):Nat→qap_o3
 |0=>fun _ _ _ _ _ _=>none
 |n+1=>qap_t3 rec_qap (qap_i3 rec_qap n)
def qap_l3 (rec_qap:qap_o):=sealF (qap_i3 rec_qap fuel)
def qap_f (rec_qap:qap_o):qap_o:=fun a0 a1 a2=>(qap_l3 rec_qap a0 (List.length a0:Int) (0:Int) a1 a2 []).bind fun y0=>(match y0 with|.inl y1=>some (.inr (y1))|.inr y1=>some (.inl (y1.1,y1.2.1,y1.2.2)))
def qap_i:Nat→qap_o
 |0=>fun _ _ _=>none
 |n+1=>qap_f (qap_i n)
def qap:=sealF (qap_i fuel)
abbrev qam_o6:=List TCell→Int→Int→List TCell→List (List UInt8)→List TThread→Int→Int→List UInt8→List Int→List (List UInt8)→Option ((List TCell)×(List (List UInt8))×(List TThread)×Int×Int×(List UInt8)×(List Int)×(List (List UInt8)))
def qam_t6 (rec:qam_o6):qam_o6:=fun a0 a1 a2 a3 a4 a5 a6 a7 a8 a9 a10=>bif decide (a2<a1) then bif decide (0≤a2) then (a0[Int.toNat a2]?).bind fun y0=>bif decide ((List.length a9+List.length [TCell.init y0])*(8:Nat)≤(140737488355328:Nat)∧List.length a9+List.length [TCell.init y0]≤(9223372036854775807:Nat)) then bif decide ((List.length a10+List.length [TCell.name y0])*(16:Nat)≤(140737488355328:Nat)∧List.length a10+List.length [TCell.name y0]≤(9223372036854775807:Nat)) then rec (a0) (a1) (IntKind.wrap IntKind.i64 (a2+(1:Int))) (a3) (a4) (a5) (a6) (a7) (a8) (a9++[TCell.init y0]) (a10++[TCell.name y0]) else none else none else none else some ((a3),(a4),(a5),(a6),(a7),(a8),(a9),(a10))
def qam_i6:Nat→qam_o6
 |0=>fun _ _ _ _ _ _ _ _ _ _ _=>none
 |n+1=>qam_t6 (qam_i6 n)
def qam_l6:=sealF (qam_i6 fuel)
abbrev qam_o14:=List TThread→Int→Int→List TCell→List (List UInt8)→List TThread→Int→Int→List UInt8→List Int→List (List UInt8)→List (List UInt8)→List (List UInt8)→Option ((List TCell)×(List (List UInt8))×(List TThread)×Int×Int×(List UInt8)×(List Int)×(List (List UInt8))×(List (List UInt8))×(List (List UInt8)))
def qam_t14 (rec:qam_o14):qam_o14:=fun a0 a1 a2 a3 a4 a5 a6 a7 a8 a9 a10 a11 a12=>bif decide (a2<a1) then bif decide (0≤a2) then (a0[Int.toNat a2]?).bind fun y0=>bif decide ((List.length a12+List.length [TThread.name y0])*(16:Nat)≤(140737488355328:Nat)∧List.length a12+List.length [TThread.name y0]≤(9223372036854775807:Nat)) then rec (a0) (a1) (IntKind.wrap IntKind.i64 (a2+(1:Int))) (a3) (a4) (a5) (a6) (a7) (a8) (a9) (a10) (a11) (a12++[TThread.name y0]) else none else none else some ((a3),(a4),(a5),(a6),(a7),(a8),(a9),(a10),(a11),(a12))
def qam_i14:Nat→qam_o14
 |0=>fun _ _ _ _ _ _ _ _ _ _ _ _ _=>none
 |n+1=>qam_t14 (qam_i14 n)
def qam_l14:=sealF (qam_i14 fuel)
abbrev qam_o21:=List TThread→Int→Int→Int→List (List UInt8)→List (List UInt8)→List (List UInt8)→Int→List UInt8→List ((List UInt8)×(Thing))→List Int→List TBody→List (List (List UInt8))→Option ((Refused×Int×(List (List UInt8))×(List (List UInt8))×(List (List UInt8))×Int×(List UInt8)×(List Int)×(List TBody)×(List (List (List UInt8))))⊕(Int×(List (List UInt8))×(List (List UInt8))×(List (List UInt8))×Int×(List UInt8)×(List Int)×(List TBody)×(List (List (List UInt8)))))
def qam_t21 (rec:qam_o21):qam_o21:=fun a0 a1 a2 a3 a4 a5 a6 a7 a8 a9 a10 a11 a12=>bif decide (a2<a1) then bif decide (0≤a2) then (a0[Int.toNat a2]?).bind fun y0=>(qap (TThread.body y0) a9 []).bind fun y1=>(match y1 with|.inl y2=>bif decide ((List.length a11+List.length [TBody.mk (List.length y2.2.2:Int) y2.2.1])*(32:Nat)≤(140737488355328:Nat)∧List.length a11+List.length [TBody.mk (List.length y2.2.2:Int) y2.2.1]≤(9223372036854775807:Nat)) then (qaR y2.2.2).bind fun y3=>bif decide ((List.length a12+List.length [y3])*(24:Nat)≤(140737488355328:Nat)∧List.length a12+List.length [y3]≤(9223372036854775807:Nat)) then rec (a0) (a1) (IntKind.wrap IntKind.i64 (a2+(1:Int))) (a3) (a4) (a5) (a6) (a7) (a8) y2.1 (a10) (a11++[TBody.mk (List.length y2.2.2:Int) y2.2.1]) (a12++[y3]) else none else none|.inr y2=>some (.inl ((y2),(a3),(a4),(a5),(a6),(a7),(a8),(a10),(a11),(a12)))) else none else some (.inr ((a3),(a4),(a5),(a6),(a7),(a8),(a10),(a11),(a12)))
def qam_i21:Nat→qam_o21
 |0=>fun _ _ _ _ _ _ _ _ _ _ _ _ _=>none
 |n+1=>qam_t21 (qam_i21 n)
def qam_l21:=sealF (qam_i21 fuel)
def qam_f (a0:TProg):Option (TUnit×Names×Int×(List UInt8)):=(qa1 (TProg.mk (TProg.cells a0) (TProg.mutexes a0) (TProg.threads a0))).bind fun y0=>bif y0 != 0 then some ((TUnit.mk [] (0:Int) []),(Names.mk [] [] [] []),(y0),([])) else (qam_l6 (TProg.cells a0) (List.length (TProg.cells a0):Int) (0:Int) (TProg.cells a0) (TProg.mutexes a0) (TProg.threads a0) (0:Int) (0:Int) [] [] []).bind fun y1=>(qaS y1.2.1).bind fun y2=>(qaR y2).bind fun y3=>(qam_l14 y1.2.2.1 (List.length y1.2.2.1:Int) (0:Int) y1.1 y1.2.1 y1.2.2.1 (List.length y1.2.1:Int) y1.2.2.2.2.1 y1.2.2.2.2.2.1 y1.2.2.2.2.2.2.1 y1.2.2.2.2.2.2.2 y3 []).bind fun y4=>(qar (Names.mk y4.2.2.2.2.2.2.2.1 y4.2.2.2.2.2.2.2.2.1 y4.2.2.2.2.2.2.2.2.2 []) [] []).bind fun y5=>(match y5 with|.inl y6=>(qam_l21 y4.2.2.1 (List.length y4.2.2.1:Int) (0:Int) y4.2.2.2.1 y4.2.2.2.2.2.2.2.1 y4.2.2.2.2.2.2.2.2.1 y4.2.2.2.2.2.2.2.2.2 y4.2.2.2.2.1 y4.2.2.2.2.2.1 y6.1 y4.2.2.2.2.2.2.1 [] []).bind fun y7=>(match y7 with|.inl y8=>some ((TUnit.mk [] (0:Int) []),(Names.mk [] [] [] []),(Refused.e y8.1),(Refused.name y8.1))|.inr y8=>some ((TUnit.mk y8.2.2.2.2.2.2.1 y8.1 y8.2.2.2.2.2.2.2.1),(Names.mk y8.2.1 y8.2.2.1 y8.2.2.2.1 y8.2.2.2.2.2.2.2.2),((0:Int)),([])))|.inr y6=>some ((TUnit.mk [] (0:Int) []),(Names.mk [] [] [] []),(Refused.e y6),(Refused.name y6)))
def qam:=sealF (qam_f)
abbrev qax_o3:=Int→Int→List (List UInt8)→Option ((List (List UInt8)))
def qax_t3 (rec:qax_o3):qax_o3:=fun a0 a1 a2=>bif decide (a1<a0) then bif decide ((List.length a2+(1:Nat))*(16:Nat)≤(140737488355328:Nat)∧List.length a2+(1:Nat)≤(9223372036854775807:Nat)) then rec (a0) (IntKind.wrap IntKind.i64 (a1+(1:Int))) (a2++[[(120:UInt8)]]) else none else some (a2)
def qax_i3:Nat→qax_o3
 |0=>fun _ _ _=>none
 |n+1=>qax_t3 (qax_i3 n)
def qax_l3:=sealF (qax_i3 fuel)
def qax_f (a0:Int):Option ((List (List UInt8))):=(qax_l3 a0 (0:Int) []).bind fun y0=>some (y0)
def qax:=sealF (qax_f)
def qao_f (a0:List (List UInt8)) (a1:Int):Option ((List UInt8)):=Option.bind (α:=Bool) ( bif decide (a1<0) then some (true) else some (decide (a1≥(List.length a0:Int)))) fun y0=>bif y0 then some ([]) else bif decide (0≤a1) then (a0[Int.toNat a1]?).bind fun y1=>some (y1) else none
def qao:=sealF (qao_f)
abbrev qaa_o:=Namer→TExpr→Option (Int×Int×(List UInt8)×(List TExpr))
abbrev qaa_o8:=List TExpr→Int→Int→List (List UInt8)→List (List UInt8)→List (List UInt8)→List (List UInt8)→Int→Int→List UInt8→Int→Int→List UInt8→List TExpr→Option (Int×Int×(List UInt8)×Int×Int×(List UInt8)×(List TExpr))
def qaa_t8 (rec_qaa:qaa_o) (rec:qaa_o8):qaa_o8:=fun a0 a1 a2 a3 a4 a5 a6 a7 a8 a9 a10 a11 a12 a13=>bif decide (a2<a1) then bif decide (0≤a2) then (a0[Int.toNat a2]?).bind fun y0=>(rec_qaa (Namer.mk a3 a4 a5 a6) (TExpr.mk (TExpr.kind y0) (TExpr.num y0) (TExpr.name y0) (TExpr.args y0))).bind fun y1=>bif decide ((List.length a13+List.length [TExpr.mk y1.1 y1.2.1 y1.2.2.1 y1.2.2.2])*(56:Nat)≤(140737488355328:Nat)∧List.length a13+List.length [TExpr.mk y1.1 y1.2.1 y1.2.2.1 y1.2.2.2]≤(9223372036854775807:Nat)) then rec (a0) (a1) (IntKind.wrap IntKind.i64 (a2+(1:Int))) (a3) (a4) (a5) (a6) (a7) (a8) (a9) (a10) (a11) (a12) (a13++[TExpr.mk y1.1 y1.2.1 y1.2.2.1 y1.2.2.2]) else none else none else some ((a7),(a8),(a9),(a10),(a11),(a12),(a13))
def qaa_i8 (rec_qaa:qaa_o):Nat→qaa_o8
 |0=>fun _ _ _ _ _ _ _ _ _ _ _ _ _ _=>none
 |n+1=>qaa_t8 rec_qaa (qaa_i8 rec_qaa n)
def qaa_l8 (rec_qaa:qaa_o):=sealF (qaa_i8 rec_qaa fuel)
def qaa_f (rec_qaa:qaa_o):qaa_o:=fun a0 a1=>bif TExpr.kind a1==2 then bif TExpr.name a1==[] then (qao (Namer.regs a0) (TExpr.num a1)).bind fun y0=>(qaa_l8 rec_qaa (TExpr.args a1) (List.length (TExpr.args a1):Int) (0:Int) (Namer.cells a0) (Namer.mutexes a0) (Namer.threads a0) (Namer.regs a0) (0:Int) (0:Int) [] (TExpr.kind a1) (0:Int) y0 []).bind fun y1=>some (y1.2.2.2.1,y1.2.2.2.2.1,y1.2.2.2.2.2.1,y1.2.2.2.2.2.2) else (qaa_l8 rec_qaa (TExpr.args a1) (List.length (TExpr.args a1):Int) (0:Int) (Namer.cells a0) (Namer.mutexes a0) (Namer.threads a0) (Namer.regs a0) (0:Int) (0:Int) [] (TExpr.kind a1) (0:Int) [] []).bind fun y2=>some (y2.2.2.2.1,y2.2.2.2.2.1,y2.2.2.2.2.2.1,y2.2.2.2.2.2.2) else (qaa_l8 rec_qaa (TExpr.args a1) (List.length (TExpr.args a1):Int) (0:Int) (Namer.cells a0) (Namer.mutexes a0) (Namer.threads a0) (Namer.regs a0) (0:Int) (0:Int) [] (TExpr.kind a1) (TExpr.num a1) (TExpr.name a1) []).bind fun y3=>some (y3.2.2.2.1,y3.2.2.2.2.1,y3.2.2.2.2.2.1,y3.2.2.2.2.2.2)
def qaa_i:Nat→qaa_o
 |0=>fun _ _=>none
 |n+1=>qaa_f (qaa_i n)
def qaa:=sealF (qaa_i fuel)
abbrev qab_o:=Namer→List TAct→Option ((List TStmt))
def qau_f (rec_qab:qab_o) (a0:Int):Option (Bool):=Option.bind (α:=Bool) ( bif a0==1 then some (true) else some (a0==2)) fun y0=>Option.bind (α:=Bool) ( bif y0 then some (true) else some (a0==4)) fun y1=>some (y1)
def qau (rec_qab:qab_o):=sealF (qau_f rec_qab)
abbrev qab_o3:=List TAct→Int→Int→List (List UInt8)→List (List UInt8)→List (List UInt8)→List (List UInt8)→List TStmt→Option ((List TStmt))
def qab_t3 (rec_qab:qab_o) (rec:qab_o3):qab_o3:=fun a0 a1 a2 a3 a4 a5 a6 a7=>bif decide (a2<a1) then bif decide (0≤a2) then (a0[Int.toNat a2]?).bind fun y0=>(qaa (Namer.mk a3 a4 a5 a6) (TExpr.mk (TExpr.kind (TAct.expr y0)) (TExpr.num (TAct.expr y0)) (TExpr.name (TAct.expr y0)) (TExpr.args (TAct.expr y0)))).bind fun y1=>(rec_qab (Namer.mk a3 a4 a5 a6) (TAct.then_ y0)).bind fun y2=>(rec_qab (Namer.mk a3 a4 a5 a6) (TAct.else_ y0)).bind fun y3=>(qau rec_qab (TAct.kind y0)).bind fun y4=>bif y4 then (qao a6 (TAct.reg y0)).bind fun y5=>(qav (TAct.kind y0)).bind fun y6=>bif y6==1 then (qao a3 (TAct.obj y0)).bind fun y7=>bif decide ((List.length a7+List.length [TStmt.mk (TAct.kind y0) y5 y7 (TExpr.mk y1.1 y1.2.1 y1.2.2.1 y1.2.2.2) (TAct.count y0) y2 y3])*(152:Nat)≤(140737488355328:Nat)∧List.length a7+List.length [TStmt.mk (TAct.kind y0) y5 y7 (TExpr.mk y1.1 y1.2.1 y1.2.2.1 y1.2.2.2) (TAct.count y0) y2 y3]≤(9223372036854775807:Nat)) then rec (a0) (a1) (IntKind.wrap IntKind.i64 (a2+(1:Int))) (a3) (a4) (a5) (a6) (a7++[TStmt.mk (TAct.kind y0) y5 y7 (TExpr.mk y1.1 y1.2.1 y1.2.2.1 y1.2.2.2) (TAct.count y0) y2 y3]) else none else bif y6==2 then (qao a4 (TAct.obj y0)).bind fun y8=>bif decide ((List.length a7+List.length [TStmt.mk (TAct.kind y0) y5 y8 (TExpr.mk y1.1 y1.2.1 y1.2.2.1 y1.2.2.2) (TAct.count y0) y2 y3])*(152:Nat)≤(140737488355328:Nat)∧List.length a7+List.length [TStmt.mk (TAct.kind y0) y5 y8 (TExpr.mk y1.1 y1.2.1 y1.2.2.1 y1.2.2.2) (TAct.count y0) y2 y3]≤(9223372036854775807:Nat)) then rec (a0) (a1) (IntKind.wrap IntKind.i64 (a2+(1:Int))) (a3) (a4) (a5) (a6) (a7++[TStmt.mk (TAct.kind y0) y5 y8 (TExpr.mk y1.1 y1.2.1 y1.2.2.1 y1.2.2.2) (TAct.count y0) y2 y3]) else none else bif y6==3 then (qao a5 (TAct.obj y0)).bind fun y9=>bif decide ((List.length a7+List.length [TStmt.mk (TAct.kind y0) y5 y9 (TExpr.mk y1.1 y1.2.1 y1.2.2.1 y1.2.2.2) (TAct.count y0) y2 y3])*(152:Nat)≤(140737488355328:Nat)∧List.length a7+List.length [TStmt.mk (TAct.kind y0) y5 y9 (TExpr.mk y1.1 y1.2.1 y1.2.2.1 y1.2.2.2) (TAct.count y0) y2 y3]≤(9223372036854775807:Nat)) then rec (a0) (a1) (IntKind.wrap IntKind.i64 (a2+(1:Int))) (a3) (a4) (a5) (a6) (a7++[TStmt.mk (TAct.kind y0) y5 y9 (TExpr.mk y1.1 y1.2.1 y1.2.2.1 y1.2.2.2) (TAct.count y0) y2 y3]) else none else bif TAct.obj y0 != 0 then bif decide ((List.length a7+List.length [TStmt.mk (0:Int) y5 [] (TExpr.mk y1.1 y1.2.1 y1.2.2.1 y1.2.2.2) (TAct.count y0) y2 y3])*(152:Nat)≤(140737488355328:Nat)∧List.length a7+List.length [TStmt.mk (0:Int) y5 [] (TExpr.mk y1.1 y1.2.1 y1.2.2.1 y1.2.2.2) (TAct.count y0) y2 y3]≤(9223372036854775807:Nat)) then rec (a0) (a1) (IntKind.wrap IntKind.i64 (a2+(1:Int))) (a3) (a4) (a5) (a6) (a7++[TStmt.mk (0:Int) y5 [] (TExpr.mk y1.1 y1.2.1 y1.2.2.1 y1.2.2.2) (TAct.count y0) y2 y3]) else none else bif decide ((List.length a7+List.length [TStmt.mk (TAct.kind y0) y5 [] (TExpr.mk y1.1 y1.2.1 y1.2.2.1 y1.2.2.2) (TAct.count y0) y2 y3])*(152:Nat)≤(140737488355328:Nat)∧List.length a7+List.length [TStmt.mk (TAct.kind y0) y5 [] (TExpr.mk y1.1 y1.2.1 y1.2.2.1 y1.2.2.2) (TAct.count y0) y2 y3]≤(9223372036854775807:Nat)) then rec (a0) (a1) (IntKind.wrap IntKind.i64 (a2+(1:Int))) (a3) (a4) (a5) (a6) (a7++[TStmt.mk (TAct.kind y0) y5 [] (TExpr.mk y1.1 y1.2.1 y1.2.2.1 y1.2.2.2) (TAct.count y0) y2 y3]) else none else bif TAct.reg y0 != 0 then (qav (TAct.kind y0)).bind fun y10=>bif y10==1 then (qao a3 (TAct.obj y0)).bind fun y11=>bif decide ((List.length a7+List.length [TStmt.mk (0:Int) [] y11 (TExpr.mk y1.1 y1.2.1 y1.2.2.1 y1.2.2.2) (TAct.count y0) y2 y3])*(152:Nat)≤(140737488355328:Nat)∧List.length a7+List.length [TStmt.mk (0:Int) [] y11 (TExpr.mk y1.1 y1.2.1 y1.2.2.1 y1.2.2.2) (TAct.count y0) y2 y3]≤(9223372036854775807:Nat)) then rec (a0) (a1) (IntKind.wrap IntKind.i64 (a2+(1:Int))) (a3) (a4) (a5) (a6) (a7++[TStmt.mk (0:Int) [] y11 (TExpr.mk y1.1 y1.2.1 y1.2.2.1 y1.2.2.2) (TAct.count y0) y2 y3]) else none else bif y10==2 then (qao a4 (TAct.obj y0)).bind fun y12=>bif decide ((List.length a7+List.length [TStmt.mk (0:Int) [] y12 (TExpr.mk y1.1 y1.2.1 y1.2.2.1 y1.2.2.2) (TAct.count y0) y2 y3])*(152:Nat)≤(140737488355328:Nat)∧List.length a7+List.length [TStmt.mk (0:Int) [] y12 (TExpr.mk y1.1 y1.2.1 y1.2.2.1 y1.2.2.2) (TAct.count y0) y2 y3]≤(9223372036854775807:Nat)) then rec (a0) (a1) (IntKind.wrap IntKind.i64 (a2+(1:Int))) (a3) (a4) (a5) (a6) (a7++[TStmt.mk (0:Int) [] y12 (TExpr.mk y1.1 y1.2.1 y1.2.2.1 y1.2.2.2) (TAct.count y0) y2 y3]) else none else bif y10==3 then (qao a5 (TAct.obj y0)).bind fun y13=>bif decide ((List.length a7+List.length [TStmt.mk (0:Int) [] y13 (TExpr.mk y1.1 y1.2.1 y1.2.2.1 y1.2.2.2) (TAct.count y0) y2 y3])*(152:Nat)≤(140737488355328:Nat)∧List.length a7+List.length [TStmt.mk (0:Int) [] y13 (TExpr.mk y1.1 y1.2.1 y1.2.2.1 y1.2.2.2) (TAct.count y0) y2 y3]≤(9223372036854775807:Nat)) then rec (a0) (a1) (IntKind.wrap IntKind.i64 (a2+(1:Int))) (a3) (a4) (a5) (a6) (a7++[TStmt.mk (0:Int) [] y13 (TExpr.mk y1.1 y1.2.1 y1.2.2.1 y1.2.2.2) (TAct.count y0) y2 y3]) else none else bif TAct.obj y0 != 0 then bif decide ((List.length a7+List.length [TStmt.mk (0:Int) [] [] (TExpr.mk y1.1 y1.2.1 y1.2.2.1 y1.2.2.2) (TAct.count y0) y2 y3])*(152:Nat)≤(140737488355328:Nat)∧List.length a7+List.length [TStmt.mk (0:Int) [] [] (TExpr.mk y1.1 y1.2.1 y1.2.2.1 y1.2.2.2) (TAct.count y0) y2 y3]≤(9223372036854775807:Nat)) then rec (a0) (a1) (IntKind.wrap IntKind.i64 (a2+(1:Int))) (a3) (a4) (a5) (a6) (a7++[TStmt.mk (0:Int) [] [] (TExpr.mk y1.1 y1.2.1 y1.2.2.1 y1.2.2.2) (TAct.count y0) y2 y3]) else none else bif decide ((List.length a7+List.length [TStmt.mk (0:Int) [] [] (TExpr.mk y1.1 y1.2.1 y1.2.2.1 y1.2.2.2) (TAct.count y0) y2 y3])*(152:Nat)≤(140737488355328:Nat)∧List.length a7+List.length [TStmt.mk (0:Int) [] [] (TExpr.mk y1.1 y1.2.1 y1.2.2.1 y1.2.2.2) (TAct.count y0) y2 y3]≤(9223372036854775807:Nat)) then rec (a0) (a1) (IntKind.wrap IntKind.i64 (a2+(1:Int))) (a3) (a4) (a5) (a6) (a7++[TStmt.mk (0:Int) [] [] (TExpr.mk y1.1 y1.2.1 y1.2.2.1 y1.2.2.2) (TAct.count y0) y2 y3]) else none else (qav (TAct.kind y0)).bind fun y14=>bif y14==1 then (qao a3 (TAct.obj y0)).bind fun y15=>bif decide ((List.length a7+List.length [TStmt.mk (TAct.kind y0) [] y15 (TExpr.mk y1.1 y1.2.1 y1.2.2.1 y1.2.2.2) (TAct.count y0) y2 y3])*(152:Nat)≤(140737488355328:Nat)∧List.length a7+List.length [TStmt.mk (TAct.kind y0) [] y15 (TExpr.mk y1.1 y1.2.1 y1.2.2.1 y1.2.2.2) (TAct.count y0) y2 y3]≤(9223372036854775807:Nat)) then rec (a0) (a1) (IntKind.wrap IntKind.i64 (a2+(1:Int))) (a3) (a4) (a5) (a6) (a7++[TStmt.mk (TAct.kind y0) [] y15 (TExpr.mk y1.1 y1.2.1 y1.2.2.1 y1.2.2.2) (TAct.count y0) y2 y3]) else none else bif y14==2 then (qao a4 (TAct.obj y0)).bind fun y16=>bif decide ((List.length a7+List.length [TStmt.mk (TAct.kind y0) [] y16 (TExpr.mk y1.1 y1.2.1 y1.2.2.1 y1.2.2.2) (TAct.count y0) y2 y3])*(152:Nat)≤(140737488355328:Nat)∧List.length a7+List.length [TStmt.mk (TAct.kind y0) [] y16 (TExpr.mk y1.1 y1.2.1 y1.2.2.1 y1.2.2.2) (TAct.count y0) y2 y3]≤(9223372036854775807:Nat)) then rec (a0) (a1) (IntKind.wrap IntKind.i64 (a2+(1:Int))) (a3) (a4) (a5) (a6) (a7++[TStmt.mk (TAct.kind y0) [] y16 (TExpr.mk y1.1 y1.2.1 y1.2.2.1 y1.2.2.2) (TAct.count y0) y2 y3]) else none else bif y14==3 then (qao a5 (TAct.obj y0)).bind fun y17=>bif decide ((List.length a7+List.length [TStmt.mk (TAct.kind y0) [] y17 (TExpr.mk y1.1 y1.2.1 y1.2.2.1 y1.2.2.2) (TAct.count y0) y2 y3])*(152:Nat)≤(140737488355328:Nat)∧List.length a7+List.length [TStmt.mk (TAct.kind y0) [] y17 (TExpr.mk y1.1 y1.2.1 y1.2.2.1 y1.2.2.2) (TAct.count y0) y2 y3]≤(9223372036854775807:Nat)) then rec (a0) (a1) (IntKind.wrap IntKind.i64 (a2+(1:Int))) (a3) (a4) (a5) (a6) (a7++[TStmt.mk (TAct.kind y0) [] y17 (TExpr.mk y1.1 y1.2.1 y1.2.2.1 y1.2.2.2) (TAct.count y0) y2 y3]) else none else bif TAct.obj y0 != 0 then bif decide ((List.length a7+List.length [TStmt.mk (0:Int) [] [] (TExpr.mk y1.1 y1.2.1 y1.2.2.1 y1.2.2.2) (TAct.count y0) y2 y3])*(152:Nat)≤(140737488355328:Nat)∧List.length a7+List.length [TStmt.mk (0:Int) [] [] (TExpr.mk y1.1 y1.2.1 y1.2.2.1 y1.2.2.2) (TAct.count y0) y2 y3]≤(9223372036854775807:Nat)) then rec (a0) (a1) (IntKind.wrap IntKind.i64 (a2+(1:Int))) (a3) (a4) (a5) (a6) (a7++[TStmt.mk (0:Int) [] [] (TExpr.mk y1.1 y1.2.1 y1.2.2.1 y1.2.2.2) (TAct.count y0) y2 y3]) else none else bif decide ((List.length a7+List.length [TStmt.mk (TAct.kind y0) [] [] (TExpr.mk y1.1 y1.2.1 y1.2.2.1 y1.2.2.2) (TAct.count y0) y2 y3])*(152:Nat)≤(140737488355328:Nat)∧List.length a7+List.length [TStmt.mk (TAct.kind y0) [] [] (TExpr.mk y1.1 y1.2.1 y1.2.2.1 y1.2.2.2) (TAct.count y0) y2 y3]≤(9223372036854775807:Nat)) then rec (a0) (a1) (IntKind.wrap IntKind.i64 (a2+(1:Int))) (a3) (a4) (a5) (a6) (a7++[TStmt.mk (TAct.kind y0) [] [] (TExpr.mk y1.1 y1.2.1 y1.2.2.1 y1.2.2.2) (TAct.count y0) y2 y3]) else none else none else some (a7)
def qab_i3 (rec_qab:qab_o):Nat→qab_o3
 |0=>fun _ _ _ _ _ _ _ _=>none
 |n+1=>qab_t3 rec_qab (qab_i3 rec_qab n)
def qab_l3 (rec_qab:qab_o):=sealF (qab_i3 rec_qab fuel)
def qab_f (rec_qab:qab_o):qab_o:=fun a0 a1=>(qab_l3 rec_qab a1 (List.length a1:Int) (0:Int) (Namer.cells a0) (Namer.mutexes a0) (Namer.threads a0) (Namer.regs a0) []).bind fun y0=>some (y0)
def qab_i:Nat→qab_o
 |0=>fun _ _=>none
 |n+1=>qab_f (qab_i n)
def qab:=sealF (qab_i fuel)
abbrev qaw_o3:=List Int→Int→Int→List Int→Int→List TBody→List (List UInt8)→List (List UInt8)→List (List UInt8)→List (List (List UInt8))→List TCell→Option ((List Int)×Int×(List TBody)×(List (List UInt8))×(List (List UInt8))×(List (List UInt8))×(List (List (List UInt8)))×(List TCell))
def qaw_t3 (rec:qaw_o3):qaw_o3:=fun a0 a1 a2 a3 a4 a5 a6 a7 a8 a9 a10=>bif decide (a2<a1) then bif decide (0≤a2) then (a0[Int.toNat a2]?).bind fun y0=>bif decide (0≤a2) then (a6[Int.toNat a2]?).bind fun y1=>bif decide ((List.length a10+List.length [TCell.mk y1 y0])*(24:Nat)≤(140737488355328:Nat)∧List.length a10+List.length [TCell.mk y1 y0]≤(9223372036854775807:Nat)) then rec (a0) (a1) (IntKind.wrap IntKind.i64 (a2+(1:Int))) (a3) (a4) (a5) (a6) (a7) (a8) (a9) (a10++[TCell.mk y1 y0]) else none else none else none else some ((a3),(a4),(a5),(a6),(a7),(a8),(a9),(a10))
def qaw_i3:Nat→qaw_o3
 |0=>fun _ _ _ _ _ _ _ _ _ _ _=>none
 |n+1=>qaw_t3 (qaw_i3 n)
def qaw_l3:=sealF (qaw_i3 fuel)
abbrev qaw_o9:=List TBody→Int→Int→List (List UInt8)→List (List UInt8)→List (List UInt8)→List (List (List UInt8))→List TCell→List (List UInt8)→List TThread→Option ((List TCell)×(List (List UInt8))×(List TThread))
def qaw_t9 (rec:qaw_o9):qaw_o9:=fun a0 a1 a2 a3 a4 a5 a6 a7 a8 a9=>bif decide (a2<a1) then bif decide (0≤a2) then (a0[Int.toNat a2]?).bind fun y0=>bif decide (0≤a2) then (a6[Int.toNat a2]?).bind fun y1=>bif decide (0≤a2) then (a5[Int.toNat a2]?).bind fun y2=>(qab (Namer.mk a3 a4 a5 y1) (TBody.acts y0)).bind fun y3=>bif decide ((List.length a9+List.length [TThread.mk y2 y3])*(40:Nat)≤(140737488355328:Nat)∧List.length a9+List.length [TThread.mk y2 y3]≤(9223372036854775807:Nat)) then rec (a0) (a1) (IntKind.wrap IntKind.i64 (a2+(1:Int))) (a3) (a4) (a5) (a6) (a7) (a8) (a9++[TThread.mk y2 y3]) else none else none else none else none else some ((a7),(a8),(a9))
def qaw_i9:Nat→qaw_o9
 |0=>fun _ _ _ _ _ _ _ _ _ _=>none
 |n+1=>qaw_t9 (qaw_i9 n)
def qaw_l9:=sealF (qaw_i9 fuel)
def qaw_f (a0:TUnit) (a1:Names):Option ((List TCell)×(List (List UInt8))×(List TThread)):=(qaw_l3 (TUnit.cells a0) (List.length (TUnit.cells a0):Int) (0:Int) (TUnit.cells a0) (TUnit.mutexes a0) (TUnit.threads a0) (Names.cells a1) (Names.mutexes a1) (Names.threads a1) (Names.regs a1) []).bind fun y0=>(qaS y0.2.2.2.2.1).bind fun y1=>(qaR y1).bind fun y2=>(qaw_l9 y0.2.2.1 (List.length y0.2.2.1:Int) (0:Int) y0.2.2.2.1 y0.2.2.2.2.1 y0.2.2.2.2.2.1 y0.2.2.2.2.2.2.1 y0.2.2.2.2.2.2.2 y2 []).bind fun y3=>some (y3.1,y3.2.1,y3.2.2)
def qaw:=sealF (qaw_f)
abbrev qan_o5:=List TBody→Int→Int→List Int→Int→List TBody→List (List UInt8)→List (List UInt8)→List (List UInt8)→List (List (List UInt8))→Option ((Bool)⊕((List Int)×Int×(List TBody)×(List (List UInt8))×(List (List UInt8))×(List (List UInt8))×(List (List (List UInt8)))))
def qan_t5 (rec:qan_o5):qan_o5:=fun a0 a1 a2 a3 a4 a5 a6 a7 a8 a9=>bif decide (a2<a1) then bif decide (0≤a2) then (a0[Int.toNat a2]?).bind fun y0=>Option.bind (α:=Bool) ( bif decide (TBody.regs y0<0) then some (true) else some (decide (TBody.regs y0>8))) fun y1=>bif y1 then some (.inl (false)) else (qax (TBody.regs y0)).bind fun y2=>bif decide ((List.length a9+List.length [y2])*(24:Nat)≤(140737488355328:Nat)∧List.length a9+List.length [y2]≤(9223372036854775807:Nat)) then rec (a0) (a1) (IntKind.wrap IntKind.i64 (a2+(1:Int))) (a3) (a4) (a5) (a6) (a7) (a8) (a9++[y2]) else none else none else some (.inr ((a3),(a4),(a5),(a6),(a7),(a8),(a9)))
def qan_i5:Nat→qan_o5
 |0=>fun _ _ _ _ _ _ _ _ _ _=>none
 |n+1=>qan_t5 (qan_i5 n)
def qan_l5:=sealF (qan_i5 fuel)
def qan_f (a0:TUnit):Option (Bool):=Option.bind (α:=Bool) ( bif decide ((List.length (TUnit.threads a0):Int)<1) then some (true) else some (decide ((List.length (TUnit.threads a0):Int)>8))) fun y0=>Option.bind (α:=Bool) ( bif y0 then some (true) else some (decide ((List.length (TUnit.cells a0):Int)>8))) fun y1=>Option.bind (α:=Bool) ( bif y1 then some (true) else some (decide (TUnit.mutexes a0<0))) fun y2=>Option.bind (α:=Bool) ( bif y2 then some (true) else some (decide (TUnit.mutexes a0>8))) fun y3=>bif y3 then some (false) else (qax (List.length (TUnit.cells a0):Int)).bind fun y4=>(qax (TUnit.mutexes a0)).bind fun y5=>(qax (List.length (TUnit.threads a0):Int)).bind fun y6=>(qan_l5 (TUnit.threads a0) (List.length (TUnit.threads a0):Int) (0:Int) (TUnit.cells a0) (TUnit.mutexes a0) (TUnit.threads a0) y4 y5 y6 []).bind fun y7=>(match y7 with|.inl y8=>some (y8)|.inr y8=>(qaw (TUnit.mk y8.1 y8.2.1 y8.2.2.1) (Names.mk y8.2.2.2.1 y8.2.2.2.2.1 y8.2.2.2.2.2.1 y8.2.2.2.2.2.2)).bind fun y9=>(qa1 (TProg.mk y9.1 y9.2.1 y9.2.2)).bind fun y10=>some (y10==0))
def qan:=sealF (qan_f)
def qaH_f:Option (Bool):=(qam (TProg.mk [TCell.mk [(120:UInt8)] (3:Int)] [] [TThread.mk [(116:UInt8)] [TStmt.mk (2:Int) [(97:UInt8)] [(120:UInt8)] (TExpr.mk (0:Int) (0:Int) [] []) (0:Int) [] [],TStmt.mk (1:Int) [(98:UInt8)] [] (TExpr.mk (5:Int) (0:Int) [] [TExpr.mk (2:Int) (0:Int) [(97:UInt8)] [],TExpr.mk (2:Int) (0:Int) [(99:UInt8)] []]) (0:Int) [] []]])).bind fun y0=>(qam (TProg.mk [TCell.mk [(116:UInt8)] (0:Int)] [] [TThread.mk [(116:UInt8)] []])).bind fun y1=>(qan (TUnit.mk (TUnit.cells y0.1) (TUnit.mutexes y0.1) (TUnit.threads y0.1))).bind fun y2=>Option.bind (α:=Bool) ( bif y0.2.2.1 != 0 then some (true) else some (!y0.2.2.2==[])) fun y3=>Option.bind (α:=Bool) ( bif y3 then some (true) else some (!y2)) fun y4=>Option.bind (α:=Bool) ( bif y4 then some (true) else some ((List.length (TUnit.threads y0.1):Int) != 1)) fun y5=>Option.bind (α:=Bool) ( bif y5 then some (true) else ((TUnit.threads y0.1)[(0:Nat)]?).bind fun y6=>some ((List.length (TBody.acts y6):Int) != 2)) fun y7=>Option.bind (α:=Bool) ( bif y7 then some (true) else some ((List.length (Names.regs y0.2.1):Int) != 1)) fun y8=>Option.bind (α:=Bool) ( bif y8 then some (true) else ((Names.regs y0.2.1)[(0:Nat)]?).bind fun y9=>some ((List.length y9:Int) != 3)) fun y10=>bif y10 then some (false) else ((TUnit.threads y0.1)[(0:Nat)]?).bind fun y11=>Option.bind (α:=Bool) ( bif TBody.regs y11==3 then ((TUnit.threads y0.1)[(0:Nat)]?).bind fun y12=>((TBody.acts y12)[(1:Nat)]?).bind fun y13=>some (TAct.reg y13==1) else some (false)) fun y14=>Option.bind (α:=Bool) ( bif y14 then ((Names.regs y0.2.1)[(0:Nat)]?).bind fun y15=>(y15[(2:Nat)]?).bind fun y16=>some (y16==[(99:UInt8)]) else some (false)) fun y17=>Option.bind (α:=Bool) ( bif y17 then some (y1.2.2.1==63) else some (false)) fun y18=>Option.bind (α:=Bool) ( bif y18 then some (y1.2.2.2==[(116:UInt8)]) else some (false)) fun y19=>some (y19)
def qaH:=sealF (qaH_f)
abbrev qal_o4:=List TBody→Int→Int→List Int→Int→List TBody→List (List UInt8)→List (List UInt8)→List (List UInt8)→List (List (List UInt8))→Option ((Int)⊕((List Int)×Int×(List TBody)×(List (List UInt8))×(List (List UInt8))×(List (List UInt8))×(List (List (List UInt8)))))
def qal_t4 (rec:qal_o4):qal_o4:=fun a0 a1 a2 a3 a4 a5 a6 a7 a8 a9=>bif decide (a2<a1) then bif decide (0≤a2) then (a0[Int.toNat a2]?).bind fun y0=>bif decide (0≤a2) then (a9[Int.toNat a2]?).bind fun y1=>bif (List.length y1:Int) != TBody.regs y0 then some (.inl ((1:Int))) else rec (a0) (a1) (IntKind.wrap IntKind.i64 (a2+(1:Int))) (a3) (a4) (a5) (a6) (a7) (a8) (a9) else none else none else some (.inr ((a3),(a4),(a5),(a6),(a7),(a8),(a9)))
def qal_i4:Nat→qal_o4
 |0=>fun _ _ _ _ _ _ _ _ _ _=>none
 |n+1=>qal_t4 (qal_i4 n)
def qal_l4:=sealF (qal_i4 fuel)
def qal_f (a0:TUnit) (a1:Names):Option (Int×(List TCell)×(List (List UInt8))×(List TThread)):=(qan (TUnit.mk (TUnit.cells a0) (TUnit.mutexes a0) (TUnit.threads a0))).bind fun y0=>Option.bind (α:=Bool) ( bif !y0 then some (true) else some ((List.length (Names.cells a1):Int) != (List.length (TUnit.cells a0):Int))) fun y1=>Option.bind (α:=Bool) ( bif y1 then some (true) else some ((List.length (Names.mutexes a1):Int) != TUnit.mutexes a0)) fun y2=>Option.bind (α:=Bool) ( bif y2 then some (true) else some ((List.length (Names.threads a1):Int) != (List.length (TUnit.threads a0):Int))) fun y3=>Option.bind (α:=Bool) ( bif y3 then some (true) else some ((List.length (Names.regs a1):Int) != (List.length (TUnit.threads a0):Int))) fun y4=>bif y4 then some (((1:Int)),([]),([]),([])) else (qal_l4 (TUnit.threads a0) (List.length (TUnit.threads a0):Int) (0:Int) (TUnit.cells a0) (TUnit.mutexes a0) (TUnit.threads a0) (Names.cells a1) (Names.mutexes a1) (Names.threads a1) (Names.regs a1)).bind fun y5=>(match y5 with|.inl y6=>some ((y6),([]),([]),([]))|.inr y6=>(qaw (TUnit.mk y6.1 y6.2.1 y6.2.2.1) (Names.mk y6.2.2.2.1 y6.2.2.2.2.1 y6.2.2.2.2.2.1 y6.2.2.2.2.2.2)).bind fun y7=>(qa1 (TProg.mk y7.1 y7.2.1 y7.2.2)).bind fun y8=>bif y8 != 0 then some ((y8),([]),([]),([])) else some (((0:Int)),y7.1,y7.2.1,y7.2.2))
def qal:=sealF (qal_f)
abbrev qaJ_o:=TExpr→TExpr→Option (Bool)
abbrev qaJ_o4:=Int→Int→Int→List UInt8→List TExpr→Int→Int→List UInt8→List TExpr→Option ((Bool)⊕(Unit))
def qaJ_t4 (rec_qaJ:qaJ_o) (rec:qaJ_o4):qaJ_o4:=fun a0 a1 a2 a3 a4 a5 a6 a7 a8=>bif decide (a0<(List.length a4:Int)) then bif decide (0≤a0) then (a4[Int.toNat a0]?).bind fun y0=>bif decide (0≤a0) then (a8[Int.toNat a0]?).bind fun y1=>(rec_qaJ y0 y1).bind fun y2=>bif !y2 then some (.inl (false)) else rec (IntKind.wrap IntKind.i64 (a0+(1:Int))) (a1) (a2) (a3) (a4) (a5) (a6) (a7) (a8) else none else none else some (.inr ())
def qaJ_i4 (rec_qaJ:qaJ_o):Nat→qaJ_o4
 |0=>fun _ _ _ _ _ _ _ _ _=>none
 |n+1=>qaJ_t4 rec_qaJ (qaJ_i4 rec_qaJ n)
def qaJ_l4 (rec_qaJ:qaJ_o):=sealF (qaJ_i4 rec_qaJ fuel)
def qaJ_f (rec_qaJ:qaJ_o):qaJ_o:=fun a0 a1=>Option.bind (α:=Bool) ( bif TExpr.kind a0 != TExpr.kind a1 then some (true) else some (TExpr.num a0 != TExpr.num a1)) fun y0=>Option.bind (α:=Bool) ( bif y0 then some (true) else some (!TExpr.name a0==TExpr.name a1)) fun y1=>Option.bind (α:=Bool) ( bif y1 then some (true) else some ((List.length (TExpr.args a0):Int) != (List.length (TExpr.args a1):Int))) fun y2=>bif y2 then some (false) else (qaJ_l4 rec_qaJ (0:Int) (TExpr.kind a0) (TExpr.num a0) (TExpr.name a0) (TExpr.args a0) (TExpr.kind a1) (TExpr.num a1) (TExpr.name a1) (TExpr.args a1)).bind fun y3=>(match y3 with|.inl y4=>some (y4)|.inr y4=>some (true))
def qaJ_i:Nat→qaJ_o
 |0=>fun _ _=>none
 |n+1=>qaJ_f (qaJ_i n)
def qaJ:=sealF (qaJ_i fuel)
abbrev qaK_o:=List TStmt→List TStmt→Option (Bool)
abbrev qaK_o4:=List TStmt→List TStmt→Int→Option ((Bool)⊕(Unit))
def qaK_t4 (rec_qaK:qaK_o) (rec:qaK_o4):qaK_o4:=fun a0 a1 a2=>bif decide (a2<(List.length a0:Int)) then bif decide (0≤a2) then (a0[Int.toNat a2]?).bind fun y0=>bif decide (0≤a2) then (a1[Int.toNat a2]?).bind fun y1=>(qaJ (TExpr.mk (TExpr.kind (TStmt.expr y0)) (TExpr.num (TStmt.expr y0)) (TExpr.name (TStmt.expr y0)) (TExpr.args (TStmt.expr y0))) (TExpr.mk (TExpr.kind (TStmt.expr y1)) (TExpr.num (TStmt.expr y1)) (TExpr.name (TStmt.expr y1)) (TExpr.args (TStmt.expr y1)))).bind fun y2=>bif decide (0≤a2) then (a0[Int.toNat a2]?).bind fun y3=>bif decide (0≤a2) then (a1[Int.toNat a2]?).bind fun y4=>(rec_qaK (TStmt.then_ y3) (TStmt.then_ y4)).bind fun y5=>bif decide (0≤a2) then (a0[Int.toNat a2]?).bind fun y6=>bif decide (0≤a2) then (a1[Int.toNat a2]?).bind fun y7=>(rec_qaK (TStmt.else_ y6) (TStmt.else_ y7)).bind fun y8=>bif decide (0≤a2) then (a0[Int.toNat a2]?).bind fun y9=>bif decide (0≤a2) then (a1[Int.toNat a2]?).bind fun y10=>bif TStmt.kind y9 != TStmt.kind y10 then some (.inl (false)) else bif decide (0≤a2) then (a0[Int.toNat a2]?).bind fun y11=>bif decide (0≤a2) then (a1[Int.toNat a2]?).bind fun y12=>bif !TStmt.reg y11==TStmt.reg y12 then some (.inl (false)) else bif decide (0≤a2) then (a0[Int.toNat a2]?).bind fun y13=>bif decide (0≤a2) then (a1[Int.toNat a2]?).bind fun y14=>bif !TStmt.name y13==TStmt.name y14 then some (.inl (false)) else bif decide (0≤a2) then (a0[Int.toNat a2]?).bind fun y15=>bif decide (0≤a2) then (a1[Int.toNat a2]?).bind fun y16=>bif TStmt.count y15 != TStmt.count y16 then some (.inl (false)) else bif !y2 then some (.inl (false)) else bif !y5 then some (.inl (false)) else bif !y8 then some (.inl (false)) else rec (a0) (a1) (IntKind.wrap IntKind.i64 (a2+(1:Int))) else none else none else none else none else none else none else none else none else none else none else none else none else none else none else some (.inr ())
def qaK_i4 (rec_qaK:qaK_o):Nat→qaK_o4
 |0=>fun _ _ _=>none
 |n+1=>qaK_t4 rec_qaK (qaK_i4 rec_qaK n)
def qaK_l4 (rec_qaK:qaK_o):=sealF (qaK_i4 rec_qaK fuel)
def qaK_f (rec_qaK:qaK_o):qaK_o:=fun a0 a1=>bif (List.length a0:Int) != (List.length a1:Int) then some (false) else (qaK_l4 rec_qaK a0 a1 (0:Int)).bind fun y0=>(match y0 with|.inl y1=>some (y1)|.inr y1=>some (true))
def qaK_i:Nat→qaK_o
 |0=>fun _ _=>none
 |n+1=>qaK_f (qaK_i n)
def qaK:=sealF (qaK_i fuel)
abbrev qaI_o4:=Int→List TCell→List (List UInt8)→List TThread→List TCell→List (List UInt8)→List TThread→Option ((Bool)⊕((List TCell)×(List (List UInt8))×(List TThread)×(List TCell)×(List (List UInt8))×(List TThread)))
def qaI_t4 (rec:qaI_o4):qaI_o4:=fun a0 a1 a2 a3 a4 a5 a6=>bif decide (a0<(List.length a1:Int)) then bif decide (0≤a0) then (a1[Int.toNat a0]?).bind fun y0=>bif decide (0≤a0) then (a4[Int.toNat a0]?).bind fun y1=>bif !decide (y0=y1) then some (.inl (false)) else rec (IntKind.wrap IntKind.i64 (a0+(1:Int))) (a1) (a2) (a3) (a4) (a5) (a6) else none else none else some (.inr ((a1),(a2),(a3),(a4),(a5),(a6)))
def qaI_i4:Nat→qaI_o4
 |0=>fun _ _ _ _ _ _ _=>none
 |n+1=>qaI_t4 (qaI_i4 n)
def qaI_l4:=sealF (qaI_i4 fuel)
abbrev qaI_o9:=Int→List TCell→List (List UInt8)→List TThread→List TCell→List (List UInt8)→List TThread→Option ((Bool)⊕((List TCell)×(List (List UInt8))×(List TThread)×(List TCell)×(List (List UInt8))×(List TThread)))
def qaI_t9 (rec:qaI_o9):qaI_o9:=fun a0 a1 a2 a3 a4 a5 a6=>bif decide (a0<(List.length a2:Int)) then bif decide (0≤a0) then (a2[Int.toNat a0]?).bind fun y0=>bif decide (0≤a0) then (a5[Int.toNat a0]?).bind fun y1=>bif !y0==y1 then some (.inl (false)) else rec (IntKind.wrap IntKind.i64 (a0+(1:Int))) (a1) (a2) (a3) (a4) (a5) (a6) else none else none else some (.inr ((a1),(a2),(a3),(a4),(a5),(a6)))
def qaI_i9:Nat→qaI_o9
 |0=>fun _ _ _ _ _ _ _=>none
 |n+1=>qaI_t9 (qaI_i9 n)
def qaI_l9:=sealF (qaI_i9 fuel)
abbrev qaI_o14:=Int→List TCell→List (List UInt8)→List TThread→List TCell→List (List UInt8)→List TThread→Option ((Bool)⊕(Unit))
def qaI_t14 (rec:qaI_o14):qaI_o14:=fun a0 a1 a2 a3 a4 a5 a6=>bif decide (a0<(List.length a3:Int)) then bif decide (0≤a0) then (a3[Int.toNat a0]?).bind fun y0=>bif decide (0≤a0) then (a6[Int.toNat a0]?).bind fun y1=>(qaK (TThread.body y0) (TThread.body y1)).bind fun y2=>bif decide (0≤a0) then (a3[Int.toNat a0]?).bind fun y3=>bif decide (0≤a0) then (a6[Int.toNat a0]?).bind fun y4=>bif !TThread.name y3==TThread.name y4 then some (.inl (false)) else bif !y2 then some (.inl (false)) else rec (IntKind.wrap IntKind.i64 (a0+(1:Int))) (a1) (a2) (a3) (a4) (a5) (a6) else none else none else none else none else some (.inr ())
def qaI_i14:Nat→qaI_o14
 |0=>fun _ _ _ _ _ _ _=>none
 |n+1=>qaI_t14 (qaI_i14 n)
def qaI_l14:=sealF (qaI_i14 fuel)
def qaI_f (a0:TProg) (a1:TProg):Option (Bool):=Option.bind (α:=Bool) ( bif (List.length (TProg.cells a0):Int) != (List.length (TProg.cells a1):Int) then some (true) else some ((List.length (TProg.mutexes a0):Int) != (List.length (TProg.mutexes a1):Int))) fun y0=>Option.bind (α:=Bool) ( bif y0 then some (true) else some ((List.length (TProg.threads a0):Int) != (List.length (TProg.threads a1):Int))) fun y1=>bif y1 then some (false) else (qaI_l4 (0:Int) (TProg.cells a0) (TProg.mutexes a0) (TProg.threads a0) (TProg.cells a1) (TProg.mutexes a1) (TProg.threads a1)).bind fun y2=>(match y2 with|.inl y3=>some (y3)|.inr y3=>(qaI_l9 (0:Int) y3.1 y3.2.1 y3.2.2.1 y3.2.2.2.1 y3.2.2.2.2.1 y3.2.2.2.2.2).bind fun y4=>(match y4 with|.inl y5=>some (y5)|.inr y5=>(qaI_l14 (0:Int) y5.1 y5.2.1 y5.2.2.1 y5.2.2.2.1 y5.2.2.2.2.1 y5.2.2.2.2.2).bind fun y6=>(match y6 with|.inl y7=>some (y7)|.inr y7=>some (true))))
def qaI:=sealF (qaI_f)
def qaG_f (a0:TProg):Option (Bool):=(qaH).bind fun y0=>(qam (TProg.mk (TProg.cells a0) (TProg.mutexes a0) (TProg.threads a0))).bind fun y1=>Option.bind (α:=Bool) ( bif !y0 then some (true) else some (y1.2.2.1 != 0)) fun y2=>bif y2 then Option.bind (α:=Bool) ( bif y0 then some ((List.length (TUnit.threads y1.1):Int)==0) else some (false)) fun y3=>some (y3) else (qan (TUnit.mk (TUnit.cells y1.1) (TUnit.mutexes y1.1) (TUnit.threads y1.1))).bind fun y4=>(qal (TUnit.mk (TUnit.cells y1.1) (TUnit.mutexes y1.1) (TUnit.threads y1.1)) (Names.mk (Names.cells y1.2.1) (Names.mutexes y1.2.1) (Names.threads y1.2.1) (Names.regs y1.2.1))).bind fun y5=>(qaI (TProg.mk (TProg.cells a0) (TProg.mutexes a0) (TProg.threads a0)) (TProg.mk y5.2.1 y5.2.2.1 y5.2.2.2)).bind fun y6=>Option.bind (α:=Bool) ( bif y4 then some (y5.1==0) else some (false)) fun y7=>Option.bind (α:=Bool) ( bif y7 then some (y6) else some (false)) fun y8=>some (y8)
def qaG:=sealF (qaG_f)
end
end Lift.Fn
