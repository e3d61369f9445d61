/-
  DERIVED. The functions of this seat as Lean has them; the library's modes. Conditions: none.
-/
import Derived.Test.YtnjaffjkdeelhaaGreatDoorLiftC
import Derived.Test.YtnjaffjkdeelhaaGreatDoorProg
import Derived.KernelRfl
set_option linter.unusedVariables false
set_option linter.unusedSimpArgs false
set_option linter.unusedSectionVars false
namespace Lift.J6
open Go Go.RowKit Go.Proofs Lift
@[reducible] noncomputable def U (n:Nat):Type:=match n with
 |26=>TProg
 |32=>TUnit
 |35=>Names
 |48=>TCell
 |51=>TThread
 |60=>TExpr
 |62=>TStmt
 |65=>TBody
 |67=>TAct
 |75=>Refused
 |103=>Thing
 |111=>Namer
 |130=>Fault
 |134=>Token
 |136=>Shape
 |146=>Spot
 |1026=>TProg
 |1032=>TUnit
 |1035=>Names
 |1051=>TThread
 |1060=>TExpr
 |1062=>TStmt
 |1065=>TBody
 |1067=>TAct
 |1111=>Namer
 |_=>Empty
noncomputable def cells (n:Nat):U n→List (TV U):=match n with
 |26=>fun (x:TProg)=>[⟨.slc (.st 48),x.cells⟩,⟨.slc (.str),x.mutexes⟩,⟨.slc (.st 51),x.threads⟩]
 |32=>fun (x:TUnit)=>[⟨.slc (.int .i64),x.cells⟩,⟨.int .i64,x.mutexes⟩,⟨.slc (.st 65),x.threads⟩]
 |35=>fun (x:Names)=>[⟨.slc (.str),x.cells⟩,⟨.slc (.str),x.mutexes⟩,⟨.slc (.str),x.threads⟩,⟨.slc (.slc (.str)),x.regs⟩]
 |48=>fun (x:TCell)=>[⟨.str,x.name⟩,⟨.int .i64,x.init⟩]
 |51=>fun (x:TThread)=>[⟨.str,x.name⟩,⟨.slc (.st 62),x.body⟩]
 |60=>fun (x:TExpr)=>[⟨.int .i64,x.kind⟩,⟨.int .i64,x.num⟩,⟨.str,x.name⟩,⟨.slc (.st 60),x.args⟩]
 |62=>fun (x:TStmt)=>[⟨.int .i64,x.kind⟩,⟨.str,x.reg⟩,⟨.str,x.name⟩,⟨.int .i64,x.expr.kind⟩,⟨.int .i64,x.expr.num⟩,⟨.str,x.expr.name⟩,⟨.slc (.st 60),x.expr.args⟩,⟨.int .i64,x.count⟩,⟨.slc (.st 62),x.then_⟩,⟨.slc (.st 62),x.else_⟩]
 |65=>fun (x:TBody)=>[⟨.int .i64,x.regs⟩,⟨.slc (.st 67),x.acts⟩]
 |67=>fun (x:TAct)=>[⟨.int .i64,x.kind⟩,⟨.int .i64,x.reg⟩,⟨.int .i64,x.obj⟩,⟨.int .i64,x.expr.kind⟩,⟨.int .i64,x.expr.num⟩,⟨.str,x.expr.name⟩,⟨.slc (.st 60),x.expr.args⟩,⟨.int .i64,x.count⟩,⟨.slc (.st 67),x.then_⟩,⟨.slc (.st 67),x.else_⟩]
 |75=>fun (x:Refused)=>[⟨.int .i64,x.e⟩,⟨.str,x.name⟩]
 |103=>fun (x:Thing)=>[⟨.int .i64,x.kind⟩,⟨.int .i64,x.number⟩]
 |111=>fun (x:Namer)=>[⟨.slc (.str),x.cells⟩,⟨.slc (.str),x.mutexes⟩,⟨.slc (.str),x.threads⟩,⟨.slc (.str),x.regs⟩]
 |130=>fun (x:Fault)=>[⟨.int .i64,x.code⟩,⟨.int .i64,x.at_⟩,⟨.str,x.name⟩]
 |134=>fun (x:Token)=>[⟨.int .i64,x.kind⟩,⟨.str,x.text⟩,⟨.int .i64,x.num⟩,⟨.int .i64,x.at_⟩]
 |136=>fun (x:Shape)=>[⟨.bool,x.reg⟩,⟨.bool,x.name⟩,⟨.bool,x.expr⟩,⟨.bool,x.count⟩,⟨.bool,x.then_⟩,⟨.bool,x.other⟩]
 |146=>fun (x:Spot)=>[⟨.int .i64,x.rune⟩,⟨.int .i64,x.at_⟩,⟨.int .i64,x.line⟩,⟨.int .i64,x.col⟩]
 |1026=>fun (x:TProg)=>[⟨.own 48 (.st 48),x.cells⟩,⟨.own 9 (.str),x.mutexes⟩,⟨.own 51 (.st 1051),x.threads⟩]
 |1032=>fun (x:TUnit)=>[⟨.own 3 (.int .i64),x.cells⟩,⟨.int .i64,x.mutexes⟩,⟨.own 65 (.st 1065),x.threads⟩]
 |1035=>fun (x:Names)=>[⟨.own 9 (.str),x.cells⟩,⟨.own 9 (.str),x.mutexes⟩,⟨.own 9 (.str),x.threads⟩,⟨.own 23 (.own 9 (.str)),x.regs⟩]
 |1051=>fun (x:TThread)=>[⟨.str,x.name⟩,⟨.own 62 (.st 1062),x.body⟩]
 |1060=>fun (x:TExpr)=>[⟨.int .i64,x.kind⟩,⟨.int .i64,x.num⟩,⟨.str,x.name⟩,⟨.own 60 (.st 1060),x.args⟩]
 |1062=>fun (x:TStmt)=>[⟨.int .i64,x.kind⟩,⟨.str,x.reg⟩,⟨.str,x.name⟩,⟨.int .i64,x.expr.kind⟩,⟨.int .i64,x.expr.num⟩,⟨.str,x.expr.name⟩,⟨.own 60 (.st 1060),x.expr.args⟩,⟨.int .i64,x.count⟩,⟨.own 62 (.st 1062),x.then_⟩,⟨.own 62 (.st 1062),x.else_⟩]
 |1065=>fun (x:TBody)=>[⟨.int .i64,x.regs⟩,⟨.own 67 (.st 1067),x.acts⟩]
 |1067=>fun (x:TAct)=>[⟨.int .i64,x.kind⟩,⟨.int .i64,x.reg⟩,⟨.int .i64,x.obj⟩,⟨.int .i64,x.expr.kind⟩,⟨.int .i64,x.expr.num⟩,⟨.str,x.expr.name⟩,⟨.own 60 (.st 1060),x.expr.args⟩,⟨.int .i64,x.count⟩,⟨.own 67 (.st 1067),x.then_⟩,⟨.own 67 (.st 1067),x.else_⟩]
 |1111=>fun (x:Namer)=>[⟨.own 9 (.str),x.cells⟩,⟨.own 9 (.str),x.mutexes⟩,⟨.own 9 (.str),x.threads⟩,⟨.own 9 (.str),x.regs⟩]
 |_=>fun _=>[]
noncomputable def ctys (n:Nat):List Ty:=match n with
 |26=>[.slc (.st 48),.slc (.str),.slc (.st 51)]
 |32=>[.slc (.int .i64),.int .i64,.slc (.st 65)]
 |35=>[.slc (.str),.slc (.str),.slc (.str),.slc (.slc (.str))]
 |48=>[.str,.int .i64]
 |51=>[.str,.slc (.st 62)]
 |60=>[.int .i64,.int .i64,.str,.slc (.st 60)]
 |62=>[.int .i64,.str,.str,.int .i64,.int .i64,.str,.slc (.st 60),.int .i64,.slc (.st 62),.slc (.st 62)]
 |65=>[.int .i64,.slc (.st 67)]
 |67=>[.int .i64,.int .i64,.int .i64,.int .i64,.int .i64,.str,.slc (.st 60),.int .i64,.slc (.st 67),.slc (.st 67)]
 |75=>[.int .i64,.str]
 |103=>[.int .i64,.int .i64]
 |111=>[.slc (.str),.slc (.str),.slc (.str),.slc (.str)]
 |130=>[.int .i64,.int .i64,.str]
 |134=>[.int .i64,.str,.int .i64,.int .i64]
 |136=>[.bool,.bool,.bool,.bool,.bool,.bool]
 |146=>[.int .i64,.int .i64,.int .i64,.int .i64]
 |1026=>[.own 48 (.st 48),.own 9 (.str),.own 51 (.st 1051)]
 |1032=>[.own 3 (.int .i64),.int .i64,.own 65 (.st 1065)]
 |1035=>[.own 9 (.str),.own 9 (.str),.own 9 (.str),.own 23 (.own 9 (.str))]
 |1051=>[.str,.own 62 (.st 1062)]
 |1060=>[.int .i64,.int .i64,.str,.own 60 (.st 1060)]
 |1062=>[.int .i64,.str,.str,.int .i64,.int .i64,.str,.own 60 (.st 1060),.int .i64,.own 62 (.st 1062),.own 62 (.st 1062)]
 |1065=>[.int .i64,.own 67 (.st 1067)]
 |1067=>[.int .i64,.int .i64,.int .i64,.int .i64,.int .i64,.str,.own 60 (.st 1060),.int .i64,.own 67 (.st 1067),.own 67 (.st 1067)]
 |1111=>[.own 9 (.str),.own 9 (.str),.own 9 (.str),.own 9 (.str)]
 |_=>[]
noncomputable def make (n:Nat):List (TV U)→Option (U n):=match n with
 |26=>fun|[⟨.slc (.st 48),v0⟩,⟨.slc (.str),v1⟩,⟨.slc (.st 51),v2⟩]=>some (TProg.mk v0 v1 v2)|_=>none
 |32=>fun|[⟨.slc (.int .i64),v0⟩,⟨.int .i64,v1⟩,⟨.slc (.st 65),v2⟩]=>some (TUnit.mk v0 v1 v2)|_=>none
 |35=>fun|[⟨.slc (.str),v0⟩,⟨.slc (.str),v1⟩,⟨.slc (.str),v2⟩,⟨.slc (.slc (.str)),v3⟩]=>some (Names.mk v0 v1 v2 v3)|_=>none
 |48=>fun|[⟨.str,v0⟩,⟨.int .i64,v1⟩]=>some (TCell.mk v0 v1)|_=>none
 |51=>fun|[⟨.str,v0⟩,⟨.slc (.st 62),v1⟩]=>some (TThread.mk v0 v1)|_=>none
 |60=>fun|[⟨.int .i64,v0⟩,⟨.int .i64,v1⟩,⟨.str,v2⟩,⟨.slc (.st 60),v3⟩]=>some (TExpr.mk v0 v1 v2 v3)|_=>none
 |62=>fun|[⟨.int .i64,v0⟩,⟨.str,v1⟩,⟨.str,v2⟩,⟨.int .i64,v3⟩,⟨.int .i64,v4⟩,⟨.str,v5⟩,⟨.slc (.st 60),v6⟩,⟨.int .i64,v7⟩,⟨.slc (.st 62),v8⟩,⟨.slc (.st 62),v9⟩]=>some (TStmt.mk v0 v1 v2 (TExpr.mk v3 v4 v5 v6) v7 v8 v9)|_=>none
 |65=>fun|[⟨.int .i64,v0⟩,⟨.slc (.st 67),v1⟩]=>some (TBody.mk v0 v1)|_=>none
 |67=>fun|[⟨.int .i64,v0⟩,⟨.int .i64,v1⟩,⟨.int .i64,v2⟩,⟨.int .i64,v3⟩,⟨.int .i64,v4⟩,⟨.str,v5⟩,⟨.slc (.st 60),v6⟩,⟨.int .i64,v7⟩,⟨.slc (.st 67),v8⟩,⟨.slc (.st 67),v9⟩]=>some (TAct.mk v0 v1 v2 (TExpr.mk v3 v4 v5 v6) v7 v8 v9)|_=>none
 |75=>fun|[⟨.int .i64,v0⟩,⟨.str,v1⟩]=>some (Refused.mk v0 v1)|_=>none
 |103=>fun|[⟨.int .i64,v0⟩,⟨.int .i64,v1⟩]=>some (Thing.mk v0 v1)|_=>none
 |111=>fun|[⟨.slc (.str),v0⟩,⟨.slc (.str),v1⟩,⟨.slc (.str),v2⟩,⟨.slc (.str),v3⟩]=>some (Namer.mk v0 v1 v2 v3)|_=>none
 |130=>fun|[⟨.int .i64,v0⟩,⟨.int .i64,v1⟩,⟨.str,v2⟩]=>some (Fault.mk v0 v1 v2)|_=>none
 |134=>fun|[⟨.int .i64,v0⟩,⟨.str,v1⟩,⟨.int .i64,v2⟩,⟨.int .i64,v3⟩]=>some (Token.mk v0 v1 v2 v3)|_=>none
 |136=>fun|[⟨.bool,v0⟩,⟨.bool,v1⟩,⟨.bool,v2⟩,⟨.bool,v3⟩,⟨.bool,v4⟩,⟨.bool,v5⟩]=>some (Shape.mk v0 v1 v2 v3 v4 v5)|_=>none
 |146=>fun|[⟨.int .i64,v0⟩,⟨.int .i64,v1⟩,⟨.int .i64,v2⟩,⟨.int .i64,v3⟩]=>some (Spot.mk v0 v1 v2 v3)|_=>none
 |1026=>fun|[⟨.own 48 (.st 48),v0⟩,⟨.own 9 (.str),v1⟩,⟨.own 51 (.st 1051),v2⟩]=>some (TProg.mk v0 v1 v2)|_=>none
 |1032=>fun|[⟨.own 3 (.int .i64),v0⟩,⟨.int .i64,v1⟩,⟨.own 65 (.st 1065),v2⟩]=>some (TUnit.mk v0 v1 v2)|_=>none
 |1035=>fun|[⟨.own 9 (.str),v0⟩,⟨.own 9 (.str),v1⟩,⟨.own 9 (.str),v2⟩,⟨.own 23 (.own 9 (.str)),v3⟩]=>some (Names.mk v0 v1 v2 v3)|_=>none
 |1051=>fun|[⟨.str,v0⟩,⟨.own 62 (.st 1062),v1⟩]=>some (TThread.mk v0 v1)|_=>none
 |1060=>fun|[⟨.int .i64,v0⟩,⟨.int .i64,v1⟩,⟨.str,v2⟩,⟨.own 60 (.st 1060),v3⟩]=>some (TExpr.mk v0 v1 v2 v3)|_=>none
 |1062=>fun|[⟨.int .i64,v0⟩,⟨.str,v1⟩,⟨.str,v2⟩,⟨.int .i64,v3⟩,⟨.int .i64,v4⟩,⟨.str,v5⟩,⟨.own 60 (.st 1060),v6⟩,⟨.int .i64,v7⟩,⟨.own 62 (.st 1062),v8⟩,⟨.own 62 (.st 1062),v9⟩]=>some (TStmt.mk v0 v1 v2 (TExpr.mk v3 v4 v5 v6) v7 v8 v9)|_=>none
 |1065=>fun|[⟨.int .i64,v0⟩,⟨.own 67 (.st 1067),v1⟩]=>some (TBody.mk v0 v1)|_=>none
 |1067=>fun|[⟨.int .i64,v0⟩,⟨.int .i64,v1⟩,⟨.int .i64,v2⟩,⟨.int .i64,v3⟩,⟨.int .i64,v4⟩,⟨.str,v5⟩,⟨.own 60 (.st 1060),v6⟩,⟨.int .i64,v7⟩,⟨.own 67 (.st 1067),v8⟩,⟨.own 67 (.st 1067),v9⟩]=>some (TAct.mk v0 v1 v2 (TExpr.mk v3 v4 v5 v6) v7 v8 v9)|_=>none
 |1111=>fun|[⟨.own 9 (.str),v0⟩,⟨.own 9 (.str),v1⟩,⟨.own 9 (.str),v2⟩,⟨.own 9 (.str),v3⟩]=>some (Namer.mk v0 v1 v2 v3)|_=>none
 |_=>fun _=>none
def pn (n:Nat):Nat:=match n with
 |1026=>26
 |1032=>32
 |1035=>35
 |1051=>51
 |1060=>60
 |1062=>62
 |1065=>65
 |1067=>67
 |1111=>111
 |n=>n
def closed (n:Nat):Bool:=match n with
 |1026=>true
 |1032=>true
 |1051=>true
 |1060=>true
 |1062=>true
 |1065=>true
 |1067=>true
 |1111=>true
 |48=>true
 |75=>true
 |103=>true
 |130=>true
 |134=>true
 |136=>true
 |146=>true
 |_=>false
def ids:List Nat:=[26,32,35,48,51,60,62,65,67,75,103,111,130,134,136,146,1026,1032,1035,1051,1060,1062,1065,1067,1111]
theorem zafc {n:Nat} (h:n∉ids):(∀ x,cells n x=[])∧ctys n=[]∧pn n=n∧closed n=false:=by
 refine ⟨?_,?_,?_,?_⟩
 ·intro x; unfold cells; split<;>first|rfl|exact absurd (by decide) h
 ·unfold ctys; split<;>first|rfl|exact absurd (by decide) h
 ·unfold pn; split<;>first|rfl|exact absurd (by decide) h
 ·unfold closed; split<;>first|rfl|exact absurd (by decide) h
theorem zam2 {P:Nat→Prop} (h1:∀ n∈ids,P n) (h2:∀ n,n∉ids→P n) (n:Nat):P n:=by
 by_cases h:n∈ids
 ·exact h1 n h
 ·exact h2 n h
theorem pd:∀ n,U (pn n)=U n:=zam2 (by unfold ids; simp only[List.forall_mem_cons]; exact ⟨rfl,rfl,rfl,rfl,rfl,rfl,rfl,rfl,rfl,rfl,rfl,rfl,rfl,rfl,rfl,rfl,rfl,rfl,rfl,rfl,rfl,rfl,rfl,rfl,rfl,fun n h=>by cases h⟩) (fun n h=>by rw[(zafc h).2.2.1])
theorem pc : ∀ n (x : U n), cells (pn n) (cast (pd n).symm x) = (cells n x).map (TV.plain pd) := zam2 (by unfold ids; simp only [List.forall_mem_cons]; exact ⟨fun _ => rfl, fun _ => rfl, fun _ => rfl, fun _ => rfl, fun _ => rfl, fun _ => rfl, fun _ => rfl, fun _ => rfl, fun _ => rfl, fun _ => rfl, fun _ => rfl, fun _ => rfl, fun _ => rfl, fun _ => rfl, fun _ => rfl, fun _ => rfl, fun _ => rfl, fun _ => rfl, fun _ => rfl, fun _ => rfl, fun _ => rfl, fun _ => rfl, fun _ => rfl, fun _ => rfl, fun _ => rfl, fun n h => by cases h⟩)
 (fun n h x=>by rw[(zafc h).1 x]; exact (zafc (n:=pn n) (by rw[(zafc h).2.2.1]; exact h)).1 _)
theorem pt : ∀ n, ctys (pn n) = (ctys n).map (Ty.plain pn) := zam2 (by unfold ids; simp only [List.forall_mem_cons]; exact ⟨rfl, rfl, rfl, rfl, rfl, rfl, rfl, rfl, rfl, rfl, rfl, rfl, rfl, rfl, rfl, rfl, rfl, rfl, rfl, rfl, rfl, rfl, rfl, rfl, rfl, fun n h => by cases h⟩)
 (fun n h=>by rw[(zafc h).2.2.1,(zafc h).2.1]; rfl)
theorem closed_ok:∀ n,closed n=true→∀ t∈ctys n,(match t with
  |.int _=>true|.bool=>true|.str=>true|.err=>true|.fn=>true
  |.own _ (.st m)=>closed m
  |.own _ e=>match e with|.int _=>true|.bool=>true|.str=>true|_=>false
  |_=>false)=true:=zam2 (by unfold ids; simp only[List.forall_mem_cons]; exact ⟨fun h=>(by cases h),fun h=>(by cases h),fun h=>(by cases h),fun _=>List.all_eq_true.1 (by rfl),fun h=>(by cases h),fun h=>(by cases h),fun h=>(by cases h),fun h=>(by cases h),fun h=>(by cases h),fun _=>List.all_eq_true.1 (by rfl),fun _=>List.all_eq_true.1 (by rfl),fun h=>(by cases h),fun _=>List.all_eq_true.1 (by rfl),fun _=>List.all_eq_true.1 (by rfl),fun _=>List.all_eq_true.1 (by rfl),fun _=>List.all_eq_true.1 (by rfl),fun _=>List.all_eq_true.1 (by rfl),fun _=>List.all_eq_true.1 (by rfl),fun h=>(by cases h),fun _=>List.all_eq_true.1 (by rfl),fun _=>List.all_eq_true.1 (by rfl),fun _=>List.all_eq_true.1 (by rfl),fun _=>List.all_eq_true.1 (by rfl),fun _=>List.all_eq_true.1 (by rfl),fun _=>List.all_eq_true.1 (by rfl),fun n h=>by cases h⟩)
 (fun n h hc=>by rw[(zafc h).2.2.2] at hc; cases hc)
@[reducible] noncomputable def uni:Uni where
 U:=U
 cells:=cells
 ctys:=ctys
 make:=make
 make_ok:=by
  intro n cs x h;unfold make at h;split at h
  ·dsimp only at h;split at h
   ·cases h; rfl
   ·cases h
  ·dsimp only at h;split at h
   ·cases h; rfl
   ·cases h
  ·dsimp only at h;split at h
   ·cases h; rfl
   ·cases h
  ·dsimp only at h;split at h
   ·cases h; rfl
   ·cases h
  ·dsimp only at h;split at h
   ·cases h; rfl
   ·cases h
  ·dsimp only at h;split at h
   ·cases h; rfl
   ·cases h
  ·dsimp only at h;split at h
   ·cases h; rfl
   ·cases h
  ·dsimp only at h;split at h
   ·cases h; rfl
   ·cases h
  ·dsimp only at h;split at h
   ·cases h; rfl
   ·cases h
  ·dsimp only at h;split at h
   ·cases h; rfl
   ·cases h
  ·dsimp only at h;split at h
   ·cases h; rfl
   ·cases h
  ·dsimp only at h;split at h
   ·cases h; rfl
   ·cases h
  ·dsimp only at h;split at h
   ·cases h; rfl
   ·cases h
  ·dsimp only at h;split at h
   ·cases h; rfl
   ·cases h
  ·dsimp only at h;split at h
   ·cases h; rfl
   ·cases h
  ·dsimp only at h;split at h
   ·cases h; rfl
   ·cases h
  ·dsimp only at h;split at h
   ·cases h; rfl
   ·cases h
  ·dsimp only at h;split at h
   ·cases h; rfl
   ·cases h
  ·dsimp only at h;split at h
   ·cases h; rfl
   ·cases h
  ·dsimp only at h;split at h
   ·cases h; rfl
   ·cases h
  ·dsimp only at h;split at h
   ·cases h; rfl
   ·cases h
  ·dsimp only at h;split at h
   ·cases h; rfl
   ·cases h
  ·dsimp only at h;split at h
   ·cases h; rfl
   ·cases h
  ·dsimp only at h;split at h
   ·cases h; rfl
   ·cases h
  ·dsimp only at h;split at h
   ·cases h; rfl
   ·cases h
  ·cases h
 tys_ok:=by
  intro n x;unfold cells ctys;split<;>rfl
 pn:=pn
 pd:=pd
 pc:=pc
 pt:=pt
 closed:=closed
 closed_ok:=closed_ok
 flat_ok:=by
  intro n t h;have:∀ n,(ctys n).all Ty.flat=true:=by
   intro n;unfold ctys;split<;>rfl
  exact List.all_eq_true.1 (this n) t h
noncomputable def tyOf:TypeId→Option Ty
 |1=>some (.fn)
 |2=>some (.int .i64)
 |3=>some (.int .i64)
 |4=>some (.bool)
 |5=>some (.int .u8)
 |6=>some (.int .u8)
 |9=>some (.str)
 |10=>some (.str)
 |11=>some (.str)
 |12=>some (.int .u64)
 |21=>some (.int .i32)
 |22=>some (.slc (.st 48))
 |23=>some (.slc (.str))
 |24=>some (.slc (.st 51))
 |26=>some (.st 26)
 |27=>some (.fn)
 |28=>some (.fn)
 |29=>some (.slc (.int .i64))
 |30=>some (.slc (.st 65))
 |32=>some (.st 32)
 |33=>some (.slc (.slc (.str)))
 |35=>some (.st 35)
 |36=>some (.int .i64)
 |38=>some (.fn)
 |39=>some (.fn)
 |40=>some (.fn)
 |41=>some (.fn)
 |42=>some (.fn)
 |43=>some (.fn)
 |44=>some (.fn)
 |45=>some (.fn)
 |46=>some (.fn)
 |48=>some (.st 48)
 |49=>some (.slc (.st 62))
 |51=>some (.st 51)
 |52=>some (.fn)
 |53=>some (.fn)
 |54=>some (.fn)
 |56=>some (.fn)
 |57=>some (.fn)
 |58=>some (.slc (.st 60))
 |60=>some (.st 60)
 |62=>some (.st 62)
 |63=>some (.slc (.st 67))
 |65=>some (.st 65)
 |67=>some (.st 67)
 |68=>some (.fn)
 |72=>some (.fn)
 |73=>some (.fn)
 |75=>some (.st 75)
 |77=>some (.fn)
 |79=>some (.map (.str) (.st 103))
 |82=>some (.fn)
 |83=>some (.fn)
 |84=>some (.fn)
 |85=>some (.fn)
 |86=>some (.fn)
 |87=>some (.fn)
 |88=>some (.fn)
 |89=>some (.fn)
 |90=>some (.fn)
 |91=>some (.fn)
 |92=>some (.fn)
 |93=>some (.fn)
 |94=>some (.fn)
 |95=>some (.fn)
 |96=>some (.fn)
 |98=>some (.fn)
 |99=>some (.fn)
 |100=>some (.fn)
 |101=>some (.fn)
 |103=>some (.st 103)
 |105=>some (.fn)
 |106=>some (.fn)
 |107=>some (.fn)
 |108=>some (.fn)
 |109=>some (.fn)
 |111=>some (.st 111)
 |112=>some (.fn)
 |113=>some (.fn)
 |114=>some (.fn)
 |115=>some (.fn)
 |116=>some (.fn)
 |117=>some (.fn)
 |118=>some (.fn)
 |119=>some (.fn)
 |120=>some (.fn)
 |123=>some (.fn)
 |124=>some (.fn)
 |125=>some (.fn)
 |126=>some (.fn)
 |127=>some (.fn)
 |128=>some (.slc (.st 134))
 |130=>some (.st 130)
 |132=>some (.fn)
 |134=>some (.st 134)
 |136=>some (.st 136)
 |138=>some (.map (.int .i64) (.st 136))
 |139=>some (.fn)
 |140=>some (.fn)
 |141=>some (.fn)
 |142=>some (.slc (.st 146))
 |144=>some (.fn)
 |146=>some (.st 146)
 |148=>some (.fn)
 |150=>some (.fn)
 |152=>some (.fn)
 |153=>some (.fn)
 |154=>some (.fn)
 |155=>some (.fn)
 |157=>some (.fn)
 |158=>some (.fn)
 |160=>some (.fn)
 |161=>some (.fn)
 |162=>some (.fn)
 |164=>some (.fn)
 |165=>some (.fn)
 |166=>some (.fn)
 |167=>some (.fn)
 |168=>some (.fn)
 |170=>some (.err)
 |172=>some (.fn)
 |174=>some (.int .u64)
 |178=>some (.fn)
 |179=>some (.fn)
 |183=>some (.fn)
 |184=>some (.fn)
 |186=>some (.fn)
 |187=>some (.fn)
 |188=>some (.fn)
 |189=>some (.int .i64)
 |190=>some (.slc (.int .u8))
 |192=>some (.fn)
 |194=>some (.fn)
 |195=>some (.fn)
 |196=>some (.fn)
 |197=>some (.fn)
 |198=>some (.int .u64)
 |200=>some (.fn)
 |203=>some (.fn)
 |204=>some (.fn)
 |205=>some (.int .u32)
 |207=>some (.fn)
 |208=>some (.fn)
 |213=>some (.fn)
 |215=>some (.fn)
 |216=>some (.fn)
 |218=>some (.fn)
 |219=>some (.fn)
 |222=>some (.fn)
 |223=>some (.fn)
 |226=>some (.fn)
 |232=>some (.fn)
 |233=>some (.int .u8)
 |234=>some (.int .u8)
 |235=>some (.fn)
 |236=>some (.int .i32)
 |237=>some (.int .i32)
 |_=>none
noncomputable def eqOf (T:TypeId) (n:Nat):Option (U n→U n→Bool):=match n with
 |48=>bif Nat.beq T 48 then some fun (a b:TCell)=>decide (a=b) else none
 |75=>bif Nat.beq T 75 then some fun (a b:Refused)=>decide (a=b) else none
 |103=>bif Nat.beq T 103 then some fun (a b:Thing)=>decide (a=b) else none
 |130=>bif Nat.beq T 130 then some fun (a b:Fault)=>decide (a=b) else none
 |134=>bif Nat.beq T 134 then some fun (a b:Token)=>decide (a=b) else none
 |136=>bif Nat.beq T 136 then some fun (a b:Shape)=>decide (a=b) else none
 |146=>bif Nat.beq T 146 then some fun (a b:Spot)=>decide (a=b) else none
 |_=>none
noncomputable def deepOf:TypeId→Option Ty
 |22=>some (.own 48 (.st 48))
 |23=>some (.own 9 (.str))
 |24=>some (.own 51 (.st 1051))
 |26=>some (.st 1026)
 |29=>some (.own 3 (.int .i64))
 |30=>some (.own 65 (.st 1065))
 |32=>some (.st 1032)
 |33=>some (.own 23 (.own 9 (.str)))
 |35=>some (.st 1035)
 |49=>some (.own 62 (.st 1062))
 |51=>some (.st 1051)
 |58=>some (.own 60 (.st 1060))
 |60=>some (.st 1060)
 |62=>some (.st 1062)
 |63=>some (.own 67 (.st 1067))
 |65=>some (.st 1065)
 |67=>some (.st 1067)
 |111=>some (.st 1111)
 |128=>some (.own 134 (.st 134))
 |142=>some (.own 146 (.st 146))
 |190=>some (.own 5 (.int .u8))
 |_=>none
@[reducible] noncomputable def kk:Kit:={ P:=Tryz.prog,u:=uni,tyOf,eqOf,modes:=fun _=>[],deepOf }
theorem eqOk:EqOk kk:=by
 refine zatr fun T n f h=>?_
 change eqOf T n=some f at h
 change zagf Tryz.prog T (ctys n)=true∧∀ a b:U n,f a b=zabn (cells n a) (cells n b)
 unfold eqOf at h;split at h
 ·cases hb:Nat.beq T 48 with
  |true=>
   rw[hb] at h;cases Nat.eq_of_beq_eq_true hb;cases h;refine ⟨by kernel_rfl,?_⟩;rintro ⟨a0,a1⟩ ⟨b0,b1⟩
   simp[cells,zabn,zacu,cond_eq_ite,Bool.decide_and]
  |false=>rw[hb] at h; cases h
 ·cases hb:Nat.beq T 75 with
  |true=>
   rw[hb] at h;cases Nat.eq_of_beq_eq_true hb;cases h;refine ⟨by kernel_rfl,?_⟩;rintro ⟨a0,a1⟩ ⟨b0,b1⟩
   simp[cells,zabn,zacu,cond_eq_ite,Bool.decide_and]
  |false=>rw[hb] at h; cases h
 ·cases hb:Nat.beq T 103 with
  |true=>
   rw[hb] at h;cases Nat.eq_of_beq_eq_true hb;cases h;refine ⟨by kernel_rfl,?_⟩;rintro ⟨a0,a1⟩ ⟨b0,b1⟩
   simp[cells,zabn,zacu,cond_eq_ite,Bool.decide_and]
  |false=>rw[hb] at h; cases h
 ·cases hb:Nat.beq T 130 with
  |true=>
   rw[hb] at h;cases Nat.eq_of_beq_eq_true hb;cases h;refine ⟨by kernel_rfl,?_⟩;rintro ⟨a0,a1,a2⟩ ⟨b0,b1,b2⟩
   simp[cells,zabn,zacu,cond_eq_ite,Bool.decide_and]
  |false=>rw[hb] at h; cases h
 ·cases hb:Nat.beq T 134 with
  |true=>
   rw[hb] at h;cases Nat.eq_of_beq_eq_true hb;cases h;refine ⟨by kernel_rfl,?_⟩;rintro ⟨a0,a1,a2,a3⟩ ⟨b0,b1,b2,b3⟩
   simp[cells,zabn,zacu,cond_eq_ite,Bool.decide_and]
  |false=>rw[hb] at h; cases h
 ·cases hb:Nat.beq T 136 with
  |true=>
   rw[hb] at h;cases Nat.eq_of_beq_eq_true hb;cases h;refine ⟨by kernel_rfl,?_⟩;rintro ⟨a0,a1,a2,a3,a4,a5⟩ ⟨b0,b1,b2,b3,b4,b5⟩
   simp[cells,zabn,zacu,cond_eq_ite,Bool.decide_and]
  |false=>rw[hb] at h; cases h
 ·cases hb:Nat.beq T 146 with
  |true=>
   rw[hb] at h;cases Nat.eq_of_beq_eq_true hb;cases h;refine ⟨by kernel_rfl,?_⟩;rintro ⟨a0,a1,a2,a3⟩ ⟨b0,b1,b2,b3⟩
   simp[cells,zabn,zacu,cond_eq_ite,Bool.decide_and]
  |false=>rw[hb] at h; cases h
 ·cases h
theorem mixed:kk.P.follows .mixedOrders=true:=by kernel_rfl
end Lift.J6
namespace Lift.J6
open Go Go.RowKit Go.Proofs Lift Lift.Fn
noncomputable def strings_Contains_md:Mode U:=⟨⟨⟨[0,1],[],[]⟩,[.t (.str),.t (.str)],[]⟩,[],[⟨⟨[0],[],[]⟩,[.t (.bool)],[]⟩],fun ls=>match ls with|[⟨.str,a0⟩,⟨.str,a1⟩]=>.get (strings_Contains a0 a1) (fun r=>.ret (0,[⟨.bool,r⟩]))|_=>.fail⟩
noncomputable def unicode_utf8_DecodeRuneInString_md:Mode U:=⟨⟨⟨[0],[],[]⟩,[.t (.str)],[]⟩,[],[⟨⟨[0,1],[],[]⟩,[.t (.int .i32),.t (.int .i64)],[]⟩],fun ls=>match ls with|[⟨.str,a0⟩]=>.get (zaa3 a0) (fun r=>.ret (0,[⟨.int .i32,r.1⟩,⟨.int .i64,r.2⟩]))|_=>.fail⟩
noncomputable def unicode_utf8_RuneCountInString_md:Mode U:=⟨⟨⟨[0],[],[]⟩,[.t (.str)],[]⟩,[],[⟨⟨[0],[],[]⟩,[.t (.int .i64)],[]⟩],fun ls=>match ls with|[⟨.str,a0⟩]=>.get (zaa7 a0) (fun r=>.ret (0,[⟨.int .i64,r⟩]))|_=>.fail⟩
noncomputable def strings_Trim_md:Mode U:=⟨⟨⟨[0,1],[],[]⟩,[.t (.str),.t (.str)],[]⟩,[],[⟨⟨[0],[],[]⟩,[.t (.str)],[]⟩],fun ls=>match ls with|[⟨.str,a0⟩,⟨.str,a1⟩]=>.get (zacv a0 a1) (fun r=>.ret (0,[⟨.str,r⟩]))|_=>.fail⟩
noncomputable def strconv_Atoi_md:Mode U:=⟨⟨⟨[0],[],[]⟩,[.t (.str)],[]⟩,[],[⟨⟨[0,1],[],[]⟩,[.t (.int .i64),.t (.err)],[]⟩],fun ls=>match ls with|[⟨.str,a0⟩]=>.get (zacy a0) (fun r=>.ret (0,[⟨.int .i64,r.1⟩,⟨.err,r.2⟩]))|_=>.fail⟩
noncomputable def ms0:List (FuncId×Mode U):=[]
noncomputable def ms1:List (FuncId×Mode U):=(132,strings_Contains_md)::ms0
noncomputable def ms2:List (FuncId×Mode U):=(116,unicode_utf8_DecodeRuneInString_md)::ms1
noncomputable def ms3:List (FuncId×Mode U):=(124,unicode_utf8_RuneCountInString_md)::ms2
noncomputable def ms4:List (FuncId×Mode U):=(133,strings_Trim_md)::ms3
noncomputable def ms5:List (FuncId×Mode U):=(134,strconv_Atoi_md)::ms4
end Lift.J6
namespace Go.Proofs
open Go.Shelf Go.RowKit
def Tryz.laysContains_ren:Go.Shelf.Ren:=⟨fun|144=>132|143=>137|219=>148|217=>157|225=>158|224=>159|267=>160|266=>167|314=>168|n=>n,fun|9=>9|4=>4|3=>3|5=>5|46=>174|146=>206|51=>205|n=>n,fun|1=>2|n=>n⟩
theorem Tryz.laysContains:Go.Proofs.LaysM.n144 Tryz.prog Tryz.laysContains_ren where
 mixed:=by kernel_rfl
 f143:=Tryz.func137.trans (congrArg some (by kernel_rfl))
 f144:=Tryz.func132.trans (congrArg some (by kernel_rfl))
 f217:=Tryz.func157.trans (congrArg some (by kernel_rfl))
 f219:=Tryz.func148.trans (congrArg some (by kernel_rfl))
 f224:=Tryz.func159.trans (congrArg some (by kernel_rfl))
 f225:=Tryz.func158.trans (congrArg some (by kernel_rfl))
 f266:=Tryz.func167.trans (congrArg some (by kernel_rfl))
 f267:=Tryz.func160.trans (congrArg some (by kernel_rfl))
 f314:=Tryz.func168.trans (congrArg some (by kernel_rfl))
 t3:=Tryz.underlying3
 a3:=Tryz.isAgg3
 z3:=Tryz.sizeOf3
 v3:=Tryz.zeroValue3
 t4:=Tryz.underlying4
 a4:=Tryz.isAgg4
 z4:=Tryz.sizeOf4
 v4:=Tryz.zeroValue4
 t5:=Tryz.underlying5
 a5:=Tryz.isAgg5
 z5:=Tryz.sizeOf5
 v5:=Tryz.zeroValue5
 t9:=Tryz.underlying9
 a9:=Tryz.isAgg9
 z9:=Tryz.sizeOf9
 v9:=Tryz.zeroValue9
 t46:=Tryz.underlying174
 a46:=Tryz.isAgg174
 z46:=Tryz.sizeOf174
 v46:=Tryz.zeroValue174
 t51:=Tryz.underlying205
 a51:=Tryz.isAgg205
 z51:=Tryz.sizeOf205
 v51:=Tryz.zeroValue205
 t146:=Tryz.underlying206
 a146:=Tryz.isAgg206
 z146:=Tryz.sizeOf206
 v146:=Tryz.zeroValue206
 g1:=by kernel_rfl
 i3:=by kernel_rfl
 i4:=by kernel_rfl
 i5:=by kernel_rfl
 i9:=by kernel_rfl
 i46:=by kernel_rfl
 i51:=by kernel_rfl
 i146:=by kernel_rfl
 m1:=by kernel_rfl
 s1_3:=fun w h=>Go.Proofs.cell_of_shapedOpen_int (zero:=#[.int .i64 0]) (t:=3) h (of_decide_eq_true (by kernel_rfl)) (by kernel_rfl) rfl (by kernel_rfl) (by kernel_rfl) Tryz.underlying3
def Tryz.laysDecode_ren:Go.Shelf.Ren:=⟨fun|197=>116|260=>130|n=>n,fun|9=>9|21=>21|3=>3|4=>4|5=>5|105=>159|119=>173|0=>0|46=>174|139=>177|138=>176|n=>n,fun|3=>0|4=>1|n=>n⟩
theorem Tryz.laysDecode:Go.Proofs.Lays.n197 Tryz.prog Tryz.laysDecode_ren where
 mixed:=by kernel_rfl
 f197:=Tryz.func116.trans (congrArg some (by kernel_rfl))
 f260:=Tryz.func130.trans (congrArg some (by kernel_rfl))
 t0:=Tryz.underlying0
 a0:=Tryz.isAgg0
 z0:=Tryz.sizeOf0
 v0:=Tryz.zeroValue0
 t3:=Tryz.underlying3
 a3:=Tryz.isAgg3
 z3:=Tryz.sizeOf3
 v3:=Tryz.zeroValue3
 t4:=Tryz.underlying4
 a4:=Tryz.isAgg4
 z4:=Tryz.sizeOf4
 v4:=Tryz.zeroValue4
 t5:=Tryz.underlying5
 a5:=Tryz.isAgg5
 z5:=Tryz.sizeOf5
 v5:=Tryz.zeroValue5
 t9:=Tryz.underlying9
 a9:=Tryz.isAgg9
 z9:=Tryz.sizeOf9
 v9:=Tryz.zeroValue9
 t21:=Tryz.underlying21
 a21:=Tryz.isAgg21
 z21:=Tryz.sizeOf21
 v21:=Tryz.zeroValue21
 t46:=Tryz.underlying174
 a46:=Tryz.isAgg174
 z46:=Tryz.sizeOf174
 v46:=Tryz.zeroValue174
 t105:=Tryz.underlying159
 a105:=Tryz.isAgg159
 z105:=Tryz.sizeOf159
 v105:=Tryz.zeroValue159
 t119:=Tryz.underlying173
 a119:=Tryz.isAgg173
 z119:=Tryz.sizeOf173
 t138:=Tryz.underlying176
 a138:=Tryz.isAgg176
 z138:=Tryz.sizeOf176
 v138:=Tryz.zeroValue176
 t139:=Tryz.underlying177
 a139:=Tryz.isAgg177
 z139:=Tryz.sizeOf177
 v139:=Tryz.zeroValue177
 g3:=by kernel_rfl
 g4:=by kernel_rfl
def Tryz.laysCount_ren:Go.Shelf.Ren:=⟨fun|195=>124|n=>n,fun|9=>9|3=>3|0=>0|4=>4|n=>n,fun|n=>n⟩
theorem Tryz.laysCount:Go.Proofs.Lays.n195 Tryz.prog Tryz.laysCount_ren where
 mixed:=by kernel_rfl
 f195:=Tryz.func124.trans (congrArg some (by kernel_rfl))
 t0:=Tryz.underlying0
 a0:=Tryz.isAgg0
 z0:=Tryz.sizeOf0
 v0:=Tryz.zeroValue0
 t3:=Tryz.underlying3
 a3:=Tryz.isAgg3
 z3:=Tryz.sizeOf3
 v3:=Tryz.zeroValue3
 t4:=Tryz.underlying4
 a4:=Tryz.isAgg4
 z4:=Tryz.sizeOf4
 v4:=Tryz.zeroValue4
 t9:=Tryz.underlying9
 a9:=Tryz.isAgg9
 z9:=Tryz.sizeOf9
 v9:=Tryz.zeroValue9
def Tryz.laysTrim_ren:Go.Shelf.Ren:=⟨fun|160=>133|232=>139|231=>138|227=>140|234=>142|233=>141|236=>144|235=>143|228=>149|271=>151|151=>150|197=>116|120=>162|152=>161|260=>130|137=>169|119=>147|224=>159|225=>158|217=>157|266=>167|n=>n,fun|9=>9|4=>4|3=>3|5=>5|117=>182|116=>181|0=>0|124=>185|21=>21|105=>159|46=>174|119=>173|139=>177|138=>176|n=>n,fun|3=>0|4=>1|n=>n⟩
theorem Tryz.laysTrim:Go.Proofs.Lays.n160 Tryz.prog Tryz.laysTrim_ren where
 mixed:=by kernel_rfl
 f119:=Tryz.func147.trans (congrArg some (by kernel_rfl))
 f120:=Tryz.func162.trans (congrArg some (by kernel_rfl))
 f137:=Tryz.func169.trans (congrArg some (by kernel_rfl))
 f151:=Tryz.func150.trans (congrArg some (by kernel_rfl))
 f152:=Tryz.func161.trans (congrArg some (by kernel_rfl))
 f160:=Tryz.func133.trans (congrArg some (by kernel_rfl))
 f197:=Tryz.func116.trans (congrArg some (by kernel_rfl))
 f217:=Tryz.func157.trans (congrArg some (by kernel_rfl))
 f224:=Tryz.func159.trans (congrArg some (by kernel_rfl))
 f225:=Tryz.func158.trans (congrArg some (by kernel_rfl))
 f227:=Tryz.func140.trans (congrArg some (by kernel_rfl))
 f228:=Tryz.func149.trans (congrArg some (by kernel_rfl))
 f231:=Tryz.func138.trans (congrArg some (by kernel_rfl))
 f232:=Tryz.func139.trans (congrArg some (by kernel_rfl))
 f233:=Tryz.func141.trans (congrArg some (by kernel_rfl))
 f234:=Tryz.func142.trans (congrArg some (by kernel_rfl))
 f235:=Tryz.func143.trans (congrArg some (by kernel_rfl))
 f236:=Tryz.func144.trans (congrArg some (by kernel_rfl))
 f260:=Tryz.func130.trans (congrArg some (by kernel_rfl))
 f266:=Tryz.func167.trans (congrArg some (by kernel_rfl))
 f271:=Tryz.func151.trans (congrArg some (by kernel_rfl))
 t0:=Tryz.underlying0
 a0:=Tryz.isAgg0
 z0:=Tryz.sizeOf0
 v0:=Tryz.zeroValue0
 t3:=Tryz.underlying3
 a3:=Tryz.isAgg3
 z3:=Tryz.sizeOf3
 v3:=Tryz.zeroValue3
 t4:=Tryz.underlying4
 a4:=Tryz.isAgg4
 z4:=Tryz.sizeOf4
 v4:=Tryz.zeroValue4
 t5:=Tryz.underlying5
 a5:=Tryz.isAgg5
 z5:=Tryz.sizeOf5
 v5:=Tryz.zeroValue5
 t9:=Tryz.underlying9
 a9:=Tryz.isAgg9
 z9:=Tryz.sizeOf9
 v9:=Tryz.zeroValue9
 t21:=Tryz.underlying21
 a21:=Tryz.isAgg21
 z21:=Tryz.sizeOf21
 v21:=Tryz.zeroValue21
 t46:=Tryz.underlying174
 a46:=Tryz.isAgg174
 z46:=Tryz.sizeOf174
 v46:=Tryz.zeroValue174
 t105:=Tryz.underlying159
 a105:=Tryz.isAgg159
 z105:=Tryz.sizeOf159
 v105:=Tryz.zeroValue159
 t116:=Tryz.underlying181
 a116:=Tryz.isAgg181
 z116:=Tryz.sizeOf181
 t117:=Tryz.underlying182
 a117:=Tryz.isAgg182
 z117:=Tryz.sizeOf182
 v117:=Tryz.zeroValue182
 t119:=Tryz.underlying173
 a119:=Tryz.isAgg173
 z119:=Tryz.sizeOf173
 t124:=Tryz.underlying185
 a124:=Tryz.isAgg185
 z124:=Tryz.sizeOf185
 v124:=Tryz.zeroValue185
 t138:=Tryz.underlying176
 a138:=Tryz.isAgg176
 z138:=Tryz.sizeOf176
 v138:=Tryz.zeroValue176
 t139:=Tryz.underlying177
 a139:=Tryz.isAgg177
 z139:=Tryz.sizeOf177
 v139:=Tryz.zeroValue177
 g3:=by kernel_rfl
 g4:=by kernel_rfl
def Tryz.laysAtoi_ren:Go.Shelf.Ren:=⟨fun|172=>134|244=>145|245=>146|247=>152|279=>153|280=>154|281=>155|282=>156|287=>163|316=>164|171=>166|205=>165|321=>170|322=>171|243=>172|246=>173|283=>174|284=>175|285=>176|286=>177|129=>179|317=>178|318=>180|319=>181|320=>182|337=>183|338=>184|n=>n,fun|9=>9|3=>3|75=>170|76=>171|4=>4|5=>5|167=>189|37=>190|0=>0|85=>191|2=>2|168=>193|53=>198|175=>199|46=>174|210=>202|127=>209|145=>212|143=>210|21=>21|171=>214|173=>217|212=>220|51=>205|20=>20|213=>221|232=>224|233=>225|80=>226|n=>n,fun|15=>3|16=>4|17=>5|18=>6|19=>7|n=>n⟩
theorem Tryz.laysAtoi:Go.Proofs.LaysC.n172 Tryz.prog Tryz.laysAtoi_ren where
 mixed:=by kernel_rfl
 f129:=Tryz.func179.trans (congrArg some (by kernel_rfl))
 f171:=Tryz.func166.trans (congrArg some (by kernel_rfl))
 f172:=Tryz.func134.trans (congrArg some (by kernel_rfl))
 f205:=Tryz.func165.trans (congrArg some (by kernel_rfl))
 f243:=Tryz.func172.trans (congrArg some (by kernel_rfl))
 f244:=Tryz.func145.trans (congrArg some (by kernel_rfl))
 f245:=Tryz.func146.trans (congrArg some (by kernel_rfl))
 f246:=Tryz.func173.trans (congrArg some (by kernel_rfl))
 f247:=Tryz.func152.trans (congrArg some (by kernel_rfl))
 f279:=Tryz.func153.trans (congrArg some (by kernel_rfl))
 f280:=Tryz.func154.trans (congrArg some (by kernel_rfl))
 f281:=Tryz.func155.trans (congrArg some (by kernel_rfl))
 f282:=Tryz.func156.trans (congrArg some (by kernel_rfl))
 f283:=Tryz.func174.trans (congrArg some (by kernel_rfl))
 f284:=Tryz.func175.trans (congrArg some (by kernel_rfl))
 f285:=Tryz.func176.trans (congrArg some (by kernel_rfl))
 f286:=Tryz.func177.trans (congrArg some (by kernel_rfl))
 f287:=Tryz.func163.trans (congrArg some (by kernel_rfl))
 f316:=Tryz.func164.trans (congrArg some (by kernel_rfl))
 f317:=Tryz.func178.trans (congrArg some (by kernel_rfl))
 f318:=Tryz.func180.trans (congrArg some (by kernel_rfl))
 f319:=Tryz.func181.trans (congrArg some (by kernel_rfl))
 f320:=Tryz.func182.trans (congrArg some (by kernel_rfl))
 f321:=Tryz.func170.trans (congrArg some (by kernel_rfl))
 f322:=Tryz.func171.trans (congrArg some (by kernel_rfl))
 f337:=Tryz.func183.trans (congrArg some (by kernel_rfl))
 f338:=Tryz.func184.trans (congrArg some (by kernel_rfl))
 t0:=Tryz.underlying0
 a0:=Tryz.isAgg0
 z0:=Tryz.sizeOf0
 v0:=Tryz.zeroValue0
 t2:=Tryz.underlying2
 a2:=Tryz.isAgg2
 z2:=Tryz.sizeOf2
 v2:=Tryz.zeroValue2
 t3:=Tryz.underlying3
 a3:=Tryz.isAgg3
 z3:=Tryz.sizeOf3
 v3:=Tryz.zeroValue3
 t4:=Tryz.underlying4
 a4:=Tryz.isAgg4
 z4:=Tryz.sizeOf4
 v4:=Tryz.zeroValue4
 t5:=Tryz.underlying5
 a5:=Tryz.isAgg5
 z5:=Tryz.sizeOf5
 v5:=Tryz.zeroValue5
 t9:=Tryz.underlying9
 a9:=Tryz.isAgg9
 z9:=Tryz.sizeOf9
 v9:=Tryz.zeroValue9
 t20:=Tryz.underlying20
 a20:=Tryz.isAgg20
 z20:=Tryz.sizeOf20
 v20:=Tryz.zeroValue20
 t21:=Tryz.underlying21
 a21:=Tryz.isAgg21
 z21:=Tryz.sizeOf21
 v21:=Tryz.zeroValue21
 t37:=Tryz.underlying190
 a37:=Tryz.isAgg190
 z37:=Tryz.sizeOf190
 v37:=Tryz.zeroValue190
 t46:=Tryz.underlying174
 a46:=Tryz.isAgg174
 z46:=Tryz.sizeOf174
 v46:=Tryz.zeroValue174
 t51:=Tryz.underlying205
 a51:=Tryz.isAgg205
 z51:=Tryz.sizeOf205
 v51:=Tryz.zeroValue205
 t53:=Tryz.underlying198
 a53:=Tryz.isAgg198
 z53:=Tryz.sizeOf198
 v53:=Tryz.zeroValue198
 t75:=Tryz.underlying170
 a75:=Tryz.isAgg170
 z75:=Tryz.sizeOf170
 v75:=Tryz.zeroValue170
 t76:=Tryz.underlying171
 a76:=Tryz.isAgg171
 z76:=Tryz.sizeOf171
 v76:=Tryz.zeroValue171
 t85:=Tryz.underlying191
 a85:=Tryz.isAgg191
 z85:=Tryz.sizeOf191
 v85:=Tryz.zeroValue191
 t127:=Tryz.underlying209
 a127:=Tryz.isAgg209
 z127:=Tryz.sizeOf209
 v127:=Tryz.zeroValue209
 t143:=Tryz.underlying210
 a143:=Tryz.isAgg210
 z143:=Tryz.sizeOf210
 v143:=Tryz.zeroValue210
 t145:=Tryz.underlying212
 a145:=Tryz.isAgg212
 z145:=Tryz.sizeOf212
 v145:=Tryz.zeroValue212
 t167:=Tryz.underlying189
 a167:=Tryz.isAgg189
 z167:=Tryz.sizeOf189
 v167:=Tryz.zeroValue189
 t168:=Tryz.underlying193
 a168:=Tryz.isAgg193
 z168:=Tryz.sizeOf193
 v168:=Tryz.zeroValue193
 t171:=Tryz.underlying214
 a171:=Tryz.isAgg214
 z171:=Tryz.sizeOf214
 v171:=Tryz.zeroValue214
 t173:=Tryz.underlying217
 a173:=Tryz.isAgg217
 z173:=Tryz.sizeOf217
 v173:=Tryz.zeroValue217
 t175:=Tryz.underlying199
 a175:=Tryz.isAgg199
 z175:=Tryz.sizeOf199
 v175:=Tryz.zeroValue199
 t210:=Tryz.underlying202
 a210:=Tryz.isAgg202
 z210:=Tryz.sizeOf202
 v210:=Tryz.zeroValue202
 t212:=Tryz.underlying220
 a212:=Tryz.isAgg220
 z212:=Tryz.sizeOf220
 v212:=Tryz.zeroValue220
 t213:=Tryz.underlying221
 a213:=Tryz.isAgg221
 z213:=Tryz.sizeOf221
 t232:=Tryz.underlying224
 a232:=Tryz.isAgg224
 z232:=Tryz.sizeOf224
 v232:=Tryz.zeroValue224
 t233:=Tryz.underlying225
 a233:=Tryz.isAgg225
 z233:=Tryz.sizeOf225
 v233:=Tryz.zeroValue225
 g15:=by kernel_rfl
 g16:=by kernel_rfl
 g17:=by kernel_rfl
 g18:=by kernel_rfl
 g19:=by kernel_rfl
 t80:=Tryz.underlying226
 a80:=Tryz.isAgg226
 z80:=Tryz.sizeOf226
 v80:=Tryz.zeroValue226
 i0:=by kernel_rfl
 i2:=by kernel_rfl
 i3:=by kernel_rfl
 i4:=by kernel_rfl
 i5:=by kernel_rfl
 i9:=by kernel_rfl
 i20:=by kernel_rfl
 i21:=by kernel_rfl
 i37:=by kernel_rfl
 i46:=by kernel_rfl
 i51:=by kernel_rfl
 i53:=by kernel_rfl
 i75:=by kernel_rfl
 i76:=by kernel_rfl
 i80:=by kernel_rfl
 i85:=by kernel_rfl
 i127:=by kernel_rfl
 i143:=by kernel_rfl
 i145:=by kernel_rfl
 i167:=by kernel_rfl
 i168:=by kernel_rfl
 i171:=by kernel_rfl
 i173:=by kernel_rfl
 i175:=by kernel_rfl
 i210:=by kernel_rfl
 i212:=by kernel_rfl
 i232:=by kernel_rfl
 i233:=by kernel_rfl
 m15:=by kernel_rfl
 m16:=by kernel_rfl
 m17:=by kernel_rfl
 m18:=by kernel_rfl
 m19:=by kernel_rfl
 c0:=by kernel_rfl
 c2:=by kernel_rfl
 c3:=by kernel_rfl
 c4:=by kernel_rfl
 c5:=by kernel_rfl
 c9:=by kernel_rfl
 c20:=by kernel_rfl
 c21:=by kernel_rfl
 c37:=by kernel_rfl
 c46:=by kernel_rfl
 c51:=by kernel_rfl
 c53:=by kernel_rfl
 c75:=by kernel_rfl
 c76:=by kernel_rfl
 c80:=by kernel_rfl
 c85:=by kernel_rfl
 c127:=by kernel_rfl
 c143:=by kernel_rfl
 c145:=by kernel_rfl
 c167:=by kernel_rfl
 c168:=by kernel_rfl
 c171:=by kernel_rfl
 c173:=by kernel_rfl
 c175:=by kernel_rfl
 c210:=by kernel_rfl
 c212:=by kernel_rfl
 c213:=by kernel_rfl
 c232:=by kernel_rfl
 c233:=by kernel_rfl
theorem Tryz.boolRow:(Tryz.prog.info? (Tryz.laysTrim_ren.t 116)).map (fun i=>(i.zero,i.size))=some (some (.agg (Array.replicate 256 (.bool false))),256):=by kernel_rfl
end Go.Proofs
namespace Lift.J6
open Go Go.RowKit Go.Proofs Lift Lift.Fn
theorem zaek {w w':World} {n:Nat} (h:∀ k,k<n→w'.heap[k]? = w.heap[k]?) {b o:Nat} (hb:b<n):w'.cell? ⟨b,o,none⟩=w.cell? ⟨b,o,none⟩:=by
 unfold World.cell?;rw[h b hb]
def isErr (v:Value):Prop:=v=.nilIface∨∃ te pe,v=.iface te pe
def globs (w:World):Prop:=Go.Lib.Utf8Tabs 0 1 w∧(∃ m,w.cell? ⟨2,0,none⟩=some (.int .i64 m))∧(∃ a b,(w.cell? ⟨3,0,none⟩=some a∧isErr a)∧(w.cell? ⟨4,0,none⟩=some b∧isErr b))∧True
theorem zaqn (w w':World) (h:globs w) (hs:∀ k,k<5→w'.heap[k]? = w.heap[k]?):globs w':=by
 refine ⟨?_,?_,?_,trivial⟩
 ·obtain ⟨h1,h2⟩:=h.1;refine ⟨fun c hc=>?_,fun i hi=>?_⟩
  ·rw[zaek hs (by omega)]; exact h1 c hc
  ·rw[zaek hs (by omega),zaek hs (by omega)]; exact h2 i hi
 ·obtain ⟨m,h3⟩:=h.2.1;exact ⟨m,by rw[zaek hs (by omega)]; exact h3⟩
 ·obtain ⟨a,b,⟨h4,h5⟩,h6,h7⟩:=h.2.2.1;exact ⟨a,b,⟨by rw[zaek hs (by omega)]; exact h4,h5⟩,by rw[zaek hs (by omega)]; exact h6,h7⟩
@[reducible] def env0:Env:=⟨globs,5,fun w w' h hs _ _ _=>zaqn w w' h hs⟩
theorem known0:Known kk env0 (zaac ms0):=known_nil
theorem strings_Contains_post:∀ ls j rs,(strings_Contains_md.sum ls).val=some (j,rs)→zabd kk env0 132 strings_Contains_md.sh strings_Contains_md.outs ls j rs:=by
 intro ls j rs h;simp only[strings_Contains_md] at h;split at h
 ·obtain ⟨r,hr,h⟩:=Tr.get_val h;rw[strings_Contains,zaaa,zadl,cond_eq_ite,Option.ite_none_right_eq_some,decide_eq_true_eq] at hr;obtain ⟨hc,hr⟩:=hr;cases hr;cases h;exact contains_post (K:=kk) (V:=env0) (ρ:=Tryz.laysContains_ren) ({ Tryz.laysContains with }) (fun w h=>h.2.1) _ _ hc
 ·cases h
theorem known1:Known kk env0 (zaac ms1):=known_cons (by kernel_rfl) strings_Contains_post known0
theorem unicode_utf8_DecodeRuneInString_post:∀ ls j rs,(unicode_utf8_DecodeRuneInString_md.sum ls).val=some (j,rs)→zabd kk env0 116 unicode_utf8_DecodeRuneInString_md.sh unicode_utf8_DecodeRuneInString_md.outs ls j rs:=by
 intro ls j rs h;simp only[unicode_utf8_DecodeRuneInString_md] at h;split at h
 ·obtain ⟨r,hr,h⟩:=Tr.get_val h;rw[zaa3,zaaa,zabo] at hr;cases hr;cases h;exact decode_post (K:=kk) (V:=env0) (ρ:=Tryz.laysDecode_ren) Tryz.laysDecode (fun w h=>h.1) _
 ·cases h
theorem known2:Known kk env0 (zaac ms2):=known_cons (by kernel_rfl) unicode_utf8_DecodeRuneInString_post known1
theorem unicode_utf8_RuneCountInString_post:∀ ls j rs,(unicode_utf8_RuneCountInString_md.sum ls).val=some (j,rs)→zabd kk env0 124 unicode_utf8_RuneCountInString_md.sh unicode_utf8_RuneCountInString_md.outs ls j rs:=by
 intro ls j rs h;simp only[unicode_utf8_RuneCountInString_md] at h;split at h
 ·obtain ⟨r,hr,h⟩:=Tr.get_val h;rw[zaa7,zaaa,zabq,cond_eq_ite,Option.ite_none_right_eq_some,decide_eq_true_eq] at hr;obtain ⟨hc,hr⟩:=hr;cases hr;cases h;exact runeCount_post (K:=kk) (V:=env0) (ρ:=Tryz.laysCount_ren) Tryz.laysCount _ hc
 ·cases h
theorem known3:Known kk env0 (zaac ms3):=known_cons (by kernel_rfl) unicode_utf8_RuneCountInString_post known2
theorem strings_Trim_post:∀ ls j rs,(strings_Trim_md.sum ls).val=some (j,rs)→zabd kk env0 133 strings_Trim_md.sh strings_Trim_md.outs ls j rs:=by
 intro ls j rs h;simp only[strings_Trim_md] at h;split at h
 ·obtain ⟨r,hr,h⟩:=Tr.get_val h;rw[zacv,zaaa,zafb,cond_eq_ite,Option.ite_none_right_eq_some,Bool.and_eq_true,decide_eq_true_eq] at hr;obtain ⟨⟨hc,hd⟩,hr⟩:=hr;cases hr;cases h;exact trim_post (K:=kk) (V:=env0) (ρ:=Tryz.laysTrim_ren) Tryz.laysTrim Tryz.boolRow _ _ hc.1 hc.2 hd
 ·cases h
theorem known4:Known kk env0 (zaac ms4):=known_cons (by kernel_rfl) strings_Trim_post known3
theorem strconv_Atoi_post:∀ ls j rs,(strconv_Atoi_md.sum ls).val=some (j,rs)→zabd kk env0 134 strconv_Atoi_md.sh strconv_Atoi_md.outs ls j rs:=by
 intro ls j rs h;simp only[strconv_Atoi_md] at h;split at h
 ·obtain ⟨r,hr,h⟩:=Tr.get_val h;rw[zacy,zaaa,zafg,cond_eq_ite,Option.ite_none_right_eq_some,decide_eq_true_eq] at hr;obtain ⟨hc,hr⟩:=hr;cases hr;cases h;exact atoi_post (K:=kk) (V:=env0) (ρ:=Tryz.laysAtoi_ren) Tryz.laysAtoi (fun w h=>h.2.2.1) _ hc
 ·cases h
theorem known5:Known kk env0 (zaac ms5):=known_cons (by kernel_rfl) strconv_Atoi_post known4
end Lift.J6
