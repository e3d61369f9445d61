/-
  DERIVED. The functions of this seat as Lean has them; the library's modes. Conditions: none.
-/
import Derived.Test.YtcmhkcpheehlhaaGreatDoorLiftC
import Derived.Test.YtcmhkcpheehlhaaGreatDoorProg
import Derived.KernelRfl
set_option linter.unusedVariables false
set_option linter.unusedSimpArgs false
set_option linter.unusedSectionVars false
namespace Lift
structure Wrong where
 at_:Int
 deriving DecidableEq
structure Oper where
 (sign:List UInt8) (level:Int) (left:Int) (right:Int)
 deriving DecidableEq
end Lift
namespace Lift.Q5
open Go Go.RowKit Go.Proofs Lift
@[reducible] noncomputable def U (n:Nat):Type:=match n with
 |27=>TProg
 |30=>Fault
 |37=>Token
 |46=>TThread
 |50=>TExpr
 |52=>TStmt
 |62=>TCell
 |64=>Wrong
 |77=>Spot
 |138=>Oper
 |154=>Shape
 |1027=>TProg
 |1046=>TThread
 |1050=>TExpr
 |1052=>TStmt
 |2046=>TThread
 |_=>Empty
noncomputable def cells (n:Nat):U n->List (TV U):=match n with
 |27=>fun (x:TProg)=>[⟨.slc (.st 62),x.cells⟩,⟨.slc (.str),x.mutexes⟩,⟨.slc (.st 46),x.threads⟩]
 |30=>fun (x:Fault)=>[⟨.int .i64,x.code⟩,⟨.int .i64,x.at_⟩,⟨.str,x.name⟩]
 |37=>fun (x:Token)=>[⟨.int .i64,x.kind⟩,⟨.str,x.text⟩,⟨.int .i64,x.num⟩,⟨.int .i64,x.at_⟩]
 |46=>fun (x:TThread)=>[⟨.str,x.name⟩,⟨.slc (.st 52),x.body⟩]
 |50=>fun (x:TExpr)=>[⟨.int .i64,x.kind⟩,⟨.int .i64,x.num⟩,⟨.str,x.name⟩,⟨.slc (.st 50),x.args⟩]
 |52=>fun (x:TStmt)=>[⟨.int .i64,x.kind⟩,⟨.str,x.reg⟩,⟨.str,x.name⟩,⟨.int .i64,x.expr.kind⟩,⟨.int .i64,x.expr.num⟩,⟨.str,x.expr.name⟩,⟨.slc (.st 50),x.expr.args⟩,⟨.int .i64,x.count⟩,⟨.slc (.st 52),x.then_⟩,⟨.slc (.st 52),x.else_⟩]
 |62=>fun (x:TCell)=>[⟨.str,x.name⟩,⟨.int .i64,x.init⟩]
 |64=>fun (x:Wrong)=>[⟨.int .i64,x.at_⟩]
 |77=>fun (x:Spot)=>[⟨.int .i64,x.rune⟩,⟨.int .i64,x.at_⟩,⟨.int .i64,x.line⟩,⟨.int .i64,x.col⟩]
 |138=>fun (x:Oper)=>[⟨.str,x.sign⟩,⟨.int .i64,x.level⟩,⟨.int .i64,x.left⟩,⟨.int .i64,x.right⟩]
 |154=>fun (x:Shape)=>[⟨.bool,x.reg⟩,⟨.bool,x.name⟩,⟨.bool,x.expr⟩,⟨.bool,x.count⟩,⟨.bool,x.then_⟩,⟨.bool,x.other⟩]
 |1027=>fun (x:TProg)=>[⟨.own 62 (.st 62),x.cells⟩,⟨.own 9 (.str),x.mutexes⟩,⟨.own 46 (.st 1046),x.threads⟩]
 |1046=>fun (x:TThread)=>[⟨.str,x.name⟩,⟨.own 52 (.st 1052),x.body⟩]
 |1050=>fun (x:TExpr)=>[⟨.int .i64,x.kind⟩,⟨.int .i64,x.num⟩,⟨.str,x.name⟩,⟨.own 50 (.st 1050),x.args⟩]
 |1052=>fun (x:TStmt)=>[⟨.int .i64,x.kind⟩,⟨.str,x.reg⟩,⟨.str,x.name⟩,⟨.int .i64,x.expr.kind⟩,⟨.int .i64,x.expr.num⟩,⟨.str,x.expr.name⟩,⟨.own 50 (.st 1050),x.expr.args⟩,⟨.int .i64,x.count⟩,⟨.own 52 (.st 1052),x.then_⟩,⟨.own 52 (.st 1052),x.else_⟩]
 |2046=>fun (x:TThread)=>[⟨.str,x.name⟩,⟨.own 52 (.st 52),x.body⟩]
 |_=>fun _=>[]
noncomputable def ctys (n:Nat):List Ty:=match n with
 |27=>[.slc (.st 62),.slc (.str),.slc (.st 46)]
 |30=>[.int .i64,.int .i64,.str]
 |37=>[.int .i64,.str,.int .i64,.int .i64]
 |46=>[.str,.slc (.st 52)]
 |50=>[.int .i64,.int .i64,.str,.slc (.st 50)]
 |52=>[.int .i64,.str,.str,.int .i64,.int .i64,.str,.slc (.st 50),.int .i64,.slc (.st 52),.slc (.st 52)]
 |62=>[.str,.int .i64]
 |64=>[.int .i64]
 |77=>[.int .i64,.int .i64,.int .i64,.int .i64]
 |138=>[.str,.int .i64,.int .i64,.int .i64]
 |154=>[.bool,.bool,.bool,.bool,.bool,.bool]
 |1027=>[.own 62 (.st 62),.own 9 (.str),.own 46 (.st 1046)]
 |1046=>[.str,.own 52 (.st 1052)]
 |1050=>[.int .i64,.int .i64,.str,.own 50 (.st 1050)]
 |1052=>[.int .i64,.str,.str,.int .i64,.int .i64,.str,.own 50 (.st 1050),.int .i64,.own 52 (.st 1052),.own 52 (.st 1052)]
 |2046=>[.str,.own 52 (.st 52)]
 |_=>[]
noncomputable def make (n:Nat):List (TV U)->Option (U n):=match n with
 |27=>fun|[⟨.slc (.st 62),v0⟩,⟨.slc (.str),v1⟩,⟨.slc (.st 46),v2⟩]=>some (TProg.mk v0 v1 v2)|_=>none
 |30=>fun|[⟨.int .i64,v0⟩,⟨.int .i64,v1⟩,⟨.str,v2⟩]=>some (Fault.mk v0 v1 v2)|_=>none
 |37=>fun|[⟨.int .i64,v0⟩,⟨.str,v1⟩,⟨.int .i64,v2⟩,⟨.int .i64,v3⟩]=>some (Token.mk v0 v1 v2 v3)|_=>none
 |46=>fun|[⟨.str,v0⟩,⟨.slc (.st 52),v1⟩]=>some (TThread.mk v0 v1)|_=>none
 |50=>fun|[⟨.int .i64,v0⟩,⟨.int .i64,v1⟩,⟨.str,v2⟩,⟨.slc (.st 50),v3⟩]=>some (TExpr.mk v0 v1 v2 v3)|_=>none
 |52=>fun|[⟨.int .i64,v0⟩,⟨.str,v1⟩,⟨.str,v2⟩,⟨.int .i64,v3⟩,⟨.int .i64,v4⟩,⟨.str,v5⟩,⟨.slc (.st 50),v6⟩,⟨.int .i64,v7⟩,⟨.slc (.st 52),v8⟩,⟨.slc (.st 52),v9⟩]=>some (TStmt.mk v0 v1 v2 (TExpr.mk v3 v4 v5 v6) v7 v8 v9)|_=>none
 |62=>fun|[⟨.str,v0⟩,⟨.int .i64,v1⟩]=>some (TCell.mk v0 v1)|_=>none
 |64=>fun|[⟨.int .i64,v0⟩]=>some (Wrong.mk v0)|_=>none
 |77=>fun|[⟨.int .i64,v0⟩,⟨.int .i64,v1⟩,⟨.int .i64,v2⟩,⟨.int .i64,v3⟩]=>some (Spot.mk v0 v1 v2 v3)|_=>none
 |138=>fun|[⟨.str,v0⟩,⟨.int .i64,v1⟩,⟨.int .i64,v2⟩,⟨.int .i64,v3⟩]=>some (Oper.mk v0 v1 v2 v3)|_=>none
 |154=>fun|[⟨.bool,v0⟩,⟨.bool,v1⟩,⟨.bool,v2⟩,⟨.bool,v3⟩,⟨.bool,v4⟩,⟨.bool,v5⟩]=>some (Shape.mk v0 v1 v2 v3 v4 v5)|_=>none
 |1027=>fun|[⟨.own 62 (.st 62),v0⟩,⟨.own 9 (.str),v1⟩,⟨.own 46 (.st 1046),v2⟩]=>some (TProg.mk v0 v1 v2)|_=>none
 |1046=>fun|[⟨.str,v0⟩,⟨.own 52 (.st 1052),v1⟩]=>some (TThread.mk v0 v1)|_=>none
 |1050=>fun|[⟨.int .i64,v0⟩,⟨.int .i64,v1⟩,⟨.str,v2⟩,⟨.own 50 (.st 1050),v3⟩]=>some (TExpr.mk v0 v1 v2 v3)|_=>none
 |1052=>fun|[⟨.int .i64,v0⟩,⟨.str,v1⟩,⟨.str,v2⟩,⟨.int .i64,v3⟩,⟨.int .i64,v4⟩,⟨.str,v5⟩,⟨.own 50 (.st 1050),v6⟩,⟨.int .i64,v7⟩,⟨.own 52 (.st 1052),v8⟩,⟨.own 52 (.st 1052),v9⟩]=>some (TStmt.mk v0 v1 v2 (TExpr.mk v3 v4 v5 v6) v7 v8 v9)|_=>none
 |2046=>fun|[⟨.str,v0⟩,⟨.own 52 (.st 52),v1⟩]=>some (TThread.mk v0 v1)|_=>none
 |_=>fun _=>none
def pn (n:Nat):Nat:=match n with
 |1027=>27
 |1046=>46
 |1050=>50
 |1052=>52
 |2046=>46
 |n=>n
def closed (n:Nat):Bool:=match n with
 |1027=>true
 |1046=>true
 |1050=>true
 |1052=>true
 |30=>true
 |37=>true
 |62=>true
 |64=>true
 |77=>true
 |138=>true
 |154=>true
 |_=>false
def ids:List Nat:=[27,30,37,46,50,52,62,64,77,138,154,1027,1046,1050,1052,2046]
theorem zafz {n:Nat} (h:n∉ids):(∀ x,cells n x=[])/\ctys n=[]/\pn n=n/\closed n=false:=by
 refine ⟨?_,?_,?_,?_⟩
 ·intro x; unfold cells; split<;>first|rfl|exact absurd (by decide) h
 ·unfold ctys; split<;>first|rfl|exact absurd (by decide) h
 ·unfold pn; split<;>first|rfl|exact absurd (by decide) h
 ·unfold closed; split<;>first|rfl|exact absurd (by decide) h
theorem zam9 {P:Nat->Prop} (h1:∀ n∈ids,P n) (h2:∀ n,n∉ids->P n) (n:Nat):P n:=by
 by_cases h:n∈ids
 ·exact h1 n h
 ·exact h2 n h
theorem pd:∀ n,U (pn n)=U n:=zam9 (by unfold ids; simp only[List.forall_mem_cons]; exact ⟨rfl,rfl,rfl,rfl,rfl,rfl,rfl,rfl,rfl,rfl,rfl,rfl,rfl,rfl,rfl,rfl,fun n h=>by cases h⟩) (fun n h=>by rw[(zafz h).2.2.1])
theorem pc : ∀ n (x : U n), cells (pn n) (cast (pd n).symm x) = (cells n x).map (TV.plain pd) := zam9 (by unfold ids; simp only [List.forall_mem_cons]; exact ⟨fun _ => rfl, fun _ => rfl, fun _ => rfl, fun _ => rfl, fun _ => rfl, fun _ => rfl, fun _ => rfl, fun _ => rfl, fun _ => rfl, fun _ => rfl, fun _ => rfl, fun _ => rfl, fun _ => rfl, fun _ => rfl, fun _ => rfl, fun _ => rfl, fun n h => by cases h⟩)
 (fun n h x=>by rw[(zafz h).1 x]; exact (zafz (n:=pn n) (by rw[(zafz h).2.2.1]; exact h)).1 _)
theorem pt : ∀ n, ctys (pn n) = (ctys n).map (Ty.plain pn) := zam9 (by unfold ids; simp only [List.forall_mem_cons]; exact ⟨rfl, rfl, rfl, rfl, rfl, rfl, rfl, rfl, rfl, rfl, rfl, rfl, rfl, rfl, rfl, rfl, fun n h => by cases h⟩)
 (fun n h=>by rw[(zafz h).2.2.1,(zafz h).2.1]; rfl)
theorem closed_ok:∀ n,closed n=true->∀ t∈ctys n,(match t with
  |.int _=>true|.bool=>true|.str=>true|.err=>true|.fn=>true
  |.own _ (.st m)=>closed m
  |.own _ e=>match e with|.int _=>true|.bool=>true|.str=>true|_=>false
  |_=>false)=true:=zam9 (by unfold ids; simp only[List.forall_mem_cons]; exact ⟨fun h=>(by cases h),fun _=>qy.1 (by rfl),fun _=>qy.1 (by rfl),fun h=>(by cases h),fun h=>(by cases h),fun h=>(by cases h),fun _=>qy.1 (by rfl),fun _=>qy.1 (by rfl),fun _=>qy.1 (by rfl),fun _=>qy.1 (by rfl),fun _=>qy.1 (by rfl),fun _=>qy.1 (by rfl),fun _=>qy.1 (by rfl),fun _=>qy.1 (by rfl),fun _=>qy.1 (by rfl),fun h=>(by cases h),fun n h=>by cases h⟩)
 (fun n h hc=>by rw[(zafz h).2.2.2] at hc; cases hc)
@[reducible] noncomputable def uni:Uni where
 U:=U
 cells:=cells
 ctys:=ctys
 make:=make
 make_ok:=by
  intro n cs x h;unfold make at h;split at h
  ·dsimp only at h;split at h
   ·cases h; rfl
   ·cases h
  ·dsimp only at h;split at h
   ·cases h; rfl
   ·cases h
  ·dsimp only at h;split at h
   ·cases h; rfl
   ·cases h
  ·dsimp only at h;split at h
   ·cases h; rfl
   ·cases h
  ·dsimp only at h;split at h
   ·cases h; rfl
   ·cases h
  ·dsimp only at h;split at h
   ·cases h; rfl
   ·cases h
  ·dsimp only at h;split at h
   ·cases h; rfl
   ·cases h
  ·dsimp only at h;split at h
   ·cases h; rfl
   ·cases h
  ·dsimp only at h;split at h
   ·cases h; rfl
   ·cases h
  ·dsimp only at h;split at h
   ·cases h; rfl
   ·cases h
  ·dsimp only at h;split at h
   ·cases h; rfl
   ·cases h
  ·dsimp only at h;split at h
   ·cases h; rfl
   ·cases h
  ·dsimp only at h;split at h
   ·cases h; rfl
   ·cases h
  ·dsimp only at h;split at h
   ·cases h; rfl
   ·cases h
  ·dsimp only at h;split at h
   ·cases h; rfl
   ·cases h
  ·dsimp only at h;split at h
   ·cases h; rfl
   ·cases h
  ·cases h
 tys_ok:=by
  intro n x;unfold cells ctys;split<;>rfl
 pn:=pn
 pd:=pd
 pc:=pc
 pt:=pt
 closed:=closed
 closed_ok:=closed_ok
 flat_ok:=by
  intro n t h;have:∀ n,(ctys n).all Ty.flat=true:=by
   intro n;unfold ctys;split<;>rfl
  exact qy.1 (this n) t h
noncomputable def tyOf:TypeId->Option Ty
 |1=>some (.fn)
 |2=>some (.int .i64)
 |3=>some (.int .i64)
 |4=>some (.bool)
 |5=>some (.int .u8)
 |6=>some (.int .u8)
 |9=>some (.str)
 |10=>some (.str)
 |11=>some (.str)
 |12=>some (.int .u64)
 |21=>some (.int .i32)
 |22=>some (.fn)
 |23=>some (.slc (.st 62))
 |24=>some (.slc (.str))
 |25=>some (.slc (.st 46))
 |27=>some (.st 27)
 |28=>some (.int .i64)
 |30=>some (.st 30)
 |32=>some (.fn)
 |33=>some (.slc (.st 37))
 |35=>some (.fn)
 |37=>some (.st 37)
 |38=>some (.fn)
 |39=>some (.fn)
 |40=>some (.fn)
 |41=>some (.fn)
 |42=>some (.fn)
 |43=>some (.fn)
 |44=>some (.slc (.st 52))
 |46=>some (.st 46)
 |47=>some (.fn)
 |48=>some (.slc (.st 50))
 |50=>some (.st 50)
 |52=>some (.st 52)
 |53=>some (.fn)
 |55=>some (.fn)
 |56=>some (.fn)
 |57=>some (.fn)
 |58=>some (.slc (.int .i64))
 |59=>some (.fn)
 |60=>some (.fn)
 |62=>some (.st 62)
 |64=>some (.st 64)
 |68=>some (.fn)
 |69=>some (.slc (.st 77))
 |71=>some (.fn)
 |72=>some (.fn)
 |74=>some (.fn)
 |75=>some (.fn)
 |77=>some (.st 77)
 |79=>some (.fn)
 |80=>some (.fn)
 |81=>some (.fn)
 |82=>some (.fn)
 |83=>some (.fn)
 |84=>some (.fn)
 |85=>some (.fn)
 |86=>some (.fn)
 |87=>some (.fn)
 |90=>some (.fn)
 |91=>some (.fn)
 |92=>some (.fn)
 |96=>some (.fn)
 |97=>some (.fn)
 |99=>some (.map (.int .i64) (.st 138))
 |100=>some (.fn)
 |102=>some (.slc (.int .u8))
 |107=>some (.fn)
 |108=>some (.fn)
 |109=>some (.fn)
 |110=>some (.fn)
 |111=>some (.fn)
 |112=>some (.fn)
 |113=>some (.fn)
 |114=>some (.fn)
 |116=>some (.fn)
 |118=>some (.fn)
 |119=>some (.fn)
 |120=>some (.fn)
 |122=>some (.fn)
 |123=>some (.fn)
 |124=>some (.fn)
 |125=>some (.fn)
 |126=>some (.fn)
 |127=>some (.fn)
 |128=>some (.fn)
 |129=>some (.fn)
 |130=>some (.fn)
 |131=>some (.fn)
 |132=>some (.fn)
 |133=>some (.fn)
 |134=>some (.int .u64)
 |135=>some (.fn)
 |136=>some (.fn)
 |138=>some (.st 138)
 |140=>some (.err)
 |142=>some (.fn)
 |143=>some (.fn)
 |145=>some (.fn)
 |146=>some (.fn)
 |147=>some (.fn)
 |148=>some (.fn)
 |150=>some (.fn)
 |151=>some (.fn)
 |152=>some (.fn)
 |154=>some (.st 154)
 |156=>some (.map (.int .i64) (.st 154))
 |157=>some (.fn)
 |158=>some (.fn)
 |159=>some (.fn)
 |160=>some (.fn)
 |161=>some (.int .u64)
 |163=>some (.fn)
 |164=>some (.fn)
 |165=>some (.fn)
 |166=>some (.fn)
 |167=>some (.fn)
 |172=>some (.fn)
 |173=>some (.fn)
 |177=>some (.fn)
 |178=>some (.fn)
 |180=>some (.fn)
 |182=>some (.fn)
 |183=>some (.int .u32)
 |185=>some (.fn)
 |187=>some (.fn)
 |189=>some (.fn)
 |190=>some (.fn)
 |192=>some (.fn)
 |193=>some (.slc (.map (.str) (.int .i64)))
 |194=>some (.fn)
 |195=>some (.fn)
 |196=>some (.map (.str) (.int .i64))
 |197=>some (.fn)
 |198=>some (.fn)
 |199=>some (.int .i64)
 |201=>some (.fn)
 |203=>some (.fn)
 |204=>some (.fn)
 |206=>some (.fn)
 |207=>some (.fn)
 |208=>some (.fn)
 |211=>some (.fn)
 |212=>some (.map (.int .i64) (.str))
 |213=>some (.fn)
 |214=>some (.fn)
 |215=>some (.fn)
 |217=>some (.fn)
 |220=>some (.fn)
 |222=>some (.fn)
 |223=>some (.fn)
 |224=>some (.fn)
 |225=>some (.fn)
 |236=>some (.int .u8)
 |237=>some (.int .u8)
 |238=>some (.fn)
 |239=>some (.int .i32)
 |240=>some (.int .i32)
 |_=>none
noncomputable def eqOf (T:TypeId) (n:Nat):Option (U n->U n->Bool):=match n with
 |30=>bif Nat.beq T 30 then some fun (a b:Fault)=>decide (a=b) else none
 |37=>bif Nat.beq T 37 then some fun (a b:Token)=>decide (a=b) else none
 |62=>bif Nat.beq T 62 then some fun (a b:TCell)=>decide (a=b) else none
 |64=>bif Nat.beq T 64 then some fun (a b:Wrong)=>decide (a=b) else none
 |77=>bif Nat.beq T 77 then some fun (a b:Spot)=>decide (a=b) else none
 |138=>bif Nat.beq T 138 then some fun (a b:Oper)=>decide (a=b) else none
 |154=>bif Nat.beq T 154 then some fun (a b:Shape)=>decide (a=b) else none
 |_=>none
noncomputable def deepOf:TypeId->Option Ty
 |23=>some (.own 62 (.st 62))
 |24=>some (.own 9 (.str))
 |25=>some (.own 46 (.st 1046))
 |27=>some (.st 1027)
 |33=>some (.own 37 (.st 37))
 |44=>some (.own 52 (.st 1052))
 |46=>some (.st 1046)
 |48=>some (.own 50 (.st 1050))
 |50=>some (.st 1050)
 |52=>some (.st 1052)
 |58=>some (.own 3 (.int .i64))
 |69=>some (.own 77 (.st 77))
 |102=>some (.own 5 (.int .u8))
 |193=>some (.own 196 (.map (.str) (.int .i64)))
 |_=>none
noncomputable def deepOf2:TypeId->Option Ty
 |46=>some (.st 2046)
 |_=>none
@[reducible] noncomputable def kk:Kit:={ P:=Tryz.prog,u:=uni,tyOf,eqOf,modes:=fun _=>[],deepOf,deepOf2 }
theorem eqOk:EqOk kk:=by
 refine zaws fun T n f h=>?_
 change eqOf T n=some f at h
 change zag3 Tryz.prog T (ctys n)=true/\∀ a b:U n,f a b=zabv (cells n a) (cells n b)
 unfold eqOf at h;split at h
 ·cases hb:Nat.beq T 30 with
  |true=>
   rw[hb] at h;cases qx hb;cases h;refine ⟨by kernel_rfl,?_⟩;rintro ⟨a0,a1,a2⟩ ⟨b0,b1,b2⟩
   simp[cells,zabv,zac5,cond_eq_ite,Bool.decide_and]
  |false=>rw[hb] at h; cases h
 ·cases hb:Nat.beq T 37 with
  |true=>
   rw[hb] at h;cases qx hb;cases h;refine ⟨by kernel_rfl,?_⟩;rintro ⟨a0,a1,a2,a3⟩ ⟨b0,b1,b2,b3⟩
   simp[cells,zabv,zac5,cond_eq_ite,Bool.decide_and]
  |false=>rw[hb] at h; cases h
 ·cases hb:Nat.beq T 62 with
  |true=>
   rw[hb] at h;cases qx hb;cases h;refine ⟨by kernel_rfl,?_⟩;rintro ⟨a0,a1⟩ ⟨b0,b1⟩
   simp[cells,zabv,zac5,cond_eq_ite,Bool.decide_and]
  |false=>rw[hb] at h; cases h
 ·cases hb:Nat.beq T 64 with
  |true=>
   rw[hb] at h;cases qx hb;cases h;refine ⟨by kernel_rfl,?_⟩;rintro ⟨a0⟩ ⟨b0⟩
   simp[cells,zabv,zac5,cond_eq_ite,Bool.decide_and]
  |false=>rw[hb] at h; cases h
 ·cases hb:Nat.beq T 77 with
  |true=>
   rw[hb] at h;cases qx hb;cases h;refine ⟨by kernel_rfl,?_⟩;rintro ⟨a0,a1,a2,a3⟩ ⟨b0,b1,b2,b3⟩
   simp[cells,zabv,zac5,cond_eq_ite,Bool.decide_and]
  |false=>rw[hb] at h; cases h
 ·cases hb:Nat.beq T 138 with
  |true=>
   rw[hb] at h;cases qx hb;cases h;refine ⟨by kernel_rfl,?_⟩;rintro ⟨a0,a1,a2,a3⟩ ⟨b0,b1,b2,b3⟩
   simp[cells,zabv,zac5,cond_eq_ite,Bool.decide_and]
  |false=>rw[hb] at h; cases h
 ·cases hb:Nat.beq T 154 with
  |true=>
   rw[hb] at h;cases qx hb;cases h;refine ⟨by kernel_rfl,?_⟩;rintro ⟨a0,a1,a2,a3,a4,a5⟩ ⟨b0,b1,b2,b3,b4,b5⟩
   simp[cells,zabv,zac5,cond_eq_ite,Bool.decide_and]
  |false=>rw[hb] at h; cases h
 ·cases h
theorem mixed:kk.P.follows .mixedOrders=true:=by kernel_rfl
end Lift.Q5
namespace Lift.Q5
noncomputable section
open Go Go.RowKit Go.Proofs Lift Lift.Fn
def strings_Join_md:Mode U:=⟨⟨⟨[0,1],[],[]⟩,[.t (.slc .str),.t (.str)],[]⟩,[],[⟨⟨[0],[],[]⟩,[.t (.str)],[]⟩],fun ls=>match ls with|[⟨.slc .str,a0⟩,⟨.str,a1⟩]=>.get (strings_Join a0 a1) (fun r=>.ret (0,[⟨.str,r⟩]))|_=>.fail⟩
def strings_Contains_md:Mode U:=⟨⟨⟨[0,1],[],[]⟩,[.t (.str),.t (.str)],[]⟩,[],[⟨⟨[0],[],[]⟩,[.t (.bool)],[]⟩],fun ls=>match ls with|[⟨.str,a0⟩,⟨.str,a1⟩]=>.get (strings_Contains a0 a1) (fun r=>.ret (0,[⟨.bool,r⟩]))|_=>.fail⟩
def unicode_utf8_DecodeRuneInString_md:Mode U:=⟨⟨⟨[0],[],[]⟩,[.t (.str)],[]⟩,[],[⟨⟨[0,1],[],[]⟩,[.t (.int .i32),.t (.int .i64)],[]⟩],fun ls=>match ls with|[⟨.str,a0⟩]=>.get (zabb a0) (fun r=>.ret (0,[⟨.int .i32,r.1⟩,⟨.int .i64,r.2⟩]))|_=>.fail⟩
def unicode_utf8_RuneCountInString_md:Mode U:=⟨⟨⟨[0],[],[]⟩,[.t (.str)],[]⟩,[],[⟨⟨[0],[],[]⟩,[.t (.int .i64)],[]⟩],fun ls=>match ls with|[⟨.str,a0⟩]=>.get (zabh a0) (fun r=>.ret (0,[⟨.int .i64,r⟩]))|_=>.fail⟩
def strings_Trim_md:Mode U:=⟨⟨⟨[0,1],[],[]⟩,[.t (.str),.t (.str)],[]⟩,[],[⟨⟨[0],[],[]⟩,[.t (.str)],[]⟩],fun ls=>match ls with|[⟨.str,a0⟩,⟨.str,a1⟩]=>.get (zadf a0 a1) (fun r=>.ret (0,[⟨.str,r⟩]))|_=>.fail⟩
def strings_Repeat_md:Mode U:=⟨⟨⟨[0,1],[],[]⟩,[.t (.str),.t (.int .i64)],[]⟩,[],[⟨⟨[0],[],[]⟩,[.t (.str)],[]⟩],fun ls=>match ls with|[⟨.str,a0⟩,⟨.int .i64,a1⟩]=>.get (strings_Repeat a0 a1) (fun r=>.ret (0,[⟨.str,r⟩]))|_=>.fail⟩
def strconv_Atoi_md:Mode U:=⟨⟨⟨[0],[],[]⟩,[.t (.str)],[]⟩,[],[⟨⟨[0,1],[],[]⟩,[.t (.int .i64),.t (.err)],[]⟩],fun ls=>match ls with|[⟨.str,a0⟩]=>.get (zac9 a0) (fun r=>.ret (0,[⟨.int .i64,r.1⟩,⟨.err,r.2⟩]))|_=>.fail⟩
def strconv_ItoaW_md:Mode U:=⟨⟨⟨[0],[],[]⟩,[.t (.int .i64)],[]⟩,[],[⟨⟨[0],[],[]⟩,[.t (.str)],[]⟩],fun ls=>match ls with|[⟨.int .i64,a0⟩]=>.get (zakj a0) (fun r=>.ret (0,[⟨.str,r⟩]))|_=>.fail⟩
def strings_Builder_copyCheck_md:Mode U:=⟨⟨⟨[0],[100000],[⟨.cell 100000 1,200001,5,.int .u8⟩]⟩,[.ptr 100000 0],[.blk 106 [.selfp 100000,.oslc 200001,.t (.map (.int .i64) (.st 138))],.row 5 (.int .u8)]⟩,[⟨100000,.slot 0,[]⟩],[⟨⟨[],[100000],[⟨.cell 100000 1,200001,5,.int .u8⟩]⟩,[],[.blk 106 [.selfp 100000,.oslc 200001,.t (.map (.int .i64) (.st 138))],.row 5 (.int .u8)]⟩],fun ls=>match ls with|[⟨.map (.int .i64) (.st 138),x⟩,⟨.slc (.int .u8),l⟩]=>.ret (0,[⟨.map (.int .i64) (.st 138),x⟩,⟨.slc (.int .u8),l⟩])|_=>.fail⟩
def strings_Builder_String_md:Mode U:=⟨⟨⟨[0],[100000],[⟨.cell 100000 1,200001,5,.int .u8⟩]⟩,[.ptr 100000 0],[.blk 106 [.selfp 100000,.oslc 200001,.t (.map (.int .i64) (.st 138))],.row 5 (.int .u8)]⟩,[⟨100000,.slot 0,[]⟩],[⟨⟨[0],[],[]⟩,[.t .str],[]⟩],fun ls=>match ls with|[⟨.map (.int .i64) (.st 138),x⟩,⟨.slc (.int .u8),l⟩]=>.get (zaeu l) (fun r=>.ret (0,[⟨.str,r⟩]))|_=>.fail⟩
def ms0:List (FuncId×Mode U):=[]
def ms1:List (FuncId×Mode U):=(110,strings_Join_md)::ms0
def ms2:List (FuncId×Mode U):=(120,strings_Contains_md)::ms1
def ms3:List (FuncId×Mode U):=(70,unicode_utf8_DecodeRuneInString_md)::ms2
def ms4:List (FuncId×Mode U):=(78,unicode_utf8_RuneCountInString_md)::ms3
def ms5:List (FuncId×Mode U):=(121,strings_Trim_md)::ms4
def ms6:List (FuncId×Mode U):=(109,strings_Repeat_md)::ms5
def ms7:List (FuncId×Mode U):=(122,strconv_Atoi_md)::ms6
def ms8:List (FuncId×Mode U):=(56,strconv_ItoaW_md)::ms7
def ms9:List (FuncId×Mode U):=(141,strings_Builder_copyCheck_md)::ms8
def ms10:List (FuncId×Mode U):=(59,strings_Builder_String_md)::ms9
end
end Lift.Q5
namespace Go.Proofs
open Go.Shelf Go.RowKit
def Tryz.laysJoin_ren:Go.Shelf.Ren:=⟨fun|156=>110|165=>144|166=>108|169=>59|240=>141|241=>169|276=>165|277=>192|n=>n,fun|31=>24|9=>9|3=>3|4=>4|0=>0|20=>20|72=>104|76=>141|70=>101|37=>102|75=>140|127=>144|164=>181|5=>5|80=>110|n=>n,fun|n=>n⟩
theorem Tryz.laysJoin:Go.Proofs.Lays.n156 Tryz.prog Tryz.laysJoin_ren where
 mixed:=by kernel_rfl
 f156:=Tryz.func110.trans (congrArg some (by kernel_rfl))
 f165:=Tryz.func144.trans (congrArg some (by kernel_rfl))
 f166:=Tryz.func108.trans (congrArg some (by kernel_rfl))
 f169:=Tryz.func59.trans (congrArg some (by kernel_rfl))
 f240:=Tryz.func141.trans (congrArg some (by kernel_rfl))
 f241:=Tryz.func169.trans (congrArg some (by kernel_rfl))
 f276:=Tryz.func165.trans (congrArg some (by kernel_rfl))
 f277:=Tryz.func192.trans (congrArg some (by kernel_rfl))
 t0:=Tryz.underlying0
 a0:=Tryz.isAgg0
 z0:=Tryz.sizeOf0
 v0:=Tryz.zeroValue0
 t3:=Tryz.underlying3
 a3:=Tryz.isAgg3
 z3:=Tryz.sizeOf3
 v3:=Tryz.zeroValue3
 t4:=Tryz.underlying4
 a4:=Tryz.isAgg4
 z4:=Tryz.sizeOf4
 v4:=Tryz.zeroValue4
 t9:=Tryz.underlying9
 a9:=Tryz.isAgg9
 z9:=Tryz.sizeOf9
 v9:=Tryz.zeroValue9
 t20:=Tryz.underlying20
 a20:=Tryz.isAgg20
 z20:=Tryz.sizeOf20
 v20:=Tryz.zeroValue20
 t31:=Tryz.underlying24
 a31:=Tryz.isAgg24
 z31:=Tryz.sizeOf24
 v31:=Tryz.zeroValue24
 t37:=Tryz.underlying102
 a37:=Tryz.isAgg102
 z37:=Tryz.sizeOf102
 v37:=Tryz.zeroValue102
 t70:=Tryz.underlying101
 a70:=Tryz.isAgg101
 z70:=Tryz.sizeOf101
 v70:=Tryz.zeroValue101
 t72:=Tryz.underlying104
 a72:=Tryz.isAgg104
 z72:=Tryz.sizeOf104
 v72:=Tryz.zeroValue104
 t75:=Tryz.underlying140
 a75:=Tryz.isAgg140
 z75:=Tryz.sizeOf140
 v75:=Tryz.zeroValue140
 t76:=Tryz.underlying141
 a76:=Tryz.isAgg141
 z76:=Tryz.sizeOf141
 v76:=Tryz.zeroValue141
 t127:=Tryz.underlying144
 a127:=Tryz.isAgg144
 z127:=Tryz.sizeOf144
 v127:=Tryz.zeroValue144
 t164:=Tryz.underlying181
 a164:=Tryz.isAgg181
 z164:=Tryz.sizeOf181
 v164:=Tryz.zeroValue181
def Tryz.laysContains_ren:Go.Shelf.Ren:=⟨fun|144=>120|143=>150|219=>178|217=>199|225=>200|224=>201|267=>202|266=>211|314=>212|n=>n,fun|9=>9|4=>4|3=>3|5=>5|46=>161|146=>184|51=>183|n=>n,fun|1=>3|n=>n⟩
theorem Tryz.laysContains:Go.Proofs.LaysM.n144 Tryz.prog Tryz.laysContains_ren where
 mixed:=by kernel_rfl
 f143:=Tryz.func150.trans (congrArg some (by kernel_rfl))
 f144:=Tryz.func120.trans (congrArg some (by kernel_rfl))
 f217:=Tryz.func199.trans (congrArg some (by kernel_rfl))
 f219:=Tryz.func178.trans (congrArg some (by kernel_rfl))
 f224:=Tryz.func201.trans (congrArg some (by kernel_rfl))
 f225:=Tryz.func200.trans (congrArg some (by kernel_rfl))
 f266:=Tryz.func211.trans (congrArg some (by kernel_rfl))
 f267:=Tryz.func202.trans (congrArg some (by kernel_rfl))
 f314:=Tryz.func212.trans (congrArg some (by kernel_rfl))
 t3:=Tryz.underlying3
 a3:=Tryz.isAgg3
 z3:=Tryz.sizeOf3
 v3:=Tryz.zeroValue3
 t4:=Tryz.underlying4
 a4:=Tryz.isAgg4
 z4:=Tryz.sizeOf4
 v4:=Tryz.zeroValue4
 t5:=Tryz.underlying5
 a5:=Tryz.isAgg5
 z5:=Tryz.sizeOf5
 v5:=Tryz.zeroValue5
 t9:=Tryz.underlying9
 a9:=Tryz.isAgg9
 z9:=Tryz.sizeOf9
 v9:=Tryz.zeroValue9
 t46:=Tryz.underlying161
 a46:=Tryz.isAgg161
 z46:=Tryz.sizeOf161
 v46:=Tryz.zeroValue161
 t51:=Tryz.underlying183
 a51:=Tryz.isAgg183
 z51:=Tryz.sizeOf183
 v51:=Tryz.zeroValue183
 t146:=Tryz.underlying184
 a146:=Tryz.isAgg184
 z146:=Tryz.sizeOf184
 v146:=Tryz.zeroValue184
 g1:=by kernel_rfl
 i3:=by kernel_rfl
 i4:=by kernel_rfl
 i5:=by kernel_rfl
 i9:=by kernel_rfl
 i46:=by kernel_rfl
 i51:=by kernel_rfl
 i146:=by kernel_rfl
 m1:=by kernel_rfl
 s1_3:=fun w h=>Go.Proofs.cell_of_shapedOpen_int (zero:=#[.int .i64 0]) (t:=3) h (of_decide_eq_true (by kernel_rfl)) (by kernel_rfl) rfl (by kernel_rfl) (by kernel_rfl) Tryz.underlying3
def Tryz.laysDecode_ren:Go.Shelf.Ren:=⟨fun|197=>70|260=>118|n=>n,fun|9=>9|21=>21|3=>3|4=>4|5=>5|105=>117|119=>168|0=>0|46=>161|139=>171|138=>170|n=>n,fun|3=>0|4=>1|n=>n⟩
theorem Tryz.laysDecode:Go.Proofs.Lays.n197 Tryz.prog Tryz.laysDecode_ren where
 mixed:=by kernel_rfl
 f197:=Tryz.func70.trans (congrArg some (by kernel_rfl))
 f260:=Tryz.func118.trans (congrArg some (by kernel_rfl))
 t0:=Tryz.underlying0
 a0:=Tryz.isAgg0
 z0:=Tryz.sizeOf0
 v0:=Tryz.zeroValue0
 t3:=Tryz.underlying3
 a3:=Tryz.isAgg3
 z3:=Tryz.sizeOf3
 v3:=Tryz.zeroValue3
 t4:=Tryz.underlying4
 a4:=Tryz.isAgg4
 z4:=Tryz.sizeOf4
 v4:=Tryz.zeroValue4
 t5:=Tryz.underlying5
 a5:=Tryz.isAgg5
 z5:=Tryz.sizeOf5
 v5:=Tryz.zeroValue5
 t9:=Tryz.underlying9
 a9:=Tryz.isAgg9
 z9:=Tryz.sizeOf9
 v9:=Tryz.zeroValue9
 t21:=Tryz.underlying21
 a21:=Tryz.isAgg21
 z21:=Tryz.sizeOf21
 v21:=Tryz.zeroValue21
 t46:=Tryz.underlying161
 a46:=Tryz.isAgg161
 z46:=Tryz.sizeOf161
 v46:=Tryz.zeroValue161
 t105:=Tryz.underlying117
 a105:=Tryz.isAgg117
 z105:=Tryz.sizeOf117
 v105:=Tryz.zeroValue117
 t119:=Tryz.underlying168
 a119:=Tryz.isAgg168
 z119:=Tryz.sizeOf168
 t138:=Tryz.underlying170
 a138:=Tryz.isAgg170
 z138:=Tryz.sizeOf170
 v138:=Tryz.zeroValue170
 t139:=Tryz.underlying171
 a139:=Tryz.isAgg171
 z139:=Tryz.sizeOf171
 v139:=Tryz.zeroValue171
 g3:=by kernel_rfl
 g4:=by kernel_rfl
def Tryz.laysCount_ren:Go.Shelf.Ren:=⟨fun|195=>78|n=>n,fun|9=>9|3=>3|0=>0|4=>4|n=>n,fun|n=>n⟩
theorem Tryz.laysCount:Go.Proofs.Lays.n195 Tryz.prog Tryz.laysCount_ren where
 mixed:=by kernel_rfl
 f195:=Tryz.func78.trans (congrArg some (by kernel_rfl))
 t0:=Tryz.underlying0
 a0:=Tryz.isAgg0
 z0:=Tryz.sizeOf0
 v0:=Tryz.zeroValue0
 t3:=Tryz.underlying3
 a3:=Tryz.isAgg3
 z3:=Tryz.sizeOf3
 v3:=Tryz.zeroValue3
 t4:=Tryz.underlying4
 a4:=Tryz.isAgg4
 z4:=Tryz.sizeOf4
 v4:=Tryz.zeroValue4
 t9:=Tryz.underlying9
 a9:=Tryz.isAgg9
 z9:=Tryz.sizeOf9
 v9:=Tryz.zeroValue9
def Tryz.laysTrim_ren:Go.Shelf.Ren:=⟨fun|160=>121|232=>152|231=>151|227=>153|234=>155|233=>154|236=>157|235=>156|228=>179|271=>181|151=>180|197=>70|120=>204|152=>203|260=>118|137=>213|119=>177|224=>201|225=>200|217=>199|266=>211|n=>n,fun|9=>9|4=>4|3=>3|5=>5|117=>176|116=>175|0=>0|124=>179|21=>21|105=>117|46=>161|119=>168|139=>171|138=>170|n=>n,fun|3=>0|4=>1|n=>n⟩
theorem Tryz.laysTrim:Go.Proofs.Lays.n160 Tryz.prog Tryz.laysTrim_ren where
 mixed:=by kernel_rfl
 f119:=Tryz.func177.trans (congrArg some (by kernel_rfl))
 f120:=Tryz.func204.trans (congrArg some (by kernel_rfl))
 f137:=Tryz.func213.trans (congrArg some (by kernel_rfl))
 f151:=Tryz.func180.trans (congrArg some (by kernel_rfl))
 f152:=Tryz.func203.trans (congrArg some (by kernel_rfl))
 f160:=Tryz.func121.trans (congrArg some (by kernel_rfl))
 f197:=Tryz.func70.trans (congrArg some (by kernel_rfl))
 f217:=Tryz.func199.trans (congrArg some (by kernel_rfl))
 f224:=Tryz.func201.trans (congrArg some (by kernel_rfl))
 f225:=Tryz.func200.trans (congrArg some (by kernel_rfl))
 f227:=Tryz.func153.trans (congrArg some (by kernel_rfl))
 f228:=Tryz.func179.trans (congrArg some (by kernel_rfl))
 f231:=Tryz.func151.trans (congrArg some (by kernel_rfl))
 f232:=Tryz.func152.trans (congrArg some (by kernel_rfl))
 f233:=Tryz.func154.trans (congrArg some (by kernel_rfl))
 f234:=Tryz.func155.trans (congrArg some (by kernel_rfl))
 f235:=Tryz.func156.trans (congrArg some (by kernel_rfl))
 f236:=Tryz.func157.trans (congrArg some (by kernel_rfl))
 f260:=Tryz.func118.trans (congrArg some (by kernel_rfl))
 f266:=Tryz.func211.trans (congrArg some (by kernel_rfl))
 f271:=Tryz.func181.trans (congrArg some (by kernel_rfl))
 t0:=Tryz.underlying0
 a0:=Tryz.isAgg0
 z0:=Tryz.sizeOf0
 v0:=Tryz.zeroValue0
 t3:=Tryz.underlying3
 a3:=Tryz.isAgg3
 z3:=Tryz.sizeOf3
 v3:=Tryz.zeroValue3
 t4:=Tryz.underlying4
 a4:=Tryz.isAgg4
 z4:=Tryz.sizeOf4
 v4:=Tryz.zeroValue4
 t5:=Tryz.underlying5
 a5:=Tryz.isAgg5
 z5:=Tryz.sizeOf5
 v5:=Tryz.zeroValue5
 t9:=Tryz.underlying9
 a9:=Tryz.isAgg9
 z9:=Tryz.sizeOf9
 v9:=Tryz.zeroValue9
 t21:=Tryz.underlying21
 a21:=Tryz.isAgg21
 z21:=Tryz.sizeOf21
 v21:=Tryz.zeroValue21
 t46:=Tryz.underlying161
 a46:=Tryz.isAgg161
 z46:=Tryz.sizeOf161
 v46:=Tryz.zeroValue161
 t105:=Tryz.underlying117
 a105:=Tryz.isAgg117
 z105:=Tryz.sizeOf117
 v105:=Tryz.zeroValue117
 t116:=Tryz.underlying175
 a116:=Tryz.isAgg175
 z116:=Tryz.sizeOf175
 t117:=Tryz.underlying176
 a117:=Tryz.isAgg176
 z117:=Tryz.sizeOf176
 v117:=Tryz.zeroValue176
 t119:=Tryz.underlying168
 a119:=Tryz.isAgg168
 z119:=Tryz.sizeOf168
 t124:=Tryz.underlying179
 a124:=Tryz.isAgg179
 z124:=Tryz.sizeOf179
 v124:=Tryz.zeroValue179
 t138:=Tryz.underlying170
 a138:=Tryz.isAgg170
 z138:=Tryz.sizeOf170
 v138:=Tryz.zeroValue170
 t139:=Tryz.underlying171
 a139:=Tryz.isAgg171
 z139:=Tryz.sizeOf171
 v139:=Tryz.zeroValue171
 g3:=by kernel_rfl
 g4:=by kernel_rfl
def Tryz.laysRepeat_ren:Go.Shelf.Ren:=⟨fun|105=>109|212=>142|99=>143|165=>144|166=>108|170=>58|169=>59|263=>166|264=>167|206=>168|240=>141|241=>169|276=>165|277=>192|n=>n,fun|9=>9|3=>3|4=>4|20=>20|0=>0|46=>161|109=>162|5=>5|72=>104|76=>141|51=>183|146=>184|53=>134|148=>186|70=>101|37=>102|75=>140|127=>144|164=>181|80=>110|n=>n,fun|n=>n⟩
theorem Tryz.laysRepeat:Go.Proofs.Lays.n105 Tryz.prog Tryz.laysRepeat_ren where
 mixed:=by kernel_rfl
 f99:=Tryz.func143.trans (congrArg some (by kernel_rfl))
 f105:=Tryz.func109.trans (congrArg some (by kernel_rfl))
 f165:=Tryz.func144.trans (congrArg some (by kernel_rfl))
 f166:=Tryz.func108.trans (congrArg some (by kernel_rfl))
 f169:=Tryz.func59.trans (congrArg some (by kernel_rfl))
 f170:=Tryz.func58.trans (congrArg some (by kernel_rfl))
 f206:=Tryz.func168.trans (congrArg some (by kernel_rfl))
 f212:=Tryz.func142.trans (congrArg some (by kernel_rfl))
 f240:=Tryz.func141.trans (congrArg some (by kernel_rfl))
 f241:=Tryz.func169.trans (congrArg some (by kernel_rfl))
 f263:=Tryz.func166.trans (congrArg some (by kernel_rfl))
 f264:=Tryz.func167.trans (congrArg some (by kernel_rfl))
 f276:=Tryz.func165.trans (congrArg some (by kernel_rfl))
 f277:=Tryz.func192.trans (congrArg some (by kernel_rfl))
 t0:=Tryz.underlying0
 a0:=Tryz.isAgg0
 z0:=Tryz.sizeOf0
 v0:=Tryz.zeroValue0
 t3:=Tryz.underlying3
 a3:=Tryz.isAgg3
 z3:=Tryz.sizeOf3
 v3:=Tryz.zeroValue3
 t4:=Tryz.underlying4
 a4:=Tryz.isAgg4
 z4:=Tryz.sizeOf4
 v4:=Tryz.zeroValue4
 t5:=Tryz.underlying5
 a5:=Tryz.isAgg5
 z5:=Tryz.sizeOf5
 v5:=Tryz.zeroValue5
 t9:=Tryz.underlying9
 a9:=Tryz.isAgg9
 z9:=Tryz.sizeOf9
 v9:=Tryz.zeroValue9
 t20:=Tryz.underlying20
 a20:=Tryz.isAgg20
 z20:=Tryz.sizeOf20
 v20:=Tryz.zeroValue20
 t37:=Tryz.underlying102
 a37:=Tryz.isAgg102
 z37:=Tryz.sizeOf102
 v37:=Tryz.zeroValue102
 t46:=Tryz.underlying161
 a46:=Tryz.isAgg161
 z46:=Tryz.sizeOf161
 v46:=Tryz.zeroValue161
 t51:=Tryz.underlying183
 a51:=Tryz.isAgg183
 z51:=Tryz.sizeOf183
 v51:=Tryz.zeroValue183
 t53:=Tryz.underlying134
 a53:=Tryz.isAgg134
 z53:=Tryz.sizeOf134
 v53:=Tryz.zeroValue134
 t70:=Tryz.underlying101
 a70:=Tryz.isAgg101
 z70:=Tryz.sizeOf101
 v70:=Tryz.zeroValue101
 t72:=Tryz.underlying104
 a72:=Tryz.isAgg104
 z72:=Tryz.sizeOf104
 v72:=Tryz.zeroValue104
 t75:=Tryz.underlying140
 a75:=Tryz.isAgg140
 z75:=Tryz.sizeOf140
 v75:=Tryz.zeroValue140
 t76:=Tryz.underlying141
 a76:=Tryz.isAgg141
 z76:=Tryz.sizeOf141
 v76:=Tryz.zeroValue141
 t109:=Tryz.underlying162
 a109:=Tryz.isAgg162
 z109:=Tryz.sizeOf162
 v109:=Tryz.zeroValue162
 t127:=Tryz.underlying144
 a127:=Tryz.isAgg144
 z127:=Tryz.sizeOf144
 v127:=Tryz.zeroValue144
 t146:=Tryz.underlying184
 a146:=Tryz.isAgg184
 z146:=Tryz.sizeOf184
 v146:=Tryz.zeroValue184
 t148:=Tryz.underlying186
 a148:=Tryz.isAgg186
 z148:=Tryz.sizeOf186
 v148:=Tryz.zeroValue186
 t164:=Tryz.underlying181
 a164:=Tryz.isAgg181
 z164:=Tryz.sizeOf181
 v164:=Tryz.zeroValue181
def Tryz.laysAtoi_ren:Go.Shelf.Ren:=⟨fun|172=>122|244=>158|245=>159|247=>182|279=>183|280=>184|281=>185|282=>186|287=>205|316=>206|171=>56|205=>207|321=>214|322=>215|243=>111|246=>145|283=>170|284=>171|285=>172|286=>173|129=>194|317=>193|318=>195|319=>196|320=>197|337=>209|338=>210|n=>n,fun|9=>9|3=>3|75=>140|76=>141|4=>4|5=>5|167=>199|37=>102|0=>0|85=>200|2=>2|168=>202|53=>134|175=>216|46=>161|210=>219|127=>144|145=>228|143=>226|21=>21|171=>188|173=>191|212=>209|51=>183|20=>20|213=>210|232=>229|233=>230|80=>110|n=>n,fun|15=>4|16=>5|17=>2|18=>6|19=>7|n=>n⟩
theorem Tryz.laysAtoi:Go.Proofs.LaysC.n172 Tryz.prog Tryz.laysAtoi_ren where
 mixed:=by kernel_rfl
 f129:=Tryz.func194.trans (congrArg some (by kernel_rfl))
 f171:=Tryz.func56.trans (congrArg some (by kernel_rfl))
 f172:=Tryz.func122.trans (congrArg some (by kernel_rfl))
 f205:=Tryz.func207.trans (congrArg some (by kernel_rfl))
 f243:=Tryz.func111.trans (congrArg some (by kernel_rfl))
 f244:=Tryz.func158.trans (congrArg some (by kernel_rfl))
 f245:=Tryz.func159.trans (congrArg some (by kernel_rfl))
 f246:=Tryz.func145.trans (congrArg some (by kernel_rfl))
 f247:=Tryz.func182.trans (congrArg some (by kernel_rfl))
 f279:=Tryz.func183.trans (congrArg some (by kernel_rfl))
 f280:=Tryz.func184.trans (congrArg some (by kernel_rfl))
 f281:=Tryz.func185.trans (congrArg some (by kernel_rfl))
 f282:=Tryz.func186.trans (congrArg some (by kernel_rfl))
 f283:=Tryz.func170.trans (congrArg some (by kernel_rfl))
 f284:=Tryz.func171.trans (congrArg some (by kernel_rfl))
 f285:=Tryz.func172.trans (congrArg some (by kernel_rfl))
 f286:=Tryz.func173.trans (congrArg some (by kernel_rfl))
 f287:=Tryz.func205.trans (congrArg some (by kernel_rfl))
 f316:=Tryz.func206.trans (congrArg some (by kernel_rfl))
 f317:=Tryz.func193.trans (congrArg some (by kernel_rfl))
 f318:=Tryz.func195.trans (congrArg some (by kernel_rfl))
 f319:=Tryz.func196.trans (congrArg some (by kernel_rfl))
 f320:=Tryz.func197.trans (congrArg some (by kernel_rfl))
 f321:=Tryz.func214.trans (congrArg some (by kernel_rfl))
 f322:=Tryz.func215.trans (congrArg some (by kernel_rfl))
 f337:=Tryz.func209.trans (congrArg some (by kernel_rfl))
 f338:=Tryz.func210.trans (congrArg some (by kernel_rfl))
 t0:=Tryz.underlying0
 a0:=Tryz.isAgg0
 z0:=Tryz.sizeOf0
 v0:=Tryz.zeroValue0
 t2:=Tryz.underlying2
 a2:=Tryz.isAgg2
 z2:=Tryz.sizeOf2
 v2:=Tryz.zeroValue2
 t3:=Tryz.underlying3
 a3:=Tryz.isAgg3
 z3:=Tryz.sizeOf3
 v3:=Tryz.zeroValue3
 t4:=Tryz.underlying4
 a4:=Tryz.isAgg4
 z4:=Tryz.sizeOf4
 v4:=Tryz.zeroValue4
 t5:=Tryz.underlying5
 a5:=Tryz.isAgg5
 z5:=Tryz.sizeOf5
 v5:=Tryz.zeroValue5
 t9:=Tryz.underlying9
 a9:=Tryz.isAgg9
 z9:=Tryz.sizeOf9
 v9:=Tryz.zeroValue9
 t20:=Tryz.underlying20
 a20:=Tryz.isAgg20
 z20:=Tryz.sizeOf20
 v20:=Tryz.zeroValue20
 t21:=Tryz.underlying21
 a21:=Tryz.isAgg21
 z21:=Tryz.sizeOf21
 v21:=Tryz.zeroValue21
 t37:=Tryz.underlying102
 a37:=Tryz.isAgg102
 z37:=Tryz.sizeOf102
 v37:=Tryz.zeroValue102
 t46:=Tryz.underlying161
 a46:=Tryz.isAgg161
 z46:=Tryz.sizeOf161
 v46:=Tryz.zeroValue161
 t51:=Tryz.underlying183
 a51:=Tryz.isAgg183
 z51:=Tryz.sizeOf183
 v51:=Tryz.zeroValue183
 t53:=Tryz.underlying134
 a53:=Tryz.isAgg134
 z53:=Tryz.sizeOf134
 v53:=Tryz.zeroValue134
 t75:=Tryz.underlying140
 a75:=Tryz.isAgg140
 z75:=Tryz.sizeOf140
 v75:=Tryz.zeroValue140
 t76:=Tryz.underlying141
 a76:=Tryz.isAgg141
 z76:=Tryz.sizeOf141
 v76:=Tryz.zeroValue141
 t85:=Tryz.underlying200
 a85:=Tryz.isAgg200
 z85:=Tryz.sizeOf200
 v85:=Tryz.zeroValue200
 t127:=Tryz.underlying144
 a127:=Tryz.isAgg144
 z127:=Tryz.sizeOf144
 v127:=Tryz.zeroValue144
 t143:=Tryz.underlying226
 a143:=Tryz.isAgg226
 z143:=Tryz.sizeOf226
 v143:=Tryz.zeroValue226
 t145:=Tryz.underlying228
 a145:=Tryz.isAgg228
 z145:=Tryz.sizeOf228
 v145:=Tryz.zeroValue228
 t167:=Tryz.underlying199
 a167:=Tryz.isAgg199
 z167:=Tryz.sizeOf199
 v167:=Tryz.zeroValue199
 t168:=Tryz.underlying202
 a168:=Tryz.isAgg202
 z168:=Tryz.sizeOf202
 v168:=Tryz.zeroValue202
 t171:=Tryz.underlying188
 a171:=Tryz.isAgg188
 z171:=Tryz.sizeOf188
 v171:=Tryz.zeroValue188
 t173:=Tryz.underlying191
 a173:=Tryz.isAgg191
 z173:=Tryz.sizeOf191
 v173:=Tryz.zeroValue191
 t175:=Tryz.underlying216
 a175:=Tryz.isAgg216
 z175:=Tryz.sizeOf216
 v175:=Tryz.zeroValue216
 t210:=Tryz.underlying219
 a210:=Tryz.isAgg219
 z210:=Tryz.sizeOf219
 v210:=Tryz.zeroValue219
 t212:=Tryz.underlying209
 a212:=Tryz.isAgg209
 z212:=Tryz.sizeOf209
 v212:=Tryz.zeroValue209
 t213:=Tryz.underlying210
 a213:=Tryz.isAgg210
 z213:=Tryz.sizeOf210
 t232:=Tryz.underlying229
 a232:=Tryz.isAgg229
 z232:=Tryz.sizeOf229
 v232:=Tryz.zeroValue229
 t233:=Tryz.underlying230
 a233:=Tryz.isAgg230
 z233:=Tryz.sizeOf230
 v233:=Tryz.zeroValue230
 g15:=by kernel_rfl
 g16:=by kernel_rfl
 g17:=by kernel_rfl
 g18:=by kernel_rfl
 g19:=by kernel_rfl
 t80:=Tryz.underlying110
 a80:=Tryz.isAgg110
 z80:=Tryz.sizeOf110
 v80:=Tryz.zeroValue110
 i0:=by kernel_rfl
 i2:=by kernel_rfl
 i3:=by kernel_rfl
 i4:=by kernel_rfl
 i5:=by kernel_rfl
 i9:=by kernel_rfl
 i20:=by kernel_rfl
 i21:=by kernel_rfl
 i37:=by kernel_rfl
 i46:=by kernel_rfl
 i51:=by kernel_rfl
 i53:=by kernel_rfl
 i75:=by kernel_rfl
 i76:=by kernel_rfl
 i80:=by kernel_rfl
 i85:=by kernel_rfl
 i127:=by kernel_rfl
 i143:=by kernel_rfl
 i145:=by kernel_rfl
 i167:=by kernel_rfl
 i168:=by kernel_rfl
 i171:=by kernel_rfl
 i173:=by kernel_rfl
 i175:=by kernel_rfl
 i210:=by kernel_rfl
 i212:=by kernel_rfl
 i232:=by kernel_rfl
 i233:=by kernel_rfl
 m15:=by kernel_rfl
 m16:=by kernel_rfl
 m17:=by kernel_rfl
 m18:=by kernel_rfl
 m19:=by kernel_rfl
 c0:=by kernel_rfl
 c2:=by kernel_rfl
 c3:=by kernel_rfl
 c4:=by kernel_rfl
 c5:=by kernel_rfl
 c9:=by kernel_rfl
 c20:=by kernel_rfl
 c21:=by kernel_rfl
 c37:=by kernel_rfl
 c46:=by kernel_rfl
 c51:=by kernel_rfl
 c53:=by kernel_rfl
 c75:=by kernel_rfl
 c76:=by kernel_rfl
 c80:=by kernel_rfl
 c85:=by kernel_rfl
 c127:=by kernel_rfl
 c143:=by kernel_rfl
 c145:=by kernel_rfl
 c167:=by kernel_rfl
 c168:=by kernel_rfl
 c171:=by kernel_rfl
 c173:=by kernel_rfl
 c175:=by kernel_rfl
 c210:=by kernel_rfl
 c212:=by kernel_rfl
 c213:=by kernel_rfl
 c232:=by kernel_rfl
 c233:=by kernel_rfl
def Tryz.laysItoa_ren:Go.Shelf.Ren:=⟨fun|171=>56|243=>111|246=>145|283=>170|284=>171|285=>172|286=>173|129=>194|317=>193|318=>195|319=>196|320=>197|337=>209|338=>210|n=>n,fun|3=>3|9=>9|2=>2|4=>4|171=>188|0=>0|53=>134|37=>102|5=>5|173=>191|212=>209|51=>183|20=>20|213=>210|46=>161|232=>229|233=>230|n=>n,fun|17=>2|18=>6|19=>7|n=>n⟩
theorem Tryz.laysItoa:Go.Proofs.LaysM.n171 Tryz.prog Tryz.laysItoa_ren where
 mixed:=by kernel_rfl
 f129:=Tryz.func194.trans (congrArg some (by kernel_rfl))
 f171:=Tryz.func56.trans (congrArg some (by kernel_rfl))
 f243:=Tryz.func111.trans (congrArg some (by kernel_rfl))
 f246:=Tryz.func145.trans (congrArg some (by kernel_rfl))
 f283:=Tryz.func170.trans (congrArg some (by kernel_rfl))
 f284:=Tryz.func171.trans (congrArg some (by kernel_rfl))
 f285:=Tryz.func172.trans (congrArg some (by kernel_rfl))
 f286:=Tryz.func173.trans (congrArg some (by kernel_rfl))
 f317:=Tryz.func193.trans (congrArg some (by kernel_rfl))
 f318:=Tryz.func195.trans (congrArg some (by kernel_rfl))
 f319:=Tryz.func196.trans (congrArg some (by kernel_rfl))
 f320:=Tryz.func197.trans (congrArg some (by kernel_rfl))
 f337:=Tryz.func209.trans (congrArg some (by kernel_rfl))
 f338:=Tryz.func210.trans (congrArg some (by kernel_rfl))
 t0:=Tryz.underlying0
 a0:=Tryz.isAgg0
 z0:=Tryz.sizeOf0
 v0:=Tryz.zeroValue0
 t2:=Tryz.underlying2
 a2:=Tryz.isAgg2
 z2:=Tryz.sizeOf2
 v2:=Tryz.zeroValue2
 t3:=Tryz.underlying3
 a3:=Tryz.isAgg3
 z3:=Tryz.sizeOf3
 v3:=Tryz.zeroValue3
 t4:=Tryz.underlying4
 a4:=Tryz.isAgg4
 z4:=Tryz.sizeOf4
 v4:=Tryz.zeroValue4
 t5:=Tryz.underlying5
 a5:=Tryz.isAgg5
 z5:=Tryz.sizeOf5
 v5:=Tryz.zeroValue5
 t9:=Tryz.underlying9
 a9:=Tryz.isAgg9
 z9:=Tryz.sizeOf9
 v9:=Tryz.zeroValue9
 t20:=Tryz.underlying20
 a20:=Tryz.isAgg20
 z20:=Tryz.sizeOf20
 v20:=Tryz.zeroValue20
 t37:=Tryz.underlying102
 a37:=Tryz.isAgg102
 z37:=Tryz.sizeOf102
 v37:=Tryz.zeroValue102
 t46:=Tryz.underlying161
 a46:=Tryz.isAgg161
 z46:=Tryz.sizeOf161
 v46:=Tryz.zeroValue161
 t51:=Tryz.underlying183
 a51:=Tryz.isAgg183
 z51:=Tryz.sizeOf183
 v51:=Tryz.zeroValue183
 t53:=Tryz.underlying134
 a53:=Tryz.isAgg134
 z53:=Tryz.sizeOf134
 v53:=Tryz.zeroValue134
 t171:=Tryz.underlying188
 a171:=Tryz.isAgg188
 z171:=Tryz.sizeOf188
 v171:=Tryz.zeroValue188
 t173:=Tryz.underlying191
 a173:=Tryz.isAgg191
 z173:=Tryz.sizeOf191
 v173:=Tryz.zeroValue191
 t212:=Tryz.underlying209
 a212:=Tryz.isAgg209
 z212:=Tryz.sizeOf209
 v212:=Tryz.zeroValue209
 t213:=Tryz.underlying210
 a213:=Tryz.isAgg210
 z213:=Tryz.sizeOf210
 t232:=Tryz.underlying229
 a232:=Tryz.isAgg229
 z232:=Tryz.sizeOf229
 v232:=Tryz.zeroValue229
 t233:=Tryz.underlying230
 a233:=Tryz.isAgg230
 z233:=Tryz.sizeOf230
 v233:=Tryz.zeroValue230
 g17:=by kernel_rfl
 g18:=by kernel_rfl
 g19:=by kernel_rfl
 i0:=by kernel_rfl
 i2:=by kernel_rfl
 i3:=by kernel_rfl
 i4:=by kernel_rfl
 i5:=by kernel_rfl
 i9:=by kernel_rfl
 i20:=by kernel_rfl
 i37:=by kernel_rfl
 i46:=by kernel_rfl
 i51:=by kernel_rfl
 i53:=by kernel_rfl
 i171:=by kernel_rfl
 i173:=by kernel_rfl
 i212:=by kernel_rfl
 i232:=by kernel_rfl
 i233:=by kernel_rfl
 m17:=by kernel_rfl
 m18:=by kernel_rfl
 m19:=by kernel_rfl
def Tryz.laysString_ren:Go.Shelf.Ren:=⟨fun|169=>59|n=>n,fun|70=>101|9=>9|0=>0|72=>104|37=>102|127=>144|3=>3|5=>5|n=>n,fun|n=>n⟩
theorem Tryz.laysString:Go.Proofs.Lays.n169 Tryz.prog Tryz.laysString_ren where
 mixed:=by kernel_rfl
 f169:=Tryz.func59.trans (congrArg some (by kernel_rfl))
 t0:=Tryz.underlying0
 a0:=Tryz.isAgg0
 z0:=Tryz.sizeOf0
 v0:=Tryz.zeroValue0
 t3:=Tryz.underlying3
 a3:=Tryz.isAgg3
 z3:=Tryz.sizeOf3
 v3:=Tryz.zeroValue3
 t9:=Tryz.underlying9
 a9:=Tryz.isAgg9
 z9:=Tryz.sizeOf9
 v9:=Tryz.zeroValue9
 t37:=Tryz.underlying102
 a37:=Tryz.isAgg102
 z37:=Tryz.sizeOf102
 v37:=Tryz.zeroValue102
 t70:=Tryz.underlying101
 a70:=Tryz.isAgg101
 z70:=Tryz.sizeOf101
 v70:=Tryz.zeroValue101
 t72:=Tryz.underlying104
 a72:=Tryz.isAgg104
 z72:=Tryz.sizeOf104
 v72:=Tryz.zeroValue104
 t127:=Tryz.underlying144
 a127:=Tryz.isAgg144
 z127:=Tryz.sizeOf144
 v127:=Tryz.zeroValue144
theorem Tryz.extra:Builder.Extra Tryz.prog Tryz.laysJoin_ren where
 sizeBuilder:=by kernel_rfl
 liesBuilder:=by kernel_rfl
 t5:=Tryz.underlying5
 a5:=Tryz.isAgg5
 z5:=Tryz.sizeOf5
 v5:=Tryz.zeroValue5
 infoByte:=by kernel_rfl
 cellsByte:=by kernel_rfl
 sizeByte:=by kernel_rfl
 neB5:=by decide
theorem Tryz.extraS:Builder.Extra Tryz.prog Tryz.laysString_ren where
 sizeBuilder:=by kernel_rfl
 liesBuilder:=by kernel_rfl
 t5:=Tryz.underlying5
 a5:=Tryz.isAgg5
 z5:=Tryz.sizeOf5
 v5:=Tryz.zeroValue5
 infoByte:=by kernel_rfl
 cellsByte:=by kernel_rfl
 sizeByte:=by kernel_rfl
 neB5:=by decide
theorem Tryz.extraR:Builder.Extra Tryz.prog Tryz.laysRepeat_ren where
 sizeBuilder:=by kernel_rfl
 liesBuilder:=by kernel_rfl
 t5:=Tryz.underlying5
 a5:=Tryz.isAgg5
 z5:=Tryz.sizeOf5
 v5:=Tryz.zeroValue5
 infoByte:=by kernel_rfl
 cellsByte:=by kernel_rfl
 sizeByte:=by kernel_rfl
 neB5:=by decide
theorem Tryz.boolRow:(Tryz.prog.info? (Tryz.laysTrim_ren.t 116)).map (fun i=>(i.zero,i.size))=some (some (.agg (Array.replicate 256 (.bool false))),256):=by kernel_rfl
end Go.Proofs
namespace Lift.Q5
open Go Go.RowKit Go.Proofs Lift Lift.Fn
theorem zafb {w w':World} {n:Nat} (h:∀ k,k<n->w'.heap[k]? = w.heap[k]?) {b o:Nat} (hb:b<n):w'.cell? ⟨b,o,none⟩=w.cell? ⟨b,o,none⟩:=by
 unfold World.cell?;rw[h b hb]
def isErr (v:Value):Prop:=v=.nilIface\/∃ te pe,v=.iface te pe
def globs (w : World) : Prop := Go.Lib.Utf8Tabs 0 1 w ∧ (∃ m, w.cell? ⟨3, 0, none⟩ = some (.int .i64 m)) ∧ (∃ a b, (w.cell? ⟨4, 0, none⟩ = some a ∧ isErr a) ∧ (w.cell? ⟨5, 0, none⟩ = some b ∧ isErr b)) ∧ Go.Lib.TabIs Tryz.prog w "internal/strconv.uint64pow10" .u64 Go.Lib.pow10Tab ∧ True
theorem zasp (w w':World) (h:globs w) (hs:∀ k,k<6->w'.heap[k]? = w.heap[k]?):globs w':=by
 refine ⟨?_,?_,?_,?_,trivial⟩
 ·obtain ⟨h1,h2⟩:=h.1;refine ⟨fun c hc=>?_,fun i hi=>?_⟩
  ·rw[zafb hs (by omega)]; exact h1 c hc
  ·rw[zafb hs (by omega),zafb hs (by omega)]; exact h2 i hi
 ·obtain ⟨m,h3⟩:=h.2.1;exact ⟨m,by rw[zafb hs (by omega)]; exact h3⟩
 ·obtain ⟨a,b,⟨h4,h5⟩,h6,h7⟩:=h.2.2.1;exact ⟨a,b,⟨by rw[zafb hs (by omega)]; exact h4,h5⟩,by rw[zafb hs (by omega)]; exact h6,h7⟩
 ·exact zayu (g:=2) (by kernel_rfl) (by omega) hs (h.2.2.2.1)
@[reducible] def env0:Env:=⟨globs,6,fun w w' h hs _ _ _=>zasp w w' h hs⟩
theorem known0:Known kk env0 (zaac ms0):=known_nil
theorem strings_Join_post:∀ ls j rs,(strings_Join_md.sum ls).val=some (j,rs)->zaa6 kk env0 110 strings_Join_md.sh strings_Join_md.outs ls j rs:=by
 intro ls j rs h;simp only[strings_Join_md] at h;split at h
 ·obtain ⟨r,hr,h⟩:=Tr.get_val h;rw[strings_Join,zaaa,zai5,cond_eq_ite,Option.ite_none_right_eq_some,qj] at hr;obtain ⟨hc,hr⟩:=hr;cases hr;cases h;exact join_post (K:=kk) (ρ:=Tryz.laysJoin_ren) Tryz.laysJoin Tryz.extra _ _ hc.1 hc.2
 ·cases h
theorem known1:Known kk env0 (zaac ms1):=known_cons (by kernel_rfl) strings_Join_post known0
theorem strings_Contains_post:∀ ls j rs,(strings_Contains_md.sum ls).val=some (j,rs)->zaa6 kk env0 120 strings_Contains_md.sh strings_Contains_md.outs ls j rs:=by
 intro ls j rs h;simp only[strings_Contains_md] at h;split at h
 ·obtain ⟨r,hr,h⟩:=Tr.get_val h;rw[strings_Contains,zaaa,zad5,cond_eq_ite,Option.ite_none_right_eq_some,qj] at hr;obtain ⟨hc,hr⟩:=hr;cases hr;cases h;exact contains_post (K:=kk) (V:=env0) (ρ:=Tryz.laysContains_ren) ({ Tryz.laysContains with }) (fun w h=>h.2.1) _ _ hc
 ·cases h
theorem known2:Known kk env0 (zaac ms2):=known_cons (by kernel_rfl) strings_Contains_post known1
theorem unicode_utf8_DecodeRuneInString_post:∀ ls j rs,(unicode_utf8_DecodeRuneInString_md.sum ls).val=some (j,rs)->zaa6 kk env0 70 unicode_utf8_DecodeRuneInString_md.sh unicode_utf8_DecodeRuneInString_md.outs ls j rs:=by
 intro ls j rs h;simp only[unicode_utf8_DecodeRuneInString_md] at h;split at h
 ·obtain ⟨r,hr,h⟩:=Tr.get_val h;rw[zabb,zaaa,zabw] at hr;cases hr;cases h;exact decode_post (K:=kk) (V:=env0) (ρ:=Tryz.laysDecode_ren) Tryz.laysDecode (fun w h=>h.1) _
 ·cases h
theorem known3:Known kk env0 (zaac ms3):=known_cons (by kernel_rfl) unicode_utf8_DecodeRuneInString_post known2
theorem unicode_utf8_RuneCountInString_post:∀ ls j rs,(unicode_utf8_RuneCountInString_md.sum ls).val=some (j,rs)->zaa6 kk env0 78 unicode_utf8_RuneCountInString_md.sh unicode_utf8_RuneCountInString_md.outs ls j rs:=by
 intro ls j rs h;simp only[unicode_utf8_RuneCountInString_md] at h;split at h
 ·obtain ⟨r,hr,h⟩:=Tr.get_val h;rw[zabh,zaaa,zab0,cond_eq_ite,Option.ite_none_right_eq_some,qj] at hr;obtain ⟨hc,hr⟩:=hr;cases hr;cases h;exact runeCount_post (K:=kk) (V:=env0) (ρ:=Tryz.laysCount_ren) Tryz.laysCount _ hc
 ·cases h
theorem known4:Known kk env0 (zaac ms4):=known_cons (by kernel_rfl) unicode_utf8_RuneCountInString_post known3
theorem strings_Trim_post:∀ ls j rs,(strings_Trim_md.sum ls).val=some (j,rs)->zaa6 kk env0 121 strings_Trim_md.sh strings_Trim_md.outs ls j rs:=by
 intro ls j rs h;simp only[strings_Trim_md] at h;split at h
 ·obtain ⟨r,hr,h⟩:=Tr.get_val h;rw[zadf,zaaa,zaf1,cond_eq_ite,Option.ite_none_right_eq_some,qd,qj] at hr;obtain ⟨⟨hc,hd⟩,hr⟩:=hr;cases hr;cases h;exact trim_post (K:=kk) (V:=env0) (ρ:=Tryz.laysTrim_ren) Tryz.laysTrim Tryz.boolRow _ _ hc.1 hc.2 hd
 ·cases h
theorem known5:Known kk env0 (zaac ms5):=known_cons (by kernel_rfl) strings_Trim_post known4
theorem strings_Repeat_post:∀ ls j rs,(strings_Repeat_md.sum ls).val=some (j,rs)->zaa6 kk env0 109 strings_Repeat_md.sh strings_Repeat_md.outs ls j rs:=by
 intro ls j rs h;simp only[strings_Repeat_md] at h;split at h
 ·obtain ⟨r,hr,h⟩:=Tr.get_val h;rw[strings_Repeat,zaaa,zahr,cond_eq_ite,Option.ite_none_right_eq_some,qd,qj] at hr;obtain ⟨⟨hc,hd⟩,hr⟩:=hr;cases hr;cases h;exact repeat_post (K:=kk) (V:=env0) (ρ:=Tryz.laysRepeat_ren) Tryz.laysRepeat Tryz.extraR _ _ hc (of_decide_eq_true hd)
 ·cases h
theorem known6:Known kk env0 (zaac ms6):=known_cons (by kernel_rfl) strings_Repeat_post known5
theorem strconv_Atoi_post:∀ ls j rs,(strconv_Atoi_md.sum ls).val=some (j,rs)->zaa6 kk env0 122 strconv_Atoi_md.sh strconv_Atoi_md.outs ls j rs:=by
 intro ls j rs h;simp only[strconv_Atoi_md] at h;split at h
 ·obtain ⟨r,hr,h⟩:=Tr.get_val h;rw[zac9,zaaa,zaf6,cond_eq_ite,Option.ite_none_right_eq_some,qj] at hr;obtain ⟨hc,hr⟩:=hr;cases hr;cases h;exact atoi_post (K:=kk) (V:=env0) (ρ:=Tryz.laysAtoi_ren) Tryz.laysAtoi (fun w h=>h.2.2.1) _ hc
 ·cases h
theorem known7:Known kk env0 (zaac ms7):=known_cons (by kernel_rfl) strconv_Atoi_post known6
theorem strconv_ItoaW_post:∀ ls j rs,(strconv_ItoaW_md.sum ls).val=some (j,rs)->zaa6 kk env0 56 strconv_ItoaW_md.sh strconv_ItoaW_md.outs ls j rs:=by
 intro ls j rs h;simp only[strconv_ItoaW_md] at h;split at h
 ·obtain ⟨r,hr,h⟩:=Tr.get_val h;rw[zakj,zaaa,zaib,cond_eq_ite,Option.ite_none_right_eq_some,qj] at hr;obtain ⟨hc,hr⟩:=hr;cases hr;cases h;exact itoaW_post (K:=kk) (V:=env0) (ρ:=Tryz.laysItoa_ren) ({ Tryz.laysItoa with }) (fun w h=>h.2.2.2.1) _ hc
 ·cases h
theorem known8:Known kk env0 (zaac ms8):=known_cons (by kernel_rfl) strconv_ItoaW_post known7
theorem strings_Builder_copyCheck_post:∀ ls j rs,(strings_Builder_copyCheck_md.sum ls).val=some (j,rs)->zaa6 kk env0 141 strings_Builder_copyCheck_md.sh strings_Builder_copyCheck_md.outs ls j rs:=by
 intro ls j rs h;simp only[strings_Builder_copyCheck_md] at h;split at h
 ·cases h;exact zam4 (K:=kk) (V:=env0) (ρ:=Tryz.laysJoin_ren) ({ Tryz.laysJoin with }) Tryz.extra.toX72 106 5 (by kernel_rfl) (.map (.int .i64) (.st 138)) _ _
 ·cases h
theorem known9:Known kk env0 (zaac ms9):=known_cons (by kernel_rfl) strings_Builder_copyCheck_post known8
theorem strings_Builder_String_post:∀ ls j rs,(strings_Builder_String_md.sum ls).val=some (j,rs)->zaa6 kk env0 59 strings_Builder_String_md.sh strings_Builder_String_md.outs ls j rs:=by
 intro ls j rs h;simp only[strings_Builder_String_md] at h;split at h
 ·obtain ⟨r,hr,h⟩:=Tr.get_val h;rw[zaeu,zaaa,zad4,cond_eq_ite,Option.ite_none_right_eq_some,qy] at hr;obtain ⟨hc,hr⟩:=hr;cases hr;cases h;exact zapo (K:=kk) (V:=env0) (ρ:=Tryz.laysString_ren) Tryz.laysString Tryz.extraS 106 (.map (.int .i64) (.st 138)) _ _ (fun n hn=>by simpa using hc n hn)
 ·cases h
theorem known10:Known kk env0 (zaac ms10):=known_cons (by kernel_rfl) strings_Builder_String_post known9
end Lift.Q5
namespace Lift.Fn
noncomputable section
open Go Lift
def qbU_f (a0:Int):Option (Int):=bif decide (a0<0) then some ((-1:Int)) else bif decide (a0<=127) then some ((1:Int)) else bif decide (a0<=2047) then some ((2:Int)) else bif decide ((55296:Int)<=a0) then bif decide (a0<=57343) then some ((-1:Int)) else bif decide (a0<=65535) then some ((3:Int)) else bif decide (a0<=1114111) then some ((4:Int)) else some ((-1:Int)) else bif decide (a0<=65535) then some ((3:Int)) else bif decide (a0<=1114111) then some ((4:Int)) else some ((-1:Int))
def qbU:=sealF (qbU_f)
abbrev qbB_o4:=List UInt8->Int->Int->Int->Int->Int->Int->Int->Int->List UInt8->Nat->List Spot->Option ((Int×Int×Int×Int×(List Spot))⊕(Int×Int×Int×Int×Int×Int×Int×Int×(List Spot)))
def qbB_t4 (rec:qbB_o4):qbB_o4:=fun a0 a1 a2 a3 a4 a5 a6 a7 a8 a9 a10 a11=>bif decide (a10<List.length a9) then bif (↑(Prod.fst (Utf8.decode (ByteArray.mk (List.toArray a9)) a10)):Int)==65533 then bif decide ((0:Int)<=(↑a10:Int))&&(decide ((↑a10:Int)<=if IntKind.wrap IntKind.i64 ((↑a10:Int)+(3:Int))<(List.length a0:Int) then IntKind.wrap IntKind.i64 ((↑a10:Int)+(3:Int)) else (List.length a0:Int))&&decide ((if IntKind.wrap IntKind.i64 ((↑a10:Int)+(3:Int))<(List.length a0:Int) then IntKind.wrap IntKind.i64 ((↑a10:Int)+(3:Int)) else (List.length a0:Int))<=(List.length a0:Int))) then bif !List.drop (Int.toNat (↑a10:Int)) (List.take (Int.toNat (if IntKind.wrap IntKind.i64 ((↑a10:Int)+(3:Int))<(List.length a0:Int) then IntKind.wrap IntKind.i64 ((↑a10:Int)+(3:Int)) else (List.length a0:Int))) a0)==[(239:UInt8),(191:UInt8),(189:UInt8)] then some (.inl ((a5),(a6),(a7),(a8),(a11))) else bif decide ((List.length a11+List.length [Spot.mk (IntKind.wrap IntKind.i64 (↑(Prod.fst (Utf8.decode (ByteArray.mk (List.toArray a9)) a10)):Int)) a6 a7 a8])*(32:Nat)<=(140737488355328:Nat)/\List.length a11+List.length [Spot.mk (IntKind.wrap IntKind.i64 (↑(Prod.fst (Utf8.decode (ByteArray.mk (List.toArray a9)) a10)):Int)) a6 a7 a8]<=(9223372036854775807:Nat)) then (qbU (↑(Prod.fst (Utf8.decode (ByteArray.mk (List.toArray a9)) a10)):Int)).bind fun y0=>bif (↑(Prod.fst (Utf8.decode (ByteArray.mk (List.toArray a9)) a10)):Int)==10 then rec (a0) (a1) (a2) (a3) (a4) ((-1:Int)) (IntKind.wrap IntKind.i64 (a6+y0)) (IntKind.wrap IntKind.i64 (a7+(1:Int))) ((1:Int)) (a9) (a10+Prod.snd (Utf8.decode (ByteArray.mk (List.toArray a9)) a10)) (a11++[Spot.mk (IntKind.wrap IntKind.i64 (↑(Prod.fst (Utf8.decode (ByteArray.mk (List.toArray a9)) a10)):Int)) a6 a7 a8]) else rec (a0) (a1) (a2) (a3) (a4) ((-1:Int)) (IntKind.wrap IntKind.i64 (a6+y0)) (a7) (IntKind.wrap IntKind.i64 (a8+(1:Int))) (a9) (a10+Prod.snd (Utf8.decode (ByteArray.mk (List.toArray a9)) a10)) (a11++[Spot.mk (IntKind.wrap IntKind.i64 (↑(Prod.fst (Utf8.decode (ByteArray.mk (List.toArray a9)) a10)):Int)) a6 a7 a8]) else none else none else bif decide ((List.length a11+List.length [Spot.mk (IntKind.wrap IntKind.i64 (↑(Prod.fst (Utf8.decode (ByteArray.mk (List.toArray a9)) a10)):Int)) a6 a7 a8])*(32:Nat)<=(140737488355328:Nat)/\List.length a11+List.length [Spot.mk (IntKind.wrap IntKind.i64 (↑(Prod.fst (Utf8.decode (ByteArray.mk (List.toArray a9)) a10)):Int)) a6 a7 a8]<=(9223372036854775807:Nat)) then (qbU (↑(Prod.fst (Utf8.decode (ByteArray.mk (List.toArray a9)) a10)):Int)).bind fun y1=>bif (↑(Prod.fst (Utf8.decode (ByteArray.mk (List.toArray a9)) a10)):Int)==10 then rec (a0) (a1) (a2) (a3) (a4) ((-1:Int)) (IntKind.wrap IntKind.i64 (a6+y1)) (IntKind.wrap IntKind.i64 (a7+(1:Int))) ((1:Int)) (a9) (a10+Prod.snd (Utf8.decode (ByteArray.mk (List.toArray a9)) a10)) (a11++[Spot.mk (IntKind.wrap IntKind.i64 (↑(Prod.fst (Utf8.decode (ByteArray.mk (List.toArray a9)) a10)):Int)) a6 a7 a8]) else rec (a0) (a1) (a2) (a3) (a4) ((-1:Int)) (IntKind.wrap IntKind.i64 (a6+y1)) (a7) (IntKind.wrap IntKind.i64 (a8+(1:Int))) (a9) (a10+Prod.snd (Utf8.decode (ByteArray.mk (List.toArray a9)) a10)) (a11++[Spot.mk (IntKind.wrap IntKind.i64 (↑(Prod.fst (Utf8.decode (ByteArray.mk (List.toArray a9)) a10)):Int)) a6 a7 a8]) else none else some (.inr ((a1),(a2),(a3),(a4),(a5),(a6),(a7),(a8),(a11)))
def qbB_i4:Nat->qbB_o4
 |0=>fun _ _ _ _ _ _ _ _ _ _ _ _=>none
 |n+1=>qbB_t4 (qbB_i4 n)
def qbB_l4:=sealF (qbB_i4 fuel)
def qbB_f (a0:List UInt8):Option (Spot×(List Spot)):=(qbB_l4 a0 (0:Int) (0:Int) (0:Int) (0:Int) (-1:Int) (0:Int) (1:Int) (1:Int) a0 (0:Nat) []).bind fun y0=>(match y0 with|.inl y1=>some ((Spot.mk y1.1 y1.2.1 y1.2.2.1 y1.2.2.2.1),y1.2.2.2.2)|.inr y1=>some ((Spot.mk y1.2.2.2.2.1 y1.2.2.2.2.2.1 y1.2.2.2.2.2.2.1 y1.2.2.2.2.2.2.2.1),y1.2.2.2.2.2.2.2.2))
def qbB:=sealF (qbB_f)
def qbA_f (a0:List UInt8):Option (Fault×(List Spot)):=bif decide ((List.length a0:Int)>4000) then some ((Fault.mk (10:Int) (4000:Int) []),([])) else (qbB a0).bind fun y0=>bif decide (Spot.at_ y0.1<(List.length a0:Int)) then some ((Fault.mk (11:Int) (Spot.at_ y0.1) []),([])) else some ((Fault.mk (0:Int) (0:Int) []),y0.2)
def qbA:=sealF (qbA_f)
def qbx_f (a0:Int):Option (Bool):=bif a0==9 then some (true) else bif a0==10 then some (true) else bif a0==13 then some (true) else some (a0==32)
def qbx:=sealF (qbx_f)
abbrev qan_o3:=List UInt8->Bool->List UInt8->Nat->Option ((Int)⊕((List UInt8)))
def qan_t3 (rec:qan_o3):qan_o3:=fun a0 a1 a2 a3=>bif decide (a3<List.length a2) then bif a1 then rec (a0) ((↑(Prod.fst (Utf8.decode (ByteArray.mk (List.toArray a2)) a3)):Int) != 10) (a2) (a3+Prod.snd (Utf8.decode (ByteArray.mk (List.toArray a2)) a3)) else bif (↑(Prod.fst (Utf8.decode (ByteArray.mk (List.toArray a2)) a3)):Int)==35 then rec (a0) (true) (a2) (a3+Prod.snd (Utf8.decode (ByteArray.mk (List.toArray a2)) a3)) else (qbx (IntKind.wrap IntKind.i64 (↑(Prod.fst (Utf8.decode (ByteArray.mk (List.toArray a2)) a3)):Int))).bind fun y0=>bif !y0 then some (.inl ((↑a3:Int))) else rec (a0) (a1) (a2) (a3+Prod.snd (Utf8.decode (ByteArray.mk (List.toArray a2)) a3)) else some (.inr (a0))
def qan_i3:Nat->qan_o3
 |0=>fun _ _ _ _=>none
 |n+1=>qan_t3 (qan_i3 n)
def qan_l3:=sealF (qan_i3 fuel)
def qan_f (a0:List UInt8):Option (Int):=(qan_l3 a0 false a0 (0:Nat)).bind fun y0=>(match y0 with|.inl y1=>some (y1)|.inr y1=>some ((List.length y1:Int)))
def qan:=sealF (qan_f)
def qbV_f (a0:Int):Option (Bool):=bif decide (0<=a0) then bif decide (a0<55296) then some (true) else bif decide ((57343:Int)<a0) then bif decide (a0<=1114111) then some (true) else some (false) else some (false) else bif decide ((57343:Int)<a0) then bif decide (a0<=1114111) then some (true) else some (false) else some (false)
def qbV:=sealF (qbV_f)
def qbC_f (a0:Int):Option (Bool):=bif decide (a0>=0) then bif decide (a0<=1114111) then (qbV (IntKind.wrap IntKind.i32 a0)).bind fun y0=>some (y0) else some (false) else some (false)
def qbC:=sealF (qbC_f)
def qbz_f (a0:Int):Option (Bool):=bif decide (a0>=97) then bif decide (a0<=122) then bif decide (a0<=122) then some (true) else bif decide (a0>=192) then (qbC a0).bind fun y0=>some (y0) else some (false) else bif decide (a0>=65) then bif decide (a0<=90) then bif decide (a0<=90) then some (true) else bif decide (a0>=192) then (qbC a0).bind fun y1=>some (y1) else some (false) else bif a0==95 then some (true) else bif decide (a0>=192) then (qbC a0).bind fun y2=>some (y2) else some (false) else bif a0==95 then some (true) else bif decide (a0>=192) then (qbC a0).bind fun y3=>some (y3) else some (false) else bif decide (a0>=65) then bif decide (a0<=90) then bif decide (a0<=90) then some (true) else bif decide (a0>=192) then (qbC a0).bind fun y4=>some (y4) else some (false) else bif a0==95 then some (true) else bif decide (a0>=192) then (qbC a0).bind fun y5=>some (y5) else some (false) else bif a0==95 then some (true) else bif decide (a0>=192) then (qbC a0).bind fun y6=>some (y6) else some (false)
def qbz:=sealF (qbz_f)
def qby_f (a0:Int):Option (Bool):=bif decide (a0>=48) then some (decide (a0<=57)) else some (false)
def qby:=sealF (qby_f)
def qal_f (a0:Int):Option (Bool):=(qbz (IntKind.wrap IntKind.i64 a0)).bind fun y0=>bif y0 then some (true) else (qby (IntKind.wrap IntKind.i64 a0)).bind fun y1=>some (y1)
def qal:=sealF (qal_f)
abbrev qbE_o2:=List (List UInt8)->List UInt8->Int->Int->Option ((Int)⊕(Unit))
def qbE_t2 (rec:qbE_o2):qbE_o2:=fun a0 a1 a2 a3=>bif decide (a3<a2) then bif decide (0<=a3) then (a0[Int.toNat a3]?).bind fun y0=>bif a1==y0 then some (.inl (a3)) else rec (a0) (a1) (a2) (IntKind.wrap IntKind.i64 (a3+(1:Int))) else none else some (.inr ())
def qbE_i2:Nat->qbE_o2
 |0=>fun _ _ _ _=>none
 |n+1=>qbE_t2 (qbE_i2 n)
def qbE_l2:=sealF (qbE_i2 fuel)
def qbE_f (a0:List (List UInt8)) (a1:List UInt8):Option (Int):=(qbE_l2 a0 a1 (List.length a0:Int) (0:Int)).bind fun y0=>(match y0 with|.inl y1=>some (y1)|.inr y1=>some ((-1:Int)))
def qbE:=sealF (qbE_f)
def qbD_f (a0:List (List UInt8)) (a1:List UInt8):Option (Bool):=(qbE a0 a1).bind fun y0=>some (decide (y0>=0))
def qbD:=sealF (qbD_f)
def qao_f (a0:List UInt8):Option ((List UInt8)):=bif decide ((List.length a0:Int)>1) then bif decide ((0:Int)<=(0:Int))&&(decide ((0:Int)<=(2:Int))&&decide ((2:Int)<=(List.length a0:Int))) then (qbD [[(58:UInt8),(61:UInt8)],[(60:UInt8),(45:UInt8)],[(61:UInt8),(61:UInt8)],[(33:UInt8),(61:UInt8)],[(60:UInt8),(61:UInt8)],[(62:UInt8),(61:UInt8)],[(38:UInt8),(38:UInt8)],[(124:UInt8),(124:UInt8)]] (List.drop (0:Nat) (List.take (2:Nat) a0))).bind fun y0=>bif y0 then bif decide ((0:Int)<=(0:Int))&&(decide ((0:Int)<=(2:Int))&&decide ((2:Int)<=(List.length a0:Int))) then some (List.drop (0:Nat) (List.take (2:Nat) a0)) else none else bif decide ((0:Int)<=(0:Int))&&(decide ((0:Int)<=(1:Int))&&decide ((1:Int)<=(List.length a0:Int))) then (strings_Contains [(61:UInt8),(60:UInt8),(62:UInt8),(33:UInt8),(43:UInt8),(45:UInt8),(42:UInt8),(47:UInt8),(37:UInt8),(59:UInt8),(123:UInt8),(125:UInt8),(40:UInt8),(41:UInt8)] (List.drop (0:Nat) (List.take (1:Nat) a0))).bind fun y1=>bif y1 then bif decide ((0:Int)<=(0:Int))&&(decide ((0:Int)<=(1:Int))&&decide ((1:Int)<=(List.length a0:Int))) then some (List.drop (0:Nat) (List.take (1:Nat) a0)) else none else some ([]) else none else none else bif decide ((0:Int)<=(0:Int))&&(decide ((0:Int)<=(1:Int))&&decide ((1:Int)<=(List.length a0:Int))) then (strings_Contains [(61:UInt8),(60:UInt8),(62:UInt8),(33:UInt8),(43:UInt8),(45:UInt8),(42:UInt8),(47:UInt8),(37:UInt8),(59:UInt8),(123:UInt8),(125:UInt8),(40:UInt8),(41:UInt8)] (List.drop (0:Nat) (List.take (1:Nat) a0))).bind fun y2=>bif y2 then bif decide ((0:Int)<=(0:Int))&&(decide ((0:Int)<=(1:Int))&&decide ((1:Int)<=(List.length a0:Int))) then some (List.drop (0:Nat) (List.take (1:Nat) a0)) else none else some ([]) else none
def qao:=sealF (qao_f)
abbrev qaq_o2:=List UInt8->List UInt8->Nat->Option (((List UInt8))⊕((List UInt8)))
def qaq_t2 (rec:qaq_o2):qaq_o2:=fun a0 a1 a2=>bif decide (a2<List.length a1) then (qal (↑(Prod.fst (Utf8.decode (ByteArray.mk (List.toArray a1)) a2)):Int)).bind fun y0=>bif !y0 then bif decide ((0:Int)<=(0:Int))&&(decide ((0:Int)<=(↑a2:Int))&&decide ((↑a2:Int)<=(List.length a0:Int))) then some (.inl (List.drop (0:Nat) (List.take (Int.toNat (↑a2:Int)) a0))) else none else rec (a0) (a1) (a2+Prod.snd (Utf8.decode (ByteArray.mk (List.toArray a1)) a2)) else some (.inr (a0))
def qaq_i2:Nat->qaq_o2
 |0=>fun _ _ _=>none
 |n+1=>qaq_t2 (qaq_i2 n)
def qaq_l2:=sealF (qaq_i2 fuel)
def qaq_f (a0:List UInt8):Option ((List UInt8)):=(qaq_l2 a0 a0 (0:Nat)).bind fun y0=>(match y0 with|.inl y1=>some (y1)|.inr y1=>some (y1))
def qaq:=sealF (qaq_f)
def qam_f (a0:List UInt8):Option (Int×Bool):=bif decide ((List.length a0:Int)>1) then (a0[(0:Nat)]?).bind fun y0=>bif (↑(UInt8.toNat y0):Int)==48 then some (((0:Int)),(false)) else (zadf a0 [(48:UInt8),(49:UInt8),(50:UInt8),(51:UInt8),(52:UInt8),(53:UInt8),(54:UInt8),(55:UInt8),(56:UInt8),(57:UInt8)]).bind fun y1=>bif !y1==[] then some (((0:Int)),(false)) else (zac9 a0).bind fun y2=>bif !y2.2 then some (y2.1,(decide (y2.1<=2147483647))) else some (y2.1,(false)) else (zadf a0 [(48:UInt8),(49:UInt8),(50:UInt8),(51:UInt8),(52:UInt8),(53:UInt8),(54:UInt8),(55:UInt8),(56:UInt8),(57:UInt8)]).bind fun y3=>bif !y3==[] then some (((0:Int)),(false)) else (zac9 a0).bind fun y4=>bif !y4.2 then some (y4.1,(decide (y4.1<=2147483647))) else some (y4.1,(false))
def qam:=sealF (qam_f)
def qak_f:Option ((List (List UInt8))):=some ([[(97:UInt8),(100:UInt8),(100:UInt8)],[(97:UInt8),(115:UInt8),(115:UInt8),(101:UInt8),(114:UInt8),(116:UInt8)],[(99:UInt8),(101:UInt8),(108:UInt8),(108:UInt8)],[(101:UInt8),(108:UInt8),(115:UInt8),(101:UInt8)],[(105:UInt8),(102:UInt8)],[(106:UInt8),(111:UInt8),(105:UInt8),(110:UInt8)],[(108:UInt8),(111:UInt8),(99:UInt8),(107:UInt8)],[(109:UInt8),(117:UInt8),(116:UInt8),(101:UInt8),(120:UInt8)],[(114:UInt8),(101:UInt8),(112:UInt8),(101:UInt8),(97:UInt8),(116:UInt8)],[(115:UInt8),(116:UInt8),(97:UInt8),(114:UInt8),(116:UInt8)],[(116:UInt8),(104:UInt8),(114:UInt8),(101:UInt8),(97:UInt8),(100:UInt8)],[(117:UInt8),(110:UInt8),(108:UInt8),(111:UInt8),(99:UInt8),(107:UInt8)]])
def qak:=sealF (qak_f)
def qap_f (a0:List UInt8):Option (Token×Int):=(zabb a0).bind fun y0=>(qal y0.1).bind fun y1=>bif !y1 then (qao a0).bind fun y2=>bif y2==[] then some ((Token.mk (0:Int) [] (0:Int) (0:Int)),((20:Int))) else some ((Token.mk (3:Int) y2 (0:Int) (0:Int)),((0:Int))) else (qaq a0).bind fun y3=>(qby (IntKind.wrap IntKind.i64 y0.1)).bind fun y4=>bif y4 then (qam y3).bind fun y5=>bif !y5.2 then some ((Token.mk (1:Int) y3 (0:Int) (0:Int)),((22:Int))) else some ((Token.mk (2:Int) y3 y5.1 (0:Int)),((0:Int))) else (qak).bind fun y6=>(qbD y6 y3).bind fun y7=>bif y7 then some ((Token.mk (4:Int) y3 (0:Int) (0:Int)),((0:Int))) else (zabh y3).bind fun y8=>bif decide (y8>16) then some ((Token.mk (1:Int) y3 (0:Int) (0:Int)),((21:Int))) else some ((Token.mk (1:Int) y3 (0:Int) (0:Int)),((0:Int)))
def qap:=sealF (qap_f)
abbrev qaj_o6:=List UInt8->Int->Int->Int->List UInt8->List Token->Option ((Int×Int×(List UInt8))⊕((List UInt8)×Int×Int×(List UInt8)×(List Token)))
def qaj_t6 (rec:qaj_o6):qaj_o6:=fun a0 a1 a2 a3 a4 a5=>bif decide (a1<(List.length a0:Int)) then bif decide (0<=a1)&&(decide (a1<=(List.length a0:Int))&&decide ((List.length a0:Int)<=(List.length a0:Int))) then (qap (List.drop (Int.toNat a1) (List.take (Int.toNat (List.length a0:Int)) a0))).bind fun y0=>bif y0.2 != 0 then some (.inl (y0.2,(a1),([]))) else bif decide ((List.length a5+List.length [Token.mk (Token.kind y0.1) (Token.text y0.1) (Token.num y0.1) a1])*(40:Nat)<=(140737488355328:Nat)/\List.length a5+List.length [Token.mk (Token.kind y0.1) (Token.text y0.1) (Token.num y0.1) a1]<=(9223372036854775807:Nat)) then bif decide ((0:Int)<=IntKind.wrap IntKind.i64 (a1+(List.length (Token.text y0.1):Int)))&&(decide (IntKind.wrap IntKind.i64 (a1+(List.length (Token.text y0.1):Int))<=(List.length a0:Int))&&decide ((List.length a0:Int)<=(List.length a0:Int))) then (qan (List.drop (Int.toNat (IntKind.wrap IntKind.i64 (a1+(List.length (Token.text y0.1):Int)))) (List.take (Int.toNat (List.length a0:Int)) a0))).bind fun y1=>rec (a0) (IntKind.wrap IntKind.i64 (IntKind.wrap IntKind.i64 (a1+(List.length (Token.text y0.1):Int))+y1)) (a2) (a3) (a4) (a5++[Token.mk (Token.kind y0.1) (Token.text y0.1) (Token.num y0.1) a1]) else none else none else none else some (.inr ((a0),(a2),(a3),(a4),(a5)))
def qaj_i6:Nat->qaj_o6
 |0=>fun _ _ _ _ _ _=>none
 |n+1=>qaj_t6 (qaj_i6 n)
def qaj_l6:=sealF (qaj_i6 fuel)
def qaj_f (a0:List UInt8):Option ((List Token)×Fault):=(qbA a0).bind fun y0=>bif Fault.code y0.1 != 0 then some (([]),(Fault.mk (Fault.code y0.1) (Fault.at_ y0.1) (Fault.name y0.1))) else (qan a0).bind fun y1=>(qaj_l6 a0 y1 (0:Int) (0:Int) [] []).bind fun y2=>(match y2 with|.inl y3=>some (([]),(Fault.mk y3.1 y3.2.1 y3.2.2))|.inr y3=>bif decide ((List.length y3.2.2.2.2+List.length [Token.mk (5:Int) [] (0:Int) (List.length y3.1:Int)])*(40:Nat)<=(140737488355328:Nat)/\List.length y3.2.2.2.2+List.length [Token.mk (5:Int) [] (0:Int) (List.length y3.1:Int)]<=(9223372036854775807:Nat)) then some ((y3.2.2.2.2++[Token.mk (5:Int) [] (0:Int) (List.length y3.1:Int)]),(Fault.mk (0:Int) (0:Int) [])) else none)
def qaj:=sealF (qaj_f)
def qax_f (a0:List Token):Option (Token×(List Token)):=(a0[(0:Nat)]?).bind fun y0=>some ((Token.mk (Token.kind y0) (Token.text y0) (Token.num y0) (Token.at_ y0)),(a0))
def qax:=sealF (qax_f)
def qav_f (a0:List UInt8) (a1:List Token):Option (Bool×(List Token)):=(qax a1).bind fun y0=>Option.bind (α:=Bool) ( bif Token.kind y0.1==4 then some (true) else some (Token.kind y0.1==3)) fun y1=>Option.bind (α:=Bool) ( bif y1 then some (Token.text y0.1==a0) else some (false)) fun y2=>some ((y2),y0.2)
def qav:=sealF (qav_f)
def qaD_f (a0:List Token):Option (Token×(List Token)):=(qax a0).bind fun y0=>bif decide ((0:Int)<=(1:Int))&&(decide ((1:Int)<=(List.length y0.2:Int))&&decide ((List.length y0.2:Int)<=(List.length y0.2:Int))) then some ((Token.mk (Token.kind y0.1) (Token.text y0.1) (Token.num y0.1) (Token.at_ y0.1)),(List.drop (1:Nat) (List.take (Int.toNat (List.length y0.2:Int)) y0.2))) else none
def qaD:=sealF (qaD_f)
def qaE_f (a0:List UInt8) (a1:List Token):Option (Bool×(List Token)):=(qav a0 a1).bind fun y0=>bif y0.1 then (qaD y0.2).bind fun y1=>some (y0.1,y1.2) else some (y0.1,y0.2)
def qaE:=sealF (qaE_f)
def qaB_f (a0:List Token):Option (Wrong):=(qax a0).bind fun y0=>some (Wrong.mk (Token.at_ y0.1))
def qaB:=sealF (qaB_f)
def qay_f (a0:Int) (a1:List Token):Option ((Token×(List Token))⊕(Wrong)):=(qax a1).bind fun y0=>bif Token.kind y0.1 != a0 then (qaB y0.2).bind fun y1=>some (.inr (y1)) else (qaD y0.2).bind fun y2=>some (.inl ((Token.mk (Token.kind y2.1) (Token.text y2.1) (Token.num y2.1) (Token.at_ y2.1)),y2.2))
def qay:=sealF (qay_f)
def qaw_f (a0:List Token):Option (((List UInt8)×(List Token))⊕(Wrong)):=(qay (1:Int) a0).bind fun y0=>(match y0 with|.inl y1=>some (.inl ((Token.text y1.1),y1.2))|.inr y1=>some (.inr (y1)))
def qaw:=sealF (qaw_f)
def qaG_f (a0:List UInt8) (a1:List Token):Option (((List Token))⊕(Wrong)):=(qaE a0 a1).bind fun y0=>bif !y0.1 then (qaB y0.2).bind fun y1=>some (.inr (y1)) else some (.inl y0.2)
def qaG:=sealF (qaG_f)
def qas_f:Option ((List (List ((List UInt8)×(Int))))):=some ([zaau [(124:UInt8),(124:UInt8)] (17:Int) [],zaau [(38:UInt8),(38:UInt8)] (16:Int) [],zaau [(62:UInt8),(61:UInt8)] (15:Int) (zaau [(62:UInt8)] (14:Int) (zaau [(60:UInt8),(61:UInt8)] (13:Int) (zaau [(60:UInt8)] (12:Int) (zaau [(33:UInt8),(61:UInt8)] (11:Int) (zaau [(61:UInt8),(61:UInt8)] (10:Int) []))))),zaau [(45:UInt8)] (6:Int) (zaau [(43:UInt8)] (5:Int) []),zaau [(37:UInt8)] (9:Int) (zaau [(47:UInt8)] (8:Int) (zaau [(42:UInt8)] (7:Int) []))])
def qas:=sealF (qas_f)
abbrev qaF_o:=List Token->Option ((Int×Int×(List UInt8)×(List Token)×(List TExpr))⊕(Wrong))
abbrev qau_o:=Int->List Token->Option ((Int×Int×(List UInt8)×(List Token)×(List TExpr))⊕(Wrong))
def qaF_f (rec_qaF:qaF_o) (rec_qau:qau_o):qaF_o:=fun a0=>(qaE [(45:UInt8)] a0).bind fun y0=>bif y0.1 then (rec_qaF y0.2).bind fun y1=>(match y1 with|.inl y2=>some (.inl (((3:Int)),((0:Int)),([]),y2.2.2.2.1,([TExpr.mk y2.1 y2.2.1 y2.2.2.1 y2.2.2.2.2])))|.inr y2=>some (.inr (y2))) else (qaE [(33:UInt8)] y0.2).bind fun y3=>bif y3.1 then (rec_qaF y3.2).bind fun y4=>(match y4 with|.inl y5=>some (.inl (((4:Int)),((0:Int)),([]),y5.2.2.2.1,([TExpr.mk y5.1 y5.2.1 y5.2.2.1 y5.2.2.2.2])))|.inr y5=>some (.inr (y5))) else (qaE [(40:UInt8)] y3.2).bind fun y6=>bif y6.1 then (rec_qau (0:Int) y6.2).bind fun y7=>(match y7 with|.inl y8=>(qaG [(41:UInt8)] y8.2.2.2.1).bind fun y9=>(match y9 with|.inl y10=>some (.inl (y8.1,y8.2.1,y8.2.2.1,(y10),y8.2.2.2.2))|.inr y10=>some (.inr (y10)))|.inr y8=>some (.inr (y8))) else (qax y6.2).bind fun y11=>bif Token.kind y11.1==2 then (qaD y11.2).bind fun y12=>some (.inl (((1:Int)),(Token.num y12.1),([]),y12.2,([]))) else (qaw y11.2).bind fun y13=>(match y13 with|.inl y14=>some (.inl (((2:Int)),((0:Int)),y14.1,y14.2,([])))|.inr y14=>some (.inr (y14)))
def qaF_i (rec_qau:qau_o):Nat->qaF_o
 |0=>fun _=>none
 |n+1=>qaF_f (qaF_i rec_qau n) rec_qau
def qaF (rec_qau:qau_o):=sealF (qaF_i rec_qau fuel)
abbrev qau_o5:=Int->List Token->Int->Int->List UInt8->Int->Int->List UInt8->List (List ((List UInt8)×(Int)))->List TExpr->Option (((List Token)×Int×Int×(List UInt8)×Int×Int×(List UInt8)×(List TExpr))⊕(Wrong))
def qau_t5 (rec_qau:qau_o) (rec:qau_o5):qau_o5:=fun a0 a1 a2 a3 a4 a5 a6 a7 a8 a9=>(qax a1).bind fun y0=>bif Token.kind y0.1==3 then bif decide (0<=a0)&&decide (a0<(List.length a8:Int)) then (a8[Int.toNat a0]?).bind fun y1=>(qax y0.2).bind fun y2=>bif !Option.isSome (mapAt y1 (Token.text y2.1)) then some (.inl (y2.2,(a2),(a3),(a4),(a5),(a6),(a7),(a9))) else (qaD y2.2).bind fun y3=>(rec_qau (IntKind.wrap IntKind.i64 (a0+(1:Int))) y3.2).bind fun y4=>(match y4 with|.inl y5=>bif a0==2 then some (.inl (y5.2.2.2.1,(a2),(a3),(a4),(Option.getD (mapAt y1 (Token.text y2.1)) (0:Int)),((0:Int)),([]),([TExpr.mk a5 a6 a7 a9,TExpr.mk y5.1 y5.2.1 y5.2.2.1 y5.2.2.2.2]))) else rec (a0) y5.2.2.2.1 (a2) (a3) (a4) (Option.getD (mapAt y1 (Token.text y2.1)) (0:Int)) ((0:Int)) ([]) (a8) ([TExpr.mk a5 a6 a7 a9,TExpr.mk y5.1 y5.2.1 y5.2.2.1 y5.2.2.2.2])|.inr y5=>some (.inr (y5))) else none else some (.inl (y0.2,(a2),(a3),(a4),(a5),(a6),(a7),(a9)))
def qau_i5 (rec_qau:qau_o):Nat->qau_o5
 |0=>fun _ _ _ _ _ _ _ _ _ _=>none
 |n+1=>qau_t5 rec_qau (qau_i5 rec_qau n)
def qau_l5 (rec_qau:qau_o):=sealF (qau_i5 rec_qau fuel)
def qau_f (rec_qau:qau_o):qau_o:=fun a0 a1=>(qas).bind fun y0=>bif a0==(List.length y0:Int) then (qaF rec_qau a1).bind fun y1=>(match y1 with|.inl y2=>some (.inl (y2.1,y2.2.1,y2.2.2.1,y2.2.2.2.1,y2.2.2.2.2))|.inr y2=>some (.inr (y2))) else (rec_qau (IntKind.wrap IntKind.i64 (a0+(1:Int))) a1).bind fun y3=>(match y3 with|.inl y4=>(qau_l5 rec_qau a0 y4.2.2.2.1 (0:Int) (0:Int) [] y4.1 y4.2.1 y4.2.2.1 y0 y4.2.2.2.2).bind fun y5=>(match y5 with|.inl y6=>some (.inl (y6.2.2.2.2.1,y6.2.2.2.2.2.1,y6.2.2.2.2.2.2.1,y6.1,y6.2.2.2.2.2.2.2))|.inr y6=>some (.inr (y6)))|.inr y4=>some (.inr (y4)))
def qau_i:Nat->qau_o
 |0=>fun _ _=>none
 |n+1=>qau_f (qau_i n)
def qau:=sealF (qau_i fuel)
def qaz_f (a0:List Token):Option ((Int×(List UInt8)×(List UInt8)×Int×Int×(List UInt8)×Int×(List Token)×(List TExpr)×(List TStmt)×(List TStmt))⊕(Wrong)):=(qaw a0).bind fun y0=>(match y0 with|.inl y1=>(qaE [(58:UInt8),(61:UInt8)] y1.2).bind fun y2=>bif y2.1 then (qau (0:Int) y2.2).bind fun y3=>(match y3 with|.inl y4=>(qaG [(59:UInt8)] y4.2.2.2.1).bind fun y5=>(match y5 with|.inl y6=>some (.inl (((1:Int)),y1.1,([]),y4.1,y4.2.1,y4.2.2.1,((0:Int)),(y6),y4.2.2.2.2,([]),([])))|.inr y6=>some (.inr (y6)))|.inr y4=>some (.inr (y4))) else (qaE [(61:UInt8)] y2.2).bind fun y7=>bif y7.1 then (qau (0:Int) y7.2).bind fun y8=>(match y8 with|.inl y9=>(qaG [(59:UInt8)] y9.2.2.2.1).bind fun y10=>(match y10 with|.inl y11=>some (.inl (((3:Int)),([]),y1.1,y9.1,y9.2.1,y9.2.2.1,((0:Int)),(y11),y9.2.2.2.2,([]),([])))|.inr y11=>some (.inr (y11)))|.inr y9=>some (.inr (y9))) else (qaG [(60:UInt8),(45:UInt8)] y7.2).bind fun y12=>(match y12 with|.inl y13=>(qaE [(97:UInt8),(100:UInt8),(100:UInt8)] y13).bind fun y14=>bif y14.1 then (qaw y14.2).bind fun y15=>(match y15 with|.inl y16=>(qau (0:Int) y16.2).bind fun y17=>(match y17 with|.inl y18=>(qaG [(59:UInt8)] y18.2.2.2.1).bind fun y19=>(match y19 with|.inl y20=>some (.inl (((4:Int)),y1.1,y16.1,y18.1,y18.2.1,y18.2.2.1,((0:Int)),(y20),y18.2.2.2.2,([]),([])))|.inr y20=>some (.inr (y20)))|.inr y18=>some (.inr (y18)))|.inr y16=>some (.inr (y16))) else (qaw y14.2).bind fun y21=>(match y21 with|.inl y22=>(qaG [(59:UInt8)] y22.2).bind fun y23=>(match y23 with|.inl y24=>some (.inl (((2:Int)),y1.1,y22.1,((0:Int)),((0:Int)),([]),((0:Int)),(y24),([]),([]),([])))|.inr y24=>some (.inr (y24)))|.inr y22=>some (.inr (y22)))|.inr y13=>some (.inr (y13)))|.inr y1=>some (.inr (y1)))
def qaz:=sealF (qaz_f)
abbrev qat_o:=List Token->Option (((List Token)×(List TStmt))⊕(Wrong))
abbrev qaC_o4:=Int->Int->List Token->Int->List UInt8->List UInt8->Int->Int->List UInt8->Int->List (List UInt8)->Option (((List Token)×Int×(List UInt8)×(List UInt8)×Int×Int×(List UInt8)×Int)⊕((Wrong)⊕((List Token)×Int×(List UInt8)×(List UInt8)×Int×Int×(List UInt8)×Int)))
def qaC_t4 (rec_qat:qat_o) (rec:qaC_o4):qaC_o4:=fun a0 a1 a2 a3 a4 a5 a6 a7 a8 a9 a10=>bif decide (a1<a0) then bif decide (0<=a1)&&decide (a1<(List.length a10:Int)) then (a10[Int.toNat a1]?).bind fun y0=>(qaE y0 a2).bind fun y1=>bif y1.1 then (qaw y1.2).bind fun y2=>(match y2 with|.inl y3=>(qaG [(59:UInt8)] y3.2).bind fun y4=>(match y4 with|.inl y5=>some (.inl ((y5),(IntKind.wrap IntKind.i64 ((5:Int)+a1)),([]),y3.1,((0:Int)),((0:Int)),([]),((0:Int))))|.inr y5=>some (.inr (.inl (y5))))|.inr y3=>some (.inr (.inl (y3)))) else rec (a0) (IntKind.wrap IntKind.i64 (a1+(1:Int))) y1.2 (a3) (a4) (a5) (a6) (a7) (a8) (a9) (a10) else none else some (.inr (.inr ((a2),(a3),(a4),(a5),(a6),(a7),(a8),(a9))))
def qaC_i4 (rec_qat:qat_o):Nat->qaC_o4
 |0=>fun _ _ _ _ _ _ _ _ _ _ _=>none
 |n+1=>qaC_t4 rec_qat (qaC_i4 rec_qat n)
def qaC_l4 (rec_qat:qat_o):=sealF (qaC_i4 rec_qat fuel)
def qaC_f (rec_qat:qat_o) (a0:List Token):Option ((Int×(List UInt8)×(List UInt8)×Int×Int×(List UInt8)×Int×(List Token)×(List TExpr)×(List TStmt)×(List TStmt))⊕(Wrong)):=(qax a0).bind fun y0=>bif Token.kind y0.1==1 then (qaz y0.2).bind fun y1=>(match y1 with|.inl y2=>some (.inl (y2.1,y2.2.1,y2.2.2.1,y2.2.2.2.1,y2.2.2.2.2.1,y2.2.2.2.2.2.1,y2.2.2.2.2.2.2.1,y2.2.2.2.2.2.2.2.1,y2.2.2.2.2.2.2.2.2.1,y2.2.2.2.2.2.2.2.2.2.1,y2.2.2.2.2.2.2.2.2.2.2))|.inr y2=>some (.inr (y2))) else (qaC_l4 rec_qat (↑(4:Nat):Int) (0:Int) y0.2 (0:Int) [] [] (0:Int) (0:Int) [] (0:Int) [[(108:UInt8),(111:UInt8),(99:UInt8),(107:UInt8)],[(117:UInt8),(110:UInt8),(108:UInt8),(111:UInt8),(99:UInt8),(107:UInt8)],[(115:UInt8),(116:UInt8),(97:UInt8),(114:UInt8),(116:UInt8)],[(106:UInt8),(111:UInt8),(105:UInt8),(110:UInt8)]]).bind fun y3=>(match y3 with|.inl y4=>some (.inl (y4.2.1,y4.2.2.1,y4.2.2.2.1,y4.2.2.2.2.1,y4.2.2.2.2.2.1,y4.2.2.2.2.2.2.1,y4.2.2.2.2.2.2.2,y4.1,([]),([]),([])))|.inr y4=>(match y4 with|.inl y5=>some (.inr (y5))|.inr y5=>(qaE [(97:UInt8),(115:UInt8),(115:UInt8),(101:UInt8),(114:UInt8),(116:UInt8)] y5.1).bind fun y6=>bif y6.1 then (qau (0:Int) y6.2).bind fun y7=>(match y7 with|.inl y8=>(qaG [(59:UInt8)] y8.2.2.2.1).bind fun y9=>(match y9 with|.inl y10=>some (.inl (((9:Int)),([]),([]),y8.1,y8.2.1,y8.2.2.1,((0:Int)),(y10),y8.2.2.2.2,([]),([])))|.inr y10=>some (.inr (y10)))|.inr y8=>some (.inr (y8))) else (qaE [(105:UInt8),(102:UInt8)] y6.2).bind fun y11=>bif y11.1 then (qau (0:Int) y11.2).bind fun y12=>(match y12 with|.inl y13=>(rec_qat y13.2.2.2.1).bind fun y14=>(match y14 with|.inl y15=>(qaE [(101:UInt8),(108:UInt8),(115:UInt8),(101:UInt8)] y15.1).bind fun y16=>bif y16.1 then (rec_qat y16.2).bind fun y17=>(match y17 with|.inl y18=>some (.inl (((10:Int)),([]),([]),y13.1,y13.2.1,y13.2.2.1,((0:Int)),y18.1,y13.2.2.2.2,y15.2,y18.2))|.inr y18=>some (.inr (y18))) else some (.inl (((10:Int)),([]),([]),y13.1,y13.2.1,y13.2.2.1,((0:Int)),y16.2,y13.2.2.2.2,y15.2,([])))|.inr y15=>some (.inr (y15)))|.inr y13=>some (.inr (y13))) else (qaG [(114:UInt8),(101:UInt8),(112:UInt8),(101:UInt8),(97:UInt8),(116:UInt8)] y11.2).bind fun y19=>(match y19 with|.inl y20=>(qax y20).bind fun y21=>Option.bind (α:=Bool) ( bif Token.kind y21.1==2 then some (decide (Token.num y21.1>1000)) else some (false)) fun y22=>bif y22 then (qaB y21.2).bind fun y23=>some (.inr (y23)) else (qay (2:Int) y21.2).bind fun y24=>(match y24 with|.inl y25=>(rec_qat y25.2).bind fun y26=>(match y26 with|.inl y27=>some (.inl (((11:Int)),([]),([]),((0:Int)),((0:Int)),([]),(Token.num y25.1),y27.1,([]),y27.2,([])))|.inr y27=>some (.inr (y27)))|.inr y25=>some (.inr (y25)))|.inr y20=>some (.inr (y20)))))
def qaC (rec_qat:qat_o):=sealF (qaC_f rec_qat)
abbrev qat_o3:=List Token->List TStmt->Option ((Wrong)⊕((List Token)×(List TStmt)))
def qat_t3 (rec_qat:qat_o) (rec:qat_o3):qat_o3:=fun a0 a1=>(qaE [(125:UInt8)] a0).bind fun y0=>bif !y0.1 then (qaC rec_qat y0.2).bind fun y1=>(match y1 with|.inl y2=>bif decide ((List.length a1+List.length [TStmt.mk y2.1 y2.2.1 y2.2.2.1 (TExpr.mk y2.2.2.2.1 y2.2.2.2.2.1 y2.2.2.2.2.2.1 y2.2.2.2.2.2.2.2.2.1) y2.2.2.2.2.2.2.1 y2.2.2.2.2.2.2.2.2.2.1 y2.2.2.2.2.2.2.2.2.2.2])*(152:Nat)<=(140737488355328:Nat)/\List.length a1+List.length [TStmt.mk y2.1 y2.2.1 y2.2.2.1 (TExpr.mk y2.2.2.2.1 y2.2.2.2.2.1 y2.2.2.2.2.2.1 y2.2.2.2.2.2.2.2.2.1) y2.2.2.2.2.2.2.1 y2.2.2.2.2.2.2.2.2.2.1 y2.2.2.2.2.2.2.2.2.2.2]<=(9223372036854775807:Nat)) then rec y2.2.2.2.2.2.2.2.1 (a1++[TStmt.mk y2.1 y2.2.1 y2.2.2.1 (TExpr.mk y2.2.2.2.1 y2.2.2.2.2.1 y2.2.2.2.2.2.1 y2.2.2.2.2.2.2.2.2.1) y2.2.2.2.2.2.2.1 y2.2.2.2.2.2.2.2.2.2.1 y2.2.2.2.2.2.2.2.2.2.2]) else none|.inr y2=>some (.inl (y2))) else some (.inr (y0.2,(a1)))
def qat_i3 (rec_qat:qat_o):Nat->qat_o3
 |0=>fun _ _=>none
 |n+1=>qat_t3 rec_qat (qat_i3 rec_qat n)
def qat_l3 (rec_qat:qat_o):=sealF (qat_i3 rec_qat fuel)
def qat_f (rec_qat:qat_o):qat_o:=fun a0=>(qaG [(123:UInt8)] a0).bind fun y0=>(match y0 with|.inl y1=>(qat_l3 rec_qat y1 []).bind fun y2=>(match y2 with|.inl y3=>some (.inr (y3))|.inr y3=>some (.inl (y3.1,y3.2)))|.inr y1=>some (.inr (y1)))
def qat_i:Nat->qat_o
 |0=>fun _=>none
 |n+1=>qat_f (qat_i n)
def qat:=sealF (qat_i fuel)
abbrev qaA_o2:=List Token->List TCell->List (List UInt8)->List TThread->Option ((Wrong)⊕((List Token)×(List TCell)×(List (List UInt8))×(List TThread)))
def qaA_t2 (rec:qaA_o2):qaA_o2:=fun a0 a1 a2 a3=>(qax a0).bind fun y0=>bif Token.kind y0.1 != 5 then (qaE [(99:UInt8),(101:UInt8),(108:UInt8),(108:UInt8)] y0.2).bind fun y1=>bif y1.1 then (qaw y1.2).bind fun y2=>(match y2 with|.inl y3=>(qaE [(61:UInt8)] y3.2).bind fun y4=>bif y4.1 then (qaE [(45:UInt8)] y4.2).bind fun y5=>(qay (2:Int) y5.2).bind fun y6=>(match y6 with|.inl y7=>bif y5.1 then (qaG [(59:UInt8)] y7.2).bind fun y8=>(match y8 with|.inl y9=>bif decide ((List.length a1+List.length [TCell.mk y3.1 (IntKind.wrap IntKind.i64 ((0:Int)-Token.num y7.1))])*(24:Nat)<=(140737488355328:Nat)/\List.length a1+List.length [TCell.mk y3.1 (IntKind.wrap IntKind.i64 ((0:Int)-Token.num y7.1))]<=(9223372036854775807:Nat)) then rec (y9) (a1++[TCell.mk y3.1 (IntKind.wrap IntKind.i64 ((0:Int)-Token.num y7.1))]) (a2) (a3) else none|.inr y9=>some (.inl (y9))) else (qaG [(59:UInt8)] y7.2).bind fun y10=>(match y10 with|.inl y11=>bif decide ((List.length a1+List.length [TCell.mk y3.1 (Token.num y7.1)])*(24:Nat)<=(140737488355328:Nat)/\List.length a1+List.length [TCell.mk y3.1 (Token.num y7.1)]<=(9223372036854775807:Nat)) then rec (y11) (a1++[TCell.mk y3.1 (Token.num y7.1)]) (a2) (a3) else none|.inr y11=>some (.inl (y11)))|.inr y7=>some (.inl (y7))) else (qaG [(59:UInt8)] y4.2).bind fun y12=>(match y12 with|.inl y13=>bif decide ((List.length a1+List.length [TCell.mk y3.1 (0:Int)])*(24:Nat)<=(140737488355328:Nat)/\List.length a1+List.length [TCell.mk y3.1 (0:Int)]<=(9223372036854775807:Nat)) then rec (y13) (a1++[TCell.mk y3.1 (0:Int)]) (a2) (a3) else none|.inr y13=>some (.inl (y13)))|.inr y3=>some (.inl (y3))) else (qaE [(109:UInt8),(117:UInt8),(116:UInt8),(101:UInt8),(120:UInt8)] y1.2).bind fun y14=>bif y14.1 then (qaw y14.2).bind fun y15=>(match y15 with|.inl y16=>bif decide ((List.length a2+List.length [y16.1])*(16:Nat)<=(140737488355328:Nat)/\List.length a2+List.length [y16.1]<=(9223372036854775807:Nat)) then (qaG [(59:UInt8)] y16.2).bind fun y17=>(match y17 with|.inl y18=>rec (y18) (a1) (a2++[y16.1]) (a3)|.inr y18=>some (.inl (y18))) else none|.inr y16=>some (.inl (y16))) else (qaG [(116:UInt8),(104:UInt8),(114:UInt8),(101:UInt8),(97:UInt8),(100:UInt8)] y14.2).bind fun y19=>(match y19 with|.inl y20=>(qaw y20).bind fun y21=>(match y21 with|.inl y22=>(qat y22.2).bind fun y23=>(match y23 with|.inl y24=>bif decide ((List.length a3+List.length [TThread.mk y22.1 y24.2])*(40:Nat)<=(140737488355328:Nat)/\List.length a3+List.length [TThread.mk y22.1 y24.2]<=(9223372036854775807:Nat)) then rec y24.1 (a1) (a2) (a3++[TThread.mk y22.1 y24.2]) else none|.inr y24=>some (.inl (y24)))|.inr y22=>some (.inl (y22)))|.inr y20=>some (.inl (y20))) else some (.inr (y0.2,(a1),(a2),(a3)))
def qaA_i2:Nat->qaA_o2
 |0=>fun _ _ _ _=>none
 |n+1=>qaA_t2 (qaA_i2 n)
def qaA_l2:=sealF (qaA_i2 fuel)
def qaA_f (a0:List Token):Option (((List Token)×(List TCell)×(List (List UInt8))×(List TThread))⊕(Wrong)):=(qaA_l2 a0 [] [] []).bind fun y0=>(match y0 with|.inl y1=>some (.inr (y1))|.inr y1=>some (.inl (y1.1,y1.2.1,y1.2.2.1,y1.2.2.2)))
def qaA:=sealF (qaA_f)
def qbJ_f (a0:TStmt) (a1:Int) (a2:Int):Option (Int):=some (if a1>a2 then a1 else a2)
def qbJ:=sealF (qbJ_f)
def qbK_f (a0:TExpr) (a1:Int) (a2:Int):Option (Int):=some (if a1>a2 then a1 else a2)
def qbK:=sealF (qbK_f)
abbrev qaa_o:=TExpr->Int->Int->Option (Int)
abbrev qaa_o3:=Int->List TExpr->Int->Int->Int->Option (Int)
def qaa_t3 (rec_qaa:qaa_o) (rec:qaa_o3):qaa_o3:=fun a0 a1 a2 a3 a4=>bif decide (a3<a2) then bif decide (0<=a3) then (a1[Int.toNat a3]?).bind fun y0=>(rec_qaa (TExpr.mk (TExpr.kind y0) (TExpr.num y0) (TExpr.name y0) (TExpr.args y0)) (IntKind.wrap IntKind.i64 (a0+(1:Int))) a4).bind fun y1=>rec (a0) (a1) (a2) (IntKind.wrap IntKind.i64 (a3+(1:Int))) (y1) else none else some (a4)
def qaa_i3 (rec_qaa:qaa_o):Nat->qaa_o3
 |0=>fun _ _ _ _ _=>none
 |n+1=>qaa_t3 rec_qaa (qaa_i3 rec_qaa n)
def qaa_l3 (rec_qaa:qaa_o):=sealF (qaa_i3 rec_qaa fuel)
def qaa_f (rec_qaa:qaa_o):qaa_o:=fun a0 a1 a2=>(qbK (TExpr.mk (TExpr.kind a0) (TExpr.num a0) (TExpr.name a0) (TExpr.args a0)) a1 a2).bind fun y0=>(qaa_l3 rec_qaa a1 (TExpr.args a0) (List.length (TExpr.args a0):Int) (0:Int) y0).bind fun y1=>some (y1)
def qaa_i:Nat->qaa_o
 |0=>fun _ _ _=>none
 |n+1=>qaa_f (qaa_i n)
def qaa:=sealF (qaa_i fuel)
abbrev qag_o:=List TStmt->Int->Int->Option (Int)
abbrev qag_o2:=Int->List TStmt->Int->Int->Int->Option (Int)
def qag_t2 (rec_qag:qag_o) (rec:qag_o2):qag_o2:=fun a0 a1 a2 a3 a4=>bif decide (a3<a2) then bif decide (0<=a3) then (a1[Int.toNat a3]?).bind fun y0=>(qbJ (TStmt.mk (TStmt.kind y0) (TStmt.reg y0) (TStmt.name y0) (TExpr.mk (TExpr.kind (TStmt.expr y0)) (TExpr.num (TStmt.expr y0)) (TExpr.name (TStmt.expr y0)) (TExpr.args (TStmt.expr y0))) (TStmt.count y0) (TStmt.then_ y0) (TStmt.else_ y0)) a0 a4).bind fun y1=>Option.bind (α:=Bool) ( bif TExpr.kind (TStmt.expr y0) != 0 then some (true) else some (decide ((↑(List.length (TExpr.args (TStmt.expr y0))):Int)>0))) fun y2=>bif y2 then (qaa (TExpr.mk (TExpr.kind (TStmt.expr y0)) (TExpr.num (TStmt.expr y0)) (TExpr.name (TStmt.expr y0)) (TExpr.args (TStmt.expr y0))) (1:Int) y1).bind fun y3=>(rec_qag (TStmt.then_ y0) (IntKind.wrap IntKind.i64 (a0+(1:Int))) y3).bind fun y4=>(rec_qag (TStmt.else_ y0) (IntKind.wrap IntKind.i64 (a0+(1:Int))) y4).bind fun y5=>rec (a0) (a1) (a2) (IntKind.wrap IntKind.i64 (a3+(1:Int))) (y5) else (rec_qag (TStmt.then_ y0) (IntKind.wrap IntKind.i64 (a0+(1:Int))) y1).bind fun y6=>(rec_qag (TStmt.else_ y0) (IntKind.wrap IntKind.i64 (a0+(1:Int))) y6).bind fun y7=>rec (a0) (a1) (a2) (IntKind.wrap IntKind.i64 (a3+(1:Int))) (y7) else none else some (a4)
def qag_i2 (rec_qag:qag_o):Nat->qag_o2
 |0=>fun _ _ _ _ _=>none
 |n+1=>qag_t2 rec_qag (qag_i2 rec_qag n)
def qag_l2 (rec_qag:qag_o):=sealF (qag_i2 rec_qag fuel)
def qag_f (rec_qag:qag_o):qag_o:=fun a0 a1 a2=>(qag_l2 rec_qag a1 a0 (List.length a0:Int) (0:Int) a2).bind fun y0=>some (y0)
def qag_i:Nat->qag_o
 |0=>fun _ _ _=>none
 |n+1=>qag_f (qag_i n)
def qag:=sealF (qag_i fuel)
abbrev qad_o2:=List TThread->Int->Int->Int->Option (Int)
def qad_t2 (rec:qad_o2):qad_o2:=fun a0 a1 a2 a3=>bif decide (a2<a1) then bif decide (0<=a2) then (a0[Int.toNat a2]?).bind fun y0=>(qag (TThread.body y0) (1:Int) a3).bind fun y1=>rec (a0) (a1) (IntKind.wrap IntKind.i64 (a2+(1:Int))) (y1) else none else some (a3)
def qad_i2:Nat->qad_o2
 |0=>fun _ _ _ _=>none
 |n+1=>qad_t2 (qad_i2 n)
def qad_l2:=sealF (qad_i2 fuel)
def qad_f (a0:TProg) (a1:Int):Option (Int):=(qad_l2 (TProg.threads a0) (List.length (TProg.threads a0):Int) (0:Int) a1).bind fun y0=>some (y0)
def qad:=sealF (qad_f)
def qbI_f (a0:TProg):Option (Int):=(qad (TProg.mk (TProg.cells a0) (TProg.mutexes a0) (TProg.threads a0)) (0:Int)).bind fun y0=>some (y0)
def qbI:=sealF (qbI_f)
def qbG_f (a0:TStmt) (a1:Int) (a2:Int):Option (Int):=some (IntKind.wrap IntKind.i64 (a2+(1:Int)))
def qbG:=sealF (qbG_f)
def qbH_f (a0:TExpr) (a1:Int) (a2:Int):Option (Int):=some (IntKind.wrap IntKind.i64 (a2+(1:Int)))
def qbH:=sealF (qbH_f)
abbrev qab_o:=TExpr->Int->Int->Option (Int)
abbrev qab_o3:=Int->List TExpr->Int->Int->Int->Option (Int)
def qab_t3 (rec_qab:qab_o) (rec:qab_o3):qab_o3:=fun a0 a1 a2 a3 a4=>bif decide (a3<a2) then bif decide (0<=a3) then (a1[Int.toNat a3]?).bind fun y0=>(rec_qab (TExpr.mk (TExpr.kind y0) (TExpr.num y0) (TExpr.name y0) (TExpr.args y0)) (IntKind.wrap IntKind.i64 (a0+(1:Int))) a4).bind fun y1=>rec (a0) (a1) (a2) (IntKind.wrap IntKind.i64 (a3+(1:Int))) (y1) else none else some (a4)
def qab_i3 (rec_qab:qab_o):Nat->qab_o3
 |0=>fun _ _ _ _ _=>none
 |n+1=>qab_t3 rec_qab (qab_i3 rec_qab n)
def qab_l3 (rec_qab:qab_o):=sealF (qab_i3 rec_qab fuel)
def qab_f (rec_qab:qab_o):qab_o:=fun a0 a1 a2=>(qbH (TExpr.mk (TExpr.kind a0) (TExpr.num a0) (TExpr.name a0) (TExpr.args a0)) a1 a2).bind fun y0=>(qab_l3 rec_qab a1 (TExpr.args a0) (List.length (TExpr.args a0):Int) (0:Int) y0).bind fun y1=>some (y1)
def qab_i:Nat->qab_o
 |0=>fun _ _ _=>none
 |n+1=>qab_f (qab_i n)
def qab:=sealF (qab_i fuel)
abbrev qah_o:=List TStmt->Int->Int->Option (Int)
abbrev qah_o2:=Int->List TStmt->Int->Int->Int->Option (Int)
def qah_t2 (rec_qah:qah_o) (rec:qah_o2):qah_o2:=fun a0 a1 a2 a3 a4=>bif decide (a3<a2) then bif decide (0<=a3) then (a1[Int.toNat a3]?).bind fun y0=>(qbG (TStmt.mk (TStmt.kind y0) (TStmt.reg y0) (TStmt.name y0) (TExpr.mk (TExpr.kind (TStmt.expr y0)) (TExpr.num (TStmt.expr y0)) (TExpr.name (TStmt.expr y0)) (TExpr.args (TStmt.expr y0))) (TStmt.count y0) (TStmt.then_ y0) (TStmt.else_ y0)) a0 a4).bind fun y1=>Option.bind (α:=Bool) ( bif TExpr.kind (TStmt.expr y0) != 0 then some (true) else some (decide ((↑(List.length (TExpr.args (TStmt.expr y0))):Int)>0))) fun y2=>bif y2 then (qab (TExpr.mk (TExpr.kind (TStmt.expr y0)) (TExpr.num (TStmt.expr y0)) (TExpr.name (TStmt.expr y0)) (TExpr.args (TStmt.expr y0))) (1:Int) y1).bind fun y3=>(rec_qah (TStmt.then_ y0) (IntKind.wrap IntKind.i64 (a0+(1:Int))) y3).bind fun y4=>(rec_qah (TStmt.else_ y0) (IntKind.wrap IntKind.i64 (a0+(1:Int))) y4).bind fun y5=>rec (a0) (a1) (a2) (IntKind.wrap IntKind.i64 (a3+(1:Int))) (y5) else (rec_qah (TStmt.then_ y0) (IntKind.wrap IntKind.i64 (a0+(1:Int))) y1).bind fun y6=>(rec_qah (TStmt.else_ y0) (IntKind.wrap IntKind.i64 (a0+(1:Int))) y6).bind fun y7=>rec (a0) (a1) (a2) (IntKind.wrap IntKind.i64 (a3+(1:Int))) (y7) else none else some (a4)
def qah_i2 (rec_qah:qah_o):Nat->qah_o2
 |0=>fun _ _ _ _ _=>none
 |n+1=>qah_t2 rec_qah (qah_i2 rec_qah n)
def qah_l2 (rec_qah:qah_o):=sealF (qah_i2 rec_qah fuel)
def qah_f (rec_qah:qah_o):qah_o:=fun a0 a1 a2=>(qah_l2 rec_qah a1 a0 (List.length a0:Int) (0:Int) a2).bind fun y0=>some (y0)
def qah_i:Nat->qah_o
 |0=>fun _ _ _=>none
 |n+1=>qah_f (qah_i n)
def qah:=sealF (qah_i fuel)
abbrev qae_o2:=List TThread->Int->Int->Int->Option (Int)
def qae_t2 (rec:qae_o2):qae_o2:=fun a0 a1 a2 a3=>bif decide (a2<a1) then bif decide (0<=a2) then (a0[Int.toNat a2]?).bind fun y0=>(qah (TThread.body y0) (1:Int) a3).bind fun y1=>rec (a0) (a1) (IntKind.wrap IntKind.i64 (a2+(1:Int))) (y1) else none else some (a3)
def qae_i2:Nat->qae_o2
 |0=>fun _ _ _ _=>none
 |n+1=>qae_t2 (qae_i2 n)
def qae_l2:=sealF (qae_i2 fuel)
def qae_f (a0:TProg) (a1:Int):Option (Int):=(qae_l2 (TProg.threads a0) (List.length (TProg.threads a0):Int) (0:Int) a1).bind fun y0=>some (y0)
def qae:=sealF (qae_f)
def qbF_f (a0:TProg):Option (Int):=(qae (TProg.mk (TProg.cells a0) (TProg.mutexes a0) (TProg.threads a0)) (0:Int)).bind fun y0=>some (y0)
def qbF:=sealF (qbF_f)
def qar_f (a0:List UInt8):Option (Fault×(List TCell)×(List (List UInt8))×(List TThread)):=(qaj a0).bind fun y0=>bif Fault.code y0.2 != 0 then some ((Fault.mk (Fault.code y0.2) (Fault.at_ y0.2) (Fault.name y0.2)),([]),([]),([])) else (qaA y0.1).bind fun y1=>(match y1 with|.inl y2=>(qbI (TProg.mk y2.2.1 y2.2.2.1 y2.2.2.2)).bind fun y3=>bif decide (y3>16) then some ((Fault.mk (41:Int) (0:Int) []),([]),([]),([])) else (qbF (TProg.mk y2.2.1 y2.2.2.1 y2.2.2.2)).bind fun y4=>bif decide (y4>500) then some ((Fault.mk (42:Int) (0:Int) []),([]),([]),([])) else some ((Fault.mk (0:Int) (0:Int) []),y2.2.1,y2.2.2.1,y2.2.2.2)|.inr y2=>some ((Fault.mk (40:Int) (Wrong.at_ y2) []),([]),([]),([])))
def qar:=sealF (qar_f)
def qaM_f:Option (Bool):=(qar [(99:UInt8),(101:UInt8),(108:UInt8),(108:UInt8),(32:UInt8),(120:UInt8),(32:UInt8),(61:UInt8),(32:UInt8),(45:UInt8),(51:UInt8),(59:UInt8),(32:UInt8),(116:UInt8),(104:UInt8),(114:UInt8),(101:UInt8),(97:UInt8),(100:UInt8),(32:UInt8),(116:UInt8),(32:UInt8),(123:UInt8),(32:UInt8),(114:UInt8),(32:UInt8),(60:UInt8),(45:UInt8),(32:UInt8),(97:UInt8),(100:UInt8),(100:UInt8),(32:UInt8),(120:UInt8),(32:UInt8),(45:UInt8),(49:UInt8),(32:UInt8),(42:UInt8),(32:UInt8),(50:UInt8),(59:UInt8),(32:UInt8),(125:UInt8)]).bind fun y0=>(qar [(116:UInt8),(104:UInt8),(114:UInt8),(101:UInt8),(97:UInt8),(100:UInt8),(32:UInt8),(116:UInt8),(32:UInt8),(123:UInt8),(32:UInt8),(97:UInt8),(115:UInt8),(115:UInt8),(101:UInt8),(114:UInt8),(116:UInt8),(32:UInt8),(97:UInt8),(32:UInt8),(60:UInt8),(32:UInt8),(98:UInt8),(32:UInt8),(60:UInt8),(32:UInt8),(99:UInt8),(59:UInt8),(32:UInt8),(125:UInt8)]).bind fun y1=>bif Fault.code y0.1 != 0 then some (false) else bif (List.length y0.2.2.2:Int) != 1 then some (false) else bif decide ((0:Int)<=(0:Int))&&decide ((0:Int)<(List.length y0.2.2.2:Int)) then (y0.2.2.2[(0:Nat)]?).bind fun y2=>bif (List.length (TThread.body y2):Int) != 1 then some (false) else bif (List.length y0.2.1:Int) != 1 then some (false) else bif decide ((0:Int)<=(0:Int))&&decide ((0:Int)<(List.length y0.2.2.2:Int)) then bif decide ((0:Int)<=(0:Int))&&decide ((0:Int)<(List.length (TThread.body y2):Int)) then ((TThread.body y2)[(0:Nat)]?).bind fun y3=>bif decide ((0:Int)<=(0:Int))&&decide ((0:Int)<(List.length y0.2.1:Int)) then (y0.2.1[(0:Nat)]?).bind fun y4=>bif decide (y4=TCell.mk [(120:UInt8)] (-3:Int)) then bif TStmt.kind y3==4 then bif TStmt.reg y3==[(114:UInt8)] then bif TExpr.kind (TStmt.expr y3)==7 then bif (↑(List.length (TExpr.args (TStmt.expr y3))):Int)==2 then bif decide ((0:Int)<=(0:Int))&&decide ((0:Int)<(↑(List.length (TExpr.args (TStmt.expr y3))):Int)) then ((TExpr.args (TStmt.expr y3))[(0:Nat)]?).bind fun y5=>bif TExpr.kind y5==3 then some (decide (Fault.mk (Fault.code y1.1) (Fault.at_ y1.1) (Fault.name y1.1)=Fault.mk (40:Int) (24:Int) [])) else some (false) else none else some (false) else some (false) else some (false) else some (false) else some (false) else none else none else none else none
def qaM:=sealF (qaM_f)
def qbR_f (a0:List UInt8):Option (Bool):=bif decide ((List.length a0:Int)>64) then some (false) else (qaj a0).bind fun y0=>Option.bind (α:=Bool) ( bif Fault.code y0.2==0 then some ((List.length y0.1:Int)==2) else some (false)) fun y1=>Option.bind (α:=Bool) ( bif y1 then (y0.1[(0:Nat)]?).bind fun y2=>some (Token.kind y2==1) else some (false)) fun y3=>Option.bind (α:=Bool) ( bif y3 then (y0.1[(0:Nat)]?).bind fun y4=>some (Token.text y4==a0) else some (false)) fun y5=>some (y5)
def qbR:=sealF (qbR_f)
def qbS_f:Option ((List ((Int)×(Shape)))):=some (zaau (11:Int) (Shape.mk false false false true true false) (zaau (10:Int) (Shape.mk false false true false true true) (zaau (9:Int) (Shape.mk false false true false false false) (zaau (8:Int) (Shape.mk false true false false false false) (zaau (7:Int) (Shape.mk false true false false false false) (zaau (6:Int) (Shape.mk false true false false false false) (zaau (5:Int) (Shape.mk false true false false false false) (zaau (4:Int) (Shape.mk true true true false false false) (zaau (3:Int) (Shape.mk false true true false false false) (zaau (2:Int) (Shape.mk true true false false false false) (zaau (1:Int) (Shape.mk true false true false false false) [])))))))))))
def qbS:=sealF (qbS_f)
def qbQ_f (a0:List UInt8) (a1:Bool):Option (Bool):=Option.bind (α:=Bool) ( bif a1 then (qbR a0).bind fun y0=>some (y0) else some (false)) fun y1=>Option.bind (α:=Bool) ( bif y1 then some (true) else Option.bind (α:=Bool) ( bif !a1 then some (a0==[]) else some (false)) fun y2=>some (y2)) fun y3=>some (y3)
def qbQ:=sealF (qbQ_f)
def qbT_f (a0:TStmt):Option (Bool):=(qbS).bind fun y0=>Option.bind (α:=Bool) ( bif TExpr.kind (TStmt.expr a0)==0 then some (TExpr.num (TStmt.expr a0)==0) else some (false)) fun y1=>Option.bind (α:=Bool) ( bif y1 then some (TExpr.name (TStmt.expr a0)==[]) else some (false)) fun y2=>Option.bind (α:=Bool) ( bif y2 then some ((↑(List.length (TExpr.args (TStmt.expr a0))):Int)==0) else some (false)) fun y3=>Option.bind (α:=Bool) ( bif TStmt.count a0==0 then some (true) else Option.bind (α:=Bool) ( bif Shape.count (Option.getD (mapAt y0 (TStmt.kind a0)) (Shape.mk false false false false false false)) then some (decide (TStmt.count a0>0)) else some (false)) fun y4=>Option.bind (α:=Bool) ( bif y4 then some (decide (TStmt.count a0<=1000)) else some (false)) fun y5=>some (y5)) fun y6=>Option.bind (α:=Bool) ( bif Option.isSome (mapAt y0 (TStmt.kind a0)) then (qbQ (TStmt.reg a0) (Shape.reg (Option.getD (mapAt y0 (TStmt.kind a0)) (Shape.mk false false false false false false)))).bind fun y7=>some (y7) else some (false)) fun y8=>Option.bind (α:=Bool) ( bif y8 then (qbQ (TStmt.name a0) (Shape.name (Option.getD (mapAt y0 (TStmt.kind a0)) (Shape.mk false false false false false false)))).bind fun y9=>some (y9) else some (false)) fun y10=>Option.bind (α:=Bool) ( bif y10 then Option.bind (α:=Bool) ( bif Shape.expr (Option.getD (mapAt y0 (TStmt.kind a0)) (Shape.mk false false false false false false)) then some (TExpr.kind (TStmt.expr a0) != 0) else some (false)) fun y11=>Option.bind (α:=Bool) ( bif y11 then some (true) else Option.bind (α:=Bool) ( bif !Shape.expr (Option.getD (mapAt y0 (TStmt.kind a0)) (Shape.mk false false false false false false)) then some (y3) else some (false)) fun y12=>some (y12)) fun y13=>some (y13) else some (false)) fun y14=>Option.bind (α:=Bool) ( bif y14 then some (y6) else some (false)) fun y15=>Option.bind (α:=Bool) ( bif y15 then Option.bind (α:=Bool) ( bif Shape.then_ (Option.getD (mapAt y0 (TStmt.kind a0)) (Shape.mk false false false false false false)) then some (true) else some ((List.length (TStmt.then_ a0):Int)==0)) fun y16=>some (y16) else some (false)) fun y17=>Option.bind (α:=Bool) ( bif y17 then Option.bind (α:=Bool) ( bif Shape.other (Option.getD (mapAt y0 (TStmt.kind a0)) (Shape.mk false false false false false false)) then some (true) else some ((List.length (TStmt.else_ a0):Int)==0)) fun y18=>some (y18) else some (false)) fun y19=>some (y19)
def qbT:=sealF (qbT_f)
def qbO_f (a0:TStmt) (a1:Int) (a2:Bool):Option (Bool):=Option.bind (α:=Bool) ( bif a2 then (qbT (TStmt.mk (TStmt.kind a0) (TStmt.reg a0) (TStmt.name a0) (TExpr.mk (TExpr.kind (TStmt.expr a0)) (TExpr.num (TStmt.expr a0)) (TExpr.name (TStmt.expr a0)) (TExpr.args (TStmt.expr a0))) (TStmt.count a0) (TStmt.then_ a0) (TStmt.else_ a0))).bind fun y0=>some (y0) else some (false)) fun y1=>some (y1)
def qbO:=sealF (qbO_f)
def qbM_f (a0:TExpr):Option (Bool):=bif TExpr.kind a0==1 then Option.bind (α:=Bool) ( bif decide (TExpr.num a0>=0) then some (decide (TExpr.num a0<=2147483647)) else some (false)) fun y0=>Option.bind (α:=Bool) ( bif y0 then some (TExpr.name a0==[]) else some (false)) fun y1=>Option.bind (α:=Bool) ( bif y1 then some ((List.length (TExpr.args a0):Int)==0) else some (false)) fun y2=>some (y2) else bif TExpr.kind a0==2 then (qbR (TExpr.name a0)).bind fun y3=>Option.bind (α:=Bool) ( bif y3 then some (TExpr.num a0==0) else some (false)) fun y4=>Option.bind (α:=Bool) ( bif y4 then some ((List.length (TExpr.args a0):Int)==0) else some (false)) fun y5=>some (y5) else Option.bind (α:=Bool) ( bif TExpr.kind a0==3 then some (true) else some (TExpr.kind a0==4)) fun y6=>bif y6 then Option.bind (α:=Bool) ( bif decide (TExpr.kind a0>=3) then some (decide (TExpr.kind a0<=17)) else some (false)) fun y7=>Option.bind (α:=Bool) ( bif y7 then some ((List.length (TExpr.args a0):Int)==1) else some (false)) fun y8=>Option.bind (α:=Bool) ( bif y8 then some (TExpr.num a0==0) else some (false)) fun y9=>Option.bind (α:=Bool) ( bif y9 then some (TExpr.name a0==[]) else some (false)) fun y10=>some (y10) else Option.bind (α:=Bool) ( bif decide (TExpr.kind a0>=3) then some (decide (TExpr.kind a0<=17)) else some (false)) fun y11=>Option.bind (α:=Bool) ( bif y11 then some ((List.length (TExpr.args a0):Int)==2) else some (false)) fun y12=>Option.bind (α:=Bool) ( bif y12 then some (TExpr.num a0==0) else some (false)) fun y13=>Option.bind (α:=Bool) ( bif y13 then some (TExpr.name a0==[]) else some (false)) fun y14=>some (y14)
def qbM:=sealF (qbM_f)
def qbP_f (a0:TExpr) (a1:Int) (a2:Bool):Option (Bool):=Option.bind (α:=Bool) ( bif a2 then (qbM (TExpr.mk (TExpr.kind a0) (TExpr.num a0) (TExpr.name a0) (TExpr.args a0))).bind fun y0=>some (y0) else some (false)) fun y1=>some (y1)
def qbP:=sealF (qbP_f)
abbrev qac_o:=TExpr->Int->Bool->Option (Bool)
abbrev qac_o3:=Int->List TExpr->Int->Int->Bool->Option (Bool)
def qac_t3 (rec_qac:qac_o) (rec:qac_o3):qac_o3:=fun a0 a1 a2 a3 a4=>bif decide (a3<a2) then bif decide (0<=a3) then (a1[Int.toNat a3]?).bind fun y0=>(rec_qac (TExpr.mk (TExpr.kind y0) (TExpr.num y0) (TExpr.name y0) (TExpr.args y0)) (IntKind.wrap IntKind.i64 (a0+(1:Int))) a4).bind fun y1=>rec (a0) (a1) (a2) (IntKind.wrap IntKind.i64 (a3+(1:Int))) (y1) else none else some (a4)
def qac_i3 (rec_qac:qac_o):Nat->qac_o3
 |0=>fun _ _ _ _ _=>none
 |n+1=>qac_t3 rec_qac (qac_i3 rec_qac n)
def qac_l3 (rec_qac:qac_o):=sealF (qac_i3 rec_qac fuel)
def qac_f (rec_qac:qac_o):qac_o:=fun a0 a1 a2=>(qbP (TExpr.mk (TExpr.kind a0) (TExpr.num a0) (TExpr.name a0) (TExpr.args a0)) a1 a2).bind fun y0=>(qac_l3 rec_qac a1 (TExpr.args a0) (List.length (TExpr.args a0):Int) (0:Int) y0).bind fun y1=>some (y1)
def qac_i:Nat->qac_o
 |0=>fun _ _ _=>none
 |n+1=>qac_f (qac_i n)
def qac:=sealF (qac_i fuel)
abbrev qai_o:=List TStmt->Int->Bool->Option (Bool)
abbrev qai_o2:=Int->List TStmt->Int->Int->Bool->Option (Bool)
def qai_t2 (rec_qai:qai_o) (rec:qai_o2):qai_o2:=fun a0 a1 a2 a3 a4=>bif decide (a3<a2) then bif decide (0<=a3) then (a1[Int.toNat a3]?).bind fun y0=>(qbO (TStmt.mk (TStmt.kind y0) (TStmt.reg y0) (TStmt.name y0) (TExpr.mk (TExpr.kind (TStmt.expr y0)) (TExpr.num (TStmt.expr y0)) (TExpr.name (TStmt.expr y0)) (TExpr.args (TStmt.expr y0))) (TStmt.count y0) (TStmt.then_ y0) (TStmt.else_ y0)) a0 a4).bind fun y1=>Option.bind (α:=Bool) ( bif TExpr.kind (TStmt.expr y0) != 0 then some (true) else some (decide ((↑(List.length (TExpr.args (TStmt.expr y0))):Int)>0))) fun y2=>bif y2 then (qac (TExpr.mk (TExpr.kind (TStmt.expr y0)) (TExpr.num (TStmt.expr y0)) (TExpr.name (TStmt.expr y0)) (TExpr.args (TStmt.expr y0))) (1:Int) y1).bind fun y3=>(rec_qai (TStmt.then_ y0) (IntKind.wrap IntKind.i64 (a0+(1:Int))) y3).bind fun y4=>(rec_qai (TStmt.else_ y0) (IntKind.wrap IntKind.i64 (a0+(1:Int))) y4).bind fun y5=>rec (a0) (a1) (a2) (IntKind.wrap IntKind.i64 (a3+(1:Int))) (y5) else (rec_qai (TStmt.then_ y0) (IntKind.wrap IntKind.i64 (a0+(1:Int))) y1).bind fun y6=>(rec_qai (TStmt.else_ y0) (IntKind.wrap IntKind.i64 (a0+(1:Int))) y6).bind fun y7=>rec (a0) (a1) (a2) (IntKind.wrap IntKind.i64 (a3+(1:Int))) (y7) else none else some (a4)
def qai_i2 (rec_qai:qai_o):Nat->qai_o2
 |0=>fun _ _ _ _ _=>none
 |n+1=>qai_t2 rec_qai (qai_i2 rec_qai n)
def qai_l2 (rec_qai:qai_o):=sealF (qai_i2 rec_qai fuel)
def qai_f (rec_qai:qai_o):qai_o:=fun a0 a1 a2=>(qai_l2 rec_qai a1 a0 (List.length a0:Int) (0:Int) a2).bind fun y0=>some (y0)
def qai_i:Nat->qai_o
 |0=>fun _ _ _=>none
 |n+1=>qai_f (qai_i n)
def qai:=sealF (qai_i fuel)
abbrev qaf_o2:=List TThread->Int->Int->Bool->Option (Bool)
def qaf_t2 (rec:qaf_o2):qaf_o2:=fun a0 a1 a2 a3=>bif decide (a2<a1) then bif decide (0<=a2) then (a0[Int.toNat a2]?).bind fun y0=>(qai (TThread.body y0) (1:Int) a3).bind fun y1=>rec (a0) (a1) (IntKind.wrap IntKind.i64 (a2+(1:Int))) (y1) else none else some (a3)
def qaf_i2:Nat->qaf_o2
 |0=>fun _ _ _ _=>none
 |n+1=>qaf_t2 (qaf_i2 n)
def qaf_l2:=sealF (qaf_i2 fuel)
def qaf_f (a0:TProg) (a1:Bool):Option (Bool):=(qaf_l2 (TProg.threads a0) (List.length (TProg.threads a0):Int) (0:Int) a1).bind fun y0=>some (y0)
def qaf:=sealF (qaf_f)
abbrev qbN_o3:=List TCell->Int->Int->List TCell->List (List UInt8)->List TThread->Bool->Option ((List TCell)×(List (List UInt8))×(List TThread)×Bool)
def qbN_t3 (rec:qbN_o3):qbN_o3:=fun a0 a1 a2 a3 a4 a5 a6=>bif decide (a2<a1) then bif decide (0<=a2) then (a0[Int.toNat a2]?).bind fun y0=>Option.bind (α:=Bool) ( bif a6 then (qbR (TCell.name y0)).bind fun y1=>some (y1) else some (false)) fun y2=>Option.bind (α:=Bool) ( bif y2 then some (decide (TCell.init y0>=(-2147483647:Int))) else some (false)) fun y3=>Option.bind (α:=Bool) ( bif y3 then some (decide (TCell.init y0<=2147483647)) else some (false)) fun y4=>rec (a0) (a1) (IntKind.wrap IntKind.i64 (a2+(1:Int))) (a3) (a4) (a5) (y4) else none else some ((a3),(a4),(a5),(a6))
def qbN_i3:Nat->qbN_o3
 |0=>fun _ _ _ _ _ _ _=>none
 |n+1=>qbN_t3 (qbN_i3 n)
def qbN_l3:=sealF (qbN_i3 fuel)
abbrev qbN_o8:=List (List UInt8)->Int->Int->List TCell->List (List UInt8)->List TThread->Bool->Option ((List TCell)×(List (List UInt8))×(List TThread)×Bool)
def qbN_t8 (rec:qbN_o8):qbN_o8:=fun a0 a1 a2 a3 a4 a5 a6=>bif decide (a2<a1) then bif decide (0<=a2) then (a0[Int.toNat a2]?).bind fun y0=>Option.bind (α:=Bool) ( bif a6 then (qbR y0).bind fun y1=>some (y1) else some (false)) fun y2=>rec (a0) (a1) (IntKind.wrap IntKind.i64 (a2+(1:Int))) (a3) (a4) (a5) (y2) else none else some ((a3),(a4),(a5),(a6))
def qbN_i8:Nat->qbN_o8
 |0=>fun _ _ _ _ _ _ _=>none
 |n+1=>qbN_t8 (qbN_i8 n)
def qbN_l8:=sealF (qbN_i8 fuel)
abbrev qbN_o13:=List TThread->Int->Int->List TCell->List (List UInt8)->List TThread->Bool->Option ((List TCell)×(List (List UInt8))×(List TThread)×Bool)
def qbN_t13 (rec:qbN_o13):qbN_o13:=fun a0 a1 a2 a3 a4 a5 a6=>bif decide (a2<a1) then bif decide (0<=a2) then (a0[Int.toNat a2]?).bind fun y0=>Option.bind (α:=Bool) ( bif a6 then (qbR (TThread.name y0)).bind fun y1=>some (y1) else some (false)) fun y2=>rec (a0) (a1) (IntKind.wrap IntKind.i64 (a2+(1:Int))) (a3) (a4) (a5) (y2) else none else some ((a3),(a4),(a5),(a6))
def qbN_i13:Nat->qbN_o13
 |0=>fun _ _ _ _ _ _ _=>none
 |n+1=>qbN_t13 (qbN_i13 n)
def qbN_l13:=sealF (qbN_i13 fuel)
def qbN_f (a0:TProg):Option (Bool):=(qbN_l3 (TProg.cells a0) (List.length (TProg.cells a0):Int) (0:Int) (TProg.cells a0) (TProg.mutexes a0) (TProg.threads a0) true).bind fun y0=>(qbN_l8 y0.2.1 (List.length y0.2.1:Int) (0:Int) y0.1 y0.2.1 y0.2.2.1 y0.2.2.2).bind fun y1=>(qbN_l13 y1.2.2.1 (List.length y1.2.2.1:Int) (0:Int) y1.1 y1.2.1 y1.2.2.1 y1.2.2.2).bind fun y2=>bif y2.2.2.2 then (qaf (TProg.mk y2.1 y2.2.1 y2.2.2.1) y2.2.2.2).bind fun y3=>some (y3) else some y2.2.2.2
def qbN:=sealF (qbN_f)
def qbL_f (a0:TProg):Option (Int):=(qbN (TProg.mk (TProg.cells a0) (TProg.mutexes a0) (TProg.threads a0))).bind fun y0=>bif !y0 then some ((30:Int)) else (qbI (TProg.mk (TProg.cells a0) (TProg.mutexes a0) (TProg.threads a0))).bind fun y1=>bif decide (y1>16) then some ((31:Int)) else (qbF (TProg.mk (TProg.cells a0) (TProg.mutexes a0) (TProg.threads a0))).bind fun y2=>bif decide (y2>500) then some ((32:Int)) else some ((0:Int))
def qbL:=sealF (qbL_f)
abbrev qa6_o:=TExpr->Option (Int×Int×(List UInt8)×(List TExpr))
abbrev qa6_o3:=Int->Int->Int->List UInt8->List TExpr->Int->Int->List UInt8->Int->Int->List UInt8->List TExpr->Option (Int×Int×(List UInt8)×Int×Int×(List UInt8)×(List TExpr))
def qa6_t3 (rec_qa6:qa6_o) (rec:qa6_o3):qa6_o3:=fun a0 a1 a2 a3 a4 a5 a6 a7 a8 a9 a10 a11=>bif decide (a0<(List.length a4:Int)) then bif decide (0<=a0) then (a4[Int.toNat a0]?).bind fun y0=>(rec_qa6 y0).bind fun y1=>bif decide ((List.length a11+List.length [TExpr.mk y1.1 y1.2.1 y1.2.2.1 y1.2.2.2])*(56:Nat)<=(140737488355328:Nat)/\List.length a11+List.length [TExpr.mk y1.1 y1.2.1 y1.2.2.1 y1.2.2.2]<=(9223372036854775807:Nat)) then rec (IntKind.wrap IntKind.i64 (a0+(1:Int))) (a1) (a2) (a3) (a4) (a5) (a6) (a7) (a8) (a9) (a10) (a11++[TExpr.mk y1.1 y1.2.1 y1.2.2.1 y1.2.2.2]) else none else none else some ((a5),(a6),(a7),(a8),(a9),(a10),(a11))
def qa6_i3 (rec_qa6:qa6_o):Nat->qa6_o3
 |0=>fun _ _ _ _ _ _ _ _ _ _ _ _=>none
 |n+1=>qa6_t3 rec_qa6 (qa6_i3 rec_qa6 n)
def qa6_l3 (rec_qa6:qa6_o):=sealF (qa6_i3 rec_qa6 fuel)
def qa6_f (rec_qa6:qa6_o):qa6_o:=fun a0=>(qa6_l3 rec_qa6 (0:Int) (TExpr.kind a0) (TExpr.num a0) (TExpr.name a0) (TExpr.args a0) (0:Int) (0:Int) [] (TExpr.kind a0) (TExpr.num a0) (TExpr.name a0) []).bind fun y0=>some (y0.2.2.2.1,y0.2.2.2.2.1,y0.2.2.2.2.2.1,y0.2.2.2.2.2.2)
def qa6_i:Nat->qa6_o
 |0=>fun _=>none
 |n+1=>qa6_f (qa6_i n)
def qa6:=sealF (qa6_i fuel)
abbrev qa7_o:=List TStmt->Option ((List TStmt))
abbrev qa7_o3:=List TStmt->Int->List TStmt->Option ((List TStmt))
def qa7_t3 (rec_qa7:qa7_o) (rec:qa7_o3):qa7_o3:=fun a0 a1 a2=>bif decide (a1<(List.length a0:Int)) then bif decide (0<=a1) then (a0[Int.toNat a1]?).bind fun y0=>bif decide (0<=a1) then (a0[Int.toNat a1]?).bind fun y1=>(qa6 (TExpr.mk (TExpr.kind (TStmt.expr y1)) (TExpr.num (TStmt.expr y1)) (TExpr.name (TStmt.expr y1)) (TExpr.args (TStmt.expr y1)))).bind fun y2=>bif decide (0<=a1) then (a0[Int.toNat a1]?).bind fun y3=>(rec_qa7 (TStmt.then_ y3)).bind fun y4=>bif decide (0<=a1) then (a0[Int.toNat a1]?).bind fun y5=>(rec_qa7 (TStmt.else_ y5)).bind fun y6=>bif decide ((List.length a2+List.length [TStmt.mk (TStmt.kind y0) (TStmt.reg y0) (TStmt.name y0) (TExpr.mk y2.1 y2.2.1 y2.2.2.1 y2.2.2.2) (TStmt.count y0) y4 y6])*(152:Nat)<=(140737488355328:Nat)/\List.length a2+List.length [TStmt.mk (TStmt.kind y0) (TStmt.reg y0) (TStmt.name y0) (TExpr.mk y2.1 y2.2.1 y2.2.2.1 y2.2.2.2) (TStmt.count y0) y4 y6]<=(9223372036854775807:Nat)) then rec (a0) (IntKind.wrap IntKind.i64 (a1+(1:Int))) (a2++[TStmt.mk (TStmt.kind y0) (TStmt.reg y0) (TStmt.name y0) (TExpr.mk y2.1 y2.2.1 y2.2.2.1 y2.2.2.2) (TStmt.count y0) y4 y6]) else none else none else none else none else none else some (a2)
def qa7_i3 (rec_qa7:qa7_o):Nat->qa7_o3
 |0=>fun _ _ _=>none
 |n+1=>qa7_t3 rec_qa7 (qa7_i3 rec_qa7 n)
def qa7_l3 (rec_qa7:qa7_o):=sealF (qa7_i3 rec_qa7 fuel)
def qa7_f (rec_qa7:qa7_o):qa7_o:=fun a0=>(qa7_l3 rec_qa7 a0 (0:Int) []).bind fun y0=>some (y0)
def qa7_i:Nat->qa7_o
 |0=>fun _=>none
 |n+1=>qa7_f (qa7_i n)
def qa7:=sealF (qa7_i fuel)
abbrev qa5_o5:=Int->List TCell->List (List UInt8)->List TThread->List TCell->List (List UInt8)->List TThread->Option ((List TCell)×(List (List UInt8))×(List TThread))
def qa5_t5 (rec:qa5_o5):qa5_o5:=fun a0 a1 a2 a3 a4 a5 a6=>bif decide (a0<(List.length a3:Int)) then bif decide (0<=a0) then (a3[Int.toNat a0]?).bind fun y0=>(qa7 (TThread.body y0)).bind fun y1=>bif decide (0<=a0) then (a3[Int.toNat a0]?).bind fun y2=>bif decide ((List.length a6+List.length [TThread.mk (TThread.name y2) y1])*(40:Nat)<=(140737488355328:Nat)/\List.length a6+List.length [TThread.mk (TThread.name y2) y1]<=(9223372036854775807:Nat)) then rec (IntKind.wrap IntKind.i64 (a0+(1:Int))) (a1) (a2) (a3) (a4) (a5) (a6++[TThread.mk (TThread.name y2) y1]) else none else none else none else some ((a4),(a5),(a6))
def qa5_i5:Nat->qa5_o5
 |0=>fun _ _ _ _ _ _ _=>none
 |n+1=>qa5_t5 (qa5_i5 n)
def qa5_l5:=sealF (qa5_i5 fuel)
def qa5_f (a0:TProg):Option ((List TCell)×(List (List UInt8))×(List TThread)):=bif decide (List.length (TProg.cells a0)*(24:Nat)<=(140737488355328:Nat)/\List.length (TProg.cells a0)<=(9223372036854775807:Nat)) then bif decide (List.length (TProg.mutexes a0)*(16:Nat)<=(140737488355328:Nat)/\List.length (TProg.mutexes a0)<=(9223372036854775807:Nat)) then (qa5_l5 (0:Int) (TProg.cells a0) (TProg.mutexes a0) (TProg.threads a0) (TProg.cells a0) (TProg.mutexes a0) []).bind fun y0=>some (y0.1,y0.2.1,y0.2.2) else none else none
def qa5:=sealF (qa5_f)
abbrev qaL_o:=List TStmt->Option ((List TStmt))
abbrev qaJ_o:=Int->Int->List UInt8->List TExpr->Option (Int×Int×(List UInt8)×(List TExpr))
abbrev qaJ_o2:=Int->Int->Int->List UInt8->Int->Int->List UInt8->List TExpr->Option (Int×Int×(List UInt8)×Int×Int×(List UInt8)×(List TExpr))
def qaJ_t2 (rec_qaL:qaL_o) (rec_qaJ:qaJ_o) (rec:qaJ_o2):qaJ_o2:=fun a0 a1 a2 a3 a4 a5 a6 a7=>bif decide (a0<(List.length a7:Int)) then bif decide (0<=a0)&&decide (a0<(List.length a7:Int)) then (a7[Int.toNat a0]?).bind fun y0=>(rec_qaJ (TExpr.kind y0) (TExpr.num y0) (TExpr.name y0) (TExpr.args y0)).bind fun y1=>bif decide (0<=a0)&&decide (a0<(List.length a7:Int)) then bif Nat.beq (Int.toNat a0) (Int.toNat a0) then rec (IntKind.wrap IntKind.i64 (a0+(1:Int))) (a1) (a2) (a3) (a4) (a5) (a6) (List.set a7 (Int.toNat a0) (TExpr.mk y1.1 y1.2.1 y1.2.2.1 y1.2.2.2)) else none else none else none else some ((a1),(a2),(a3),(a4),(a5),(a6),(a7))
def qaJ_i2 (rec_qaL:qaL_o) (rec_qaJ:qaJ_o):Nat->qaJ_o2
 |0=>fun _ _ _ _ _ _ _ _=>none
 |n+1=>qaJ_t2 rec_qaL rec_qaJ (qaJ_i2 rec_qaL rec_qaJ n)
def qaJ_l2 (rec_qaL:qaL_o) (rec_qaJ:qaJ_o):=sealF (qaJ_i2 rec_qaL rec_qaJ fuel)
def qaJ_f (rec_qaL:qaL_o) (rec_qaJ:qaJ_o):qaJ_o:=fun a0 a1 a2 a3=>(qaJ_l2 rec_qaL rec_qaJ (0:Int) a0 a1 a2 (0:Int) (0:Int) [] a3).bind fun y0=>bif decide ((List.length y0.2.2.2.2.2.2+(1:Nat))*(56:Nat)<=(140737488355328:Nat)/\List.length y0.2.2.2.2.2.2+(1:Nat)<=(9223372036854775807:Nat)) then some (((-77:Int)),y0.2.1,y0.2.2.1,(y0.2.2.2.2.2.2++[TExpr.mk (-78:Int) (0:Int) [] []])) else none
def qaJ_i (rec_qaL:qaL_o):Nat->qaJ_o
 |0=>fun _ _ _ _=>none
 |n+1=>qaJ_f rec_qaL (qaJ_i rec_qaL n)
def qaJ (rec_qaL:qaL_o):=sealF (qaJ_i rec_qaL fuel)
abbrev qaL_o2:=Int->List TStmt->Option ((List TStmt))
def qaL_t2 (rec_qaL:qaL_o) (rec:qaL_o2):qaL_o2:=fun a0 a1=>bif decide (a0<(List.length a1:Int)) then bif decide (0<=a0)&&decide (a0<(List.length a1:Int)) then (a1[Int.toNat a0]?).bind fun y0=>(rec_qaL (TStmt.then_ y0)).bind fun y1=>bif decide (0<=a0)&&decide (a0<(List.length a1:Int)) then bif Nat.beq (Int.toNat a0) (Int.toNat a0) then (rec_qaL (TStmt.else_ y0)).bind fun y2=>bif decide (0<=a0)&&decide (a0<(List.length a1:Int)) then bif Nat.beq (Int.toNat a0) (Int.toNat a0) then (qaJ rec_qaL (TExpr.kind (TStmt.expr y0)) (TExpr.num (TStmt.expr y0)) (TExpr.name (TStmt.expr y0)) (TExpr.args (TStmt.expr y0))).bind fun y3=>bif decide (0<=a0)&&decide (a0<(List.length a1:Int)) then bif Nat.beq (Int.toNat a0) (Int.toNat a0) then rec (IntKind.wrap IntKind.i64 (a0+(1:Int))) (List.set a1 (Int.toNat a0) (TStmt.mk (-77:Int) [(45:UInt8),(55:UInt8),(55:UInt8)] [] (TExpr.mk y3.1 y3.2.1 y3.2.2.1 y3.2.2.2) (0:Int) y1 y2)) else none else none else none else none else none else none else none else some (a1)
def qaL_i2 (rec_qaL:qaL_o):Nat->qaL_o2
 |0=>fun _ _=>none
 |n+1=>qaL_t2 rec_qaL (qaL_i2 rec_qaL n)
def qaL_l2 (rec_qaL:qaL_o):=sealF (qaL_i2 rec_qaL fuel)
def qaL_f (rec_qaL:qaL_o):qaL_o:=fun a0=>(qaL_l2 rec_qaL (0:Int) a0).bind fun y0=>bif decide ((List.length y0+(1:Nat))*(152:Nat)<=(140737488355328:Nat)/\List.length y0+(1:Nat)<=(9223372036854775807:Nat)) then some (y0++[TStmt.mk (-78:Int) [] [] (TExpr.mk (0:Int) (0:Int) [] []) (0:Int) [] []]) else none
def qaL_i:Nat->qaL_o
 |0=>fun _=>none
 |n+1=>qaL_f (qaL_i n)
def qaL:=sealF (qaL_i fuel)
abbrev qaK_o:=Int->Int->List UInt8->List TExpr->Option (Int×Int×(List UInt8)×(List TExpr))
abbrev qaK_o2:=Int->Int->Int->List UInt8->Int->Int->List UInt8->List TExpr->Option (Int×Int×(List UInt8)×Int×Int×(List UInt8)×(List TExpr))
def qaK_t2 (rec_qaK:qaK_o) (rec:qaK_o2):qaK_o2:=fun a0 a1 a2 a3 a4 a5 a6 a7=>bif decide (a0<(List.length a7:Int)) then bif decide (0<=a0)&&decide (a0<(List.length a7:Int)) then (a7[Int.toNat a0]?).bind fun y0=>(rec_qaK (TExpr.kind y0) (TExpr.num y0) (TExpr.name y0) (TExpr.args y0)).bind fun y1=>bif decide (0<=a0)&&decide (a0<(List.length a7:Int)) then bif Nat.beq (Int.toNat a0) (Int.toNat a0) then rec (IntKind.wrap IntKind.i64 (a0+(1:Int))) (a1) (a2) (a3) (a4) (a5) (a6) (List.set a7 (Int.toNat a0) (TExpr.mk y1.1 y1.2.1 y1.2.2.1 y1.2.2.2)) else none else none else none else some ((a1),(a2),(a3),(a4),(a5),(a6),(a7))
def qaK_i2 (rec_qaK:qaK_o):Nat->qaK_o2
 |0=>fun _ _ _ _ _ _ _ _=>none
 |n+1=>qaK_t2 rec_qaK (qaK_i2 rec_qaK n)
def qaK_l2 (rec_qaK:qaK_o):=sealF (qaK_i2 rec_qaK fuel)
def qaK_f (rec_qaK:qaK_o):qaK_o:=fun a0 a1 a2 a3=>(qaK_l2 rec_qaK (0:Int) a0 a1 a2 (0:Int) (0:Int) [] a3).bind fun y0=>bif decide ((List.length y0.2.2.2.2.2.2+(1:Nat))*(56:Nat)<=(140737488355328:Nat)/\List.length y0.2.2.2.2.2.2+(1:Nat)<=(9223372036854775807:Nat)) then some (((-77:Int)),y0.2.1,y0.2.2.1,(y0.2.2.2.2.2.2++[TExpr.mk (-78:Int) (0:Int) [] []])) else none
def qaK_i:Nat->qaK_o
 |0=>fun _ _ _ _=>none
 |n+1=>qaK_f (qaK_i n)
def qaK:=sealF (qaK_i fuel)
abbrev qaI_o2:=Nat->Int->List TStmt->Option (Nat×(List TStmt))
def qaI_t2 (rec:qaI_o2):qaI_o2:=fun a0 a1 a2=>bif decide (a1<(↑(1:Nat):Int)) then bif decide (a1=(0:Int)) then (a2[a0]?).bind fun y0=>(qaL (TStmt.then_ y0)).bind fun y1=>bif decide (a1=(0:Int)) then bif Nat.beq a0 a0 then (qaL (TStmt.else_ y0)).bind fun y2=>bif decide (a1=(0:Int)) then bif Nat.beq a0 a0 then (qaK (TExpr.kind (TStmt.expr y0)) (TExpr.num (TStmt.expr y0)) (TExpr.name (TStmt.expr y0)) (TExpr.args (TStmt.expr y0))).bind fun y3=>bif decide (a1=(0:Int)) then bif Nat.beq a0 a0 then rec (a0) (IntKind.wrap IntKind.i64 (a1+(1:Int))) (List.set a2 a0 (TStmt.mk (-77:Int) [(45:UInt8),(55:UInt8),(55:UInt8)] [] (TExpr.mk y3.1 y3.2.1 y3.2.2.1 y3.2.2.2) (0:Int) y1 y2)) else none else none else none else none else none else none else none else some ((a0),(a2))
def qaI_i2:Nat->qaI_o2
 |0=>fun _ _ _=>none
 |n+1=>qaI_t2 (qaI_i2 n)
def qaI_l2:=sealF (qaI_i2 fuel)
def qaI_f (a0:Nat) (a1:List TStmt):Option ((List TStmt)×(List TStmt)):=(qaI_l2 a0 (0:Int) a1).bind fun y0=>(y0.2[y0.1]?).bind fun y1=>some (([y1,TStmt.mk (-78:Int) [] [] (TExpr.mk (0:Int) (0:Int) [] []) (0:Int) [] []]),y0.2)
def qaI:=sealF (qaI_f)
abbrev qbd_o:=TExpr->TExpr->Option (Bool)
abbrev qbd_o4:=Int->Int->Int->List UInt8->List TExpr->Int->Int->List UInt8->List TExpr->Option ((Bool)⊕(Unit))
def qbd_t4 (rec_qbd:qbd_o) (rec:qbd_o4):qbd_o4:=fun a0 a1 a2 a3 a4 a5 a6 a7 a8=>bif decide (a0<(List.length a4:Int)) then bif decide (0<=a0) then (a4[Int.toNat a0]?).bind fun y0=>bif decide (0<=a0) then (a8[Int.toNat a0]?).bind fun y1=>(rec_qbd y0 y1).bind fun y2=>bif !y2 then some (.inl (false)) else rec (IntKind.wrap IntKind.i64 (a0+(1:Int))) (a1) (a2) (a3) (a4) (a5) (a6) (a7) (a8) else none else none else some (.inr ())
def qbd_i4 (rec_qbd:qbd_o):Nat->qbd_o4
 |0=>fun _ _ _ _ _ _ _ _ _=>none
 |n+1=>qbd_t4 rec_qbd (qbd_i4 rec_qbd n)
def qbd_l4 (rec_qbd:qbd_o):=sealF (qbd_i4 rec_qbd fuel)
def qbd_f (rec_qbd:qbd_o):qbd_o:=fun a0 a1=>Option.bind (α:=Bool) ( bif TExpr.kind a0 != TExpr.kind a1 then some (true) else some (TExpr.num a0 != TExpr.num a1)) fun y0=>Option.bind (α:=Bool) ( bif y0 then some (true) else some (!TExpr.name a0==TExpr.name a1)) fun y1=>Option.bind (α:=Bool) ( bif y1 then some (true) else some ((List.length (TExpr.args a0):Int) != (List.length (TExpr.args a1):Int))) fun y2=>bif y2 then some (false) else (qbd_l4 rec_qbd (0:Int) (TExpr.kind a0) (TExpr.num a0) (TExpr.name a0) (TExpr.args a0) (TExpr.kind a1) (TExpr.num a1) (TExpr.name a1) (TExpr.args a1)).bind fun y3=>(match y3 with|.inl y4=>some (y4)|.inr y4=>some (true))
def qbd_i:Nat->qbd_o
 |0=>fun _ _=>none
 |n+1=>qbd_f (qbd_i n)
def qbd:=sealF (qbd_i fuel)
abbrev qbg_o:=List TStmt->List TStmt->Option (Bool)
abbrev qbg_o4:=List TStmt->List TStmt->Int->Option ((Bool)⊕(Unit))
def qbg_t4 (rec_qbg:qbg_o) (rec:qbg_o4):qbg_o4:=fun a0 a1 a2=>bif decide (a2<(List.length a0:Int)) then bif decide (0<=a2) then (a0[Int.toNat a2]?).bind fun y0=>bif decide (0<=a2) then (a1[Int.toNat a2]?).bind fun y1=>(qbd (TExpr.mk (TExpr.kind (TStmt.expr y0)) (TExpr.num (TStmt.expr y0)) (TExpr.name (TStmt.expr y0)) (TExpr.args (TStmt.expr y0))) (TExpr.mk (TExpr.kind (TStmt.expr y1)) (TExpr.num (TStmt.expr y1)) (TExpr.name (TStmt.expr y1)) (TExpr.args (TStmt.expr y1)))).bind fun y2=>bif decide (0<=a2) then (a0[Int.toNat a2]?).bind fun y3=>bif decide (0<=a2) then (a1[Int.toNat a2]?).bind fun y4=>(rec_qbg (TStmt.then_ y3) (TStmt.then_ y4)).bind fun y5=>bif decide (0<=a2) then (a0[Int.toNat a2]?).bind fun y6=>bif decide (0<=a2) then (a1[Int.toNat a2]?).bind fun y7=>(rec_qbg (TStmt.else_ y6) (TStmt.else_ y7)).bind fun y8=>bif decide (0<=a2) then (a0[Int.toNat a2]?).bind fun y9=>bif decide (0<=a2) then (a1[Int.toNat a2]?).bind fun y10=>bif TStmt.kind y9 != TStmt.kind y10 then some (.inl (false)) else bif decide (0<=a2) then (a0[Int.toNat a2]?).bind fun y11=>bif decide (0<=a2) then (a1[Int.toNat a2]?).bind fun y12=>bif !TStmt.reg y11==TStmt.reg y12 then some (.inl (false)) else bif decide (0<=a2) then (a0[Int.toNat a2]?).bind fun y13=>bif decide (0<=a2) then (a1[Int.toNat a2]?).bind fun y14=>bif !TStmt.name y13==TStmt.name y14 then some (.inl (false)) else bif decide (0<=a2) then (a0[Int.toNat a2]?).bind fun y15=>bif decide (0<=a2) then (a1[Int.toNat a2]?).bind fun y16=>bif TStmt.count y15 != TStmt.count y16 then some (.inl (false)) else bif !y2 then some (.inl (false)) else bif !y5 then some (.inl (false)) else bif !y8 then some (.inl (false)) else rec (a0) (a1) (IntKind.wrap IntKind.i64 (a2+(1:Int))) else none else none else none else none else none else none else none else none else none else none else none else none else none else none else some (.inr ())
def qbg_i4 (rec_qbg:qbg_o):Nat->qbg_o4
 |0=>fun _ _ _=>none
 |n+1=>qbg_t4 rec_qbg (qbg_i4 rec_qbg n)
def qbg_l4 (rec_qbg:qbg_o):=sealF (qbg_i4 rec_qbg fuel)
def qbg_f (rec_qbg:qbg_o):qbg_o:=fun a0 a1=>bif (List.length a0:Int) != (List.length a1:Int) then some (false) else (qbg_l4 rec_qbg a0 a1 (0:Int)).bind fun y0=>(match y0 with|.inl y1=>some (y1)|.inr y1=>some (true))
def qbg_i:Nat->qbg_o
 |0=>fun _ _=>none
 |n+1=>qbg_f (qbg_i n)
def qbg:=sealF (qbg_i fuel)
abbrev qbc_o4:=Int->List TCell->List (List UInt8)->List TThread->List TCell->List (List UInt8)->List TThread->Option ((Bool)⊕((List TCell)×(List (List UInt8))×(List TThread)×(List TCell)×(List (List UInt8))×(List TThread)))
def qbc_t4 (rec:qbc_o4):qbc_o4:=fun a0 a1 a2 a3 a4 a5 a6=>bif decide (a0<(List.length a1:Int)) then bif decide (0<=a0) then (a1[Int.toNat a0]?).bind fun y0=>bif decide (0<=a0) then (a4[Int.toNat a0]?).bind fun y1=>bif !decide (y0=y1) then some (.inl (false)) else rec (IntKind.wrap IntKind.i64 (a0+(1:Int))) (a1) (a2) (a3) (a4) (a5) (a6) else none else none else some (.inr ((a1),(a2),(a3),(a4),(a5),(a6)))
def qbc_i4:Nat->qbc_o4
 |0=>fun _ _ _ _ _ _ _=>none
 |n+1=>qbc_t4 (qbc_i4 n)
def qbc_l4:=sealF (qbc_i4 fuel)
abbrev qbc_o9:=Int->List TCell->List (List UInt8)->List TThread->List TCell->List (List UInt8)->List TThread->Option ((Bool)⊕((List TCell)×(List (List UInt8))×(List TThread)×(List TCell)×(List (List UInt8))×(List TThread)))
def qbc_t9 (rec:qbc_o9):qbc_o9:=fun a0 a1 a2 a3 a4 a5 a6=>bif decide (a0<(List.length a2:Int)) then bif decide (0<=a0) then (a2[Int.toNat a0]?).bind fun y0=>bif decide (0<=a0) then (a5[Int.toNat a0]?).bind fun y1=>bif !y0==y1 then some (.inl (false)) else rec (IntKind.wrap IntKind.i64 (a0+(1:Int))) (a1) (a2) (a3) (a4) (a5) (a6) else none else none else some (.inr ((a1),(a2),(a3),(a4),(a5),(a6)))
def qbc_i9:Nat->qbc_o9
 |0=>fun _ _ _ _ _ _ _=>none
 |n+1=>qbc_t9 (qbc_i9 n)
def qbc_l9:=sealF (qbc_i9 fuel)
abbrev qbc_o14:=Int->List TCell->List (List UInt8)->List TThread->List TCell->List (List UInt8)->List TThread->Option ((Bool)⊕(Unit))
def qbc_t14 (rec:qbc_o14):qbc_o14:=fun a0 a1 a2 a3 a4 a5 a6=>bif decide (a0<(List.length a3:Int)) then bif decide (0<=a0) then (a3[Int.toNat a0]?).bind fun y0=>bif decide (0<=a0) then (a6[Int.toNat a0]?).bind fun y1=>(qbg (TThread.body y0) (TThread.body y1)).bind fun y2=>bif decide (0<=a0) then (a3[Int.toNat a0]?).bind fun y3=>bif decide (0<=a0) then (a6[Int.toNat a0]?).bind fun y4=>bif !TThread.name y3==TThread.name y4 then some (.inl (false)) else bif !y2 then some (.inl (false)) else rec (IntKind.wrap IntKind.i64 (a0+(1:Int))) (a1) (a2) (a3) (a4) (a5) (a6) else none else none else none else none else some (.inr ())
def qbc_i14:Nat->qbc_o14
 |0=>fun _ _ _ _ _ _ _=>none
 |n+1=>qbc_t14 (qbc_i14 n)
def qbc_l14:=sealF (qbc_i14 fuel)
def qbc_f (a0:TProg) (a1:TProg):Option (Bool):=Option.bind (α:=Bool) ( bif (List.length (TProg.cells a0):Int) != (List.length (TProg.cells a1):Int) then some (true) else some ((List.length (TProg.mutexes a0):Int) != (List.length (TProg.mutexes a1):Int))) fun y0=>Option.bind (α:=Bool) ( bif y0 then some (true) else some ((List.length (TProg.threads a0):Int) != (List.length (TProg.threads a1):Int))) fun y1=>bif y1 then some (false) else (qbc_l4 (0:Int) (TProg.cells a0) (TProg.mutexes a0) (TProg.threads a0) (TProg.cells a1) (TProg.mutexes a1) (TProg.threads a1)).bind fun y2=>(match y2 with|.inl y3=>some (y3)|.inr y3=>(qbc_l9 (0:Int) y3.1 y3.2.1 y3.2.2.1 y3.2.2.2.1 y3.2.2.2.2.1 y3.2.2.2.2.2).bind fun y4=>(match y4 with|.inl y5=>some (y5)|.inr y5=>(qbc_l14 (0:Int) y5.1 y5.2.1 y5.2.2.1 y5.2.2.2.1 y5.2.2.2.2.1 y5.2.2.2.2.2).bind fun y6=>(match y6 with|.inl y7=>some (y7)|.inr y7=>some (true))))
def qbc:=sealF (qbc_f)
def qaQ_f (a0:Int):Option (Bool):=bif decide (a0>=0) then bif decide (a0<=1114111) then bif decide (a0<55296) then some (true) else some (decide (a0>57343)) else some (false) else some (false)
def qaQ:=sealF (qaQ_f)
def qaT_f (a0:Int):Option (Int):=bif decide (a0<128) then some ((1:Int)) else bif decide (a0<2048) then some ((2:Int)) else bif decide (a0<65536) then some ((3:Int)) else some ((4:Int))
def qaT:=sealF (qaT_f)
abbrev qaN_o18:=List UInt8->Int->Int->Int->Int->Option ((Int×Int)⊕(Int×Int))
def qaN_t18 (rec:qaN_o18):qaN_o18:=fun a0 a1 a2 a3 a4=>bif decide (a4<a2) then bif decide ((0:Int)<=IntKind.wrap IntKind.i64 (a1+a4)) then (a0[Int.toNat (IntKind.wrap IntKind.i64 (a1+a4))]?).bind fun y0=>bif decide (IntKind.wrap IntKind.i64 (↑(UInt8.toNat y0):Int)<128) then some (.inl (((0:Int)),((0:Int)))) else bif decide (IntKind.wrap IntKind.i64 (↑(UInt8.toNat y0):Int)>191) then some (.inl (((0:Int)),((0:Int)))) else rec (a0) (a1) (a2) (IntKind.wrap IntKind.i64 (IntKind.wrap IntKind.i64 (IntKind.wrap IntKind.i64 ((64:Int)*a3)+IntKind.wrap IntKind.i64 (↑(UInt8.toNat y0):Int))-(128:Int))) (IntKind.wrap IntKind.i64 (a4+(1:Int))) else none else some (.inr ((a2),(a3)))
def qaN_i18:Nat->qaN_o18
 |0=>fun _ _ _ _ _=>none
 |n+1=>qaN_t18 (qaN_i18 n)
def qaN_l18:=sealF (qaN_i18 fuel)
def qaN_f (a0:List UInt8) (a1:Int):Option (Int×Int):=bif decide (0<=a1) then (a0[Int.toNat a1]?).bind fun y0=>bif decide (IntKind.wrap IntKind.i64 (↑(UInt8.toNat y0):Int)>=240) then bif decide (IntKind.wrap IntKind.i64 ((List.length a0:Int)-a1)<4) then some (((0:Int)),((0:Int))) else (qaN_l18 a0 a1 (4:Int) (IntKind.wrap IntKind.i64 (IntKind.wrap IntKind.i64 (↑(UInt8.toNat y0):Int)-(240:Int))) (1:Int)).bind fun y1=>(match y1 with|.inl y2=>some (y2.1,y2.2)|.inr y2=>(qaQ y2.2).bind fun y3=>bif !y3 then some (((0:Int)),((0:Int))) else (qaT y2.2).bind fun y4=>bif y4 != y2.1 then some (((0:Int)),((0:Int))) else some (y2.2,y2.1)) else bif decide (IntKind.wrap IntKind.i64 (↑(UInt8.toNat y0):Int)>=224) then bif decide (IntKind.wrap IntKind.i64 ((List.length a0:Int)-a1)<3) then some (((0:Int)),((0:Int))) else (qaN_l18 a0 a1 (3:Int) (IntKind.wrap IntKind.i64 (IntKind.wrap IntKind.i64 (↑(UInt8.toNat y0):Int)-(224:Int))) (1:Int)).bind fun y5=>(match y5 with|.inl y6=>some (y6.1,y6.2)|.inr y6=>(qaQ y6.2).bind fun y7=>bif !y7 then some (((0:Int)),((0:Int))) else (qaT y6.2).bind fun y8=>bif y8 != y6.1 then some (((0:Int)),((0:Int))) else some (y6.2,y6.1)) else bif decide (IntKind.wrap IntKind.i64 (↑(UInt8.toNat y0):Int)>=192) then bif decide (IntKind.wrap IntKind.i64 ((List.length a0:Int)-a1)<2) then some (((0:Int)),((0:Int))) else (qaN_l18 a0 a1 (2:Int) (IntKind.wrap IntKind.i64 (IntKind.wrap IntKind.i64 (↑(UInt8.toNat y0):Int)-(192:Int))) (1:Int)).bind fun y9=>(match y9 with|.inl y10=>some (y10.1,y10.2)|.inr y10=>(qaQ y10.2).bind fun y11=>bif !y11 then some (((0:Int)),((0:Int))) else (qaT y10.2).bind fun y12=>bif y12 != y10.1 then some (((0:Int)),((0:Int))) else some (y10.2,y10.1)) else bif decide (IntKind.wrap IntKind.i64 (↑(UInt8.toNat y0):Int)>=128) then some (((0:Int)),((0:Int))) else bif decide (IntKind.wrap IntKind.i64 ((List.length a0:Int)-a1)<1) then some (((0:Int)),((0:Int))) else (qaN_l18 a0 a1 (1:Int) (IntKind.wrap IntKind.i64 (↑(UInt8.toNat y0):Int)) (1:Int)).bind fun y13=>(match y13 with|.inl y14=>some (y14.1,y14.2)|.inr y14=>(qaQ y14.2).bind fun y15=>bif !y15 then some (((0:Int)),((0:Int))) else (qaT y14.2).bind fun y16=>bif y16 != y14.1 then some (((0:Int)),((0:Int))) else some (y14.2,y14.1)) else none
def qaN:=sealF (qaN_f)
def qaU_f (a0:Spot) (a1:Int) (a2:Int):Option (Spot):=bif a1==10 then some (Spot.mk (Spot.rune a0) (IntKind.wrap IntKind.i64 (Spot.at_ a0+a2)) (IntKind.wrap IntKind.i64 (Spot.line a0+(1:Int))) (1:Int)) else some (Spot.mk (Spot.rune a0) (IntKind.wrap IntKind.i64 (Spot.at_ a0+a2)) (Spot.line a0) (IntKind.wrap IntKind.i64 (Spot.col a0+(1:Int))))
def qaU:=sealF (qaU_f)
abbrev qaV_o3:=List UInt8->Int->Int->Int->Int->Int->Int->Int->Int->List Spot->Option (Int×Int×Int×Int×Int×Int×Int×Int×(List Spot))
def qaV_t3 (rec:qaV_o3):qaV_o3:=fun a0 a1 a2 a3 a4 a5 a6 a7 a8 a9=>bif decide (a6<(List.length a0:Int)) then (qaN a0 a6).bind fun y0=>bif y0.2==0 then some ((a1),(a2),(a3),(a4),(a5),(a6),(a7),(a8),(a9)) else bif decide ((List.length a9+List.length [Spot.mk y0.1 a6 a7 a8])*(32:Nat)<=(140737488355328:Nat)/\List.length a9+List.length [Spot.mk y0.1 a6 a7 a8]<=(9223372036854775807:Nat)) then (qaU (Spot.mk y0.1 a6 a7 a8) y0.1 y0.2).bind fun y1=>rec (a0) (a1) (a2) (a3) (a4) (Spot.rune y1) (Spot.at_ y1) (Spot.line y1) (Spot.col y1) (a9++[Spot.mk y0.1 a6 a7 a8]) else none else some ((a1),(a2),(a3),(a4),(a5),(a6),(a7),(a8),(a9))
def qaV_i3:Nat->qaV_o3
 |0=>fun _ _ _ _ _ _ _ _ _ _=>none
 |n+1=>qaV_t3 (qaV_i3 n)
def qaV_l3:=sealF (qaV_i3 fuel)
def qaV_f (a0:List UInt8):Option (Spot×(List Spot)):=(qaV_l3 a0 (0:Int) (0:Int) (0:Int) (0:Int) (0:Int) (0:Int) (1:Int) (1:Int) []).bind fun y0=>some ((Spot.mk (-1:Int) y0.2.2.2.2.2.1 y0.2.2.2.2.2.2.1 y0.2.2.2.2.2.2.2.1),y0.2.2.2.2.2.2.2.2)
def qaV:=sealF (qaV_f)
def qaS_f (a0:List UInt8):Option (Fault×(List Spot)):=bif decide ((List.length a0:Int)>4000) then some ((Fault.mk (10:Int) (4000:Int) []),([])) else (qaV a0).bind fun y0=>bif decide (Spot.at_ y0.1<(List.length a0:Int)) then some ((Fault.mk (11:Int) (Spot.at_ y0.1) []),([])) else some ((Fault.mk (0:Int) (0:Int) []),y0.2)
def qaS:=sealF (qaS_f)
def qaO_f (a0:Int):Option (Bool):=bif a0==9 then some (true) else bif a0==10 then some (true) else bif a0==13 then some (true) else some (a0==32)
def qaO:=sealF (qaO_f)
def qaR_f (a0:Int):Option (Bool):=(qaQ a0).bind fun y0=>bif y0 then bif decide (a0>=65) then bif decide (a0<=90) then some (true) else bif a0==95 then some (true) else bif decide (a0>=97) then bif decide (a0<=122) then some (true) else some (decide (a0>=192)) else some (decide (a0>=192)) else bif a0==95 then some (true) else bif decide (a0>=97) then bif decide (a0<=122) then some (true) else some (decide (a0>=192)) else some (decide (a0>=192)) else some (false)
def qaR:=sealF (qaR_f)
def qaP_f (a0:Int):Option (Bool):=bif decide (a0>=48) then some (decide (a0<=57)) else some (false)
def qaP:=sealF (qaP_f)
abbrev qa1_o2:=List Spot->Int->Option (Int)
def qa1_t2 (rec:qa1_o2):qa1_o2:=fun a0 a1=>bif decide (a1<(List.length a0:Int)) then bif decide (0<=a1) then (a0[Int.toNat a1]?).bind fun y0=>(qaR (Spot.rune y0)).bind fun y1=>bif decide (0<=a1) then (a0[Int.toNat a1]?).bind fun y2=>(qaP (Spot.rune y2)).bind fun y3=>bif !y1 then bif !y3 then some (a1) else rec (a0) (IntKind.wrap IntKind.i64 (a1+(1:Int))) else rec (a0) (IntKind.wrap IntKind.i64 (a1+(1:Int))) else none else none else some (a1)
def qa1_i2:Nat->qa1_o2
 |0=>fun _ _=>none
 |n+1=>qa1_t2 (qa1_i2 n)
def qa1_l2:=sealF (qa1_i2 fuel)
def qa1_f (a0:List Spot) (a1:Int):Option (Int):=(qa1_l2 a0 a1).bind fun y0=>some (y0)
def qa1:=sealF (qa1_f)
def qa0_f (a0:List Spot) (a1:List UInt8) (a2:Int) (a3:Int):Option ((List UInt8)):=bif decide (a3<(List.length a0:Int)) then bif decide (0<=a3) then (a0[Int.toNat a3]?).bind fun y0=>bif decide (0<=a2) then (a0[Int.toNat a2]?).bind fun y1=>bif decide ((0:Int)<=Spot.at_ y1)&&(decide (Spot.at_ y1<=Spot.at_ y0)&&decide (Spot.at_ y0<=(List.length a1:Int))) then some (List.drop (Int.toNat (Spot.at_ y1)) (List.take (Int.toNat (Spot.at_ y0)) a1)) else none else none else none else bif decide (0<=a2) then (a0[Int.toNat a2]?).bind fun y2=>bif decide ((0:Int)<=Spot.at_ y2)&&(decide (Spot.at_ y2<=(List.length a1:Int))&&decide ((List.length a1:Int)<=(List.length a1:Int))) then some (List.drop (Int.toNat (Spot.at_ y2)) (List.take (Int.toNat (List.length a1:Int)) a1)) else none else none
def qa0:=sealF (qa0_f)
def qaY_f:Option ((List (List UInt8))):=some ([[(97:UInt8),(100:UInt8),(100:UInt8)],[(97:UInt8),(115:UInt8),(115:UInt8),(101:UInt8),(114:UInt8),(116:UInt8)],[(99:UInt8),(101:UInt8),(108:UInt8),(108:UInt8)],[(101:UInt8),(108:UInt8),(115:UInt8),(101:UInt8)],[(105:UInt8),(102:UInt8)],[(106:UInt8),(111:UInt8),(105:UInt8),(110:UInt8)],[(108:UInt8),(111:UInt8),(99:UInt8),(107:UInt8)],[(109:UInt8),(117:UInt8),(116:UInt8),(101:UInt8),(120:UInt8)],[(114:UInt8),(101:UInt8),(112:UInt8),(101:UInt8),(97:UInt8),(116:UInt8)],[(115:UInt8),(116:UInt8),(97:UInt8),(114:UInt8),(116:UInt8)],[(116:UInt8),(104:UInt8),(114:UInt8),(101:UInt8),(97:UInt8),(100:UInt8)],[(117:UInt8),(110:UInt8),(108:UInt8),(111:UInt8),(99:UInt8),(107:UInt8)]])
def qaY:=sealF (qaY_f)
abbrev qaW_o2:=List (List UInt8)->List UInt8->Int->Option ((Bool)⊕(Unit))
def qaW_t2 (rec:qaW_o2):qaW_o2:=fun a0 a1 a2=>bif decide (a2<(List.length a0:Int)) then bif decide (0<=a2) then (a0[Int.toNat a2]?).bind fun y0=>bif y0==a1 then some (.inl (true)) else rec (a0) (a1) (IntKind.wrap IntKind.i64 (a2+(1:Int))) else none else some (.inr ())
def qaW_i2:Nat->qaW_o2
 |0=>fun _ _ _=>none
 |n+1=>qaW_t2 (qaW_i2 n)
def qaW_l2:=sealF (qaW_i2 fuel)
def qaW_f (a0:List (List UInt8)) (a1:List UInt8):Option (Bool):=(qaW_l2 a0 a1 (0:Int)).bind fun y0=>(match y0 with|.inl y1=>some (y1)|.inr y1=>some (false))
def qaW:=sealF (qaW_f)
abbrev qaZ_o5:=List UInt8->Int->Int->Option ((Int×Bool)⊕(Int))
def qaZ_t5 (rec:qaZ_o5):qaZ_o5:=fun a0 a1 a2=>bif decide (a2<(List.length a0:Int)) then bif decide (0<=a2) then (a0[Int.toNat a2]?).bind fun y0=>bif decide ((↑(UInt8.toNat y0):Int)<48) then some (.inl (((0:Int)),(false))) else bif decide (0<=a2) then (a0[Int.toNat a2]?).bind fun y1=>bif decide ((↑(UInt8.toNat y1):Int)>57) then some (.inl (((0:Int)),(false))) else bif decide (0<=a2) then (a0[Int.toNat a2]?).bind fun y2=>rec (a0) (IntKind.wrap IntKind.i64 (IntKind.wrap IntKind.i64 (IntKind.wrap IntKind.i64 ((10:Int)*a1)+IntKind.wrap IntKind.i64 (↑(UInt8.toNat y2):Int))-(48:Int))) (IntKind.wrap IntKind.i64 (a2+(1:Int))) else none else none else none else some (.inr (a1))
def qaZ_i5:Nat->qaZ_o5
 |0=>fun _ _ _=>none
 |n+1=>qaZ_t5 (qaZ_i5 n)
def qaZ_l5:=sealF (qaZ_i5 fuel)
def qaZ_f (a0:List UInt8):Option (Int×Bool):=bif decide ((List.length a0:Int)>1) then (a0[(0:Nat)]?).bind fun y0=>bif (↑(UInt8.toNat y0):Int)==48 then some (((0:Int)),(false)) else bif decide ((List.length a0:Int)>10) then some (((0:Int)),(false)) else bif (List.length a0:Int)==0 then some (((0:Int)),(false)) else (qaZ_l5 a0 (0:Int) (0:Int)).bind fun y1=>(match y1 with|.inl y2=>some (y2.1,y2.2)|.inr y2=>some ((y2),(decide (y2<=2147483647)))) else bif decide ((List.length a0:Int)>10) then some (((0:Int)),(false)) else bif (List.length a0:Int)==0 then some (((0:Int)),(false)) else (qaZ_l5 a0 (0:Int) (0:Int)).bind fun y3=>(match y3 with|.inl y4=>some (y4.1,y4.2)|.inr y4=>some ((y4),(decide (y4<=2147483647))))
def qaZ:=sealF (qaZ_f)
def qa3_f:Option ((List (List UInt8))):=some ([[(58:UInt8),(61:UInt8)],[(60:UInt8),(45:UInt8)],[(61:UInt8),(61:UInt8)],[(33:UInt8),(61:UInt8)],[(60:UInt8),(61:UInt8)],[(62:UInt8),(61:UInt8)],[(38:UInt8),(38:UInt8)],[(124:UInt8),(124:UInt8)],[(61:UInt8)],[(60:UInt8)],[(62:UInt8)],[(33:UInt8)],[(43:UInt8)],[(45:UInt8)],[(42:UInt8)],[(47:UInt8)],[(37:UInt8)],[(59:UInt8)],[(123:UInt8)],[(125:UInt8)],[(40:UInt8)],[(41:UInt8)]])
def qa3:=sealF (qa3_f)
abbrev qa2_o3:=List UInt8->Int->Int->List (List UInt8)->Option (((List UInt8))⊕(Unit))
def qa2_t3 (rec:qa2_o3):qa2_o3:=fun a0 a1 a2 a3=>bif decide (a2<(List.length a3:Int)) then bif decide (0<=a2)&&decide (a2<(List.length a3:Int)) then (a3[Int.toNat a2]?).bind fun y0=>bif decide (IntKind.wrap IntKind.i64 ((List.length a0:Int)-a1)>=(List.length y0:Int)) then bif decide (0<=a1)&&(decide (a1<=IntKind.wrap IntKind.i64 (a1+(List.length y0:Int)))&&decide (IntKind.wrap IntKind.i64 (a1+(List.length y0:Int))<=(List.length a0:Int))) then bif decide (0<=a2)&&decide (a2<(List.length a3:Int)) then (a3[Int.toNat a2]?).bind fun y1=>bif List.drop (Int.toNat a1) (List.take (Int.toNat (IntKind.wrap IntKind.i64 (a1+(List.length y0:Int)))) a0)==y1 then bif decide (0<=a2)&&decide (a2<(List.length a3:Int)) then (a3[Int.toNat a2]?).bind fun y2=>some (.inl (y2)) else none else rec (a0) (a1) (IntKind.wrap IntKind.i64 (a2+(1:Int))) (a3) else none else none else rec (a0) (a1) (IntKind.wrap IntKind.i64 (a2+(1:Int))) (a3) else none else some (.inr ())
def qa2_i3:Nat->qa2_o3
 |0=>fun _ _ _ _=>none
 |n+1=>qa2_t3 (qa2_i3 n)
def qa2_l3:=sealF (qa2_i3 fuel)
def qa2_f (a0:List UInt8) (a1:Int):Option ((List UInt8)):=(qa3).bind fun y0=>(qa2_l3 a0 a1 (0:Int) y0).bind fun y1=>(match y1 with|.inl y2=>some (y2)|.inr y2=>some ([]))
def qa2:=sealF (qa2_f)
def qa4_f (a0:List Spot) (a1:List UInt8) (a2:Int):Option (Token×Int×Int):=bif decide (0<=a2) then (a0[Int.toNat a2]?).bind fun y0=>(qaR (Spot.rune y0)).bind fun y1=>(qaP (Spot.rune y0)).bind fun y2=>bif decide (0<=a2) then (a0[Int.toNat a2]?).bind fun y3=>bif y1 then (qa1 a0 a2).bind fun y4=>(qa0 a0 a1 a2 y4).bind fun y5=>(qaY).bind fun y6=>(qaW y6 y5).bind fun y7=>bif y2 then (qaZ y5).bind fun y8=>bif !y8.2 then some ((Token.mk (0:Int) y5 (0:Int) (Spot.at_ y3)),(a2),((22:Int))) else some ((Token.mk (2:Int) y5 y8.1 (Spot.at_ y3)),(y4),((0:Int))) else bif y7 then some ((Token.mk (4:Int) y5 (0:Int) (Spot.at_ y3)),(y4),((0:Int))) else bif decide (IntKind.wrap IntKind.i64 (y4-a2)>16) then some ((Token.mk (0:Int) y5 (0:Int) (Spot.at_ y3)),(a2),((21:Int))) else some ((Token.mk (1:Int) y5 (0:Int) (Spot.at_ y3)),(y4),((0:Int))) else bif y2 then (qa1 a0 a2).bind fun y9=>(qa0 a0 a1 a2 y9).bind fun y10=>(qaY).bind fun y11=>(qaW y11 y10).bind fun y12=>bif y2 then (qaZ y10).bind fun y13=>bif !y13.2 then some ((Token.mk (0:Int) y10 (0:Int) (Spot.at_ y3)),(a2),((22:Int))) else some ((Token.mk (2:Int) y10 y13.1 (Spot.at_ y3)),(y9),((0:Int))) else bif y12 then some ((Token.mk (4:Int) y10 (0:Int) (Spot.at_ y3)),(y9),((0:Int))) else bif decide (IntKind.wrap IntKind.i64 (y9-a2)>16) then some ((Token.mk (0:Int) y10 (0:Int) (Spot.at_ y3)),(a2),((21:Int))) else some ((Token.mk (1:Int) y10 (0:Int) (Spot.at_ y3)),(y9),((0:Int))) else bif decide (0<=a2) then (a0[Int.toNat a2]?).bind fun y14=>(qa2 a1 (Spot.at_ y14)).bind fun y15=>bif y15==[] then some ((Token.mk (0:Int) y15 (0:Int) (Spot.at_ y3)),(a2),((20:Int))) else some ((Token.mk (3:Int) y15 (0:Int) (Spot.at_ y3)),(IntKind.wrap IntKind.i64 (a2+(List.length y15:Int))),((0:Int))) else none else none else none
def qa4:=sealF (qa4_f)
abbrev qaX_o11:=List UInt8->List Spot->Int->Int->Int->List UInt8->List Token->Option ((List UInt8)×(List Spot)×Int×Int×Int×(List UInt8)×(List Token))
def qaX_t11 (rec:qaX_o11):qaX_o11:=fun a0 a1 a2 a3 a4 a5 a6=>bif decide (a2<(List.length a1:Int)) then bif decide (0<=a2) then (a1[Int.toNat a2]?).bind fun y0=>bif Spot.rune y0 != 10 then rec (a0) (a1) (IntKind.wrap IntKind.i64 (a2+(1:Int))) (a3) (a4) (a5) (a6) else some ((a0),(a1),(a2),(a3),(a4),(a5),(a6)) else none else some ((a0),(a1),(a2),(a3),(a4),(a5),(a6))
def qaX_i11:Nat->qaX_o11
 |0=>fun _ _ _ _ _ _ _=>none
 |n+1=>qaX_t11 (qaX_i11 n)
def qaX_l11:=sealF (qaX_i11 fuel)
abbrev qaX_o6:=List UInt8->List Spot->Int->Int->Int->List UInt8->List Token->Option ((Int×Int×(List UInt8))⊕((List UInt8)×Int×Int×(List UInt8)×(List Token)))
def qaX_t6 (rec:qaX_o6):qaX_o6:=fun a0 a1 a2 a3 a4 a5 a6=>bif decide (a2<(List.length a1:Int)) then bif decide (0<=a2) then (a1[Int.toNat a2]?).bind fun y0=>(qaO (Spot.rune y0)).bind fun y1=>bif y1 then rec (a0) (a1) (IntKind.wrap IntKind.i64 (a2+(1:Int))) (a3) (a4) (a5) (a6) else bif decide (0<=a2) then (a1[Int.toNat a2]?).bind fun y2=>bif Spot.rune y2==35 then (qaX_l11 a0 a1 a2 a3 a4 a5 a6).bind fun y3=>rec y3.1 y3.2.1 y3.2.2.1 y3.2.2.2.1 y3.2.2.2.2.1 y3.2.2.2.2.2.1 y3.2.2.2.2.2.2 else (qa4 a1 a0 a2).bind fun y4=>bif y4.2.2 != 0 then some (.inl (y4.2.2,(Token.at_ y4.1),([]))) else bif decide ((List.length a6+List.length [Token.mk (Token.kind y4.1) (Token.text y4.1) (Token.num y4.1) (Token.at_ y4.1)])*(40:Nat)<=(140737488355328:Nat)/\List.length a6+List.length [Token.mk (Token.kind y4.1) (Token.text y4.1) (Token.num y4.1) (Token.at_ y4.1)]<=(9223372036854775807:Nat)) then rec (a0) (a1) y4.2.1 (a3) (a4) (a5) (a6++[Token.mk (Token.kind y4.1) (Token.text y4.1) (Token.num y4.1) (Token.at_ y4.1)]) else none else none else none else some (.inr ((a0),(a3),(a4),(a5),(a6)))
def qaX_i6:Nat->qaX_o6
 |0=>fun _ _ _ _ _ _ _=>none
 |n+1=>qaX_t6 (qaX_i6 n)
def qaX_l6:=sealF (qaX_i6 fuel)
def qaX_f (a0:List UInt8):Option (Fault×(List Token)):=(qaS a0).bind fun y0=>bif Fault.code y0.1 != 0 then some ((Fault.mk (Fault.code y0.1) (Fault.at_ y0.1) (Fault.name y0.1)),([])) else (qaX_l6 a0 y0.2 (0:Int) (0:Int) (0:Int) [] []).bind fun y1=>(match y1 with|.inl y2=>some ((Fault.mk y2.1 y2.2.1 y2.2.2),([]))|.inr y2=>bif decide ((List.length y2.2.2.2.2+List.length [Token.mk (5:Int) [] (0:Int) (List.length y2.1:Int)])*(40:Nat)<=(140737488355328:Nat)/\List.length y2.2.2.2.2+List.length [Token.mk (5:Int) [] (0:Int) (List.length y2.1:Int)]<=(9223372036854775807:Nat)) then some ((Fault.mk (0:Int) (0:Int) []),(y2.2.2.2.2++[Token.mk (5:Int) [] (0:Int) (List.length y2.1:Int)])) else none)
def qaX:=sealF (qaX_f)
def qbo_f (a0:List UInt8) (a1:Int) (a2:Bool) (a3:List Token):Option (Bool×Int×Bool×(List Token)):=bif decide (0<=a1)&&decide (a1<(List.length a3:Int)) then (a3[Int.toNat a1]?).bind fun y0=>Option.bind (α:=Bool) ( bif !a2 then Option.bind (α:=Bool) ( bif Token.kind y0==4 then some (true) else some (Token.kind y0==3)) fun y1=>some (y1) else some (false)) fun y2=>Option.bind (α:=Bool) ( bif y2 then some (Token.text y0==a0) else some (false)) fun y3=>some ((y3),(a1),(a2),(a3)) else none
def qbo:=sealF (qbo_f)
def qbu_f (a0:List UInt8) (a1:Int) (a2:Bool) (a3:List Token):Option (Bool×Int×Bool×(List Token)):=(qbo a0 a1 a2 a3).bind fun y0=>bif y0.1 then some (y0.1,(IntKind.wrap IntKind.i64 (y0.2.1+(1:Int))),y0.2.2.1,y0.2.2.2) else some (y0.1,y0.2.1,y0.2.2.1,y0.2.2.2)
def qbu:=sealF (qbu_f)
def qbp_f (a0:Int) (a1:Bool) (a2:List Token):Option ((List UInt8)×Int×Bool×(List Token)):=bif decide (0<=a0)&&decide (a0<(List.length a2:Int)) then (a2[Int.toNat a0]?).bind fun y0=>Option.bind (α:=Bool) ( bif a1 then some (true) else some (Token.kind y0 != 1)) fun y1=>bif y1 then some (([]),(a0),(true),(a2)) else some ((Token.text y0),(IntKind.wrap IntKind.i64 (a0+(1:Int))),(a1),(a2)) else none
def qbp:=sealF (qbp_f)
def qbq_f (a0:Int) (a1:Int) (a2:Bool) (a3:List Token):Option (Int×Int×Bool×(List Token)):=bif decide (0<=a1)&&decide (a1<(List.length a3:Int)) then (a3[Int.toNat a1]?).bind fun y0=>Option.bind (α:=Bool) ( bif a2 then some (true) else some (Token.kind y0 != 2)) fun y1=>Option.bind (α:=Bool) ( bif y1 then some (true) else some (decide (Token.num y0>a0))) fun y2=>bif y2 then some (((0:Int)),(a1),(true),(a3)) else some ((Token.num y0),(IntKind.wrap IntKind.i64 (a1+(1:Int))),(a2),(a3)) else none
def qbq:=sealF (qbq_f)
def qbw_f (a0:List UInt8) (a1:Int) (a2:Bool) (a3:List Token):Option (Int×Bool×(List Token)):=(qbu a0 a1 a2 a3).bind fun y0=>bif !y0.1 then some (y0.2.1,(true),y0.2.2.2) else some (y0.2.1,y0.2.2.1,y0.2.2.2)
def qbw:=sealF (qbw_f)
abbrev qbv_o:=Int->Bool->List Token->Option (Int×Int×(List UInt8)×Int×Bool×(List TExpr)×(List Token))
abbrev qbn_o:=Int->Int->Bool->List Token->Option (Int×Int×(List UInt8)×Int×Bool×(List TExpr)×(List Token))
def qbv_f (rec_qbv:qbv_o) (rec_qbn:qbn_o):qbv_o:=fun a0 a1 a2=>(qbu [(45:UInt8)] a0 a1 a2).bind fun y0=>bif y0.1 then (rec_qbv y0.2.1 y0.2.2.1 y0.2.2.2).bind fun y1=>some (((3:Int)),((0:Int)),([]),y1.2.2.2.1,y1.2.2.2.2.1,([TExpr.mk y1.1 y1.2.1 y1.2.2.1 y1.2.2.2.2.2.1]),y1.2.2.2.2.2.2) else (qbu [(33:UInt8)] y0.2.1 y0.2.2.1 y0.2.2.2).bind fun y2=>bif y2.1 then (rec_qbv y2.2.1 y2.2.2.1 y2.2.2.2).bind fun y3=>some (((4:Int)),((0:Int)),([]),y3.2.2.2.1,y3.2.2.2.2.1,([TExpr.mk y3.1 y3.2.1 y3.2.2.1 y3.2.2.2.2.2.1]),y3.2.2.2.2.2.2) else (qbu [(40:UInt8)] y2.2.1 y2.2.2.1 y2.2.2.2).bind fun y4=>bif y4.1 then (rec_qbn (1:Int) y4.2.1 y4.2.2.1 y4.2.2.2).bind fun y5=>(qbw [(41:UInt8)] y5.2.2.2.1 y5.2.2.2.2.1 y5.2.2.2.2.2.2).bind fun y6=>some (y5.1,y5.2.1,y5.2.2.1,y6.1,y6.2.1,y5.2.2.2.2.2.1,y6.2.2) else bif decide ((0:Int)<=y4.2.1)&&decide (y4.2.1<(List.length y4.2.2.2:Int)) then (y4.2.2.2[Int.toNat y4.2.1]?).bind fun y7=>bif Token.kind y7==2 then (qbq (Token.num y7) y4.2.1 y4.2.2.1 y4.2.2.2).bind fun y8=>some (((1:Int)),y8.1,([]),y8.2.1,y8.2.2.1,([]),y8.2.2.2) else (qbp y4.2.1 y4.2.2.1 y4.2.2.2).bind fun y9=>some (((2:Int)),((0:Int)),y9.1,y9.2.1,y9.2.2.1,([]),y9.2.2.2) else none
def qbv_i (rec_qbn:qbn_o):Nat->qbv_o
 |0=>fun _ _ _=>none
 |n+1=>qbv_f (qbv_i rec_qbn n) rec_qbn
def qbv (rec_qbn:qbn_o):=sealF (qbv_i rec_qbn fuel)
def qbk_f (rec_qbn:qbn_o) (a0:Int):Option ((List (List UInt8))×(List Int)):=bif a0==1 then some (([[(124:UInt8),(124:UInt8)]]),([(17:Int)])) else bif a0==2 then some (([[(38:UInt8),(38:UInt8)]]),([(16:Int)])) else bif a0==3 then some (([[(61:UInt8),(61:UInt8)],[(33:UInt8),(61:UInt8)],[(60:UInt8)],[(60:UInt8),(61:UInt8)],[(62:UInt8)],[(62:UInt8),(61:UInt8)]]),([(10:Int),(11:Int),(12:Int),(13:Int),(14:Int),(15:Int)])) else bif a0==4 then some (([[(43:UInt8)],[(45:UInt8)]]),([(5:Int),(6:Int)])) else some (([[(42:UInt8)],[(47:UInt8)],[(37:UInt8)]]),([(7:Int),(8:Int),(9:Int)]))
def qbk (rec_qbn:qbn_o):=sealF (qbk_f rec_qbn)
abbrev qbs_o3:=Int->Int->Bool->List (List UInt8)->List Int->List Token->Option ((Int×Int×Bool×(List Token))⊕(Int×Bool×(List Token)))
def qbs_t3 (rec_qbn:qbn_o) (rec:qbs_o3):qbs_o3:=fun a0 a1 a2 a3 a4 a5=>bif decide (a0<(List.length a3:Int)) then bif decide (0<=a0)&&decide (a0<(List.length a3:Int)) then (a3[Int.toNat a0]?).bind fun y0=>(qbu y0 a1 a2 a5).bind fun y1=>bif y1.1 then bif decide (0<=a0)&&decide (a0<(List.length a4:Int)) then (a4[Int.toNat a0]?).bind fun y2=>some (.inl ((y2),y1.2.1,y1.2.2.1,y1.2.2.2)) else none else rec (IntKind.wrap IntKind.i64 (a0+(1:Int))) y1.2.1 y1.2.2.1 (a3) (a4) y1.2.2.2 else none else some (.inr ((a1),(a2),(a5)))
def qbs_i3 (rec_qbn:qbn_o):Nat->qbs_o3
 |0=>fun _ _ _ _ _ _=>none
 |n+1=>qbs_t3 rec_qbn (qbs_i3 rec_qbn n)
def qbs_l3 (rec_qbn:qbn_o):=sealF (qbs_i3 rec_qbn fuel)
def qbs_f (rec_qbn:qbn_o) (a0:Int) (a1:Int) (a2:Bool) (a3:List Token):Option (Int×Int×Bool×(List Token)):=(qbk rec_qbn a0).bind fun y0=>(qbs_l3 rec_qbn (0:Int) a1 a2 y0.1 y0.2 a3).bind fun y1=>(match y1 with|.inl y2=>some (y2.1,y2.2.1,y2.2.2.1,y2.2.2.2)|.inr y2=>some (((0:Int)),y2.1,y2.2.1,y2.2.2))
def qbs (rec_qbn:qbn_o):=sealF (qbs_f rec_qbn)
abbrev qbn_o4:=Int->Int->Bool->Int->Int->List UInt8->Int->Int->List UInt8->List Token->List TExpr->Option (Int×Bool×Int×Int×(List UInt8)×Int×Int×(List UInt8)×(List Token)×(List TExpr))
def qbn_t4 (rec_qbn:qbn_o) (rec:qbn_o4):qbn_o4:=fun a0 a1 a2 a3 a4 a5 a6 a7 a8 a9 a10=>bif !a2 then (qbs rec_qbn a0 a1 a2 a9).bind fun y0=>bif y0.1==0 then some (y0.2.1,y0.2.2.1,(a3),(a4),(a5),(a6),(a7),(a8),y0.2.2.2,(a10)) else (rec_qbn (IntKind.wrap IntKind.i64 (a0+(1:Int))) y0.2.1 y0.2.2.1 y0.2.2.2).bind fun y1=>bif a0==3 then some (y1.2.2.2.1,y1.2.2.2.2.1,(a3),(a4),(a5),y0.1,((0:Int)),([]),y1.2.2.2.2.2.2,([TExpr.mk a6 a7 a8 a10,TExpr.mk y1.1 y1.2.1 y1.2.2.1 y1.2.2.2.2.2.1])) else rec (a0) y1.2.2.2.1 y1.2.2.2.2.1 (a3) (a4) (a5) y0.1 ((0:Int)) ([]) y1.2.2.2.2.2.2 ([TExpr.mk a6 a7 a8 a10,TExpr.mk y1.1 y1.2.1 y1.2.2.1 y1.2.2.2.2.2.1]) else some ((a1),(a2),(a3),(a4),(a5),(a6),(a7),(a8),(a9),(a10))
def qbn_i4 (rec_qbn:qbn_o):Nat->qbn_o4
 |0=>fun _ _ _ _ _ _ _ _ _ _ _=>none
 |n+1=>qbn_t4 rec_qbn (qbn_i4 rec_qbn n)
def qbn_l4 (rec_qbn:qbn_o):=sealF (qbn_i4 rec_qbn fuel)
def qbn_f (rec_qbn:qbn_o):qbn_o:=fun a0 a1 a2 a3=>bif a0==6 then (qbv rec_qbn a1 a2 a3).bind fun y0=>some (y0.1,y0.2.1,y0.2.2.1,y0.2.2.2.1,y0.2.2.2.2.1,y0.2.2.2.2.2.1,y0.2.2.2.2.2.2) else (rec_qbn (IntKind.wrap IntKind.i64 (a0+(1:Int))) a1 a2 a3).bind fun y1=>(qbn_l4 rec_qbn a0 y1.2.2.2.1 y1.2.2.2.2.1 (0:Int) (0:Int) [] y1.1 y1.2.1 y1.2.2.1 y1.2.2.2.2.2.2 y1.2.2.2.2.2.1).bind fun y2=>some (y2.2.2.2.2.2.1,y2.2.2.2.2.2.2.1,y2.2.2.2.2.2.2.2.1,y2.1,y2.2.1,y2.2.2.2.2.2.2.2.2.2,y2.2.2.2.2.2.2.2.2.1)
def qbn_i:Nat->qbn_o
 |0=>fun _ _ _ _=>none
 |n+1=>qbn_f (qbn_i n)
def qbn:=sealF (qbn_i fuel)
def qbr_f (a0:Int) (a1:Bool) (a2:List Token):Option (Int×(List UInt8)×(List UInt8)×Int×Int×(List UInt8)×Int×Int×Bool×(List TExpr)×(List TStmt)×(List TStmt)×(List Token)):=(qbp a0 a1 a2).bind fun y0=>(qbu [(58:UInt8),(61:UInt8)] y0.2.1 y0.2.2.1 y0.2.2.2).bind fun y1=>bif !y1.1 then (qbu [(61:UInt8)] y1.2.1 y1.2.2.1 y1.2.2.2).bind fun y2=>bif y1.1 then (qbn (1:Int) y2.2.1 y2.2.2.1 y2.2.2.2).bind fun y3=>(qbw [(59:UInt8)] y3.2.2.2.1 y3.2.2.2.2.1 y3.2.2.2.2.2.2).bind fun y4=>some (((1:Int)),y0.1,([]),y3.1,y3.2.1,y3.2.2.1,((0:Int)),y4.1,y4.2.1,y3.2.2.2.2.2.1,([]),([]),y4.2.2) else bif y2.1 then (qbn (1:Int) y2.2.1 y2.2.2.1 y2.2.2.2).bind fun y5=>(qbw [(59:UInt8)] y5.2.2.2.1 y5.2.2.2.2.1 y5.2.2.2.2.2.2).bind fun y6=>some (((3:Int)),([]),y0.1,y5.1,y5.2.1,y5.2.2.1,((0:Int)),y6.1,y6.2.1,y5.2.2.2.2.2.1,([]),([]),y6.2.2) else (qbw [(60:UInt8),(45:UInt8)] y2.2.1 y2.2.2.1 y2.2.2.2).bind fun y7=>(qbu [(97:UInt8),(100:UInt8),(100:UInt8)] y7.1 y7.2.1 y7.2.2).bind fun y8=>(qbp y8.2.1 y8.2.2.1 y8.2.2.2).bind fun y9=>bif y8.1 then (qbn (1:Int) y9.2.1 y9.2.2.1 y9.2.2.2).bind fun y10=>(qbw [(59:UInt8)] y10.2.2.2.1 y10.2.2.2.2.1 y10.2.2.2.2.2.2).bind fun y11=>some (((4:Int)),y0.1,y9.1,y10.1,y10.2.1,y10.2.2.1,((0:Int)),y11.1,y11.2.1,y10.2.2.2.2.2.1,([]),([]),y11.2.2) else (qbw [(59:UInt8)] y9.2.1 y9.2.2.1 y9.2.2.2).bind fun y12=>some (((2:Int)),y0.1,y9.1,((0:Int)),((0:Int)),([]),((0:Int)),y12.1,y12.2.1,([]),([]),([]),y12.2.2) else bif y1.1 then (qbn (1:Int) y1.2.1 y1.2.2.1 y1.2.2.2).bind fun y13=>(qbw [(59:UInt8)] y13.2.2.2.1 y13.2.2.2.2.1 y13.2.2.2.2.2.2).bind fun y14=>some (((1:Int)),y0.1,([]),y13.1,y13.2.1,y13.2.2.1,((0:Int)),y14.1,y14.2.1,y13.2.2.2.2.2.1,([]),([]),y14.2.2) else (qbw [(60:UInt8),(45:UInt8)] y1.2.1 y1.2.2.1 y1.2.2.2).bind fun y15=>(qbu [(97:UInt8),(100:UInt8),(100:UInt8)] y15.1 y15.2.1 y15.2.2).bind fun y16=>(qbp y16.2.1 y16.2.2.1 y16.2.2.2).bind fun y17=>bif y16.1 then (qbn (1:Int) y17.2.1 y17.2.2.1 y17.2.2.2).bind fun y18=>(qbw [(59:UInt8)] y18.2.2.2.1 y18.2.2.2.2.1 y18.2.2.2.2.2.2).bind fun y19=>some (((4:Int)),y0.1,y17.1,y18.1,y18.2.1,y18.2.2.1,((0:Int)),y19.1,y19.2.1,y18.2.2.2.2.2.1,([]),([]),y19.2.2) else (qbw [(59:UInt8)] y17.2.1 y17.2.2.1 y17.2.2.2).bind fun y20=>some (((2:Int)),y0.1,y17.1,((0:Int)),((0:Int)),([]),((0:Int)),y20.1,y20.2.1,([]),([]),([]),y20.2.2)
def qbr:=sealF (qbr_f)
def qbj_f (a0:List UInt8):Option (Int):=bif a0==[(108:UInt8),(111:UInt8),(99:UInt8),(107:UInt8)] then some ((5:Int)) else bif a0==[(117:UInt8),(110:UInt8),(108:UInt8),(111:UInt8),(99:UInt8),(107:UInt8)] then some ((6:Int)) else bif a0==[(115:UInt8),(116:UInt8),(97:UInt8),(114:UInt8),(116:UInt8)] then some ((7:Int)) else bif a0==[(106:UInt8),(111:UInt8),(105:UInt8),(110:UInt8)] then some ((8:Int)) else some ((0:Int))
def qbj:=sealF (qbj_f)
abbrev qbl_o:=Int->Bool->List Token->Option (Int×Bool×(List TStmt)×(List Token))
def qbt_f (rec_qbl:qbl_o) (a0:Int) (a1:Bool) (a2:List Token):Option (Int×(List UInt8)×(List UInt8)×Int×Int×(List UInt8)×Int×Int×Bool×(List TExpr)×(List TStmt)×(List TStmt)×(List Token)):=bif decide (0<=a0)&&decide (a0<(List.length a2:Int)) then (a2[Int.toNat a0]?).bind fun y0=>bif Token.kind y0==1 then (qbr a0 a1 a2).bind fun y1=>some (y1.1,y1.2.1,y1.2.2.1,y1.2.2.2.1,y1.2.2.2.2.1,y1.2.2.2.2.2.1,y1.2.2.2.2.2.2.1,y1.2.2.2.2.2.2.2.1,y1.2.2.2.2.2.2.2.2.1,y1.2.2.2.2.2.2.2.2.2.1,y1.2.2.2.2.2.2.2.2.2.2.1,y1.2.2.2.2.2.2.2.2.2.2.2.1,y1.2.2.2.2.2.2.2.2.2.2.2.2) else bif Token.kind y0 != 4 then some (((0:Int)),([]),([]),((0:Int)),((0:Int)),([]),((0:Int)),(a0),(true),([]),([]),([]),(a2)) else (qbj (Token.text y0)).bind fun y2=>bif y2 != 0 then (qbp (IntKind.wrap IntKind.i64 (a0+(1:Int))) a1 a2).bind fun y3=>(qbw [(59:UInt8)] y3.2.1 y3.2.2.1 y3.2.2.2).bind fun y4=>some ((y2),([]),y3.1,((0:Int)),((0:Int)),([]),((0:Int)),y4.1,y4.2.1,([]),([]),([]),y4.2.2) else bif Token.text y0==[(97:UInt8),(115:UInt8),(115:UInt8),(101:UInt8),(114:UInt8),(116:UInt8)] then (qbn (1:Int) (IntKind.wrap IntKind.i64 (a0+(1:Int))) a1 a2).bind fun y5=>(qbw [(59:UInt8)] y5.2.2.2.1 y5.2.2.2.2.1 y5.2.2.2.2.2.2).bind fun y6=>some (((9:Int)),([]),([]),y5.1,y5.2.1,y5.2.2.1,((0:Int)),y6.1,y6.2.1,y5.2.2.2.2.2.1,([]),([]),y6.2.2) else bif Token.text y0==[(105:UInt8),(102:UInt8)] then (qbn (1:Int) (IntKind.wrap IntKind.i64 (a0+(1:Int))) a1 a2).bind fun y7=>(rec_qbl y7.2.2.2.1 y7.2.2.2.2.1 y7.2.2.2.2.2.2).bind fun y8=>(qbu [(101:UInt8),(108:UInt8),(115:UInt8),(101:UInt8)] y8.1 y8.2.1 y8.2.2.2).bind fun y9=>bif y9.1 then (rec_qbl y9.2.1 y9.2.2.1 y9.2.2.2).bind fun y10=>some (((10:Int)),([]),([]),y7.1,y7.2.1,y7.2.2.1,((0:Int)),y10.1,y10.2.1,y7.2.2.2.2.2.1,y8.2.2.1,y10.2.2.1,y10.2.2.2) else some (((10:Int)),([]),([]),y7.1,y7.2.1,y7.2.2.1,((0:Int)),y9.2.1,y9.2.2.1,y7.2.2.2.2.2.1,y8.2.2.1,([]),y9.2.2.2) else bif Token.text y0==[(114:UInt8),(101:UInt8),(112:UInt8),(101:UInt8),(97:UInt8),(116:UInt8)] then (qbq (1000:Int) (IntKind.wrap IntKind.i64 (a0+(1:Int))) a1 a2).bind fun y11=>(rec_qbl y11.2.1 y11.2.2.1 y11.2.2.2).bind fun y12=>some (((11:Int)),([]),([]),((0:Int)),((0:Int)),([]),y11.1,y12.1,y12.2.1,([]),y12.2.2.1,([]),y12.2.2.2) else some (((0:Int)),([]),([]),((0:Int)),((0:Int)),([]),((0:Int)),(a0),(true),([]),([]),([]),(a2)) else none
def qbt (rec_qbl:qbl_o):=sealF (qbt_f rec_qbl)
abbrev qbl_o3:=Int->Bool->List Token->List TStmt->Option (Int×Bool×(List TStmt)×(List Token))
def qbl_t3 (rec_qbl:qbl_o) (rec:qbl_o3):qbl_o3:=fun a0 a1 a2 a3=>bif !a1 then (qbu [(125:UInt8)] a0 a1 a2).bind fun y0=>bif y0.1 then some (y0.2.1,y0.2.2.1,(a3),y0.2.2.2) else (qbt rec_qbl y0.2.1 y0.2.2.1 y0.2.2.2).bind fun y1=>bif decide ((List.length a3+List.length [TStmt.mk y1.1 y1.2.1 y1.2.2.1 (TExpr.mk y1.2.2.2.1 y1.2.2.2.2.1 y1.2.2.2.2.2.1 y1.2.2.2.2.2.2.2.2.2.1) y1.2.2.2.2.2.2.1 y1.2.2.2.2.2.2.2.2.2.2.1 y1.2.2.2.2.2.2.2.2.2.2.2.1])*(152:Nat)<=(140737488355328:Nat)/\List.length a3+List.length [TStmt.mk y1.1 y1.2.1 y1.2.2.1 (TExpr.mk y1.2.2.2.1 y1.2.2.2.2.1 y1.2.2.2.2.2.1 y1.2.2.2.2.2.2.2.2.2.1) y1.2.2.2.2.2.2.1 y1.2.2.2.2.2.2.2.2.2.2.1 y1.2.2.2.2.2.2.2.2.2.2.2.1]<=(9223372036854775807:Nat)) then rec y1.2.2.2.2.2.2.2.1 y1.2.2.2.2.2.2.2.2.1 y1.2.2.2.2.2.2.2.2.2.2.2.2 (a3++[TStmt.mk y1.1 y1.2.1 y1.2.2.1 (TExpr.mk y1.2.2.2.1 y1.2.2.2.2.1 y1.2.2.2.2.2.1 y1.2.2.2.2.2.2.2.2.2.1) y1.2.2.2.2.2.2.1 y1.2.2.2.2.2.2.2.2.2.2.1 y1.2.2.2.2.2.2.2.2.2.2.2.1]) else none else some ((a0),(a1),(a3),(a2))
def qbl_i3 (rec_qbl:qbl_o):Nat->qbl_o3
 |0=>fun _ _ _ _=>none
 |n+1=>qbl_t3 rec_qbl (qbl_i3 rec_qbl n)
def qbl_l3 (rec_qbl:qbl_o):=sealF (qbl_i3 rec_qbl fuel)
def qbl_f (rec_qbl:qbl_o):qbl_o:=fun a0 a1 a2=>(qbw [(123:UInt8)] a0 a1 a2).bind fun y0=>(qbl_l3 rec_qbl y0.1 y0.2.1 y0.2.2 []).bind fun y1=>some (y1.1,y1.2.1,y1.2.2.1,y1.2.2.2)
def qbl_i:Nat->qbl_o
 |0=>fun _ _ _=>none
 |n+1=>qbl_f (qbl_i n)
def qbl:=sealF (qbl_i fuel)
def qbm_f (a0:Int) (a1:Bool) (a2:List Token) (a3:List TCell) (a4:List (List UInt8)) (a5:List TThread):Option (Int×Bool×(List TCell)×(List (List UInt8))×(List TThread)×(List Token)):=(qbu [(99:UInt8),(101:UInt8),(108:UInt8),(108:UInt8)] a0 a1 a2).bind fun y0=>bif !y0.1 then (qbu [(109:UInt8),(117:UInt8),(116:UInt8),(101:UInt8),(120:UInt8)] y0.2.1 y0.2.2.1 y0.2.2.2).bind fun y1=>bif y0.1 then (qbp y1.2.1 y1.2.2.1 y1.2.2.2).bind fun y2=>(qbu [(61:UInt8)] y2.2.1 y2.2.2.1 y2.2.2.2).bind fun y3=>bif y3.1 then (qbu [(45:UInt8)] y3.2.1 y3.2.2.1 y3.2.2.2).bind fun y4=>(qbq (2147483647:Int) y4.2.1 y4.2.2.1 y4.2.2.2).bind fun y5=>bif y4.1 then (qbw [(59:UInt8)] y5.2.1 y5.2.2.1 y5.2.2.2).bind fun y6=>bif decide ((List.length a3+List.length [TCell.mk y2.1 (IntKind.wrap IntKind.i64 ((0:Int)-y5.1))])*(24:Nat)<=(140737488355328:Nat)/\List.length a3+List.length [TCell.mk y2.1 (IntKind.wrap IntKind.i64 ((0:Int)-y5.1))]<=(9223372036854775807:Nat)) then some (y6.1,y6.2.1,(a3++[TCell.mk y2.1 (IntKind.wrap IntKind.i64 ((0:Int)-y5.1))]),(a4),(a5),y6.2.2) else none else (qbw [(59:UInt8)] y5.2.1 y5.2.2.1 y5.2.2.2).bind fun y7=>bif decide ((List.length a3+List.length [TCell.mk y2.1 y5.1])*(24:Nat)<=(140737488355328:Nat)/\List.length a3+List.length [TCell.mk y2.1 y5.1]<=(9223372036854775807:Nat)) then some (y7.1,y7.2.1,(a3++[TCell.mk y2.1 y5.1]),(a4),(a5),y7.2.2) else none else (qbw [(59:UInt8)] y3.2.1 y3.2.2.1 y3.2.2.2).bind fun y8=>bif decide ((List.length a3+List.length [TCell.mk y2.1 (0:Int)])*(24:Nat)<=(140737488355328:Nat)/\List.length a3+List.length [TCell.mk y2.1 (0:Int)]<=(9223372036854775807:Nat)) then some (y8.1,y8.2.1,(a3++[TCell.mk y2.1 (0:Int)]),(a4),(a5),y8.2.2) else none else bif y1.1 then (qbp y1.2.1 y1.2.2.1 y1.2.2.2).bind fun y9=>(qbw [(59:UInt8)] y9.2.1 y9.2.2.1 y9.2.2.2).bind fun y10=>bif decide ((List.length a4+List.length [y9.1])*(16:Nat)<=(140737488355328:Nat)/\List.length a4+List.length [y9.1]<=(9223372036854775807:Nat)) then some (y10.1,y10.2.1,(a3),(a4++[y9.1]),(a5),y10.2.2) else none else (qbw [(116:UInt8),(104:UInt8),(114:UInt8),(101:UInt8),(97:UInt8),(100:UInt8)] y1.2.1 y1.2.2.1 y1.2.2.2).bind fun y11=>(qbp y11.1 y11.2.1 y11.2.2).bind fun y12=>(qbl y12.2.1 y12.2.2.1 y12.2.2.2).bind fun y13=>bif decide ((List.length a5+List.length [TThread.mk y12.1 y13.2.2.1])*(40:Nat)<=(140737488355328:Nat)/\List.length a5+List.length [TThread.mk y12.1 y13.2.2.1]<=(9223372036854775807:Nat)) then some (y13.1,y13.2.1,(a3),(a4),(a5++[TThread.mk y12.1 y13.2.2.1]),y13.2.2.2) else none else bif y0.1 then (qbp y0.2.1 y0.2.2.1 y0.2.2.2).bind fun y14=>(qbu [(61:UInt8)] y14.2.1 y14.2.2.1 y14.2.2.2).bind fun y15=>bif y15.1 then (qbu [(45:UInt8)] y15.2.1 y15.2.2.1 y15.2.2.2).bind fun y16=>(qbq (2147483647:Int) y16.2.1 y16.2.2.1 y16.2.2.2).bind fun y17=>bif y16.1 then (qbw [(59:UInt8)] y17.2.1 y17.2.2.1 y17.2.2.2).bind fun y18=>bif decide ((List.length a3+List.length [TCell.mk y14.1 (IntKind.wrap IntKind.i64 ((0:Int)-y17.1))])*(24:Nat)<=(140737488355328:Nat)/\List.length a3+List.length [TCell.mk y14.1 (IntKind.wrap IntKind.i64 ((0:Int)-y17.1))]<=(9223372036854775807:Nat)) then some (y18.1,y18.2.1,(a3++[TCell.mk y14.1 (IntKind.wrap IntKind.i64 ((0:Int)-y17.1))]),(a4),(a5),y18.2.2) else none else (qbw [(59:UInt8)] y17.2.1 y17.2.2.1 y17.2.2.2).bind fun y19=>bif decide ((List.length a3+List.length [TCell.mk y14.1 y17.1])*(24:Nat)<=(140737488355328:Nat)/\List.length a3+List.length [TCell.mk y14.1 y17.1]<=(9223372036854775807:Nat)) then some (y19.1,y19.2.1,(a3++[TCell.mk y14.1 y17.1]),(a4),(a5),y19.2.2) else none else (qbw [(59:UInt8)] y15.2.1 y15.2.2.1 y15.2.2.2).bind fun y20=>bif decide ((List.length a3+List.length [TCell.mk y14.1 (0:Int)])*(24:Nat)<=(140737488355328:Nat)/\List.length a3+List.length [TCell.mk y14.1 (0:Int)]<=(9223372036854775807:Nat)) then some (y20.1,y20.2.1,(a3++[TCell.mk y14.1 (0:Int)]),(a4),(a5),y20.2.2) else none else (qbw [(116:UInt8),(104:UInt8),(114:UInt8),(101:UInt8),(97:UInt8),(100:UInt8)] y0.2.1 y0.2.2.1 y0.2.2.2).bind fun y21=>(qbp y21.1 y21.2.1 y21.2.2).bind fun y22=>(qbl y22.2.1 y22.2.2.1 y22.2.2.2).bind fun y23=>bif decide ((List.length a5+List.length [TThread.mk y22.1 y23.2.2.1])*(40:Nat)<=(140737488355328:Nat)/\List.length a5+List.length [TThread.mk y22.1 y23.2.2.1]<=(9223372036854775807:Nat)) then some (y23.1,y23.2.1,(a3),(a4),(a5++[TThread.mk y22.1 y23.2.2.1]),y23.2.2.2) else none
def qbm:=sealF (qbm_f)
def qbh_f (a0:TExpr):Option (Bool):=Option.bind (α:=Bool) ( bif TExpr.kind a0 != 0 then some (true) else some (decide ((List.length (TExpr.args a0):Int)>0))) fun y0=>some (y0)
def qbh:=sealF (qbh_f)
abbrev qbb_o:=TExpr->Option (Int)
abbrev qbb_o3:=Int->Int->Int->Int->List UInt8->List TExpr->Option (Int)
def qbb_t3 (rec_qbb:qbb_o) (rec:qbb_o3):qbb_o3:=fun a0 a1 a2 a3 a4 a5=>bif decide (a1<(List.length a5:Int)) then bif decide (0<=a1) then (a5[Int.toNat a1]?).bind fun y0=>(rec_qbb y0).bind fun y1=>rec (if y1>a0 then y1 else a0) (IntKind.wrap IntKind.i64 (a1+(1:Int))) (a2) (a3) (a4) (a5) else none else some (a0)
def qbb_i3 (rec_qbb:qbb_o):Nat->qbb_o3
 |0=>fun _ _ _ _ _ _=>none
 |n+1=>qbb_t3 rec_qbb (qbb_i3 rec_qbb n)
def qbb_l3 (rec_qbb:qbb_o):=sealF (qbb_i3 rec_qbb fuel)
def qbb_f (rec_qbb:qbb_o):qbb_o:=fun a0=>(qbb_l3 rec_qbb (0:Int) (0:Int) (TExpr.kind a0) (TExpr.num a0) (TExpr.name a0) (TExpr.args a0)).bind fun y0=>some (IntKind.wrap IntKind.i64 (y0+(1:Int)))
def qbb_i:Nat->qbb_o
 |0=>fun _=>none
 |n+1=>qbb_f (qbb_i n)
def qbb:=sealF (qbb_i fuel)
abbrev qbf_o:=List TStmt->Int->Option (Int)
abbrev qbf_o3:=List TStmt->Int->Int->Int->Option (Int)
def qbf_t3 (rec_qbf:qbf_o) (rec:qbf_o3):qbf_o3:=fun a0 a1 a2 a3=>bif decide (a3<(List.length a0:Int)) then bif decide (0<=a3) then (a0[Int.toNat a3]?).bind fun y0=>(qbh (TExpr.mk (TExpr.kind (TStmt.expr y0)) (TExpr.num (TStmt.expr y0)) (TExpr.name (TStmt.expr y0)) (TExpr.args (TStmt.expr y0)))).bind fun y1=>bif y1 then bif decide (0<=a3) then (a0[Int.toNat a3]?).bind fun y2=>(qbb (TExpr.mk (TExpr.kind (TStmt.expr y2)) (TExpr.num (TStmt.expr y2)) (TExpr.name (TStmt.expr y2)) (TExpr.args (TStmt.expr y2)))).bind fun y3=>bif decide (0<=a3) then (a0[Int.toNat a3]?).bind fun y4=>(rec_qbf (TStmt.then_ y4) (IntKind.wrap IntKind.i64 (a1+(1:Int)))).bind fun y5=>bif decide (0<=a3) then (a0[Int.toNat a3]?).bind fun y6=>(rec_qbf (TStmt.else_ y6) (IntKind.wrap IntKind.i64 (a1+(1:Int)))).bind fun y7=>rec (a0) (a1) (if y7>if y5>if y3>if a1>a2 then a1 else a2 then y3 else if a1>a2 then a1 else a2 then y5 else if y3>if a1>a2 then a1 else a2 then y3 else if a1>a2 then a1 else a2 then y7 else if y5>if y3>if a1>a2 then a1 else a2 then y3 else if a1>a2 then a1 else a2 then y5 else if y3>if a1>a2 then a1 else a2 then y3 else if a1>a2 then a1 else a2) (IntKind.wrap IntKind.i64 (a3+(1:Int))) else none else none else none else bif decide (0<=a3) then (a0[Int.toNat a3]?).bind fun y8=>(rec_qbf (TStmt.then_ y8) (IntKind.wrap IntKind.i64 (a1+(1:Int)))).bind fun y9=>bif decide (0<=a3) then (a0[Int.toNat a3]?).bind fun y10=>(rec_qbf (TStmt.else_ y10) (IntKind.wrap IntKind.i64 (a1+(1:Int)))).bind fun y11=>rec (a0) (a1) (if y11>if y9>if a1>a2 then a1 else a2 then y9 else if a1>a2 then a1 else a2 then y11 else if y9>if a1>a2 then a1 else a2 then y9 else if a1>a2 then a1 else a2) (IntKind.wrap IntKind.i64 (a3+(1:Int))) else none else none else none else some (a2)
def qbf_i3 (rec_qbf:qbf_o):Nat->qbf_o3
 |0=>fun _ _ _ _=>none
 |n+1=>qbf_t3 rec_qbf (qbf_i3 rec_qbf n)
def qbf_l3 (rec_qbf:qbf_o):=sealF (qbf_i3 rec_qbf fuel)
def qbf_f (rec_qbf:qbf_o):qbf_o:=fun a0 a1=>(qbf_l3 rec_qbf a0 a1 (0:Int) (0:Int)).bind fun y0=>some (y0)
def qbf_i:Nat->qbf_o
 |0=>fun _ _=>none
 |n+1=>qbf_f (qbf_i n)
def qbf:=sealF (qbf_i fuel)
abbrev qa9_o3:=Int->Int->List TCell->List (List UInt8)->List TThread->Option (Int)
def qa9_t3 (rec:qa9_o3):qa9_o3:=fun a0 a1 a2 a3 a4=>bif decide (a1<(List.length a4:Int)) then bif decide (0<=a1) then (a4[Int.toNat a1]?).bind fun y0=>(qbf (TThread.body y0) (1:Int)).bind fun y1=>rec (if y1>a0 then y1 else a0) (IntKind.wrap IntKind.i64 (a1+(1:Int))) (a2) (a3) (a4) else none else some (a0)
def qa9_i3:Nat->qa9_o3
 |0=>fun _ _ _ _ _=>none
 |n+1=>qa9_t3 (qa9_i3 n)
def qa9_l3:=sealF (qa9_i3 fuel)
def qa9_f (a0:TProg):Option (Int):=(qa9_l3 (0:Int) (0:Int) (TProg.cells a0) (TProg.mutexes a0) (TProg.threads a0)).bind fun y0=>some (y0)
def qa9:=sealF (qa9_f)
abbrev qba_o:=TExpr->Option (Int)
abbrev qba_o3:=Int->Int->Int->Int->List UInt8->List TExpr->Option (Int)
def qba_t3 (rec_qba:qba_o) (rec:qba_o3):qba_o3:=fun a0 a1 a2 a3 a4 a5=>bif decide (a1<(List.length a5:Int)) then bif decide (0<=a1) then (a5[Int.toNat a1]?).bind fun y0=>(rec_qba y0).bind fun y1=>rec (IntKind.wrap IntKind.i64 (a0+y1)) (IntKind.wrap IntKind.i64 (a1+(1:Int))) (a2) (a3) (a4) (a5) else none else some (a0)
def qba_i3 (rec_qba:qba_o):Nat->qba_o3
 |0=>fun _ _ _ _ _ _=>none
 |n+1=>qba_t3 rec_qba (qba_i3 rec_qba n)
def qba_l3 (rec_qba:qba_o):=sealF (qba_i3 rec_qba fuel)
def qba_f (rec_qba:qba_o):qba_o:=fun a0=>(qba_l3 rec_qba (1:Int) (0:Int) (TExpr.kind a0) (TExpr.num a0) (TExpr.name a0) (TExpr.args a0)).bind fun y0=>some (y0)
def qba_i:Nat->qba_o
 |0=>fun _=>none
 |n+1=>qba_f (qba_i n)
def qba:=sealF (qba_i fuel)
abbrev qbe_o:=List TStmt->Option (Int)
abbrev qbe_o3:=List TStmt->Int->Int->Option (Int)
def qbe_t3 (rec_qbe:qbe_o) (rec:qbe_o3):qbe_o3:=fun a0 a1 a2=>bif decide (a2<(List.length a0:Int)) then bif decide (0<=a2) then (a0[Int.toNat a2]?).bind fun y0=>(qbh (TExpr.mk (TExpr.kind (TStmt.expr y0)) (TExpr.num (TStmt.expr y0)) (TExpr.name (TStmt.expr y0)) (TExpr.args (TStmt.expr y0)))).bind fun y1=>bif y1 then bif decide (0<=a2) then (a0[Int.toNat a2]?).bind fun y2=>(qba (TExpr.mk (TExpr.kind (TStmt.expr y2)) (TExpr.num (TStmt.expr y2)) (TExpr.name (TStmt.expr y2)) (TExpr.args (TStmt.expr y2)))).bind fun y3=>bif decide (0<=a2) then (a0[Int.toNat a2]?).bind fun y4=>(rec_qbe (TStmt.then_ y4)).bind fun y5=>bif decide (0<=a2) then (a0[Int.toNat a2]?).bind fun y6=>(rec_qbe (TStmt.else_ y6)).bind fun y7=>rec (a0) (IntKind.wrap IntKind.i64 (IntKind.wrap IntKind.i64 (IntKind.wrap IntKind.i64 (IntKind.wrap IntKind.i64 (a1+(1:Int))+y3)+y5)+y7)) (IntKind.wrap IntKind.i64 (a2+(1:Int))) else none else none else none else bif decide (0<=a2) then (a0[Int.toNat a2]?).bind fun y8=>(rec_qbe (TStmt.then_ y8)).bind fun y9=>bif decide (0<=a2) then (a0[Int.toNat a2]?).bind fun y10=>(rec_qbe (TStmt.else_ y10)).bind fun y11=>rec (a0) (IntKind.wrap IntKind.i64 (IntKind.wrap IntKind.i64 (IntKind.wrap IntKind.i64 (a1+(1:Int))+y9)+y11)) (IntKind.wrap IntKind.i64 (a2+(1:Int))) else none else none else none else some (a1)
def qbe_i3 (rec_qbe:qbe_o):Nat->qbe_o3
 |0=>fun _ _ _=>none
 |n+1=>qbe_t3 rec_qbe (qbe_i3 rec_qbe n)
def qbe_l3 (rec_qbe:qbe_o):=sealF (qbe_i3 rec_qbe fuel)
def qbe_f (rec_qbe:qbe_o):qbe_o:=fun a0=>(qbe_l3 rec_qbe a0 (0:Int) (0:Int)).bind fun y0=>some (y0)
def qbe_i:Nat->qbe_o
 |0=>fun _=>none
 |n+1=>qbe_f (qbe_i n)
def qbe:=sealF (qbe_i fuel)
abbrev qa8_o3:=Int->Int->List TCell->List (List UInt8)->List TThread->Option (Int)
def qa8_t3 (rec:qa8_o3):qa8_o3:=fun a0 a1 a2 a3 a4=>bif decide (a1<(List.length a4:Int)) then bif decide (0<=a1) then (a4[Int.toNat a1]?).bind fun y0=>(qbe (TThread.body y0)).bind fun y1=>rec (IntKind.wrap IntKind.i64 (a0+y1)) (IntKind.wrap IntKind.i64 (a1+(1:Int))) (a2) (a3) (a4) else none else some (a0)
def qa8_i3:Nat->qa8_o3
 |0=>fun _ _ _ _ _=>none
 |n+1=>qa8_t3 (qa8_i3 n)
def qa8_l3:=sealF (qa8_i3 fuel)
def qa8_f (a0:TProg):Option (Int):=(qa8_l3 (0:Int) (0:Int) (TProg.cells a0) (TProg.mutexes a0) (TProg.threads a0)).bind fun y0=>some (y0)
def qa8:=sealF (qa8_f)
abbrev qbi_o6:=Int->Int->List UInt8->Int->Bool->List Token->List TCell->List (List UInt8)->List TThread->Option (Int×Int×(List UInt8)×Int×Bool×(List Token)×(List TCell)×(List (List UInt8))×(List TThread))
def qbi_t6 (rec:qbi_o6):qbi_o6:=fun a0 a1 a2 a3 a4 a5 a6 a7 a8=>bif !a4 then bif decide (0<=a3)&&decide (a3<(List.length a5:Int)) then (a5[Int.toNat a3]?).bind fun y0=>bif Token.kind y0 != 5 then (qbm a3 a4 a5 a6 a7 a8).bind fun y1=>rec (a0) (a1) (a2) y1.1 y1.2.1 y1.2.2.2.2.2 y1.2.2.1 y1.2.2.2.1 y1.2.2.2.2.1 else some ((a0),(a1),(a2),(a3),(a4),(a5),(a6),(a7),(a8)) else none else some ((a0),(a1),(a2),(a3),(a4),(a5),(a6),(a7),(a8))
def qbi_i6:Nat->qbi_o6
 |0=>fun _ _ _ _ _ _ _ _ _=>none
 |n+1=>qbi_t6 (qbi_i6 n)
def qbi_l6:=sealF (qbi_i6 fuel)
def qbi_f (a0:List UInt8):Option (Fault×(List TCell)×(List (List UInt8))×(List TThread)):=(qaX a0).bind fun y0=>bif Fault.code y0.1 != 0 then some ((Fault.mk (Fault.code y0.1) (Fault.at_ y0.1) (Fault.name y0.1)),([]),([]),([])) else (qbi_l6 (0:Int) (0:Int) [] (0:Int) false y0.2 [] [] []).bind fun y1=>bif y1.2.2.2.2.1 then bif decide ((0:Int)<=y1.2.2.2.1)&&decide (y1.2.2.2.1<(List.length y1.2.2.2.2.2.1:Int)) then (y1.2.2.2.2.2.1[Int.toNat y1.2.2.2.1]?).bind fun y2=>some ((Fault.mk (40:Int) (Token.at_ y2) []),([]),([]),([])) else none else (qa9 (TProg.mk y1.2.2.2.2.2.2.1 y1.2.2.2.2.2.2.2.1 y1.2.2.2.2.2.2.2.2)).bind fun y3=>(qa8 (TProg.mk y1.2.2.2.2.2.2.1 y1.2.2.2.2.2.2.2.1 y1.2.2.2.2.2.2.2.2)).bind fun y4=>bif decide (y3>16) then some ((Fault.mk (41:Int) (0:Int) []),([]),([]),([])) else bif decide (y4>500) then some ((Fault.mk (42:Int) (0:Int) []),([]),([]),([])) else some ((Fault.mk (0:Int) (0:Int) []),y1.2.2.2.2.2.2.1,y1.2.2.2.2.2.2.2.1,y1.2.2.2.2.2.2.2.2)
def qbi:=sealF (qbi_f)
def qaH_f (a0:List UInt8) (a1:Int) (a2:Int):Option (Bool):=(qaM).bind fun y0=>(qar a0).bind fun y1=>Option.bind (α:=Bool) ( bif !y0 then some (true) else some (Fault.code y1.1 != 0)) fun y2=>bif y2 then some (y0) else (qbL (TProg.mk y1.2.1 y1.2.2.1 y1.2.2.2)).bind fun y3=>Option.bind (α:=Bool) ( bif y3 != 0 then some (true) else some ((List.length y1.2.2.2:Int)==0)) fun y4=>Option.bind (α:=Bool) ( bif y4 then some (true) else some (decide (a1<0))) fun y5=>Option.bind (α:=Bool) ( bif y5 then some (true) else some (decide (a2<0))) fun y6=>bif y6 then some (y3==0) else (qa5 (TProg.mk y1.2.1 y1.2.2.1 y1.2.2.2)).bind fun y7=>bif (List.length y1.2.2.2:Int)==0 then none else bif decide ((0:Int)<=Int.tmod a1 (List.length y1.2.2.2:Int))&&decide (Int.tmod a1 (List.length y1.2.2.2:Int)<(List.length y1.2.2.2:Int)) then (y1.2.2.2[Int.toNat (Int.tmod a1 (List.length y1.2.2.2:Int))]?).bind fun y8=>bif decide ((List.length (TThread.body y8):Int)>0) then bif (List.length (TThread.body y8):Int)==0 then none else bif decide ((0:Int)<=Int.tmod a2 (List.length (TThread.body y8):Int))&&(decide (Int.tmod a2 (List.length (TThread.body y8):Int)<(List.length (TThread.body y8):Int))&&(decide (IntKind.wrap IntKind.i64 (Int.tmod a2 (List.length (TThread.body y8):Int)+(1:Int))=Int.tmod a2 (List.length (TThread.body y8):Int)+(1:Int))&&decide (IntKind.wrap IntKind.i64 (Int.tmod a2 (List.length (TThread.body y8):Int)+(1:Int))=Int.tmod a2 (List.length (TThread.body y8):Int)+(1:Int)))) then (qaI (Int.toNat (Int.tmod a2 (List.length (TThread.body y8):Int))) (TThread.body y8)).bind fun y9=>bif decide ((0:Int)<=Int.tmod a1 (List.length y1.2.2.2:Int))&&decide (Int.tmod a1 (List.length y1.2.2.2:Int)<(List.length y7.2.2:Int)) then (y7.2.2[Int.toNat (Int.tmod a1 (List.length y1.2.2.2:Int))]?).bind fun y10=>bif decide ((0:Int)<=(0:Int))&&decide ((0:Int)<(List.length y9.1:Int)) then (y9.1[(0:Nat)]?).bind fun y11=>bif decide ((0:Int)<=Int.tmod a2 (List.length (TThread.body y8):Int))&&decide (Int.tmod a2 (List.length (TThread.body y8):Int)<(List.length (TThread.body y10):Int)) then ((TThread.body y10)[Int.toNat (Int.tmod a2 (List.length (TThread.body y8):Int))]?).bind fun y12=>(qbc (TProg.mk y1.2.1 y1.2.2.1 (List.set y1.2.2.2 (Int.toNat (Int.tmod a1 (List.length y1.2.2.2:Int))) (TThread.mk (TThread.name y8) y9.2))) (TProg.mk y7.1 y7.2.1 (List.set y7.2.2 (Int.toNat (Int.tmod a1 (List.length y1.2.2.2:Int))) (TThread.mk (TThread.name y10) (List.set (TThread.body y10) (Int.toNat (Int.tmod a2 (List.length (TThread.body y8):Int))) (TStmt.mk (TStmt.kind y11) (TStmt.reg y11) (TStmt.name y11) (TExpr.mk (TExpr.kind (TStmt.expr y11)) (TExpr.num (TStmt.expr y11)) (TExpr.name (TStmt.expr y11)) (TExpr.args (TStmt.expr y11))) (TStmt.count y11) (TStmt.then_ y11) (TStmt.else_ y11))))))).bind fun y13=>(qar a0).bind fun y14=>(qbL (TProg.mk y14.2.1 y14.2.2.1 y14.2.2.2)).bind fun y15=>(qbi a0).bind fun y16=>(qbc (TProg.mk y14.2.1 y14.2.2.1 y14.2.2.2) (TProg.mk y16.2.1 y16.2.2.1 y16.2.2.2)).bind fun y17=>Option.bind (α:=Bool) ( bif y13 then some (Fault.code y14.1==0) else some (false)) fun y18=>Option.bind (α:=Bool) ( bif y18 then some (y15==0) else some (false)) fun y19=>Option.bind (α:=Bool) ( bif y19 then some (y17) else some (false)) fun y20=>some (y20) else none else none else none else none else (qbc (TProg.mk y1.2.1 y1.2.2.1 (List.set y1.2.2.2 (Int.toNat (Int.tmod a1 (List.length y1.2.2.2:Int))) (TThread.mk (TThread.name y8) (TThread.body y8)))) (TProg.mk y7.1 y7.2.1 y7.2.2)).bind fun y21=>(qar a0).bind fun y22=>(qbL (TProg.mk y22.2.1 y22.2.2.1 y22.2.2.2)).bind fun y23=>(qbi a0).bind fun y24=>(qbc (TProg.mk y22.2.1 y22.2.2.1 y22.2.2.2) (TProg.mk y24.2.1 y24.2.2.1 y24.2.2.2)).bind fun y25=>Option.bind (α:=Bool) ( bif y21 then some (Fault.code y22.1==0) else some (false)) fun y26=>Option.bind (α:=Bool) ( bif y26 then some (y23==0) else some (false)) fun y27=>Option.bind (α:=Bool) ( bif y27 then some (y25) else some (false)) fun y28=>some (y28) else none
def qaH:=sealF (qaH_f)
end
end Lift.Fn
