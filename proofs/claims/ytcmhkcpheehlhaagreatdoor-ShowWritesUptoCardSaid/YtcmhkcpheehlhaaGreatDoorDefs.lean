/-
  DERIVED. The functions of this seat as Lean has them; the library's modes. Conditions: none.
-/
import Derived.Test.YtcmhkcpheehlhaaGreatDoorLiftC
import Derived.Test.YtcmhkcpheehlhaaGreatDoorProg
import Derived.KernelRfl
set_option linter.unusedVariables false
set_option linter.unusedSimpArgs false
set_option linter.unusedSectionVars false
namespace Lift
structure Wrong where
 at_:Int
 deriving DecidableEq
structure Oper where
 (sign:List UInt8) (level:Int) (left:Int) (right:Int)
 deriving DecidableEq
end Lift
namespace Lift.Q4
open Go Go.RowKit Go.Proofs Lift
@[reducible] noncomputable def U (n:Nat):Type:=match n with
 |27=>TProg
 |30=>Fault
 |37=>Token
 |46=>TThread
 |50=>TExpr
 |52=>TStmt
 |62=>TCell
 |64=>Wrong
 |77=>Spot
 |138=>Oper
 |154=>Shape
 |1027=>TProg
 |1046=>TThread
 |1050=>TExpr
 |1052=>TStmt
 |_=>Empty
noncomputable def cells (n:Nat):U n→List (TV U):=match n with
 |27=>fun (x:TProg)=>[⟨.slc (.st 62),x.cells⟩,⟨.slc (.str),x.mutexes⟩,⟨.slc (.st 46),x.threads⟩]
 |30=>fun (x:Fault)=>[⟨.int .i64,x.code⟩,⟨.int .i64,x.at_⟩,⟨.str,x.name⟩]
 |37=>fun (x:Token)=>[⟨.int .i64,x.kind⟩,⟨.str,x.text⟩,⟨.int .i64,x.num⟩,⟨.int .i64,x.at_⟩]
 |46=>fun (x:TThread)=>[⟨.str,x.name⟩,⟨.slc (.st 52),x.body⟩]
 |50=>fun (x:TExpr)=>[⟨.int .i64,x.kind⟩,⟨.int .i64,x.num⟩,⟨.str,x.name⟩,⟨.slc (.st 50),x.args⟩]
 |52=>fun (x:TStmt)=>[⟨.int .i64,x.kind⟩,⟨.str,x.reg⟩,⟨.str,x.name⟩,⟨.int .i64,x.expr.kind⟩,⟨.int .i64,x.expr.num⟩,⟨.str,x.expr.name⟩,⟨.slc (.st 50),x.expr.args⟩,⟨.int .i64,x.count⟩,⟨.slc (.st 52),x.then_⟩,⟨.slc (.st 52),x.else_⟩]
 |62=>fun (x:TCell)=>[⟨.str,x.name⟩,⟨.int .i64,x.init⟩]
 |64=>fun (x:Wrong)=>[⟨.int .i64,x.at_⟩]
 |77=>fun (x:Spot)=>[⟨.int .i64,x.rune⟩,⟨.int .i64,x.at_⟩,⟨.int .i64,x.line⟩,⟨.int .i64,x.col⟩]
 |138=>fun (x:Oper)=>[⟨.str,x.sign⟩,⟨.int .i64,x.level⟩,⟨.int .i64,x.left⟩,⟨.int .i64,x.right⟩]
 |154=>fun (x:Shape)=>[⟨.bool,x.reg⟩,⟨.bool,x.name⟩,⟨.bool,x.expr⟩,⟨.bool,x.count⟩,⟨.bool,x.then_⟩,⟨.bool,x.other⟩]
 |1027=>fun (x:TProg)=>[⟨.own 62 (.st 62),x.cells⟩,⟨.own 9 (.str),x.mutexes⟩,⟨.own 46 (.st 1046),x.threads⟩]
 |1046=>fun (x:TThread)=>[⟨.str,x.name⟩,⟨.own 52 (.st 1052),x.body⟩]
 |1050=>fun (x:TExpr)=>[⟨.int .i64,x.kind⟩,⟨.int .i64,x.num⟩,⟨.str,x.name⟩,⟨.own 50 (.st 1050),x.args⟩]
 |1052=>fun (x:TStmt)=>[⟨.int .i64,x.kind⟩,⟨.str,x.reg⟩,⟨.str,x.name⟩,⟨.int .i64,x.expr.kind⟩,⟨.int .i64,x.expr.num⟩,⟨.str,x.expr.name⟩,⟨.own 50 (.st 1050),x.expr.args⟩,⟨.int .i64,x.count⟩,⟨.own 52 (.st 1052),x.then_⟩,⟨.own 52 (.st 1052),x.else_⟩]
 |_=>fun _=>[]
noncomputable def ctys (n:Nat):List Ty:=match n with
 |27=>[.slc (.st 62),.slc (.str),.slc (.st 46)]
 |30=>[.int .i64,.int .i64,.str]
 |37=>[.int .i64,.str,.int .i64,.int .i64]
 |46=>[.str,.slc (.st 52)]
 |50=>[.int .i64,.int .i64,.str,.slc (.st 50)]
 |52=>[.int .i64,.str,.str,.int .i64,.int .i64,.str,.slc (.st 50),.int .i64,.slc (.st 52),.slc (.st 52)]
 |62=>[.str,.int .i64]
 |64=>[.int .i64]
 |77=>[.int .i64,.int .i64,.int .i64,.int .i64]
 |138=>[.str,.int .i64,.int .i64,.int .i64]
 |154=>[.bool,.bool,.bool,.bool,.bool,.bool]
 |1027=>[.own 62 (.st 62),.own 9 (.str),.own 46 (.st 1046)]
 |1046=>[.str,.own 52 (.st 1052)]
 |1050=>[.int .i64,.int .i64,.str,.own 50 (.st 1050)]
 |1052=>[.int .i64,.str,.str,.int .i64,.int .i64,.str,.own 50 (.st 1050),.int .i64,.own 52 (.st 1052),.own 52 (.st 1052)]
 |_=>[]
noncomputable def make (n:Nat):List (TV U)→Option (U n):=match n with
 |27=>fun|[⟨.slc (.st 62),v0⟩,⟨.slc (.str),v1⟩,⟨.slc (.st 46),v2⟩]=>some (TProg.mk v0 v1 v2)|_=>none
 |30=>fun|[⟨.int .i64,v0⟩,⟨.int .i64,v1⟩,⟨.str,v2⟩]=>some (Fault.mk v0 v1 v2)|_=>none
 |37=>fun|[⟨.int .i64,v0⟩,⟨.str,v1⟩,⟨.int .i64,v2⟩,⟨.int .i64,v3⟩]=>some (Token.mk v0 v1 v2 v3)|_=>none
 |46=>fun|[⟨.str,v0⟩,⟨.slc (.st 52),v1⟩]=>some (TThread.mk v0 v1)|_=>none
 |50=>fun|[⟨.int .i64,v0⟩,⟨.int .i64,v1⟩,⟨.str,v2⟩,⟨.slc (.st 50),v3⟩]=>some (TExpr.mk v0 v1 v2 v3)|_=>none
 |52=>fun|[⟨.int .i64,v0⟩,⟨.str,v1⟩,⟨.str,v2⟩,⟨.int .i64,v3⟩,⟨.int .i64,v4⟩,⟨.str,v5⟩,⟨.slc (.st 50),v6⟩,⟨.int .i64,v7⟩,⟨.slc (.st 52),v8⟩,⟨.slc (.st 52),v9⟩]=>some (TStmt.mk v0 v1 v2 (TExpr.mk v3 v4 v5 v6) v7 v8 v9)|_=>none
 |62=>fun|[⟨.str,v0⟩,⟨.int .i64,v1⟩]=>some (TCell.mk v0 v1)|_=>none
 |64=>fun|[⟨.int .i64,v0⟩]=>some (Wrong.mk v0)|_=>none
 |77=>fun|[⟨.int .i64,v0⟩,⟨.int .i64,v1⟩,⟨.int .i64,v2⟩,⟨.int .i64,v3⟩]=>some (Spot.mk v0 v1 v2 v3)|_=>none
 |138=>fun|[⟨.str,v0⟩,⟨.int .i64,v1⟩,⟨.int .i64,v2⟩,⟨.int .i64,v3⟩]=>some (Oper.mk v0 v1 v2 v3)|_=>none
 |154=>fun|[⟨.bool,v0⟩,⟨.bool,v1⟩,⟨.bool,v2⟩,⟨.bool,v3⟩,⟨.bool,v4⟩,⟨.bool,v5⟩]=>some (Shape.mk v0 v1 v2 v3 v4 v5)|_=>none
 |1027=>fun|[⟨.own 62 (.st 62),v0⟩,⟨.own 9 (.str),v1⟩,⟨.own 46 (.st 1046),v2⟩]=>some (TProg.mk v0 v1 v2)|_=>none
 |1046=>fun|[⟨.str,v0⟩,⟨.own 52 (.st 1052),v1⟩]=>some (TThread.mk v0 v1)|_=>none
 |1050=>fun|[⟨.int .i64,v0⟩,⟨.int .i64,v1⟩,⟨.str,v2⟩,⟨.own 50 (.st 1050),v3⟩]=>some (TExpr.mk v0 v1 v2 v3)|_=>none
 |1052=>fun|[⟨.int .i64,v0⟩,⟨.str,v1⟩,⟨.str,v2⟩,⟨.int .i64,v3⟩,⟨.int .i64,v4⟩,⟨.str,v5⟩,⟨.own 50 (.st 1050),v6⟩,⟨.int .i64,v7⟩,⟨.own 52 (.st 1052),v8⟩,⟨.own 52 (.st 1052),v9⟩]=>some (TStmt.mk v0 v1 v2 (TExpr.mk v3 v4 v5 v6) v7 v8 v9)|_=>none
 |_=>fun _=>none
def pn (n:Nat):Nat:=match n with
 |1027=>27
 |1046=>46
 |1050=>50
 |1052=>52
 |n=>n
def closed (n:Nat):Bool:=match n with
 |1027=>true
 |1046=>true
 |1050=>true
 |1052=>true
 |30=>true
 |37=>true
 |62=>true
 |64=>true
 |77=>true
 |138=>true
 |154=>true
 |_=>false
def ids:List Nat:=[27,30,37,46,50,52,62,64,77,138,154,1027,1046,1050,1052]
theorem zafp {n:Nat} (h:n∉ids):(∀ x,cells n x=[])∧ctys n=[]∧pn n=n∧closed n=false:=by
 refine ⟨?_,?_,?_,?_⟩
 ·intro x; unfold cells; split<;>first|rfl|exact absurd (by decide) h
 ·unfold ctys; split<;>first|rfl|exact absurd (by decide) h
 ·unfold pn; split<;>first|rfl|exact absurd (by decide) h
 ·unfold closed; split<;>first|rfl|exact absurd (by decide) h
theorem zano {P:Nat→Prop} (h1:∀ n∈ids,P n) (h2:∀ n,n∉ids→P n) (n:Nat):P n:=by
 by_cases h:n∈ids
 ·exact h1 n h
 ·exact h2 n h
theorem pd:∀ n,U (pn n)=U n:=zano (by unfold ids; simp only[List.forall_mem_cons]; exact ⟨rfl,rfl,rfl,rfl,rfl,rfl,rfl,rfl,rfl,rfl,rfl,rfl,rfl,rfl,rfl,fun n h=>by cases h⟩) (fun n h=>by rw[(zafp h).2.2.1])
theorem pc : ∀ n (x : U n), cells (pn n) (cast (pd n).symm x) = (cells n x).map (TV.plain pd) := zano (by unfold ids; simp only [List.forall_mem_cons]; exact ⟨fun _ => rfl, fun _ => rfl, fun _ => rfl, fun _ => rfl, fun _ => rfl, fun _ => rfl, fun _ => rfl, fun _ => rfl, fun _ => rfl, fun _ => rfl, fun _ => rfl, fun _ => rfl, fun _ => rfl, fun _ => rfl, fun _ => rfl, fun n h => by cases h⟩)
 (fun n h x=>by rw[(zafp h).1 x]; exact (zafp (n:=pn n) (by rw[(zafp h).2.2.1]; exact h)).1 _)
theorem pt : ∀ n, ctys (pn n) = (ctys n).map (Ty.plain pn) := zano (by unfold ids; simp only [List.forall_mem_cons]; exact ⟨rfl, rfl, rfl, rfl, rfl, rfl, rfl, rfl, rfl, rfl, rfl, rfl, rfl, rfl, rfl, fun n h => by cases h⟩)
 (fun n h=>by rw[(zafp h).2.2.1,(zafp h).2.1]; rfl)
theorem closed_ok:∀ n,closed n=true→∀ t∈ctys n,(match t with
  |.int _=>true|.bool=>true|.str=>true|.err=>true|.fn=>true
  |.own _ (.st m)=>closed m
  |.own _ e=>match e with|.int _=>true|.bool=>true|.str=>true|_=>false
  |_=>false)=true:=zano (by unfold ids; simp only[List.forall_mem_cons]; exact ⟨fun h=>(by cases h),fun _=>List.all_eq_true.1 (by rfl),fun _=>List.all_eq_true.1 (by rfl),fun h=>(by cases h),fun h=>(by cases h),fun h=>(by cases h),fun _=>List.all_eq_true.1 (by rfl),fun _=>List.all_eq_true.1 (by rfl),fun _=>List.all_eq_true.1 (by rfl),fun _=>List.all_eq_true.1 (by rfl),fun _=>List.all_eq_true.1 (by rfl),fun _=>List.all_eq_true.1 (by rfl),fun _=>List.all_eq_true.1 (by rfl),fun _=>List.all_eq_true.1 (by rfl),fun _=>List.all_eq_true.1 (by rfl),fun n h=>by cases h⟩)
 (fun n h hc=>by rw[(zafp h).2.2.2] at hc; cases hc)
@[reducible] noncomputable def uni:Uni where
 U:=U
 cells:=cells
 ctys:=ctys
 make:=make
 make_ok:=by
  intro n cs x h;unfold make at h;split at h
  ·dsimp only at h;split at h
   ·cases h; rfl
   ·cases h
  ·dsimp only at h;split at h
   ·cases h; rfl
   ·cases h
  ·dsimp only at h;split at h
   ·cases h; rfl
   ·cases h
  ·dsimp only at h;split at h
   ·cases h; rfl
   ·cases h
  ·dsimp only at h;split at h
   ·cases h; rfl
   ·cases h
  ·dsimp only at h;split at h
   ·cases h; rfl
   ·cases h
  ·dsimp only at h;split at h
   ·cases h; rfl
   ·cases h
  ·dsimp only at h;split at h
   ·cases h; rfl
   ·cases h
  ·dsimp only at h;split at h
   ·cases h; rfl
   ·cases h
  ·dsimp only at h;split at h
   ·cases h; rfl
   ·cases h
  ·dsimp only at h;split at h
   ·cases h; rfl
   ·cases h
  ·dsimp only at h;split at h
   ·cases h; rfl
   ·cases h
  ·dsimp only at h;split at h
   ·cases h; rfl
   ·cases h
  ·dsimp only at h;split at h
   ·cases h; rfl
   ·cases h
  ·dsimp only at h;split at h
   ·cases h; rfl
   ·cases h
  ·cases h
 tys_ok:=by
  intro n x;unfold cells ctys;split<;>rfl
 pn:=pn
 pd:=pd
 pc:=pc
 pt:=pt
 closed:=closed
 closed_ok:=closed_ok
 flat_ok:=by
  intro n t h;have:∀ n,(ctys n).all Ty.flat=true:=by
   intro n;unfold ctys;split<;>rfl
  exact List.all_eq_true.1 (this n) t h
noncomputable def tyOf:TypeId→Option Ty
 |1=>some (.fn)
 |2=>some (.int .i64)
 |3=>some (.int .i64)
 |4=>some (.bool)
 |5=>some (.int .u8)
 |6=>some (.int .u8)
 |9=>some (.str)
 |10=>some (.str)
 |11=>some (.str)
 |12=>some (.int .u64)
 |21=>some (.int .i32)
 |22=>some (.fn)
 |23=>some (.slc (.st 62))
 |24=>some (.slc (.str))
 |25=>some (.slc (.st 46))
 |27=>some (.st 27)
 |28=>some (.int .i64)
 |30=>some (.st 30)
 |32=>some (.fn)
 |33=>some (.slc (.st 37))
 |35=>some (.fn)
 |37=>some (.st 37)
 |38=>some (.fn)
 |39=>some (.fn)
 |40=>some (.fn)
 |41=>some (.fn)
 |42=>some (.fn)
 |43=>some (.fn)
 |44=>some (.slc (.st 52))
 |46=>some (.st 46)
 |47=>some (.fn)
 |48=>some (.slc (.st 50))
 |50=>some (.st 50)
 |52=>some (.st 52)
 |53=>some (.fn)
 |55=>some (.fn)
 |56=>some (.fn)
 |57=>some (.fn)
 |58=>some (.slc (.int .i64))
 |59=>some (.fn)
 |60=>some (.fn)
 |62=>some (.st 62)
 |64=>some (.st 64)
 |68=>some (.fn)
 |69=>some (.slc (.st 77))
 |71=>some (.fn)
 |72=>some (.fn)
 |74=>some (.fn)
 |75=>some (.fn)
 |77=>some (.st 77)
 |79=>some (.fn)
 |80=>some (.fn)
 |81=>some (.fn)
 |82=>some (.fn)
 |83=>some (.fn)
 |84=>some (.fn)
 |85=>some (.fn)
 |86=>some (.fn)
 |87=>some (.fn)
 |90=>some (.fn)
 |91=>some (.fn)
 |92=>some (.fn)
 |96=>some (.fn)
 |97=>some (.fn)
 |99=>some (.map (.int .i64) (.st 138))
 |100=>some (.fn)
 |102=>some (.slc (.int .u8))
 |107=>some (.fn)
 |108=>some (.fn)
 |109=>some (.fn)
 |110=>some (.fn)
 |111=>some (.fn)
 |112=>some (.fn)
 |113=>some (.fn)
 |114=>some (.fn)
 |116=>some (.fn)
 |118=>some (.fn)
 |119=>some (.fn)
 |120=>some (.fn)
 |122=>some (.fn)
 |123=>some (.fn)
 |124=>some (.fn)
 |125=>some (.fn)
 |126=>some (.fn)
 |127=>some (.fn)
 |128=>some (.fn)
 |129=>some (.fn)
 |130=>some (.fn)
 |131=>some (.fn)
 |132=>some (.fn)
 |133=>some (.fn)
 |134=>some (.int .u64)
 |135=>some (.fn)
 |136=>some (.fn)
 |138=>some (.st 138)
 |140=>some (.err)
 |142=>some (.fn)
 |143=>some (.fn)
 |145=>some (.fn)
 |146=>some (.fn)
 |147=>some (.fn)
 |148=>some (.fn)
 |150=>some (.fn)
 |151=>some (.fn)
 |152=>some (.fn)
 |154=>some (.st 154)
 |156=>some (.map (.int .i64) (.st 154))
 |157=>some (.fn)
 |158=>some (.fn)
 |159=>some (.fn)
 |160=>some (.fn)
 |161=>some (.int .u64)
 |163=>some (.fn)
 |164=>some (.fn)
 |165=>some (.fn)
 |166=>some (.fn)
 |167=>some (.fn)
 |172=>some (.fn)
 |173=>some (.fn)
 |177=>some (.fn)
 |178=>some (.fn)
 |180=>some (.fn)
 |182=>some (.fn)
 |183=>some (.int .u32)
 |185=>some (.fn)
 |187=>some (.fn)
 |189=>some (.fn)
 |190=>some (.fn)
 |192=>some (.fn)
 |193=>some (.slc (.map (.str) (.int .i64)))
 |194=>some (.fn)
 |195=>some (.fn)
 |196=>some (.map (.str) (.int .i64))
 |197=>some (.fn)
 |198=>some (.fn)
 |199=>some (.int .i64)
 |201=>some (.fn)
 |203=>some (.fn)
 |204=>some (.fn)
 |206=>some (.fn)
 |207=>some (.fn)
 |208=>some (.fn)
 |211=>some (.fn)
 |212=>some (.map (.int .i64) (.str))
 |213=>some (.fn)
 |214=>some (.fn)
 |215=>some (.fn)
 |217=>some (.fn)
 |220=>some (.fn)
 |222=>some (.fn)
 |223=>some (.fn)
 |224=>some (.fn)
 |225=>some (.fn)
 |236=>some (.int .u8)
 |237=>some (.int .u8)
 |238=>some (.fn)
 |239=>some (.int .i32)
 |240=>some (.int .i32)
 |_=>none
noncomputable def eqOf (T:TypeId) (n:Nat):Option (U n→U n→Bool):=match n with
 |30=>bif Nat.beq T 30 then some fun (a b:Fault)=>decide (a=b) else none
 |37=>bif Nat.beq T 37 then some fun (a b:Token)=>decide (a=b) else none
 |62=>bif Nat.beq T 62 then some fun (a b:TCell)=>decide (a=b) else none
 |64=>bif Nat.beq T 64 then some fun (a b:Wrong)=>decide (a=b) else none
 |77=>bif Nat.beq T 77 then some fun (a b:Spot)=>decide (a=b) else none
 |138=>bif Nat.beq T 138 then some fun (a b:Oper)=>decide (a=b) else none
 |154=>bif Nat.beq T 154 then some fun (a b:Shape)=>decide (a=b) else none
 |_=>none
noncomputable def deepOf:TypeId→Option Ty
 |23=>some (.own 62 (.st 62))
 |24=>some (.own 9 (.str))
 |25=>some (.own 46 (.st 1046))
 |27=>some (.st 1027)
 |33=>some (.own 37 (.st 37))
 |44=>some (.own 52 (.st 1052))
 |46=>some (.st 1046)
 |48=>some (.own 50 (.st 1050))
 |50=>some (.st 1050)
 |52=>some (.st 1052)
 |58=>some (.own 3 (.int .i64))
 |69=>some (.own 77 (.st 77))
 |102=>some (.own 5 (.int .u8))
 |193=>some (.own 196 (.map (.str) (.int .i64)))
 |_=>none
@[reducible] noncomputable def kk:Kit:={ P:=Tryz.prog,u:=uni,tyOf,eqOf,modes:=fun _=>[],deepOf }
theorem eqOk:EqOk kk:=by
 refine zau9 fun T n f h=>?_
 change eqOf T n=some f at h
 change zagt Tryz.prog T (ctys n)=true∧∀ a b:U n,f a b=zabw (cells n a) (cells n b)
 unfold eqOf at h;split at h
 ·cases hb:Nat.beq T 30 with
  |true=>
   rw[hb] at h;cases Nat.eq_of_beq_eq_true hb;cases h;refine ⟨by kernel_rfl,?_⟩;rintro ⟨a0,a1,a2⟩ ⟨b0,b1,b2⟩
   simp[cells,zabw,zac7,cond_eq_ite,Bool.decide_and]
  |false=>rw[hb] at h; cases h
 ·cases hb:Nat.beq T 37 with
  |true=>
   rw[hb] at h;cases Nat.eq_of_beq_eq_true hb;cases h;refine ⟨by kernel_rfl,?_⟩;rintro ⟨a0,a1,a2,a3⟩ ⟨b0,b1,b2,b3⟩
   simp[cells,zabw,zac7,cond_eq_ite,Bool.decide_and]
  |false=>rw[hb] at h; cases h
 ·cases hb:Nat.beq T 62 with
  |true=>
   rw[hb] at h;cases Nat.eq_of_beq_eq_true hb;cases h;refine ⟨by kernel_rfl,?_⟩;rintro ⟨a0,a1⟩ ⟨b0,b1⟩
   simp[cells,zabw,zac7,cond_eq_ite,Bool.decide_and]
  |false=>rw[hb] at h; cases h
 ·cases hb:Nat.beq T 64 with
  |true=>
   rw[hb] at h;cases Nat.eq_of_beq_eq_true hb;cases h;refine ⟨by kernel_rfl,?_⟩;rintro ⟨a0⟩ ⟨b0⟩
   simp[cells,zabw,zac7,cond_eq_ite,Bool.decide_and]
  |false=>rw[hb] at h; cases h
 ·cases hb:Nat.beq T 77 with
  |true=>
   rw[hb] at h;cases Nat.eq_of_beq_eq_true hb;cases h;refine ⟨by kernel_rfl,?_⟩;rintro ⟨a0,a1,a2,a3⟩ ⟨b0,b1,b2,b3⟩
   simp[cells,zabw,zac7,cond_eq_ite,Bool.decide_and]
  |false=>rw[hb] at h; cases h
 ·cases hb:Nat.beq T 138 with
  |true=>
   rw[hb] at h;cases Nat.eq_of_beq_eq_true hb;cases h;refine ⟨by kernel_rfl,?_⟩;rintro ⟨a0,a1,a2,a3⟩ ⟨b0,b1,b2,b3⟩
   simp[cells,zabw,zac7,cond_eq_ite,Bool.decide_and]
  |false=>rw[hb] at h; cases h
 ·cases hb:Nat.beq T 154 with
  |true=>
   rw[hb] at h;cases Nat.eq_of_beq_eq_true hb;cases h;refine ⟨by kernel_rfl,?_⟩;rintro ⟨a0,a1,a2,a3,a4,a5⟩ ⟨b0,b1,b2,b3,b4,b5⟩
   simp[cells,zabw,zac7,cond_eq_ite,Bool.decide_and]
  |false=>rw[hb] at h; cases h
 ·cases h
theorem mixed:kk.P.follows .mixedOrders=true:=by kernel_rfl
end Lift.Q4
namespace Lift.Q4
noncomputable section
open Go Go.RowKit Go.Proofs Lift Lift.Fn
def strings_Join_md:Mode U:=⟨⟨⟨[0,1],[],[]⟩,[.t (.slc .str),.t (.str)],[]⟩,[],[⟨⟨[0],[],[]⟩,[.t (.str)],[]⟩],fun ls=>match ls with|[⟨.slc .str,a0⟩,⟨.str,a1⟩]=>.get (strings_Join a0 a1) (fun r=>.ret (0,[⟨.str,r⟩]))|_=>.fail⟩
def strings_Contains_md:Mode U:=⟨⟨⟨[0,1],[],[]⟩,[.t (.str),.t (.str)],[]⟩,[],[⟨⟨[0],[],[]⟩,[.t (.bool)],[]⟩],fun ls=>match ls with|[⟨.str,a0⟩,⟨.str,a1⟩]=>.get (strings_Contains a0 a1) (fun r=>.ret (0,[⟨.bool,r⟩]))|_=>.fail⟩
def unicode_utf8_DecodeRuneInString_md:Mode U:=⟨⟨⟨[0],[],[]⟩,[.t (.str)],[]⟩,[],[⟨⟨[0,1],[],[]⟩,[.t (.int .i32),.t (.int .i64)],[]⟩],fun ls=>match ls with|[⟨.str,a0⟩]=>.get (zaa6 a0) (fun r=>.ret (0,[⟨.int .i32,r.1⟩,⟨.int .i64,r.2⟩]))|_=>.fail⟩
def unicode_utf8_RuneCountInString_md:Mode U:=⟨⟨⟨[0],[],[]⟩,[.t (.str)],[]⟩,[],[⟨⟨[0],[],[]⟩,[.t (.int .i64)],[]⟩],fun ls=>match ls with|[⟨.str,a0⟩]=>.get (zaba a0) (fun r=>.ret (0,[⟨.int .i64,r⟩]))|_=>.fail⟩
def strings_Trim_md:Mode U:=⟨⟨⟨[0,1],[],[]⟩,[.t (.str),.t (.str)],[]⟩,[],[⟨⟨[0],[],[]⟩,[.t (.str)],[]⟩],fun ls=>match ls with|[⟨.str,a0⟩,⟨.str,a1⟩]=>.get (zac9 a0 a1) (fun r=>.ret (0,[⟨.str,r⟩]))|_=>.fail⟩
def strings_Repeat_md:Mode U:=⟨⟨⟨[0,1],[],[]⟩,[.t (.str),.t (.int .i64)],[]⟩,[],[⟨⟨[0],[],[]⟩,[.t (.str)],[]⟩],fun ls=>match ls with|[⟨.str,a0⟩,⟨.int .i64,a1⟩]=>.get (strings_Repeat a0 a1) (fun r=>.ret (0,[⟨.str,r⟩]))|_=>.fail⟩
def strconv_Atoi_md:Mode U:=⟨⟨⟨[0],[],[]⟩,[.t (.str)],[]⟩,[],[⟨⟨[0,1],[],[]⟩,[.t (.int .i64),.t (.err)],[]⟩],fun ls=>match ls with|[⟨.str,a0⟩]=>.get (zadc a0) (fun r=>.ret (0,[⟨.int .i64,r.1⟩,⟨.err,r.2⟩]))|_=>.fail⟩
def strconv_ItoaW_md:Mode U:=⟨⟨⟨[0],[],[]⟩,[.t (.int .i64)],[]⟩,[],[⟨⟨[0],[],[]⟩,[.t (.str)],[]⟩],fun ls=>match ls with|[⟨.int .i64,a0⟩]=>.get (zabo a0) (fun r=>.ret (0,[⟨.str,r⟩]))|_=>.fail⟩
def strings_Builder_copyCheck_md:Mode U:=⟨⟨⟨[0],[100000],[⟨.cell 100000 1,200001,5,.int .u8⟩]⟩,[.ptr 100000 0],[.blk 106 [.selfp 100000,.oslc 200001,.t (.map (.int .i64) (.st 138))],.row 5 (.int .u8)]⟩,[⟨100000,.slot 0,[]⟩],[⟨⟨[],[100000],[⟨.cell 100000 1,200001,5,.int .u8⟩]⟩,[],[.blk 106 [.selfp 100000,.oslc 200001,.t (.map (.int .i64) (.st 138))],.row 5 (.int .u8)]⟩],fun ls=>match ls with|[⟨.map (.int .i64) (.st 138),x⟩,⟨.slc (.int .u8),l⟩]=>.ret (0,[⟨.map (.int .i64) (.st 138),x⟩,⟨.slc (.int .u8),l⟩])|_=>.fail⟩
def strings_Builder_String_md:Mode U:=⟨⟨⟨[0],[100000],[⟨.cell 100000 1,200001,5,.int .u8⟩]⟩,[.ptr 100000 0],[.blk 106 [.selfp 100000,.oslc 200001,.t (.map (.int .i64) (.st 138))],.row 5 (.int .u8)]⟩,[⟨100000,.slot 0,[]⟩],[⟨⟨[0],[],[]⟩,[.t .str],[]⟩],fun ls=>match ls with|[⟨.map (.int .i64) (.st 138),x⟩,⟨.slc (.int .u8),l⟩]=>.get (zabg l) (fun r=>.ret (0,[⟨.str,r⟩]))|_=>.fail⟩
def ms0:List (FuncId×Mode U):=[]
def ms1:List (FuncId×Mode U):=(110,strings_Join_md)::ms0
def ms2:List (FuncId×Mode U):=(120,strings_Contains_md)::ms1
def ms3:List (FuncId×Mode U):=(70,unicode_utf8_DecodeRuneInString_md)::ms2
def ms4:List (FuncId×Mode U):=(78,unicode_utf8_RuneCountInString_md)::ms3
def ms5:List (FuncId×Mode U):=(121,strings_Trim_md)::ms4
def ms6:List (FuncId×Mode U):=(109,strings_Repeat_md)::ms5
def ms7:List (FuncId×Mode U):=(122,strconv_Atoi_md)::ms6
def ms8:List (FuncId×Mode U):=(56,strconv_ItoaW_md)::ms7
def ms9:List (FuncId×Mode U):=(141,strings_Builder_copyCheck_md)::ms8
def ms10:List (FuncId×Mode U):=(59,strings_Builder_String_md)::ms9
end
end Lift.Q4
namespace Go.Proofs
open Go.Shelf Go.RowKit
def Tryz.laysJoin_ren:Go.Shelf.Ren:=⟨fun|156=>110|165=>144|166=>108|169=>59|240=>141|241=>169|276=>165|277=>192|n=>n,fun|31=>24|9=>9|3=>3|4=>4|0=>0|20=>20|72=>104|76=>141|70=>101|37=>102|75=>140|127=>144|164=>181|5=>5|80=>110|n=>n,fun|n=>n⟩
theorem Tryz.laysJoin:Go.Proofs.Lays.n156 Tryz.prog Tryz.laysJoin_ren where
 mixed:=by kernel_rfl
 f156:=Tryz.func110.trans (congrArg some (by kernel_rfl))
 f165:=Tryz.func144.trans (congrArg some (by kernel_rfl))
 f166:=Tryz.func108.trans (congrArg some (by kernel_rfl))
 f169:=Tryz.func59.trans (congrArg some (by kernel_rfl))
 f240:=Tryz.func141.trans (congrArg some (by kernel_rfl))
 f241:=Tryz.func169.trans (congrArg some (by kernel_rfl))
 f276:=Tryz.func165.trans (congrArg some (by kernel_rfl))
 f277:=Tryz.func192.trans (congrArg some (by kernel_rfl))
 t0:=Tryz.underlying0
 a0:=Tryz.isAgg0
 z0:=Tryz.sizeOf0
 v0:=Tryz.zeroValue0
 t3:=Tryz.underlying3
 a3:=Tryz.isAgg3
 z3:=Tryz.sizeOf3
 v3:=Tryz.zeroValue3
 t4:=Tryz.underlying4
 a4:=Tryz.isAgg4
 z4:=Tryz.sizeOf4
 v4:=Tryz.zeroValue4
 t9:=Tryz.underlying9
 a9:=Tryz.isAgg9
 z9:=Tryz.sizeOf9
 v9:=Tryz.zeroValue9
 t20:=Tryz.underlying20
 a20:=Tryz.isAgg20
 z20:=Tryz.sizeOf20
 v20:=Tryz.zeroValue20
 t31:=Tryz.underlying24
 a31:=Tryz.isAgg24
 z31:=Tryz.sizeOf24
 v31:=Tryz.zeroValue24
 t37:=Tryz.underlying102
 a37:=Tryz.isAgg102
 z37:=Tryz.sizeOf102
 v37:=Tryz.zeroValue102
 t70:=Tryz.underlying101
 a70:=Tryz.isAgg101
 z70:=Tryz.sizeOf101
 v70:=Tryz.zeroValue101
 t72:=Tryz.underlying104
 a72:=Tryz.isAgg104
 z72:=Tryz.sizeOf104
 v72:=Tryz.zeroValue104
 t75:=Tryz.underlying140
 a75:=Tryz.isAgg140
 z75:=Tryz.sizeOf140
 v75:=Tryz.zeroValue140
 t76:=Tryz.underlying141
 a76:=Tryz.isAgg141
 z76:=Tryz.sizeOf141
 v76:=Tryz.zeroValue141
 t127:=Tryz.underlying144
 a127:=Tryz.isAgg144
 z127:=Tryz.sizeOf144
 v127:=Tryz.zeroValue144
 t164:=Tryz.underlying181
 a164:=Tryz.isAgg181
 z164:=Tryz.sizeOf181
 v164:=Tryz.zeroValue181
def Tryz.laysContains_ren:Go.Shelf.Ren:=⟨fun|144=>120|143=>150|219=>178|217=>199|225=>200|224=>201|267=>202|266=>211|314=>212|n=>n,fun|9=>9|4=>4|3=>3|5=>5|46=>161|146=>184|51=>183|n=>n,fun|1=>3|n=>n⟩
theorem Tryz.laysContains:Go.Proofs.LaysM.n144 Tryz.prog Tryz.laysContains_ren where
 mixed:=by kernel_rfl
 f143:=Tryz.func150.trans (congrArg some (by kernel_rfl))
 f144:=Tryz.func120.trans (congrArg some (by kernel_rfl))
 f217:=Tryz.func199.trans (congrArg some (by kernel_rfl))
 f219:=Tryz.func178.trans (congrArg some (by kernel_rfl))
 f224:=Tryz.func201.trans (congrArg some (by kernel_rfl))
 f225:=Tryz.func200.trans (congrArg some (by kernel_rfl))
 f266:=Tryz.func211.trans (congrArg some (by kernel_rfl))
 f267:=Tryz.func202.trans (congrArg some (by kernel_rfl))
 f314:=Tryz.func212.trans (congrArg some (by kernel_rfl))
 t3:=Tryz.underlying3
 a3:=Tryz.isAgg3
 z3:=Tryz.sizeOf3
 v3:=Tryz.zeroValue3
 t4:=Tryz.underlying4
 a4:=Tryz.isAgg4
 z4:=Tryz.sizeOf4
 v4:=Tryz.zeroValue4
 t5:=Tryz.underlying5
 a5:=Tryz.isAgg5
 z5:=Tryz.sizeOf5
 v5:=Tryz.zeroValue5
 t9:=Tryz.underlying9
 a9:=Tryz.isAgg9
 z9:=Tryz.sizeOf9
 v9:=Tryz.zeroValue9
 t46:=Tryz.underlying161
 a46:=Tryz.isAgg161
 z46:=Tryz.sizeOf161
 v46:=Tryz.zeroValue161
 t51:=Tryz.underlying183
 a51:=Tryz.isAgg183
 z51:=Tryz.sizeOf183
 v51:=Tryz.zeroValue183
 t146:=Tryz.underlying184
 a146:=Tryz.isAgg184
 z146:=Tryz.sizeOf184
 v146:=Tryz.zeroValue184
 g1:=by kernel_rfl
 i3:=by kernel_rfl
 i4:=by kernel_rfl
 i5:=by kernel_rfl
 i9:=by kernel_rfl
 i46:=by kernel_rfl
 i51:=by kernel_rfl
 i146:=by kernel_rfl
 m1:=by kernel_rfl
 s1_3:=fun w h=>Go.Proofs.cell_of_shapedOpen_int (zero:=#[.int .i64 0]) (t:=3) h (of_decide_eq_true (by kernel_rfl)) (by kernel_rfl) rfl (by kernel_rfl) (by kernel_rfl) Tryz.underlying3
def Tryz.laysDecode_ren:Go.Shelf.Ren:=⟨fun|197=>70|260=>118|n=>n,fun|9=>9|21=>21|3=>3|4=>4|5=>5|105=>117|119=>168|0=>0|46=>161|139=>171|138=>170|n=>n,fun|3=>0|4=>1|n=>n⟩
theorem Tryz.laysDecode:Go.Proofs.Lays.n197 Tryz.prog Tryz.laysDecode_ren where
 mixed:=by kernel_rfl
 f197:=Tryz.func70.trans (congrArg some (by kernel_rfl))
 f260:=Tryz.func118.trans (congrArg some (by kernel_rfl))
 t0:=Tryz.underlying0
 a0:=Tryz.isAgg0
 z0:=Tryz.sizeOf0
 v0:=Tryz.zeroValue0
 t3:=Tryz.underlying3
 a3:=Tryz.isAgg3
 z3:=Tryz.sizeOf3
 v3:=Tryz.zeroValue3
 t4:=Tryz.underlying4
 a4:=Tryz.isAgg4
 z4:=Tryz.sizeOf4
 v4:=Tryz.zeroValue4
 t5:=Tryz.underlying5
 a5:=Tryz.isAgg5
 z5:=Tryz.sizeOf5
 v5:=Tryz.zeroValue5
 t9:=Tryz.underlying9
 a9:=Tryz.isAgg9
 z9:=Tryz.sizeOf9
 v9:=Tryz.zeroValue9
 t21:=Tryz.underlying21
 a21:=Tryz.isAgg21
 z21:=Tryz.sizeOf21
 v21:=Tryz.zeroValue21
 t46:=Tryz.underlying161
 a46:=Tryz.isAgg161
 z46:=Tryz.sizeOf161
 v46:=Tryz.zeroValue161
 t105:=Tryz.underlying117
 a105:=Tryz.isAgg117
 z105:=Tryz.sizeOf117
 v105:=Tryz.zeroValue117
 t119:=Tryz.underlying168
 a119:=Tryz.isAgg168
 z119:=Tryz.sizeOf168
 t138:=Tryz.underlying170
 a138:=Tryz.isAgg170
 z138:=Tryz.sizeOf170
 v138:=Tryz.zeroValue170
 t139:=Tryz.underlying171
 a139:=Tryz.isAgg171
 z139:=Tryz.sizeOf171
 v139:=Tryz.zeroValue171
 g3:=by kernel_rfl
 g4:=by kernel_rfl
def Tryz.laysCount_ren:Go.Shelf.Ren:=⟨fun|195=>78|n=>n,fun|9=>9|3=>3|0=>0|4=>4|n=>n,fun|n=>n⟩
theorem Tryz.laysCount:Go.Proofs.Lays.n195 Tryz.prog Tryz.laysCount_ren where
 mixed:=by kernel_rfl
 f195:=Tryz.func78.trans (congrArg some (by kernel_rfl))
 t0:=Tryz.underlying0
 a0:=Tryz.isAgg0
 z0:=Tryz.sizeOf0
 v0:=Tryz.zeroValue0
 t3:=Tryz.underlying3
 a3:=Tryz.isAgg3
 z3:=Tryz.sizeOf3
 v3:=Tryz.zeroValue3
 t4:=Tryz.underlying4
 a4:=Tryz.isAgg4
 z4:=Tryz.sizeOf4
 v4:=Tryz.zeroValue4
 t9:=Tryz.underlying9
 a9:=Tryz.isAgg9
 z9:=Tryz.sizeOf9
 v9:=Tryz.zeroValue9
def Tryz.laysTrim_ren:Go.Shelf.Ren:=⟨fun|160=>121|232=>152|231=>151|227=>153|234=>155|233=>154|236=>157|235=>156|228=>179|271=>181|151=>180|197=>70|120=>204|152=>203|260=>118|137=>213|119=>177|224=>201|225=>200|217=>199|266=>211|n=>n,fun|9=>9|4=>4|3=>3|5=>5|117=>176|116=>175|0=>0|124=>179|21=>21|105=>117|46=>161|119=>168|139=>171|138=>170|n=>n,fun|3=>0|4=>1|n=>n⟩
theorem Tryz.laysTrim:Go.Proofs.Lays.n160 Tryz.prog Tryz.laysTrim_ren where
 mixed:=by kernel_rfl
 f119:=Tryz.func177.trans (congrArg some (by kernel_rfl))
 f120:=Tryz.func204.trans (congrArg some (by kernel_rfl))
 f137:=Tryz.func213.trans (congrArg some (by kernel_rfl))
 f151:=Tryz.func180.trans (congrArg some (by kernel_rfl))
 f152:=Tryz.func203.trans (congrArg some (by kernel_rfl))
 f160:=Tryz.func121.trans (congrArg some (by kernel_rfl))
 f197:=Tryz.func70.trans (congrArg some (by kernel_rfl))
 f217:=Tryz.func199.trans (congrArg some (by kernel_rfl))
 f224:=Tryz.func201.trans (congrArg some (by kernel_rfl))
 f225:=Tryz.func200.trans (congrArg some (by kernel_rfl))
 f227:=Tryz.func153.trans (congrArg some (by kernel_rfl))
 f228:=Tryz.func179.trans (congrArg some (by kernel_rfl))
 f231:=Tryz.func151.trans (congrArg some (by kernel_rfl))
 f232:=Tryz.func152.trans (congrArg some (by kernel_rfl))
 f233:=Tryz.func154.trans (congrArg some (by kernel_rfl))
 f234:=Tryz.func155.trans (congrArg some (by kernel_rfl))
 f235:=Tryz.func156.trans (congrArg some (by kernel_rfl))
 f236:=Tryz.func157.trans (congrArg some (by kernel_rfl))
 f260:=Tryz.func118.trans (congrArg some (by kernel_rfl))
 f266:=Tryz.func211.trans (congrArg some (by kernel_rfl))
 f271:=Tryz.func181.trans (congrArg some (by kernel_rfl))
 t0:=Tryz.underlying0
 a0:=Tryz.isAgg0
 z0:=Tryz.sizeOf0
 v0:=Tryz.zeroValue0
 t3:=Tryz.underlying3
 a3:=Tryz.isAgg3
 z3:=Tryz.sizeOf3
 v3:=Tryz.zeroValue3
 t4:=Tryz.underlying4
 a4:=Tryz.isAgg4
 z4:=Tryz.sizeOf4
 v4:=Tryz.zeroValue4
 t5:=Tryz.underlying5
 a5:=Tryz.isAgg5
 z5:=Tryz.sizeOf5
 v5:=Tryz.zeroValue5
 t9:=Tryz.underlying9
 a9:=Tryz.isAgg9
 z9:=Tryz.sizeOf9
 v9:=Tryz.zeroValue9
 t21:=Tryz.underlying21
 a21:=Tryz.isAgg21
 z21:=Tryz.sizeOf21
 v21:=Tryz.zeroValue21
 t46:=Tryz.underlying161
 a46:=Tryz.isAgg161
 z46:=Tryz.sizeOf161
 v46:=Tryz.zeroValue161
 t105:=Tryz.underlying117
 a105:=Tryz.isAgg117
 z105:=Tryz.sizeOf117
 v105:=Tryz.zeroValue117
 t116:=Tryz.underlying175
 a116:=Tryz.isAgg175
 z116:=Tryz.sizeOf175
 t117:=Tryz.underlying176
 a117:=Tryz.isAgg176
 z117:=Tryz.sizeOf176
 v117:=Tryz.zeroValue176
 t119:=Tryz.underlying168
 a119:=Tryz.isAgg168
 z119:=Tryz.sizeOf168
 t124:=Tryz.underlying179
 a124:=Tryz.isAgg179
 z124:=Tryz.sizeOf179
 v124:=Tryz.zeroValue179
 t138:=Tryz.underlying170
 a138:=Tryz.isAgg170
 z138:=Tryz.sizeOf170
 v138:=Tryz.zeroValue170
 t139:=Tryz.underlying171
 a139:=Tryz.isAgg171
 z139:=Tryz.sizeOf171
 v139:=Tryz.zeroValue171
 g3:=by kernel_rfl
 g4:=by kernel_rfl
def Tryz.laysRepeat_ren:Go.Shelf.Ren:=⟨fun|105=>109|212=>142|99=>143|165=>144|166=>108|170=>58|169=>59|263=>166|264=>167|206=>168|240=>141|241=>169|276=>165|277=>192|n=>n,fun|9=>9|3=>3|4=>4|20=>20|0=>0|46=>161|109=>162|5=>5|72=>104|76=>141|51=>183|146=>184|53=>134|148=>186|70=>101|37=>102|75=>140|127=>144|164=>181|80=>110|n=>n,fun|n=>n⟩
theorem Tryz.laysRepeat:Go.Proofs.Lays.n105 Tryz.prog Tryz.laysRepeat_ren where
 mixed:=by kernel_rfl
 f99:=Tryz.func143.trans (congrArg some (by kernel_rfl))
 f105:=Tryz.func109.trans (congrArg some (by kernel_rfl))
 f165:=Tryz.func144.trans (congrArg some (by kernel_rfl))
 f166:=Tryz.func108.trans (congrArg some (by kernel_rfl))
 f169:=Tryz.func59.trans (congrArg some (by kernel_rfl))
 f170:=Tryz.func58.trans (congrArg some (by kernel_rfl))
 f206:=Tryz.func168.trans (congrArg some (by kernel_rfl))
 f212:=Tryz.func142.trans (congrArg some (by kernel_rfl))
 f240:=Tryz.func141.trans (congrArg some (by kernel_rfl))
 f241:=Tryz.func169.trans (congrArg some (by kernel_rfl))
 f263:=Tryz.func166.trans (congrArg some (by kernel_rfl))
 f264:=Tryz.func167.trans (congrArg some (by kernel_rfl))
 f276:=Tryz.func165.trans (congrArg some (by kernel_rfl))
 f277:=Tryz.func192.trans (congrArg some (by kernel_rfl))
 t0:=Tryz.underlying0
 a0:=Tryz.isAgg0
 z0:=Tryz.sizeOf0
 v0:=Tryz.zeroValue0
 t3:=Tryz.underlying3
 a3:=Tryz.isAgg3
 z3:=Tryz.sizeOf3
 v3:=Tryz.zeroValue3
 t4:=Tryz.underlying4
 a4:=Tryz.isAgg4
 z4:=Tryz.sizeOf4
 v4:=Tryz.zeroValue4
 t5:=Tryz.underlying5
 a5:=Tryz.isAgg5
 z5:=Tryz.sizeOf5
 v5:=Tryz.zeroValue5
 t9:=Tryz.underlying9
 a9:=Tryz.isAgg9
 z9:=Tryz.sizeOf9
 v9:=Tryz.zeroValue9
 t20:=Tryz.underlying20
 a20:=Tryz.isAgg20
 z20:=Tryz.sizeOf20
 v20:=Tryz.zeroValue20
 t37:=Tryz.underlying102
 a37:=Tryz.isAgg102
 z37:=Tryz.sizeOf102
 v37:=Tryz.zeroValue102
 t46:=Tryz.underlying161
 a46:=Tryz.isAgg161
 z46:=Tryz.sizeOf161
 v46:=Tryz.zeroValue161
 t51:=Tryz.underlying183
 a51:=Tryz.isAgg183
 z51:=Tryz.sizeOf183
 v51:=Tryz.zeroValue183
 t53:=Tryz.underlying134
 a53:=Tryz.isAgg134
 z53:=Tryz.sizeOf134
 v53:=Tryz.zeroValue134
 t70:=Tryz.underlying101
 a70:=Tryz.isAgg101
 z70:=Tryz.sizeOf101
 v70:=Tryz.zeroValue101
 t72:=Tryz.underlying104
 a72:=Tryz.isAgg104
 z72:=Tryz.sizeOf104
 v72:=Tryz.zeroValue104
 t75:=Tryz.underlying140
 a75:=Tryz.isAgg140
 z75:=Tryz.sizeOf140
 v75:=Tryz.zeroValue140
 t76:=Tryz.underlying141
 a76:=Tryz.isAgg141
 z76:=Tryz.sizeOf141
 v76:=Tryz.zeroValue141
 t109:=Tryz.underlying162
 a109:=Tryz.isAgg162
 z109:=Tryz.sizeOf162
 v109:=Tryz.zeroValue162
 t127:=Tryz.underlying144
 a127:=Tryz.isAgg144
 z127:=Tryz.sizeOf144
 v127:=Tryz.zeroValue144
 t146:=Tryz.underlying184
 a146:=Tryz.isAgg184
 z146:=Tryz.sizeOf184
 v146:=Tryz.zeroValue184
 t148:=Tryz.underlying186
 a148:=Tryz.isAgg186
 z148:=Tryz.sizeOf186
 v148:=Tryz.zeroValue186
 t164:=Tryz.underlying181
 a164:=Tryz.isAgg181
 z164:=Tryz.sizeOf181
 v164:=Tryz.zeroValue181
def Tryz.laysAtoi_ren:Go.Shelf.Ren:=⟨fun|172=>122|244=>158|245=>159|247=>182|279=>183|280=>184|281=>185|282=>186|287=>205|316=>206|171=>56|205=>207|321=>214|322=>215|243=>111|246=>145|283=>170|284=>171|285=>172|286=>173|129=>194|317=>193|318=>195|319=>196|320=>197|337=>209|338=>210|n=>n,fun|9=>9|3=>3|75=>140|76=>141|4=>4|5=>5|167=>199|37=>102|0=>0|85=>200|2=>2|168=>202|53=>134|175=>216|46=>161|210=>219|127=>144|145=>228|143=>226|21=>21|171=>188|173=>191|212=>209|51=>183|20=>20|213=>210|232=>229|233=>230|80=>110|n=>n,fun|15=>4|16=>5|17=>2|18=>6|19=>7|n=>n⟩
theorem Tryz.laysAtoi:Go.Proofs.LaysC.n172 Tryz.prog Tryz.laysAtoi_ren where
 mixed:=by kernel_rfl
 f129:=Tryz.func194.trans (congrArg some (by kernel_rfl))
 f171:=Tryz.func56.trans (congrArg some (by kernel_rfl))
 f172:=Tryz.func122.trans (congrArg some (by kernel_rfl))
 f205:=Tryz.func207.trans (congrArg some (by kernel_rfl))
 f243:=Tryz.func111.trans (congrArg some (by kernel_rfl))
 f244:=Tryz.func158.trans (congrArg some (by kernel_rfl))
 f245:=Tryz.func159.trans (congrArg some (by kernel_rfl))
 f246:=Tryz.func145.trans (congrArg some (by kernel_rfl))
 f247:=Tryz.func182.trans (congrArg some (by kernel_rfl))
 f279:=Tryz.func183.trans (congrArg some (by kernel_rfl))
 f280:=Tryz.func184.trans (congrArg some (by kernel_rfl))
 f281:=Tryz.func185.trans (congrArg some (by kernel_rfl))
 f282:=Tryz.func186.trans (congrArg some (by kernel_rfl))
 f283:=Tryz.func170.trans (congrArg some (by kernel_rfl))
 f284:=Tryz.func171.trans (congrArg some (by kernel_rfl))
 f285:=Tryz.func172.trans (congrArg some (by kernel_rfl))
 f286:=Tryz.func173.trans (congrArg some (by kernel_rfl))
 f287:=Tryz.func205.trans (congrArg some (by kernel_rfl))
 f316:=Tryz.func206.trans (congrArg some (by kernel_rfl))
 f317:=Tryz.func193.trans (congrArg some (by kernel_rfl))
 f318:=Tryz.func195.trans (congrArg some (by kernel_rfl))
 f319:=Tryz.func196.trans (congrArg some (by kernel_rfl))
 f320:=Tryz.func197.trans (congrArg some (by kernel_rfl))
 f321:=Tryz.func214.trans (congrArg some (by kernel_rfl))
 f322:=Tryz.func215.trans (congrArg some (by kernel_rfl))
 f337:=Tryz.func209.trans (congrArg some (by kernel_rfl))
 f338:=Tryz.func210.trans (congrArg some (by kernel_rfl))
 t0:=Tryz.underlying0
 a0:=Tryz.isAgg0
 z0:=Tryz.sizeOf0
 v0:=Tryz.zeroValue0
 t2:=Tryz.underlying2
 a2:=Tryz.isAgg2
 z2:=Tryz.sizeOf2
 v2:=Tryz.zeroValue2
 t3:=Tryz.underlying3
 a3:=Tryz.isAgg3
 z3:=Tryz.sizeOf3
 v3:=Tryz.zeroValue3
 t4:=Tryz.underlying4
 a4:=Tryz.isAgg4
 z4:=Tryz.sizeOf4
 v4:=Tryz.zeroValue4
 t5:=Tryz.underlying5
 a5:=Tryz.isAgg5
 z5:=Tryz.sizeOf5
 v5:=Tryz.zeroValue5
 t9:=Tryz.underlying9
 a9:=Tryz.isAgg9
 z9:=Tryz.sizeOf9
 v9:=Tryz.zeroValue9
 t20:=Tryz.underlying20
 a20:=Tryz.isAgg20
 z20:=Tryz.sizeOf20
 v20:=Tryz.zeroValue20
 t21:=Tryz.underlying21
 a21:=Tryz.isAgg21
 z21:=Tryz.sizeOf21
 v21:=Tryz.zeroValue21
 t37:=Tryz.underlying102
 a37:=Tryz.isAgg102
 z37:=Tryz.sizeOf102
 v37:=Tryz.zeroValue102
 t46:=Tryz.underlying161
 a46:=Tryz.isAgg161
 z46:=Tryz.sizeOf161
 v46:=Tryz.zeroValue161
 t51:=Tryz.underlying183
 a51:=Tryz.isAgg183
 z51:=Tryz.sizeOf183
 v51:=Tryz.zeroValue183
 t53:=Tryz.underlying134
 a53:=Tryz.isAgg134
 z53:=Tryz.sizeOf134
 v53:=Tryz.zeroValue134
 t75:=Tryz.underlying140
 a75:=Tryz.isAgg140
 z75:=Tryz.sizeOf140
 v75:=Tryz.zeroValue140
 t76:=Tryz.underlying141
 a76:=Tryz.isAgg141
 z76:=Tryz.sizeOf141
 v76:=Tryz.zeroValue141
 t85:=Tryz.underlying200
 a85:=Tryz.isAgg200
 z85:=Tryz.sizeOf200
 v85:=Tryz.zeroValue200
 t127:=Tryz.underlying144
 a127:=Tryz.isAgg144
 z127:=Tryz.sizeOf144
 v127:=Tryz.zeroValue144
 t143:=Tryz.underlying226
 a143:=Tryz.isAgg226
 z143:=Tryz.sizeOf226
 v143:=Tryz.zeroValue226
 t145:=Tryz.underlying228
 a145:=Tryz.isAgg228
 z145:=Tryz.sizeOf228
 v145:=Tryz.zeroValue228
 t167:=Tryz.underlying199
 a167:=Tryz.isAgg199
 z167:=Tryz.sizeOf199
 v167:=Tryz.zeroValue199
 t168:=Tryz.underlying202
 a168:=Tryz.isAgg202
 z168:=Tryz.sizeOf202
 v168:=Tryz.zeroValue202
 t171:=Tryz.underlying188
 a171:=Tryz.isAgg188
 z171:=Tryz.sizeOf188
 v171:=Tryz.zeroValue188
 t173:=Tryz.underlying191
 a173:=Tryz.isAgg191
 z173:=Tryz.sizeOf191
 v173:=Tryz.zeroValue191
 t175:=Tryz.underlying216
 a175:=Tryz.isAgg216
 z175:=Tryz.sizeOf216
 v175:=Tryz.zeroValue216
 t210:=Tryz.underlying219
 a210:=Tryz.isAgg219
 z210:=Tryz.sizeOf219
 v210:=Tryz.zeroValue219
 t212:=Tryz.underlying209
 a212:=Tryz.isAgg209
 z212:=Tryz.sizeOf209
 v212:=Tryz.zeroValue209
 t213:=Tryz.underlying210
 a213:=Tryz.isAgg210
 z213:=Tryz.sizeOf210
 t232:=Tryz.underlying229
 a232:=Tryz.isAgg229
 z232:=Tryz.sizeOf229
 v232:=Tryz.zeroValue229
 t233:=Tryz.underlying230
 a233:=Tryz.isAgg230
 z233:=Tryz.sizeOf230
 v233:=Tryz.zeroValue230
 g15:=by kernel_rfl
 g16:=by kernel_rfl
 g17:=by kernel_rfl
 g18:=by kernel_rfl
 g19:=by kernel_rfl
 t80:=Tryz.underlying110
 a80:=Tryz.isAgg110
 z80:=Tryz.sizeOf110
 v80:=Tryz.zeroValue110
 i0:=by kernel_rfl
 i2:=by kernel_rfl
 i3:=by kernel_rfl
 i4:=by kernel_rfl
 i5:=by kernel_rfl
 i9:=by kernel_rfl
 i20:=by kernel_rfl
 i21:=by kernel_rfl
 i37:=by kernel_rfl
 i46:=by kernel_rfl
 i51:=by kernel_rfl
 i53:=by kernel_rfl
 i75:=by kernel_rfl
 i76:=by kernel_rfl
 i80:=by kernel_rfl
 i85:=by kernel_rfl
 i127:=by kernel_rfl
 i143:=by kernel_rfl
 i145:=by kernel_rfl
 i167:=by kernel_rfl
 i168:=by kernel_rfl
 i171:=by kernel_rfl
 i173:=by kernel_rfl
 i175:=by kernel_rfl
 i210:=by kernel_rfl
 i212:=by kernel_rfl
 i232:=by kernel_rfl
 i233:=by kernel_rfl
 m15:=by kernel_rfl
 m16:=by kernel_rfl
 m17:=by kernel_rfl
 m18:=by kernel_rfl
 m19:=by kernel_rfl
 c0:=by kernel_rfl
 c2:=by kernel_rfl
 c3:=by kernel_rfl
 c4:=by kernel_rfl
 c5:=by kernel_rfl
 c9:=by kernel_rfl
 c20:=by kernel_rfl
 c21:=by kernel_rfl
 c37:=by kernel_rfl
 c46:=by kernel_rfl
 c51:=by kernel_rfl
 c53:=by kernel_rfl
 c75:=by kernel_rfl
 c76:=by kernel_rfl
 c80:=by kernel_rfl
 c85:=by kernel_rfl
 c127:=by kernel_rfl
 c143:=by kernel_rfl
 c145:=by kernel_rfl
 c167:=by kernel_rfl
 c168:=by kernel_rfl
 c171:=by kernel_rfl
 c173:=by kernel_rfl
 c175:=by kernel_rfl
 c210:=by kernel_rfl
 c212:=by kernel_rfl
 c213:=by kernel_rfl
 c232:=by kernel_rfl
 c233:=by kernel_rfl
def Tryz.laysItoa_ren:Go.Shelf.Ren:=⟨fun|171=>56|243=>111|246=>145|283=>170|284=>171|285=>172|286=>173|129=>194|317=>193|318=>195|319=>196|320=>197|337=>209|338=>210|n=>n,fun|3=>3|9=>9|2=>2|4=>4|171=>188|0=>0|53=>134|37=>102|5=>5|173=>191|212=>209|51=>183|20=>20|213=>210|46=>161|232=>229|233=>230|n=>n,fun|17=>2|18=>6|19=>7|n=>n⟩
theorem Tryz.laysItoa:Go.Proofs.LaysM.n171 Tryz.prog Tryz.laysItoa_ren where
 mixed:=by kernel_rfl
 f129:=Tryz.func194.trans (congrArg some (by kernel_rfl))
 f171:=Tryz.func56.trans (congrArg some (by kernel_rfl))
 f243:=Tryz.func111.trans (congrArg some (by kernel_rfl))
 f246:=Tryz.func145.trans (congrArg some (by kernel_rfl))
 f283:=Tryz.func170.trans (congrArg some (by kernel_rfl))
 f284:=Tryz.func171.trans (congrArg some (by kernel_rfl))
 f285:=Tryz.func172.trans (congrArg some (by kernel_rfl))
 f286:=Tryz.func173.trans (congrArg some (by kernel_rfl))
 f317:=Tryz.func193.trans (congrArg some (by kernel_rfl))
 f318:=Tryz.func195.trans (congrArg some (by kernel_rfl))
 f319:=Tryz.func196.trans (congrArg some (by kernel_rfl))
 f320:=Tryz.func197.trans (congrArg some (by kernel_rfl))
 f337:=Tryz.func209.trans (congrArg some (by kernel_rfl))
 f338:=Tryz.func210.trans (congrArg some (by kernel_rfl))
 t0:=Tryz.underlying0
 a0:=Tryz.isAgg0
 z0:=Tryz.sizeOf0
 v0:=Tryz.zeroValue0
 t2:=Tryz.underlying2
 a2:=Tryz.isAgg2
 z2:=Tryz.sizeOf2
 v2:=Tryz.zeroValue2
 t3:=Tryz.underlying3
 a3:=Tryz.isAgg3
 z3:=Tryz.sizeOf3
 v3:=Tryz.zeroValue3
 t4:=Tryz.underlying4
 a4:=Tryz.isAgg4
 z4:=Tryz.sizeOf4
 v4:=Tryz.zeroValue4
 t5:=Tryz.underlying5
 a5:=Tryz.isAgg5
 z5:=Tryz.sizeOf5
 v5:=Tryz.zeroValue5
 t9:=Tryz.underlying9
 a9:=Tryz.isAgg9
 z9:=Tryz.sizeOf9
 v9:=Tryz.zeroValue9
 t20:=Tryz.underlying20
 a20:=Tryz.isAgg20
 z20:=Tryz.sizeOf20
 v20:=Tryz.zeroValue20
 t37:=Tryz.underlying102
 a37:=Tryz.isAgg102
 z37:=Tryz.sizeOf102
 v37:=Tryz.zeroValue102
 t46:=Tryz.underlying161
 a46:=Tryz.isAgg161
 z46:=Tryz.sizeOf161
 v46:=Tryz.zeroValue161
 t51:=Tryz.underlying183
 a51:=Tryz.isAgg183
 z51:=Tryz.sizeOf183
 v51:=Tryz.zeroValue183
 t53:=Tryz.underlying134
 a53:=Tryz.isAgg134
 z53:=Tryz.sizeOf134
 v53:=Tryz.zeroValue134
 t171:=Tryz.underlying188
 a171:=Tryz.isAgg188
 z171:=Tryz.sizeOf188
 v171:=Tryz.zeroValue188
 t173:=Tryz.underlying191
 a173:=Tryz.isAgg191
 z173:=Tryz.sizeOf191
 v173:=Tryz.zeroValue191
 t212:=Tryz.underlying209
 a212:=Tryz.isAgg209
 z212:=Tryz.sizeOf209
 v212:=Tryz.zeroValue209
 t213:=Tryz.underlying210
 a213:=Tryz.isAgg210
 z213:=Tryz.sizeOf210
 t232:=Tryz.underlying229
 a232:=Tryz.isAgg229
 z232:=Tryz.sizeOf229
 v232:=Tryz.zeroValue229
 t233:=Tryz.underlying230
 a233:=Tryz.isAgg230
 z233:=Tryz.sizeOf230
 v233:=Tryz.zeroValue230
 g17:=by kernel_rfl
 g18:=by kernel_rfl
 g19:=by kernel_rfl
 i0:=by kernel_rfl
 i2:=by kernel_rfl
 i3:=by kernel_rfl
 i4:=by kernel_rfl
 i5:=by kernel_rfl
 i9:=by kernel_rfl
 i20:=by kernel_rfl
 i37:=by kernel_rfl
 i46:=by kernel_rfl
 i51:=by kernel_rfl
 i53:=by kernel_rfl
 i171:=by kernel_rfl
 i173:=by kernel_rfl
 i212:=by kernel_rfl
 i232:=by kernel_rfl
 i233:=by kernel_rfl
 m17:=by kernel_rfl
 m18:=by kernel_rfl
 m19:=by kernel_rfl
def Tryz.laysString_ren:Go.Shelf.Ren:=⟨fun|169=>59|n=>n,fun|70=>101|9=>9|0=>0|72=>104|37=>102|127=>144|3=>3|5=>5|n=>n,fun|n=>n⟩
theorem Tryz.laysString:Go.Proofs.Lays.n169 Tryz.prog Tryz.laysString_ren where
 mixed:=by kernel_rfl
 f169:=Tryz.func59.trans (congrArg some (by kernel_rfl))
 t0:=Tryz.underlying0
 a0:=Tryz.isAgg0
 z0:=Tryz.sizeOf0
 v0:=Tryz.zeroValue0
 t3:=Tryz.underlying3
 a3:=Tryz.isAgg3
 z3:=Tryz.sizeOf3
 v3:=Tryz.zeroValue3
 t9:=Tryz.underlying9
 a9:=Tryz.isAgg9
 z9:=Tryz.sizeOf9
 v9:=Tryz.zeroValue9
 t37:=Tryz.underlying102
 a37:=Tryz.isAgg102
 z37:=Tryz.sizeOf102
 v37:=Tryz.zeroValue102
 t70:=Tryz.underlying101
 a70:=Tryz.isAgg101
 z70:=Tryz.sizeOf101
 v70:=Tryz.zeroValue101
 t72:=Tryz.underlying104
 a72:=Tryz.isAgg104
 z72:=Tryz.sizeOf104
 v72:=Tryz.zeroValue104
 t127:=Tryz.underlying144
 a127:=Tryz.isAgg144
 z127:=Tryz.sizeOf144
 v127:=Tryz.zeroValue144
theorem Tryz.extra:Builder.Extra Tryz.prog Tryz.laysJoin_ren where
 sizeBuilder:=by kernel_rfl
 liesBuilder:=by kernel_rfl
 t5:=Tryz.underlying5
 a5:=Tryz.isAgg5
 z5:=Tryz.sizeOf5
 v5:=Tryz.zeroValue5
 infoByte:=by kernel_rfl
 cellsByte:=by kernel_rfl
 sizeByte:=by kernel_rfl
 neB5:=by decide
theorem Tryz.extraS:Builder.Extra Tryz.prog Tryz.laysString_ren where
 sizeBuilder:=by kernel_rfl
 liesBuilder:=by kernel_rfl
 t5:=Tryz.underlying5
 a5:=Tryz.isAgg5
 z5:=Tryz.sizeOf5
 v5:=Tryz.zeroValue5
 infoByte:=by kernel_rfl
 cellsByte:=by kernel_rfl
 sizeByte:=by kernel_rfl
 neB5:=by decide
theorem Tryz.extraR:Builder.Extra Tryz.prog Tryz.laysRepeat_ren where
 sizeBuilder:=by kernel_rfl
 liesBuilder:=by kernel_rfl
 t5:=Tryz.underlying5
 a5:=Tryz.isAgg5
 z5:=Tryz.sizeOf5
 v5:=Tryz.zeroValue5
 infoByte:=by kernel_rfl
 cellsByte:=by kernel_rfl
 sizeByte:=by kernel_rfl
 neB5:=by decide
theorem Tryz.boolRow:(Tryz.prog.info? (Tryz.laysTrim_ren.t 116)).map (fun i=>(i.zero,i.size))=some (some (.agg (Array.replicate 256 (.bool false))),256):=by kernel_rfl
end Go.Proofs
namespace Lift.Q4
open Go Go.RowKit Go.Proofs Lift Lift.Fn
theorem zae0 {w w':World} {n:Nat} (h:∀ k,k<n→w'.heap[k]? = w.heap[k]?) {b o:Nat} (hb:b<n):w'.cell? ⟨b,o,none⟩=w.cell? ⟨b,o,none⟩:=by
 unfold World.cell?;rw[h b hb]
def isErr (v:Value):Prop:=v=.nilIface∨∃ te pe,v=.iface te pe
def globs (w : World) : Prop := Go.Lib.Utf8Tabs 0 1 w ∧ (∃ m, w.cell? ⟨3, 0, none⟩ = some (.int .i64 m)) ∧ (∃ a b, (w.cell? ⟨4, 0, none⟩ = some a ∧ isErr a) ∧ (w.cell? ⟨5, 0, none⟩ = some b ∧ isErr b)) ∧ Go.Lib.TabIs Tryz.prog w "internal/strconv.uint64pow10" .u64 Go.Lib.pow10Tab ∧ True
theorem zar7 (w w':World) (h:globs w) (hs:∀ k,k<6→w'.heap[k]? = w.heap[k]?):globs w':=by
 refine ⟨?_,?_,?_,?_,trivial⟩
 ·obtain ⟨h1,h2⟩:=h.1;refine ⟨fun c hc=>?_,fun i hi=>?_⟩
  ·rw[zae0 hs (by omega)]; exact h1 c hc
  ·rw[zae0 hs (by omega),zae0 hs (by omega)]; exact h2 i hi
 ·obtain ⟨m,h3⟩:=h.2.1;exact ⟨m,by rw[zae0 hs (by omega)]; exact h3⟩
 ·obtain ⟨a,b,⟨h4,h5⟩,h6,h7⟩:=h.2.2.1;exact ⟨a,b,⟨by rw[zae0 hs (by omega)]; exact h4,h5⟩,by rw[zae0 hs (by omega)]; exact h6,h7⟩
 ·exact zawa (g:=2) (by kernel_rfl) (by omega) hs (h.2.2.2.1)
@[reducible] def env0:Env:=⟨globs,6,fun w w' h hs _ _ _=>zar7 w w' h hs⟩
theorem known0:Known kk env0 (zaac ms0):=known_nil
theorem strings_Join_post:∀ ls j rs,(strings_Join_md.sum ls).val=some (j,rs)→zaa1 kk env0 110 strings_Join_md.sh strings_Join_md.outs ls j rs:=by
 intro ls j rs h;simp only[strings_Join_md] at h;split at h
 ·obtain ⟨r,hr,h⟩:=Tr.get_val h;rw[strings_Join,zaaa,zafu,cond_eq_ite,Option.ite_none_right_eq_some,decide_eq_true_eq] at hr;obtain ⟨hc,hr⟩:=hr;cases hr;cases h;exact join_post (K:=kk) (ρ:=Tryz.laysJoin_ren) Tryz.laysJoin Tryz.extra _ _ hc.1 hc.2
 ·cases h
theorem known1:Known kk env0 (zaac ms1):=known_cons (by kernel_rfl) strings_Join_post known0
theorem strings_Contains_post:∀ ls j rs,(strings_Contains_md.sum ls).val=some (j,rs)→zaa1 kk env0 120 strings_Contains_md.sh strings_Contains_md.outs ls j rs:=by
 intro ls j rs h;simp only[strings_Contains_md] at h;split at h
 ·obtain ⟨r,hr,h⟩:=Tr.get_val h;rw[strings_Contains,zaaa,zad4,cond_eq_ite,Option.ite_none_right_eq_some,decide_eq_true_eq] at hr;obtain ⟨hc,hr⟩:=hr;cases hr;cases h;exact contains_post (K:=kk) (V:=env0) (ρ:=Tryz.laysContains_ren) ({ Tryz.laysContains with }) (fun w h=>h.2.1) _ _ hc
 ·cases h
theorem known2:Known kk env0 (zaac ms2):=known_cons (by kernel_rfl) strings_Contains_post known1
theorem unicode_utf8_DecodeRuneInString_post:∀ ls j rs,(unicode_utf8_DecodeRuneInString_md.sum ls).val=some (j,rs)→zaa1 kk env0 70 unicode_utf8_DecodeRuneInString_md.sh unicode_utf8_DecodeRuneInString_md.outs ls j rs:=by
 intro ls j rs h;simp only[unicode_utf8_DecodeRuneInString_md] at h;split at h
 ·obtain ⟨r,hr,h⟩:=Tr.get_val h;rw[zaa6,zaaa,zabx] at hr;cases hr;cases h;exact decode_post (K:=kk) (V:=env0) (ρ:=Tryz.laysDecode_ren) Tryz.laysDecode (fun w h=>h.1) _
 ·cases h
theorem known3:Known kk env0 (zaac ms3):=known_cons (by kernel_rfl) unicode_utf8_DecodeRuneInString_post known2
theorem unicode_utf8_RuneCountInString_post:∀ ls j rs,(unicode_utf8_RuneCountInString_md.sum ls).val=some (j,rs)→zaa1 kk env0 78 unicode_utf8_RuneCountInString_md.sh unicode_utf8_RuneCountInString_md.outs ls j rs:=by
 intro ls j rs h;simp only[unicode_utf8_RuneCountInString_md] at h;split at h
 ·obtain ⟨r,hr,h⟩:=Tr.get_val h;rw[zaba,zaaa,zabz,cond_eq_ite,Option.ite_none_right_eq_some,decide_eq_true_eq] at hr;obtain ⟨hc,hr⟩:=hr;cases hr;cases h;exact runeCount_post (K:=kk) (V:=env0) (ρ:=Tryz.laysCount_ren) Tryz.laysCount _ hc
 ·cases h
theorem known4:Known kk env0 (zaac ms4):=known_cons (by kernel_rfl) unicode_utf8_RuneCountInString_post known3
theorem strings_Trim_post:∀ ls j rs,(strings_Trim_md.sum ls).val=some (j,rs)→zaa1 kk env0 121 strings_Trim_md.sh strings_Trim_md.outs ls j rs:=by
 intro ls j rs h;simp only[strings_Trim_md] at h;split at h
 ·obtain ⟨r,hr,h⟩:=Tr.get_val h;rw[zac9,zaaa,zafv,cond_eq_ite,Option.ite_none_right_eq_some,Bool.and_eq_true,decide_eq_true_eq] at hr;obtain ⟨⟨hc,hd⟩,hr⟩:=hr;cases hr;cases h;exact trim_post (K:=kk) (V:=env0) (ρ:=Tryz.laysTrim_ren) Tryz.laysTrim Tryz.boolRow _ _ hc.1 hc.2 hd
 ·cases h
theorem known5:Known kk env0 (zaac ms5):=known_cons (by kernel_rfl) strings_Trim_post known4
theorem strings_Repeat_post:∀ ls j rs,(strings_Repeat_md.sum ls).val=some (j,rs)→zaa1 kk env0 109 strings_Repeat_md.sh strings_Repeat_md.outs ls j rs:=by
 intro ls j rs h;simp only[strings_Repeat_md] at h;split at h
 ·obtain ⟨r,hr,h⟩:=Tr.get_val h;rw[strings_Repeat,zaaa,zaer,cond_eq_ite,Option.ite_none_right_eq_some,Bool.and_eq_true,decide_eq_true_eq] at hr;obtain ⟨⟨hc,hd⟩,hr⟩:=hr;cases hr;cases h;exact repeat_post (K:=kk) (V:=env0) (ρ:=Tryz.laysRepeat_ren) Tryz.laysRepeat Tryz.extraR _ _ hc (of_decide_eq_true hd)
 ·cases h
theorem known6:Known kk env0 (zaac ms6):=known_cons (by kernel_rfl) strings_Repeat_post known5
theorem strconv_Atoi_post:∀ ls j rs,(strconv_Atoi_md.sum ls).val=some (j,rs)→zaa1 kk env0 122 strconv_Atoi_md.sh strconv_Atoi_md.outs ls j rs:=by
 intro ls j rs h;simp only[strconv_Atoi_md] at h;split at h
 ·obtain ⟨r,hr,h⟩:=Tr.get_val h;rw[zadc,zaaa,zafs,cond_eq_ite,Option.ite_none_right_eq_some,decide_eq_true_eq] at hr;obtain ⟨hc,hr⟩:=hr;cases hr;cases h;exact atoi_post (K:=kk) (V:=env0) (ρ:=Tryz.laysAtoi_ren) Tryz.laysAtoi (fun w h=>h.2.2.1) _ hc
 ·cases h
theorem known7:Known kk env0 (zaac ms7):=known_cons (by kernel_rfl) strconv_Atoi_post known6
theorem strconv_ItoaW_post:∀ ls j rs,(strconv_ItoaW_md.sum ls).val=some (j,rs)→zaa1 kk env0 56 strconv_ItoaW_md.sh strconv_ItoaW_md.outs ls j rs:=by
 intro ls j rs h;simp only[strconv_ItoaW_md] at h;split at h
 ·obtain ⟨r,hr,h⟩:=Tr.get_val h;rw[zabo,zaaa,zafk,cond_eq_ite,Option.ite_none_right_eq_some,decide_eq_true_eq] at hr;obtain ⟨hc,hr⟩:=hr;cases hr;cases h;exact itoaW_post (K:=kk) (V:=env0) (ρ:=Tryz.laysItoa_ren) ({ Tryz.laysItoa with }) (fun w h=>h.2.2.2.1) _ hc
 ·cases h
theorem known8:Known kk env0 (zaac ms8):=known_cons (by kernel_rfl) strconv_ItoaW_post known7
theorem strings_Builder_copyCheck_post:∀ ls j rs,(strings_Builder_copyCheck_md.sum ls).val=some (j,rs)→zaa1 kk env0 141 strings_Builder_copyCheck_md.sh strings_Builder_copyCheck_md.outs ls j rs:=by
 intro ls j rs h;simp only[strings_Builder_copyCheck_md] at h;split at h
 ·cases h;exact zamm (K:=kk) (V:=env0) (ρ:=Tryz.laysJoin_ren) ({ Tryz.laysJoin with }) Tryz.extra.toX72 106 5 (by kernel_rfl) (.map (.int .i64) (.st 138)) _ _
 ·cases h
theorem known9:Known kk env0 (zaac ms9):=known_cons (by kernel_rfl) strings_Builder_copyCheck_post known8
theorem strings_Builder_String_post:∀ ls j rs,(strings_Builder_String_md.sum ls).val=some (j,rs)→zaa1 kk env0 59 strings_Builder_String_md.sh strings_Builder_String_md.outs ls j rs:=by
 intro ls j rs h;simp only[strings_Builder_String_md] at h;split at h
 ·obtain ⟨r,hr,h⟩:=Tr.get_val h;rw[zabg,zaaa,zacu,cond_eq_ite,Option.ite_none_right_eq_some,List.all_eq_true] at hr;obtain ⟨hc,hr⟩:=hr;cases hr;cases h;exact zapd (K:=kk) (V:=env0) (ρ:=Tryz.laysString_ren) Tryz.laysString Tryz.extraS 106 (.map (.int .i64) (.st 138)) _ _ (fun n hn=>by simpa using hc n hn)
 ·cases h
theorem known10:Known kk env0 (zaac ms10):=known_cons (by kernel_rfl) strings_Builder_String_post known9
end Lift.Q4
namespace Lift.Fn
noncomputable section
open Go Lift
def qbL_f (a0:Int):Option (Int):=bif decide (a0<0) then some ((-1:Int)) else bif decide (a0≤127) then some ((1:Int)) else bif decide (a0≤2047) then some ((2:Int)) else bif decide ((55296:Int)≤a0) then bif decide (a0≤57343) then some ((-1:Int)) else bif decide (a0≤65535) then some ((3:Int)) else bif decide (a0≤1114111) then some ((4:Int)) else some ((-1:Int)) else bif decide (a0≤65535) then some ((3:Int)) else bif decide (a0≤1114111) then some ((4:Int)) else some ((-1:Int))
def qbL:=sealF (qbL_f)
abbrev qbi_o4:=List UInt8→Int→Int→Int→Int→Int→Int→Int→Int→List UInt8→Nat→List Spot→Option ((Int×Int×Int×Int×(List Spot))⊕(Int×Int×Int×Int×Int×Int×Int×Int×(List Spot)))
def qbi_t4 (rec:qbi_o4):qbi_o4:=fun a0 a1 a2 a3 a4 a5 a6 a7 a8 a9 a10 a11=>bif decide (a10<List.length a9) then bif (↑(Prod.fst (Utf8.decode (ByteArray.mk (List.toArray a9)) a10)):Int)==65533 then bif decide ((0:Int)≤(↑a10:Int))&&(decide ((↑a10:Int)≤if IntKind.wrap IntKind.i64 ((↑a10:Int)+(3:Int))<(List.length a0:Int) then IntKind.wrap IntKind.i64 ((↑a10:Int)+(3:Int)) else (List.length a0:Int))&&decide ((if IntKind.wrap IntKind.i64 ((↑a10:Int)+(3:Int))<(List.length a0:Int) then IntKind.wrap IntKind.i64 ((↑a10:Int)+(3:Int)) else (List.length a0:Int))≤(List.length a0:Int))) then bif !List.drop (Int.toNat (↑a10:Int)) (List.take (Int.toNat (if IntKind.wrap IntKind.i64 ((↑a10:Int)+(3:Int))<(List.length a0:Int) then IntKind.wrap IntKind.i64 ((↑a10:Int)+(3:Int)) else (List.length a0:Int))) a0)==[(239:UInt8),(191:UInt8),(189:UInt8)] then some (.inl ((a5),(a6),(a7),(a8),(a11))) else bif decide ((List.length a11+List.length [Spot.mk (IntKind.wrap IntKind.i64 (↑(Prod.fst (Utf8.decode (ByteArray.mk (List.toArray a9)) a10)):Int)) a6 a7 a8])*(32:Nat)≤(140737488355328:Nat)∧List.length a11+List.length [Spot.mk (IntKind.wrap IntKind.i64 (↑(Prod.fst (Utf8.decode (ByteArray.mk (List.toArray a9)) a10)):Int)) a6 a7 a8]≤(9223372036854775807:Nat)) then (qbL (↑(Prod.fst (Utf8.decode (ByteArray.mk (List.toArray a9)) a10)):Int)).bind fun y0=>bif (↑(Prod.fst (Utf8.decode (ByteArray.mk (List.toArray a9)) a10)):Int)==10 then rec (a0) (a1) (a2) (a3) (a4) ((-1:Int)) (IntKind.wrap IntKind.i64 (a6+y0)) (IntKind.wrap IntKind.i64 (a7+(1:Int))) ((1:Int)) (a9) (a10+Prod.snd (Utf8.decode (ByteArray.mk (List.toArray a9)) a10)) (a11++[Spot.mk (IntKind.wrap IntKind.i64 (↑(Prod.fst (Utf8.decode (ByteArray.mk (List.toArray a9)) a10)):Int)) a6 a7 a8]) else rec (a0) (a1) (a2) (a3) (a4) ((-1:Int)) (IntKind.wrap IntKind.i64 (a6+y0)) (a7) (IntKind.wrap IntKind.i64 (a8+(1:Int))) (a9) (a10+Prod.snd (Utf8.decode (ByteArray.mk (List.toArray a9)) a10)) (a11++[Spot.mk (IntKind.wrap IntKind.i64 (↑(Prod.fst (Utf8.decode (ByteArray.mk (List.toArray a9)) a10)):Int)) a6 a7 a8]) else none else none else bif decide ((List.length a11+List.length [Spot.mk (IntKind.wrap IntKind.i64 (↑(Prod.fst (Utf8.decode (ByteArray.mk (List.toArray a9)) a10)):Int)) a6 a7 a8])*(32:Nat)≤(140737488355328:Nat)∧List.length a11+List.length [Spot.mk (IntKind.wrap IntKind.i64 (↑(Prod.fst (Utf8.decode (ByteArray.mk (List.toArray a9)) a10)):Int)) a6 a7 a8]≤(9223372036854775807:Nat)) then (qbL (↑(Prod.fst (Utf8.decode (ByteArray.mk (List.toArray a9)) a10)):Int)).bind fun y1=>bif (↑(Prod.fst (Utf8.decode (ByteArray.mk (List.toArray a9)) a10)):Int)==10 then rec (a0) (a1) (a2) (a3) (a4) ((-1:Int)) (IntKind.wrap IntKind.i64 (a6+y1)) (IntKind.wrap IntKind.i64 (a7+(1:Int))) ((1:Int)) (a9) (a10+Prod.snd (Utf8.decode (ByteArray.mk (List.toArray a9)) a10)) (a11++[Spot.mk (IntKind.wrap IntKind.i64 (↑(Prod.fst (Utf8.decode (ByteArray.mk (List.toArray a9)) a10)):Int)) a6 a7 a8]) else rec (a0) (a1) (a2) (a3) (a4) ((-1:Int)) (IntKind.wrap IntKind.i64 (a6+y1)) (a7) (IntKind.wrap IntKind.i64 (a8+(1:Int))) (a9) (a10+Prod.snd (Utf8.decode (ByteArray.mk (List.toArray a9)) a10)) (a11++[Spot.mk (IntKind.wrap IntKind.i64 (↑(Prod.fst (Utf8.decode (ByteArray.mk (List.toArray a9)) a10)):Int)) a6 a7 a8]) else none else some (.inr ((a1),(a2),(a3),(a4),(a5),(a6),(a7),(a8),(a11)))
def qbi_i4:Nat→qbi_o4
 |0=>fun _ _ _ _ _ _ _ _ _ _ _ _=>none
 |n+1=>qbi_t4 (qbi_i4 n)
def qbi_l4:=sealF (qbi_i4 fuel)
def qbi_f (a0:List UInt8):Option (Spot×(List Spot)):=(qbi_l4 a0 (0:Int) (0:Int) (0:Int) (0:Int) (-1:Int) (0:Int) (1:Int) (1:Int) a0 (0:Nat) []).bind fun y0=>(match y0 with|.inl y1=>some ((Spot.mk y1.1 y1.2.1 y1.2.2.1 y1.2.2.2.1),y1.2.2.2.2)|.inr y1=>some ((Spot.mk y1.2.2.2.2.1 y1.2.2.2.2.2.1 y1.2.2.2.2.2.2.1 y1.2.2.2.2.2.2.2.1),y1.2.2.2.2.2.2.2.2))
def qbi:=sealF (qbi_f)
def qbh_f (a0:List UInt8):Option (Fault×(List Spot)):=bif decide ((List.length a0:Int)>4000) then some ((Fault.mk (10:Int) (4000:Int) []),([])) else (qbi a0).bind fun y0=>bif decide (Spot.at_ y0.1<(List.length a0:Int)) then some ((Fault.mk (11:Int) (Spot.at_ y0.1) []),([])) else some ((Fault.mk (0:Int) (0:Int) []),y0.2)
def qbh:=sealF (qbh_f)
def qbe_f (a0:Int):Option (Bool):=bif a0==9 then some (true) else bif a0==10 then some (true) else bif a0==13 then some (true) else some (a0==32)
def qbe:=sealF (qbe_f)
abbrev qan_o3:=List UInt8→Bool→List UInt8→Nat→Option ((Int)⊕((List UInt8)))
def qan_t3 (rec:qan_o3):qan_o3:=fun a0 a1 a2 a3=>bif decide (a3<List.length a2) then bif a1 then rec (a0) ((↑(Prod.fst (Utf8.decode (ByteArray.mk (List.toArray a2)) a3)):Int) != 10) (a2) (a3+Prod.snd (Utf8.decode (ByteArray.mk (List.toArray a2)) a3)) else bif (↑(Prod.fst (Utf8.decode (ByteArray.mk (List.toArray a2)) a3)):Int)==35 then rec (a0) (true) (a2) (a3+Prod.snd (Utf8.decode (ByteArray.mk (List.toArray a2)) a3)) else (qbe (IntKind.wrap IntKind.i64 (↑(Prod.fst (Utf8.decode (ByteArray.mk (List.toArray a2)) a3)):Int))).bind fun y0=>bif !y0 then some (.inl ((↑a3:Int))) else rec (a0) (a1) (a2) (a3+Prod.snd (Utf8.decode (ByteArray.mk (List.toArray a2)) a3)) else some (.inr (a0))
def qan_i3:Nat→qan_o3
 |0=>fun _ _ _ _=>none
 |n+1=>qan_t3 (qan_i3 n)
def qan_l3:=sealF (qan_i3 fuel)
def qan_f (a0:List UInt8):Option (Int):=(qan_l3 a0 false a0 (0:Nat)).bind fun y0=>(match y0 with|.inl y1=>some (y1)|.inr y1=>some ((List.length y1:Int)))
def qan:=sealF (qan_f)
def qbM_f (a0:Int):Option (Bool):=bif decide (0≤a0) then bif decide (a0<55296) then some (true) else bif decide ((57343:Int)<a0) then bif decide (a0≤1114111) then some (true) else some (false) else some (false) else bif decide ((57343:Int)<a0) then bif decide (a0≤1114111) then some (true) else some (false) else some (false)
def qbM:=sealF (qbM_f)
def qbj_f (a0:Int):Option (Bool):=bif decide (a0≥0) then bif decide (a0≤1114111) then (qbM (IntKind.wrap IntKind.i32 a0)).bind fun y0=>some (y0) else some (false) else some (false)
def qbj:=sealF (qbj_f)
def qbg_f (a0:Int):Option (Bool):=bif decide (a0≥97) then bif decide (a0≤122) then bif decide (a0≤122) then some (true) else bif decide (a0≥192) then (qbj a0).bind fun y0=>some (y0) else some (false) else bif decide (a0≥65) then bif decide (a0≤90) then bif decide (a0≤90) then some (true) else bif decide (a0≥192) then (qbj a0).bind fun y1=>some (y1) else some (false) else bif a0==95 then some (true) else bif decide (a0≥192) then (qbj a0).bind fun y2=>some (y2) else some (false) else bif a0==95 then some (true) else bif decide (a0≥192) then (qbj a0).bind fun y3=>some (y3) else some (false) else bif decide (a0≥65) then bif decide (a0≤90) then bif decide (a0≤90) then some (true) else bif decide (a0≥192) then (qbj a0).bind fun y4=>some (y4) else some (false) else bif a0==95 then some (true) else bif decide (a0≥192) then (qbj a0).bind fun y5=>some (y5) else some (false) else bif a0==95 then some (true) else bif decide (a0≥192) then (qbj a0).bind fun y6=>some (y6) else some (false)
def qbg:=sealF (qbg_f)
def qbf_f (a0:Int):Option (Bool):=bif decide (a0≥48) then some (decide (a0≤57)) else some (false)
def qbf:=sealF (qbf_f)
def qal_f (a0:Int):Option (Bool):=(qbg (IntKind.wrap IntKind.i64 a0)).bind fun y0=>bif y0 then some (true) else (qbf (IntKind.wrap IntKind.i64 a0)).bind fun y1=>some (y1)
def qal:=sealF (qal_f)
abbrev qbs_o2:=List (List UInt8)→List UInt8→Int→Int→Option ((Int)⊕(Unit))
def qbs_t2 (rec:qbs_o2):qbs_o2:=fun a0 a1 a2 a3=>bif decide (a3<a2) then bif decide (0≤a3) then (a0[Int.toNat a3]?).bind fun y0=>bif a1==y0 then some (.inl (a3)) else rec (a0) (a1) (a2) (IntKind.wrap IntKind.i64 (a3+(1:Int))) else none else some (.inr ())
def qbs_i2:Nat→qbs_o2
 |0=>fun _ _ _ _=>none
 |n+1=>qbs_t2 (qbs_i2 n)
def qbs_l2:=sealF (qbs_i2 fuel)
def qbs_f (a0:List (List UInt8)) (a1:List UInt8):Option (Int):=(qbs_l2 a0 a1 (List.length a0:Int) (0:Int)).bind fun y0=>(match y0 with|.inl y1=>some (y1)|.inr y1=>some ((-1:Int)))
def qbs:=sealF (qbs_f)
def qbr_f (a0:List (List UInt8)) (a1:List UInt8):Option (Bool):=(qbs a0 a1).bind fun y0=>some (decide (y0≥0))
def qbr:=sealF (qbr_f)
def qao_f (a0:List UInt8):Option ((List UInt8)):=bif decide ((List.length a0:Int)>1) then bif decide ((0:Int)≤(0:Int))&&(decide ((0:Int)≤(2:Int))&&decide ((2:Int)≤(List.length a0:Int))) then (qbr [[(58:UInt8),(61:UInt8)],[(60:UInt8),(45:UInt8)],[(61:UInt8),(61:UInt8)],[(33:UInt8),(61:UInt8)],[(60:UInt8),(61:UInt8)],[(62:UInt8),(61:UInt8)],[(38:UInt8),(38:UInt8)],[(124:UInt8),(124:UInt8)]] (List.drop (0:Nat) (List.take (2:Nat) a0))).bind fun y0=>bif y0 then bif decide ((0:Int)≤(0:Int))&&(decide ((0:Int)≤(2:Int))&&decide ((2:Int)≤(List.length a0:Int))) then some (List.drop (0:Nat) (List.take (2:Nat) a0)) else none else bif decide ((0:Int)≤(0:Int))&&(decide ((0:Int)≤(1:Int))&&decide ((1:Int)≤(List.length a0:Int))) then (strings_Contains [(61:UInt8),(60:UInt8),(62:UInt8),(33:UInt8),(43:UInt8),(45:UInt8),(42:UInt8),(47:UInt8),(37:UInt8),(59:UInt8),(123:UInt8),(125:UInt8),(40:UInt8),(41:UInt8)] (List.drop (0:Nat) (List.take (1:Nat) a0))).bind fun y1=>bif y1 then bif decide ((0:Int)≤(0:Int))&&(decide ((0:Int)≤(1:Int))&&decide ((1:Int)≤(List.length a0:Int))) then some (List.drop (0:Nat) (List.take (1:Nat) a0)) else none else some ([]) else none else none else bif decide ((0:Int)≤(0:Int))&&(decide ((0:Int)≤(1:Int))&&decide ((1:Int)≤(List.length a0:Int))) then (strings_Contains [(61:UInt8),(60:UInt8),(62:UInt8),(33:UInt8),(43:UInt8),(45:UInt8),(42:UInt8),(47:UInt8),(37:UInt8),(59:UInt8),(123:UInt8),(125:UInt8),(40:UInt8),(41:UInt8)] (List.drop (0:Nat) (List.take (1:Nat) a0))).bind fun y2=>bif y2 then bif decide ((0:Int)≤(0:Int))&&(decide ((0:Int)≤(1:Int))&&decide ((1:Int)≤(List.length a0:Int))) then some (List.drop (0:Nat) (List.take (1:Nat) a0)) else none else some ([]) else none
def qao:=sealF (qao_f)
abbrev qaq_o2:=List UInt8→List UInt8→Nat→Option (((List UInt8))⊕((List UInt8)))
def qaq_t2 (rec:qaq_o2):qaq_o2:=fun a0 a1 a2=>bif decide (a2<List.length a1) then (qal (↑(Prod.fst (Utf8.decode (ByteArray.mk (List.toArray a1)) a2)):Int)).bind fun y0=>bif !y0 then bif decide ((0:Int)≤(0:Int))&&(decide ((0:Int)≤(↑a2:Int))&&decide ((↑a2:Int)≤(List.length a0:Int))) then some (.inl (List.drop (0:Nat) (List.take (Int.toNat (↑a2:Int)) a0))) else none else rec (a0) (a1) (a2+Prod.snd (Utf8.decode (ByteArray.mk (List.toArray a1)) a2)) else some (.inr (a0))
def qaq_i2:Nat→qaq_o2
 |0=>fun _ _ _=>none
 |n+1=>qaq_t2 (qaq_i2 n)
def qaq_l2:=sealF (qaq_i2 fuel)
def qaq_f (a0:List UInt8):Option ((List UInt8)):=(qaq_l2 a0 a0 (0:Nat)).bind fun y0=>(match y0 with|.inl y1=>some (y1)|.inr y1=>some (y1))
def qaq:=sealF (qaq_f)
def qam_f (a0:List UInt8):Option (Int×Bool):=bif decide ((List.length a0:Int)>1) then (a0[(0:Nat)]?).bind fun y0=>bif (↑(UInt8.toNat y0):Int)==48 then some (((0:Int)),(false)) else (zac9 a0 [(48:UInt8),(49:UInt8),(50:UInt8),(51:UInt8),(52:UInt8),(53:UInt8),(54:UInt8),(55:UInt8),(56:UInt8),(57:UInt8)]).bind fun y1=>bif !y1==[] then some (((0:Int)),(false)) else (zadc a0).bind fun y2=>bif !y2.2 then some (y2.1,(decide (y2.1≤2147483647))) else some (y2.1,(false)) else (zac9 a0 [(48:UInt8),(49:UInt8),(50:UInt8),(51:UInt8),(52:UInt8),(53:UInt8),(54:UInt8),(55:UInt8),(56:UInt8),(57:UInt8)]).bind fun y3=>bif !y3==[] then some (((0:Int)),(false)) else (zadc a0).bind fun y4=>bif !y4.2 then some (y4.1,(decide (y4.1≤2147483647))) else some (y4.1,(false))
def qam:=sealF (qam_f)
def qak_f:Option ((List (List UInt8))):=some ([[(97:UInt8),(100:UInt8),(100:UInt8)],[(97:UInt8),(115:UInt8),(115:UInt8),(101:UInt8),(114:UInt8),(116:UInt8)],[(99:UInt8),(101:UInt8),(108:UInt8),(108:UInt8)],[(101:UInt8),(108:UInt8),(115:UInt8),(101:UInt8)],[(105:UInt8),(102:UInt8)],[(106:UInt8),(111:UInt8),(105:UInt8),(110:UInt8)],[(108:UInt8),(111:UInt8),(99:UInt8),(107:UInt8)],[(109:UInt8),(117:UInt8),(116:UInt8),(101:UInt8),(120:UInt8)],[(114:UInt8),(101:UInt8),(112:UInt8),(101:UInt8),(97:UInt8),(116:UInt8)],[(115:UInt8),(116:UInt8),(97:UInt8),(114:UInt8),(116:UInt8)],[(116:UInt8),(104:UInt8),(114:UInt8),(101:UInt8),(97:UInt8),(100:UInt8)],[(117:UInt8),(110:UInt8),(108:UInt8),(111:UInt8),(99:UInt8),(107:UInt8)]])
def qak:=sealF (qak_f)
def qap_f (a0:List UInt8):Option (Token×Int):=(zaa6 a0).bind fun y0=>(qal y0.1).bind fun y1=>bif !y1 then (qao a0).bind fun y2=>bif y2==[] then some ((Token.mk (0:Int) [] (0:Int) (0:Int)),((20:Int))) else some ((Token.mk (3:Int) y2 (0:Int) (0:Int)),((0:Int))) else (qaq a0).bind fun y3=>(qbf (IntKind.wrap IntKind.i64 y0.1)).bind fun y4=>bif y4 then (qam y3).bind fun y5=>bif !y5.2 then some ((Token.mk (1:Int) y3 (0:Int) (0:Int)),((22:Int))) else some ((Token.mk (2:Int) y3 y5.1 (0:Int)),((0:Int))) else (qak).bind fun y6=>(qbr y6 y3).bind fun y7=>bif y7 then some ((Token.mk (4:Int) y3 (0:Int) (0:Int)),((0:Int))) else (zaba y3).bind fun y8=>bif decide (y8>16) then some ((Token.mk (1:Int) y3 (0:Int) (0:Int)),((21:Int))) else some ((Token.mk (1:Int) y3 (0:Int) (0:Int)),((0:Int)))
def qap:=sealF (qap_f)
abbrev qaj_o6:=List UInt8→Int→Int→Int→List UInt8→List Token→Option ((Int×Int×(List UInt8))⊕((List UInt8)×Int×Int×(List UInt8)×(List Token)))
def qaj_t6 (rec:qaj_o6):qaj_o6:=fun a0 a1 a2 a3 a4 a5=>bif decide (a1<(List.length a0:Int)) then bif decide (0≤a1)&&(decide (a1≤(List.length a0:Int))&&decide ((List.length a0:Int)≤(List.length a0:Int))) then (qap (List.drop (Int.toNat a1) (List.take (Int.toNat (List.length a0:Int)) a0))).bind fun y0=>bif y0.2 != 0 then some (.inl (y0.2,(a1),([]))) else bif decide ((List.length a5+List.length [Token.mk (Token.kind y0.1) (Token.text y0.1) (Token.num y0.1) a1])*(40:Nat)≤(140737488355328:Nat)∧List.length a5+List.length [Token.mk (Token.kind y0.1) (Token.text y0.1) (Token.num y0.1) a1]≤(9223372036854775807:Nat)) then bif decide ((0:Int)≤IntKind.wrap IntKind.i64 (a1+(List.length (Token.text y0.1):Int)))&&(decide (IntKind.wrap IntKind.i64 (a1+(List.length (Token.text y0.1):Int))≤(List.length a0:Int))&&decide ((List.length a0:Int)≤(List.length a0:Int))) then (qan (List.drop (Int.toNat (IntKind.wrap IntKind.i64 (a1+(List.length (Token.text y0.1):Int)))) (List.take (Int.toNat (List.length a0:Int)) a0))).bind fun y1=>rec (a0) (IntKind.wrap IntKind.i64 (IntKind.wrap IntKind.i64 (a1+(List.length (Token.text y0.1):Int))+y1)) (a2) (a3) (a4) (a5++[Token.mk (Token.kind y0.1) (Token.text y0.1) (Token.num y0.1) a1]) else none else none else none else some (.inr ((a0),(a2),(a3),(a4),(a5)))
def qaj_i6:Nat→qaj_o6
 |0=>fun _ _ _ _ _ _=>none
 |n+1=>qaj_t6 (qaj_i6 n)
def qaj_l6:=sealF (qaj_i6 fuel)
def qaj_f (a0:List UInt8):Option ((List Token)×Fault):=(qbh a0).bind fun y0=>bif Fault.code y0.1 != 0 then some (([]),(Fault.mk (Fault.code y0.1) (Fault.at_ y0.1) (Fault.name y0.1))) else (qan a0).bind fun y1=>(qaj_l6 a0 y1 (0:Int) (0:Int) [] []).bind fun y2=>(match y2 with|.inl y3=>some (([]),(Fault.mk y3.1 y3.2.1 y3.2.2))|.inr y3=>bif decide ((List.length y3.2.2.2.2+List.length [Token.mk (5:Int) [] (0:Int) (List.length y3.1:Int)])*(40:Nat)≤(140737488355328:Nat)∧List.length y3.2.2.2.2+List.length [Token.mk (5:Int) [] (0:Int) (List.length y3.1:Int)]≤(9223372036854775807:Nat)) then some ((y3.2.2.2.2++[Token.mk (5:Int) [] (0:Int) (List.length y3.1:Int)]),(Fault.mk (0:Int) (0:Int) [])) else none)
def qaj:=sealF (qaj_f)
def qbA_f (a0:TStmt) (a1:Int) (a2:Int):Option (Int):=some (if a1>a2 then a1 else a2)
def qbA:=sealF (qbA_f)
def qbB_f (a0:TExpr) (a1:Int) (a2:Int):Option (Int):=some (if a1>a2 then a1 else a2)
def qbB:=sealF (qbB_f)
abbrev qaa_o:=TExpr→Int→Int→Option (Int)
abbrev qaa_o3:=Int→List TExpr→Int→Int→Int→Option (Int)
def qaa_t3 (rec_qaa:qaa_o) (rec:qaa_o3):qaa_o3:=fun a0 a1 a2 a3 a4=>bif decide (a3<a2) then bif decide (0≤a3) then (a1[Int.toNat a3]?).bind fun y0=>(rec_qaa (TExpr.mk (TExpr.kind y0) (TExpr.num y0) (TExpr.name y0) (TExpr.args y0)) (IntKind.wrap IntKind.i64 (a0+(1:Int))) a4).bind fun y1=>rec (a0) (a1) (a2) (IntKind.wrap IntKind.i64 (a3+(1:Int))) (y1) else none else some (a4)
def qaa_i3 (rec_qaa:qaa_o):Nat→qaa_o3
 |0=>fun _ _ _ _ _=>none
 |n+1=>qaa_t3 rec_qaa (qaa_i3 rec_qaa n)
def qaa_l3 (rec_qaa:qaa_o):=sealF (qaa_i3 rec_qaa fuel)
def qaa_f (rec_qaa:qaa_o):qaa_o:=fun a0 a1 a2=>(qbB (TExpr.mk (TExpr.kind a0) (TExpr.num a0) (TExpr.name a0) (TExpr.args a0)) a1 a2).bind fun y0=>(qaa_l3 rec_qaa a1 (TExpr.args a0) (List.length (TExpr.args a0):Int) (0:Int) y0).bind fun y1=>some (y1)
def qaa_i:Nat→qaa_o
 |0=>fun _ _ _=>none
 |n+1=>qaa_f (qaa_i n)
def qaa:=sealF (qaa_i fuel)
abbrev qag_o:=List TStmt→Int→Int→Option (Int)
abbrev qag_o2:=Int→List TStmt→Int→Int→Int→Option (Int)
def qag_t2 (rec_qag:qag_o) (rec:qag_o2):qag_o2:=fun a0 a1 a2 a3 a4=>bif decide (a3<a2) then bif decide (0≤a3) then (a1[Int.toNat a3]?).bind fun y0=>(qbA (TStmt.mk (TStmt.kind y0) (TStmt.reg y0) (TStmt.name y0) (TExpr.mk (TExpr.kind (TStmt.expr y0)) (TExpr.num (TStmt.expr y0)) (TExpr.name (TStmt.expr y0)) (TExpr.args (TStmt.expr y0))) (TStmt.count y0) (TStmt.then_ y0) (TStmt.else_ y0)) a0 a4).bind fun y1=>Option.bind (α:=Bool) ( bif TExpr.kind (TStmt.expr y0) != 0 then some (true) else some (decide ((↑(List.length (TExpr.args (TStmt.expr y0))):Int)>0))) fun y2=>bif y2 then (qaa (TExpr.mk (TExpr.kind (TStmt.expr y0)) (TExpr.num (TStmt.expr y0)) (TExpr.name (TStmt.expr y0)) (TExpr.args (TStmt.expr y0))) (1:Int) y1).bind fun y3=>(rec_qag (TStmt.then_ y0) (IntKind.wrap IntKind.i64 (a0+(1:Int))) y3).bind fun y4=>(rec_qag (TStmt.else_ y0) (IntKind.wrap IntKind.i64 (a0+(1:Int))) y4).bind fun y5=>rec (a0) (a1) (a2) (IntKind.wrap IntKind.i64 (a3+(1:Int))) (y5) else (rec_qag (TStmt.then_ y0) (IntKind.wrap IntKind.i64 (a0+(1:Int))) y1).bind fun y6=>(rec_qag (TStmt.else_ y0) (IntKind.wrap IntKind.i64 (a0+(1:Int))) y6).bind fun y7=>rec (a0) (a1) (a2) (IntKind.wrap IntKind.i64 (a3+(1:Int))) (y7) else none else some (a4)
def qag_i2 (rec_qag:qag_o):Nat→qag_o2
 |0=>fun _ _ _ _ _=>none
 |n+1=>qag_t2 rec_qag (qag_i2 rec_qag n)
def qag_l2 (rec_qag:qag_o):=sealF (qag_i2 rec_qag fuel)
def qag_f (rec_qag:qag_o):qag_o:=fun a0 a1 a2=>(qag_l2 rec_qag a1 a0 (List.length a0:Int) (0:Int) a2).bind fun y0=>some (y0)
def qag_i:Nat→qag_o
 |0=>fun _ _ _=>none
 |n+1=>qag_f (qag_i n)
def qag:=sealF (qag_i fuel)
abbrev qad_o2:=List TThread→Int→Int→Int→Option (Int)
def qad_t2 (rec:qad_o2):qad_o2:=fun a0 a1 a2 a3=>bif decide (a2<a1) then bif decide (0≤a2) then (a0[Int.toNat a2]?).bind fun y0=>(qag (TThread.body y0) (1:Int) a3).bind fun y1=>rec (a0) (a1) (IntKind.wrap IntKind.i64 (a2+(1:Int))) (y1) else none else some (a3)
def qad_i2:Nat→qad_o2
 |0=>fun _ _ _ _=>none
 |n+1=>qad_t2 (qad_i2 n)
def qad_l2:=sealF (qad_i2 fuel)
def qad_f (a0:TProg) (a1:Int):Option (Int):=(qad_l2 (TProg.threads a0) (List.length (TProg.threads a0):Int) (0:Int) a1).bind fun y0=>some (y0)
def qad:=sealF (qad_f)
def qbz_f (a0:TProg):Option (Int):=(qad (TProg.mk (TProg.cells a0) (TProg.mutexes a0) (TProg.threads a0)) (0:Int)).bind fun y0=>some (y0)
def qbz:=sealF (qbz_f)
def qbx_f (a0:TStmt) (a1:Int) (a2:Int):Option (Int):=some (IntKind.wrap IntKind.i64 (a2+(1:Int)))
def qbx:=sealF (qbx_f)
def qby_f (a0:TExpr) (a1:Int) (a2:Int):Option (Int):=some (IntKind.wrap IntKind.i64 (a2+(1:Int)))
def qby:=sealF (qby_f)
abbrev qab_o:=TExpr→Int→Int→Option (Int)
abbrev qab_o3:=Int→List TExpr→Int→Int→Int→Option (Int)
def qab_t3 (rec_qab:qab_o) (rec:qab_o3):qab_o3:=fun a0 a1 a2 a3 a4=>bif decide (a3<a2) then bif decide (0≤a3) then (a1[Int.toNat a3]?).bind fun y0=>(rec_qab (TExpr.mk (TExpr.kind y0) (TExpr.num y0) (TExpr.name y0) (TExpr.args y0)) (IntKind.wrap IntKind.i64 (a0+(1:Int))) a4).bind fun y1=>rec (a0) (a1) (a2) (IntKind.wrap IntKind.i64 (a3+(1:Int))) (y1) else none else some (a4)
def qab_i3 (rec_qab:qab_o):Nat→qab_o3
 |0=>fun _ _ _ _ _=>none
 |n+1=>qab_t3 rec_qab (qab_i3 rec_qab n)
def qab_l3 (rec_qab:qab_o):=sealF (qab_i3 rec_qab fuel)
def qab_f (rec_qab:qab_o):qab_o:=fun a0 a1 a2=>(qby (TExpr.mk (TExpr.kind a0) (TExpr.num a0) (TExpr.name a0) (TExpr.args a0)) a1 a2).bind fun y0=>(qab_l3 rec_qab a1 (TExpr.args a0) (List.length (TExpr.args a0):Int) (0:Int) y0).bind fun y1=>some (y1)
def qab_i:Nat→qab_o
 |0=>fun _ _ _=>none
 |n+1=>qab_f (qab_i n)
def qab:=sealF (qab_i fuel)
abbrev qah_o:=List TStmt→Int→Int→Option (Int)
abbrev qah_o2:=Int→List TStmt→Int→Int→Int→Option (Int)
def qah_t2 (rec_qah:qah_o) (rec:qah_o2):qah_o2:=fun a0 a1 a2 a3 a4=>bif decide (a3<a2) then bif decide (0≤a3) then (a1[Int.toNat a3]?).bind fun y0=>(qbx (TStmt.mk (TStmt.kind y0) (TStmt.reg y0) (TStmt.name y0) (TExpr.mk (TExpr.kind (TStmt.expr y0)) (TExpr.num (TStmt.expr y0)) (TExpr.name (TStmt.expr y0)) (TExpr.args (TStmt.expr y0))) (TStmt.count y0) (TStmt.then_ y0) (TStmt.else_ y0)) a0 a4).bind fun y1=>Option.bind (α:=Bool) ( bif TExpr.kind (TStmt.expr y0) != 0 then some (true) else some (decide ((↑(List.length (TExpr.args (TStmt.expr y0))):Int)>0))) fun y2=>bif y2 then (qab (TExpr.mk (TExpr.kind (TStmt.expr y0)) (TExpr.num (TStmt.expr y0)) (TExpr.name (TStmt.expr y0)) (TExpr.args (TStmt.expr y0))) (1:Int) y1).bind fun y3=>(rec_qah (TStmt.then_ y0) (IntKind.wrap IntKind.i64 (a0+(1:Int))) y3).bind fun y4=>(rec_qah (TStmt.else_ y0) (IntKind.wrap IntKind.i64 (a0+(1:Int))) y4).bind fun y5=>rec (a0) (a1) (a2) (IntKind.wrap IntKind.i64 (a3+(1:Int))) (y5) else (rec_qah (TStmt.then_ y0) (IntKind.wrap IntKind.i64 (a0+(1:Int))) y1).bind fun y6=>(rec_qah (TStmt.else_ y0) (IntKind.wrap IntKind.i64 (a0+(1:Int))) y6).bind fun y7=>rec (a0) (a1) (a2) (IntKind.wrap IntKind.i64 (a3+(1:Int))) (y7) else none else some (a4)
def qah_i2 (rec_qah:qah_o):Nat→qah_o2
 |0=>fun _ _ _ _ _=>none
 |n+1=>qah_t2 rec_qah (qah_i2 rec_qah n)
def qah_l2 (rec_qah:qah_o):=sealF (qah_i2 rec_qah fuel)
def qah_f (rec_qah:qah_o):qah_o:=fun a0 a1 a2=>(qah_l2 rec_qah a1 a0 (List.length a0:Int) (0:Int) a2).bind fun y0=>some (y0)
def qah_i:Nat→qah_o
 |0=>fun _ _ _=>none
 |n+1=>qah_f (qah_i n)
def qah:=sealF (qah_i fuel)
abbrev qae_o2:=List TThread→Int→Int→Int→Option (Int)
def qae_t2 (rec:qae_o2):qae_o2:=fun a0 a1 a2 a3=>bif decide (a2<a1) then bif decide (0≤a2) then (a0[Int.toNat a2]?).bind fun y0=>(qah (TThread.body y0) (1:Int) a3).bind fun y1=>rec (a0) (a1) (IntKind.wrap IntKind.i64 (a2+(1:Int))) (y1) else none else some (a3)
def qae_i2:Nat→qae_o2
 |0=>fun _ _ _ _=>none
 |n+1=>qae_t2 (qae_i2 n)
def qae_l2:=sealF (qae_i2 fuel)
def qae_f (a0:TProg) (a1:Int):Option (Int):=(qae_l2 (TProg.threads a0) (List.length (TProg.threads a0):Int) (0:Int) a1).bind fun y0=>some (y0)
def qae:=sealF (qae_f)
def qbw_f (a0:TProg):Option (Int):=(qae (TProg.mk (TProg.cells a0) (TProg.mutexes a0) (TProg.threads a0)) (0:Int)).bind fun y0=>some (y0)
def qbw:=sealF (qbw_f)
def qbI_f (a0:List UInt8):Option (Bool):=bif decide ((List.length a0:Int)>64) then some (false) else (qaj a0).bind fun y0=>Option.bind (α:=Bool) ( bif Fault.code y0.2==0 then some ((List.length y0.1:Int)==2) else some (false)) fun y1=>Option.bind (α:=Bool) ( bif y1 then (y0.1[(0:Nat)]?).bind fun y2=>some (Token.kind y2==1) else some (false)) fun y3=>Option.bind (α:=Bool) ( bif y3 then (y0.1[(0:Nat)]?).bind fun y4=>some (Token.text y4==a0) else some (false)) fun y5=>some (y5)
def qbI:=sealF (qbI_f)
def qbJ_f:Option ((List ((Int)×(Shape)))):=some (zaal (11:Int) (Shape.mk false false false true true false) (zaal (10:Int) (Shape.mk false false true false true true) (zaal (9:Int) (Shape.mk false false true false false false) (zaal (8:Int) (Shape.mk false true false false false false) (zaal (7:Int) (Shape.mk false true false false false false) (zaal (6:Int) (Shape.mk false true false false false false) (zaal (5:Int) (Shape.mk false true false false false false) (zaal (4:Int) (Shape.mk true true true false false false) (zaal (3:Int) (Shape.mk false true true false false false) (zaal (2:Int) (Shape.mk true true false false false false) (zaal (1:Int) (Shape.mk true false true false false false) [])))))))))))
def qbJ:=sealF (qbJ_f)
def qbH_f (a0:List UInt8) (a1:Bool):Option (Bool):=Option.bind (α:=Bool) ( bif a1 then (qbI a0).bind fun y0=>some (y0) else some (false)) fun y1=>Option.bind (α:=Bool) ( bif y1 then some (true) else Option.bind (α:=Bool) ( bif !a1 then some (a0==[]) else some (false)) fun y2=>some (y2)) fun y3=>some (y3)
def qbH:=sealF (qbH_f)
def qbK_f (a0:TStmt):Option (Bool):=(qbJ).bind fun y0=>Option.bind (α:=Bool) ( bif TExpr.kind (TStmt.expr a0)==0 then some (TExpr.num (TStmt.expr a0)==0) else some (false)) fun y1=>Option.bind (α:=Bool) ( bif y1 then some (TExpr.name (TStmt.expr a0)==[]) else some (false)) fun y2=>Option.bind (α:=Bool) ( bif y2 then some ((↑(List.length (TExpr.args (TStmt.expr a0))):Int)==0) else some (false)) fun y3=>Option.bind (α:=Bool) ( bif TStmt.count a0==0 then some (true) else Option.bind (α:=Bool) ( bif Shape.count (Option.getD (mapAt y0 (TStmt.kind a0)) (Shape.mk false false false false false false)) then some (decide (TStmt.count a0>0)) else some (false)) fun y4=>Option.bind (α:=Bool) ( bif y4 then some (decide (TStmt.count a0≤1000)) else some (false)) fun y5=>some (y5)) fun y6=>Option.bind (α:=Bool) ( bif Option.isSome (mapAt y0 (TStmt.kind a0)) then (qbH (TStmt.reg a0) (Shape.reg (Option.getD (mapAt y0 (TStmt.kind a0)) (Shape.mk false false false false false false)))).bind fun y7=>some (y7) else some (false)) fun y8=>Option.bind (α:=Bool) ( bif y8 then (qbH (TStmt.name a0) (Shape.name (Option.getD (mapAt y0 (TStmt.kind a0)) (Shape.mk false false false false false false)))).bind fun y9=>some (y9) else some (false)) fun y10=>Option.bind (α:=Bool) ( bif y10 then Option.bind (α:=Bool) ( bif Shape.expr (Option.getD (mapAt y0 (TStmt.kind a0)) (Shape.mk false false false false false false)) then some (TExpr.kind (TStmt.expr a0) != 0) else some (false)) fun y11=>Option.bind (α:=Bool) ( bif y11 then some (true) else Option.bind (α:=Bool) ( bif !Shape.expr (Option.getD (mapAt y0 (TStmt.kind a0)) (Shape.mk false false false false false false)) then some (y3) else some (false)) fun y12=>some (y12)) fun y13=>some (y13) else some (false)) fun y14=>Option.bind (α:=Bool) ( bif y14 then some (y6) else some (false)) fun y15=>Option.bind (α:=Bool) ( bif y15 then Option.bind (α:=Bool) ( bif Shape.then_ (Option.getD (mapAt y0 (TStmt.kind a0)) (Shape.mk false false false false false false)) then some (true) else some ((List.length (TStmt.then_ a0):Int)==0)) fun y16=>some (y16) else some (false)) fun y17=>Option.bind (α:=Bool) ( bif y17 then Option.bind (α:=Bool) ( bif Shape.other (Option.getD (mapAt y0 (TStmt.kind a0)) (Shape.mk false false false false false false)) then some (true) else some ((List.length (TStmt.else_ a0):Int)==0)) fun y18=>some (y18) else some (false)) fun y19=>some (y19)
def qbK:=sealF (qbK_f)
def qbF_f (a0:TStmt) (a1:Int) (a2:Bool):Option (Bool):=Option.bind (α:=Bool) ( bif a2 then (qbK (TStmt.mk (TStmt.kind a0) (TStmt.reg a0) (TStmt.name a0) (TExpr.mk (TExpr.kind (TStmt.expr a0)) (TExpr.num (TStmt.expr a0)) (TExpr.name (TStmt.expr a0)) (TExpr.args (TStmt.expr a0))) (TStmt.count a0) (TStmt.then_ a0) (TStmt.else_ a0))).bind fun y0=>some (y0) else some (false)) fun y1=>some (y1)
def qbF:=sealF (qbF_f)
def qbD_f (a0:TExpr):Option (Bool):=bif TExpr.kind a0==1 then Option.bind (α:=Bool) ( bif decide (TExpr.num a0≥0) then some (decide (TExpr.num a0≤2147483647)) else some (false)) fun y0=>Option.bind (α:=Bool) ( bif y0 then some (TExpr.name a0==[]) else some (false)) fun y1=>Option.bind (α:=Bool) ( bif y1 then some ((List.length (TExpr.args a0):Int)==0) else some (false)) fun y2=>some (y2) else bif TExpr.kind a0==2 then (qbI (TExpr.name a0)).bind fun y3=>Option.bind (α:=Bool) ( bif y3 then some (TExpr.num a0==0) else some (false)) fun y4=>Option.bind (α:=Bool) ( bif y4 then some ((List.length (TExpr.args a0):Int)==0) else some (false)) fun y5=>some (y5) else Option.bind (α:=Bool) ( bif TExpr.kind a0==3 then some (true) else some (TExpr.kind a0==4)) fun y6=>bif y6 then Option.bind (α:=Bool) ( bif decide (TExpr.kind a0≥3) then some (decide (TExpr.kind a0≤17)) else some (false)) fun y7=>Option.bind (α:=Bool) ( bif y7 then some ((List.length (TExpr.args a0):Int)==1) else some (false)) fun y8=>Option.bind (α:=Bool) ( bif y8 then some (TExpr.num a0==0) else some (false)) fun y9=>Option.bind (α:=Bool) ( bif y9 then some (TExpr.name a0==[]) else some (false)) fun y10=>some (y10) else Option.bind (α:=Bool) ( bif decide (TExpr.kind a0≥3) then some (decide (TExpr.kind a0≤17)) else some (false)) fun y11=>Option.bind (α:=Bool) ( bif y11 then some ((List.length (TExpr.args a0):Int)==2) else some (false)) fun y12=>Option.bind (α:=Bool) ( bif y12 then some (TExpr.num a0==0) else some (false)) fun y13=>Option.bind (α:=Bool) ( bif y13 then some (TExpr.name a0==[]) else some (false)) fun y14=>some (y14)
def qbD:=sealF (qbD_f)
def qbG_f (a0:TExpr) (a1:Int) (a2:Bool):Option (Bool):=Option.bind (α:=Bool) ( bif a2 then (qbD (TExpr.mk (TExpr.kind a0) (TExpr.num a0) (TExpr.name a0) (TExpr.args a0))).bind fun y0=>some (y0) else some (false)) fun y1=>some (y1)
def qbG:=sealF (qbG_f)
abbrev qac_o:=TExpr→Int→Bool→Option (Bool)
abbrev qac_o3:=Int→List TExpr→Int→Int→Bool→Option (Bool)
def qac_t3 (rec_qac:qac_o) (rec:qac_o3):qac_o3:=fun a0 a1 a2 a3 a4=>bif decide (a3<a2) then bif decide (0≤a3) then (a1[Int.toNat a3]?).bind fun y0=>(rec_qac (TExpr.mk (TExpr.kind y0) (TExpr.num y0) (TExpr.name y0) (TExpr.args y0)) (IntKind.wrap IntKind.i64 (a0+(1:Int))) a4).bind fun y1=>rec (a0) (a1) (a2) (IntKind.wrap IntKind.i64 (a3+(1:Int))) (y1) else none else some (a4)
def qac_i3 (rec_qac:qac_o):Nat→qac_o3
 |0=>fun _ _ _ _ _=>none
 |n+1=>qac_t3 rec_qac (qac_i3 rec_qac n)
def qac_l3 (rec_qac:qac_o):=sealF (qac_i3 rec_qac fuel)
def qac_f (rec_qac:qac_o):qac_o:=fun a0 a1 a2=>(qbG (TExpr.mk (TExpr.kind a0) (TExpr.num a0) (TExpr.name a0) (TExpr.args a0)) a1 a2).bind fun y0=>(qac_l3 rec_qac a1 (TExpr.args a0) (List.length (TExpr.args a0):Int) (0:Int) y0).bind fun y1=>some (y1)
def qac_i:Nat→qac_o
 |0=>fun _ _ _=>none
 |n+1=>qac_f (qac_i n)
def qac:=sealF (qac_i fuel)
abbrev qai_o:=List TStmt→Int→Bool→Option (Bool)
abbrev qai_o2:=Int→List TStmt→Int→Int→Bool→Option (Bool)
def qai_t2 (rec_qai:qai_o) (rec:qai_o2):qai_o2:=fun a0 a1 a2 a3 a4=>bif decide (a3<a2) then bif decide (0≤a3) then (a1[Int.toNat a3]?).bind fun y0=>(qbF (TStmt.mk (TStmt.kind y0) (TStmt.reg y0) (TStmt.name y0) (TExpr.mk (TExpr.kind (TStmt.expr y0)) (TExpr.num (TStmt.expr y0)) (TExpr.name (TStmt.expr y0)) (TExpr.args (TStmt.expr y0))) (TStmt.count y0) (TStmt.then_ y0) (TStmt.else_ y0)) a0 a4).bind fun y1=>Option.bind (α:=Bool) ( bif TExpr.kind (TStmt.expr y0) != 0 then some (true) else some (decide ((↑(List.length (TExpr.args (TStmt.expr y0))):Int)>0))) fun y2=>bif y2 then (qac (TExpr.mk (TExpr.kind (TStmt.expr y0)) (TExpr.num (TStmt.expr y0)) (TExpr.name (TStmt.expr y0)) (TExpr.args (TStmt.expr y0))) (1:Int) y1).bind fun y3=>(rec_qai (TStmt.then_ y0) (IntKind.wrap IntKind.i64 (a0+(1:Int))) y3).bind fun y4=>(rec_qai (TStmt.else_ y0) (IntKind.wrap IntKind.i64 (a0+(1:Int))) y4).bind fun y5=>rec (a0) (a1) (a2) (IntKind.wrap IntKind.i64 (a3+(1:Int))) (y5) else (rec_qai (TStmt.then_ y0) (IntKind.wrap IntKind.i64 (a0+(1:Int))) y1).bind fun y6=>(rec_qai (TStmt.else_ y0) (IntKind.wrap IntKind.i64 (a0+(1:Int))) y6).bind fun y7=>rec (a0) (a1) (a2) (IntKind.wrap IntKind.i64 (a3+(1:Int))) (y7) else none else some (a4)
def qai_i2 (rec_qai:qai_o):Nat→qai_o2
 |0=>fun _ _ _ _ _=>none
 |n+1=>qai_t2 rec_qai (qai_i2 rec_qai n)
def qai_l2 (rec_qai:qai_o):=sealF (qai_i2 rec_qai fuel)
def qai_f (rec_qai:qai_o):qai_o:=fun a0 a1 a2=>(qai_l2 rec_qai a1 a0 (List.length a0:Int) (0:Int) a2).bind fun y0=>some (y0)
def qai_i:Nat→qai_o
 |0=>fun _ _ _=>none
 |n+1=>qai_f (qai_i n)
def qai:=sealF (qai_i fuel)
abbrev qaf_o2:=List TThread→Int→Int→Bool→Option (Bool)
def qaf_t2 (rec:qaf_o2):qaf_o2:=fun a0 a1 a2 a3=>bif decide (a2<a1) then bif decide (0≤a2) then (a0[Int.toNat a2]?).bind fun y0=>(qai (TThread.body y0) (1:Int) a3).bind fun y1=>rec (a0) (a1) (IntKind.wrap IntKind.i64 (a2+(1:Int))) (y1) else none else some (a3)
def qaf_i2:Nat→qaf_o2
 |0=>fun _ _ _ _=>none
 |n+1=>qaf_t2 (qaf_i2 n)
def qaf_l2:=sealF (qaf_i2 fuel)
def qaf_f (a0:TProg) (a1:Bool):Option (Bool):=(qaf_l2 (TProg.threads a0) (List.length (TProg.threads a0):Int) (0:Int) a1).bind fun y0=>some (y0)
def qaf:=sealF (qaf_f)
abbrev qbE_o3:=List TCell→Int→Int→List TCell→List (List UInt8)→List TThread→Bool→Option ((List TCell)×(List (List UInt8))×(List TThread)×Bool)
def qbE_t3 (rec:qbE_o3):qbE_o3:=fun a0 a1 a2 a3 a4 a5 a6=>bif decide (a2<a1) then bif decide (0≤a2) then (a0[Int.toNat a2]?).bind fun y0=>Option.bind (α:=Bool) ( bif a6 then (qbI (TCell.name y0)).bind fun y1=>some (y1) else some (false)) fun y2=>Option.bind (α:=Bool) ( bif y2 then some (decide (TCell.init y0≥(-2147483647:Int))) else some (false)) fun y3=>Option.bind (α:=Bool) ( bif y3 then some (decide (TCell.init y0≤2147483647)) else some (false)) fun y4=>rec (a0) (a1) (IntKind.wrap IntKind.i64 (a2+(1:Int))) (a3) (a4) (a5) (y4) else none else some ((a3),(a4),(a5),(a6))
def qbE_i3:Nat→qbE_o3
 |0=>fun _ _ _ _ _ _ _=>none
 |n+1=>qbE_t3 (qbE_i3 n)
def qbE_l3:=sealF (qbE_i3 fuel)
abbrev qbE_o8:=List (List UInt8)→Int→Int→List TCell→List (List UInt8)→List TThread→Bool→Option ((List TCell)×(List (List UInt8))×(List TThread)×Bool)
def qbE_t8 (rec:qbE_o8):qbE_o8:=fun a0 a1 a2 a3 a4 a5 a6=>bif decide (a2<a1) then bif decide (0≤a2) then (a0[Int.toNat a2]?).bind fun y0=>Option.bind (α:=Bool) ( bif a6 then (qbI y0).bind fun y1=>some (y1) else some (false)) fun y2=>rec (a0) (a1) (IntKind.wrap IntKind.i64 (a2+(1:Int))) (a3) (a4) (a5) (y2) else none else some ((a3),(a4),(a5),(a6))
def qbE_i8:Nat→qbE_o8
 |0=>fun _ _ _ _ _ _ _=>none
 |n+1=>qbE_t8 (qbE_i8 n)
def qbE_l8:=sealF (qbE_i8 fuel)
abbrev qbE_o13:=List TThread→Int→Int→List TCell→List (List UInt8)→List TThread→Bool→Option ((List TCell)×(List (List UInt8))×(List TThread)×Bool)
def qbE_t13 (rec:qbE_o13):qbE_o13:=fun a0 a1 a2 a3 a4 a5 a6=>bif decide (a2<a1) then bif decide (0≤a2) then (a0[Int.toNat a2]?).bind fun y0=>Option.bind (α:=Bool) ( bif a6 then (qbI (TThread.name y0)).bind fun y1=>some (y1) else some (false)) fun y2=>rec (a0) (a1) (IntKind.wrap IntKind.i64 (a2+(1:Int))) (a3) (a4) (a5) (y2) else none else some ((a3),(a4),(a5),(a6))
def qbE_i13:Nat→qbE_o13
 |0=>fun _ _ _ _ _ _ _=>none
 |n+1=>qbE_t13 (qbE_i13 n)
def qbE_l13:=sealF (qbE_i13 fuel)
def qbE_f (a0:TProg):Option (Bool):=(qbE_l3 (TProg.cells a0) (List.length (TProg.cells a0):Int) (0:Int) (TProg.cells a0) (TProg.mutexes a0) (TProg.threads a0) true).bind fun y0=>(qbE_l8 y0.2.1 (List.length y0.2.1:Int) (0:Int) y0.1 y0.2.1 y0.2.2.1 y0.2.2.2).bind fun y1=>(qbE_l13 y1.2.2.1 (List.length y1.2.2.1:Int) (0:Int) y1.1 y1.2.1 y1.2.2.1 y1.2.2.2).bind fun y2=>bif y2.2.2.2 then (qaf (TProg.mk y2.1 y2.2.1 y2.2.2.1) y2.2.2.2).bind fun y3=>some (y3) else some y2.2.2.2
def qbE:=sealF (qbE_f)
def qbC_f (a0:TProg):Option (Int):=(qbE (TProg.mk (TProg.cells a0) (TProg.mutexes a0) (TProg.threads a0))).bind fun y0=>bif !y0 then some ((30:Int)) else (qbz (TProg.mk (TProg.cells a0) (TProg.mutexes a0) (TProg.threads a0))).bind fun y1=>bif decide (y1>16) then some ((31:Int)) else (qbw (TProg.mk (TProg.cells a0) (TProg.mutexes a0) (TProg.threads a0))).bind fun y2=>bif decide (y2>500) then some ((32:Int)) else some ((0:Int))
def qbC:=sealF (qbC_f)
abbrev qbl_o3:=Int→Int→List ((Int)×(Oper))→List (List UInt8)→Option ((List ((Int)×(Oper))))
def qbl_t3 (rec:qbl_o3):qbl_o3:=fun a0 a1 a2 a3=>bif decide (a1<a0) then bif decide (0≤a1)&&decide (a1<(List.length a3:Int)) then (a3[Int.toNat a1]?).bind fun y0=>rec (a0) (IntKind.wrap IntKind.i64 (a1+(1:Int))) (zaal (IntKind.wrap IntKind.i64 ((10:Int)+a1)) (Oper.mk y0 (3:Int) (4:Int) (4:Int)) a2) (a3) else none else some (a2)
def qbl_i3:Nat→qbl_o3
 |0=>fun _ _ _ _=>none
 |n+1=>qbl_t3 (qbl_i3 n)
def qbl_l3:=sealF (qbl_i3 fuel)
def qbl_f:Option ((List ((Int)×(Oper)))):=(qbl_l3 (↑(6:Nat):Int) (0:Int) (zaal (9:Int) (Oper.mk [(37:UInt8)] (5:Int) (5:Int) (6:Int)) (zaal (8:Int) (Oper.mk [(47:UInt8)] (5:Int) (5:Int) (6:Int)) (zaal (7:Int) (Oper.mk [(42:UInt8)] (5:Int) (5:Int) (6:Int)) (zaal (6:Int) (Oper.mk [(45:UInt8)] (4:Int) (4:Int) (5:Int)) (zaal (5:Int) (Oper.mk [(43:UInt8)] (4:Int) (4:Int) (5:Int)) (zaal (16:Int) (Oper.mk [(38:UInt8),(38:UInt8)] (2:Int) (2:Int) (3:Int)) (zaal (17:Int) (Oper.mk [(124:UInt8),(124:UInt8)] (1:Int) (1:Int) (2:Int)) []))))))) [[(61:UInt8),(61:UInt8)],[(33:UInt8),(61:UInt8)],[(60:UInt8)],[(60:UInt8),(61:UInt8)],[(62:UInt8)],[(62:UInt8),(61:UInt8)]]).bind fun y0=>some (y0)
def qbl:=sealF (qbl_f)
def qbv_f (a0:List UInt8) (a1:List ((Int)×(Oper))) (a2:List Int):Option (Int×Bool×(List ((Int)×(Oper)))×(List Int)):=bif decide (List.length a2+List.length a0≤(140737488355328:Nat)∧List.length a2+List.length a0≤(9223372036854775807:Nat)) then some (((List.length a0:Int)),(false),(a1),(a2++ofStr a0)) else none
def qbv:=sealF (qbv_f)
def qbo_f (a0:Int) (a1:List (List UInt8)) (a2:List ((Int)×(Oper))) (a3:List Int):Option ((List ((Int)×(Oper)))×(List Int)):=(strings_Repeat [(32:UInt8),(32:UInt8)] a0).bind fun y0=>(strings_Join a1 []).bind fun y1=>bif decide (List.length y0+List.length y1≤(9223372036854775807:Nat)) then bif decide (List.length (y0++y1)+(1:Nat)≤(9223372036854775807:Nat)) then (qbv (y0++y1++[(10:UInt8)]) a2 a3).bind fun y2=>some (y2.2.2.1,y2.2.2.2) else none else none
def qbo:=sealF (qbo_f)
abbrev qbn_o:=TExpr→Int→List ((Int)×(Oper))→List Int→Option ((List ((Int)×(Oper)))×(List Int))
def qbu_f (rec_qbn:qbn_o) (a0:Int) (a1:List ((Int)×(Oper))) (a2:List Int):Option (Bool×(List ((Int)×(Oper)))×(List Int)):=bif decide ((List.length a2+List.length [a0])*(1:Nat)≤(140737488355328:Nat)∧List.length a2+List.length [a0]≤(9223372036854775807:Nat)) then some ((false),(a1),(a2++[a0])) else none
def qbu (rec_qbn:qbn_o):=sealF (qbu_f rec_qbn)
def qbn_f (rec_qbn:qbn_o):qbn_o:=fun a0 a1 a2 a3=>bif TExpr.kind a0==1 then (zabo (TExpr.num a0)).bind fun y0=>(qbv y0 a2 a3).bind fun y1=>some (y1.2.2.1,y1.2.2.2) else bif TExpr.kind a0==2 then (qbv (TExpr.name a0) a2 a3).bind fun y2=>some (y2.2.2.1,y2.2.2.2) else bif TExpr.kind a0==3 then bif TExpr.kind a0==3 then both ( (qbv (Option.getD (mapAt (zaal (4:Int) [(33:UInt8)] (zaal (3:Int) [(45:UInt8)] [])) (TExpr.kind a0)) []) a2 a3).bind fun y3=>((TExpr.args a0)[(0:Nat)]?).bind fun y4=>(rec_qbn y4 (6:Int) y3.2.2.1 y3.2.2.2).bind fun y5=>some (y5.1,y5.2)) ( (qbv (Option.getD (mapAt (zaal (3:Int) [(45:UInt8)] (zaal (4:Int) [(33:UInt8)] [])) (TExpr.kind a0)) []) a2 a3).bind fun y6=>((TExpr.args a0)[(0:Nat)]?).bind fun y7=>(rec_qbn y7 (6:Int) y6.2.2.1 y6.2.2.2).bind fun y8=>some (y8.1,y8.2)) else bif decide (Oper.level (Option.getD (mapAt a2 (TExpr.kind a0)) (Oper.mk [] (0:Int) (0:Int) (0:Int)))<a1) then (qbu rec_qbn (40:Int) a2 a3).bind fun y9=>((TExpr.args a0)[(0:Nat)]?).bind fun y10=>(rec_qbn y10 (Oper.left (Option.getD (mapAt a2 (TExpr.kind a0)) (Oper.mk [] (0:Int) (0:Int) (0:Int)))) y9.2.1 y9.2.2).bind fun y11=>bif decide ((1:Nat)+List.length (Oper.sign (Option.getD (mapAt a2 (TExpr.kind a0)) (Oper.mk [] (0:Int) (0:Int) (0:Int))))≤(9223372036854775807:Nat)) then bif decide (List.length ([(32:UInt8)]++Oper.sign (Option.getD (mapAt a2 (TExpr.kind a0)) (Oper.mk [] (0:Int) (0:Int) (0:Int))))+(1:Nat)≤(9223372036854775807:Nat)) then (qbv ([(32:UInt8)]++Oper.sign (Option.getD (mapAt a2 (TExpr.kind a0)) (Oper.mk [] (0:Int) (0:Int) (0:Int)))++[(32:UInt8)]) y11.1 y11.2).bind fun y12=>((TExpr.args a0)[(1:Nat)]?).bind fun y13=>(rec_qbn y13 (Oper.right (Option.getD (mapAt a2 (TExpr.kind a0)) (Oper.mk [] (0:Int) (0:Int) (0:Int)))) y12.2.2.1 y12.2.2.2).bind fun y14=>bif decide ((List.length y14.2+(1:Nat))*(1:Nat)≤(140737488355328:Nat)∧List.length y14.2+(1:Nat)≤(9223372036854775807:Nat)) then some (y14.1,(y14.2++[(41:Int)])) else none else none else none else ((TExpr.args a0)[(0:Nat)]?).bind fun y15=>(rec_qbn y15 (Oper.left (Option.getD (mapAt a2 (TExpr.kind a0)) (Oper.mk [] (0:Int) (0:Int) (0:Int)))) a2 a3).bind fun y16=>bif decide ((1:Nat)+List.length (Oper.sign (Option.getD (mapAt a2 (TExpr.kind a0)) (Oper.mk [] (0:Int) (0:Int) (0:Int))))≤(9223372036854775807:Nat)) then bif decide (List.length ([(32:UInt8)]++Oper.sign (Option.getD (mapAt a2 (TExpr.kind a0)) (Oper.mk [] (0:Int) (0:Int) (0:Int))))+(1:Nat)≤(9223372036854775807:Nat)) then (qbv ([(32:UInt8)]++Oper.sign (Option.getD (mapAt a2 (TExpr.kind a0)) (Oper.mk [] (0:Int) (0:Int) (0:Int)))++[(32:UInt8)]) y16.1 y16.2).bind fun y17=>((TExpr.args a0)[(1:Nat)]?).bind fun y18=>(rec_qbn y18 (Oper.right (Option.getD (mapAt a2 (TExpr.kind a0)) (Oper.mk [] (0:Int) (0:Int) (0:Int)))) y17.2.2.1 y17.2.2.2).bind fun y19=>some (y19.1,y19.2) else none else none else bif TExpr.kind a0==4 then both ( (qbv (Option.getD (mapAt (zaal (4:Int) [(33:UInt8)] (zaal (3:Int) [(45:UInt8)] [])) (TExpr.kind a0)) []) a2 a3).bind fun y20=>((TExpr.args a0)[(0:Nat)]?).bind fun y21=>(rec_qbn y21 (6:Int) y20.2.2.1 y20.2.2.2).bind fun y22=>some (y22.1,y22.2)) ( (qbv (Option.getD (mapAt (zaal (3:Int) [(45:UInt8)] (zaal (4:Int) [(33:UInt8)] [])) (TExpr.kind a0)) []) a2 a3).bind fun y23=>((TExpr.args a0)[(0:Nat)]?).bind fun y24=>(rec_qbn y24 (6:Int) y23.2.2.1 y23.2.2.2).bind fun y25=>some (y25.1,y25.2)) else bif decide (Oper.level (Option.getD (mapAt a2 (TExpr.kind a0)) (Oper.mk [] (0:Int) (0:Int) (0:Int)))<a1) then (qbu rec_qbn (40:Int) a2 a3).bind fun y26=>((TExpr.args a0)[(0:Nat)]?).bind fun y27=>(rec_qbn y27 (Oper.left (Option.getD (mapAt a2 (TExpr.kind a0)) (Oper.mk [] (0:Int) (0:Int) (0:Int)))) y26.2.1 y26.2.2).bind fun y28=>bif decide ((1:Nat)+List.length (Oper.sign (Option.getD (mapAt a2 (TExpr.kind a0)) (Oper.mk [] (0:Int) (0:Int) (0:Int))))≤(9223372036854775807:Nat)) then bif decide (List.length ([(32:UInt8)]++Oper.sign (Option.getD (mapAt a2 (TExpr.kind a0)) (Oper.mk [] (0:Int) (0:Int) (0:Int))))+(1:Nat)≤(9223372036854775807:Nat)) then (qbv ([(32:UInt8)]++Oper.sign (Option.getD (mapAt a2 (TExpr.kind a0)) (Oper.mk [] (0:Int) (0:Int) (0:Int)))++[(32:UInt8)]) y28.1 y28.2).bind fun y29=>((TExpr.args a0)[(1:Nat)]?).bind fun y30=>(rec_qbn y30 (Oper.right (Option.getD (mapAt a2 (TExpr.kind a0)) (Oper.mk [] (0:Int) (0:Int) (0:Int)))) y29.2.2.1 y29.2.2.2).bind fun y31=>bif decide ((List.length y31.2+(1:Nat))*(1:Nat)≤(140737488355328:Nat)∧List.length y31.2+(1:Nat)≤(9223372036854775807:Nat)) then some (y31.1,(y31.2++[(41:Int)])) else none else none else none else ((TExpr.args a0)[(0:Nat)]?).bind fun y32=>(rec_qbn y32 (Oper.left (Option.getD (mapAt a2 (TExpr.kind a0)) (Oper.mk [] (0:Int) (0:Int) (0:Int)))) a2 a3).bind fun y33=>bif decide ((1:Nat)+List.length (Oper.sign (Option.getD (mapAt a2 (TExpr.kind a0)) (Oper.mk [] (0:Int) (0:Int) (0:Int))))≤(9223372036854775807:Nat)) then bif decide (List.length ([(32:UInt8)]++Oper.sign (Option.getD (mapAt a2 (TExpr.kind a0)) (Oper.mk [] (0:Int) (0:Int) (0:Int))))+(1:Nat)≤(9223372036854775807:Nat)) then (qbv ([(32:UInt8)]++Oper.sign (Option.getD (mapAt a2 (TExpr.kind a0)) (Oper.mk [] (0:Int) (0:Int) (0:Int)))++[(32:UInt8)]) y33.1 y33.2).bind fun y34=>((TExpr.args a0)[(1:Nat)]?).bind fun y35=>(rec_qbn y35 (Oper.right (Option.getD (mapAt a2 (TExpr.kind a0)) (Oper.mk [] (0:Int) (0:Int) (0:Int)))) y34.2.2.1 y34.2.2.2).bind fun y36=>some (y36.1,y36.2) else none else none
def qbn_i:Nat→qbn_o
 |0=>fun _ _ _ _=>none
 |n+1=>qbn_f (qbn_i n)
def qbn:=sealF (qbn_i fuel)
def qbq_f (a0:TExpr) (a1:List ((Int)×(Oper))) (a2:List Int):Option ((List UInt8)×(List ((Int)×(Oper)))×(List Int)):=(qbn (TExpr.mk (TExpr.kind a0) (TExpr.num a0) (TExpr.name a0) (TExpr.args a0)) (1:Int) a1 []).bind fun y0=>(zabg y0.2).bind fun y1=>some ((y1),(a1),(a2))
def qbq:=sealF (qbq_f)
abbrev qbm_o:=List TStmt→Int→List ((Int)×(Oper))→List Int→Option ((List ((Int)×(Oper)))×(List Int))
def qbp_f (rec_qbm:qbm_o) (a0:TStmt) (a1:Int) (a2:List ((Int)×(Oper))) (a3:List Int):Option ((List ((Int)×(Oper)))×(List Int)):=bif TStmt.kind a0==1 then (qbq (TExpr.mk (TExpr.kind (TStmt.expr a0)) (TExpr.num (TStmt.expr a0)) (TExpr.name (TStmt.expr a0)) (TExpr.args (TStmt.expr a0))) a2 a3).bind fun y0=>(qbo a1 [TStmt.reg a0,[(32:UInt8),(58:UInt8),(61:UInt8),(32:UInt8)],y0.1,[(59:UInt8)]] y0.2.1 y0.2.2).bind fun y1=>some (y1.1,y1.2) else bif TStmt.kind a0==2 then (qbo a1 [TStmt.reg a0,[(32:UInt8),(60:UInt8),(45:UInt8),(32:UInt8)],TStmt.name a0,[(59:UInt8)]] a2 a3).bind fun y2=>some (y2.1,y2.2) else bif TStmt.kind a0==3 then (qbq (TExpr.mk (TExpr.kind (TStmt.expr a0)) (TExpr.num (TStmt.expr a0)) (TExpr.name (TStmt.expr a0)) (TExpr.args (TStmt.expr a0))) a2 a3).bind fun y3=>(qbo a1 [TStmt.name a0,[(32:UInt8),(61:UInt8),(32:UInt8)],y3.1,[(59:UInt8)]] y3.2.1 y3.2.2).bind fun y4=>some (y4.1,y4.2) else bif TStmt.kind a0==4 then (qbq (TExpr.mk (TExpr.kind (TStmt.expr a0)) (TExpr.num (TStmt.expr a0)) (TExpr.name (TStmt.expr a0)) (TExpr.args (TStmt.expr a0))) a2 a3).bind fun y5=>(qbo a1 [TStmt.reg a0,[(32:UInt8),(60:UInt8),(45:UInt8),(32:UInt8),(97:UInt8),(100:UInt8),(100:UInt8),(32:UInt8)],TStmt.name a0,[(32:UInt8)],y5.1,[(59:UInt8)]] y5.2.1 y5.2.2).bind fun y6=>some (y6.1,y6.2) else bif TStmt.kind a0==5 then bif TStmt.kind a0==5 then bif decide ((0:Int)≤IntKind.wrap IntKind.i64 (TStmt.kind a0-(5:Int)))&&decide (IntKind.wrap IntKind.i64 (TStmt.kind a0-(5:Int))<(↑(4:Nat):Int)) then ([[(108:UInt8),(111:UInt8),(99:UInt8),(107:UInt8),(32:UInt8)],[(117:UInt8),(110:UInt8),(108:UInt8),(111:UInt8),(99:UInt8),(107:UInt8),(32:UInt8)],[(115:UInt8),(116:UInt8),(97:UInt8),(114:UInt8),(116:UInt8),(32:UInt8)],[(106:UInt8),(111:UInt8),(105:UInt8),(110:UInt8),(32:UInt8)]][Int.toNat (IntKind.wrap IntKind.i64 (TStmt.kind a0-(5:Int)))]?).bind fun y7=>(qbo a1 [y7,TStmt.name a0,[(59:UInt8)]] a2 a3).bind fun y8=>some (y8.1,y8.2) else none else bif TStmt.kind a0==9 then (qbq (TExpr.mk (TExpr.kind (TStmt.expr a0)) (TExpr.num (TStmt.expr a0)) (TExpr.name (TStmt.expr a0)) (TExpr.args (TStmt.expr a0))) a2 a3).bind fun y9=>(qbo a1 [[(97:UInt8),(115:UInt8),(115:UInt8),(101:UInt8),(114:UInt8),(116:UInt8),(32:UInt8)],y9.1,[(59:UInt8)]] y9.2.1 y9.2.2).bind fun y10=>some (y10.1,y10.2) else bif TStmt.kind a0==10 then (qbq (TExpr.mk (TExpr.kind (TStmt.expr a0)) (TExpr.num (TStmt.expr a0)) (TExpr.name (TStmt.expr a0)) (TExpr.args (TStmt.expr a0))) a2 a3).bind fun y11=>(qbo a1 [[(105:UInt8),(102:UInt8),(32:UInt8)],y11.1,[(32:UInt8),(123:UInt8)]] y11.2.1 y11.2.2).bind fun y12=>(rec_qbm (TStmt.then_ a0) (IntKind.wrap IntKind.i64 (a1+(1:Int))) y12.1 y12.2).bind fun y13=>bif decide ((List.length (TStmt.else_ a0):Int)>0) then (qbo a1 [[(125:UInt8),(32:UInt8),(101:UInt8),(108:UInt8),(115:UInt8),(101:UInt8),(32:UInt8),(123:UInt8)]] y13.1 y13.2).bind fun y14=>(rec_qbm (TStmt.else_ a0) (IntKind.wrap IntKind.i64 (a1+(1:Int))) y14.1 y14.2).bind fun y15=>(qbo a1 [[(125:UInt8)]] y15.1 y15.2).bind fun y16=>some (y16.1,y16.2) else (qbo a1 [[(125:UInt8)]] y13.1 y13.2).bind fun y17=>some (y17.1,y17.2) else bif TStmt.kind a0==11 then (zabo (TStmt.count a0)).bind fun y18=>(qbo a1 [[(114:UInt8),(101:UInt8),(112:UInt8),(101:UInt8),(97:UInt8),(116:UInt8),(32:UInt8)],y18,[(32:UInt8),(123:UInt8)]] a2 a3).bind fun y19=>(rec_qbm (TStmt.then_ a0) (IntKind.wrap IntKind.i64 (a1+(1:Int))) y19.1 y19.2).bind fun y20=>(qbo a1 [[(125:UInt8)]] y20.1 y20.2).bind fun y21=>some (y21.1,y21.2) else some ((a2),(a3)) else bif TStmt.kind a0==6 then bif TStmt.kind a0==6 then bif decide ((0:Int)≤IntKind.wrap IntKind.i64 (TStmt.kind a0-(5:Int)))&&decide (IntKind.wrap IntKind.i64 (TStmt.kind a0-(5:Int))<(↑(4:Nat):Int)) then ([[(108:UInt8),(111:UInt8),(99:UInt8),(107:UInt8),(32:UInt8)],[(117:UInt8),(110:UInt8),(108:UInt8),(111:UInt8),(99:UInt8),(107:UInt8),(32:UInt8)],[(115:UInt8),(116:UInt8),(97:UInt8),(114:UInt8),(116:UInt8),(32:UInt8)],[(106:UInt8),(111:UInt8),(105:UInt8),(110:UInt8),(32:UInt8)]][Int.toNat (IntKind.wrap IntKind.i64 (TStmt.kind a0-(5:Int)))]?).bind fun y22=>(qbo a1 [y22,TStmt.name a0,[(59:UInt8)]] a2 a3).bind fun y23=>some (y23.1,y23.2) else none else bif TStmt.kind a0==9 then (qbq (TExpr.mk (TExpr.kind (TStmt.expr a0)) (TExpr.num (TStmt.expr a0)) (TExpr.name (TStmt.expr a0)) (TExpr.args (TStmt.expr a0))) a2 a3).bind fun y24=>(qbo a1 [[(97:UInt8),(115:UInt8),(115:UInt8),(101:UInt8),(114:UInt8),(116:UInt8),(32:UInt8)],y24.1,[(59:UInt8)]] y24.2.1 y24.2.2).bind fun y25=>some (y25.1,y25.2) else bif TStmt.kind a0==10 then (qbq (TExpr.mk (TExpr.kind (TStmt.expr a0)) (TExpr.num (TStmt.expr a0)) (TExpr.name (TStmt.expr a0)) (TExpr.args (TStmt.expr a0))) a2 a3).bind fun y26=>(qbo a1 [[(105:UInt8),(102:UInt8),(32:UInt8)],y26.1,[(32:UInt8),(123:UInt8)]] y26.2.1 y26.2.2).bind fun y27=>(rec_qbm (TStmt.then_ a0) (IntKind.wrap IntKind.i64 (a1+(1:Int))) y27.1 y27.2).bind fun y28=>bif decide ((List.length (TStmt.else_ a0):Int)>0) then (qbo a1 [[(125:UInt8),(32:UInt8),(101:UInt8),(108:UInt8),(115:UInt8),(101:UInt8),(32:UInt8),(123:UInt8)]] y28.1 y28.2).bind fun y29=>(rec_qbm (TStmt.else_ a0) (IntKind.wrap IntKind.i64 (a1+(1:Int))) y29.1 y29.2).bind fun y30=>(qbo a1 [[(125:UInt8)]] y30.1 y30.2).bind fun y31=>some (y31.1,y31.2) else (qbo a1 [[(125:UInt8)]] y28.1 y28.2).bind fun y32=>some (y32.1,y32.2) else bif TStmt.kind a0==11 then (zabo (TStmt.count a0)).bind fun y33=>(qbo a1 [[(114:UInt8),(101:UInt8),(112:UInt8),(101:UInt8),(97:UInt8),(116:UInt8),(32:UInt8)],y33,[(32:UInt8),(123:UInt8)]] a2 a3).bind fun y34=>(rec_qbm (TStmt.then_ a0) (IntKind.wrap IntKind.i64 (a1+(1:Int))) y34.1 y34.2).bind fun y35=>(qbo a1 [[(125:UInt8)]] y35.1 y35.2).bind fun y36=>some (y36.1,y36.2) else some ((a2),(a3)) else bif TStmt.kind a0==7 then bif TStmt.kind a0==7 then bif decide ((0:Int)≤IntKind.wrap IntKind.i64 (TStmt.kind a0-(5:Int)))&&decide (IntKind.wrap IntKind.i64 (TStmt.kind a0-(5:Int))<(↑(4:Nat):Int)) then ([[(108:UInt8),(111:UInt8),(99:UInt8),(107:UInt8),(32:UInt8)],[(117:UInt8),(110:UInt8),(108:UInt8),(111:UInt8),(99:UInt8),(107:UInt8),(32:UInt8)],[(115:UInt8),(116:UInt8),(97:UInt8),(114:UInt8),(116:UInt8),(32:UInt8)],[(106:UInt8),(111:UInt8),(105:UInt8),(110:UInt8),(32:UInt8)]][Int.toNat (IntKind.wrap IntKind.i64 (TStmt.kind a0-(5:Int)))]?).bind fun y37=>(qbo a1 [y37,TStmt.name a0,[(59:UInt8)]] a2 a3).bind fun y38=>some (y38.1,y38.2) else none else bif TStmt.kind a0==9 then (qbq (TExpr.mk (TExpr.kind (TStmt.expr a0)) (TExpr.num (TStmt.expr a0)) (TExpr.name (TStmt.expr a0)) (TExpr.args (TStmt.expr a0))) a2 a3).bind fun y39=>(qbo a1 [[(97:UInt8),(115:UInt8),(115:UInt8),(101:UInt8),(114:UInt8),(116:UInt8),(32:UInt8)],y39.1,[(59:UInt8)]] y39.2.1 y39.2.2).bind fun y40=>some (y40.1,y40.2) else bif TStmt.kind a0==10 then (qbq (TExpr.mk (TExpr.kind (TStmt.expr a0)) (TExpr.num (TStmt.expr a0)) (TExpr.name (TStmt.expr a0)) (TExpr.args (TStmt.expr a0))) a2 a3).bind fun y41=>(qbo a1 [[(105:UInt8),(102:UInt8),(32:UInt8)],y41.1,[(32:UInt8),(123:UInt8)]] y41.2.1 y41.2.2).bind fun y42=>(rec_qbm (TStmt.then_ a0) (IntKind.wrap IntKind.i64 (a1+(1:Int))) y42.1 y42.2).bind fun y43=>bif decide ((List.length (TStmt.else_ a0):Int)>0) then (qbo a1 [[(125:UInt8),(32:UInt8),(101:UInt8),(108:UInt8),(115:UInt8),(101:UInt8),(32:UInt8),(123:UInt8)]] y43.1 y43.2).bind fun y44=>(rec_qbm (TStmt.else_ a0) (IntKind.wrap IntKind.i64 (a1+(1:Int))) y44.1 y44.2).bind fun y45=>(qbo a1 [[(125:UInt8)]] y45.1 y45.2).bind fun y46=>some (y46.1,y46.2) else (qbo a1 [[(125:UInt8)]] y43.1 y43.2).bind fun y47=>some (y47.1,y47.2) else bif TStmt.kind a0==11 then (zabo (TStmt.count a0)).bind fun y48=>(qbo a1 [[(114:UInt8),(101:UInt8),(112:UInt8),(101:UInt8),(97:UInt8),(116:UInt8),(32:UInt8)],y48,[(32:UInt8),(123:UInt8)]] a2 a3).bind fun y49=>(rec_qbm (TStmt.then_ a0) (IntKind.wrap IntKind.i64 (a1+(1:Int))) y49.1 y49.2).bind fun y50=>(qbo a1 [[(125:UInt8)]] y50.1 y50.2).bind fun y51=>some (y51.1,y51.2) else some ((a2),(a3)) else bif TStmt.kind a0==8 then bif decide ((0:Int)≤IntKind.wrap IntKind.i64 (TStmt.kind a0-(5:Int)))&&decide (IntKind.wrap IntKind.i64 (TStmt.kind a0-(5:Int))<(↑(4:Nat):Int)) then ([[(108:UInt8),(111:UInt8),(99:UInt8),(107:UInt8),(32:UInt8)],[(117:UInt8),(110:UInt8),(108:UInt8),(111:UInt8),(99:UInt8),(107:UInt8),(32:UInt8)],[(115:UInt8),(116:UInt8),(97:UInt8),(114:UInt8),(116:UInt8),(32:UInt8)],[(106:UInt8),(111:UInt8),(105:UInt8),(110:UInt8),(32:UInt8)]][Int.toNat (IntKind.wrap IntKind.i64 (TStmt.kind a0-(5:Int)))]?).bind fun y52=>(qbo a1 [y52,TStmt.name a0,[(59:UInt8)]] a2 a3).bind fun y53=>some (y53.1,y53.2) else none else bif TStmt.kind a0==9 then (qbq (TExpr.mk (TExpr.kind (TStmt.expr a0)) (TExpr.num (TStmt.expr a0)) (TExpr.name (TStmt.expr a0)) (TExpr.args (TStmt.expr a0))) a2 a3).bind fun y54=>(qbo a1 [[(97:UInt8),(115:UInt8),(115:UInt8),(101:UInt8),(114:UInt8),(116:UInt8),(32:UInt8)],y54.1,[(59:UInt8)]] y54.2.1 y54.2.2).bind fun y55=>some (y55.1,y55.2) else bif TStmt.kind a0==10 then (qbq (TExpr.mk (TExpr.kind (TStmt.expr a0)) (TExpr.num (TStmt.expr a0)) (TExpr.name (TStmt.expr a0)) (TExpr.args (TStmt.expr a0))) a2 a3).bind fun y56=>(qbo a1 [[(105:UInt8),(102:UInt8),(32:UInt8)],y56.1,[(32:UInt8),(123:UInt8)]] y56.2.1 y56.2.2).bind fun y57=>(rec_qbm (TStmt.then_ a0) (IntKind.wrap IntKind.i64 (a1+(1:Int))) y57.1 y57.2).bind fun y58=>bif decide ((List.length (TStmt.else_ a0):Int)>0) then (qbo a1 [[(125:UInt8),(32:UInt8),(101:UInt8),(108:UInt8),(115:UInt8),(101:UInt8),(32:UInt8),(123:UInt8)]] y58.1 y58.2).bind fun y59=>(rec_qbm (TStmt.else_ a0) (IntKind.wrap IntKind.i64 (a1+(1:Int))) y59.1 y59.2).bind fun y60=>(qbo a1 [[(125:UInt8)]] y60.1 y60.2).bind fun y61=>some (y61.1,y61.2) else (qbo a1 [[(125:UInt8)]] y58.1 y58.2).bind fun y62=>some (y62.1,y62.2) else bif TStmt.kind a0==11 then (zabo (TStmt.count a0)).bind fun y63=>(qbo a1 [[(114:UInt8),(101:UInt8),(112:UInt8),(101:UInt8),(97:UInt8),(116:UInt8),(32:UInt8)],y63,[(32:UInt8),(123:UInt8)]] a2 a3).bind fun y64=>(rec_qbm (TStmt.then_ a0) (IntKind.wrap IntKind.i64 (a1+(1:Int))) y64.1 y64.2).bind fun y65=>(qbo a1 [[(125:UInt8)]] y65.1 y65.2).bind fun y66=>some (y66.1,y66.2) else some ((a2),(a3))
def qbp (rec_qbm:qbm_o):=sealF (qbp_f rec_qbm)
abbrev qbm_o1:=Int→List TStmt→Int→Int→List ((Int)×(Oper))→List Int→Option ((List ((Int)×(Oper)))×(List Int))
def qbm_t1 (rec_qbm:qbm_o) (rec:qbm_o1):qbm_o1:=fun a0 a1 a2 a3 a4 a5=>bif decide (a3<a2) then bif decide (0≤a3) then (a1[Int.toNat a3]?).bind fun y0=>(qbp rec_qbm (TStmt.mk (TStmt.kind y0) (TStmt.reg y0) (TStmt.name y0) (TExpr.mk (TExpr.kind (TStmt.expr y0)) (TExpr.num (TStmt.expr y0)) (TExpr.name (TStmt.expr y0)) (TExpr.args (TStmt.expr y0))) (TStmt.count y0) (TStmt.then_ y0) (TStmt.else_ y0)) a0 a4 a5).bind fun y1=>rec (a0) (a1) (a2) (IntKind.wrap IntKind.i64 (a3+(1:Int))) y1.1 y1.2 else none else some ((a4),(a5))
def qbm_i1 (rec_qbm:qbm_o):Nat→qbm_o1
 |0=>fun _ _ _ _ _ _=>none
 |n+1=>qbm_t1 rec_qbm (qbm_i1 rec_qbm n)
def qbm_l1 (rec_qbm:qbm_o):=sealF (qbm_i1 rec_qbm fuel)
def qbm_f (rec_qbm:qbm_o):qbm_o:=fun a0 a1 a2 a3=>(qbm_l1 rec_qbm a1 a0 (List.length a0:Int) (0:Int) a2 a3).bind fun y0=>some (y0.1,y0.2)
def qbm_i:Nat→qbm_o
 |0=>fun _ _ _ _=>none
 |n+1=>qbm_f (qbm_i n)
def qbm:=sealF (qbm_i fuel)
def qbt_f (a0:List ((Int)×(Oper))) (a1:List Int):Option (Int×(List ((Int)×(Oper)))×(List Int)):=some (((List.length a1:Int)),(a0),(a1))
def qbt:=sealF (qbt_f)
abbrev qbk_o8:=List TCell→Int→Int→List TCell→List (List UInt8)→List TThread→List ((Int)×(Oper))→List Int→Option ((List TCell)×(List (List UInt8))×(List TThread)×(List ((Int)×(Oper)))×(List Int))
def qbk_t8 (rec:qbk_o8):qbk_o8:=fun a0 a1 a2 a3 a4 a5 a6 a7=>bif decide (a2<a1) then bif decide (0≤a2) then (a0[Int.toNat a2]?).bind fun y0=>(zabo (TCell.init y0)).bind fun y1=>(qbo (0:Int) [[(99:UInt8),(101:UInt8),(108:UInt8),(108:UInt8),(32:UInt8)],TCell.name y0,[(32:UInt8),(61:UInt8),(32:UInt8)],y1,[(59:UInt8)]] a6 a7).bind fun y2=>rec (a0) (a1) (IntKind.wrap IntKind.i64 (a2+(1:Int))) (a3) (a4) (a5) y2.1 y2.2 else none else some ((a3),(a4),(a5),(a6),(a7))
def qbk_i8:Nat→qbk_o8
 |0=>fun _ _ _ _ _ _ _ _=>none
 |n+1=>qbk_t8 (qbk_i8 n)
def qbk_l8:=sealF (qbk_i8 fuel)
abbrev qbk_o13:=List (List UInt8)→Int→Int→List TCell→List (List UInt8)→List TThread→List ((Int)×(Oper))→List Int→Option ((List TCell)×(List (List UInt8))×(List TThread)×(List ((Int)×(Oper)))×(List Int))
def qbk_t13 (rec:qbk_o13):qbk_o13:=fun a0 a1 a2 a3 a4 a5 a6 a7=>bif decide (a2<a1) then bif decide (0≤a2) then (a0[Int.toNat a2]?).bind fun y0=>(qbo (0:Int) [[(109:UInt8),(117:UInt8),(116:UInt8),(101:UInt8),(120:UInt8),(32:UInt8)],y0,[(59:UInt8)]] a6 a7).bind fun y1=>rec (a0) (a1) (IntKind.wrap IntKind.i64 (a2+(1:Int))) (a3) (a4) (a5) y1.1 y1.2 else none else some ((a3),(a4),(a5),(a6),(a7))
def qbk_i13:Nat→qbk_o13
 |0=>fun _ _ _ _ _ _ _ _=>none
 |n+1=>qbk_t13 (qbk_i13 n)
def qbk_l13:=sealF (qbk_i13 fuel)
abbrev qbk_o18:=List TThread→Int→Int→List ((Int)×(Oper))→List Int→Option ((List ((Int)×(Oper)))×(List Int))
def qbk_t18 (rec:qbk_o18):qbk_o18:=fun a0 a1 a2 a3 a4=>bif decide (a2<a1) then bif decide (0≤a2) then (a0[Int.toNat a2]?).bind fun y0=>(qbo (0:Int) [[(116:UInt8),(104:UInt8),(114:UInt8),(101:UInt8),(97:UInt8),(100:UInt8),(32:UInt8)],TThread.name y0,[(32:UInt8),(123:UInt8)]] a3 a4).bind fun y1=>(qbm (TThread.body y0) (1:Int) y1.1 y1.2).bind fun y2=>(qbo (0:Int) [[(125:UInt8)]] y2.1 y2.2).bind fun y3=>rec (a0) (a1) (IntKind.wrap IntKind.i64 (a2+(1:Int))) y3.1 y3.2 else none else some ((a3),(a4))
def qbk_i18:Nat→qbk_o18
 |0=>fun _ _ _ _ _=>none
 |n+1=>qbk_t18 (qbk_i18 n)
def qbk_l18:=sealF (qbk_i18 fuel)
def qbk_f (a0:TProg):Option ((List UInt8)×Int):=(qbC (TProg.mk (TProg.cells a0) (TProg.mutexes a0) (TProg.threads a0))).bind fun y0=>bif y0 != 0 then some (([]),(y0)) else bif decide (IntKind.wrap IntKind.i64 (IntKind.wrap IntKind.i64 ((List.length (TProg.cells a0):Int)+(List.length (TProg.mutexes a0):Int))+(List.length (TProg.threads a0):Int))>4000) then some (([]),((10:Int))) else (qbl).bind fun y1=>(qbk_l8 (TProg.cells a0) (List.length (TProg.cells a0):Int) (0:Int) (TProg.cells a0) (TProg.mutexes a0) (TProg.threads a0) y1 []).bind fun y2=>(qbk_l13 y2.2.1 (List.length y2.2.1:Int) (0:Int) y2.1 y2.2.1 y2.2.2.1 y2.2.2.2.1 y2.2.2.2.2).bind fun y3=>(qbk_l18 y3.2.2.1 (List.length y3.2.2.1:Int) (0:Int) y3.2.2.2.1 y3.2.2.2.2).bind fun y4=>(qbt y4.1 y4.2).bind fun y5=>bif decide (y5.1>4000) then some (([]),((10:Int))) else (zabg y5.2.2).bind fun y6=>some ((y6),((0:Int)))
def qbk:=sealF (qbk_f)
def qas_f:Option (Bool):=(qbk (TProg.mk [TCell.mk [(120:UInt8)] (-3:Int)] [[(109:UInt8)]] [TThread.mk [(116:UInt8)] [TStmt.mk (5:Int) [] [(109:UInt8)] (TExpr.mk (0:Int) (0:Int) [] []) (0:Int) [] [],TStmt.mk (1:Int) [(114:UInt8)] [] (TExpr.mk (6:Int) (0:Int) [] [TExpr.mk (6:Int) (0:Int) [] [TExpr.mk (2:Int) (0:Int) [(97:UInt8)] [],TExpr.mk (2:Int) (0:Int) [(98:UInt8)] []],TExpr.mk (3:Int) (0:Int) [] [TExpr.mk (2:Int) (0:Int) [(99:UInt8)] []]]) (0:Int) [] []]])).bind fun y0=>Option.bind (α:=Bool) ( bif y0.2==0 then some (y0.1==[(99:UInt8),(101:UInt8),(108:UInt8),(108:UInt8),(32:UInt8),(120:UInt8),(32:UInt8),(61:UInt8),(32:UInt8),(45:UInt8),(51:UInt8),(59:UInt8),(10:UInt8),(109:UInt8),(117:UInt8),(116:UInt8),(101:UInt8),(120:UInt8),(32:UInt8),(109:UInt8),(59:UInt8),(10:UInt8),(116:UInt8),(104:UInt8),(114:UInt8),(101:UInt8),(97:UInt8),(100:UInt8),(32:UInt8),(116:UInt8),(32:UInt8),(123:UInt8),(10:UInt8),(32:UInt8),(32:UInt8),(108:UInt8),(111:UInt8),(99:UInt8),(107:UInt8),(32:UInt8),(109:UInt8),(59:UInt8),(10:UInt8),(32:UInt8),(32:UInt8),(114:UInt8),(32:UInt8),(58:UInt8),(61:UInt8),(32:UInt8),(97:UInt8),(32:UInt8),(45:UInt8),(32:UInt8),(98:UInt8),(32:UInt8),(45:UInt8),(32:UInt8),(45:UInt8),(99:UInt8),(59:UInt8),(10:UInt8),(125:UInt8),(10:UInt8)]) else some (false)) fun y1=>some (y1)
def qas:=sealF (qas_f)
abbrev qaN_o:=TExpr→Option (Int×Int×(List UInt8)×(List TExpr))
abbrev qaN_o3:=Int→Int→Int→List UInt8→List TExpr→Int→Int→List UInt8→Int→Int→List UInt8→List TExpr→Option (Int×Int×(List UInt8)×Int×Int×(List UInt8)×(List TExpr))
def qaN_t3 (rec_qaN:qaN_o) (rec:qaN_o3):qaN_o3:=fun a0 a1 a2 a3 a4 a5 a6 a7 a8 a9 a10 a11=>bif decide (a0<(List.length a4:Int)) then bif decide (0≤a0) then (a4[Int.toNat a0]?).bind fun y0=>(rec_qaN y0).bind fun y1=>bif decide ((List.length a11+List.length [TExpr.mk y1.1 y1.2.1 y1.2.2.1 y1.2.2.2])*(56:Nat)≤(140737488355328:Nat)∧List.length a11+List.length [TExpr.mk y1.1 y1.2.1 y1.2.2.1 y1.2.2.2]≤(9223372036854775807:Nat)) then rec (IntKind.wrap IntKind.i64 (a0+(1:Int))) (a1) (a2) (a3) (a4) (a5) (a6) (a7) (a8) (a9) (a10) (a11++[TExpr.mk y1.1 y1.2.1 y1.2.2.1 y1.2.2.2]) else none else none else some ((a5),(a6),(a7),(a8),(a9),(a10),(a11))
def qaN_i3 (rec_qaN:qaN_o):Nat→qaN_o3
 |0=>fun _ _ _ _ _ _ _ _ _ _ _ _=>none
 |n+1=>qaN_t3 rec_qaN (qaN_i3 rec_qaN n)
def qaN_l3 (rec_qaN:qaN_o):=sealF (qaN_i3 rec_qaN fuel)
def qaN_f (rec_qaN:qaN_o):qaN_o:=fun a0=>(qaN_l3 rec_qaN (0:Int) (TExpr.kind a0) (TExpr.num a0) (TExpr.name a0) (TExpr.args a0) (0:Int) (0:Int) [] (TExpr.kind a0) (TExpr.num a0) (TExpr.name a0) []).bind fun y0=>some (y0.2.2.2.1,y0.2.2.2.2.1,y0.2.2.2.2.2.1,y0.2.2.2.2.2.2)
def qaN_i:Nat→qaN_o
 |0=>fun _=>none
 |n+1=>qaN_f (qaN_i n)
def qaN:=sealF (qaN_i fuel)
abbrev qaO_o:=List TStmt→Option ((List TStmt))
abbrev qaO_o3:=List TStmt→Int→List TStmt→Option ((List TStmt))
def qaO_t3 (rec_qaO:qaO_o) (rec:qaO_o3):qaO_o3:=fun a0 a1 a2=>bif decide (a1<(List.length a0:Int)) then bif decide (0≤a1) then (a0[Int.toNat a1]?).bind fun y0=>bif decide (0≤a1) then (a0[Int.toNat a1]?).bind fun y1=>(qaN (TExpr.mk (TExpr.kind (TStmt.expr y1)) (TExpr.num (TStmt.expr y1)) (TExpr.name (TStmt.expr y1)) (TExpr.args (TStmt.expr y1)))).bind fun y2=>bif decide (0≤a1) then (a0[Int.toNat a1]?).bind fun y3=>(rec_qaO (TStmt.then_ y3)).bind fun y4=>bif decide (0≤a1) then (a0[Int.toNat a1]?).bind fun y5=>(rec_qaO (TStmt.else_ y5)).bind fun y6=>bif decide ((List.length a2+List.length [TStmt.mk (TStmt.kind y0) (TStmt.reg y0) (TStmt.name y0) (TExpr.mk y2.1 y2.2.1 y2.2.2.1 y2.2.2.2) (TStmt.count y0) y4 y6])*(152:Nat)≤(140737488355328:Nat)∧List.length a2+List.length [TStmt.mk (TStmt.kind y0) (TStmt.reg y0) (TStmt.name y0) (TExpr.mk y2.1 y2.2.1 y2.2.2.1 y2.2.2.2) (TStmt.count y0) y4 y6]≤(9223372036854775807:Nat)) then rec (a0) (IntKind.wrap IntKind.i64 (a1+(1:Int))) (a2++[TStmt.mk (TStmt.kind y0) (TStmt.reg y0) (TStmt.name y0) (TExpr.mk y2.1 y2.2.1 y2.2.2.1 y2.2.2.2) (TStmt.count y0) y4 y6]) else none else none else none else none else none else some (a2)
def qaO_i3 (rec_qaO:qaO_o):Nat→qaO_o3
 |0=>fun _ _ _=>none
 |n+1=>qaO_t3 rec_qaO (qaO_i3 rec_qaO n)
def qaO_l3 (rec_qaO:qaO_o):=sealF (qaO_i3 rec_qaO fuel)
def qaO_f (rec_qaO:qaO_o):qaO_o:=fun a0=>(qaO_l3 rec_qaO a0 (0:Int) []).bind fun y0=>some (y0)
def qaO_i:Nat→qaO_o
 |0=>fun _=>none
 |n+1=>qaO_f (qaO_i n)
def qaO:=sealF (qaO_i fuel)
abbrev qaM_o5:=Int→List TCell→List (List UInt8)→List TThread→List TCell→List (List UInt8)→List TThread→Option ((List TCell)×(List (List UInt8))×(List TThread))
def qaM_t5 (rec:qaM_o5):qaM_o5:=fun a0 a1 a2 a3 a4 a5 a6=>bif decide (a0<(List.length a3:Int)) then bif decide (0≤a0) then (a3[Int.toNat a0]?).bind fun y0=>(qaO (TThread.body y0)).bind fun y1=>bif decide (0≤a0) then (a3[Int.toNat a0]?).bind fun y2=>bif decide ((List.length a6+List.length [TThread.mk (TThread.name y2) y1])*(40:Nat)≤(140737488355328:Nat)∧List.length a6+List.length [TThread.mk (TThread.name y2) y1]≤(9223372036854775807:Nat)) then rec (IntKind.wrap IntKind.i64 (a0+(1:Int))) (a1) (a2) (a3) (a4) (a5) (a6++[TThread.mk (TThread.name y2) y1]) else none else none else none else some ((a4),(a5),(a6))
def qaM_i5:Nat→qaM_o5
 |0=>fun _ _ _ _ _ _ _=>none
 |n+1=>qaM_t5 (qaM_i5 n)
def qaM_l5:=sealF (qaM_i5 fuel)
def qaM_f (a0:TProg):Option ((List TCell)×(List (List UInt8))×(List TThread)):=bif decide (List.length (TProg.cells a0)*(24:Nat)≤(140737488355328:Nat)∧List.length (TProg.cells a0)≤(9223372036854775807:Nat)) then bif decide (List.length (TProg.mutexes a0)*(16:Nat)≤(140737488355328:Nat)∧List.length (TProg.mutexes a0)≤(9223372036854775807:Nat)) then (qaM_l5 (0:Int) (TProg.cells a0) (TProg.mutexes a0) (TProg.threads a0) (TProg.cells a0) (TProg.mutexes a0) []).bind fun y0=>some (y0.1,y0.2.1,y0.2.2) else none else none
def qaM:=sealF (qaM_f)
def qaw_f (a0:Int):Option (Bool):=bif decide (a0≥0) then bif decide (a0≤1114111) then bif decide (a0<55296) then some (true) else some (decide (a0>57343)) else some (false) else some (false)
def qaw:=sealF (qaw_f)
def qaz_f (a0:Int):Option (Int):=bif decide (a0<128) then some ((1:Int)) else bif decide (a0<2048) then some ((2:Int)) else bif decide (a0<65536) then some ((3:Int)) else some ((4:Int))
def qaz:=sealF (qaz_f)
abbrev qat_o18:=List UInt8→Int→Int→Int→Int→Option ((Int×Int)⊕(Int×Int))
def qat_t18 (rec:qat_o18):qat_o18:=fun a0 a1 a2 a3 a4=>bif decide (a4<a2) then bif decide ((0:Int)≤IntKind.wrap IntKind.i64 (a1+a4)) then (a0[Int.toNat (IntKind.wrap IntKind.i64 (a1+a4))]?).bind fun y0=>bif decide (IntKind.wrap IntKind.i64 (↑(UInt8.toNat y0):Int)<128) then some (.inl (((0:Int)),((0:Int)))) else bif decide (IntKind.wrap IntKind.i64 (↑(UInt8.toNat y0):Int)>191) then some (.inl (((0:Int)),((0:Int)))) else rec (a0) (a1) (a2) (IntKind.wrap IntKind.i64 (IntKind.wrap IntKind.i64 (IntKind.wrap IntKind.i64 ((64:Int)*a3)+IntKind.wrap IntKind.i64 (↑(UInt8.toNat y0):Int))-(128:Int))) (IntKind.wrap IntKind.i64 (a4+(1:Int))) else none else some (.inr ((a2),(a3)))
def qat_i18:Nat→qat_o18
 |0=>fun _ _ _ _ _=>none
 |n+1=>qat_t18 (qat_i18 n)
def qat_l18:=sealF (qat_i18 fuel)
def qat_f (a0:List UInt8) (a1:Int):Option (Int×Int):=bif decide (0≤a1) then (a0[Int.toNat a1]?).bind fun y0=>bif decide (IntKind.wrap IntKind.i64 (↑(UInt8.toNat y0):Int)≥240) then bif decide (IntKind.wrap IntKind.i64 ((List.length a0:Int)-a1)<4) then some (((0:Int)),((0:Int))) else (qat_l18 a0 a1 (4:Int) (IntKind.wrap IntKind.i64 (IntKind.wrap IntKind.i64 (↑(UInt8.toNat y0):Int)-(240:Int))) (1:Int)).bind fun y1=>(match y1 with|.inl y2=>some (y2.1,y2.2)|.inr y2=>(qaw y2.2).bind fun y3=>bif !y3 then some (((0:Int)),((0:Int))) else (qaz y2.2).bind fun y4=>bif y4 != y2.1 then some (((0:Int)),((0:Int))) else some (y2.2,y2.1)) else bif decide (IntKind.wrap IntKind.i64 (↑(UInt8.toNat y0):Int)≥224) then bif decide (IntKind.wrap IntKind.i64 ((List.length a0:Int)-a1)<3) then some (((0:Int)),((0:Int))) else (qat_l18 a0 a1 (3:Int) (IntKind.wrap IntKind.i64 (IntKind.wrap IntKind.i64 (↑(UInt8.toNat y0):Int)-(224:Int))) (1:Int)).bind fun y5=>(match y5 with|.inl y6=>some (y6.1,y6.2)|.inr y6=>(qaw y6.2).bind fun y7=>bif !y7 then some (((0:Int)),((0:Int))) else (qaz y6.2).bind fun y8=>bif y8 != y6.1 then some (((0:Int)),((0:Int))) else some (y6.2,y6.1)) else bif decide (IntKind.wrap IntKind.i64 (↑(UInt8.toNat y0):Int)≥192) then bif decide (IntKind.wrap IntKind.i64 ((List.length a0:Int)-a1)<2) then some (((0:Int)),((0:Int))) else (qat_l18 a0 a1 (2:Int) (IntKind.wrap IntKind.i64 (IntKind.wrap IntKind.i64 (↑(UInt8.toNat y0):Int)-(192:Int))) (1:Int)).bind fun y9=>(match y9 with|.inl y10=>some (y10.1,y10.2)|.inr y10=>(qaw y10.2).bind fun y11=>bif !y11 then some (((0:Int)),((0:Int))) else (qaz y10.2).bind fun y12=>bif y12 != y10.1 then some (((0:Int)),((0:Int))) else some (y10.2,y10.1)) else bif decide (IntKind.wrap IntKind.i64 (↑(UInt8.toNat y0):Int)≥128) then some (((0:Int)),((0:Int))) else bif decide (IntKind.wrap IntKind.i64 ((List.length a0:Int)-a1)<1) then some (((0:Int)),((0:Int))) else (qat_l18 a0 a1 (1:Int) (IntKind.wrap IntKind.i64 (↑(UInt8.toNat y0):Int)) (1:Int)).bind fun y13=>(match y13 with|.inl y14=>some (y14.1,y14.2)|.inr y14=>(qaw y14.2).bind fun y15=>bif !y15 then some (((0:Int)),((0:Int))) else (qaz y14.2).bind fun y16=>bif y16 != y14.1 then some (((0:Int)),((0:Int))) else some (y14.2,y14.1)) else none
def qat:=sealF (qat_f)
def qaA_f (a0:Spot) (a1:Int) (a2:Int):Option (Spot):=bif a1==10 then some (Spot.mk (Spot.rune a0) (IntKind.wrap IntKind.i64 (Spot.at_ a0+a2)) (IntKind.wrap IntKind.i64 (Spot.line a0+(1:Int))) (1:Int)) else some (Spot.mk (Spot.rune a0) (IntKind.wrap IntKind.i64 (Spot.at_ a0+a2)) (Spot.line a0) (IntKind.wrap IntKind.i64 (Spot.col a0+(1:Int))))
def qaA:=sealF (qaA_f)
abbrev qaB_o3:=List UInt8→Int→Int→Int→Int→Int→Int→Int→Int→List Spot→Option (Int×Int×Int×Int×Int×Int×Int×Int×(List Spot))
def qaB_t3 (rec:qaB_o3):qaB_o3:=fun a0 a1 a2 a3 a4 a5 a6 a7 a8 a9=>bif decide (a6<(List.length a0:Int)) then (qat a0 a6).bind fun y0=>bif y0.2==0 then some ((a1),(a2),(a3),(a4),(a5),(a6),(a7),(a8),(a9)) else bif decide ((List.length a9+List.length [Spot.mk y0.1 a6 a7 a8])*(32:Nat)≤(140737488355328:Nat)∧List.length a9+List.length [Spot.mk y0.1 a6 a7 a8]≤(9223372036854775807:Nat)) then (qaA (Spot.mk y0.1 a6 a7 a8) y0.1 y0.2).bind fun y1=>rec (a0) (a1) (a2) (a3) (a4) (Spot.rune y1) (Spot.at_ y1) (Spot.line y1) (Spot.col y1) (a9++[Spot.mk y0.1 a6 a7 a8]) else none else some ((a1),(a2),(a3),(a4),(a5),(a6),(a7),(a8),(a9))
def qaB_i3:Nat→qaB_o3
 |0=>fun _ _ _ _ _ _ _ _ _ _=>none
 |n+1=>qaB_t3 (qaB_i3 n)
def qaB_l3:=sealF (qaB_i3 fuel)
def qaB_f (a0:List UInt8):Option (Spot×(List Spot)):=(qaB_l3 a0 (0:Int) (0:Int) (0:Int) (0:Int) (0:Int) (0:Int) (1:Int) (1:Int) []).bind fun y0=>some ((Spot.mk (-1:Int) y0.2.2.2.2.2.1 y0.2.2.2.2.2.2.1 y0.2.2.2.2.2.2.2.1),y0.2.2.2.2.2.2.2.2)
def qaB:=sealF (qaB_f)
def qay_f (a0:List UInt8):Option (Fault×(List Spot)):=bif decide ((List.length a0:Int)>4000) then some ((Fault.mk (10:Int) (4000:Int) []),([])) else (qaB a0).bind fun y0=>bif decide (Spot.at_ y0.1<(List.length a0:Int)) then some ((Fault.mk (11:Int) (Spot.at_ y0.1) []),([])) else some ((Fault.mk (0:Int) (0:Int) []),y0.2)
def qay:=sealF (qay_f)
def qau_f (a0:Int):Option (Bool):=bif a0==9 then some (true) else bif a0==10 then some (true) else bif a0==13 then some (true) else some (a0==32)
def qau:=sealF (qau_f)
def qax_f (a0:Int):Option (Bool):=(qaw a0).bind fun y0=>bif y0 then bif decide (a0≥65) then bif decide (a0≤90) then some (true) else bif a0==95 then some (true) else bif decide (a0≥97) then bif decide (a0≤122) then some (true) else some (decide (a0≥192)) else some (decide (a0≥192)) else bif a0==95 then some (true) else bif decide (a0≥97) then bif decide (a0≤122) then some (true) else some (decide (a0≥192)) else some (decide (a0≥192)) else some (false)
def qax:=sealF (qax_f)
def qav_f (a0:Int):Option (Bool):=bif decide (a0≥48) then some (decide (a0≤57)) else some (false)
def qav:=sealF (qav_f)
abbrev qaI_o2:=List Spot→Int→Option (Int)
def qaI_t2 (rec:qaI_o2):qaI_o2:=fun a0 a1=>bif decide (a1<(List.length a0:Int)) then bif decide (0≤a1) then (a0[Int.toNat a1]?).bind fun y0=>(qax (Spot.rune y0)).bind fun y1=>bif decide (0≤a1) then (a0[Int.toNat a1]?).bind fun y2=>(qav (Spot.rune y2)).bind fun y3=>bif !y1 then bif !y3 then some (a1) else rec (a0) (IntKind.wrap IntKind.i64 (a1+(1:Int))) else rec (a0) (IntKind.wrap IntKind.i64 (a1+(1:Int))) else none else none else some (a1)
def qaI_i2:Nat→qaI_o2
 |0=>fun _ _=>none
 |n+1=>qaI_t2 (qaI_i2 n)
def qaI_l2:=sealF (qaI_i2 fuel)
def qaI_f (a0:List Spot) (a1:Int):Option (Int):=(qaI_l2 a0 a1).bind fun y0=>some (y0)
def qaI:=sealF (qaI_f)
def qaH_f (a0:List Spot) (a1:List UInt8) (a2:Int) (a3:Int):Option ((List UInt8)):=bif decide (a3<(List.length a0:Int)) then bif decide (0≤a3) then (a0[Int.toNat a3]?).bind fun y0=>bif decide (0≤a2) then (a0[Int.toNat a2]?).bind fun y1=>bif decide ((0:Int)≤Spot.at_ y1)&&(decide (Spot.at_ y1≤Spot.at_ y0)&&decide (Spot.at_ y0≤(List.length a1:Int))) then some (List.drop (Int.toNat (Spot.at_ y1)) (List.take (Int.toNat (Spot.at_ y0)) a1)) else none else none else none else bif decide (0≤a2) then (a0[Int.toNat a2]?).bind fun y2=>bif decide ((0:Int)≤Spot.at_ y2)&&(decide (Spot.at_ y2≤(List.length a1:Int))&&decide ((List.length a1:Int)≤(List.length a1:Int))) then some (List.drop (Int.toNat (Spot.at_ y2)) (List.take (Int.toNat (List.length a1:Int)) a1)) else none else none
def qaH:=sealF (qaH_f)
def qaF_f:Option ((List (List UInt8))):=some ([[(97:UInt8),(100:UInt8),(100:UInt8)],[(97:UInt8),(115:UInt8),(115:UInt8),(101:UInt8),(114:UInt8),(116:UInt8)],[(99:UInt8),(101:UInt8),(108:UInt8),(108:UInt8)],[(101:UInt8),(108:UInt8),(115:UInt8),(101:UInt8)],[(105:UInt8),(102:UInt8)],[(106:UInt8),(111:UInt8),(105:UInt8),(110:UInt8)],[(108:UInt8),(111:UInt8),(99:UInt8),(107:UInt8)],[(109:UInt8),(117:UInt8),(116:UInt8),(101:UInt8),(120:UInt8)],[(114:UInt8),(101:UInt8),(112:UInt8),(101:UInt8),(97:UInt8),(116:UInt8)],[(115:UInt8),(116:UInt8),(97:UInt8),(114:UInt8),(116:UInt8)],[(116:UInt8),(104:UInt8),(114:UInt8),(101:UInt8),(97:UInt8),(100:UInt8)],[(117:UInt8),(110:UInt8),(108:UInt8),(111:UInt8),(99:UInt8),(107:UInt8)]])
def qaF:=sealF (qaF_f)
abbrev qaC_o2:=List (List UInt8)→List UInt8→Int→Option ((Bool)⊕(Unit))
def qaC_t2 (rec:qaC_o2):qaC_o2:=fun a0 a1 a2=>bif decide (a2<(List.length a0:Int)) then bif decide (0≤a2) then (a0[Int.toNat a2]?).bind fun y0=>bif y0==a1 then some (.inl (true)) else rec (a0) (a1) (IntKind.wrap IntKind.i64 (a2+(1:Int))) else none else some (.inr ())
def qaC_i2:Nat→qaC_o2
 |0=>fun _ _ _=>none
 |n+1=>qaC_t2 (qaC_i2 n)
def qaC_l2:=sealF (qaC_i2 fuel)
def qaC_f (a0:List (List UInt8)) (a1:List UInt8):Option (Bool):=(qaC_l2 a0 a1 (0:Int)).bind fun y0=>(match y0 with|.inl y1=>some (y1)|.inr y1=>some (false))
def qaC:=sealF (qaC_f)
abbrev qaG_o5:=List UInt8→Int→Int→Option ((Int×Bool)⊕(Int))
def qaG_t5 (rec:qaG_o5):qaG_o5:=fun a0 a1 a2=>bif decide (a2<(List.length a0:Int)) then bif decide (0≤a2) then (a0[Int.toNat a2]?).bind fun y0=>bif decide ((↑(UInt8.toNat y0):Int)<48) then some (.inl (((0:Int)),(false))) else bif decide (0≤a2) then (a0[Int.toNat a2]?).bind fun y1=>bif decide ((↑(UInt8.toNat y1):Int)>57) then some (.inl (((0:Int)),(false))) else bif decide (0≤a2) then (a0[Int.toNat a2]?).bind fun y2=>rec (a0) (IntKind.wrap IntKind.i64 (IntKind.wrap IntKind.i64 (IntKind.wrap IntKind.i64 ((10:Int)*a1)+IntKind.wrap IntKind.i64 (↑(UInt8.toNat y2):Int))-(48:Int))) (IntKind.wrap IntKind.i64 (a2+(1:Int))) else none else none else none else some (.inr (a1))
def qaG_i5:Nat→qaG_o5
 |0=>fun _ _ _=>none
 |n+1=>qaG_t5 (qaG_i5 n)
def qaG_l5:=sealF (qaG_i5 fuel)
def qaG_f (a0:List UInt8):Option (Int×Bool):=bif decide ((List.length a0:Int)>1) then (a0[(0:Nat)]?).bind fun y0=>bif (↑(UInt8.toNat y0):Int)==48 then some (((0:Int)),(false)) else bif decide ((List.length a0:Int)>10) then some (((0:Int)),(false)) else bif (List.length a0:Int)==0 then some (((0:Int)),(false)) else (qaG_l5 a0 (0:Int) (0:Int)).bind fun y1=>(match y1 with|.inl y2=>some (y2.1,y2.2)|.inr y2=>some ((y2),(decide (y2≤2147483647)))) else bif decide ((List.length a0:Int)>10) then some (((0:Int)),(false)) else bif (List.length a0:Int)==0 then some (((0:Int)),(false)) else (qaG_l5 a0 (0:Int) (0:Int)).bind fun y3=>(match y3 with|.inl y4=>some (y4.1,y4.2)|.inr y4=>some ((y4),(decide (y4≤2147483647))))
def qaG:=sealF (qaG_f)
def qaK_f:Option ((List (List UInt8))):=some ([[(58:UInt8),(61:UInt8)],[(60:UInt8),(45:UInt8)],[(61:UInt8),(61:UInt8)],[(33:UInt8),(61:UInt8)],[(60:UInt8),(61:UInt8)],[(62:UInt8),(61:UInt8)],[(38:UInt8),(38:UInt8)],[(124:UInt8),(124:UInt8)],[(61:UInt8)],[(60:UInt8)],[(62:UInt8)],[(33:UInt8)],[(43:UInt8)],[(45:UInt8)],[(42:UInt8)],[(47:UInt8)],[(37:UInt8)],[(59:UInt8)],[(123:UInt8)],[(125:UInt8)],[(40:UInt8)],[(41:UInt8)]])
def qaK:=sealF (qaK_f)
abbrev qaJ_o3:=List UInt8→Int→Int→List (List UInt8)→Option (((List UInt8))⊕(Unit))
def qaJ_t3 (rec:qaJ_o3):qaJ_o3:=fun a0 a1 a2 a3=>bif decide (a2<(List.length a3:Int)) then bif decide (0≤a2)&&decide (a2<(List.length a3:Int)) then (a3[Int.toNat a2]?).bind fun y0=>bif decide (IntKind.wrap IntKind.i64 ((List.length a0:Int)-a1)≥(List.length y0:Int)) then bif decide (0≤a1)&&(decide (a1≤IntKind.wrap IntKind.i64 (a1+(List.length y0:Int)))&&decide (IntKind.wrap IntKind.i64 (a1+(List.length y0:Int))≤(List.length a0:Int))) then bif decide (0≤a2)&&decide (a2<(List.length a3:Int)) then (a3[Int.toNat a2]?).bind fun y1=>bif List.drop (Int.toNat a1) (List.take (Int.toNat (IntKind.wrap IntKind.i64 (a1+(List.length y0:Int)))) a0)==y1 then bif decide (0≤a2)&&decide (a2<(List.length a3:Int)) then (a3[Int.toNat a2]?).bind fun y2=>some (.inl (y2)) else none else rec (a0) (a1) (IntKind.wrap IntKind.i64 (a2+(1:Int))) (a3) else none else none else rec (a0) (a1) (IntKind.wrap IntKind.i64 (a2+(1:Int))) (a3) else none else some (.inr ())
def qaJ_i3:Nat→qaJ_o3
 |0=>fun _ _ _ _=>none
 |n+1=>qaJ_t3 (qaJ_i3 n)
def qaJ_l3:=sealF (qaJ_i3 fuel)
def qaJ_f (a0:List UInt8) (a1:Int):Option ((List UInt8)):=(qaK).bind fun y0=>(qaJ_l3 a0 a1 (0:Int) y0).bind fun y1=>(match y1 with|.inl y2=>some (y2)|.inr y2=>some ([]))
def qaJ:=sealF (qaJ_f)
def qaL_f (a0:List Spot) (a1:List UInt8) (a2:Int):Option (Token×Int×Int):=bif decide (0≤a2) then (a0[Int.toNat a2]?).bind fun y0=>(qax (Spot.rune y0)).bind fun y1=>(qav (Spot.rune y0)).bind fun y2=>bif decide (0≤a2) then (a0[Int.toNat a2]?).bind fun y3=>bif y1 then (qaI a0 a2).bind fun y4=>(qaH a0 a1 a2 y4).bind fun y5=>(qaF).bind fun y6=>(qaC y6 y5).bind fun y7=>bif y2 then (qaG y5).bind fun y8=>bif !y8.2 then some ((Token.mk (0:Int) y5 (0:Int) (Spot.at_ y3)),(a2),((22:Int))) else some ((Token.mk (2:Int) y5 y8.1 (Spot.at_ y3)),(y4),((0:Int))) else bif y7 then some ((Token.mk (4:Int) y5 (0:Int) (Spot.at_ y3)),(y4),((0:Int))) else bif decide (IntKind.wrap IntKind.i64 (y4-a2)>16) then some ((Token.mk (0:Int) y5 (0:Int) (Spot.at_ y3)),(a2),((21:Int))) else some ((Token.mk (1:Int) y5 (0:Int) (Spot.at_ y3)),(y4),((0:Int))) else bif y2 then (qaI a0 a2).bind fun y9=>(qaH a0 a1 a2 y9).bind fun y10=>(qaF).bind fun y11=>(qaC y11 y10).bind fun y12=>bif y2 then (qaG y10).bind fun y13=>bif !y13.2 then some ((Token.mk (0:Int) y10 (0:Int) (Spot.at_ y3)),(a2),((22:Int))) else some ((Token.mk (2:Int) y10 y13.1 (Spot.at_ y3)),(y9),((0:Int))) else bif y12 then some ((Token.mk (4:Int) y10 (0:Int) (Spot.at_ y3)),(y9),((0:Int))) else bif decide (IntKind.wrap IntKind.i64 (y9-a2)>16) then some ((Token.mk (0:Int) y10 (0:Int) (Spot.at_ y3)),(a2),((21:Int))) else some ((Token.mk (1:Int) y10 (0:Int) (Spot.at_ y3)),(y9),((0:Int))) else bif decide (0≤a2) then (a0[Int.toNat a2]?).bind fun y14=>(qaJ a1 (Spot.at_ y14)).bind fun y15=>bif y15==[] then some ((Token.mk (0:Int) y15 (0:Int) (Spot.at_ y3)),(a2),((20:Int))) else some ((Token.mk (3:Int) y15 (0:Int) (Spot.at_ y3)),(IntKind.wrap IntKind.i64 (a2+(List.length y15:Int))),((0:Int))) else none else none else none
def qaL:=sealF (qaL_f)
abbrev qaE_o11:=List UInt8→List Spot→Int→Int→Int→List UInt8→List Token→Option ((List UInt8)×(List Spot)×Int×Int×Int×(List UInt8)×(List Token))
def qaE_t11 (rec:qaE_o11):qaE_o11:=fun a0 a1 a2 a3 a4 a5 a6=>bif decide (a2<(List.length a1:Int)) then bif decide (0≤a2) then (a1[Int.toNat a2]?).bind fun y0=>bif Spot.rune y0 != 10 then rec (a0) (a1) (IntKind.wrap IntKind.i64 (a2+(1:Int))) (a3) (a4) (a5) (a6) else some ((a0),(a1),(a2),(a3),(a4),(a5),(a6)) else none else some ((a0),(a1),(a2),(a3),(a4),(a5),(a6))
def qaE_i11:Nat→qaE_o11
 |0=>fun _ _ _ _ _ _ _=>none
 |n+1=>qaE_t11 (qaE_i11 n)
def qaE_l11:=sealF (qaE_i11 fuel)
abbrev qaE_o6:=List UInt8→List Spot→Int→Int→Int→List UInt8→List Token→Option ((Int×Int×(List UInt8))⊕((List UInt8)×Int×Int×(List UInt8)×(List Token)))
def qaE_t6 (rec:qaE_o6):qaE_o6:=fun a0 a1 a2 a3 a4 a5 a6=>bif decide (a2<(List.length a1:Int)) then bif decide (0≤a2) then (a1[Int.toNat a2]?).bind fun y0=>(qau (Spot.rune y0)).bind fun y1=>bif y1 then rec (a0) (a1) (IntKind.wrap IntKind.i64 (a2+(1:Int))) (a3) (a4) (a5) (a6) else bif decide (0≤a2) then (a1[Int.toNat a2]?).bind fun y2=>bif Spot.rune y2==35 then (qaE_l11 a0 a1 a2 a3 a4 a5 a6).bind fun y3=>rec y3.1 y3.2.1 y3.2.2.1 y3.2.2.2.1 y3.2.2.2.2.1 y3.2.2.2.2.2.1 y3.2.2.2.2.2.2 else (qaL a1 a0 a2).bind fun y4=>bif y4.2.2 != 0 then some (.inl (y4.2.2,(Token.at_ y4.1),([]))) else bif decide ((List.length a6+List.length [Token.mk (Token.kind y4.1) (Token.text y4.1) (Token.num y4.1) (Token.at_ y4.1)])*(40:Nat)≤(140737488355328:Nat)∧List.length a6+List.length [Token.mk (Token.kind y4.1) (Token.text y4.1) (Token.num y4.1) (Token.at_ y4.1)]≤(9223372036854775807:Nat)) then rec (a0) (a1) y4.2.1 (a3) (a4) (a5) (a6++[Token.mk (Token.kind y4.1) (Token.text y4.1) (Token.num y4.1) (Token.at_ y4.1)]) else none else none else none else some (.inr ((a0),(a3),(a4),(a5),(a6)))
def qaE_i6:Nat→qaE_o6
 |0=>fun _ _ _ _ _ _ _=>none
 |n+1=>qaE_t6 (qaE_i6 n)
def qaE_l6:=sealF (qaE_i6 fuel)
def qaE_f (a0:List UInt8):Option (Fault×(List Token)):=(qay a0).bind fun y0=>bif Fault.code y0.1 != 0 then some ((Fault.mk (Fault.code y0.1) (Fault.at_ y0.1) (Fault.name y0.1)),([])) else (qaE_l6 a0 y0.2 (0:Int) (0:Int) (0:Int) [] []).bind fun y1=>(match y1 with|.inl y2=>some ((Fault.mk y2.1 y2.2.1 y2.2.2),([]))|.inr y2=>bif decide ((List.length y2.2.2.2.2+List.length [Token.mk (5:Int) [] (0:Int) (List.length y2.1:Int)])*(40:Nat)≤(140737488355328:Nat)∧List.length y2.2.2.2.2+List.length [Token.mk (5:Int) [] (0:Int) (List.length y2.1:Int)]≤(9223372036854775807:Nat)) then some ((Fault.mk (0:Int) (0:Int) []),(y2.2.2.2.2++[Token.mk (5:Int) [] (0:Int) (List.length y2.1:Int)])) else none)
def qaE:=sealF (qaE_f)
def qaD_f (a0:List UInt8):Option (Bool):=bif decide ((List.length a0:Int)>64) then some (false) else (qaE a0).bind fun y0=>bif Fault.code y0.1==0 then bif (List.length y0.2:Int)==2 then bif decide ((0:Int)≤(0:Int))&&decide ((0:Int)<(List.length y0.2:Int)) then (y0.2[(0:Nat)]?).bind fun y1=>bif Token.kind y1==1 then bif decide ((0:Int)≤(0:Int))&&decide ((0:Int)<(List.length y0.2:Int)) then (y0.2[(0:Nat)]?).bind fun y2=>some (Token.text y2==a0) else none else some (false) else none else some (false) else some (false)
def qaD:=sealF (qaD_f)
def qaU_f (a0:Int):Option (Bool×Bool×Bool×Bool×Bool×Bool):=bif a0==1 then some ((true),(false),(true),(false),(false),(false)) else bif a0==2 then some ((true),(true),(false),(false),(false),(false)) else bif a0==3 then some ((false),(true),(true),(false),(false),(false)) else bif a0==4 then some ((true),(true),(true),(false),(false),(false)) else bif a0==5 then bif a0==5 then some ((false),(true),(false),(false),(false),(false)) else bif a0==9 then some ((false),(false),(true),(false),(false),(false)) else bif a0==10 then some ((false),(false),(true),(false),(true),(true)) else bif a0==11 then some ((false),(false),(false),(true),(true),(false)) else some ((false),(false),(false),(false),(false),(false)) else bif a0==6 then bif a0==6 then some ((false),(true),(false),(false),(false),(false)) else bif a0==9 then some ((false),(false),(true),(false),(false),(false)) else bif a0==10 then some ((false),(false),(true),(false),(true),(true)) else bif a0==11 then some ((false),(false),(false),(true),(true),(false)) else some ((false),(false),(false),(false),(false),(false)) else bif a0==7 then bif a0==7 then some ((false),(true),(false),(false),(false),(false)) else bif a0==9 then some ((false),(false),(true),(false),(false),(false)) else bif a0==10 then some ((false),(false),(true),(false),(true),(true)) else bif a0==11 then some ((false),(false),(false),(true),(true),(false)) else some ((false),(false),(false),(false),(false),(false)) else bif a0==8 then some ((false),(true),(false),(false),(false),(false)) else bif a0==9 then some ((false),(false),(true),(false),(false),(false)) else bif a0==10 then some ((false),(false),(true),(false),(true),(true)) else bif a0==11 then some ((false),(false),(false),(true),(true),(false)) else some ((false),(false),(false),(false),(false),(false))
def qaU:=sealF (qaU_f)
abbrev qaT_o:=TExpr→Option (Bool)
abbrev qaT_o14:=Int→Int→Int→List UInt8→List TExpr→Option ((Bool)⊕(Unit))
def qaT_t14 (rec_qaT:qaT_o) (rec:qaT_o14):qaT_o14:=fun a0 a1 a2 a3 a4=>bif decide (a0<(List.length a4:Int)) then bif decide (0≤a0) then (a4[Int.toNat a0]?).bind fun y0=>(rec_qaT y0).bind fun y1=>bif !y1 then some (.inl (false)) else rec (IntKind.wrap IntKind.i64 (a0+(1:Int))) (a1) (a2) (a3) (a4) else none else some (.inr ())
def qaT_i14 (rec_qaT:qaT_o):Nat→qaT_o14
 |0=>fun _ _ _ _ _=>none
 |n+1=>qaT_t14 rec_qaT (qaT_i14 rec_qaT n)
def qaT_l14 (rec_qaT:qaT_o):=sealF (qaT_i14 rec_qaT fuel)
def qaT_f (rec_qaT:qaT_o):qaT_o:=fun a0=>bif TExpr.kind a0==1 then Option.bind (α:=Bool) ( bif decide (TExpr.num a0≥0) then some (decide (TExpr.num a0≤2147483647)) else some (false)) fun y0=>Option.bind (α:=Bool) ( bif y0 then some (TExpr.name a0==[]) else some (false)) fun y1=>Option.bind (α:=Bool) ( bif y1 then some ((List.length (TExpr.args a0):Int)==0) else some (false)) fun y2=>some (y2) else bif TExpr.kind a0==2 then (qaD (TExpr.name a0)).bind fun y3=>Option.bind (α:=Bool) ( bif y3 then some (TExpr.num a0==0) else some (false)) fun y4=>Option.bind (α:=Bool) ( bif y4 then some ((List.length (TExpr.args a0):Int)==0) else some (false)) fun y5=>some (y5) else bif TExpr.kind a0==3 then bif TExpr.kind a0==3 then Option.bind (α:=Bool) ( bif decide (TExpr.kind a0<1) then some (true) else some (decide (TExpr.kind a0>17))) fun y6=>Option.bind (α:=Bool) ( bif y6 then some (true) else some (TExpr.num a0 != 0)) fun y7=>Option.bind (α:=Bool) ( bif y7 then some (true) else some (!TExpr.name a0==[])) fun y8=>Option.bind (α:=Bool) ( bif y8 then some (true) else some ((List.length (TExpr.args a0):Int) != 1)) fun y9=>bif y9 then some (false) else (qaT_l14 rec_qaT (0:Int) (TExpr.kind a0) (TExpr.num a0) (TExpr.name a0) (TExpr.args a0)).bind fun y10=>(match y10 with|.inl y11=>some (y11)|.inr y11=>some (true)) else Option.bind (α:=Bool) ( bif decide (TExpr.kind a0<1) then some (true) else some (decide (TExpr.kind a0>17))) fun y12=>Option.bind (α:=Bool) ( bif y12 then some (true) else some (TExpr.num a0 != 0)) fun y13=>Option.bind (α:=Bool) ( bif y13 then some (true) else some (!TExpr.name a0==[])) fun y14=>Option.bind (α:=Bool) ( bif y14 then some (true) else some ((List.length (TExpr.args a0):Int) != 2)) fun y15=>bif y15 then some (false) else (qaT_l14 rec_qaT (0:Int) (TExpr.kind a0) (TExpr.num a0) (TExpr.name a0) (TExpr.args a0)).bind fun y16=>(match y16 with|.inl y17=>some (y17)|.inr y17=>some (true)) else bif TExpr.kind a0==4 then Option.bind (α:=Bool) ( bif decide (TExpr.kind a0<1) then some (true) else some (decide (TExpr.kind a0>17))) fun y18=>Option.bind (α:=Bool) ( bif y18 then some (true) else some (TExpr.num a0 != 0)) fun y19=>Option.bind (α:=Bool) ( bif y19 then some (true) else some (!TExpr.name a0==[])) fun y20=>Option.bind (α:=Bool) ( bif y20 then some (true) else some ((List.length (TExpr.args a0):Int) != 1)) fun y21=>bif y21 then some (false) else (qaT_l14 rec_qaT (0:Int) (TExpr.kind a0) (TExpr.num a0) (TExpr.name a0) (TExpr.args a0)).bind fun y22=>(match y22 with|.inl y23=>some (y23)|.inr y23=>some (true)) else Option.bind (α:=Bool) ( bif decide (TExpr.kind a0<1) then some (true) else some (decide (TExpr.kind a0>17))) fun y24=>Option.bind (α:=Bool) ( bif y24 then some (true) else some (TExpr.num a0 != 0)) fun y25=>Option.bind (α:=Bool) ( bif y25 then some (true) else some (!TExpr.name a0==[])) fun y26=>Option.bind (α:=Bool) ( bif y26 then some (true) else some ((List.length (TExpr.args a0):Int) != 2)) fun y27=>bif y27 then some (false) else (qaT_l14 rec_qaT (0:Int) (TExpr.kind a0) (TExpr.num a0) (TExpr.name a0) (TExpr.args a0)).bind fun y28=>(match y28 with|.inl y29=>some (y29)|.inr y29=>some (true))
def qaT_i:Nat→qaT_o
 |0=>fun _=>none
 |n+1=>qaT_f (qaT_i n)
def qaT:=sealF (qaT_i fuel)
def qaV_f (a0:TExpr):Option (Bool):=Option.bind (α:=Bool) ( bif TExpr.kind a0==0 then some (TExpr.num a0==0) else some (false)) fun y0=>Option.bind (α:=Bool) ( bif y0 then some (TExpr.name a0==[]) else some (false)) fun y1=>Option.bind (α:=Bool) ( bif y1 then some ((List.length (TExpr.args a0):Int)==0) else some (false)) fun y2=>some (y2)
def qaV:=sealF (qaV_f)
abbrev qa4_o:=List TStmt→Option (Bool)
def qa3_f (rec_qa4:qa4_o) (a0:TStmt):Option (Bool):=Option.bind (α:=Bool) ( bif decide (TStmt.kind a0<1) then some (true) else some (decide (TStmt.kind a0>11))) fun y0=>bif y0 then some (false) else (qaU (TStmt.kind a0)).bind fun y1=>(qaD (TStmt.reg a0)).bind fun y2=>(qaD (TStmt.name a0)).bind fun y3=>(qaT (TExpr.mk (TExpr.kind (TStmt.expr a0)) (TExpr.num (TStmt.expr a0)) (TExpr.name (TStmt.expr a0)) (TExpr.args (TStmt.expr a0)))).bind fun y4=>(qaV (TExpr.mk (TExpr.kind (TStmt.expr a0)) (TExpr.num (TStmt.expr a0)) (TExpr.name (TStmt.expr a0)) (TExpr.args (TStmt.expr a0)))).bind fun y5=>Option.bind (α:=Bool) ( bif y1.1 then some (!y2) else some (false)) fun y6=>Option.bind (α:=Bool) ( bif y6 then some (true) else Option.bind (α:=Bool) ( bif !y1.1 then some (!TStmt.reg a0==[]) else some (false)) fun y7=>some (y7)) fun y8=>Option.bind (α:=Bool) ( bif y8 then some (true) else Option.bind (α:=Bool) ( bif y1.2.1 then some (!y3) else some (false)) fun y9=>some (y9)) fun y10=>Option.bind (α:=Bool) ( bif y10 then some (true) else Option.bind (α:=Bool) ( bif !y1.2.1 then some (!TStmt.name a0==[]) else some (false)) fun y11=>some (y11)) fun y12=>Option.bind (α:=Bool) ( bif y12 then some (true) else Option.bind (α:=Bool) ( bif y1.2.2.1 then some (!y4) else some (false)) fun y13=>some (y13)) fun y14=>Option.bind (α:=Bool) ( bif y14 then some (true) else Option.bind (α:=Bool) ( bif !y1.2.2.1 then some (!y5) else some (false)) fun y15=>some (y15)) fun y16=>bif y16 then some (false) else Option.bind (α:=Bool) ( bif y1.2.2.2.1 then Option.bind (α:=Bool) ( bif decide (TStmt.count a0<0) then some (true) else some (decide (TStmt.count a0>1000))) fun y17=>some (y17) else some (false)) fun y18=>Option.bind (α:=Bool) ( bif y18 then some (true) else Option.bind (α:=Bool) ( bif !y1.2.2.2.1 then some (TStmt.count a0 != 0) else some (false)) fun y19=>some (y19)) fun y20=>Option.bind (α:=Bool) ( bif y20 then some (true) else Option.bind (α:=Bool) ( bif !y1.2.2.2.2.1 then some (decide ((List.length (TStmt.then_ a0):Int)>0)) else some (false)) fun y21=>some (y21)) fun y22=>Option.bind (α:=Bool) ( bif y22 then some (true) else Option.bind (α:=Bool) ( bif !y1.2.2.2.2.2 then some (decide ((List.length (TStmt.else_ a0):Int)>0)) else some (false)) fun y23=>some (y23)) fun y24=>bif y24 then some (false) else (rec_qa4 (TStmt.then_ a0)).bind fun y25=>(rec_qa4 (TStmt.else_ a0)).bind fun y26=>Option.bind (α:=Bool) ( bif y25 then some (y26) else some (false)) fun y27=>some (y27)
def qa3 (rec_qa4:qa4_o):=sealF (qa3_f rec_qa4)
abbrev qa4_o2:=List TStmt→Int→Option ((Bool)⊕(Unit))
def qa4_t2 (rec_qa4:qa4_o) (rec:qa4_o2):qa4_o2:=fun a0 a1=>bif decide (a1<(List.length a0:Int)) then bif decide (0≤a1) then (a0[Int.toNat a1]?).bind fun y0=>(qa3 rec_qa4 y0).bind fun y1=>bif !y1 then some (.inl (false)) else rec (a0) (IntKind.wrap IntKind.i64 (a1+(1:Int))) else none else some (.inr ())
def qa4_i2 (rec_qa4:qa4_o):Nat→qa4_o2
 |0=>fun _ _=>none
 |n+1=>qa4_t2 rec_qa4 (qa4_i2 rec_qa4 n)
def qa4_l2 (rec_qa4:qa4_o):=sealF (qa4_i2 rec_qa4 fuel)
def qa4_f (rec_qa4:qa4_o):qa4_o:=fun a0=>(qa4_l2 rec_qa4 a0 (0:Int)).bind fun y0=>(match y0 with|.inl y1=>some (y1)|.inr y1=>some (true))
def qa4_i:Nat→qa4_o
 |0=>fun _=>none
 |n+1=>qa4_f (qa4_i n)
def qa4:=sealF (qa4_i fuel)
abbrev qa1_o2:=Int→List TCell→List (List UInt8)→List TThread→Option ((Bool)⊕((List TCell)×(List (List UInt8))×(List TThread)))
def qa1_t2 (rec:qa1_o2):qa1_o2:=fun a0 a1 a2 a3=>bif decide (a0<(List.length a1:Int)) then bif decide (0≤a0) then (a1[Int.toNat a0]?).bind fun y0=>(qaD (TCell.name y0)).bind fun y1=>Option.bind (α:=Bool) ( bif !y1 then some (true) else bif decide (0≤a0) then (a1[Int.toNat a0]?).bind fun y2=>some (decide (TCell.init y2<(-2147483647:Int))) else none) fun y3=>Option.bind (α:=Bool) ( bif y3 then some (true) else bif decide (0≤a0) then (a1[Int.toNat a0]?).bind fun y4=>some (decide (TCell.init y4>2147483647)) else none) fun y5=>bif y5 then some (.inl (false)) else rec (IntKind.wrap IntKind.i64 (a0+(1:Int))) (a1) (a2) (a3) else none else some (.inr ((a1),(a2),(a3)))
def qa1_i2:Nat→qa1_o2
 |0=>fun _ _ _ _=>none
 |n+1=>qa1_t2 (qa1_i2 n)
def qa1_l2:=sealF (qa1_i2 fuel)
abbrev qa1_o8:=Int→List TCell→List (List UInt8)→List TThread→Option ((Bool)⊕((List TCell)×(List (List UInt8))×(List TThread)))
def qa1_t8 (rec:qa1_o8):qa1_o8:=fun a0 a1 a2 a3=>bif decide (a0<(List.length a2:Int)) then bif decide (0≤a0) then (a2[Int.toNat a0]?).bind fun y0=>(qaD y0).bind fun y1=>bif !y1 then some (.inl (false)) else rec (IntKind.wrap IntKind.i64 (a0+(1:Int))) (a1) (a2) (a3) else none else some (.inr ((a1),(a2),(a3)))
def qa1_i8:Nat→qa1_o8
 |0=>fun _ _ _ _=>none
 |n+1=>qa1_t8 (qa1_i8 n)
def qa1_l8:=sealF (qa1_i8 fuel)
abbrev qa1_o14:=Int→List TCell→List (List UInt8)→List TThread→Option ((Bool)⊕(Unit))
def qa1_t14 (rec:qa1_o14):qa1_o14:=fun a0 a1 a2 a3=>bif decide (a0<(List.length a3:Int)) then bif decide (0≤a0) then (a3[Int.toNat a0]?).bind fun y0=>(qaD (TThread.name y0)).bind fun y1=>bif decide (0≤a0) then (a3[Int.toNat a0]?).bind fun y2=>(qa4 (TThread.body y2)).bind fun y3=>Option.bind (α:=Bool) ( bif !y1 then some (true) else some (!y3)) fun y4=>bif y4 then some (.inl (false)) else rec (IntKind.wrap IntKind.i64 (a0+(1:Int))) (a1) (a2) (a3) else none else none else some (.inr ())
def qa1_i14:Nat→qa1_o14
 |0=>fun _ _ _ _=>none
 |n+1=>qa1_t14 (qa1_i14 n)
def qa1_l14:=sealF (qa1_i14 fuel)
def qa1_f (a0:TProg):Option (Bool):=(qa1_l2 (0:Int) (TProg.cells a0) (TProg.mutexes a0) (TProg.threads a0)).bind fun y0=>(match y0 with|.inl y1=>some (y1)|.inr y1=>(qa1_l8 (0:Int) y1.1 y1.2.1 y1.2.2).bind fun y2=>(match y2 with|.inl y3=>some (y3)|.inr y3=>(qa1_l14 (0:Int) y3.1 y3.2.1 y3.2.2).bind fun y4=>(match y4 with|.inl y5=>some (y5)|.inr y5=>some (true))))
def qa1:=sealF (qa1_f)
def qa5_f (a0:TExpr):Option (Bool):=Option.bind (α:=Bool) ( bif TExpr.kind a0 != 0 then some (true) else some (decide ((List.length (TExpr.args a0):Int)>0))) fun y0=>some (y0)
def qa5:=sealF (qa5_f)
abbrev qaS_o:=TExpr→Option (Int)
abbrev qaS_o3:=Int→Int→Int→Int→List UInt8→List TExpr→Option (Int)
def qaS_t3 (rec_qaS:qaS_o) (rec:qaS_o3):qaS_o3:=fun a0 a1 a2 a3 a4 a5=>bif decide (a1<(List.length a5:Int)) then bif decide (0≤a1) then (a5[Int.toNat a1]?).bind fun y0=>(rec_qaS y0).bind fun y1=>rec (if y1>a0 then y1 else a0) (IntKind.wrap IntKind.i64 (a1+(1:Int))) (a2) (a3) (a4) (a5) else none else some (a0)
def qaS_i3 (rec_qaS:qaS_o):Nat→qaS_o3
 |0=>fun _ _ _ _ _ _=>none
 |n+1=>qaS_t3 rec_qaS (qaS_i3 rec_qaS n)
def qaS_l3 (rec_qaS:qaS_o):=sealF (qaS_i3 rec_qaS fuel)
def qaS_f (rec_qaS:qaS_o):qaS_o:=fun a0=>(qaS_l3 rec_qaS (0:Int) (0:Int) (TExpr.kind a0) (TExpr.num a0) (TExpr.name a0) (TExpr.args a0)).bind fun y0=>some (IntKind.wrap IntKind.i64 (y0+(1:Int)))
def qaS_i:Nat→qaS_o
 |0=>fun _=>none
 |n+1=>qaS_f (qaS_i n)
def qaS:=sealF (qaS_i fuel)
abbrev qa0_o:=List TStmt→Int→Option (Int)
abbrev qa0_o3:=List TStmt→Int→Int→Int→Option (Int)
def qa0_t3 (rec_qa0:qa0_o) (rec:qa0_o3):qa0_o3:=fun a0 a1 a2 a3=>bif decide (a3<(List.length a0:Int)) then bif decide (0≤a3) then (a0[Int.toNat a3]?).bind fun y0=>(qa5 (TExpr.mk (TExpr.kind (TStmt.expr y0)) (TExpr.num (TStmt.expr y0)) (TExpr.name (TStmt.expr y0)) (TExpr.args (TStmt.expr y0)))).bind fun y1=>bif y1 then bif decide (0≤a3) then (a0[Int.toNat a3]?).bind fun y2=>(qaS (TExpr.mk (TExpr.kind (TStmt.expr y2)) (TExpr.num (TStmt.expr y2)) (TExpr.name (TStmt.expr y2)) (TExpr.args (TStmt.expr y2)))).bind fun y3=>bif decide (0≤a3) then (a0[Int.toNat a3]?).bind fun y4=>(rec_qa0 (TStmt.then_ y4) (IntKind.wrap IntKind.i64 (a1+(1:Int)))).bind fun y5=>bif decide (0≤a3) then (a0[Int.toNat a3]?).bind fun y6=>(rec_qa0 (TStmt.else_ y6) (IntKind.wrap IntKind.i64 (a1+(1:Int)))).bind fun y7=>rec (a0) (a1) (if y7>if y5>if y3>if a1>a2 then a1 else a2 then y3 else if a1>a2 then a1 else a2 then y5 else if y3>if a1>a2 then a1 else a2 then y3 else if a1>a2 then a1 else a2 then y7 else if y5>if y3>if a1>a2 then a1 else a2 then y3 else if a1>a2 then a1 else a2 then y5 else if y3>if a1>a2 then a1 else a2 then y3 else if a1>a2 then a1 else a2) (IntKind.wrap IntKind.i64 (a3+(1:Int))) else none else none else none else bif decide (0≤a3) then (a0[Int.toNat a3]?).bind fun y8=>(rec_qa0 (TStmt.then_ y8) (IntKind.wrap IntKind.i64 (a1+(1:Int)))).bind fun y9=>bif decide (0≤a3) then (a0[Int.toNat a3]?).bind fun y10=>(rec_qa0 (TStmt.else_ y10) (IntKind.wrap IntKind.i64 (a1+(1:Int)))).bind fun y11=>rec (a0) (a1) (if y11>if y9>if a1>a2 then a1 else a2 then y9 else if a1>a2 then a1 else a2 then y11 else if y9>if a1>a2 then a1 else a2 then y9 else if a1>a2 then a1 else a2) (IntKind.wrap IntKind.i64 (a3+(1:Int))) else none else none else none else some (a2)
def qa0_i3 (rec_qa0:qa0_o):Nat→qa0_o3
 |0=>fun _ _ _ _=>none
 |n+1=>qa0_t3 rec_qa0 (qa0_i3 rec_qa0 n)
def qa0_l3 (rec_qa0:qa0_o):=sealF (qa0_i3 rec_qa0 fuel)
def qa0_f (rec_qa0:qa0_o):qa0_o:=fun a0 a1=>(qa0_l3 rec_qa0 a0 a1 (0:Int) (0:Int)).bind fun y0=>some (y0)
def qa0_i:Nat→qa0_o
 |0=>fun _ _=>none
 |n+1=>qa0_f (qa0_i n)
def qa0:=sealF (qa0_i fuel)
abbrev qaQ_o3:=Int→Int→List TCell→List (List UInt8)→List TThread→Option (Int)
def qaQ_t3 (rec:qaQ_o3):qaQ_o3:=fun a0 a1 a2 a3 a4=>bif decide (a1<(List.length a4:Int)) then bif decide (0≤a1) then (a4[Int.toNat a1]?).bind fun y0=>(qa0 (TThread.body y0) (1:Int)).bind fun y1=>rec (if y1>a0 then y1 else a0) (IntKind.wrap IntKind.i64 (a1+(1:Int))) (a2) (a3) (a4) else none else some (a0)
def qaQ_i3:Nat→qaQ_o3
 |0=>fun _ _ _ _ _=>none
 |n+1=>qaQ_t3 (qaQ_i3 n)
def qaQ_l3:=sealF (qaQ_i3 fuel)
def qaQ_f (a0:TProg):Option (Int):=(qaQ_l3 (0:Int) (0:Int) (TProg.cells a0) (TProg.mutexes a0) (TProg.threads a0)).bind fun y0=>some (y0)
def qaQ:=sealF (qaQ_f)
abbrev qaR_o:=TExpr→Option (Int)
abbrev qaR_o3:=Int→Int→Int→Int→List UInt8→List TExpr→Option (Int)
def qaR_t3 (rec_qaR:qaR_o) (rec:qaR_o3):qaR_o3:=fun a0 a1 a2 a3 a4 a5=>bif decide (a1<(List.length a5:Int)) then bif decide (0≤a1) then (a5[Int.toNat a1]?).bind fun y0=>(rec_qaR y0).bind fun y1=>rec (IntKind.wrap IntKind.i64 (a0+y1)) (IntKind.wrap IntKind.i64 (a1+(1:Int))) (a2) (a3) (a4) (a5) else none else some (a0)
def qaR_i3 (rec_qaR:qaR_o):Nat→qaR_o3
 |0=>fun _ _ _ _ _ _=>none
 |n+1=>qaR_t3 rec_qaR (qaR_i3 rec_qaR n)
def qaR_l3 (rec_qaR:qaR_o):=sealF (qaR_i3 rec_qaR fuel)
def qaR_f (rec_qaR:qaR_o):qaR_o:=fun a0=>(qaR_l3 rec_qaR (1:Int) (0:Int) (TExpr.kind a0) (TExpr.num a0) (TExpr.name a0) (TExpr.args a0)).bind fun y0=>some (y0)
def qaR_i:Nat→qaR_o
 |0=>fun _=>none
 |n+1=>qaR_f (qaR_i n)
def qaR:=sealF (qaR_i fuel)
abbrev qaZ_o:=List TStmt→Option (Int)
abbrev qaZ_o3:=List TStmt→Int→Int→Option (Int)
def qaZ_t3 (rec_qaZ:qaZ_o) (rec:qaZ_o3):qaZ_o3:=fun a0 a1 a2=>bif decide (a2<(List.length a0:Int)) then bif decide (0≤a2) then (a0[Int.toNat a2]?).bind fun y0=>(qa5 (TExpr.mk (TExpr.kind (TStmt.expr y0)) (TExpr.num (TStmt.expr y0)) (TExpr.name (TStmt.expr y0)) (TExpr.args (TStmt.expr y0)))).bind fun y1=>bif y1 then bif decide (0≤a2) then (a0[Int.toNat a2]?).bind fun y2=>(qaR (TExpr.mk (TExpr.kind (TStmt.expr y2)) (TExpr.num (TStmt.expr y2)) (TExpr.name (TStmt.expr y2)) (TExpr.args (TStmt.expr y2)))).bind fun y3=>bif decide (0≤a2) then (a0[Int.toNat a2]?).bind fun y4=>(rec_qaZ (TStmt.then_ y4)).bind fun y5=>bif decide (0≤a2) then (a0[Int.toNat a2]?).bind fun y6=>(rec_qaZ (TStmt.else_ y6)).bind fun y7=>rec (a0) (IntKind.wrap IntKind.i64 (IntKind.wrap IntKind.i64 (IntKind.wrap IntKind.i64 (IntKind.wrap IntKind.i64 (a1+(1:Int))+y3)+y5)+y7)) (IntKind.wrap IntKind.i64 (a2+(1:Int))) else none else none else none else bif decide (0≤a2) then (a0[Int.toNat a2]?).bind fun y8=>(rec_qaZ (TStmt.then_ y8)).bind fun y9=>bif decide (0≤a2) then (a0[Int.toNat a2]?).bind fun y10=>(rec_qaZ (TStmt.else_ y10)).bind fun y11=>rec (a0) (IntKind.wrap IntKind.i64 (IntKind.wrap IntKind.i64 (IntKind.wrap IntKind.i64 (a1+(1:Int))+y9)+y11)) (IntKind.wrap IntKind.i64 (a2+(1:Int))) else none else none else none else some (a1)
def qaZ_i3 (rec_qaZ:qaZ_o):Nat→qaZ_o3
 |0=>fun _ _ _=>none
 |n+1=>qaZ_t3 rec_qaZ (qaZ_i3 rec_qaZ n)
def qaZ_l3 (rec_qaZ:qaZ_o):=sealF (qaZ_i3 rec_qaZ fuel)
def qaZ_f (rec_qaZ:qaZ_o):qaZ_o:=fun a0=>(qaZ_l3 rec_qaZ a0 (0:Int) (0:Int)).bind fun y0=>some (y0)
def qaZ_i:Nat→qaZ_o
 |0=>fun _=>none
 |n+1=>qaZ_f (qaZ_i n)
def qaZ:=sealF (qaZ_i fuel)
abbrev qaP_o3:=Int→Int→List TCell→List (List UInt8)→List TThread→Option (Int)
def qaP_t3 (rec:qaP_o3):qaP_o3:=fun a0 a1 a2 a3 a4=>bif decide (a1<(List.length a4:Int)) then bif decide (0≤a1) then (a4[Int.toNat a1]?).bind fun y0=>(qaZ (TThread.body y0)).bind fun y1=>rec (IntKind.wrap IntKind.i64 (a0+y1)) (IntKind.wrap IntKind.i64 (a1+(1:Int))) (a2) (a3) (a4) else none else some (a0)
def qaP_i3:Nat→qaP_o3
 |0=>fun _ _ _ _ _=>none
 |n+1=>qaP_t3 (qaP_i3 n)
def qaP_l3:=sealF (qaP_i3 fuel)
def qaP_f (a0:TProg):Option (Int):=(qaP_l3 (0:Int) (0:Int) (TProg.cells a0) (TProg.mutexes a0) (TProg.threads a0)).bind fun y0=>some (y0)
def qaP:=sealF (qaP_f)
def qaW_f (a0:TProg):Option (Int):=(qa1 (TProg.mk (TProg.cells a0) (TProg.mutexes a0) (TProg.threads a0))).bind fun y0=>bif !y0 then some ((30:Int)) else (qaQ (TProg.mk (TProg.cells a0) (TProg.mutexes a0) (TProg.threads a0))).bind fun y1=>bif decide (y1>16) then some ((31:Int)) else (qaP (TProg.mk (TProg.cells a0) (TProg.mutexes a0) (TProg.threads a0))).bind fun y2=>bif decide (y2>500) then some ((32:Int)) else some ((0:Int))
def qaW:=sealF (qaW_f)
abbrev qa6_o5:=Int→Int→List UInt8→Option (Int×Int×(List UInt8))
def qa6_t5 (rec:qa6_o5):qa6_o5:=fun a0 a1 a2=>bif decide (a1≥10) then bif decide (List.length (bytesOf [IntKind.wrap IntKind.u8 (IntKind.wrap IntKind.u64 ((48:Int)+Int.tmod a1 (10:Int)))])+List.length a2≤(9223372036854775807:Nat)) then rec (a0) (IntKind.wrap IntKind.u64 (Int.tdiv a1 (10:Int))) (bytesOf [IntKind.wrap IntKind.u8 (IntKind.wrap IntKind.u64 ((48:Int)+Int.tmod a1 (10:Int)))]++a2) else none else some ((a0),(a1),(a2))
def qa6_i5:Nat→qa6_o5
 |0=>fun _ _ _=>none
 |n+1=>qa6_t5 (qa6_i5 n)
def qa6_l5:=sealF (qa6_i5 fuel)
def qa6_f (a0:Int):Option ((List UInt8)):=bif decide (a0<0) then (qa6_l5 a0 (IntKind.wrap IntKind.u64 ((0:Int)-IntKind.wrap IntKind.u64 a0)) []).bind fun y0=>bif decide (List.length (bytesOf [IntKind.wrap IntKind.u8 (IntKind.wrap IntKind.u64 ((48:Int)+y0.2.1))])+List.length y0.2.2≤(9223372036854775807:Nat)) then bif decide (y0.1<0) then bif decide ((1:Nat)+List.length (bytesOf [IntKind.wrap IntKind.u8 (IntKind.wrap IntKind.u64 ((48:Int)+y0.2.1))]++y0.2.2)≤(9223372036854775807:Nat)) then some ([(45:UInt8)]++(bytesOf [IntKind.wrap IntKind.u8 (IntKind.wrap IntKind.u64 ((48:Int)+y0.2.1))]++y0.2.2)) else none else some (bytesOf [IntKind.wrap IntKind.u8 (IntKind.wrap IntKind.u64 ((48:Int)+y0.2.1))]++y0.2.2) else none else (qa6_l5 a0 (IntKind.wrap IntKind.u64 a0) []).bind fun y1=>bif decide (List.length (bytesOf [IntKind.wrap IntKind.u8 (IntKind.wrap IntKind.u64 ((48:Int)+y1.2.1))])+List.length y1.2.2≤(9223372036854775807:Nat)) then bif decide (y1.1<0) then bif decide ((1:Nat)+List.length (bytesOf [IntKind.wrap IntKind.u8 (IntKind.wrap IntKind.u64 ((48:Int)+y1.2.1))]++y1.2.2)≤(9223372036854775807:Nat)) then some ([(45:UInt8)]++(bytesOf [IntKind.wrap IntKind.u8 (IntKind.wrap IntKind.u64 ((48:Int)+y1.2.1))]++y1.2.2)) else none else some (bytesOf [IntKind.wrap IntKind.u8 (IntKind.wrap IntKind.u64 ((48:Int)+y1.2.1))]++y1.2.2) else none
def qa6:=sealF (qa6_f)
abbrev qa9_o3:=Int→List UInt8→Int→Option ((List UInt8))
def qa9_t3 (rec:qa9_o3):qa9_o3:=fun a0 a1 a2=>bif decide (a2<a0) then bif decide (List.length a1+(2:Nat)≤(9223372036854775807:Nat)) then rec (a0) (a1++[(32:UInt8),(32:UInt8)]) (IntKind.wrap IntKind.i64 (a2+(1:Int))) else none else some (a1)
def qa9_i3:Nat→qa9_o3
 |0=>fun _ _ _=>none
 |n+1=>qa9_t3 (qa9_i3 n)
def qa9_l3:=sealF (qa9_i3 fuel)
def qa9_f (a0:Int):Option ((List UInt8)):=(qa9_l3 a0 [] (0:Int)).bind fun y0=>some (y0)
def qa9:=sealF (qa9_f)
def qbb_f (a0:Int):Option (Int):=bif a0==1 then bif a0==1 then some ((7:Int)) else bif a0==3 then bif a0==3 then some ((6:Int)) else bif a0==17 then some ((1:Int)) else bif a0==16 then some ((2:Int)) else bif a0==5 then bif a0==5 then some ((4:Int)) else bif a0==7 then bif a0==7 then some ((5:Int)) else some ((3:Int)) else bif a0==8 then bif a0==8 then some ((5:Int)) else some ((3:Int)) else bif a0==9 then some ((5:Int)) else some ((3:Int)) else bif a0==6 then some ((4:Int)) else bif a0==7 then bif a0==7 then some ((5:Int)) else some ((3:Int)) else bif a0==8 then bif a0==8 then some ((5:Int)) else some ((3:Int)) else bif a0==9 then some ((5:Int)) else some ((3:Int)) else bif a0==4 then some ((6:Int)) else bif a0==17 then some ((1:Int)) else bif a0==16 then some ((2:Int)) else bif a0==5 then bif a0==5 then some ((4:Int)) else bif a0==7 then bif a0==7 then some ((5:Int)) else some ((3:Int)) else bif a0==8 then bif a0==8 then some ((5:Int)) else some ((3:Int)) else bif a0==9 then some ((5:Int)) else some ((3:Int)) else bif a0==6 then some ((4:Int)) else bif a0==7 then bif a0==7 then some ((5:Int)) else some ((3:Int)) else bif a0==8 then bif a0==8 then some ((5:Int)) else some ((3:Int)) else bif a0==9 then some ((5:Int)) else some ((3:Int)) else bif a0==2 then some ((7:Int)) else bif a0==3 then bif a0==3 then some ((6:Int)) else bif a0==17 then some ((1:Int)) else bif a0==16 then some ((2:Int)) else bif a0==5 then bif a0==5 then some ((4:Int)) else bif a0==7 then bif a0==7 then some ((5:Int)) else some ((3:Int)) else bif a0==8 then bif a0==8 then some ((5:Int)) else some ((3:Int)) else bif a0==9 then some ((5:Int)) else some ((3:Int)) else bif a0==6 then some ((4:Int)) else bif a0==7 then bif a0==7 then some ((5:Int)) else some ((3:Int)) else bif a0==8 then bif a0==8 then some ((5:Int)) else some ((3:Int)) else bif a0==9 then some ((5:Int)) else some ((3:Int)) else bif a0==4 then some ((6:Int)) else bif a0==17 then some ((1:Int)) else bif a0==16 then some ((2:Int)) else bif a0==5 then bif a0==5 then some ((4:Int)) else bif a0==7 then bif a0==7 then some ((5:Int)) else some ((3:Int)) else bif a0==8 then bif a0==8 then some ((5:Int)) else some ((3:Int)) else bif a0==9 then some ((5:Int)) else some ((3:Int)) else bif a0==6 then some ((4:Int)) else bif a0==7 then bif a0==7 then some ((5:Int)) else some ((3:Int)) else bif a0==8 then bif a0==8 then some ((5:Int)) else some ((3:Int)) else bif a0==9 then some ((5:Int)) else some ((3:Int))
def qbb:=sealF (qbb_f)
abbrev qa7_o:=TExpr→Int→Option ((List UInt8))
def qbd_f (rec_qa7:qa7_o) (a0:Int):Option ((List UInt8)):=bif decide (0≤a0)&&decide (a0<(↑(18:Nat):Int)) then ([[],[],[],[(45:UInt8)],[(33:UInt8)],[(43:UInt8)],[(45:UInt8)],[(42:UInt8)],[(47:UInt8)],[(37:UInt8)],[(61:UInt8),(61:UInt8)],[(33:UInt8),(61:UInt8)],[(60:UInt8)],[(60:UInt8),(61:UInt8)],[(62:UInt8)],[(62:UInt8),(61:UInt8)],[(38:UInt8),(38:UInt8)],[(124:UInt8),(124:UInt8)]][Int.toNat a0]?).bind fun y0=>some (y0) else none
def qbd (rec_qa7:qa7_o):=sealF (qbd_f rec_qa7)
def qa7_f (rec_qa7:qa7_o):qa7_o:=fun a0 a1=>(qbb (TExpr.kind a0)).bind fun y0=>bif y0==7 then bif TExpr.kind a0==1 then (qa6 (TExpr.num a0)).bind fun y1=>bif decide (y0<a1) then bif decide ((1:Nat)+List.length y1≤(9223372036854775807:Nat)) then bif decide (List.length ([(40:UInt8)]++y1)+(1:Nat)≤(9223372036854775807:Nat)) then some ([(40:UInt8)]++y1++[(41:UInt8)]) else none else none else some (y1) else bif decide (y0<a1) then bif decide ((1:Nat)+List.length (TExpr.name a0)≤(9223372036854775807:Nat)) then bif decide (List.length ([(40:UInt8)]++TExpr.name a0)+(1:Nat)≤(9223372036854775807:Nat)) then some ([(40:UInt8)]++TExpr.name a0++[(41:UInt8)]) else none else none else some (TExpr.name a0) else bif y0==6 then ((TExpr.args a0)[(0:Nat)]?).bind fun y2=>(rec_qa7 y2 (6:Int)).bind fun y3=>(qbd rec_qa7 (TExpr.kind a0)).bind fun y4=>bif decide (List.length y4+List.length y3≤(9223372036854775807:Nat)) then bif decide (y0<a1) then bif decide ((1:Nat)+List.length (y4++y3)≤(9223372036854775807:Nat)) then bif decide (List.length ([(40:UInt8)]++(y4++y3))+(1:Nat)≤(9223372036854775807:Nat)) then some ([(40:UInt8)]++(y4++y3)++[(41:UInt8)]) else none else none else some (y4++y3) else none else bif y0==3 then ((TExpr.args a0)[(0:Nat)]?).bind fun y5=>(rec_qa7 y5 (4:Int)).bind fun y6=>((TExpr.args a0)[(1:Nat)]?).bind fun y7=>(rec_qa7 y7 (IntKind.wrap IntKind.i64 (y0+(1:Int)))).bind fun y8=>bif decide (List.length y6+(1:Nat)≤(9223372036854775807:Nat)) then (qbd rec_qa7 (TExpr.kind a0)).bind fun y9=>bif decide (List.length (y6++[(32:UInt8)])+List.length y9≤(9223372036854775807:Nat)) then bif decide (List.length (y6++[(32:UInt8)]++y9)+(1:Nat)≤(9223372036854775807:Nat)) then bif decide (List.length (y6++[(32:UInt8)]++y9++[(32:UInt8)])+List.length y8≤(9223372036854775807:Nat)) then bif decide (y0<a1) then bif decide ((1:Nat)+List.length (y6++[(32:UInt8)]++y9++[(32:UInt8)]++y8)≤(9223372036854775807:Nat)) then bif decide (List.length ([(40:UInt8)]++(y6++[(32:UInt8)]++y9++[(32:UInt8)]++y8))+(1:Nat)≤(9223372036854775807:Nat)) then some ([(40:UInt8)]++(y6++[(32:UInt8)]++y9++[(32:UInt8)]++y8)++[(41:UInt8)]) else none else none else some (y6++[(32:UInt8)]++y9++[(32:UInt8)]++y8) else none else none else none else none else ((TExpr.args a0)[(0:Nat)]?).bind fun y10=>(rec_qa7 y10 y0).bind fun y11=>((TExpr.args a0)[(1:Nat)]?).bind fun y12=>(rec_qa7 y12 (IntKind.wrap IntKind.i64 (y0+(1:Int)))).bind fun y13=>bif decide (List.length y11+(1:Nat)≤(9223372036854775807:Nat)) then (qbd rec_qa7 (TExpr.kind a0)).bind fun y14=>bif decide (List.length (y11++[(32:UInt8)])+List.length y14≤(9223372036854775807:Nat)) then bif decide (List.length (y11++[(32:UInt8)]++y14)+(1:Nat)≤(9223372036854775807:Nat)) then bif decide (List.length (y11++[(32:UInt8)]++y14++[(32:UInt8)])+List.length y13≤(9223372036854775807:Nat)) then bif decide (y0<a1) then bif decide ((1:Nat)+List.length (y11++[(32:UInt8)]++y14++[(32:UInt8)]++y13)≤(9223372036854775807:Nat)) then bif decide (List.length ([(40:UInt8)]++(y11++[(32:UInt8)]++y14++[(32:UInt8)]++y13))+(1:Nat)≤(9223372036854775807:Nat)) then some ([(40:UInt8)]++(y11++[(32:UInt8)]++y14++[(32:UInt8)]++y13)++[(41:UInt8)]) else none else none else some (y11++[(32:UInt8)]++y14++[(32:UInt8)]++y13) else none else none else none else none
def qa7_i:Nat→qa7_o
 |0=>fun _ _=>none
 |n+1=>qa7_f (qa7_i n)
def qa7:=sealF (qa7_i fuel)
abbrev qba_o:=List TStmt→Int→Option ((List UInt8))
def qbc_f (rec_qba:qba_o) (a0:TStmt):Option ((List UInt8)):=bif TExpr.kind (TStmt.expr a0) != 0 then (qa7 (TExpr.mk (TExpr.kind (TStmt.expr a0)) (TExpr.num (TStmt.expr a0)) (TExpr.name (TStmt.expr a0)) (TExpr.args (TStmt.expr a0))) (1:Int)).bind fun y0=>bif TStmt.kind a0==1 then bif decide (List.length (TStmt.reg a0)+(4:Nat)≤(9223372036854775807:Nat)) then bif decide (List.length (TStmt.reg a0++[(32:UInt8),(58:UInt8),(61:UInt8),(32:UInt8)])+List.length y0≤(9223372036854775807:Nat)) then bif decide (List.length (TStmt.reg a0++[(32:UInt8),(58:UInt8),(61:UInt8),(32:UInt8)]++y0)+(1:Nat)≤(9223372036854775807:Nat)) then some (TStmt.reg a0++[(32:UInt8),(58:UInt8),(61:UInt8),(32:UInt8)]++y0++[(59:UInt8)]) else none else none else none else bif TStmt.kind a0==3 then bif decide (List.length (TStmt.name a0)+(3:Nat)≤(9223372036854775807:Nat)) then bif decide (List.length (TStmt.name a0++[(32:UInt8),(61:UInt8),(32:UInt8)])+List.length y0≤(9223372036854775807:Nat)) then bif decide (List.length (TStmt.name a0++[(32:UInt8),(61:UInt8),(32:UInt8)]++y0)+(1:Nat)≤(9223372036854775807:Nat)) then some (TStmt.name a0++[(32:UInt8),(61:UInt8),(32:UInt8)]++y0++[(59:UInt8)]) else none else none else none else bif TStmt.kind a0==2 then bif decide (List.length (TStmt.reg a0)+(4:Nat)≤(9223372036854775807:Nat)) then bif decide (List.length (TStmt.reg a0++[(32:UInt8),(60:UInt8),(45:UInt8),(32:UInt8)])+List.length (TStmt.name a0)≤(9223372036854775807:Nat)) then bif decide (List.length (TStmt.reg a0++[(32:UInt8),(60:UInt8),(45:UInt8),(32:UInt8)]++TStmt.name a0)+(1:Nat)≤(9223372036854775807:Nat)) then some (TStmt.reg a0++[(32:UInt8),(60:UInt8),(45:UInt8),(32:UInt8)]++TStmt.name a0++[(59:UInt8)]) else none else none else none else bif TStmt.kind a0==4 then bif decide (List.length (TStmt.reg a0)+(8:Nat)≤(9223372036854775807:Nat)) then bif decide (List.length (TStmt.reg a0++[(32:UInt8),(60:UInt8),(45:UInt8),(32:UInt8),(97:UInt8),(100:UInt8),(100:UInt8),(32:UInt8)])+List.length (TStmt.name a0)≤(9223372036854775807:Nat)) then bif decide (List.length (TStmt.reg a0++[(32:UInt8),(60:UInt8),(45:UInt8),(32:UInt8),(97:UInt8),(100:UInt8),(100:UInt8),(32:UInt8)]++TStmt.name a0)+(1:Nat)≤(9223372036854775807:Nat)) then bif decide (List.length (TStmt.reg a0++[(32:UInt8),(60:UInt8),(45:UInt8),(32:UInt8),(97:UInt8),(100:UInt8),(100:UInt8),(32:UInt8)]++TStmt.name a0++[(32:UInt8)])+List.length y0≤(9223372036854775807:Nat)) then bif decide (List.length (TStmt.reg a0++[(32:UInt8),(60:UInt8),(45:UInt8),(32:UInt8),(97:UInt8),(100:UInt8),(100:UInt8),(32:UInt8)]++TStmt.name a0++[(32:UInt8)]++y0)+(1:Nat)≤(9223372036854775807:Nat)) then some (TStmt.reg a0++[(32:UInt8),(60:UInt8),(45:UInt8),(32:UInt8),(97:UInt8),(100:UInt8),(100:UInt8),(32:UInt8)]++TStmt.name a0++[(32:UInt8)]++y0++[(59:UInt8)]) else none else none else none else none else none else bif TStmt.kind a0==5 then bif decide ((5:Nat)+List.length (TStmt.name a0)≤(9223372036854775807:Nat)) then bif decide (List.length ([(108:UInt8),(111:UInt8),(99:UInt8),(107:UInt8),(32:UInt8)]++TStmt.name a0)+(1:Nat)≤(9223372036854775807:Nat)) then some ([(108:UInt8),(111:UInt8),(99:UInt8),(107:UInt8),(32:UInt8)]++TStmt.name a0++[(59:UInt8)]) else none else none else bif TStmt.kind a0==6 then bif decide ((7:Nat)+List.length (TStmt.name a0)≤(9223372036854775807:Nat)) then bif decide (List.length ([(117:UInt8),(110:UInt8),(108:UInt8),(111:UInt8),(99:UInt8),(107:UInt8),(32:UInt8)]++TStmt.name a0)+(1:Nat)≤(9223372036854775807:Nat)) then some ([(117:UInt8),(110:UInt8),(108:UInt8),(111:UInt8),(99:UInt8),(107:UInt8),(32:UInt8)]++TStmt.name a0++[(59:UInt8)]) else none else none else bif TStmt.kind a0==7 then bif decide ((6:Nat)+List.length (TStmt.name a0)≤(9223372036854775807:Nat)) then bif decide (List.length ([(115:UInt8),(116:UInt8),(97:UInt8),(114:UInt8),(116:UInt8),(32:UInt8)]++TStmt.name a0)+(1:Nat)≤(9223372036854775807:Nat)) then some ([(115:UInt8),(116:UInt8),(97:UInt8),(114:UInt8),(116:UInt8),(32:UInt8)]++TStmt.name a0++[(59:UInt8)]) else none else none else bif TStmt.kind a0==8 then bif decide ((5:Nat)+List.length (TStmt.name a0)≤(9223372036854775807:Nat)) then bif decide (List.length ([(106:UInt8),(111:UInt8),(105:UInt8),(110:UInt8),(32:UInt8)]++TStmt.name a0)+(1:Nat)≤(9223372036854775807:Nat)) then some ([(106:UInt8),(111:UInt8),(105:UInt8),(110:UInt8),(32:UInt8)]++TStmt.name a0++[(59:UInt8)]) else none else none else bif decide ((7:Nat)+List.length y0≤(9223372036854775807:Nat)) then bif decide (List.length ([(97:UInt8),(115:UInt8),(115:UInt8),(101:UInt8),(114:UInt8),(116:UInt8),(32:UInt8)]++y0)+(1:Nat)≤(9223372036854775807:Nat)) then some ([(97:UInt8),(115:UInt8),(115:UInt8),(101:UInt8),(114:UInt8),(116:UInt8),(32:UInt8)]++y0++[(59:UInt8)]) else none else none else bif TStmt.kind a0==1 then bif decide (List.length (TStmt.reg a0)+(4:Nat)≤(9223372036854775807:Nat)) then bif decide (List.length (TStmt.reg a0++[(32:UInt8),(58:UInt8),(61:UInt8),(32:UInt8)])+(0:Nat)≤(9223372036854775807:Nat)) then bif decide (List.length (TStmt.reg a0++[(32:UInt8),(58:UInt8),(61:UInt8),(32:UInt8)]++[])+(1:Nat)≤(9223372036854775807:Nat)) then some (TStmt.reg a0++[(32:UInt8),(58:UInt8),(61:UInt8),(32:UInt8)]++[]++[(59:UInt8)]) else none else none else none else bif TStmt.kind a0==3 then bif decide (List.length (TStmt.name a0)+(3:Nat)≤(9223372036854775807:Nat)) then bif decide (List.length (TStmt.name a0++[(32:UInt8),(61:UInt8),(32:UInt8)])+(0:Nat)≤(9223372036854775807:Nat)) then bif decide (List.length (TStmt.name a0++[(32:UInt8),(61:UInt8),(32:UInt8)]++[])+(1:Nat)≤(9223372036854775807:Nat)) then some (TStmt.name a0++[(32:UInt8),(61:UInt8),(32:UInt8)]++[]++[(59:UInt8)]) else none else none else none else bif TStmt.kind a0==2 then bif decide (List.length (TStmt.reg a0)+(4:Nat)≤(9223372036854775807:Nat)) then bif decide (List.length (TStmt.reg a0++[(32:UInt8),(60:UInt8),(45:UInt8),(32:UInt8)])+List.length (TStmt.name a0)≤(9223372036854775807:Nat)) then bif decide (List.length (TStmt.reg a0++[(32:UInt8),(60:UInt8),(45:UInt8),(32:UInt8)]++TStmt.name a0)+(1:Nat)≤(9223372036854775807:Nat)) then some (TStmt.reg a0++[(32:UInt8),(60:UInt8),(45:UInt8),(32:UInt8)]++TStmt.name a0++[(59:UInt8)]) else none else none else none else bif TStmt.kind a0==4 then bif decide (List.length (TStmt.reg a0)+(8:Nat)≤(9223372036854775807:Nat)) then bif decide (List.length (TStmt.reg a0++[(32:UInt8),(60:UInt8),(45:UInt8),(32:UInt8),(97:UInt8),(100:UInt8),(100:UInt8),(32:UInt8)])+List.length (TStmt.name a0)≤(9223372036854775807:Nat)) then bif decide (List.length (TStmt.reg a0++[(32:UInt8),(60:UInt8),(45:UInt8),(32:UInt8),(97:UInt8),(100:UInt8),(100:UInt8),(32:UInt8)]++TStmt.name a0)+(1:Nat)≤(9223372036854775807:Nat)) then bif decide (List.length (TStmt.reg a0++[(32:UInt8),(60:UInt8),(45:UInt8),(32:UInt8),(97:UInt8),(100:UInt8),(100:UInt8),(32:UInt8)]++TStmt.name a0++[(32:UInt8)])+(0:Nat)≤(9223372036854775807:Nat)) then bif decide (List.length (TStmt.reg a0++[(32:UInt8),(60:UInt8),(45:UInt8),(32:UInt8),(97:UInt8),(100:UInt8),(100:UInt8),(32:UInt8)]++TStmt.name a0++[(32:UInt8)]++[])+(1:Nat)≤(9223372036854775807:Nat)) then some (TStmt.reg a0++[(32:UInt8),(60:UInt8),(45:UInt8),(32:UInt8),(97:UInt8),(100:UInt8),(100:UInt8),(32:UInt8)]++TStmt.name a0++[(32:UInt8)]++[]++[(59:UInt8)]) else none else none else none else none else none else bif TStmt.kind a0==5 then bif decide ((5:Nat)+List.length (TStmt.name a0)≤(9223372036854775807:Nat)) then bif decide (List.length ([(108:UInt8),(111:UInt8),(99:UInt8),(107:UInt8),(32:UInt8)]++TStmt.name a0)+(1:Nat)≤(9223372036854775807:Nat)) then some ([(108:UInt8),(111:UInt8),(99:UInt8),(107:UInt8),(32:UInt8)]++TStmt.name a0++[(59:UInt8)]) else none else none else bif TStmt.kind a0==6 then bif decide ((7:Nat)+List.length (TStmt.name a0)≤(9223372036854775807:Nat)) then bif decide (List.length ([(117:UInt8),(110:UInt8),(108:UInt8),(111:UInt8),(99:UInt8),(107:UInt8),(32:UInt8)]++TStmt.name a0)+(1:Nat)≤(9223372036854775807:Nat)) then some ([(117:UInt8),(110:UInt8),(108:UInt8),(111:UInt8),(99:UInt8),(107:UInt8),(32:UInt8)]++TStmt.name a0++[(59:UInt8)]) else none else none else bif TStmt.kind a0==7 then bif decide ((6:Nat)+List.length (TStmt.name a0)≤(9223372036854775807:Nat)) then bif decide (List.length ([(115:UInt8),(116:UInt8),(97:UInt8),(114:UInt8),(116:UInt8),(32:UInt8)]++TStmt.name a0)+(1:Nat)≤(9223372036854775807:Nat)) then some ([(115:UInt8),(116:UInt8),(97:UInt8),(114:UInt8),(116:UInt8),(32:UInt8)]++TStmt.name a0++[(59:UInt8)]) else none else none else bif TStmt.kind a0==8 then bif decide ((5:Nat)+List.length (TStmt.name a0)≤(9223372036854775807:Nat)) then bif decide (List.length ([(106:UInt8),(111:UInt8),(105:UInt8),(110:UInt8),(32:UInt8)]++TStmt.name a0)+(1:Nat)≤(9223372036854775807:Nat)) then some ([(106:UInt8),(111:UInt8),(105:UInt8),(110:UInt8),(32:UInt8)]++TStmt.name a0++[(59:UInt8)]) else none else none else some ([(97:UInt8),(115:UInt8),(115:UInt8),(101:UInt8),(114:UInt8),(116:UInt8),(32:UInt8)]++[]++[(59:UInt8)])
def qbc (rec_qba:qba_o):=sealF (qbc_f rec_qba)
abbrev qba_o3:=List TStmt→Int→List UInt8→Int→Option ((List UInt8))
def qba_t3 (rec_qba:qba_o) (rec:qba_o3):qba_o3:=fun a0 a1 a2 a3=>Option.bind (α:=Bool) ( bif decide (a3<(List.length a0:Int)) then some (decide ((List.length a2:Int)≤4000)) else some (false)) fun y0=>bif y0 then bif decide (0≤a3) then (a0[Int.toNat a3]?).bind fun y1=>(qa9 a1).bind fun y2=>bif decide (List.length a2+List.length y2≤(9223372036854775807:Nat)) then bif TStmt.kind y1==10 then (qa7 (TExpr.mk (TExpr.kind (TStmt.expr y1)) (TExpr.num (TStmt.expr y1)) (TExpr.name (TStmt.expr y1)) (TExpr.args (TStmt.expr y1))) (1:Int)).bind fun y3=>(rec_qba (TStmt.then_ y1) (IntKind.wrap IntKind.i64 (a1+(1:Int)))).bind fun y4=>bif decide (List.length (a2++y2)+(3:Nat)≤(9223372036854775807:Nat)) then bif decide (List.length (a2++y2++[(105:UInt8),(102:UInt8),(32:UInt8)])+List.length y3≤(9223372036854775807:Nat)) then bif decide (List.length (a2++y2++[(105:UInt8),(102:UInt8),(32:UInt8)]++y3)+(3:Nat)≤(9223372036854775807:Nat)) then bif decide (List.length (a2++y2++[(105:UInt8),(102:UInt8),(32:UInt8)]++y3++[(32:UInt8),(123:UInt8),(10:UInt8)])+List.length y4≤(9223372036854775807:Nat)) then bif decide ((List.length (TStmt.else_ y1):Int)>0) then (rec_qba (TStmt.else_ y1) (IntKind.wrap IntKind.i64 (a1+(1:Int)))).bind fun y5=>(qa9 a1).bind fun y6=>bif decide (List.length (a2++y2++[(105:UInt8),(102:UInt8),(32:UInt8)]++y3++[(32:UInt8),(123:UInt8),(10:UInt8)]++y4)+List.length y6≤(9223372036854775807:Nat)) then bif decide (List.length (a2++y2++[(105:UInt8),(102:UInt8),(32:UInt8)]++y3++[(32:UInt8),(123:UInt8),(10:UInt8)]++y4++y6)+(9:Nat)≤(9223372036854775807:Nat)) then bif decide (List.length (a2++y2++[(105:UInt8),(102:UInt8),(32:UInt8)]++y3++[(32:UInt8),(123:UInt8),(10:UInt8)]++y4++y6++[(125:UInt8),(32:UInt8),(101:UInt8),(108:UInt8),(115:UInt8),(101:UInt8),(32:UInt8),(123:UInt8),(10:UInt8)])+List.length y5≤(9223372036854775807:Nat)) then (qa9 a1).bind fun y7=>bif decide (List.length (a2++y2++[(105:UInt8),(102:UInt8),(32:UInt8)]++y3++[(32:UInt8),(123:UInt8),(10:UInt8)]++y4++y6++[(125:UInt8),(32:UInt8),(101:UInt8),(108:UInt8),(115:UInt8),(101:UInt8),(32:UInt8),(123:UInt8),(10:UInt8)]++y5)+List.length y7≤(9223372036854775807:Nat)) then bif decide (List.length (a2++y2++[(105:UInt8),(102:UInt8),(32:UInt8)]++y3++[(32:UInt8),(123:UInt8),(10:UInt8)]++y4++y6++[(125:UInt8),(32:UInt8),(101:UInt8),(108:UInt8),(115:UInt8),(101:UInt8),(32:UInt8),(123:UInt8),(10:UInt8)]++y5++y7)+(2:Nat)≤(9223372036854775807:Nat)) then rec (a0) (a1) (a2++y2++[(105:UInt8),(102:UInt8),(32:UInt8)]++y3++[(32:UInt8),(123:UInt8),(10:UInt8)]++y4++y6++[(125:UInt8),(32:UInt8),(101:UInt8),(108:UInt8),(115:UInt8),(101:UInt8),(32:UInt8),(123:UInt8),(10:UInt8)]++y5++y7++[(125:UInt8),(10:UInt8)]) (IntKind.wrap IntKind.i64 (a3+(1:Int))) else none else none else none else none else none else (qa9 a1).bind fun y8=>bif decide (List.length (a2++y2++[(105:UInt8),(102:UInt8),(32:UInt8)]++y3++[(32:UInt8),(123:UInt8),(10:UInt8)]++y4)+List.length y8≤(9223372036854775807:Nat)) then bif decide (List.length (a2++y2++[(105:UInt8),(102:UInt8),(32:UInt8)]++y3++[(32:UInt8),(123:UInt8),(10:UInt8)]++y4++y8)+(2:Nat)≤(9223372036854775807:Nat)) then rec (a0) (a1) (a2++y2++[(105:UInt8),(102:UInt8),(32:UInt8)]++y3++[(32:UInt8),(123:UInt8),(10:UInt8)]++y4++y8++[(125:UInt8),(10:UInt8)]) (IntKind.wrap IntKind.i64 (a3+(1:Int))) else none else none else none else none else none else none else bif TStmt.kind y1==11 then (rec_qba (TStmt.then_ y1) (IntKind.wrap IntKind.i64 (a1+(1:Int)))).bind fun y9=>bif decide (List.length (a2++y2)+(7:Nat)≤(9223372036854775807:Nat)) then (qa6 (TStmt.count y1)).bind fun y10=>bif decide (List.length (a2++y2++[(114:UInt8),(101:UInt8),(112:UInt8),(101:UInt8),(97:UInt8),(116:UInt8),(32:UInt8)])+List.length y10≤(9223372036854775807:Nat)) then bif decide (List.length (a2++y2++[(114:UInt8),(101:UInt8),(112:UInt8),(101:UInt8),(97:UInt8),(116:UInt8),(32:UInt8)]++y10)+(3:Nat)≤(9223372036854775807:Nat)) then bif decide (List.length (a2++y2++[(114:UInt8),(101:UInt8),(112:UInt8),(101:UInt8),(97:UInt8),(116:UInt8),(32:UInt8)]++y10++[(32:UInt8),(123:UInt8),(10:UInt8)])+List.length y9≤(9223372036854775807:Nat)) then (qa9 a1).bind fun y11=>bif decide (List.length (a2++y2++[(114:UInt8),(101:UInt8),(112:UInt8),(101:UInt8),(97:UInt8),(116:UInt8),(32:UInt8)]++y10++[(32:UInt8),(123:UInt8),(10:UInt8)]++y9)+List.length y11≤(9223372036854775807:Nat)) then bif decide (List.length (a2++y2++[(114:UInt8),(101:UInt8),(112:UInt8),(101:UInt8),(97:UInt8),(116:UInt8),(32:UInt8)]++y10++[(32:UInt8),(123:UInt8),(10:UInt8)]++y9++y11)+(2:Nat)≤(9223372036854775807:Nat)) then rec (a0) (a1) (a2++y2++[(114:UInt8),(101:UInt8),(112:UInt8),(101:UInt8),(97:UInt8),(116:UInt8),(32:UInt8)]++y10++[(32:UInt8),(123:UInt8),(10:UInt8)]++y9++y11++[(125:UInt8),(10:UInt8)]) (IntKind.wrap IntKind.i64 (a3+(1:Int))) else none else none else none else none else none else none else (qbc rec_qba (TStmt.mk (TStmt.kind y1) (TStmt.reg y1) (TStmt.name y1) (TExpr.mk (TExpr.kind (TStmt.expr y1)) (TExpr.num (TStmt.expr y1)) (TExpr.name (TStmt.expr y1)) (TExpr.args (TStmt.expr y1))) (TStmt.count y1) (TStmt.then_ y1) (TStmt.else_ y1))).bind fun y12=>bif decide (List.length (a2++y2)+List.length y12≤(9223372036854775807:Nat)) then bif decide (List.length (a2++y2++y12)+(1:Nat)≤(9223372036854775807:Nat)) then rec (a0) (a1) (a2++y2++y12++[(10:UInt8)]) (IntKind.wrap IntKind.i64 (a3+(1:Int))) else none else none else none else none else some (a2)
def qba_i3 (rec_qba:qba_o):Nat→qba_o3
 |0=>fun _ _ _ _=>none
 |n+1=>qba_t3 rec_qba (qba_i3 rec_qba n)
def qba_l3 (rec_qba:qba_o):=sealF (qba_i3 rec_qba fuel)
def qba_f (rec_qba:qba_o):qba_o:=fun a0 a1=>(qba_l3 rec_qba a0 a1 [] (0:Int)).bind fun y0=>some (y0)
def qba_i:Nat→qba_o
 |0=>fun _ _=>none
 |n+1=>qba_f (qba_i n)
def qba:=sealF (qba_i fuel)
abbrev qa8_o6:=List UInt8→Int→List TCell→List (List UInt8)→List TThread→Option ((List UInt8)×(List TCell)×(List (List UInt8))×(List TThread))
def qa8_t6 (rec:qa8_o6):qa8_o6:=fun a0 a1 a2 a3 a4=>Option.bind (α:=Bool) ( bif decide (a1<(List.length a2:Int)) then some (decide ((List.length a0:Int)≤4000)) else some (false)) fun y0=>bif y0 then bif decide (List.length a0+(5:Nat)≤(9223372036854775807:Nat)) then bif decide (0≤a1) then (a2[Int.toNat a1]?).bind fun y1=>bif decide (List.length (a0++[(99:UInt8),(101:UInt8),(108:UInt8),(108:UInt8),(32:UInt8)])+List.length (TCell.name y1)≤(9223372036854775807:Nat)) then bif decide (List.length (a0++[(99:UInt8),(101:UInt8),(108:UInt8),(108:UInt8),(32:UInt8)]++TCell.name y1)+(3:Nat)≤(9223372036854775807:Nat)) then bif decide (0≤a1) then (a2[Int.toNat a1]?).bind fun y2=>(qa6 (TCell.init y2)).bind fun y3=>bif decide (List.length (a0++[(99:UInt8),(101:UInt8),(108:UInt8),(108:UInt8),(32:UInt8)]++TCell.name y1++[(32:UInt8),(61:UInt8),(32:UInt8)])+List.length y3≤(9223372036854775807:Nat)) then bif decide (List.length (a0++[(99:UInt8),(101:UInt8),(108:UInt8),(108:UInt8),(32:UInt8)]++TCell.name y1++[(32:UInt8),(61:UInt8),(32:UInt8)]++y3)+(2:Nat)≤(9223372036854775807:Nat)) then rec (a0++[(99:UInt8),(101:UInt8),(108:UInt8),(108:UInt8),(32:UInt8)]++TCell.name y1++[(32:UInt8),(61:UInt8),(32:UInt8)]++y3++[(59:UInt8),(10:UInt8)]) (IntKind.wrap IntKind.i64 (a1+(1:Int))) (a2) (a3) (a4) else none else none else none else none else none else none else none else some ((a0),(a2),(a3),(a4))
def qa8_i6:Nat→qa8_o6
 |0=>fun _ _ _ _ _=>none
 |n+1=>qa8_t6 (qa8_i6 n)
def qa8_l6:=sealF (qa8_i6 fuel)
abbrev qa8_o10:=List UInt8→Int→List TCell→List (List UInt8)→List TThread→Option ((List UInt8)×(List TCell)×(List (List UInt8))×(List TThread))
def qa8_t10 (rec:qa8_o10):qa8_o10:=fun a0 a1 a2 a3 a4=>Option.bind (α:=Bool) ( bif decide (a1<(List.length a3:Int)) then some (decide ((List.length a0:Int)≤4000)) else some (false)) fun y0=>bif y0 then bif decide (List.length a0+(6:Nat)≤(9223372036854775807:Nat)) then bif decide (0≤a1) then (a3[Int.toNat a1]?).bind fun y1=>bif decide (List.length (a0++[(109:UInt8),(117:UInt8),(116:UInt8),(101:UInt8),(120:UInt8),(32:UInt8)])+List.length y1≤(9223372036854775807:Nat)) then bif decide (List.length (a0++[(109:UInt8),(117:UInt8),(116:UInt8),(101:UInt8),(120:UInt8),(32:UInt8)]++y1)+(2:Nat)≤(9223372036854775807:Nat)) then rec (a0++[(109:UInt8),(117:UInt8),(116:UInt8),(101:UInt8),(120:UInt8),(32:UInt8)]++y1++[(59:UInt8),(10:UInt8)]) (IntKind.wrap IntKind.i64 (a1+(1:Int))) (a2) (a3) (a4) else none else none else none else none else some ((a0),(a2),(a3),(a4))
def qa8_i10:Nat→qa8_o10
 |0=>fun _ _ _ _ _=>none
 |n+1=>qa8_t10 (qa8_i10 n)
def qa8_l10:=sealF (qa8_i10 fuel)
abbrev qa8_o14:=List UInt8→Int→List TCell→List (List UInt8)→List TThread→Option ((List UInt8))
def qa8_t14 (rec:qa8_o14):qa8_o14:=fun a0 a1 a2 a3 a4=>Option.bind (α:=Bool) ( bif decide (a1<(List.length a4:Int)) then some (decide ((List.length a0:Int)≤4000)) else some (false)) fun y0=>bif y0 then bif decide (0≤a1) then (a4[Int.toNat a1]?).bind fun y1=>(qba (TThread.body y1) (1:Int)).bind fun y2=>bif decide (List.length a0+(7:Nat)≤(9223372036854775807:Nat)) then bif decide (0≤a1) then (a4[Int.toNat a1]?).bind fun y3=>bif decide (List.length (a0++[(116:UInt8),(104:UInt8),(114:UInt8),(101:UInt8),(97:UInt8),(100:UInt8),(32:UInt8)])+List.length (TThread.name y3)≤(9223372036854775807:Nat)) then bif decide (List.length (a0++[(116:UInt8),(104:UInt8),(114:UInt8),(101:UInt8),(97:UInt8),(100:UInt8),(32:UInt8)]++TThread.name y3)+(3:Nat)≤(9223372036854775807:Nat)) then bif decide (List.length (a0++[(116:UInt8),(104:UInt8),(114:UInt8),(101:UInt8),(97:UInt8),(100:UInt8),(32:UInt8)]++TThread.name y3++[(32:UInt8),(123:UInt8),(10:UInt8)])+List.length y2≤(9223372036854775807:Nat)) then bif decide (List.length (a0++[(116:UInt8),(104:UInt8),(114:UInt8),(101:UInt8),(97:UInt8),(100:UInt8),(32:UInt8)]++TThread.name y3++[(32:UInt8),(123:UInt8),(10:UInt8)]++y2)+(2:Nat)≤(9223372036854775807:Nat)) then rec (a0++[(116:UInt8),(104:UInt8),(114:UInt8),(101:UInt8),(97:UInt8),(100:UInt8),(32:UInt8)]++TThread.name y3++[(32:UInt8),(123:UInt8),(10:UInt8)]++y2++[(125:UInt8),(10:UInt8)]) (IntKind.wrap IntKind.i64 (a1+(1:Int))) (a2) (a3) (a4) else none else none else none else none else none else none else none else some (a0)
def qa8_i14:Nat→qa8_o14
 |0=>fun _ _ _ _ _=>none
 |n+1=>qa8_t14 (qa8_i14 n)
def qa8_l14:=sealF (qa8_i14 fuel)
def qa8_f (a0:TProg):Option ((List UInt8)×Int):=(qaW (TProg.mk (TProg.cells a0) (TProg.mutexes a0) (TProg.threads a0))).bind fun y0=>bif y0 != 0 then some (([]),(y0)) else (qa8_l6 [] (0:Int) (TProg.cells a0) (TProg.mutexes a0) (TProg.threads a0)).bind fun y1=>(qa8_l10 y1.1 (0:Int) y1.2.1 y1.2.2.1 y1.2.2.2).bind fun y2=>(qa8_l14 y2.1 (0:Int) y2.2.1 y2.2.2.1 y2.2.2.2).bind fun y3=>bif decide ((List.length y3:Int)>4000) then some (([]),((10:Int))) else some ((y3),((0:Int)))
def qa8:=sealF (qa8_f)
abbrev qaY_o:=TExpr→TExpr→Option (Bool)
abbrev qaY_o4:=Int→Int→Int→List UInt8→List TExpr→Int→Int→List UInt8→List TExpr→Option ((Bool)⊕(Unit))
def qaY_t4 (rec_qaY:qaY_o) (rec:qaY_o4):qaY_o4:=fun a0 a1 a2 a3 a4 a5 a6 a7 a8=>bif decide (a0<(List.length a4:Int)) then bif decide (0≤a0) then (a4[Int.toNat a0]?).bind fun y0=>bif decide (0≤a0) then (a8[Int.toNat a0]?).bind fun y1=>(rec_qaY y0 y1).bind fun y2=>bif !y2 then some (.inl (false)) else rec (IntKind.wrap IntKind.i64 (a0+(1:Int))) (a1) (a2) (a3) (a4) (a5) (a6) (a7) (a8) else none else none else some (.inr ())
def qaY_i4 (rec_qaY:qaY_o):Nat→qaY_o4
 |0=>fun _ _ _ _ _ _ _ _ _=>none
 |n+1=>qaY_t4 rec_qaY (qaY_i4 rec_qaY n)
def qaY_l4 (rec_qaY:qaY_o):=sealF (qaY_i4 rec_qaY fuel)
def qaY_f (rec_qaY:qaY_o):qaY_o:=fun a0 a1=>Option.bind (α:=Bool) ( bif TExpr.kind a0 != TExpr.kind a1 then some (true) else some (TExpr.num a0 != TExpr.num a1)) fun y0=>Option.bind (α:=Bool) ( bif y0 then some (true) else some (!TExpr.name a0==TExpr.name a1)) fun y1=>Option.bind (α:=Bool) ( bif y1 then some (true) else some ((List.length (TExpr.args a0):Int) != (List.length (TExpr.args a1):Int))) fun y2=>bif y2 then some (false) else (qaY_l4 rec_qaY (0:Int) (TExpr.kind a0) (TExpr.num a0) (TExpr.name a0) (TExpr.args a0) (TExpr.kind a1) (TExpr.num a1) (TExpr.name a1) (TExpr.args a1)).bind fun y3=>(match y3 with|.inl y4=>some (y4)|.inr y4=>some (true))
def qaY_i:Nat→qaY_o
 |0=>fun _ _=>none
 |n+1=>qaY_f (qaY_i n)
def qaY:=sealF (qaY_i fuel)
abbrev qa2_o:=List TStmt→List TStmt→Option (Bool)
abbrev qa2_o4:=List TStmt→List TStmt→Int→Option ((Bool)⊕(Unit))
def qa2_t4 (rec_qa2:qa2_o) (rec:qa2_o4):qa2_o4:=fun a0 a1 a2=>bif decide (a2<(List.length a0:Int)) then bif decide (0≤a2) then (a0[Int.toNat a2]?).bind fun y0=>bif decide (0≤a2) then (a1[Int.toNat a2]?).bind fun y1=>(qaY (TExpr.mk (TExpr.kind (TStmt.expr y0)) (TExpr.num (TStmt.expr y0)) (TExpr.name (TStmt.expr y0)) (TExpr.args (TStmt.expr y0))) (TExpr.mk (TExpr.kind (TStmt.expr y1)) (TExpr.num (TStmt.expr y1)) (TExpr.name (TStmt.expr y1)) (TExpr.args (TStmt.expr y1)))).bind fun y2=>bif decide (0≤a2) then (a0[Int.toNat a2]?).bind fun y3=>bif decide (0≤a2) then (a1[Int.toNat a2]?).bind fun y4=>(rec_qa2 (TStmt.then_ y3) (TStmt.then_ y4)).bind fun y5=>bif decide (0≤a2) then (a0[Int.toNat a2]?).bind fun y6=>bif decide (0≤a2) then (a1[Int.toNat a2]?).bind fun y7=>(rec_qa2 (TStmt.else_ y6) (TStmt.else_ y7)).bind fun y8=>bif decide (0≤a2) then (a0[Int.toNat a2]?).bind fun y9=>bif decide (0≤a2) then (a1[Int.toNat a2]?).bind fun y10=>bif TStmt.kind y9 != TStmt.kind y10 then some (.inl (false)) else bif decide (0≤a2) then (a0[Int.toNat a2]?).bind fun y11=>bif decide (0≤a2) then (a1[Int.toNat a2]?).bind fun y12=>bif !TStmt.reg y11==TStmt.reg y12 then some (.inl (false)) else bif decide (0≤a2) then (a0[Int.toNat a2]?).bind fun y13=>bif decide (0≤a2) then (a1[Int.toNat a2]?).bind fun y14=>bif !TStmt.name y13==TStmt.name y14 then some (.inl (false)) else bif decide (0≤a2) then (a0[Int.toNat a2]?).bind fun y15=>bif decide (0≤a2) then (a1[Int.toNat a2]?).bind fun y16=>bif TStmt.count y15 != TStmt.count y16 then some (.inl (false)) else bif !y2 then some (.inl (false)) else bif !y5 then some (.inl (false)) else bif !y8 then some (.inl (false)) else rec (a0) (a1) (IntKind.wrap IntKind.i64 (a2+(1:Int))) else none else none else none else none else none else none else none else none else none else none else none else none else none else none else some (.inr ())
def qa2_i4 (rec_qa2:qa2_o):Nat→qa2_o4
 |0=>fun _ _ _=>none
 |n+1=>qa2_t4 rec_qa2 (qa2_i4 rec_qa2 n)
def qa2_l4 (rec_qa2:qa2_o):=sealF (qa2_i4 rec_qa2 fuel)
def qa2_f (rec_qa2:qa2_o):qa2_o:=fun a0 a1=>bif (List.length a0:Int) != (List.length a1:Int) then some (false) else (qa2_l4 rec_qa2 a0 a1 (0:Int)).bind fun y0=>(match y0 with|.inl y1=>some (y1)|.inr y1=>some (true))
def qa2_i:Nat→qa2_o
 |0=>fun _ _=>none
 |n+1=>qa2_f (qa2_i n)
def qa2:=sealF (qa2_i fuel)
abbrev qaX_o4:=Int→List TCell→List (List UInt8)→List TThread→List TCell→List (List UInt8)→List TThread→Option ((Bool)⊕((List TCell)×(List (List UInt8))×(List TThread)×(List TCell)×(List (List UInt8))×(List TThread)))
def qaX_t4 (rec:qaX_o4):qaX_o4:=fun a0 a1 a2 a3 a4 a5 a6=>bif decide (a0<(List.length a1:Int)) then bif decide (0≤a0) then (a1[Int.toNat a0]?).bind fun y0=>bif decide (0≤a0) then (a4[Int.toNat a0]?).bind fun y1=>bif !decide (y0=y1) then some (.inl (false)) else rec (IntKind.wrap IntKind.i64 (a0+(1:Int))) (a1) (a2) (a3) (a4) (a5) (a6) else none else none else some (.inr ((a1),(a2),(a3),(a4),(a5),(a6)))
def qaX_i4:Nat→qaX_o4
 |0=>fun _ _ _ _ _ _ _=>none
 |n+1=>qaX_t4 (qaX_i4 n)
def qaX_l4:=sealF (qaX_i4 fuel)
abbrev qaX_o9:=Int→List TCell→List (List UInt8)→List TThread→List TCell→List (List UInt8)→List TThread→Option ((Bool)⊕((List TCell)×(List (List UInt8))×(List TThread)×(List TCell)×(List (List UInt8))×(List TThread)))
def qaX_t9 (rec:qaX_o9):qaX_o9:=fun a0 a1 a2 a3 a4 a5 a6=>bif decide (a0<(List.length a2:Int)) then bif decide (0≤a0) then (a2[Int.toNat a0]?).bind fun y0=>bif decide (0≤a0) then (a5[Int.toNat a0]?).bind fun y1=>bif !y0==y1 then some (.inl (false)) else rec (IntKind.wrap IntKind.i64 (a0+(1:Int))) (a1) (a2) (a3) (a4) (a5) (a6) else none else none else some (.inr ((a1),(a2),(a3),(a4),(a5),(a6)))
def qaX_i9:Nat→qaX_o9
 |0=>fun _ _ _ _ _ _ _=>none
 |n+1=>qaX_t9 (qaX_i9 n)
def qaX_l9:=sealF (qaX_i9 fuel)
abbrev qaX_o14:=Int→List TCell→List (List UInt8)→List TThread→List TCell→List (List UInt8)→List TThread→Option ((Bool)⊕(Unit))
def qaX_t14 (rec:qaX_o14):qaX_o14:=fun a0 a1 a2 a3 a4 a5 a6=>bif decide (a0<(List.length a3:Int)) then bif decide (0≤a0) then (a3[Int.toNat a0]?).bind fun y0=>bif decide (0≤a0) then (a6[Int.toNat a0]?).bind fun y1=>(qa2 (TThread.body y0) (TThread.body y1)).bind fun y2=>bif decide (0≤a0) then (a3[Int.toNat a0]?).bind fun y3=>bif decide (0≤a0) then (a6[Int.toNat a0]?).bind fun y4=>bif !TThread.name y3==TThread.name y4 then some (.inl (false)) else bif !y2 then some (.inl (false)) else rec (IntKind.wrap IntKind.i64 (a0+(1:Int))) (a1) (a2) (a3) (a4) (a5) (a6) else none else none else none else none else some (.inr ())
def qaX_i14:Nat→qaX_o14
 |0=>fun _ _ _ _ _ _ _=>none
 |n+1=>qaX_t14 (qaX_i14 n)
def qaX_l14:=sealF (qaX_i14 fuel)
def qaX_f (a0:TProg) (a1:TProg):Option (Bool):=Option.bind (α:=Bool) ( bif (List.length (TProg.cells a0):Int) != (List.length (TProg.cells a1):Int) then some (true) else some ((List.length (TProg.mutexes a0):Int) != (List.length (TProg.mutexes a1):Int))) fun y0=>Option.bind (α:=Bool) ( bif y0 then some (true) else some ((List.length (TProg.threads a0):Int) != (List.length (TProg.threads a1):Int))) fun y1=>bif y1 then some (false) else (qaX_l4 (0:Int) (TProg.cells a0) (TProg.mutexes a0) (TProg.threads a0) (TProg.cells a1) (TProg.mutexes a1) (TProg.threads a1)).bind fun y2=>(match y2 with|.inl y3=>some (y3)|.inr y3=>(qaX_l9 (0:Int) y3.1 y3.2.1 y3.2.2.1 y3.2.2.2.1 y3.2.2.2.2.1 y3.2.2.2.2.2).bind fun y4=>(match y4 with|.inl y5=>some (y5)|.inr y5=>(qaX_l14 (0:Int) y5.1 y5.2.1 y5.2.2.1 y5.2.2.2.1 y5.2.2.2.2.1 y5.2.2.2.2.2).bind fun y6=>(match y6 with|.inl y7=>some (y7)|.inr y7=>some (true))))
def qaX:=sealF (qaX_f)
def qar_f (a0:TProg):Option (Bool):=(qas).bind fun y0=>(qaM (TProg.mk (TProg.cells a0) (TProg.mutexes a0) (TProg.threads a0))).bind fun y1=>(qa8 (TProg.mk (TProg.cells a0) (TProg.mutexes a0) (TProg.threads a0))).bind fun y2=>(qbk (TProg.mk y1.1 y1.2.1 y1.2.2)).bind fun y3=>(qaX (TProg.mk (TProg.cells a0) (TProg.mutexes a0) (TProg.threads a0)) (TProg.mk y1.1 y1.2.1 y1.2.2)).bind fun y4=>Option.bind (α:=Bool) ( bif y0 then some (y3.2==y2.2) else some (false)) fun y5=>Option.bind (α:=Bool) ( bif y5 then some (y3.1==y2.1) else some (false)) fun y6=>Option.bind (α:=Bool) ( bif y6 then some (y4) else some (false)) fun y7=>some (y7)
def qar:=sealF (qar_f)
end
end Lift.Fn
