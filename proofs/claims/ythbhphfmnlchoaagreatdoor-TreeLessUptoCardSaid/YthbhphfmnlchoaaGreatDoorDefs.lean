/-
  DERIVED. The functions of this seat as Lean has them; the library's modes. Conditions: none.
-/
import Derived.Test.YthbhphfmnlchoaaGreatDoorLiftC
import Derived.Test.YthbhphfmnlchoaaGreatDoorProg
import Derived.KernelRfl
set_option linter.unusedVariables false
set_option linter.unusedSimpArgs false
set_option linter.unusedSectionVars false
namespace Lift.T3
open Go Go.RowKit Go.Proofs Lift
@[reducible] noncomputable def U (n:Nat):Type:=match n with
 |26=>TProg
 |38=>TThread
 |41=>TExpr
 |43=>TStmt
 |46=>TCell
 |90=>Fault
 |94=>Token
 |96=>Shape
 |108=>Spot
 |1026=>TProg
 |1038=>TThread
 |1041=>TExpr
 |1043=>TStmt
 |2038=>TThread
 |_=>Empty
noncomputable def cells (n:Nat):U n→List (TV U):=match n with
 |26=>fun (x:TProg)=>[⟨.slc (.st 46),x.cells⟩,⟨.slc (.str),x.mutexes⟩,⟨.slc (.st 38),x.threads⟩]
 |38=>fun (x:TThread)=>[⟨.str,x.name⟩,⟨.slc (.st 43),x.body⟩]
 |41=>fun (x:TExpr)=>[⟨.int .i64,x.kind⟩,⟨.int .i64,x.num⟩,⟨.str,x.name⟩,⟨.slc (.st 41),x.args⟩]
 |43=>fun (x:TStmt)=>[⟨.int .i64,x.kind⟩,⟨.str,x.reg⟩,⟨.str,x.name⟩,⟨.int .i64,x.expr.kind⟩,⟨.int .i64,x.expr.num⟩,⟨.str,x.expr.name⟩,⟨.slc (.st 41),x.expr.args⟩,⟨.int .i64,x.count⟩,⟨.slc (.st 43),x.then_⟩,⟨.slc (.st 43),x.else_⟩]
 |46=>fun (x:TCell)=>[⟨.str,x.name⟩,⟨.int .i64,x.init⟩]
 |90=>fun (x:Fault)=>[⟨.int .i64,x.code⟩,⟨.int .i64,x.at_⟩,⟨.str,x.name⟩]
 |94=>fun (x:Token)=>[⟨.int .i64,x.kind⟩,⟨.str,x.text⟩,⟨.int .i64,x.num⟩,⟨.int .i64,x.at_⟩]
 |96=>fun (x:Shape)=>[⟨.bool,x.reg⟩,⟨.bool,x.name⟩,⟨.bool,x.expr⟩,⟨.bool,x.count⟩,⟨.bool,x.then_⟩,⟨.bool,x.other⟩]
 |108=>fun (x:Spot)=>[⟨.int .i64,x.rune⟩,⟨.int .i64,x.at_⟩,⟨.int .i64,x.line⟩,⟨.int .i64,x.col⟩]
 |1026=>fun (x:TProg)=>[⟨.own 46 (.st 46),x.cells⟩,⟨.own 9 (.str),x.mutexes⟩,⟨.own 38 (.st 1038),x.threads⟩]
 |1038=>fun (x:TThread)=>[⟨.str,x.name⟩,⟨.own 43 (.st 1043),x.body⟩]
 |1041=>fun (x:TExpr)=>[⟨.int .i64,x.kind⟩,⟨.int .i64,x.num⟩,⟨.str,x.name⟩,⟨.own 41 (.st 1041),x.args⟩]
 |1043=>fun (x:TStmt)=>[⟨.int .i64,x.kind⟩,⟨.str,x.reg⟩,⟨.str,x.name⟩,⟨.int .i64,x.expr.kind⟩,⟨.int .i64,x.expr.num⟩,⟨.str,x.expr.name⟩,⟨.own 41 (.st 1041),x.expr.args⟩,⟨.int .i64,x.count⟩,⟨.own 43 (.st 1043),x.then_⟩,⟨.own 43 (.st 1043),x.else_⟩]
 |2038=>fun (x:TThread)=>[⟨.str,x.name⟩,⟨.own 43 (.st 43),x.body⟩]
 |_=>fun _=>[]
noncomputable def ctys (n:Nat):List Ty:=match n with
 |26=>[.slc (.st 46),.slc (.str),.slc (.st 38)]
 |38=>[.str,.slc (.st 43)]
 |41=>[.int .i64,.int .i64,.str,.slc (.st 41)]
 |43=>[.int .i64,.str,.str,.int .i64,.int .i64,.str,.slc (.st 41),.int .i64,.slc (.st 43),.slc (.st 43)]
 |46=>[.str,.int .i64]
 |90=>[.int .i64,.int .i64,.str]
 |94=>[.int .i64,.str,.int .i64,.int .i64]
 |96=>[.bool,.bool,.bool,.bool,.bool,.bool]
 |108=>[.int .i64,.int .i64,.int .i64,.int .i64]
 |1026=>[.own 46 (.st 46),.own 9 (.str),.own 38 (.st 1038)]
 |1038=>[.str,.own 43 (.st 1043)]
 |1041=>[.int .i64,.int .i64,.str,.own 41 (.st 1041)]
 |1043=>[.int .i64,.str,.str,.int .i64,.int .i64,.str,.own 41 (.st 1041),.int .i64,.own 43 (.st 1043),.own 43 (.st 1043)]
 |2038=>[.str,.own 43 (.st 43)]
 |_=>[]
noncomputable def make (n:Nat):List (TV U)→Option (U n):=match n with
 |26=>fun|[⟨.slc (.st 46),v0⟩,⟨.slc (.str),v1⟩,⟨.slc (.st 38),v2⟩]=>some (TProg.mk v0 v1 v2)|_=>none
 |38=>fun|[⟨.str,v0⟩,⟨.slc (.st 43),v1⟩]=>some (TThread.mk v0 v1)|_=>none
 |41=>fun|[⟨.int .i64,v0⟩,⟨.int .i64,v1⟩,⟨.str,v2⟩,⟨.slc (.st 41),v3⟩]=>some (TExpr.mk v0 v1 v2 v3)|_=>none
 |43=>fun|[⟨.int .i64,v0⟩,⟨.str,v1⟩,⟨.str,v2⟩,⟨.int .i64,v3⟩,⟨.int .i64,v4⟩,⟨.str,v5⟩,⟨.slc (.st 41),v6⟩,⟨.int .i64,v7⟩,⟨.slc (.st 43),v8⟩,⟨.slc (.st 43),v9⟩]=>some (TStmt.mk v0 v1 v2 (TExpr.mk v3 v4 v5 v6) v7 v8 v9)|_=>none
 |46=>fun|[⟨.str,v0⟩,⟨.int .i64,v1⟩]=>some (TCell.mk v0 v1)|_=>none
 |90=>fun|[⟨.int .i64,v0⟩,⟨.int .i64,v1⟩,⟨.str,v2⟩]=>some (Fault.mk v0 v1 v2)|_=>none
 |94=>fun|[⟨.int .i64,v0⟩,⟨.str,v1⟩,⟨.int .i64,v2⟩,⟨.int .i64,v3⟩]=>some (Token.mk v0 v1 v2 v3)|_=>none
 |96=>fun|[⟨.bool,v0⟩,⟨.bool,v1⟩,⟨.bool,v2⟩,⟨.bool,v3⟩,⟨.bool,v4⟩,⟨.bool,v5⟩]=>some (Shape.mk v0 v1 v2 v3 v4 v5)|_=>none
 |108=>fun|[⟨.int .i64,v0⟩,⟨.int .i64,v1⟩,⟨.int .i64,v2⟩,⟨.int .i64,v3⟩]=>some (Spot.mk v0 v1 v2 v3)|_=>none
 |1026=>fun|[⟨.own 46 (.st 46),v0⟩,⟨.own 9 (.str),v1⟩,⟨.own 38 (.st 1038),v2⟩]=>some (TProg.mk v0 v1 v2)|_=>none
 |1038=>fun|[⟨.str,v0⟩,⟨.own 43 (.st 1043),v1⟩]=>some (TThread.mk v0 v1)|_=>none
 |1041=>fun|[⟨.int .i64,v0⟩,⟨.int .i64,v1⟩,⟨.str,v2⟩,⟨.own 41 (.st 1041),v3⟩]=>some (TExpr.mk v0 v1 v2 v3)|_=>none
 |1043=>fun|[⟨.int .i64,v0⟩,⟨.str,v1⟩,⟨.str,v2⟩,⟨.int .i64,v3⟩,⟨.int .i64,v4⟩,⟨.str,v5⟩,⟨.own 41 (.st 1041),v6⟩,⟨.int .i64,v7⟩,⟨.own 43 (.st 1043),v8⟩,⟨.own 43 (.st 1043),v9⟩]=>some (TStmt.mk v0 v1 v2 (TExpr.mk v3 v4 v5 v6) v7 v8 v9)|_=>none
 |2038=>fun|[⟨.str,v0⟩,⟨.own 43 (.st 43),v1⟩]=>some (TThread.mk v0 v1)|_=>none
 |_=>fun _=>none
def pn (n:Nat):Nat:=match n with
 |1026=>26
 |1038=>38
 |1041=>41
 |1043=>43
 |2038=>38
 |n=>n
def closed (n:Nat):Bool:=match n with
 |1026=>true
 |1038=>true
 |1041=>true
 |1043=>true
 |46=>true
 |90=>true
 |94=>true
 |96=>true
 |108=>true
 |_=>false
def ids:List Nat:=[26,38,41,43,46,90,94,96,108,1026,1038,1041,1043,2038]
theorem zaen {n:Nat} (h:n∉ids):(∀ x,cells n x=[])∧ctys n=[]∧pn n=n∧closed n=false:=by
 refine ⟨?_,?_,?_,?_⟩
 ·intro x; unfold cells; split<;>first|rfl|exact absurd (by decide) h
 ·unfold ctys; split<;>first|rfl|exact absurd (by decide) h
 ·unfold pn; split<;>first|rfl|exact absurd (by decide) h
 ·unfold closed; split<;>first|rfl|exact absurd (by decide) h
theorem zakd {P:Nat→Prop} (h1:∀ n∈ids,P n) (h2:∀ n,n∉ids→P n) (n:Nat):P n:=by
 by_cases h:n∈ids
 ·exact h1 n h
 ·exact h2 n h
theorem pd:∀ n,U (pn n)=U n:=zakd (by unfold ids; simp only[List.forall_mem_cons]; exact ⟨rfl,rfl,rfl,rfl,rfl,rfl,rfl,rfl,rfl,rfl,rfl,rfl,rfl,rfl,fun n h=>by cases h⟩) (fun n h=>by rw[(zaen h).2.2.1])
theorem pc : ∀ n (x : U n), cells (pn n) (cast (pd n).symm x) = (cells n x).map (TV.plain pd) := zakd (by unfold ids; simp only [List.forall_mem_cons]; exact ⟨fun _ => rfl, fun _ => rfl, fun _ => rfl, fun _ => rfl, fun _ => rfl, fun _ => rfl, fun _ => rfl, fun _ => rfl, fun _ => rfl, fun _ => rfl, fun _ => rfl, fun _ => rfl, fun _ => rfl, fun _ => rfl, fun n h => by cases h⟩)
 (fun n h x=>by rw[(zaen h).1 x]; exact (zaen (n:=pn n) (by rw[(zaen h).2.2.1]; exact h)).1 _)
theorem pt : ∀ n, ctys (pn n) = (ctys n).map (Ty.plain pn) := zakd (by unfold ids; simp only [List.forall_mem_cons]; exact ⟨rfl, rfl, rfl, rfl, rfl, rfl, rfl, rfl, rfl, rfl, rfl, rfl, rfl, rfl, fun n h => by cases h⟩)
 (fun n h=>by rw[(zaen h).2.2.1,(zaen h).2.1]; rfl)
theorem closed_ok:∀ n,closed n=true→∀ t∈ctys n,(match t with
  |.int _=>true|.bool=>true|.str=>true|.err=>true|.fn=>true
  |.own _ (.st m)=>closed m
  |.own _ e=>match e with|.int _=>true|.bool=>true|.str=>true|_=>false
  |_=>false)=true:=zakd (by unfold ids; simp only[List.forall_mem_cons]; exact ⟨fun h=>(by cases h),fun h=>(by cases h),fun h=>(by cases h),fun h=>(by cases h),fun _=>List.all_eq_true.1 (by rfl),fun _=>List.all_eq_true.1 (by rfl),fun _=>List.all_eq_true.1 (by rfl),fun _=>List.all_eq_true.1 (by rfl),fun _=>List.all_eq_true.1 (by rfl),fun _=>List.all_eq_true.1 (by rfl),fun _=>List.all_eq_true.1 (by rfl),fun _=>List.all_eq_true.1 (by rfl),fun _=>List.all_eq_true.1 (by rfl),fun h=>(by cases h),fun n h=>by cases h⟩)
 (fun n h hc=>by rw[(zaen h).2.2.2] at hc; cases hc)
@[reducible] noncomputable def uni:Uni where
 U:=U
 cells:=cells
 ctys:=ctys
 make:=make
 make_ok:=by
  intro n cs x h;unfold make at h;split at h
  ·dsimp only at h;split at h
   ·cases h; rfl
   ·cases h
  ·dsimp only at h;split at h
   ·cases h; rfl
   ·cases h
  ·dsimp only at h;split at h
   ·cases h; rfl
   ·cases h
  ·dsimp only at h;split at h
   ·cases h; rfl
   ·cases h
  ·dsimp only at h;split at h
   ·cases h; rfl
   ·cases h
  ·dsimp only at h;split at h
   ·cases h; rfl
   ·cases h
  ·dsimp only at h;split at h
   ·cases h; rfl
   ·cases h
  ·dsimp only at h;split at h
   ·cases h; rfl
   ·cases h
  ·dsimp only at h;split at h
   ·cases h; rfl
   ·cases h
  ·dsimp only at h;split at h
   ·cases h; rfl
   ·cases h
  ·dsimp only at h;split at h
   ·cases h; rfl
   ·cases h
  ·dsimp only at h;split at h
   ·cases h; rfl
   ·cases h
  ·dsimp only at h;split at h
   ·cases h; rfl
   ·cases h
  ·dsimp only at h;split at h
   ·cases h; rfl
   ·cases h
  ·cases h
 tys_ok:=by
  intro n x;unfold cells ctys;split<;>rfl
 pn:=pn
 pd:=pd
 pc:=pc
 pt:=pt
 closed:=closed
 closed_ok:=closed_ok
 flat_ok:=by
  intro n t h;have:∀ n,(ctys n).all Ty.flat=true:=by
   intro n;unfold ctys;split<;>rfl
  exact List.all_eq_true.1 (this n) t h
noncomputable def tyOf:TypeId→Option Ty
 |1=>some (.fn)
 |2=>some (.int .i64)
 |3=>some (.int .i64)
 |4=>some (.bool)
 |5=>some (.int .u8)
 |6=>some (.int .u8)
 |9=>some (.str)
 |10=>some (.str)
 |11=>some (.str)
 |12=>some (.int .u64)
 |21=>some (.int .i32)
 |22=>some (.slc (.st 46))
 |23=>some (.slc (.str))
 |24=>some (.slc (.st 38))
 |26=>some (.st 26)
 |27=>some (.fn)
 |28=>some (.fn)
 |29=>some (.int .i64)
 |30=>some (.fn)
 |31=>some (.fn)
 |32=>some (.fn)
 |33=>some (.fn)
 |34=>some (.fn)
 |36=>some (.slc (.st 43))
 |38=>some (.st 38)
 |39=>some (.slc (.st 41))
 |41=>some (.st 41)
 |43=>some (.st 43)
 |44=>some (.fn)
 |46=>some (.st 46)
 |47=>some (.fn)
 |48=>some (.fn)
 |49=>some (.fn)
 |50=>some (.fn)
 |53=>some (.fn)
 |54=>some (.fn)
 |55=>some (.fn)
 |56=>some (.fn)
 |57=>some (.fn)
 |58=>some (.fn)
 |59=>some (.fn)
 |60=>some (.fn)
 |61=>some (.fn)
 |62=>some (.fn)
 |63=>some (.fn)
 |64=>some (.fn)
 |65=>some (.fn)
 |66=>some (.fn)
 |67=>some (.fn)
 |68=>some (.fn)
 |69=>some (.fn)
 |70=>some (.fn)
 |71=>some (.fn)
 |72=>some (.map (.str) (.int .i64))
 |74=>some (.fn)
 |75=>some (.fn)
 |76=>some (.fn)
 |77=>some (.fn)
 |78=>some (.fn)
 |79=>some (.fn)
 |80=>some (.fn)
 |81=>some (.fn)
 |82=>some (.fn)
 |83=>some (.fn)
 |84=>some (.fn)
 |85=>some (.fn)
 |86=>some (.fn)
 |87=>some (.fn)
 |88=>some (.slc (.st 94))
 |90=>some (.st 90)
 |92=>some (.fn)
 |94=>some (.st 94)
 |96=>some (.st 96)
 |98=>some (.map (.int .i64) (.st 96))
 |99=>some (.fn)
 |100=>some (.fn)
 |101=>some (.fn)
 |102=>some (.fn)
 |103=>some (.slc (.st 108))
 |105=>some (.fn)
 |106=>some (.fn)
 |108=>some (.st 108)
 |110=>some (.fn)
 |112=>some (.fn)
 |113=>some (.fn)
 |115=>some (.fn)
 |116=>some (.fn)
 |118=>some (.fn)
 |119=>some (.fn)
 |120=>some (.fn)
 |121=>some (.fn)
 |122=>some (.fn)
 |123=>some (.fn)
 |125=>some (.fn)
 |126=>some (.fn)
 |128=>some (.fn)
 |129=>some (.fn)
 |130=>some (.fn)
 |131=>some (.fn)
 |132=>some (.fn)
 |134=>some (.err)
 |136=>some (.fn)
 |137=>some (.fn)
 |138=>some (.fn)
 |140=>some (.int .u64)
 |144=>some (.fn)
 |145=>some (.fn)
 |149=>some (.fn)
 |150=>some (.fn)
 |152=>some (.fn)
 |153=>some (.fn)
 |154=>some (.fn)
 |155=>some (.int .i64)
 |156=>some (.slc (.int .u8))
 |158=>some (.fn)
 |160=>some (.fn)
 |161=>some (.fn)
 |162=>some (.fn)
 |163=>some (.fn)
 |164=>some (.int .u64)
 |166=>some (.fn)
 |169=>some (.fn)
 |170=>some (.fn)
 |171=>some (.int .u32)
 |173=>some (.fn)
 |174=>some (.fn)
 |179=>some (.fn)
 |181=>some (.fn)
 |182=>some (.fn)
 |184=>some (.fn)
 |185=>some (.fn)
 |188=>some (.fn)
 |189=>some (.fn)
 |192=>some (.fn)
 |198=>some (.fn)
 |199=>some (.int .u8)
 |200=>some (.int .u8)
 |201=>some (.fn)
 |202=>some (.int .i32)
 |203=>some (.int .i32)
 |_=>none
noncomputable def eqOf (T:TypeId) (n:Nat):Option (U n→U n→Bool):=match n with
 |46=>bif Nat.beq T 46 then some fun (a b:TCell)=>decide (a=b) else none
 |90=>bif Nat.beq T 90 then some fun (a b:Fault)=>decide (a=b) else none
 |94=>bif Nat.beq T 94 then some fun (a b:Token)=>decide (a=b) else none
 |96=>bif Nat.beq T 96 then some fun (a b:Shape)=>decide (a=b) else none
 |108=>bif Nat.beq T 108 then some fun (a b:Spot)=>decide (a=b) else none
 |_=>none
noncomputable def deepOf:TypeId→Option Ty
 |22=>some (.own 46 (.st 46))
 |23=>some (.own 9 (.str))
 |24=>some (.own 38 (.st 1038))
 |26=>some (.st 1026)
 |36=>some (.own 43 (.st 1043))
 |38=>some (.st 1038)
 |39=>some (.own 41 (.st 1041))
 |41=>some (.st 1041)
 |43=>some (.st 1043)
 |88=>some (.own 94 (.st 94))
 |103=>some (.own 108 (.st 108))
 |156=>some (.own 5 (.int .u8))
 |_=>none
noncomputable def deepOf2:TypeId→Option Ty
 |38=>some (.st 2038)
 |_=>none
@[reducible] noncomputable def kk:Kit:={ P:=Tryz.prog,u:=uni,tyOf,eqOf,modes:=fun _=>[],deepOf,deepOf2 }
theorem eqOk:EqOk kk:=by
 refine zaq2 fun T n f h=>?_
 change eqOf T n=some f at h
 change zafv Tryz.prog T (ctys n)=true∧∀ a b:U n,f a b=zabr (cells n a) (cells n b)
 unfold eqOf at h;split at h
 ·cases hb:Nat.beq T 46 with
  |true=>
   rw[hb] at h;cases Nat.eq_of_beq_eq_true hb;cases h;refine ⟨by kernel_rfl,?_⟩;rintro ⟨a0,a1⟩ ⟨b0,b1⟩
   simp[cells,zabr,zac9,cond_eq_ite,Bool.decide_and]
  |false=>rw[hb] at h; cases h
 ·cases hb:Nat.beq T 90 with
  |true=>
   rw[hb] at h;cases Nat.eq_of_beq_eq_true hb;cases h;refine ⟨by kernel_rfl,?_⟩;rintro ⟨a0,a1,a2⟩ ⟨b0,b1,b2⟩
   simp[cells,zabr,zac9,cond_eq_ite,Bool.decide_and]
  |false=>rw[hb] at h; cases h
 ·cases hb:Nat.beq T 94 with
  |true=>
   rw[hb] at h;cases Nat.eq_of_beq_eq_true hb;cases h;refine ⟨by kernel_rfl,?_⟩;rintro ⟨a0,a1,a2,a3⟩ ⟨b0,b1,b2,b3⟩
   simp[cells,zabr,zac9,cond_eq_ite,Bool.decide_and]
  |false=>rw[hb] at h; cases h
 ·cases hb:Nat.beq T 96 with
  |true=>
   rw[hb] at h;cases Nat.eq_of_beq_eq_true hb;cases h;refine ⟨by kernel_rfl,?_⟩;rintro ⟨a0,a1,a2,a3,a4,a5⟩ ⟨b0,b1,b2,b3,b4,b5⟩
   simp[cells,zabr,zac9,cond_eq_ite,Bool.decide_and]
  |false=>rw[hb] at h; cases h
 ·cases hb:Nat.beq T 108 with
  |true=>
   rw[hb] at h;cases Nat.eq_of_beq_eq_true hb;cases h;refine ⟨by kernel_rfl,?_⟩;rintro ⟨a0,a1,a2,a3⟩ ⟨b0,b1,b2,b3⟩
   simp[cells,zabr,zac9,cond_eq_ite,Bool.decide_and]
  |false=>rw[hb] at h; cases h
 ·cases h
theorem mixed:kk.P.follows .mixedOrders=true:=by kernel_rfl
end Lift.T3
namespace Lift.T3
open Go Go.RowKit Go.Proofs Lift Lift.Fn
noncomputable def strings_Contains_md:Mode U:=⟨⟨⟨[0,1],[],[]⟩,[.t (.str),.t (.str)],[]⟩,[],[⟨⟨[0],[],[]⟩,[.t (.bool)],[]⟩],fun ls=>match ls with|[⟨.str,a0⟩,⟨.str,a1⟩]=>.get (strings_Contains a0 a1) (fun r=>.ret (0,[⟨.bool,r⟩]))|_=>.fail⟩
noncomputable def unicode_utf8_DecodeRuneInString_md:Mode U:=⟨⟨⟨[0],[],[]⟩,[.t (.str)],[]⟩,[],[⟨⟨[0,1],[],[]⟩,[.t (.int .i32),.t (.int .i64)],[]⟩],fun ls=>match ls with|[⟨.str,a0⟩]=>.get (zaax a0) (fun r=>.ret (0,[⟨.int .i32,r.1⟩,⟨.int .i64,r.2⟩]))|_=>.fail⟩
noncomputable def unicode_utf8_RuneCountInString_md:Mode U:=⟨⟨⟨[0],[],[]⟩,[.t (.str)],[]⟩,[],[⟨⟨[0],[],[]⟩,[.t (.int .i64)],[]⟩],fun ls=>match ls with|[⟨.str,a0⟩]=>.get (zaaz a0) (fun r=>.ret (0,[⟨.int .i64,r⟩]))|_=>.fail⟩
noncomputable def strings_Trim_md:Mode U:=⟨⟨⟨[0,1],[],[]⟩,[.t (.str),.t (.str)],[]⟩,[],[⟨⟨[0],[],[]⟩,[.t (.str)],[]⟩],fun ls=>match ls with|[⟨.str,a0⟩,⟨.str,a1⟩]=>.get (zact a0 a1) (fun r=>.ret (0,[⟨.str,r⟩]))|_=>.fail⟩
noncomputable def strconv_Atoi_md:Mode U:=⟨⟨⟨[0],[],[]⟩,[.t (.str)],[]⟩,[],[⟨⟨[0,1],[],[]⟩,[.t (.int .i64),.t (.err)],[]⟩],fun ls=>match ls with|[⟨.str,a0⟩]=>.get (zacn a0) (fun r=>.ret (0,[⟨.int .i64,r.1⟩,⟨.err,r.2⟩]))|_=>.fail⟩
noncomputable def ms0:List (FuncId×Mode U):=[]
noncomputable def ms1:List (FuncId×Mode U):=(120,strings_Contains_md)::ms0
noncomputable def ms2:List (FuncId×Mode U):=(104,unicode_utf8_DecodeRuneInString_md)::ms1
noncomputable def ms3:List (FuncId×Mode U):=(112,unicode_utf8_RuneCountInString_md)::ms2
noncomputable def ms4:List (FuncId×Mode U):=(121,strings_Trim_md)::ms3
noncomputable def ms5:List (FuncId×Mode U):=(122,strconv_Atoi_md)::ms4
end Lift.T3
namespace Go.Proofs
open Go.Shelf Go.RowKit
def Tryz.laysContains_ren:Go.Shelf.Ren:=⟨fun|144=>120|143=>126|219=>137|217=>146|225=>147|224=>148|267=>149|266=>156|314=>157|n=>n,fun|9=>9|4=>4|3=>3|5=>5|46=>140|146=>172|51=>171|n=>n,fun|1=>2|n=>n⟩
theorem Tryz.laysContains:Go.Proofs.LaysM.n144 Tryz.prog Tryz.laysContains_ren where
 mixed:=by kernel_rfl
 f143:=Tryz.func126.trans (congrArg some (by kernel_rfl))
 f144:=Tryz.func120.trans (congrArg some (by kernel_rfl))
 f217:=Tryz.func146.trans (congrArg some (by kernel_rfl))
 f219:=Tryz.func137.trans (congrArg some (by kernel_rfl))
 f224:=Tryz.func148.trans (congrArg some (by kernel_rfl))
 f225:=Tryz.func147.trans (congrArg some (by kernel_rfl))
 f266:=Tryz.func156.trans (congrArg some (by kernel_rfl))
 f267:=Tryz.func149.trans (congrArg some (by kernel_rfl))
 f314:=Tryz.func157.trans (congrArg some (by kernel_rfl))
 t3:=Tryz.underlying3
 a3:=Tryz.isAgg3
 z3:=Tryz.sizeOf3
 v3:=Tryz.zeroValue3
 t4:=Tryz.underlying4
 a4:=Tryz.isAgg4
 z4:=Tryz.sizeOf4
 v4:=Tryz.zeroValue4
 t5:=Tryz.underlying5
 a5:=Tryz.isAgg5
 z5:=Tryz.sizeOf5
 v5:=Tryz.zeroValue5
 t9:=Tryz.underlying9
 a9:=Tryz.isAgg9
 z9:=Tryz.sizeOf9
 v9:=Tryz.zeroValue9
 t46:=Tryz.underlying140
 a46:=Tryz.isAgg140
 z46:=Tryz.sizeOf140
 v46:=Tryz.zeroValue140
 t51:=Tryz.underlying171
 a51:=Tryz.isAgg171
 z51:=Tryz.sizeOf171
 v51:=Tryz.zeroValue171
 t146:=Tryz.underlying172
 a146:=Tryz.isAgg172
 z146:=Tryz.sizeOf172
 v146:=Tryz.zeroValue172
 g1:=by kernel_rfl
 i3:=by kernel_rfl
 i4:=by kernel_rfl
 i5:=by kernel_rfl
 i9:=by kernel_rfl
 i46:=by kernel_rfl
 i51:=by kernel_rfl
 i146:=by kernel_rfl
 m1:=by kernel_rfl
 s1_3:=fun w h=>Go.Proofs.cell_of_shapedOpen_int (zero:=#[.int .i64 0]) (t:=3) h (of_decide_eq_true (by kernel_rfl)) (by kernel_rfl) rfl (by kernel_rfl) (by kernel_rfl) Tryz.underlying3
def Tryz.laysDecode_ren:Go.Shelf.Ren:=⟨fun|197=>104|260=>118|n=>n,fun|9=>9|21=>21|3=>3|4=>4|5=>5|105=>124|119=>139|0=>0|46=>140|139=>143|138=>142|n=>n,fun|3=>0|4=>1|n=>n⟩
theorem Tryz.laysDecode:Go.Proofs.Lays.n197 Tryz.prog Tryz.laysDecode_ren where
 mixed:=by kernel_rfl
 f197:=Tryz.func104.trans (congrArg some (by kernel_rfl))
 f260:=Tryz.func118.trans (congrArg some (by kernel_rfl))
 t0:=Tryz.underlying0
 a0:=Tryz.isAgg0
 z0:=Tryz.sizeOf0
 v0:=Tryz.zeroValue0
 t3:=Tryz.underlying3
 a3:=Tryz.isAgg3
 z3:=Tryz.sizeOf3
 v3:=Tryz.zeroValue3
 t4:=Tryz.underlying4
 a4:=Tryz.isAgg4
 z4:=Tryz.sizeOf4
 v4:=Tryz.zeroValue4
 t5:=Tryz.underlying5
 a5:=Tryz.isAgg5
 z5:=Tryz.sizeOf5
 v5:=Tryz.zeroValue5
 t9:=Tryz.underlying9
 a9:=Tryz.isAgg9
 z9:=Tryz.sizeOf9
 v9:=Tryz.zeroValue9
 t21:=Tryz.underlying21
 a21:=Tryz.isAgg21
 z21:=Tryz.sizeOf21
 v21:=Tryz.zeroValue21
 t46:=Tryz.underlying140
 a46:=Tryz.isAgg140
 z46:=Tryz.sizeOf140
 v46:=Tryz.zeroValue140
 t105:=Tryz.underlying124
 a105:=Tryz.isAgg124
 z105:=Tryz.sizeOf124
 v105:=Tryz.zeroValue124
 t119:=Tryz.underlying139
 a119:=Tryz.isAgg139
 z119:=Tryz.sizeOf139
 t138:=Tryz.underlying142
 a138:=Tryz.isAgg142
 z138:=Tryz.sizeOf142
 v138:=Tryz.zeroValue142
 t139:=Tryz.underlying143
 a139:=Tryz.isAgg143
 z139:=Tryz.sizeOf143
 v139:=Tryz.zeroValue143
 g3:=by kernel_rfl
 g4:=by kernel_rfl
def Tryz.laysCount_ren:Go.Shelf.Ren:=⟨fun|195=>112|n=>n,fun|9=>9|3=>3|0=>0|4=>4|n=>n,fun|n=>n⟩
theorem Tryz.laysCount:Go.Proofs.Lays.n195 Tryz.prog Tryz.laysCount_ren where
 mixed:=by kernel_rfl
 f195:=Tryz.func112.trans (congrArg some (by kernel_rfl))
 t0:=Tryz.underlying0
 a0:=Tryz.isAgg0
 z0:=Tryz.sizeOf0
 v0:=Tryz.zeroValue0
 t3:=Tryz.underlying3
 a3:=Tryz.isAgg3
 z3:=Tryz.sizeOf3
 v3:=Tryz.zeroValue3
 t4:=Tryz.underlying4
 a4:=Tryz.isAgg4
 z4:=Tryz.sizeOf4
 v4:=Tryz.zeroValue4
 t9:=Tryz.underlying9
 a9:=Tryz.isAgg9
 z9:=Tryz.sizeOf9
 v9:=Tryz.zeroValue9
def Tryz.laysTrim_ren:Go.Shelf.Ren:=⟨fun|160=>121|232=>128|231=>127|227=>129|234=>131|233=>130|236=>133|235=>132|228=>138|271=>140|151=>139|197=>104|120=>151|152=>150|260=>118|137=>158|119=>136|224=>148|225=>147|217=>146|266=>156|n=>n,fun|9=>9|4=>4|3=>3|5=>5|117=>148|116=>147|0=>0|124=>151|21=>21|105=>124|46=>140|119=>139|139=>143|138=>142|n=>n,fun|3=>0|4=>1|n=>n⟩
theorem Tryz.laysTrim:Go.Proofs.Lays.n160 Tryz.prog Tryz.laysTrim_ren where
 mixed:=by kernel_rfl
 f119:=Tryz.func136.trans (congrArg some (by kernel_rfl))
 f120:=Tryz.func151.trans (congrArg some (by kernel_rfl))
 f137:=Tryz.func158.trans (congrArg some (by kernel_rfl))
 f151:=Tryz.func139.trans (congrArg some (by kernel_rfl))
 f152:=Tryz.func150.trans (congrArg some (by kernel_rfl))
 f160:=Tryz.func121.trans (congrArg some (by kernel_rfl))
 f197:=Tryz.func104.trans (congrArg some (by kernel_rfl))
 f217:=Tryz.func146.trans (congrArg some (by kernel_rfl))
 f224:=Tryz.func148.trans (congrArg some (by kernel_rfl))
 f225:=Tryz.func147.trans (congrArg some (by kernel_rfl))
 f227:=Tryz.func129.trans (congrArg some (by kernel_rfl))
 f228:=Tryz.func138.trans (congrArg some (by kernel_rfl))
 f231:=Tryz.func127.trans (congrArg some (by kernel_rfl))
 f232:=Tryz.func128.trans (congrArg some (by kernel_rfl))
 f233:=Tryz.func130.trans (congrArg some (by kernel_rfl))
 f234:=Tryz.func131.trans (congrArg some (by kernel_rfl))
 f235:=Tryz.func132.trans (congrArg some (by kernel_rfl))
 f236:=Tryz.func133.trans (congrArg some (by kernel_rfl))
 f260:=Tryz.func118.trans (congrArg some (by kernel_rfl))
 f266:=Tryz.func156.trans (congrArg some (by kernel_rfl))
 f271:=Tryz.func140.trans (congrArg some (by kernel_rfl))
 t0:=Tryz.underlying0
 a0:=Tryz.isAgg0
 z0:=Tryz.sizeOf0
 v0:=Tryz.zeroValue0
 t3:=Tryz.underlying3
 a3:=Tryz.isAgg3
 z3:=Tryz.sizeOf3
 v3:=Tryz.zeroValue3
 t4:=Tryz.underlying4
 a4:=Tryz.isAgg4
 z4:=Tryz.sizeOf4
 v4:=Tryz.zeroValue4
 t5:=Tryz.underlying5
 a5:=Tryz.isAgg5
 z5:=Tryz.sizeOf5
 v5:=Tryz.zeroValue5
 t9:=Tryz.underlying9
 a9:=Tryz.isAgg9
 z9:=Tryz.sizeOf9
 v9:=Tryz.zeroValue9
 t21:=Tryz.underlying21
 a21:=Tryz.isAgg21
 z21:=Tryz.sizeOf21
 v21:=Tryz.zeroValue21
 t46:=Tryz.underlying140
 a46:=Tryz.isAgg140
 z46:=Tryz.sizeOf140
 v46:=Tryz.zeroValue140
 t105:=Tryz.underlying124
 a105:=Tryz.isAgg124
 z105:=Tryz.sizeOf124
 v105:=Tryz.zeroValue124
 t116:=Tryz.underlying147
 a116:=Tryz.isAgg147
 z116:=Tryz.sizeOf147
 t117:=Tryz.underlying148
 a117:=Tryz.isAgg148
 z117:=Tryz.sizeOf148
 v117:=Tryz.zeroValue148
 t119:=Tryz.underlying139
 a119:=Tryz.isAgg139
 z119:=Tryz.sizeOf139
 t124:=Tryz.underlying151
 a124:=Tryz.isAgg151
 z124:=Tryz.sizeOf151
 v124:=Tryz.zeroValue151
 t138:=Tryz.underlying142
 a138:=Tryz.isAgg142
 z138:=Tryz.sizeOf142
 v138:=Tryz.zeroValue142
 t139:=Tryz.underlying143
 a139:=Tryz.isAgg143
 z139:=Tryz.sizeOf143
 v139:=Tryz.zeroValue143
 g3:=by kernel_rfl
 g4:=by kernel_rfl
def Tryz.laysAtoi_ren:Go.Shelf.Ren:=⟨fun|172=>122|244=>134|245=>135|247=>141|279=>142|280=>143|281=>144|282=>145|287=>152|316=>153|171=>155|205=>154|321=>159|322=>160|243=>161|246=>162|283=>163|284=>164|285=>165|286=>166|129=>168|317=>167|318=>169|319=>170|320=>171|337=>172|338=>173|n=>n,fun|9=>9|3=>3|75=>134|76=>135|4=>4|5=>5|167=>155|37=>156|0=>0|85=>157|2=>2|168=>159|53=>164|175=>165|46=>140|210=>168|127=>175|145=>178|143=>176|21=>21|171=>180|173=>183|212=>186|51=>171|20=>20|213=>187|232=>190|233=>191|80=>192|n=>n,fun|15=>3|16=>4|17=>5|18=>6|19=>7|n=>n⟩
theorem Tryz.laysAtoi:Go.Proofs.LaysC.n172 Tryz.prog Tryz.laysAtoi_ren where
 mixed:=by kernel_rfl
 f129:=Tryz.func168.trans (congrArg some (by kernel_rfl))
 f171:=Tryz.func155.trans (congrArg some (by kernel_rfl))
 f172:=Tryz.func122.trans (congrArg some (by kernel_rfl))
 f205:=Tryz.func154.trans (congrArg some (by kernel_rfl))
 f243:=Tryz.func161.trans (congrArg some (by kernel_rfl))
 f244:=Tryz.func134.trans (congrArg some (by kernel_rfl))
 f245:=Tryz.func135.trans (congrArg some (by kernel_rfl))
 f246:=Tryz.func162.trans (congrArg some (by kernel_rfl))
 f247:=Tryz.func141.trans (congrArg some (by kernel_rfl))
 f279:=Tryz.func142.trans (congrArg some (by kernel_rfl))
 f280:=Tryz.func143.trans (congrArg some (by kernel_rfl))
 f281:=Tryz.func144.trans (congrArg some (by kernel_rfl))
 f282:=Tryz.func145.trans (congrArg some (by kernel_rfl))
 f283:=Tryz.func163.trans (congrArg some (by kernel_rfl))
 f284:=Tryz.func164.trans (congrArg some (by kernel_rfl))
 f285:=Tryz.func165.trans (congrArg some (by kernel_rfl))
 f286:=Tryz.func166.trans (congrArg some (by kernel_rfl))
 f287:=Tryz.func152.trans (congrArg some (by kernel_rfl))
 f316:=Tryz.func153.trans (congrArg some (by kernel_rfl))
 f317:=Tryz.func167.trans (congrArg some (by kernel_rfl))
 f318:=Tryz.func169.trans (congrArg some (by kernel_rfl))
 f319:=Tryz.func170.trans (congrArg some (by kernel_rfl))
 f320:=Tryz.func171.trans (congrArg some (by kernel_rfl))
 f321:=Tryz.func159.trans (congrArg some (by kernel_rfl))
 f322:=Tryz.func160.trans (congrArg some (by kernel_rfl))
 f337:=Tryz.func172.trans (congrArg some (by kernel_rfl))
 f338:=Tryz.func173.trans (congrArg some (by kernel_rfl))
 t0:=Tryz.underlying0
 a0:=Tryz.isAgg0
 z0:=Tryz.sizeOf0
 v0:=Tryz.zeroValue0
 t2:=Tryz.underlying2
 a2:=Tryz.isAgg2
 z2:=Tryz.sizeOf2
 v2:=Tryz.zeroValue2
 t3:=Tryz.underlying3
 a3:=Tryz.isAgg3
 z3:=Tryz.sizeOf3
 v3:=Tryz.zeroValue3
 t4:=Tryz.underlying4
 a4:=Tryz.isAgg4
 z4:=Tryz.sizeOf4
 v4:=Tryz.zeroValue4
 t5:=Tryz.underlying5
 a5:=Tryz.isAgg5
 z5:=Tryz.sizeOf5
 v5:=Tryz.zeroValue5
 t9:=Tryz.underlying9
 a9:=Tryz.isAgg9
 z9:=Tryz.sizeOf9
 v9:=Tryz.zeroValue9
 t20:=Tryz.underlying20
 a20:=Tryz.isAgg20
 z20:=Tryz.sizeOf20
 v20:=Tryz.zeroValue20
 t21:=Tryz.underlying21
 a21:=Tryz.isAgg21
 z21:=Tryz.sizeOf21
 v21:=Tryz.zeroValue21
 t37:=Tryz.underlying156
 a37:=Tryz.isAgg156
 z37:=Tryz.sizeOf156
 v37:=Tryz.zeroValue156
 t46:=Tryz.underlying140
 a46:=Tryz.isAgg140
 z46:=Tryz.sizeOf140
 v46:=Tryz.zeroValue140
 t51:=Tryz.underlying171
 a51:=Tryz.isAgg171
 z51:=Tryz.sizeOf171
 v51:=Tryz.zeroValue171
 t53:=Tryz.underlying164
 a53:=Tryz.isAgg164
 z53:=Tryz.sizeOf164
 v53:=Tryz.zeroValue164
 t75:=Tryz.underlying134
 a75:=Tryz.isAgg134
 z75:=Tryz.sizeOf134
 v75:=Tryz.zeroValue134
 t76:=Tryz.underlying135
 a76:=Tryz.isAgg135
 z76:=Tryz.sizeOf135
 v76:=Tryz.zeroValue135
 t85:=Tryz.underlying157
 a85:=Tryz.isAgg157
 z85:=Tryz.sizeOf157
 v85:=Tryz.zeroValue157
 t127:=Tryz.underlying175
 a127:=Tryz.isAgg175
 z127:=Tryz.sizeOf175
 v127:=Tryz.zeroValue175
 t143:=Tryz.underlying176
 a143:=Tryz.isAgg176
 z143:=Tryz.sizeOf176
 v143:=Tryz.zeroValue176
 t145:=Tryz.underlying178
 a145:=Tryz.isAgg178
 z145:=Tryz.sizeOf178
 v145:=Tryz.zeroValue178
 t167:=Tryz.underlying155
 a167:=Tryz.isAgg155
 z167:=Tryz.sizeOf155
 v167:=Tryz.zeroValue155
 t168:=Tryz.underlying159
 a168:=Tryz.isAgg159
 z168:=Tryz.sizeOf159
 v168:=Tryz.zeroValue159
 t171:=Tryz.underlying180
 a171:=Tryz.isAgg180
 z171:=Tryz.sizeOf180
 v171:=Tryz.zeroValue180
 t173:=Tryz.underlying183
 a173:=Tryz.isAgg183
 z173:=Tryz.sizeOf183
 v173:=Tryz.zeroValue183
 t175:=Tryz.underlying165
 a175:=Tryz.isAgg165
 z175:=Tryz.sizeOf165
 v175:=Tryz.zeroValue165
 t210:=Tryz.underlying168
 a210:=Tryz.isAgg168
 z210:=Tryz.sizeOf168
 v210:=Tryz.zeroValue168
 t212:=Tryz.underlying186
 a212:=Tryz.isAgg186
 z212:=Tryz.sizeOf186
 v212:=Tryz.zeroValue186
 t213:=Tryz.underlying187
 a213:=Tryz.isAgg187
 z213:=Tryz.sizeOf187
 t232:=Tryz.underlying190
 a232:=Tryz.isAgg190
 z232:=Tryz.sizeOf190
 v232:=Tryz.zeroValue190
 t233:=Tryz.underlying191
 a233:=Tryz.isAgg191
 z233:=Tryz.sizeOf191
 v233:=Tryz.zeroValue191
 g15:=by kernel_rfl
 g16:=by kernel_rfl
 g17:=by kernel_rfl
 g18:=by kernel_rfl
 g19:=by kernel_rfl
 t80:=Tryz.underlying192
 a80:=Tryz.isAgg192
 z80:=Tryz.sizeOf192
 v80:=Tryz.zeroValue192
 i0:=by kernel_rfl
 i2:=by kernel_rfl
 i3:=by kernel_rfl
 i4:=by kernel_rfl
 i5:=by kernel_rfl
 i9:=by kernel_rfl
 i20:=by kernel_rfl
 i21:=by kernel_rfl
 i37:=by kernel_rfl
 i46:=by kernel_rfl
 i51:=by kernel_rfl
 i53:=by kernel_rfl
 i75:=by kernel_rfl
 i76:=by kernel_rfl
 i80:=by kernel_rfl
 i85:=by kernel_rfl
 i127:=by kernel_rfl
 i143:=by kernel_rfl
 i145:=by kernel_rfl
 i167:=by kernel_rfl
 i168:=by kernel_rfl
 i171:=by kernel_rfl
 i173:=by kernel_rfl
 i175:=by kernel_rfl
 i210:=by kernel_rfl
 i212:=by kernel_rfl
 i232:=by kernel_rfl
 i233:=by kernel_rfl
 m15:=by kernel_rfl
 m16:=by kernel_rfl
 m17:=by kernel_rfl
 m18:=by kernel_rfl
 m19:=by kernel_rfl
 c0:=by kernel_rfl
 c2:=by kernel_rfl
 c3:=by kernel_rfl
 c4:=by kernel_rfl
 c5:=by kernel_rfl
 c9:=by kernel_rfl
 c20:=by kernel_rfl
 c21:=by kernel_rfl
 c37:=by kernel_rfl
 c46:=by kernel_rfl
 c51:=by kernel_rfl
 c53:=by kernel_rfl
 c75:=by kernel_rfl
 c76:=by kernel_rfl
 c80:=by kernel_rfl
 c85:=by kernel_rfl
 c127:=by kernel_rfl
 c143:=by kernel_rfl
 c145:=by kernel_rfl
 c167:=by kernel_rfl
 c168:=by kernel_rfl
 c171:=by kernel_rfl
 c173:=by kernel_rfl
 c175:=by kernel_rfl
 c210:=by kernel_rfl
 c212:=by kernel_rfl
 c213:=by kernel_rfl
 c232:=by kernel_rfl
 c233:=by kernel_rfl
theorem Tryz.boolRow:(Tryz.prog.info? (Tryz.laysTrim_ren.t 116)).map (fun i=>(i.zero,i.size))=some (some (.agg (Array.replicate 256 (.bool false))),256):=by kernel_rfl
end Go.Proofs
namespace Lift.T3
open Go Go.RowKit Go.Proofs Lift Lift.Fn
theorem zad2 {w w':World} {n:Nat} (h:∀ k,k<n→w'.heap[k]? = w.heap[k]?) {b o:Nat} (hb:b<n):w'.cell? ⟨b,o,none⟩=w.cell? ⟨b,o,none⟩:=by
 unfold World.cell?;rw[h b hb]
def isErr (v:Value):Prop:=v=.nilIface∨∃ te pe,v=.iface te pe
def globs (w:World):Prop:=Go.Lib.Utf8Tabs 0 1 w∧(∃ m,w.cell? ⟨2,0,none⟩=some (.int .i64 m))∧(∃ a b,(w.cell? ⟨3,0,none⟩=some a∧isErr a)∧(w.cell? ⟨4,0,none⟩=some b∧isErr b))∧True
theorem zaor (w w':World) (h:globs w) (hs:∀ k,k<5→w'.heap[k]? = w.heap[k]?):globs w':=by
 refine ⟨?_,?_,?_,trivial⟩
 ·obtain ⟨h1,h2⟩:=h.1;refine ⟨fun c hc=>?_,fun i hi=>?_⟩
  ·rw[zad2 hs (by omega)]; exact h1 c hc
  ·rw[zad2 hs (by omega),zad2 hs (by omega)]; exact h2 i hi
 ·obtain ⟨m,h3⟩:=h.2.1;exact ⟨m,by rw[zad2 hs (by omega)]; exact h3⟩
 ·obtain ⟨a,b,⟨h4,h5⟩,h6,h7⟩:=h.2.2.1;exact ⟨a,b,⟨by rw[zad2 hs (by omega)]; exact h4,h5⟩,by rw[zad2 hs (by omega)]; exact h6,h7⟩
@[reducible] def env0:Env:=⟨globs,5,fun w w' h hs _ _ _=>zaor w w' h hs⟩
theorem known0:Known kk env0 (zaac ms0):=known_nil
theorem strings_Contains_post:∀ ls j rs,(strings_Contains_md.sum ls).val=some (j,rs)→zabb kk env0 120 strings_Contains_md.sh strings_Contains_md.outs ls j rs:=by
 intro ls j rs h;simp only[strings_Contains_md] at h;split at h
 ·obtain ⟨r,hr,h⟩:=Tr.get_val h;rw[strings_Contains,zaaa,zac8,cond_eq_ite,Option.ite_none_right_eq_some,decide_eq_true_eq] at hr;obtain ⟨hc,hr⟩:=hr;cases hr;cases h;exact contains_post (K:=kk) (V:=env0) (ρ:=Tryz.laysContains_ren) ({ Tryz.laysContains with }) (fun w h=>h.2.1) _ _ hc
 ·cases h
theorem known1:Known kk env0 (zaac ms1):=known_cons (by kernel_rfl) strings_Contains_post known0
theorem unicode_utf8_DecodeRuneInString_post:∀ ls j rs,(unicode_utf8_DecodeRuneInString_md.sum ls).val=some (j,rs)→zabb kk env0 104 unicode_utf8_DecodeRuneInString_md.sh unicode_utf8_DecodeRuneInString_md.outs ls j rs:=by
 intro ls j rs h;simp only[unicode_utf8_DecodeRuneInString_md] at h;split at h
 ·obtain ⟨r,hr,h⟩:=Tr.get_val h;rw[zaax,zaaa,zabh] at hr;cases hr;cases h;exact decode_post (K:=kk) (V:=env0) (ρ:=Tryz.laysDecode_ren) Tryz.laysDecode (fun w h=>h.1) _
 ·cases h
theorem known2:Known kk env0 (zaac ms2):=known_cons (by kernel_rfl) unicode_utf8_DecodeRuneInString_post known1
theorem unicode_utf8_RuneCountInString_post:∀ ls j rs,(unicode_utf8_RuneCountInString_md.sum ls).val=some (j,rs)→zabb kk env0 112 unicode_utf8_RuneCountInString_md.sh unicode_utf8_RuneCountInString_md.outs ls j rs:=by
 intro ls j rs h;simp only[unicode_utf8_RuneCountInString_md] at h;split at h
 ·obtain ⟨r,hr,h⟩:=Tr.get_val h;rw[zaaz,zaaa,zabj,cond_eq_ite,Option.ite_none_right_eq_some,decide_eq_true_eq] at hr;obtain ⟨hc,hr⟩:=hr;cases hr;cases h;exact runeCount_post (K:=kk) (V:=env0) (ρ:=Tryz.laysCount_ren) Tryz.laysCount _ hc
 ·cases h
theorem known3:Known kk env0 (zaac ms3):=known_cons (by kernel_rfl) unicode_utf8_RuneCountInString_post known2
theorem strings_Trim_post:∀ ls j rs,(strings_Trim_md.sum ls).val=some (j,rs)→zabb kk env0 121 strings_Trim_md.sh strings_Trim_md.outs ls j rs:=by
 intro ls j rs h;simp only[strings_Trim_md] at h;split at h
 ·obtain ⟨r,hr,h⟩:=Tr.get_val h;rw[zact,zaaa,zaer,cond_eq_ite,Option.ite_none_right_eq_some,Bool.and_eq_true,decide_eq_true_eq] at hr;obtain ⟨⟨hc,hd⟩,hr⟩:=hr;cases hr;cases h;exact trim_post (K:=kk) (V:=env0) (ρ:=Tryz.laysTrim_ren) Tryz.laysTrim Tryz.boolRow _ _ hc.1 hc.2 hd
 ·cases h
theorem known4:Known kk env0 (zaac ms4):=known_cons (by kernel_rfl) strings_Trim_post known3
theorem strconv_Atoi_post:∀ ls j rs,(strconv_Atoi_md.sum ls).val=some (j,rs)→zabb kk env0 122 strconv_Atoi_md.sh strconv_Atoi_md.outs ls j rs:=by
 intro ls j rs h;simp only[strconv_Atoi_md] at h;split at h
 ·obtain ⟨r,hr,h⟩:=Tr.get_val h;rw[zacn,zaaa,zaex,cond_eq_ite,Option.ite_none_right_eq_some,decide_eq_true_eq] at hr;obtain ⟨hc,hr⟩:=hr;cases hr;cases h;exact atoi_post (K:=kk) (V:=env0) (ρ:=Tryz.laysAtoi_ren) Tryz.laysAtoi (fun w h=>h.2.2.1) _ hc
 ·cases h
theorem known5:Known kk env0 (zaac ms5):=known_cons (by kernel_rfl) strconv_Atoi_post known4
end Lift.T3
namespace Lift.Fn
noncomputable section
open Go Lift
def qbp_f (a0:Int):Option (Int):=bif decide (a0<0) then some ((-1:Int)) else bif decide (a0≤127) then some ((1:Int)) else bif decide (a0≤2047) then some ((2:Int)) else bif decide ((55296:Int)≤a0) then bif decide (a0≤57343) then some ((-1:Int)) else bif decide (a0≤65535) then some ((3:Int)) else bif decide (a0≤1114111) then some ((4:Int)) else some ((-1:Int)) else bif decide (a0≤65535) then some ((3:Int)) else bif decide (a0≤1114111) then some ((4:Int)) else some ((-1:Int))
def qbp:=sealF (qbp_f)
abbrev qaD_o4:=List UInt8→Int→Int→Int→Int→Int→Int→Int→Int→List UInt8→Nat→List Spot→Option ((Int×Int×Int×Int×(List Spot))⊕(Int×Int×Int×Int×Int×Int×Int×Int×(List Spot)))
def qaD_t4 (rec:qaD_o4):qaD_o4:=fun a0 a1 a2 a3 a4 a5 a6 a7 a8 a9 a10 a11=>bif decide (a10<List.length a9) then bif (↑(Prod.fst (Utf8.decode (ByteArray.mk (List.toArray a9)) a10)):Int)==65533 then bif decide ((0:Int)≤(↑a10:Int))&&(decide ((↑a10:Int)≤if IntKind.wrap IntKind.i64 ((↑a10:Int)+(3:Int))<(List.length a0:Int) then IntKind.wrap IntKind.i64 ((↑a10:Int)+(3:Int)) else (List.length a0:Int))&&decide ((if IntKind.wrap IntKind.i64 ((↑a10:Int)+(3:Int))<(List.length a0:Int) then IntKind.wrap IntKind.i64 ((↑a10:Int)+(3:Int)) else (List.length a0:Int))≤(List.length a0:Int))) then bif !List.drop (Int.toNat (↑a10:Int)) (List.take (Int.toNat (if IntKind.wrap IntKind.i64 ((↑a10:Int)+(3:Int))<(List.length a0:Int) then IntKind.wrap IntKind.i64 ((↑a10:Int)+(3:Int)) else (List.length a0:Int))) a0)==[(239:UInt8),(191:UInt8),(189:UInt8)] then some (.inl ((a5),(a6),(a7),(a8),(a11))) else bif decide ((List.length a11+List.length [Spot.mk (IntKind.wrap IntKind.i64 (↑(Prod.fst (Utf8.decode (ByteArray.mk (List.toArray a9)) a10)):Int)) a6 a7 a8])*(32:Nat)≤(140737488355328:Nat)∧List.length a11+List.length [Spot.mk (IntKind.wrap IntKind.i64 (↑(Prod.fst (Utf8.decode (ByteArray.mk (List.toArray a9)) a10)):Int)) a6 a7 a8]≤(9223372036854775807:Nat)) then (qbp (↑(Prod.fst (Utf8.decode (ByteArray.mk (List.toArray a9)) a10)):Int)).bind fun y0=>bif (↑(Prod.fst (Utf8.decode (ByteArray.mk (List.toArray a9)) a10)):Int)==10 then rec (a0) (a1) (a2) (a3) (a4) ((-1:Int)) (IntKind.wrap IntKind.i64 (a6+y0)) (IntKind.wrap IntKind.i64 (a7+(1:Int))) ((1:Int)) (a9) (a10+Prod.snd (Utf8.decode (ByteArray.mk (List.toArray a9)) a10)) (a11++[Spot.mk (IntKind.wrap IntKind.i64 (↑(Prod.fst (Utf8.decode (ByteArray.mk (List.toArray a9)) a10)):Int)) a6 a7 a8]) else rec (a0) (a1) (a2) (a3) (a4) ((-1:Int)) (IntKind.wrap IntKind.i64 (a6+y0)) (a7) (IntKind.wrap IntKind.i64 (a8+(1:Int))) (a9) (a10+Prod.snd (Utf8.decode (ByteArray.mk (List.toArray a9)) a10)) (a11++[Spot.mk (IntKind.wrap IntKind.i64 (↑(Prod.fst (Utf8.decode (ByteArray.mk (List.toArray a9)) a10)):Int)) a6 a7 a8]) else none else none else bif decide ((List.length a11+List.length [Spot.mk (IntKind.wrap IntKind.i64 (↑(Prod.fst (Utf8.decode (ByteArray.mk (List.toArray a9)) a10)):Int)) a6 a7 a8])*(32:Nat)≤(140737488355328:Nat)∧List.length a11+List.length [Spot.mk (IntKind.wrap IntKind.i64 (↑(Prod.fst (Utf8.decode (ByteArray.mk (List.toArray a9)) a10)):Int)) a6 a7 a8]≤(9223372036854775807:Nat)) then (qbp (↑(Prod.fst (Utf8.decode (ByteArray.mk (List.toArray a9)) a10)):Int)).bind fun y1=>bif (↑(Prod.fst (Utf8.decode (ByteArray.mk (List.toArray a9)) a10)):Int)==10 then rec (a0) (a1) (a2) (a3) (a4) ((-1:Int)) (IntKind.wrap IntKind.i64 (a6+y1)) (IntKind.wrap IntKind.i64 (a7+(1:Int))) ((1:Int)) (a9) (a10+Prod.snd (Utf8.decode (ByteArray.mk (List.toArray a9)) a10)) (a11++[Spot.mk (IntKind.wrap IntKind.i64 (↑(Prod.fst (Utf8.decode (ByteArray.mk (List.toArray a9)) a10)):Int)) a6 a7 a8]) else rec (a0) (a1) (a2) (a3) (a4) ((-1:Int)) (IntKind.wrap IntKind.i64 (a6+y1)) (a7) (IntKind.wrap IntKind.i64 (a8+(1:Int))) (a9) (a10+Prod.snd (Utf8.decode (ByteArray.mk (List.toArray a9)) a10)) (a11++[Spot.mk (IntKind.wrap IntKind.i64 (↑(Prod.fst (Utf8.decode (ByteArray.mk (List.toArray a9)) a10)):Int)) a6 a7 a8]) else none else some (.inr ((a1),(a2),(a3),(a4),(a5),(a6),(a7),(a8),(a11)))
def qaD_i4:Nat→qaD_o4
 |0=>fun _ _ _ _ _ _ _ _ _ _ _ _=>none
 |n+1=>qaD_t4 (qaD_i4 n)
def qaD_l4:=sealF (qaD_i4 fuel)
def qaD_f (a0:List UInt8):Option (Spot×(List Spot)):=(qaD_l4 a0 (0:Int) (0:Int) (0:Int) (0:Int) (-1:Int) (0:Int) (1:Int) (1:Int) a0 (0:Nat) []).bind fun y0=>(match y0 with|.inl y1=>some ((Spot.mk y1.1 y1.2.1 y1.2.2.1 y1.2.2.2.1),y1.2.2.2.2)|.inr y1=>some ((Spot.mk y1.2.2.2.2.1 y1.2.2.2.2.2.1 y1.2.2.2.2.2.2.1 y1.2.2.2.2.2.2.2.1),y1.2.2.2.2.2.2.2.2))
def qaD:=sealF (qaD_f)
def qaC_f (a0:List UInt8):Option (Fault×(List Spot)):=bif decide ((List.length a0:Int)>4000) then some ((Fault.mk (10:Int) (4000:Int) []),([])) else (qaD a0).bind fun y0=>bif decide (Spot.at_ y0.1<(List.length a0:Int)) then some ((Fault.mk (11:Int) (Spot.at_ y0.1) []),([])) else some ((Fault.mk (0:Int) (0:Int) []),y0.2)
def qaC:=sealF (qaC_f)
def qaz_f (a0:Int):Option (Bool):=bif a0==9 then some (true) else bif a0==10 then some (true) else bif a0==13 then some (true) else some (a0==32)
def qaz:=sealF (qaz_f)
abbrev qaq_o3:=List UInt8→Bool→List UInt8→Nat→Option ((Int)⊕((List UInt8)))
def qaq_t3 (rec:qaq_o3):qaq_o3:=fun a0 a1 a2 a3=>bif decide (a3<List.length a2) then bif a1 then rec (a0) ((↑(Prod.fst (Utf8.decode (ByteArray.mk (List.toArray a2)) a3)):Int) != 10) (a2) (a3+Prod.snd (Utf8.decode (ByteArray.mk (List.toArray a2)) a3)) else bif (↑(Prod.fst (Utf8.decode (ByteArray.mk (List.toArray a2)) a3)):Int)==35 then rec (a0) (true) (a2) (a3+Prod.snd (Utf8.decode (ByteArray.mk (List.toArray a2)) a3)) else (qaz (IntKind.wrap IntKind.i64 (↑(Prod.fst (Utf8.decode (ByteArray.mk (List.toArray a2)) a3)):Int))).bind fun y0=>bif !y0 then some (.inl ((↑a3:Int))) else rec (a0) (a1) (a2) (a3+Prod.snd (Utf8.decode (ByteArray.mk (List.toArray a2)) a3)) else some (.inr (a0))
def qaq_i3:Nat→qaq_o3
 |0=>fun _ _ _ _=>none
 |n+1=>qaq_t3 (qaq_i3 n)
def qaq_l3:=sealF (qaq_i3 fuel)
def qaq_f (a0:List UInt8):Option (Int):=(qaq_l3 a0 false a0 (0:Nat)).bind fun y0=>(match y0 with|.inl y1=>some (y1)|.inr y1=>some ((List.length y1:Int)))
def qaq:=sealF (qaq_f)
def qbq_f (a0:Int):Option (Bool):=bif decide (0≤a0) then bif decide (a0<55296) then some (true) else bif decide ((57343:Int)<a0) then bif decide (a0≤1114111) then some (true) else some (false) else some (false) else bif decide ((57343:Int)<a0) then bif decide (a0≤1114111) then some (true) else some (false) else some (false)
def qbq:=sealF (qbq_f)
def qaE_f (a0:Int):Option (Bool):=bif decide (a0≥0) then bif decide (a0≤1114111) then (qbq (IntKind.wrap IntKind.i32 a0)).bind fun y0=>some (y0) else some (false) else some (false)
def qaE:=sealF (qaE_f)
def qaB_f (a0:Int):Option (Bool):=bif decide (a0≥97) then bif decide (a0≤122) then bif decide (a0≤122) then some (true) else bif decide (a0≥192) then (qaE a0).bind fun y0=>some (y0) else some (false) else bif decide (a0≥65) then bif decide (a0≤90) then bif decide (a0≤90) then some (true) else bif decide (a0≥192) then (qaE a0).bind fun y1=>some (y1) else some (false) else bif a0==95 then some (true) else bif decide (a0≥192) then (qaE a0).bind fun y2=>some (y2) else some (false) else bif a0==95 then some (true) else bif decide (a0≥192) then (qaE a0).bind fun y3=>some (y3) else some (false) else bif decide (a0≥65) then bif decide (a0≤90) then bif decide (a0≤90) then some (true) else bif decide (a0≥192) then (qaE a0).bind fun y4=>some (y4) else some (false) else bif a0==95 then some (true) else bif decide (a0≥192) then (qaE a0).bind fun y5=>some (y5) else some (false) else bif a0==95 then some (true) else bif decide (a0≥192) then (qaE a0).bind fun y6=>some (y6) else some (false)
def qaB:=sealF (qaB_f)
def qaA_f (a0:Int):Option (Bool):=bif decide (a0≥48) then some (decide (a0≤57)) else some (false)
def qaA:=sealF (qaA_f)
def qao_f (a0:Int):Option (Bool):=(qaB (IntKind.wrap IntKind.i64 a0)).bind fun y0=>bif y0 then some (true) else (qaA (IntKind.wrap IntKind.i64 a0)).bind fun y1=>some (y1)
def qao:=sealF (qao_f)
abbrev qaQ_o2:=List (List UInt8)→List UInt8→Int→Int→Option ((Int)⊕(Unit))
def qaQ_t2 (rec:qaQ_o2):qaQ_o2:=fun a0 a1 a2 a3=>bif decide (a3<a2) then bif decide (0≤a3) then (a0[Int.toNat a3]?).bind fun y0=>bif a1==y0 then some (.inl (a3)) else rec (a0) (a1) (a2) (IntKind.wrap IntKind.i64 (a3+(1:Int))) else none else some (.inr ())
def qaQ_i2:Nat→qaQ_o2
 |0=>fun _ _ _ _=>none
 |n+1=>qaQ_t2 (qaQ_i2 n)
def qaQ_l2:=sealF (qaQ_i2 fuel)
def qaQ_f (a0:List (List UInt8)) (a1:List UInt8):Option (Int):=(qaQ_l2 a0 a1 (List.length a0:Int) (0:Int)).bind fun y0=>(match y0 with|.inl y1=>some (y1)|.inr y1=>some ((-1:Int)))
def qaQ:=sealF (qaQ_f)
def qaK_f (a0:List (List UInt8)) (a1:List UInt8):Option (Bool):=(qaQ a0 a1).bind fun y0=>some (decide (y0≥0))
def qaK:=sealF (qaK_f)
def qar_f (a0:List UInt8):Option ((List UInt8)):=bif decide ((List.length a0:Int)>1) then bif decide ((0:Int)≤(0:Int))&&(decide ((0:Int)≤(2:Int))&&decide ((2:Int)≤(List.length a0:Int))) then (qaK [[(58:UInt8),(61:UInt8)],[(60:UInt8),(45:UInt8)],[(61:UInt8),(61:UInt8)],[(33:UInt8),(61:UInt8)],[(60:UInt8),(61:UInt8)],[(62:UInt8),(61:UInt8)],[(38:UInt8),(38:UInt8)],[(124:UInt8),(124:UInt8)]] (List.drop (0:Nat) (List.take (2:Nat) a0))).bind fun y0=>bif y0 then bif decide ((0:Int)≤(0:Int))&&(decide ((0:Int)≤(2:Int))&&decide ((2:Int)≤(List.length a0:Int))) then some (List.drop (0:Nat) (List.take (2:Nat) a0)) else none else bif decide ((0:Int)≤(0:Int))&&(decide ((0:Int)≤(1:Int))&&decide ((1:Int)≤(List.length a0:Int))) then (strings_Contains [(61:UInt8),(60:UInt8),(62:UInt8),(33:UInt8),(43:UInt8),(45:UInt8),(42:UInt8),(47:UInt8),(37:UInt8),(59:UInt8),(123:UInt8),(125:UInt8),(40:UInt8),(41:UInt8)] (List.drop (0:Nat) (List.take (1:Nat) a0))).bind fun y1=>bif y1 then bif decide ((0:Int)≤(0:Int))&&(decide ((0:Int)≤(1:Int))&&decide ((1:Int)≤(List.length a0:Int))) then some (List.drop (0:Nat) (List.take (1:Nat) a0)) else none else some ([]) else none else none else bif decide ((0:Int)≤(0:Int))&&(decide ((0:Int)≤(1:Int))&&decide ((1:Int)≤(List.length a0:Int))) then (strings_Contains [(61:UInt8),(60:UInt8),(62:UInt8),(33:UInt8),(43:UInt8),(45:UInt8),(42:UInt8),(47:UInt8),(37:UInt8),(59:UInt8),(123:UInt8),(125:UInt8),(40:UInt8),(41:UInt8)] (List.drop (0:Nat) (List.take (1:Nat) a0))).bind fun y2=>bif y2 then bif decide ((0:Int)≤(0:Int))&&(decide ((0:Int)≤(1:Int))&&decide ((1:Int)≤(List.length a0:Int))) then some (List.drop (0:Nat) (List.take (1:Nat) a0)) else none else some ([]) else none
def qar:=sealF (qar_f)
abbrev qat_o2:=List UInt8→List UInt8→Nat→Option (((List UInt8))⊕((List UInt8)))
def qat_t2 (rec:qat_o2):qat_o2:=fun a0 a1 a2=>bif decide (a2<List.length a1) then (qao (↑(Prod.fst (Utf8.decode (ByteArray.mk (List.toArray a1)) a2)):Int)).bind fun y0=>bif !y0 then bif decide ((0:Int)≤(0:Int))&&(decide ((0:Int)≤(↑a2:Int))&&decide ((↑a2:Int)≤(List.length a0:Int))) then some (.inl (List.drop (0:Nat) (List.take (Int.toNat (↑a2:Int)) a0))) else none else rec (a0) (a1) (a2+Prod.snd (Utf8.decode (ByteArray.mk (List.toArray a1)) a2)) else some (.inr (a0))
def qat_i2:Nat→qat_o2
 |0=>fun _ _ _=>none
 |n+1=>qat_t2 (qat_i2 n)
def qat_l2:=sealF (qat_i2 fuel)
def qat_f (a0:List UInt8):Option ((List UInt8)):=(qat_l2 a0 a0 (0:Nat)).bind fun y0=>(match y0 with|.inl y1=>some (y1)|.inr y1=>some (y1))
def qat:=sealF (qat_f)
def qap_f (a0:List UInt8):Option (Int×Bool):=bif decide ((List.length a0:Int)>1) then (a0[(0:Nat)]?).bind fun y0=>bif (↑(UInt8.toNat y0):Int)==48 then some (((0:Int)),(false)) else (zact a0 [(48:UInt8),(49:UInt8),(50:UInt8),(51:UInt8),(52:UInt8),(53:UInt8),(54:UInt8),(55:UInt8),(56:UInt8),(57:UInt8)]).bind fun y1=>bif !y1==[] then some (((0:Int)),(false)) else (zacn a0).bind fun y2=>bif !y2.2 then some (y2.1,(decide (y2.1≤2147483647))) else some (y2.1,(false)) else (zact a0 [(48:UInt8),(49:UInt8),(50:UInt8),(51:UInt8),(52:UInt8),(53:UInt8),(54:UInt8),(55:UInt8),(56:UInt8),(57:UInt8)]).bind fun y3=>bif !y3==[] then some (((0:Int)),(false)) else (zacn a0).bind fun y4=>bif !y4.2 then some (y4.1,(decide (y4.1≤2147483647))) else some (y4.1,(false))
def qap:=sealF (qap_f)
def qan_f:Option ((List (List UInt8))):=some ([[(97:UInt8),(100:UInt8),(100:UInt8)],[(97:UInt8),(115:UInt8),(115:UInt8),(101:UInt8),(114:UInt8),(116:UInt8)],[(99:UInt8),(101:UInt8),(108:UInt8),(108:UInt8)],[(101:UInt8),(108:UInt8),(115:UInt8),(101:UInt8)],[(105:UInt8),(102:UInt8)],[(106:UInt8),(111:UInt8),(105:UInt8),(110:UInt8)],[(108:UInt8),(111:UInt8),(99:UInt8),(107:UInt8)],[(109:UInt8),(117:UInt8),(116:UInt8),(101:UInt8),(120:UInt8)],[(114:UInt8),(101:UInt8),(112:UInt8),(101:UInt8),(97:UInt8),(116:UInt8)],[(115:UInt8),(116:UInt8),(97:UInt8),(114:UInt8),(116:UInt8)],[(116:UInt8),(104:UInt8),(114:UInt8),(101:UInt8),(97:UInt8),(100:UInt8)],[(117:UInt8),(110:UInt8),(108:UInt8),(111:UInt8),(99:UInt8),(107:UInt8)]])
def qan:=sealF (qan_f)
def qas_f (a0:List UInt8):Option (Token×Int):=(zaax a0).bind fun y0=>(qao y0.1).bind fun y1=>bif !y1 then (qar a0).bind fun y2=>bif y2==[] then some ((Token.mk (0:Int) [] (0:Int) (0:Int)),((20:Int))) else some ((Token.mk (3:Int) y2 (0:Int) (0:Int)),((0:Int))) else (qat a0).bind fun y3=>(qaA (IntKind.wrap IntKind.i64 y0.1)).bind fun y4=>bif y4 then (qap y3).bind fun y5=>bif !y5.2 then some ((Token.mk (1:Int) y3 (0:Int) (0:Int)),((22:Int))) else some ((Token.mk (2:Int) y3 y5.1 (0:Int)),((0:Int))) else (qan).bind fun y6=>(qaK y6 y3).bind fun y7=>bif y7 then some ((Token.mk (4:Int) y3 (0:Int) (0:Int)),((0:Int))) else (zaaz y3).bind fun y8=>bif decide (y8>16) then some ((Token.mk (1:Int) y3 (0:Int) (0:Int)),((21:Int))) else some ((Token.mk (1:Int) y3 (0:Int) (0:Int)),((0:Int)))
def qas:=sealF (qas_f)
abbrev qam_o6:=List UInt8→Int→Int→Int→List UInt8→List Token→Option ((Int×Int×(List UInt8))⊕((List UInt8)×Int×Int×(List UInt8)×(List Token)))
def qam_t6 (rec:qam_o6):qam_o6:=fun a0 a1 a2 a3 a4 a5=>bif decide (a1<(List.length a0:Int)) then bif decide (0≤a1)&&(decide (a1≤(List.length a0:Int))&&decide ((List.length a0:Int)≤(List.length a0:Int))) then (qas (List.drop (Int.toNat a1) (List.take (Int.toNat (List.length a0:Int)) a0))).bind fun y0=>bif y0.2 != 0 then some (.inl (y0.2,(a1),([]))) else bif decide ((List.length a5+List.length [Token.mk (Token.kind y0.1) (Token.text y0.1) (Token.num y0.1) a1])*(40:Nat)≤(140737488355328:Nat)∧List.length a5+List.length [Token.mk (Token.kind y0.1) (Token.text y0.1) (Token.num y0.1) a1]≤(9223372036854775807:Nat)) then bif decide ((0:Int)≤IntKind.wrap IntKind.i64 (a1+(List.length (Token.text y0.1):Int)))&&(decide (IntKind.wrap IntKind.i64 (a1+(List.length (Token.text y0.1):Int))≤(List.length a0:Int))&&decide ((List.length a0:Int)≤(List.length a0:Int))) then (qaq (List.drop (Int.toNat (IntKind.wrap IntKind.i64 (a1+(List.length (Token.text y0.1):Int)))) (List.take (Int.toNat (List.length a0:Int)) a0))).bind fun y1=>rec (a0) (IntKind.wrap IntKind.i64 (IntKind.wrap IntKind.i64 (a1+(List.length (Token.text y0.1):Int))+y1)) (a2) (a3) (a4) (a5++[Token.mk (Token.kind y0.1) (Token.text y0.1) (Token.num y0.1) a1]) else none else none else none else some (.inr ((a0),(a2),(a3),(a4),(a5)))
def qam_i6:Nat→qam_o6
 |0=>fun _ _ _ _ _ _=>none
 |n+1=>qam_t6 (qam_i6 n)
def qam_l6:=sealF (qam_i6 fuel)
def qam_f (a0:List UInt8):Option (Fault×(List Token)):=(qaC a0).bind fun y0=>bif Fault.code y0.1 != 0 then some ((Fault.mk (Fault.code y0.1) (Fault.at_ y0.1) (Fault.name y0.1)),([])) else (qaq a0).bind fun y1=>(qam_l6 a0 y1 (0:Int) (0:Int) [] []).bind fun y2=>(match y2 with|.inl y3=>some ((Fault.mk y3.1 y3.2.1 y3.2.2),([]))|.inr y3=>bif decide ((List.length y3.2.2.2.2+List.length [Token.mk (5:Int) [] (0:Int) (List.length y3.1:Int)])*(40:Nat)≤(140737488355328:Nat)∧List.length y3.2.2.2.2+List.length [Token.mk (5:Int) [] (0:Int) (List.length y3.1:Int)]≤(9223372036854775807:Nat)) then some ((Fault.mk (0:Int) (0:Int) []),(y3.2.2.2.2++[Token.mk (5:Int) [] (0:Int) (List.length y3.1:Int)])) else none)
def qam:=sealF (qam_f)
def qbf_f (a0:List UInt8):Option (Bool):=bif decide ((List.length a0:Int)>64) then some (false) else (qam a0).bind fun y0=>Option.bind (α:=Bool) ( bif Fault.code y0.1==0 then some ((List.length y0.2:Int)==2) else some (false)) fun y1=>Option.bind (α:=Bool) ( bif y1 then bif decide ((0:Int)≤(0:Int))&&decide ((0:Int)<(List.length y0.2:Int)) then (y0.2[(0:Nat)]?).bind fun y2=>some (Token.kind y2==1) else none else some (false)) fun y3=>Option.bind (α:=Bool) ( bif y3 then bif decide ((0:Int)≤(0:Int))&&decide ((0:Int)<(List.length y0.2:Int)) then (y0.2[(0:Nat)]?).bind fun y4=>some (Token.text y4==a0) else none else some (false)) fun y5=>some (y5)
def qbf:=sealF (qbf_f)
def qbn_f:Option ((List ((Int)×(Shape)))):=some (zaaj (11:Int) (Shape.mk false false false true true false) (zaaj (10:Int) (Shape.mk false false true false true true) (zaaj (9:Int) (Shape.mk false false true false false false) (zaaj (8:Int) (Shape.mk false true false false false false) (zaaj (7:Int) (Shape.mk false true false false false false) (zaaj (6:Int) (Shape.mk false true false false false false) (zaaj (5:Int) (Shape.mk false true false false false false) (zaaj (4:Int) (Shape.mk true true true false false false) (zaaj (3:Int) (Shape.mk false true true false false false) (zaaj (2:Int) (Shape.mk true true false false false false) (zaaj (1:Int) (Shape.mk true false true false false false) [])))))))))))
def qbn:=sealF (qbn_f)
def qbe_f (a0:List UInt8) (a1:Bool):Option (Bool):=Option.bind (α:=Bool) ( bif a1 then (qbf a0).bind fun y0=>some (y0) else some (false)) fun y1=>Option.bind (α:=Bool) ( bif y1 then some (true) else Option.bind (α:=Bool) ( bif !a1 then some (a0==[]) else some (false)) fun y2=>some (y2)) fun y3=>some (y3)
def qbe:=sealF (qbe_f)
def qbo_f (a0:TStmt):Option (Bool):=(qbn).bind fun y0=>Option.bind (α:=Bool) ( bif TExpr.kind (TStmt.expr a0)==0 then some (TExpr.num (TStmt.expr a0)==0) else some (false)) fun y1=>Option.bind (α:=Bool) ( bif y1 then some (TExpr.name (TStmt.expr a0)==[]) else some (false)) fun y2=>Option.bind (α:=Bool) ( bif y2 then some ((↑(List.length (TExpr.args (TStmt.expr a0))):Int)==0) else some (false)) fun y3=>Option.bind (α:=Bool) ( bif TStmt.count a0==0 then some (true) else Option.bind (α:=Bool) ( bif Shape.count (Option.getD (mapAt y0 (TStmt.kind a0)) (Shape.mk false false false false false false)) then some (decide (TStmt.count a0>0)) else some (false)) fun y4=>Option.bind (α:=Bool) ( bif y4 then some (decide (TStmt.count a0≤1000)) else some (false)) fun y5=>some (y5)) fun y6=>Option.bind (α:=Bool) ( bif Option.isSome (mapAt y0 (TStmt.kind a0)) then (qbe (TStmt.reg a0) (Shape.reg (Option.getD (mapAt y0 (TStmt.kind a0)) (Shape.mk false false false false false false)))).bind fun y7=>some (y7) else some (false)) fun y8=>Option.bind (α:=Bool) ( bif y8 then (qbe (TStmt.name a0) (Shape.name (Option.getD (mapAt y0 (TStmt.kind a0)) (Shape.mk false false false false false false)))).bind fun y9=>some (y9) else some (false)) fun y10=>Option.bind (α:=Bool) ( bif y10 then Option.bind (α:=Bool) ( bif Shape.expr (Option.getD (mapAt y0 (TStmt.kind a0)) (Shape.mk false false false false false false)) then some (TExpr.kind (TStmt.expr a0) != 0) else some (false)) fun y11=>Option.bind (α:=Bool) ( bif y11 then some (true) else Option.bind (α:=Bool) ( bif !Shape.expr (Option.getD (mapAt y0 (TStmt.kind a0)) (Shape.mk false false false false false false)) then some (y3) else some (false)) fun y12=>some (y12)) fun y13=>some (y13) else some (false)) fun y14=>Option.bind (α:=Bool) ( bif y14 then some (y6) else some (false)) fun y15=>Option.bind (α:=Bool) ( bif y15 then Option.bind (α:=Bool) ( bif Shape.then_ (Option.getD (mapAt y0 (TStmt.kind a0)) (Shape.mk false false false false false false)) then some (true) else some ((List.length (TStmt.then_ a0):Int)==0)) fun y16=>some (y16) else some (false)) fun y17=>Option.bind (α:=Bool) ( bif y17 then Option.bind (α:=Bool) ( bif Shape.other (Option.getD (mapAt y0 (TStmt.kind a0)) (Shape.mk false false false false false false)) then some (true) else some ((List.length (TStmt.else_ a0):Int)==0)) fun y18=>some (y18) else some (false)) fun y19=>some (y19)
def qbo:=sealF (qbo_f)
def qbc_f (a0:TStmt) (a1:Int) (a2:Bool):Option (Bool):=Option.bind (α:=Bool) ( bif a2 then (qbo (TStmt.mk (TStmt.kind a0) (TStmt.reg a0) (TStmt.name a0) (TExpr.mk (TExpr.kind (TStmt.expr a0)) (TExpr.num (TStmt.expr a0)) (TExpr.name (TStmt.expr a0)) (TExpr.args (TStmt.expr a0))) (TStmt.count a0) (TStmt.then_ a0) (TStmt.else_ a0))).bind fun y0=>some (y0) else some (false)) fun y1=>some (y1)
def qbc:=sealF (qbc_f)
def qba_f (a0:TExpr):Option (Bool):=bif TExpr.kind a0==1 then Option.bind (α:=Bool) ( bif decide (TExpr.num a0≥0) then some (decide (TExpr.num a0≤2147483647)) else some (false)) fun y0=>Option.bind (α:=Bool) ( bif y0 then some (TExpr.name a0==[]) else some (false)) fun y1=>Option.bind (α:=Bool) ( bif y1 then some ((List.length (TExpr.args a0):Int)==0) else some (false)) fun y2=>some (y2) else bif TExpr.kind a0==2 then (qbf (TExpr.name a0)).bind fun y3=>Option.bind (α:=Bool) ( bif y3 then some (TExpr.num a0==0) else some (false)) fun y4=>Option.bind (α:=Bool) ( bif y4 then some ((List.length (TExpr.args a0):Int)==0) else some (false)) fun y5=>some (y5) else Option.bind (α:=Bool) ( bif TExpr.kind a0==3 then some (true) else some (TExpr.kind a0==4)) fun y6=>bif y6 then Option.bind (α:=Bool) ( bif decide (TExpr.kind a0≥3) then some (decide (TExpr.kind a0≤17)) else some (false)) fun y7=>Option.bind (α:=Bool) ( bif y7 then some ((List.length (TExpr.args a0):Int)==1) else some (false)) fun y8=>Option.bind (α:=Bool) ( bif y8 then some (TExpr.num a0==0) else some (false)) fun y9=>Option.bind (α:=Bool) ( bif y9 then some (TExpr.name a0==[]) else some (false)) fun y10=>some (y10) else Option.bind (α:=Bool) ( bif decide (TExpr.kind a0≥3) then some (decide (TExpr.kind a0≤17)) else some (false)) fun y11=>Option.bind (α:=Bool) ( bif y11 then some ((List.length (TExpr.args a0):Int)==2) else some (false)) fun y12=>Option.bind (α:=Bool) ( bif y12 then some (TExpr.num a0==0) else some (false)) fun y13=>Option.bind (α:=Bool) ( bif y13 then some (TExpr.name a0==[]) else some (false)) fun y14=>some (y14)
def qba:=sealF (qba_f)
def qbd_f (a0:TExpr) (a1:Int) (a2:Bool):Option (Bool):=Option.bind (α:=Bool) ( bif a2 then (qba (TExpr.mk (TExpr.kind a0) (TExpr.num a0) (TExpr.name a0) (TExpr.args a0))).bind fun y0=>some (y0) else some (false)) fun y1=>some (y1)
def qbd:=sealF (qbd_f)
abbrev qaa_o:=TExpr→Int→Bool→Option (Bool)
abbrev qaa_o3:=Int→List TExpr→Int→Int→Bool→Option (Bool)
def qaa_t3 (rec_qaa:qaa_o) (rec:qaa_o3):qaa_o3:=fun a0 a1 a2 a3 a4=>bif decide (a3<a2) then bif decide (0≤a3) then (a1[Int.toNat a3]?).bind fun y0=>(rec_qaa (TExpr.mk (TExpr.kind y0) (TExpr.num y0) (TExpr.name y0) (TExpr.args y0)) (IntKind.wrap IntKind.i64 (a0+(1:Int))) a4).bind fun y1=>rec (a0) (a1) (a2) (IntKind.wrap IntKind.i64 (a3+(1:Int))) (y1) else none else some (a4)
def qaa_i3 (rec_qaa:qaa_o):Nat→qaa_o3
 |0=>fun _ _ _ _ _=>none
 |n+1=>qaa_t3 rec_qaa (qaa_i3 rec_qaa n)
def qaa_l3 (rec_qaa:qaa_o):=sealF (qaa_i3 rec_qaa fuel)
def qaa_f (rec_qaa:qaa_o):qaa_o:=fun a0 a1 a2=>(qbd (TExpr.mk (TExpr.kind a0) (TExpr.num a0) (TExpr.name a0) (TExpr.args a0)) a1 a2).bind fun y0=>(qaa_l3 rec_qaa a1 (TExpr.args a0) (List.length (TExpr.args a0):Int) (0:Int) y0).bind fun y1=>some (y1)
def qaa_i:Nat→qaa_o
 |0=>fun _ _ _=>none
 |n+1=>qaa_f (qaa_i n)
def qaa:=sealF (qaa_i fuel)
abbrev qai_o:=List TStmt→Int→Bool→Option (Bool)
abbrev qai_o2:=Int→List TStmt→Int→Int→Bool→Option (Bool)
def qai_t2 (rec_qai:qai_o) (rec:qai_o2):qai_o2:=fun a0 a1 a2 a3 a4=>bif decide (a3<a2) then bif decide (0≤a3) then (a1[Int.toNat a3]?).bind fun y0=>(qbc (TStmt.mk (TStmt.kind y0) (TStmt.reg y0) (TStmt.name y0) (TExpr.mk (TExpr.kind (TStmt.expr y0)) (TExpr.num (TStmt.expr y0)) (TExpr.name (TStmt.expr y0)) (TExpr.args (TStmt.expr y0))) (TStmt.count y0) (TStmt.then_ y0) (TStmt.else_ y0)) a0 a4).bind fun y1=>Option.bind (α:=Bool) ( bif TExpr.kind (TStmt.expr y0) != 0 then some (true) else some (decide ((↑(List.length (TExpr.args (TStmt.expr y0))):Int)>0))) fun y2=>bif y2 then (qaa (TExpr.mk (TExpr.kind (TStmt.expr y0)) (TExpr.num (TStmt.expr y0)) (TExpr.name (TStmt.expr y0)) (TExpr.args (TStmt.expr y0))) (1:Int) y1).bind fun y3=>(rec_qai (TStmt.then_ y0) (IntKind.wrap IntKind.i64 (a0+(1:Int))) y3).bind fun y4=>(rec_qai (TStmt.else_ y0) (IntKind.wrap IntKind.i64 (a0+(1:Int))) y4).bind fun y5=>rec (a0) (a1) (a2) (IntKind.wrap IntKind.i64 (a3+(1:Int))) (y5) else (rec_qai (TStmt.then_ y0) (IntKind.wrap IntKind.i64 (a0+(1:Int))) y1).bind fun y6=>(rec_qai (TStmt.else_ y0) (IntKind.wrap IntKind.i64 (a0+(1:Int))) y6).bind fun y7=>rec (a0) (a1) (a2) (IntKind.wrap IntKind.i64 (a3+(1:Int))) (y7) else none else some (a4)
def qai_i2 (rec_qai:qai_o):Nat→qai_o2
 |0=>fun _ _ _ _ _=>none
 |n+1=>qai_t2 rec_qai (qai_i2 rec_qai n)
def qai_l2 (rec_qai:qai_o):=sealF (qai_i2 rec_qai fuel)
def qai_f (rec_qai:qai_o):qai_o:=fun a0 a1 a2=>(qai_l2 rec_qai a1 a0 (List.length a0:Int) (0:Int) a2).bind fun y0=>some (y0)
def qai_i:Nat→qai_o
 |0=>fun _ _ _=>none
 |n+1=>qai_f (qai_i n)
def qai:=sealF (qai_i fuel)
abbrev qae_o2:=List TThread→Int→Int→Bool→Option (Bool)
def qae_t2 (rec:qae_o2):qae_o2:=fun a0 a1 a2 a3=>bif decide (a2<a1) then bif decide (0≤a2) then (a0[Int.toNat a2]?).bind fun y0=>(qai (TThread.body y0) (1:Int) a3).bind fun y1=>rec (a0) (a1) (IntKind.wrap IntKind.i64 (a2+(1:Int))) (y1) else none else some (a3)
def qae_i2:Nat→qae_o2
 |0=>fun _ _ _ _=>none
 |n+1=>qae_t2 (qae_i2 n)
def qae_l2:=sealF (qae_i2 fuel)
def qae_f (a0:TProg) (a1:Bool):Option (Bool):=(qae_l2 (TProg.threads a0) (List.length (TProg.threads a0):Int) (0:Int) a1).bind fun y0=>some (y0)
def qae:=sealF (qae_f)
abbrev qbb_o3:=List TCell→Int→Int→List TCell→List (List UInt8)→List TThread→Bool→Option ((List TCell)×(List (List UInt8))×(List TThread)×Bool)
def qbb_t3 (rec:qbb_o3):qbb_o3:=fun a0 a1 a2 a3 a4 a5 a6=>bif decide (a2<a1) then bif decide (0≤a2) then (a0[Int.toNat a2]?).bind fun y0=>Option.bind (α:=Bool) ( bif a6 then (qbf (TCell.name y0)).bind fun y1=>some (y1) else some (false)) fun y2=>Option.bind (α:=Bool) ( bif y2 then some (decide (TCell.init y0≥(-2147483647:Int))) else some (false)) fun y3=>Option.bind (α:=Bool) ( bif y3 then some (decide (TCell.init y0≤2147483647)) else some (false)) fun y4=>rec (a0) (a1) (IntKind.wrap IntKind.i64 (a2+(1:Int))) (a3) (a4) (a5) (y4) else none else some ((a3),(a4),(a5),(a6))
def qbb_i3:Nat→qbb_o3
 |0=>fun _ _ _ _ _ _ _=>none
 |n+1=>qbb_t3 (qbb_i3 n)
def qbb_l3:=sealF (qbb_i3 fuel)
abbrev qbb_o8:=List (List UInt8)→Int→Int→List TCell→List (List UInt8)→List TThread→Bool→Option ((List TCell)×(List (List UInt8))×(List TThread)×Bool)
def qbb_t8 (rec:qbb_o8):qbb_o8:=fun a0 a1 a2 a3 a4 a5 a6=>bif decide (a2<a1) then bif decide (0≤a2) then (a0[Int.toNat a2]?).bind fun y0=>Option.bind (α:=Bool) ( bif a6 then (qbf y0).bind fun y1=>some (y1) else some (false)) fun y2=>rec (a0) (a1) (IntKind.wrap IntKind.i64 (a2+(1:Int))) (a3) (a4) (a5) (y2) else none else some ((a3),(a4),(a5),(a6))
def qbb_i8:Nat→qbb_o8
 |0=>fun _ _ _ _ _ _ _=>none
 |n+1=>qbb_t8 (qbb_i8 n)
def qbb_l8:=sealF (qbb_i8 fuel)
abbrev qbb_o13:=List TThread→Int→Int→List TCell→List (List UInt8)→List TThread→Bool→Option ((List TCell)×(List (List UInt8))×(List TThread)×Bool)
def qbb_t13 (rec:qbb_o13):qbb_o13:=fun a0 a1 a2 a3 a4 a5 a6=>bif decide (a2<a1) then bif decide (0≤a2) then (a0[Int.toNat a2]?).bind fun y0=>Option.bind (α:=Bool) ( bif a6 then (qbf (TThread.name y0)).bind fun y1=>some (y1) else some (false)) fun y2=>rec (a0) (a1) (IntKind.wrap IntKind.i64 (a2+(1:Int))) (a3) (a4) (a5) (y2) else none else some ((a3),(a4),(a5),(a6))
def qbb_i13:Nat→qbb_o13
 |0=>fun _ _ _ _ _ _ _=>none
 |n+1=>qbb_t13 (qbb_i13 n)
def qbb_l13:=sealF (qbb_i13 fuel)
def qbb_f (a0:TProg):Option (Bool):=(qbb_l3 (TProg.cells a0) (List.length (TProg.cells a0):Int) (0:Int) (TProg.cells a0) (TProg.mutexes a0) (TProg.threads a0) true).bind fun y0=>(qbb_l8 y0.2.1 (List.length y0.2.1:Int) (0:Int) y0.1 y0.2.1 y0.2.2.1 y0.2.2.2).bind fun y1=>(qbb_l13 y1.2.2.1 (List.length y1.2.2.1:Int) (0:Int) y1.1 y1.2.1 y1.2.2.1 y1.2.2.2).bind fun y2=>bif y2.2.2.2 then (qae (TProg.mk y2.1 y2.2.1 y2.2.2.1) y2.2.2.2).bind fun y3=>some (y3) else some y2.2.2.2
def qbb:=sealF (qbb_f)
def qaZ_f (a0:TStmt) (a1:Int) (a2:Int):Option (Int):=some (if a1>a2 then a1 else a2)
def qaZ:=sealF (qaZ_f)
def qa0_f (a0:TExpr) (a1:Int) (a2:Int):Option (Int):=some (if a1>a2 then a1 else a2)
def qa0:=sealF (qa0_f)
abbrev qab_o:=TExpr→Int→Int→Option (Int)
abbrev qab_o3:=Int→List TExpr→Int→Int→Int→Option (Int)
def qab_t3 (rec_qab:qab_o) (rec:qab_o3):qab_o3:=fun a0 a1 a2 a3 a4=>bif decide (a3<a2) then bif decide (0≤a3) then (a1[Int.toNat a3]?).bind fun y0=>(rec_qab (TExpr.mk (TExpr.kind y0) (TExpr.num y0) (TExpr.name y0) (TExpr.args y0)) (IntKind.wrap IntKind.i64 (a0+(1:Int))) a4).bind fun y1=>rec (a0) (a1) (a2) (IntKind.wrap IntKind.i64 (a3+(1:Int))) (y1) else none else some (a4)
def qab_i3 (rec_qab:qab_o):Nat→qab_o3
 |0=>fun _ _ _ _ _=>none
 |n+1=>qab_t3 rec_qab (qab_i3 rec_qab n)
def qab_l3 (rec_qab:qab_o):=sealF (qab_i3 rec_qab fuel)
def qab_f (rec_qab:qab_o):qab_o:=fun a0 a1 a2=>(qa0 (TExpr.mk (TExpr.kind a0) (TExpr.num a0) (TExpr.name a0) (TExpr.args a0)) a1 a2).bind fun y0=>(qab_l3 rec_qab a1 (TExpr.args a0) (List.length (TExpr.args a0):Int) (0:Int) y0).bind fun y1=>some (y1)
def qab_i:Nat→qab_o
 |0=>fun _ _ _=>none
 |n+1=>qab_f (qab_i n)
def qab:=sealF (qab_i fuel)
abbrev qaj_o:=List TStmt→Int→Int→Option (Int)
abbrev qaj_o2:=Int→List TStmt→Int→Int→Int→Option (Int)
def qaj_t2 (rec_qaj:qaj_o) (rec:qaj_o2):qaj_o2:=fun a0 a1 a2 a3 a4=>bif decide (a3<a2) then bif decide (0≤a3) then (a1[Int.toNat a3]?).bind fun y0=>(qaZ (TStmt.mk (TStmt.kind y0) (TStmt.reg y0) (TStmt.name y0) (TExpr.mk (TExpr.kind (TStmt.expr y0)) (TExpr.num (TStmt.expr y0)) (TExpr.name (TStmt.expr y0)) (TExpr.args (TStmt.expr y0))) (TStmt.count y0) (TStmt.then_ y0) (TStmt.else_ y0)) a0 a4).bind fun y1=>Option.bind (α:=Bool) ( bif TExpr.kind (TStmt.expr y0) != 0 then some (true) else some (decide ((↑(List.length (TExpr.args (TStmt.expr y0))):Int)>0))) fun y2=>bif y2 then (qab (TExpr.mk (TExpr.kind (TStmt.expr y0)) (TExpr.num (TStmt.expr y0)) (TExpr.name (TStmt.expr y0)) (TExpr.args (TStmt.expr y0))) (1:Int) y1).bind fun y3=>(rec_qaj (TStmt.then_ y0) (IntKind.wrap IntKind.i64 (a0+(1:Int))) y3).bind fun y4=>(rec_qaj (TStmt.else_ y0) (IntKind.wrap IntKind.i64 (a0+(1:Int))) y4).bind fun y5=>rec (a0) (a1) (a2) (IntKind.wrap IntKind.i64 (a3+(1:Int))) (y5) else (rec_qaj (TStmt.then_ y0) (IntKind.wrap IntKind.i64 (a0+(1:Int))) y1).bind fun y6=>(rec_qaj (TStmt.else_ y0) (IntKind.wrap IntKind.i64 (a0+(1:Int))) y6).bind fun y7=>rec (a0) (a1) (a2) (IntKind.wrap IntKind.i64 (a3+(1:Int))) (y7) else none else some (a4)
def qaj_i2 (rec_qaj:qaj_o):Nat→qaj_o2
 |0=>fun _ _ _ _ _=>none
 |n+1=>qaj_t2 rec_qaj (qaj_i2 rec_qaj n)
def qaj_l2 (rec_qaj:qaj_o):=sealF (qaj_i2 rec_qaj fuel)
def qaj_f (rec_qaj:qaj_o):qaj_o:=fun a0 a1 a2=>(qaj_l2 rec_qaj a1 a0 (List.length a0:Int) (0:Int) a2).bind fun y0=>some (y0)
def qaj_i:Nat→qaj_o
 |0=>fun _ _ _=>none
 |n+1=>qaj_f (qaj_i n)
def qaj:=sealF (qaj_i fuel)
abbrev qaf_o2:=List TThread→Int→Int→Int→Option (Int)
def qaf_t2 (rec:qaf_o2):qaf_o2:=fun a0 a1 a2 a3=>bif decide (a2<a1) then bif decide (0≤a2) then (a0[Int.toNat a2]?).bind fun y0=>(qaj (TThread.body y0) (1:Int) a3).bind fun y1=>rec (a0) (a1) (IntKind.wrap IntKind.i64 (a2+(1:Int))) (y1) else none else some (a3)
def qaf_i2:Nat→qaf_o2
 |0=>fun _ _ _ _=>none
 |n+1=>qaf_t2 (qaf_i2 n)
def qaf_l2:=sealF (qaf_i2 fuel)
def qaf_f (a0:TProg) (a1:Int):Option (Int):=(qaf_l2 (TProg.threads a0) (List.length (TProg.threads a0):Int) (0:Int) a1).bind fun y0=>some (y0)
def qaf:=sealF (qaf_f)
def qaY_f (a0:TProg):Option (Int):=(qaf (TProg.mk (TProg.cells a0) (TProg.mutexes a0) (TProg.threads a0)) (0:Int)).bind fun y0=>some (y0)
def qaY:=sealF (qaY_f)
def qaW_f (a0:TStmt) (a1:Int) (a2:Int):Option (Int):=some (IntKind.wrap IntKind.i64 (a2+(1:Int)))
def qaW:=sealF (qaW_f)
def qaX_f (a0:TExpr) (a1:Int) (a2:Int):Option (Int):=some (IntKind.wrap IntKind.i64 (a2+(1:Int)))
def qaX:=sealF (qaX_f)
abbrev qac_o:=TExpr→Int→Int→Option (Int)
abbrev qac_o3:=Int→List TExpr→Int→Int→Int→Option (Int)
def qac_t3 (rec_qac:qac_o) (rec:qac_o3):qac_o3:=fun a0 a1 a2 a3 a4=>bif decide (a3<a2) then bif decide (0≤a3) then (a1[Int.toNat a3]?).bind fun y0=>(rec_qac (TExpr.mk (TExpr.kind y0) (TExpr.num y0) (TExpr.name y0) (TExpr.args y0)) (IntKind.wrap IntKind.i64 (a0+(1:Int))) a4).bind fun y1=>rec (a0) (a1) (a2) (IntKind.wrap IntKind.i64 (a3+(1:Int))) (y1) else none else some (a4)
def qac_i3 (rec_qac:qac_o):Nat→qac_o3
 |0=>fun _ _ _ _ _=>none
 |n+1=>qac_t3 rec_qac (qac_i3 rec_qac n)
def qac_l3 (rec_qac:qac_o):=sealF (qac_i3 rec_qac fuel)
def qac_f (rec_qac:qac_o):qac_o:=fun a0 a1 a2=>(qaX (TExpr.mk (TExpr.kind a0) (TExpr.num a0) (TExpr.name a0) (TExpr.args a0)) a1 a2).bind fun y0=>(qac_l3 rec_qac a1 (TExpr.args a0) (List.length (TExpr.args a0):Int) (0:Int) y0).bind fun y1=>some (y1)
def qac_i:Nat→qac_o
 |0=>fun _ _ _=>none
 |n+1=>qac_f (qac_i n)
def qac:=sealF (qac_i fuel)
abbrev qak_o:=List TStmt→Int→Int→Option (Int)
abbrev qak_o2:=Int→List TStmt→Int→Int→Int→Option (Int)
def qak_t2 (rec_qak:qak_o) (rec:qak_o2):qak_o2:=fun a0 a1 a2 a3 a4=>bif decide (a3<a2) then bif decide (0≤a3) then (a1[Int.toNat a3]?).bind fun y0=>(qaW (TStmt.mk (TStmt.kind y0) (TStmt.reg y0) (TStmt.name y0) (TExpr.mk (TExpr.kind (TStmt.expr y0)) (TExpr.num (TStmt.expr y0)) (TExpr.name (TStmt.expr y0)) (TExpr.args (TStmt.expr y0))) (TStmt.count y0) (TStmt.then_ y0) (TStmt.else_ y0)) a0 a4).bind fun y1=>Option.bind (α:=Bool) ( bif TExpr.kind (TStmt.expr y0) != 0 then some (true) else some (decide ((↑(List.length (TExpr.args (TStmt.expr y0))):Int)>0))) fun y2=>bif y2 then (qac (TExpr.mk (TExpr.kind (TStmt.expr y0)) (TExpr.num (TStmt.expr y0)) (TExpr.name (TStmt.expr y0)) (TExpr.args (TStmt.expr y0))) (1:Int) y1).bind fun y3=>(rec_qak (TStmt.then_ y0) (IntKind.wrap IntKind.i64 (a0+(1:Int))) y3).bind fun y4=>(rec_qak (TStmt.else_ y0) (IntKind.wrap IntKind.i64 (a0+(1:Int))) y4).bind fun y5=>rec (a0) (a1) (a2) (IntKind.wrap IntKind.i64 (a3+(1:Int))) (y5) else (rec_qak (TStmt.then_ y0) (IntKind.wrap IntKind.i64 (a0+(1:Int))) y1).bind fun y6=>(rec_qak (TStmt.else_ y0) (IntKind.wrap IntKind.i64 (a0+(1:Int))) y6).bind fun y7=>rec (a0) (a1) (a2) (IntKind.wrap IntKind.i64 (a3+(1:Int))) (y7) else none else some (a4)
def qak_i2 (rec_qak:qak_o):Nat→qak_o2
 |0=>fun _ _ _ _ _=>none
 |n+1=>qak_t2 rec_qak (qak_i2 rec_qak n)
def qak_l2 (rec_qak:qak_o):=sealF (qak_i2 rec_qak fuel)
def qak_f (rec_qak:qak_o):qak_o:=fun a0 a1 a2=>(qak_l2 rec_qak a1 a0 (List.length a0:Int) (0:Int) a2).bind fun y0=>some (y0)
def qak_i:Nat→qak_o
 |0=>fun _ _ _=>none
 |n+1=>qak_f (qak_i n)
def qak:=sealF (qak_i fuel)
abbrev qag_o2:=List TThread→Int→Int→Int→Option (Int)
def qag_t2 (rec:qag_o2):qag_o2:=fun a0 a1 a2 a3=>bif decide (a2<a1) then bif decide (0≤a2) then (a0[Int.toNat a2]?).bind fun y0=>(qak (TThread.body y0) (1:Int) a3).bind fun y1=>rec (a0) (a1) (IntKind.wrap IntKind.i64 (a2+(1:Int))) (y1) else none else some (a3)
def qag_i2:Nat→qag_o2
 |0=>fun _ _ _ _=>none
 |n+1=>qag_t2 (qag_i2 n)
def qag_l2:=sealF (qag_i2 fuel)
def qag_f (a0:TProg) (a1:Int):Option (Int):=(qag_l2 (TProg.threads a0) (List.length (TProg.threads a0):Int) (0:Int) a1).bind fun y0=>some (y0)
def qag:=sealF (qag_f)
def qaV_f (a0:TProg):Option (Int):=(qag (TProg.mk (TProg.cells a0) (TProg.mutexes a0) (TProg.threads a0)) (0:Int)).bind fun y0=>some (y0)
def qaV:=sealF (qaV_f)
def qa5_f (a0:TProg):Option (Int):=(qbb (TProg.mk (TProg.cells a0) (TProg.mutexes a0) (TProg.threads a0))).bind fun y0=>bif !y0 then some ((30:Int)) else (qaY (TProg.mk (TProg.cells a0) (TProg.mutexes a0) (TProg.threads a0))).bind fun y1=>bif decide (y1>16) then some ((31:Int)) else (qaV (TProg.mk (TProg.cells a0) (TProg.mutexes a0) (TProg.threads a0))).bind fun y2=>bif decide (y2>500) then some ((32:Int)) else some ((0:Int))
def qa5:=sealF (qa5_f)
def qa2_f (a0:List UInt8) (a1:List ((List UInt8)×(Int))) (a2:List (List UInt8)):Option ((List ((List UInt8)×(Int)))×(List (List UInt8))):=bif !Option.isSome (mapAt a1 a0) then bif decide ((List.length a2+List.length [a0])*(16:Nat)≤(140737488355328:Nat)∧List.length a2+List.length [a0]≤(9223372036854775807:Nat)) then some ((zaaj a0 (List.length a2:Int) a1),(a2++[a0])) else none else some ((a1),(a2))
def qa2:=sealF (qa2_f)
def qa3_f (a0:TStmt) (a1:Int) (a2:List ((List UInt8)×(Int))) (a3:List (List UInt8)):Option ((List ((List UInt8)×(Int)))×(List (List UInt8))):=(qa2 (TStmt.reg a0) a2 a3).bind fun y0=>(qa2 (TStmt.name a0) y0.1 y0.2).bind fun y1=>some (y1.1,y1.2)
def qa3:=sealF (qa3_f)
def qa4_f (a0:TExpr) (a1:Int) (a2:List ((List UInt8)×(Int))) (a3:List (List UInt8)):Option ((List ((List UInt8)×(Int)))×(List (List UInt8))):=(qa2 (TExpr.name a0) a2 a3).bind fun y0=>some (y0.1,y0.2)
def qa4:=sealF (qa4_f)
abbrev qad_o:=TExpr→Int→List ((List UInt8)×(Int))→List (List UInt8)→Option ((List ((List UInt8)×(Int)))×(List (List UInt8)))
abbrev qad_o3:=Int→List TExpr→Int→Int→List ((List UInt8)×(Int))→List (List UInt8)→Option ((List ((List UInt8)×(Int)))×(List (List UInt8)))
def qad_t3 (rec_qad:qad_o) (rec:qad_o3):qad_o3:=fun a0 a1 a2 a3 a4 a5=>bif decide (a3<a2) then bif decide (0≤a3) then (a1[Int.toNat a3]?).bind fun y0=>(rec_qad (TExpr.mk (TExpr.kind y0) (TExpr.num y0) (TExpr.name y0) (TExpr.args y0)) (IntKind.wrap IntKind.i64 (a0+(1:Int))) a4 a5).bind fun y1=>rec (a0) (a1) (a2) (IntKind.wrap IntKind.i64 (a3+(1:Int))) y1.1 y1.2 else none else some ((a4),(a5))
def qad_i3 (rec_qad:qad_o):Nat→qad_o3
 |0=>fun _ _ _ _ _ _=>none
 |n+1=>qad_t3 rec_qad (qad_i3 rec_qad n)
def qad_l3 (rec_qad:qad_o):=sealF (qad_i3 rec_qad fuel)
def qad_f (rec_qad:qad_o):qad_o:=fun a0 a1 a2 a3=>(qa4 (TExpr.mk (TExpr.kind a0) (TExpr.num a0) (TExpr.name a0) (TExpr.args a0)) a1 a2 a3).bind fun y0=>(qad_l3 rec_qad a1 (TExpr.args a0) (List.length (TExpr.args a0):Int) (0:Int) y0.1 y0.2).bind fun y1=>some (y1.1,y1.2)
def qad_i:Nat→qad_o
 |0=>fun _ _ _ _=>none
 |n+1=>qad_f (qad_i n)
def qad:=sealF (qad_i fuel)
abbrev qal_o:=List TStmt→Int→List ((List UInt8)×(Int))→List (List UInt8)→Option ((List ((List UInt8)×(Int)))×(List (List UInt8)))
abbrev qal_o2:=Int→List TStmt→Int→Int→List ((List UInt8)×(Int))→List (List UInt8)→Option ((List ((List UInt8)×(Int)))×(List (List UInt8)))
def qal_t2 (rec_qal:qal_o) (rec:qal_o2):qal_o2:=fun a0 a1 a2 a3 a4 a5=>bif decide (a3<a2) then bif decide (0≤a3) then (a1[Int.toNat a3]?).bind fun y0=>(qa3 (TStmt.mk (TStmt.kind y0) (TStmt.reg y0) (TStmt.name y0) (TExpr.mk (TExpr.kind (TStmt.expr y0)) (TExpr.num (TStmt.expr y0)) (TExpr.name (TStmt.expr y0)) (TExpr.args (TStmt.expr y0))) (TStmt.count y0) (TStmt.then_ y0) (TStmt.else_ y0)) a0 a4 a5).bind fun y1=>Option.bind (α:=Bool) ( bif TExpr.kind (TStmt.expr y0) != 0 then some (true) else some (decide ((↑(List.length (TExpr.args (TStmt.expr y0))):Int)>0))) fun y2=>bif y2 then (qad (TExpr.mk (TExpr.kind (TStmt.expr y0)) (TExpr.num (TStmt.expr y0)) (TExpr.name (TStmt.expr y0)) (TExpr.args (TStmt.expr y0))) (1:Int) y1.1 y1.2).bind fun y3=>(rec_qal (TStmt.then_ y0) (IntKind.wrap IntKind.i64 (a0+(1:Int))) y3.1 y3.2).bind fun y4=>(rec_qal (TStmt.else_ y0) (IntKind.wrap IntKind.i64 (a0+(1:Int))) y4.1 y4.2).bind fun y5=>rec (a0) (a1) (a2) (IntKind.wrap IntKind.i64 (a3+(1:Int))) y5.1 y5.2 else (rec_qal (TStmt.then_ y0) (IntKind.wrap IntKind.i64 (a0+(1:Int))) y1.1 y1.2).bind fun y6=>(rec_qal (TStmt.else_ y0) (IntKind.wrap IntKind.i64 (a0+(1:Int))) y6.1 y6.2).bind fun y7=>rec (a0) (a1) (a2) (IntKind.wrap IntKind.i64 (a3+(1:Int))) y7.1 y7.2 else none else some ((a4),(a5))
def qal_i2 (rec_qal:qal_o):Nat→qal_o2
 |0=>fun _ _ _ _ _ _=>none
 |n+1=>qal_t2 rec_qal (qal_i2 rec_qal n)
def qal_l2 (rec_qal:qal_o):=sealF (qal_i2 rec_qal fuel)
def qal_f (rec_qal:qal_o):qal_o:=fun a0 a1 a2 a3=>(qal_l2 rec_qal a1 a0 (List.length a0:Int) (0:Int) a2 a3).bind fun y0=>some (y0.1,y0.2)
def qal_i:Nat→qal_o
 |0=>fun _ _ _ _=>none
 |n+1=>qal_f (qal_i n)
def qal:=sealF (qal_i fuel)
abbrev qah_o2:=List TThread→Int→Int→List ((List UInt8)×(Int))→List (List UInt8)→Option ((List ((List UInt8)×(Int)))×(List (List UInt8)))
def qah_t2 (rec:qah_o2):qah_o2:=fun a0 a1 a2 a3 a4=>bif decide (a2<a1) then bif decide (0≤a2) then (a0[Int.toNat a2]?).bind fun y0=>(qal (TThread.body y0) (1:Int) a3 a4).bind fun y1=>rec (a0) (a1) (IntKind.wrap IntKind.i64 (a2+(1:Int))) y1.1 y1.2 else none else some ((a3),(a4))
def qah_i2:Nat→qah_o2
 |0=>fun _ _ _ _ _=>none
 |n+1=>qah_t2 (qah_i2 n)
def qah_l2:=sealF (qah_i2 fuel)
def qah_f (a0:TProg) (a1:List ((List UInt8)×(Int))) (a2:List (List UInt8)):Option ((List ((List UInt8)×(Int)))×(List (List UInt8))):=(qah_l2 (TProg.threads a0) (List.length (TProg.threads a0):Int) (0:Int) a1 a2).bind fun y0=>some (y0.1,y0.2)
def qah:=sealF (qah_f)
def qaJ_f (a0:List (List UInt8)):Option ((List (List UInt8))):=bif decide ((List.length a0:Int)=(List.length a0:Int))&&decide ((List.length a0:Int)=(List.length a0:Int)) then some (a0) else none
def qaJ:=sealF (qaJ_f)
abbrev qa1_o5:=List TCell→Int→Int→List TCell→List (List UInt8)→List TThread→List ((List UInt8)×(Int))→List (List UInt8)→Option ((List TCell)×(List (List UInt8))×(List TThread)×(List ((List UInt8)×(Int)))×(List (List UInt8)))
def qa1_t5 (rec:qa1_o5):qa1_o5:=fun a0 a1 a2 a3 a4 a5 a6 a7=>bif decide (a2<a1) then bif decide (0≤a2) then (a0[Int.toNat a2]?).bind fun y0=>(qa2 (TCell.name y0) a6 a7).bind fun y1=>rec (a0) (a1) (IntKind.wrap IntKind.i64 (a2+(1:Int))) (a3) (a4) (a5) y1.1 y1.2 else none else some ((a3),(a4),(a5),(a6),(a7))
def qa1_i5:Nat→qa1_o5
 |0=>fun _ _ _ _ _ _ _ _=>none
 |n+1=>qa1_t5 (qa1_i5 n)
def qa1_l5:=sealF (qa1_i5 fuel)
abbrev qa1_o10:=List (List UInt8)→Int→Int→List TCell→List (List UInt8)→List TThread→List ((List UInt8)×(Int))→List (List UInt8)→Option ((List TCell)×(List (List UInt8))×(List TThread)×(List ((List UInt8)×(Int)))×(List (List UInt8)))
def qa1_t10 (rec:qa1_o10):qa1_o10:=fun a0 a1 a2 a3 a4 a5 a6 a7=>bif decide (a2<a1) then bif decide (0≤a2) then (a0[Int.toNat a2]?).bind fun y0=>(qa2 y0 a6 a7).bind fun y1=>rec (a0) (a1) (IntKind.wrap IntKind.i64 (a2+(1:Int))) (a3) (a4) (a5) y1.1 y1.2 else none else some ((a3),(a4),(a5),(a6),(a7))
def qa1_i10:Nat→qa1_o10
 |0=>fun _ _ _ _ _ _ _ _=>none
 |n+1=>qa1_t10 (qa1_i10 n)
def qa1_l10:=sealF (qa1_i10 fuel)
abbrev qa1_o15:=List TThread→Int→Int→List TCell→List (List UInt8)→List TThread→List ((List UInt8)×(Int))→List (List UInt8)→Option ((List TCell)×(List (List UInt8))×(List TThread)×(List ((List UInt8)×(Int)))×(List (List UInt8)))
def qa1_t15 (rec:qa1_o15):qa1_o15:=fun a0 a1 a2 a3 a4 a5 a6 a7=>bif decide (a2<a1) then bif decide (0≤a2) then (a0[Int.toNat a2]?).bind fun y0=>(qa2 (TThread.name y0) a6 a7).bind fun y1=>rec (a0) (a1) (IntKind.wrap IntKind.i64 (a2+(1:Int))) (a3) (a4) (a5) y1.1 y1.2 else none else some ((a3),(a4),(a5),(a6),(a7))
def qa1_i15:Nat→qa1_o15
 |0=>fun _ _ _ _ _ _ _ _=>none
 |n+1=>qa1_t15 (qa1_i15 n)
def qa1_l15:=sealF (qa1_i15 fuel)
def qa1_f (a0:TProg):Option ((List (List UInt8))):=(qa1_l5 (TProg.cells a0) (List.length (TProg.cells a0):Int) (0:Int) (TProg.cells a0) (TProg.mutexes a0) (TProg.threads a0) (zaaj [] (0:Int) []) []).bind fun y0=>(qa1_l10 y0.2.1 (List.length y0.2.1:Int) (0:Int) y0.1 y0.2.1 y0.2.2.1 y0.2.2.2.1 y0.2.2.2.2).bind fun y1=>(qa1_l15 y1.2.2.1 (List.length y1.2.2.1:Int) (0:Int) y1.1 y1.2.1 y1.2.2.1 y1.2.2.2.1 y1.2.2.2.2).bind fun y2=>(qah (TProg.mk y2.1 y2.2.1 y2.2.2.1) y2.2.2.2.1 y2.2.2.2.2).bind fun y3=>(qaJ y3.2).bind fun y4=>some (y4)
def qa1:=sealF (qa1_f)
def qaS_f (a0:TCell):Option (TCell):=some (TCell.mk (TCell.name a0) (TCell.init a0))
def qaS:=sealF (qaS_f)
def qaF_f (a0:List TCell):Option ((List TCell)):=bif decide ((List.length a0:Int)=(List.length a0:Int))&&decide ((List.length a0:Int)=(List.length a0:Int)) then some (a0) else none
def qaF:=sealF (qaF_f)
abbrev qbg_o3:=List TCell→Int→Int→List TCell→Option ((List TCell))
def qbg_t3 (rec:qbg_o3):qbg_o3:=fun a0 a1 a2 a3=>bif decide (a2<a1) then bif decide (0≤a2) then (a0[Int.toNat a2]?).bind fun y0=>(qaS (TCell.mk (TCell.name y0) (TCell.init y0))).bind fun y1=>bif decide ((List.length a3+List.length [y1])*(24:Nat)≤(140737488355328:Nat)∧List.length a3+List.length [y1]≤(9223372036854775807:Nat)) then rec (a0) (a1) (IntKind.wrap IntKind.i64 (a2+(1:Int))) (a3++[y1]) else none else none else some (a3)
def qbg_i3:Nat→qbg_o3
 |0=>fun _ _ _ _=>none
 |n+1=>qbg_t3 (qbg_i3 n)
def qbg_l3:=sealF (qbg_i3 fuel)
def qbg_f (a0:List TCell):Option ((List TCell)):=(qbg_l3 a0 (List.length a0:Int) (0:Int) []).bind fun y0=>(qaF y0).bind fun y1=>some (y1)
def qbg:=sealF (qbg_f)
def qaT_f (a0:List UInt8):Option ((List UInt8)):=some (a0)
def qaT:=sealF (qaT_f)
abbrev qbk_o3:=List (List UInt8)→Int→Int→List (List UInt8)→Option ((List (List UInt8)))
def qbk_t3 (rec:qbk_o3):qbk_o3:=fun a0 a1 a2 a3=>bif decide (a2<a1) then bif decide (0≤a2) then (a0[Int.toNat a2]?).bind fun y0=>(qaT y0).bind fun y1=>bif decide ((List.length a3+List.length [y1])*(16:Nat)≤(140737488355328:Nat)∧List.length a3+List.length [y1]≤(9223372036854775807:Nat)) then rec (a0) (a1) (IntKind.wrap IntKind.i64 (a2+(1:Int))) (a3++[y1]) else none else none else some (a3)
def qbk_i3:Nat→qbk_o3
 |0=>fun _ _ _ _=>none
 |n+1=>qbk_t3 (qbk_i3 n)
def qbk_l3:=sealF (qbk_i3 fuel)
def qbk_f (a0:List (List UInt8)):Option ((List (List UInt8))):=(qbk_l3 a0 (List.length a0:Int) (0:Int) []).bind fun y0=>(qaJ y0).bind fun y1=>some (y1)
def qbk:=sealF (qbk_f)
abbrev qa8_o:=TExpr→Option (Int×Int×(List UInt8)×(List TExpr))
def qaG_f (rec_qa8:qa8_o) (a0:List TExpr):Option ((List TExpr)):=bif decide ((List.length a0:Int)=(List.length a0:Int))&&decide ((List.length a0:Int)=(List.length a0:Int)) then some (a0) else none
def qaG (rec_qa8:qa8_o):=sealF (qaG_f rec_qa8)
abbrev qbh_o3:=List TExpr→Int→Int→List TExpr→Option ((List TExpr))
def qbh_t3 (rec_qa8:qa8_o) (rec:qbh_o3):qbh_o3:=fun a0 a1 a2 a3=>bif decide (a2<a1) then bif decide (0≤a2) then (a0[Int.toNat a2]?).bind fun y0=>(rec_qa8 (TExpr.mk (TExpr.kind y0) (TExpr.num y0) (TExpr.name y0) (TExpr.args y0))).bind fun y1=>bif decide ((List.length a3+List.length [TExpr.mk y1.1 y1.2.1 y1.2.2.1 y1.2.2.2])*(56:Nat)≤(140737488355328:Nat)∧List.length a3+List.length [TExpr.mk y1.1 y1.2.1 y1.2.2.1 y1.2.2.2]≤(9223372036854775807:Nat)) then rec (a0) (a1) (IntKind.wrap IntKind.i64 (a2+(1:Int))) (a3++[TExpr.mk y1.1 y1.2.1 y1.2.2.1 y1.2.2.2]) else none else none else some (a3)
def qbh_i3 (rec_qa8:qa8_o):Nat→qbh_o3
 |0=>fun _ _ _ _=>none
 |n+1=>qbh_t3 rec_qa8 (qbh_i3 rec_qa8 n)
def qbh_l3 (rec_qa8:qa8_o):=sealF (qbh_i3 rec_qa8 fuel)
def qbh_f (rec_qa8:qa8_o) (a0:List TExpr):Option ((List TExpr)):=(qbh_l3 rec_qa8 a0 (List.length a0:Int) (0:Int) []).bind fun y0=>(qaG rec_qa8 y0).bind fun y1=>some (y1)
def qbh (rec_qa8:qa8_o):=sealF (qbh_f rec_qa8)
def qa8_f (rec_qa8:qa8_o):qa8_o:=fun a0=>(qbh rec_qa8 (TExpr.args a0)).bind fun y0=>some ((TExpr.kind a0),(TExpr.num a0),(TExpr.name a0),(y0))
def qa8_i:Nat→qa8_o
 |0=>fun _=>none
 |n+1=>qa8_f (qa8_i n)
def qa8:=sealF (qa8_i fuel)
abbrev qbi_o:=List TStmt→Option ((List TStmt))
def qa9_f (rec_qbi:qbi_o) (a0:TStmt):Option (Int×(List UInt8)×(List UInt8)×Int×Int×(List UInt8)×Int×(List TExpr)×(List TStmt)×(List TStmt)):=(qa8 (TExpr.mk (TExpr.kind (TStmt.expr a0)) (TExpr.num (TStmt.expr a0)) (TExpr.name (TStmt.expr a0)) (TExpr.args (TStmt.expr a0)))).bind fun y0=>(rec_qbi (TStmt.then_ a0)).bind fun y1=>(rec_qbi (TStmt.else_ a0)).bind fun y2=>some ((TStmt.kind a0),(TStmt.reg a0),(TStmt.name a0),y0.1,y0.2.1,y0.2.2.1,(TStmt.count a0),y0.2.2.2,(y1),(y2))
def qa9 (rec_qbi:qbi_o):=sealF (qa9_f rec_qbi)
def qaH_f (rec_qbi:qbi_o) (a0:List TStmt):Option ((List TStmt)):=bif decide ((List.length a0:Int)=(List.length a0:Int))&&decide ((List.length a0:Int)=(List.length a0:Int)) then some (a0) else none
def qaH (rec_qbi:qbi_o):=sealF (qaH_f rec_qbi)
abbrev qbi_o3:=List TStmt→Int→Int→List TStmt→Option ((List TStmt))
def qbi_t3 (rec_qbi:qbi_o) (rec:qbi_o3):qbi_o3:=fun a0 a1 a2 a3=>bif decide (a2<a1) then bif decide (0≤a2) then (a0[Int.toNat a2]?).bind fun y0=>(qa9 rec_qbi (TStmt.mk (TStmt.kind y0) (TStmt.reg y0) (TStmt.name y0) (TExpr.mk (TExpr.kind (TStmt.expr y0)) (TExpr.num (TStmt.expr y0)) (TExpr.name (TStmt.expr y0)) (TExpr.args (TStmt.expr y0))) (TStmt.count y0) (TStmt.then_ y0) (TStmt.else_ y0))).bind fun y1=>bif decide ((List.length a3+List.length [TStmt.mk y1.1 y1.2.1 y1.2.2.1 (TExpr.mk y1.2.2.2.1 y1.2.2.2.2.1 y1.2.2.2.2.2.1 y1.2.2.2.2.2.2.2.1) y1.2.2.2.2.2.2.1 y1.2.2.2.2.2.2.2.2.1 y1.2.2.2.2.2.2.2.2.2])*(152:Nat)≤(140737488355328:Nat)∧List.length a3+List.length [TStmt.mk y1.1 y1.2.1 y1.2.2.1 (TExpr.mk y1.2.2.2.1 y1.2.2.2.2.1 y1.2.2.2.2.2.1 y1.2.2.2.2.2.2.2.1) y1.2.2.2.2.2.2.1 y1.2.2.2.2.2.2.2.2.1 y1.2.2.2.2.2.2.2.2.2]≤(9223372036854775807:Nat)) then rec (a0) (a1) (IntKind.wrap IntKind.i64 (a2+(1:Int))) (a3++[TStmt.mk y1.1 y1.2.1 y1.2.2.1 (TExpr.mk y1.2.2.2.1 y1.2.2.2.2.1 y1.2.2.2.2.2.1 y1.2.2.2.2.2.2.2.1) y1.2.2.2.2.2.2.1 y1.2.2.2.2.2.2.2.2.1 y1.2.2.2.2.2.2.2.2.2]) else none else none else some (a3)
def qbi_i3 (rec_qbi:qbi_o):Nat→qbi_o3
 |0=>fun _ _ _ _=>none
 |n+1=>qbi_t3 rec_qbi (qbi_i3 rec_qbi n)
def qbi_l3 (rec_qbi:qbi_o):=sealF (qbi_i3 rec_qbi fuel)
def qbi_f (rec_qbi:qbi_o):qbi_o:=fun a0=>(qbi_l3 rec_qbi a0 (List.length a0:Int) (0:Int) []).bind fun y0=>(qaH rec_qbi y0).bind fun y1=>some (y1)
def qbi_i:Nat→qbi_o
 |0=>fun _=>none
 |n+1=>qbi_f (qbi_i n)
def qbi:=sealF (qbi_i fuel)
def qaU_f (a0:TThread):Option ((List UInt8)×(List TStmt)):=(qbi (TThread.body a0)).bind fun y0=>some ((TThread.name a0),(y0))
def qaU:=sealF (qaU_f)
def qaI_f (a0:List TThread):Option ((List TThread)):=bif decide ((List.length a0:Int)=(List.length a0:Int))&&decide ((List.length a0:Int)=(List.length a0:Int)) then some (a0) else none
def qaI:=sealF (qaI_f)
abbrev qbj_o3:=List TThread→Int→Int→List TThread→Option ((List TThread))
def qbj_t3 (rec:qbj_o3):qbj_o3:=fun a0 a1 a2 a3=>bif decide (a2<a1) then bif decide (0≤a2) then (a0[Int.toNat a2]?).bind fun y0=>(qaU (TThread.mk (TThread.name y0) (TThread.body y0))).bind fun y1=>bif decide ((List.length a3+List.length [TThread.mk y1.1 y1.2])*(40:Nat)≤(140737488355328:Nat)∧List.length a3+List.length [TThread.mk y1.1 y1.2]≤(9223372036854775807:Nat)) then rec (a0) (a1) (IntKind.wrap IntKind.i64 (a2+(1:Int))) (a3++[TThread.mk y1.1 y1.2]) else none else none else some (a3)
def qbj_i3:Nat→qbj_o3
 |0=>fun _ _ _ _=>none
 |n+1=>qbj_t3 (qbj_i3 n)
def qbj_l3:=sealF (qbj_i3 fuel)
def qbj_f (a0:List TThread):Option ((List TThread)):=(qbj_l3 a0 (List.length a0:Int) (0:Int) []).bind fun y0=>(qaI y0).bind fun y1=>some (y1)
def qbj:=sealF (qbj_f)
def qaR_f (a0:TProg):Option ((List TCell)×(List (List UInt8))×(List TThread)):=(qbg (TProg.cells a0)).bind fun y0=>(qbk (TProg.mutexes a0)).bind fun y1=>(qbj (TProg.threads a0)).bind fun y2=>some ((y0),(y1),(y2))
def qaR:=sealF (qaR_f)
abbrev qaO_o4:=List TCell→List TCell→Int→Int→Option ((Bool)⊕(Unit))
def qaO_t4 (rec:qaO_o4):qaO_o4:=fun a0 a1 a2 a3=>bif decide (a3<a2) then bif decide (0≤a3) then (a0[Int.toNat a3]?).bind fun y0=>bif decide (0≤a3) then (a1[Int.toNat a3]?).bind fun y1=>bif !decide (y0=y1) then some (.inl (false)) else rec (a0) (a1) (a2) (IntKind.wrap IntKind.i64 (a3+(1:Int))) else none else none else some (.inr ())
def qaO_i4:Nat→qaO_o4
 |0=>fun _ _ _ _=>none
 |n+1=>qaO_t4 (qaO_i4 n)
def qaO_l4:=sealF (qaO_i4 fuel)
def qaO_f (a0:List TCell) (a1:List TCell):Option (Bool):=bif (List.length a0:Int) != (List.length a1:Int) then some (false) else (qaO_l4 a0 a1 (List.length a0:Int) (0:Int)).bind fun y0=>(match y0 with|.inl y1=>some (y1)|.inr y1=>some (true))
def qaO:=sealF (qaO_f)
abbrev qaP_o4:=List (List UInt8)→List (List UInt8)→Int→Int→Option ((Bool)⊕(Unit))
def qaP_t4 (rec:qaP_o4):qaP_o4:=fun a0 a1 a2 a3=>bif decide (a3<a2) then bif decide (0≤a3) then (a0[Int.toNat a3]?).bind fun y0=>bif decide (0≤a3) then (a1[Int.toNat a3]?).bind fun y1=>bif !y0==y1 then some (.inl (false)) else rec (a0) (a1) (a2) (IntKind.wrap IntKind.i64 (a3+(1:Int))) else none else none else some (.inr ())
def qaP_i4:Nat→qaP_o4
 |0=>fun _ _ _ _=>none
 |n+1=>qaP_t4 (qaP_i4 n)
def qaP_l4:=sealF (qaP_i4 fuel)
def qaP_f (a0:List (List UInt8)) (a1:List (List UInt8)):Option (Bool):=bif (List.length a0:Int) != (List.length a1:Int) then some (false) else (qaP_l4 a0 a1 (List.length a0:Int) (0:Int)).bind fun y0=>(match y0 with|.inl y1=>some (y1)|.inr y1=>some (true))
def qaP:=sealF (qaP_f)
abbrev qbl_o:=TExpr→TExpr→Option (Bool)
abbrev qaL_o4:=List TExpr→List TExpr→Int→Int→Option ((Bool)⊕(Unit))
def qaL_t4 (rec_qbl:qbl_o) (rec:qaL_o4):qaL_o4:=fun a0 a1 a2 a3=>bif decide (a3<a2) then bif decide (0≤a3) then (a1[Int.toNat a3]?).bind fun y0=>bif decide (0≤a3) then (a0[Int.toNat a3]?).bind fun y1=>(rec_qbl (TExpr.mk (TExpr.kind y0) (TExpr.num y0) (TExpr.name y0) (TExpr.args y0)) (TExpr.mk (TExpr.kind y1) (TExpr.num y1) (TExpr.name y1) (TExpr.args y1))).bind fun y2=>bif !y2 then some (.inl (false)) else rec (a0) (a1) (a2) (IntKind.wrap IntKind.i64 (a3+(1:Int))) else none else none else some (.inr ())
def qaL_i4 (rec_qbl:qbl_o):Nat→qaL_o4
 |0=>fun _ _ _ _=>none
 |n+1=>qaL_t4 rec_qbl (qaL_i4 rec_qbl n)
def qaL_l4 (rec_qbl:qbl_o):=sealF (qaL_i4 rec_qbl fuel)
def qaL_f (rec_qbl:qbl_o) (a0:List TExpr) (a1:List TExpr):Option (Bool):=bif (List.length a0:Int) != (List.length a1:Int) then some (false) else (qaL_l4 rec_qbl a1 a0 (List.length a0:Int) (0:Int)).bind fun y0=>(match y0 with|.inl y1=>some (y1)|.inr y1=>some (true))
def qaL (rec_qbl:qbl_o):=sealF (qaL_f rec_qbl)
def qbl_f (rec_qbl:qbl_o):qbl_o:=fun a0 a1=>Option.bind (α:=Bool) ( bif TExpr.kind a0==TExpr.kind a1 then some (TExpr.num a0==TExpr.num a1) else some (false)) fun y0=>Option.bind (α:=Bool) ( bif y0 then some (TExpr.name a0==TExpr.name a1) else some (false)) fun y1=>Option.bind (α:=Bool) ( bif y1 then (qaL rec_qbl (TExpr.args a0) (TExpr.args a1)).bind fun y2=>some (y2) else some (false)) fun y3=>some (y3)
def qbl_i:Nat→qbl_o
 |0=>fun _ _=>none
 |n+1=>qbl_f (qbl_i n)
def qbl:=sealF (qbl_i fuel)
abbrev qaM_o:=List TStmt→List TStmt→Option (Bool)
def qbm_f (rec_qaM:qaM_o) (a0:TStmt) (a1:TStmt):Option (Bool):=Option.bind (α:=Bool) ( bif TStmt.kind a0==TStmt.kind a1 then some (TStmt.reg a0==TStmt.reg a1) else some (false)) fun y0=>Option.bind (α:=Bool) ( bif y0 then some (TStmt.name a0==TStmt.name a1) else some (false)) fun y1=>Option.bind (α:=Bool) ( bif y1 then some (TStmt.count a0==TStmt.count a1) else some (false)) fun y2=>Option.bind (α:=Bool) ( bif y2 then (qbl (TExpr.mk (TExpr.kind (TStmt.expr a0)) (TExpr.num (TStmt.expr a0)) (TExpr.name (TStmt.expr a0)) (TExpr.args (TStmt.expr a0))) (TExpr.mk (TExpr.kind (TStmt.expr a1)) (TExpr.num (TStmt.expr a1)) (TExpr.name (TStmt.expr a1)) (TExpr.args (TStmt.expr a1)))).bind fun y3=>some (y3) else some (false)) fun y4=>Option.bind (α:=Bool) ( bif y4 then (rec_qaM (TStmt.then_ a0) (TStmt.then_ a1)).bind fun y5=>some (y5) else some (false)) fun y6=>Option.bind (α:=Bool) ( bif y6 then (rec_qaM (TStmt.else_ a0) (TStmt.else_ a1)).bind fun y7=>some (y7) else some (false)) fun y8=>some (y8)
def qbm (rec_qaM:qaM_o):=sealF (qbm_f rec_qaM)
abbrev qaM_o4:=List TStmt→List TStmt→Int→Int→Option ((Bool)⊕(Unit))
def qaM_t4 (rec_qaM:qaM_o) (rec:qaM_o4):qaM_o4:=fun a0 a1 a2 a3=>bif decide (a3<a2) then bif decide (0≤a3) then (a1[Int.toNat a3]?).bind fun y0=>bif decide (0≤a3) then (a0[Int.toNat a3]?).bind fun y1=>(qbm rec_qaM (TStmt.mk (TStmt.kind y0) (TStmt.reg y0) (TStmt.name y0) (TExpr.mk (TExpr.kind (TStmt.expr y0)) (TExpr.num (TStmt.expr y0)) (TExpr.name (TStmt.expr y0)) (TExpr.args (TStmt.expr y0))) (TStmt.count y0) (TStmt.then_ y0) (TStmt.else_ y0)) (TStmt.mk (TStmt.kind y1) (TStmt.reg y1) (TStmt.name y1) (TExpr.mk (TExpr.kind (TStmt.expr y1)) (TExpr.num (TStmt.expr y1)) (TExpr.name (TStmt.expr y1)) (TExpr.args (TStmt.expr y1))) (TStmt.count y1) (TStmt.then_ y1) (TStmt.else_ y1))).bind fun y2=>bif !y2 then some (.inl (false)) else rec (a0) (a1) (a2) (IntKind.wrap IntKind.i64 (a3+(1:Int))) else none else none else some (.inr ())
def qaM_i4 (rec_qaM:qaM_o):Nat→qaM_o4
 |0=>fun _ _ _ _=>none
 |n+1=>qaM_t4 rec_qaM (qaM_i4 rec_qaM n)
def qaM_l4 (rec_qaM:qaM_o):=sealF (qaM_i4 rec_qaM fuel)
def qaM_f (rec_qaM:qaM_o):qaM_o:=fun a0 a1=>bif (List.length a0:Int) != (List.length a1:Int) then some (false) else (qaM_l4 rec_qaM a1 a0 (List.length a0:Int) (0:Int)).bind fun y0=>(match y0 with|.inl y1=>some (y1)|.inr y1=>some (true))
def qaM_i:Nat→qaM_o
 |0=>fun _ _=>none
 |n+1=>qaM_f (qaM_i n)
def qaM:=sealF (qaM_i fuel)
def qa7_f (a0:TThread) (a1:TThread):Option (Bool):=Option.bind (α:=Bool) ( bif TThread.name a0==TThread.name a1 then (qaM (TThread.body a0) (TThread.body a1)).bind fun y0=>some (y0) else some (false)) fun y1=>some (y1)
def qa7:=sealF (qa7_f)
abbrev qaN_o4:=List TThread→List TThread→Int→Int→Option ((Bool)⊕(Unit))
def qaN_t4 (rec:qaN_o4):qaN_o4:=fun a0 a1 a2 a3=>bif decide (a3<a2) then bif decide (0≤a3) then (a1[Int.toNat a3]?).bind fun y0=>bif decide (0≤a3) then (a0[Int.toNat a3]?).bind fun y1=>(qa7 (TThread.mk (TThread.name y0) (TThread.body y0)) (TThread.mk (TThread.name y1) (TThread.body y1))).bind fun y2=>bif !y2 then some (.inl (false)) else rec (a0) (a1) (a2) (IntKind.wrap IntKind.i64 (a3+(1:Int))) else none else none else some (.inr ())
def qaN_i4:Nat→qaN_o4
 |0=>fun _ _ _ _=>none
 |n+1=>qaN_t4 (qaN_i4 n)
def qaN_l4:=sealF (qaN_i4 fuel)
def qaN_f (a0:List TThread) (a1:List TThread):Option (Bool):=bif (List.length a0:Int) != (List.length a1:Int) then some (false) else (qaN_l4 a1 a0 (List.length a0:Int) (0:Int)).bind fun y0=>(match y0 with|.inl y1=>some (y1)|.inr y1=>some (true))
def qaN:=sealF (qaN_f)
def qa6_f (a0:TProg) (a1:TProg):Option (Bool):=(qaO (TProg.cells a0) (TProg.cells a1)).bind fun y0=>Option.bind (α:=Bool) ( bif y0 then (qaP (TProg.mutexes a0) (TProg.mutexes a1)).bind fun y1=>some (y1) else some (false)) fun y2=>Option.bind (α:=Bool) ( bif y2 then (qaN (TProg.threads a0) (TProg.threads a1)).bind fun y3=>some (y3) else some (false)) fun y4=>some (y4)
def qa6:=sealF (qa6_f)
def qav_f:Option (Bool):=(qa5 (TProg.mk [TCell.mk [(120:UInt8)] (0:Int)] [] [TThread.mk [(116:UInt8)] [TStmt.mk (4:Int) [(114:UInt8)] [(120:UInt8)] (TExpr.mk (5:Int) (0:Int) [] [TExpr.mk (2:Int) (0:Int) [(114:UInt8)] [],TExpr.mk (2:Int) (0:Int) [(113:UInt8)] []]) (0:Int) [] []]])).bind fun y0=>(qaV (TProg.mk [TCell.mk [(120:UInt8)] (0:Int)] [] [TThread.mk [(116:UInt8)] [TStmt.mk (4:Int) [(114:UInt8)] [(120:UInt8)] (TExpr.mk (5:Int) (0:Int) [] [TExpr.mk (2:Int) (0:Int) [(114:UInt8)] [],TExpr.mk (2:Int) (0:Int) [(113:UInt8)] []]) (0:Int) [] []]])).bind fun y1=>(qaY (TProg.mk [TCell.mk [(120:UInt8)] (0:Int)] [] [TThread.mk [(116:UInt8)] [TStmt.mk (4:Int) [(114:UInt8)] [(120:UInt8)] (TExpr.mk (5:Int) (0:Int) [] [TExpr.mk (2:Int) (0:Int) [(114:UInt8)] [],TExpr.mk (2:Int) (0:Int) [(113:UInt8)] []]) (0:Int) [] []]])).bind fun y2=>(qa1 (TProg.mk [TCell.mk [(120:UInt8)] (0:Int)] [] [TThread.mk [(116:UInt8)] [TStmt.mk (4:Int) [(114:UInt8)] [(120:UInt8)] (TExpr.mk (5:Int) (0:Int) [] [TExpr.mk (2:Int) (0:Int) [(114:UInt8)] [],TExpr.mk (2:Int) (0:Int) [(113:UInt8)] []]) (0:Int) [] []]])).bind fun y3=>(qaR (TProg.mk [TCell.mk [(120:UInt8)] (0:Int)] [] [TThread.mk [(116:UInt8)] [TStmt.mk (4:Int) [(114:UInt8)] [(120:UInt8)] (TExpr.mk (5:Int) (0:Int) [] [TExpr.mk (2:Int) (0:Int) [(114:UInt8)] [],TExpr.mk (2:Int) (0:Int) [(113:UInt8)] []]) (0:Int) [] []]])).bind fun y4=>(qa6 (TProg.mk [TCell.mk [(120:UInt8)] (0:Int)] [] [TThread.mk [(116:UInt8)] [TStmt.mk (4:Int) [(114:UInt8)] [(120:UInt8)] (TExpr.mk (5:Int) (0:Int) [] [TExpr.mk (2:Int) (0:Int) [(114:UInt8)] [],TExpr.mk (2:Int) (0:Int) [(113:UInt8)] []]) (0:Int) [] []]]) (TProg.mk y4.1 y4.2.1 y4.2.2)).bind fun y5=>(qa6 (TProg.mk [TCell.mk [(120:UInt8)] (0:Int)] [] [TThread.mk [(116:UInt8)] [TStmt.mk (4:Int) [(114:UInt8)] [(120:UInt8)] (TExpr.mk (5:Int) (0:Int) [] [TExpr.mk (2:Int) (0:Int) [(114:UInt8)] [],TExpr.mk (2:Int) (0:Int) [(113:UInt8)] []]) (0:Int) [] []]]) (TProg.mk [] [] [])).bind fun y6=>(qa5 (TProg.mk (List.set [TCell.mk [(120:UInt8)] (0:Int)] (0:Nat) (TCell.mk [(105:UInt8),(102:UInt8)] (0:Int))) [] [TThread.mk [(116:UInt8)] [TStmt.mk (4:Int) [(114:UInt8)] [(120:UInt8)] (TExpr.mk (5:Int) (0:Int) [] [TExpr.mk (2:Int) (0:Int) [(114:UInt8)] [],TExpr.mk (2:Int) (0:Int) [(113:UInt8)] []]) (0:Int) [] []]])).bind fun y7=>Option.bind (α:=Bool) ( bif y0==0 then some (y1==4) else some (false)) fun y8=>Option.bind (α:=Bool) ( bif y8 then some (y2==2) else some (false)) fun y9=>Option.bind (α:=Bool) ( bif y9 then some ((List.length y3:Int)==4) else some (false)) fun y10=>Option.bind (α:=Bool) ( bif y10 then bif decide ((0:Int)≤(2:Int))&&decide ((2:Int)<(List.length y3:Int)) then (y3[(2:Nat)]?).bind fun y11=>some (y11==[(114:UInt8)]) else none else some (false)) fun y12=>Option.bind (α:=Bool) ( bif y12 then bif decide ((0:Int)≤(3:Int))&&decide ((3:Int)<(List.length y3:Int)) then (y3[(3:Nat)]?).bind fun y13=>some (y13==[(113:UInt8)]) else none else some (false)) fun y14=>Option.bind (α:=Bool) ( bif y14 then some (y5) else some (false)) fun y15=>Option.bind (α:=Bool) ( bif y15 then some (!y6) else some (false)) fun y16=>Option.bind (α:=Bool) ( bif y16 then some (y7==30) else some (false)) fun y17=>Option.bind (α:=Bool) ( bif y17 then bif decide ((0:Int)≤(0:Int))&&decide ((0:Int)<(List.length y4.1:Int)) then (y4.1[(0:Nat)]?).bind fun y18=>some (TCell.name y18==[(120:UInt8)]) else none else some (false)) fun y19=>some (y19)
def qav:=sealF (qav_f)
abbrev qax_o:=TExpr→Option (TExpr)
abbrev qax_o3:=Int→Int→Int→List UInt8→List TExpr→Int→Int→List UInt8→Int→Int→List UInt8→List TExpr→Option (Int×Int×(List UInt8)×Int×Int×(List UInt8)×(List TExpr))
def qax_t3 (rec_qax:qax_o) (rec:qax_o3):qax_o3:=fun a0 a1 a2 a3 a4 a5 a6 a7 a8 a9 a10 a11=>bif decide (a0<(List.length a4:Int)) then bif decide (0≤a0) then (a4[Int.toNat a0]?).bind fun y0=>(rec_qax y0).bind fun y1=>bif decide ((List.length a11+List.length [TExpr.mk (TExpr.kind y1) (TExpr.num y1) (TExpr.name y1) (TExpr.args y1)])*(56:Nat)≤(140737488355328:Nat)∧List.length a11+List.length [TExpr.mk (TExpr.kind y1) (TExpr.num y1) (TExpr.name y1) (TExpr.args y1)]≤(9223372036854775807:Nat)) then rec (IntKind.wrap IntKind.i64 (a0+(1:Int))) (a1) (a2) (a3) (a4) (a5) (a6) (a7) (a8) (a9) (a10) (a11++[TExpr.mk (TExpr.kind y1) (TExpr.num y1) (TExpr.name y1) (TExpr.args y1)]) else none else none else some ((a5),(a6),(a7),(a8),(a9),(a10),(a11))
def qax_i3 (rec_qax:qax_o):Nat→qax_o3
 |0=>fun _ _ _ _ _ _ _ _ _ _ _ _=>none
 |n+1=>qax_t3 rec_qax (qax_i3 rec_qax n)
def qax_l3 (rec_qax:qax_o):=sealF (qax_i3 rec_qax fuel)
def qax_f (rec_qax:qax_o):qax_o:=fun a0=>(qax_l3 rec_qax (0:Int) (TExpr.kind a0) (TExpr.num a0) (TExpr.name a0) (TExpr.args a0) (0:Int) (0:Int) [] (TExpr.kind a0) (TExpr.num a0) (TExpr.name a0) []).bind fun y0=>some (TExpr.mk y0.2.2.2.1 y0.2.2.2.2.1 y0.2.2.2.2.2.1 y0.2.2.2.2.2.2)
def qax_i:Nat→qax_o
 |0=>fun _=>none
 |n+1=>qax_f (qax_i n)
def qax:=sealF (qax_i fuel)
abbrev qay_o:=List TStmt→Option ((List TStmt))
abbrev qay_o3:=List TStmt→Int→List TStmt→Option ((List TStmt))
def qay_t3 (rec_qay:qay_o) (rec:qay_o3):qay_o3:=fun a0 a1 a2=>bif decide (a1<(List.length a0:Int)) then bif decide (0≤a1) then (a0[Int.toNat a1]?).bind fun y0=>bif decide (0≤a1) then (a0[Int.toNat a1]?).bind fun y1=>(qax (TExpr.mk (TExpr.kind (TStmt.expr y1)) (TExpr.num (TStmt.expr y1)) (TExpr.name (TStmt.expr y1)) (TExpr.args (TStmt.expr y1)))).bind fun y2=>bif decide (0≤a1) then (a0[Int.toNat a1]?).bind fun y3=>(rec_qay (TStmt.then_ y3)).bind fun y4=>bif decide (0≤a1) then (a0[Int.toNat a1]?).bind fun y5=>(rec_qay (TStmt.else_ y5)).bind fun y6=>bif decide ((List.length a2+List.length [TStmt.mk (TStmt.kind y0) (TStmt.reg y0) (TStmt.name y0) (TExpr.mk (TExpr.kind y2) (TExpr.num y2) (TExpr.name y2) (TExpr.args y2)) (TStmt.count y0) y4 y6])*(152:Nat)≤(140737488355328:Nat)∧List.length a2+List.length [TStmt.mk (TStmt.kind y0) (TStmt.reg y0) (TStmt.name y0) (TExpr.mk (TExpr.kind y2) (TExpr.num y2) (TExpr.name y2) (TExpr.args y2)) (TStmt.count y0) y4 y6]≤(9223372036854775807:Nat)) then rec (a0) (IntKind.wrap IntKind.i64 (a1+(1:Int))) (a2++[TStmt.mk (TStmt.kind y0) (TStmt.reg y0) (TStmt.name y0) (TExpr.mk (TExpr.kind y2) (TExpr.num y2) (TExpr.name y2) (TExpr.args y2)) (TStmt.count y0) y4 y6]) else none else none else none else none else none else some (a2)
def qay_i3 (rec_qay:qay_o):Nat→qay_o3
 |0=>fun _ _ _=>none
 |n+1=>qay_t3 rec_qay (qay_i3 rec_qay n)
def qay_l3 (rec_qay:qay_o):=sealF (qay_i3 rec_qay fuel)
def qay_f (rec_qay:qay_o):qay_o:=fun a0=>(qay_l3 rec_qay a0 (0:Int) []).bind fun y0=>some (y0)
def qay_i:Nat→qay_o
 |0=>fun _=>none
 |n+1=>qay_f (qay_i n)
def qay:=sealF (qay_i fuel)
abbrev qaw_o5:=Int→List TCell→List (List UInt8)→List TThread→List TCell→List (List UInt8)→List TThread→Option ((List TCell)×(List (List UInt8))×(List TThread))
def qaw_t5 (rec:qaw_o5):qaw_o5:=fun a0 a1 a2 a3 a4 a5 a6=>bif decide (a0<(List.length a3:Int)) then bif decide (0≤a0) then (a3[Int.toNat a0]?).bind fun y0=>(qay (TThread.body y0)).bind fun y1=>bif decide (0≤a0) then (a3[Int.toNat a0]?).bind fun y2=>bif decide ((List.length a6+List.length [TThread.mk (TThread.name y2) y1])*(40:Nat)≤(140737488355328:Nat)∧List.length a6+List.length [TThread.mk (TThread.name y2) y1]≤(9223372036854775807:Nat)) then rec (IntKind.wrap IntKind.i64 (a0+(1:Int))) (a1) (a2) (a3) (a4) (a5) (a6++[TThread.mk (TThread.name y2) y1]) else none else none else none else some ((a4),(a5),(a6))
def qaw_i5:Nat→qaw_o5
 |0=>fun _ _ _ _ _ _ _=>none
 |n+1=>qaw_t5 (qaw_i5 n)
def qaw_l5:=sealF (qaw_i5 fuel)
def qaw_f (a0:TProg):Option ((List TCell)×(List (List UInt8))×(List TThread)):=bif decide (List.length (TProg.cells a0)*(24:Nat)≤(140737488355328:Nat)∧List.length (TProg.cells a0)≤(9223372036854775807:Nat)) then bif decide (List.length (TProg.mutexes a0)*(16:Nat)≤(140737488355328:Nat)∧List.length (TProg.mutexes a0)≤(9223372036854775807:Nat)) then (qaw_l5 (0:Int) (TProg.cells a0) (TProg.mutexes a0) (TProg.threads a0) (TProg.cells a0) (TProg.mutexes a0) []).bind fun y0=>some (y0.1,y0.2.1,y0.2.2) else none else none
def qaw:=sealF (qaw_f)
abbrev qau_o14:=Nat→Int→Int→Int→List TCell→List (List UInt8)→List TThread→List TStmt→Option (Nat×Int×(List TStmt)×(List TCell)×(List (List UInt8))×(List TThread))
def qau_t14 (rec:qau_o14):qau_o14:=fun a0 a1 a2 a3 a4 a5 a6 a7=>(a6[a0]?).bind fun y0=>bif decide (a3<(List.length (TThread.body y0):Int)) then bif a3 != a1 then bif Nat.beq a0 a0 then bif decide (0≤a3)&&decide (a3<(List.length (TThread.body y0):Int)) then ((TThread.body y0)[Int.toNat a3]?).bind fun y1=>bif decide ((List.length a7+List.length [y1])*(152:Nat)≤(140737488355328:Nat)∧List.length a7+List.length [y1]≤(9223372036854775807:Nat)) then rec (a0) (a1) (a2) (IntKind.wrap IntKind.i64 (a3+(1:Int))) (a4) (a5) (List.set a6 a0 (TThread.mk (TThread.name y0) (TThread.body y0))) (a7++[y1]) else none else none else none else rec (a0) (a1) (a2) (IntKind.wrap IntKind.i64 (a3+(1:Int))) (a4) (a5) (List.set a6 a0 (TThread.mk (TThread.name y0) (TThread.body y0))) (a7) else some ((a0),(a2),(a7),(a4),(a5),(List.set a6 a0 (TThread.mk (TThread.name y0) (TThread.body y0))))
def qau_i14:Nat→qau_o14
 |0=>fun _ _ _ _ _ _ _ _=>none
 |n+1=>qau_t14 (qau_i14 n)
def qau_l14:=sealF (qau_i14 fuel)
def qau_f (a0:TProg) (a1:Int) (a2:Int):Option (Bool):=(qav).bind fun y0=>(qa5 (TProg.mk (TProg.cells a0) (TProg.mutexes a0) (TProg.threads a0))).bind fun y1=>Option.bind (α:=Bool) ( bif !y0 then some (true) else some (y1 != 0)) fun y2=>Option.bind (α:=Bool) ( bif y2 then some (true) else some (decide (a1<0))) fun y3=>Option.bind (α:=Bool) ( bif y3 then some (true) else some (decide (a2<0))) fun y4=>Option.bind (α:=Bool) ( bif y4 then some (true) else some ((List.length (TProg.threads a0):Int)==0)) fun y5=>bif y5 then some (y0) else (qaw (TProg.mk (TProg.cells a0) (TProg.mutexes a0) (TProg.threads a0))).bind fun y6=>bif (List.length y6.2.2:Int)==0 then none else bif decide ((0:Int)≤Int.tmod a1 (List.length y6.2.2:Int))&&decide (Int.tmod a1 (List.length y6.2.2:Int)<(List.length y6.2.2:Int)) then (y6.2.2[Int.toNat (Int.tmod a1 (List.length y6.2.2:Int))]?).bind fun y7=>bif (List.length (TThread.body y7):Int)==0 then some (true) else bif Nat.beq (Int.toNat (Int.tmod a1 (List.length y6.2.2:Int))) (Int.toNat (Int.tmod a1 (List.length y6.2.2:Int))) then bif (List.length (TThread.body y7):Int)==0 then none else bif Nat.beq (Int.toNat (Int.tmod a1 (List.length y6.2.2:Int))) (Int.toNat (Int.tmod a1 (List.length y6.2.2:Int))) then bif decide ((0:Int)≤Int.tmod a2 (List.length (TThread.body y7):Int))&&decide (Int.tmod a2 (List.length (TThread.body y7):Int)<(List.length (TThread.body y7):Int)) then ((TThread.body y7)[Int.toNat (Int.tmod a2 (List.length (TThread.body y7):Int))]?).bind fun y8=>(qa5 (TProg.mk y6.1 y6.2.1 (List.set y6.2.2 (Int.toNat (Int.tmod a1 (List.length y6.2.2:Int))) (TThread.mk (TThread.name y7) (List.set (TThread.body y7) (Int.toNat (Int.tmod a2 (List.length (TThread.body y7):Int))) (TStmt.mk (TStmt.kind y8) (TStmt.reg y8) (TStmt.name y8) (TExpr.mk (TExpr.kind (TStmt.expr y8)) (TExpr.num (TStmt.expr y8)) (TExpr.name (TStmt.expr y8)) (TExpr.args (TStmt.expr y8))) (TStmt.count y8) (TStmt.then_ y8) [])))))).bind fun y9=>(qau_l14 (Int.toNat (Int.tmod a1 (List.length y6.2.2:Int))) (Int.tmod a2 (List.length (TThread.body y7):Int)) y9 (0:Int) y6.1 y6.2.1 (List.set y6.2.2 (Int.toNat (Int.tmod a1 (List.length y6.2.2:Int))) (TThread.mk (TThread.name y7) (List.set (TThread.body y7) (Int.toNat (Int.tmod a2 (List.length (TThread.body y7):Int))) (TStmt.mk (TStmt.kind y8) (TStmt.reg y8) (TStmt.name y8) (TExpr.mk (TExpr.kind (TStmt.expr y8)) (TExpr.num (TStmt.expr y8)) (TExpr.name (TStmt.expr y8)) (TExpr.args (TStmt.expr y8))) (TStmt.count y8) (TStmt.then_ y8) [])))) []).bind fun y10=>(y10.2.2.2.2.2[y10.1]?).bind fun y11=>(qa5 (TProg.mk y10.2.2.2.1 y10.2.2.2.2.1 (List.set y10.2.2.2.2.2 y10.1 (TThread.mk (TThread.name y11) y10.2.2.1)))).bind fun y12=>Option.bind (α:=Bool) ( bif y10.2.1==0 then some (y12==0) else some (false)) fun y13=>some (y13) else none else none else none else none
def qau:=sealF (qau_f)
end
end Lift.Fn
