/-
  DERIVED. 'AsmLowersUptoCardSaid', THE GIVEN STATEMENT (THE TIED CARD), PROVED: of every unit within the bound the law returns true, and what it was given reads as before.
  Conditions: the statement's own bound.
-/
import Derived.Test.YtekhknlanlbncaaGreatDoorCards
import Derived.Test.YtekhknlanlbncaaGreatDoorTie
import Derived.ProofKit
import Derived.OpenShut
import Derived.JoinedCond
import Derived.Deep.DeepHandedRow
import Derived.Deep.DeepWitnessRowRef
import Derived.Lay
import Derived.SevenTiedAt
import Derived.MakeChecks
import Derived.Test.YtekhknlanlbncaaGreatDoorEnds
set_option linter.unusedVariables false
set_option linter.unusedSimpArgs false
namespace Go.Proofs.YtekhknlanlbncaaGreatDoor.asmLowers
open Go.ChangeShapes Go.WideShapes Go.ChangeAt Go.RowKit Lift Lift.A9
theorem own:ownKnob Tryz.prog.godebug=Option.none:=by kernel_rfl
theorem bulky {H:Type}:Bulky (H:=H) Rows.uptoBulk Rows.uptoBulkAll where
  lit:=fun l=>by cases l<;>simp[Rows.uptoBulk]
  str:=fun s=>by simp[Rows.uptoBulk]
  nil:=by simp[Rows.uptoBulk]
  slice:=fun a b=>by simp[Rows.uptoBulk]
  agg:=fun a=>by simp[Rows.uptoBulk]
  cons:=fun d r=>by simp[Rows.uptoBulkAll]
def ts:List TypeId:=[3,9,22,23,25,52,54,85,87,89]
theorem fits:∀ T∈ts,tyFits Lift.H2.kk ts (fun _=>0) T=true:=List.all_eq_true.1 (show ts.all (fun T=>tyFits Lift.H2.kk ts (fun _=>0) T)=true by kernel_rfl)
theorem makes:∀ T∈ts,∀ n,Lift.H2.kk.tyOf T=some (.st n)→∀ cs,cs.map TV.t=Lift.H2.kk.u.ctys n→∃ x,Lift.H2.kk.u.make n cs=some x:=by
  intro T hT n hn cs hcs;simp only[ts,List.mem_cons,List.not_mem_nil,or_false] at hT;rcases hT with rfl|rfl|rfl|rfl|rfl|rfl|rfl|rfl|rfl|rfl
  · simp[Lift.H2.tyOf] at hn
  · simp[Lift.H2.tyOf] at hn
  · simp[Lift.H2.tyOf] at hn
  · simp[Lift.H2.tyOf] at hn
  · obtain rfl : 25 = n := by simpa [Lift.H2.tyOf] using hn
    exact Lift.H2.make_25 cs hcs
  · simp[Lift.H2.tyOf] at hn
  · obtain rfl : 54 = n := by simpa [Lift.H2.tyOf] using hn
    exact Lift.H2.make_54 cs hcs
  · simp[Lift.H2.tyOf] at hn
  · obtain rfl : 87 = n := by simpa [Lift.H2.tyOf] using hn
    exact Lift.H2.make_87 cs hcs
  · obtain rfl : 89 = n := by simpa [Lift.H2.tyOf] using hn
    exact Lift.H2.make_89 cs hcs
theorem walk (y0:TUnit) (v0:Value) (w:World) (hg:Lift.H2.globs w) (t0:TRel Lift.H2.kk.u (fun k=>w.heap[k]?) ⟨.st 25,y0⟩ v0) (s0:Sized Lift.H2.kk.u ⟨.st 25,y0⟩ 1048576):Calls Tryz.prog 3 #[v0] w fun e w'=>e=.returned (.bool true)∧Below w.heap.size w w':=by
  refine bool_of_postV (K:=Lift.H2.kk) (V:=Lift.H2.env0) hg (room_of hg) (o:=⟨⟨[0],[],[]⟩,[.t .bool],[]⟩) (args:=[v0]) (Lift.H2.qaS_post [⟨.st 25,y0⟩] 0 [⟨.bool,true⟩] ?_) rfl rfl rfl ⟨_,_,rfl,t0,rfl⟩;show (Tr.get (Lift.Fn.qaS y0) _).val=_;rw[Lift.A9.asmLowers2 y0 (Lift.A9.small y0 s0)];rfl
set_option maxRecDepth 100000 in
theorem contract (H:Type) (enc:TypeId×Value→H) (W:World) (base:Nat) (args:Array Value) (ds gs:List (DataW H)) (before:List MemPlace)
    (hval:∀ (j:Nat) t v,Tryz.f3.params[j]? = some t→args[j]? = some v→Value.okWide Tryz.prog W .any base t v)
    (hW:DataW.Whole enc Tryz.prog Tryz.f3.params.toList Rows.asmLowersSpec.vars false W args.toList ds gs before) (hk:Rows.uptoSmall H (ds++gs)=true) (hg:Lift.H2.globs W) :
    Calls Tryz.prog 3 args W fun e W'=>∃ v,e=.returned v∧Rows.asmLowersSpec.post enc Tryz.prog Tryz.f3 false true false false W args v W':=by
  have hW':=hW;obtain ⟨p,q,hA0,hV,rfl,hfz,hnd⟩:=hW;have hA:DataW.TrodAll enc Tryz.prog W 0 (fun _=>true) true Tryz.f3.params.toList args.toList ds p:=hA0;rw[Tryz.params3] at hA hval;obtain ⟨v0,d0,rfl,rfl,h0⟩:=trodAll_one hA;obtain ⟨rfl,rfl⟩:=trodVars_none hV;have hb:Rows.uptoBulkAll ([d0]++([]:List (DataW H)))≤1048576:=of_decide_eq_true hk;simp only[List.cons_append,List.nil_append,List.append_nil,Rows.uptoBulkAll] at hb;have l0:∀ x∈p,x.block<W.heap.size:=fun x hx=>by simpa using hW'.lt x (by simp[hx])
  obtain ⟨y0,t0,⟨a0,s0,b0⟩,_⟩:=open_arg (K:=Lift.H2.kk) (wt:=fun _=>0) (bulk:=Rows.uptoBulk) bulky fits makes (T:=25) (by decide) (ty:=.st 25) (by kernel_rfl) (hval 0 25 v0 rfl rfl) h0;clear hA0;simp only[List.append_nil] at hW';refine (walk y0 v0 W hg t0 (s0.le (by omega))).mono fun e W' ⟨he,hbl⟩=>?_
  subst he;exact ⟨_,rfl,_,_,_,[],_,[],hW',trodAll_mk1 (shut_bool Tryz.underlying4 _),trodAll_mk1 (Below.trod (by kernel_rfl) (by kernel_rfl) (of_decide_eq_true (by kernel_rfl)) h0 hbl l0),rfl,hbl.frame _,fun h=>by cases h⟩
noncomputable def laidWorld (os:Os):World:=World.laidAll Tryz.prog os Rows.asmLowersUptoRow.laid
theorem laid_met (os:Os):laidMet Tryz.prog Rows.asmLowersUptoRow.laid ((laidWorld os).forCall (fun _ _=>0) ⟨#[],#[.agg #[.slice Option.none 0 0,.int .i64 0,.slice Option.none 0 0]],[]⟩).memory:=
  laidMet_laidAll _ (by kernel_rfl) (by kernel_rfl)
theorem reads (os:Os) {H:Type} (enc:TypeId×Value→H):∃ places,DataW.whole enc Tryz.prog ((laidWorld os).forCall (fun _ _=>0) ⟨#[],#[.agg #[.slice Option.none 0 0,.int .i64 0,.slice Option.none 0 0]],[]⟩).memory Tryz.f3.params.toList Rows.asmLowersSpec.vars false #[.agg #[.slice Option.none 0 0,.int .i64 0,.slice Option.none 0 0]].toList 8=some ([.agg [.nil,.lit (.int .i64 0),.nil]],[],places):=
  ⟨[],by kernel_rfl⟩
set_option maxRecDepth 100000 in
theorem lifted (os:Os) (started:os.Started) (H:Type) (enc:TypeId×Value→H) (F:Stop.Interp) :
    ReturnsInHanded {} Tryz.checked os 3 .any ((Rows.OpenSpec.upto Rows.asmLowersSpec).preRow enc Tryz.prog Tryz.f3 Rows.asmLowersUptoRow.domain false Rows.asmLowersUptoRow.laid) (((Rows.OpenSpec.upto Rows.asmLowersSpec).at F).post enc Tryz.prog Tryz.f3 false true false false):=by
  obtain ⟨places,hx⟩:=reads os enc
  refine returnsInHanded_of_row (C := Tryz.checked) (s := Rows.OpenSpec.upto Rows.asmLowersSpec) own started (by kernel_rfl) Tryz.func3
    (witness_row_atRef (enc := enc) (C := Tryz.checked) false (laidWorld os) #[.agg #[.slice Option.none 0 0, .int .i64 0, .slice Option.none 0 0]] rfl (by kernel_rfl) (by kernel_rfl) (by kernel_rfl)
      (OpenSpec.preRow_of_cond 8 hx (by kernel_rfl) (fun k hk=>by cases hk; kernel_rfl) (by kernel_rfl) (laid_met os))) ?_
  intro W base args ds gs before hval hW _ hcond _ hL hS _;exact contract H enc W base args ds gs before hval hW (hcond _ rfl) (globs_of hL hS)
theorem said:Rows.AsmLowersUptoSaid:=
  OpenClaim.holds_of_cond 3 Tryz.f3 rfl rfl rfl rfl rfl rfl rfl ⟨rfl, rfl, rfl, rfl, rfl⟩ rfl rfl rfl rfl rfl (by kernel_rfl) Tryz.func3 (by kernel_rfl)
    (of_decide_eq_true (by kernel_rfl)) (by unfold Func.isWrapper; first|(rw[if_pos (by decide +kernel)]; kernel_rfl)|(rw[if_neg (by decide +kernel)]; exact ⟨rfl,rfl⟩))
    (fun os started H enc _ F=>by rw[OpenClaim.pre_eq_preRow]; exact lifted os started H enc F)
theorem plain (f : FuncId) (fn : Func) (hf : Tryz.pinned.checked.prog.funcNamed "racetree/racetreelaw10.AsmLowers" = some f) (hfn : Tryz.pinned.checked.prog.funcs[f]? = some fn) :
    true=Tryz.pinned.checked.prog.looks []∧∀ (j:Nat) t,fn.params[j]? = some t→Tryz.pinned.checked.prog.wantsStandIn t=false:=by
  obtain rfl : f = 3 := Option.some.inj ((show Tryz.prog.funcNamed "racetree/racetreelaw10.AsmLowers" = some 3 by kernel_rfl).symm.trans hf) |>.symm
  obtain rfl:fn=Tryz.f3:=(Option.some.inj (Tryz.func3.symm.trans hfn)).symm;refine ⟨by kernel_rfl,fun j t ht=>?_⟩;rw[Tryz.params3] at ht;have hm:=Array.mem_of_getElem? ht;simp only[List.mem_toArray,List.mem_cons,List.not_mem_nil,or_false] at hm;rcases hm with rfl
  · exact (show Tryz.prog.wantsStandIn 25=false by kernel_rfl)
end Go.Proofs.YtekhknlanlbncaaGreatDoor.asmLowers
namespace Go.Proofs.YtekhknlanlbncaaGreatDoor
theorem asmLowers_card:Rows.AsmLowersUptoCardSaid:=
  Claim7.holds_tied_plain_at .later [] _ _ _ _ asmLowers.said (fun _ h=>by cases h) (by kernel_rfl) (fun _ h=>by cases h) asmLowersUpto_row_tie rfl ⟨rfl,rfl⟩ (by kernel_rfl) rfl asmLowers.plain (by kernel_rfl)
#print axioms asmLowers_card
end Go.Proofs.YtekhknlanlbncaaGreatDoor
