/-
  DERIVED. 'ShowWritesUptoCardSaid', THE GIVEN STATEMENT (THE TIED CARD), PROVED: of every program within the bound the law returns true, and what it was given reads as before.
  Conditions: the statement's own bound.
-/
import Derived.Test.YtcmhkcpheehlhaaGreatDoorCards
import Derived.Test.YtcmhkcpheehlhaaGreatDoorTie
import Derived.ProofKit
import Derived.OpenShut
import Derived.JoinedCond
import Derived.Deep.DeepHandedRow
import Derived.Deep.DeepWitnessRowRef
import Derived.Lay
import Derived.SevenTiedAt
import Derived.MakeChecks
import Derived.Test.YtcmhkcpheehlhaaGreatDoorEnds
set_option linter.unusedVariables false
set_option linter.unusedSimpArgs false
namespace Go.Proofs.YtcmhkcpheehlhaaGreatDoor.showWrites
open Go.ChangeShapes Go.WideShapes Go.ChangeAt Go.RowKit Lift Lift.A4
theorem own:ownKnob Tryz.prog.godebug=Option.none:=by kernel_rfl
theorem bulky {H:Type}:Bulky (H:=H) Rows.uptoBulk Rows.uptoBulkAll where
  lit:=fun l=>by cases l<;>simp[Rows.uptoBulk]
  str:=fun s=>by simp[Rows.uptoBulk]
  nil:=by simp[Rows.uptoBulk]
  slice:=fun a b=>by simp[Rows.uptoBulk]
  agg:=fun a=>by simp[Rows.uptoBulk]
  cons:=fun d r=>by simp[Rows.uptoBulkAll]
def ts:List TypeId:=[3,9,23,24,25,27,44,46,48,50,52,62]
theorem fits:∀ T∈ts,tyFits Lift.Q4.kk ts (fun _=>0) T=true:=List.all_eq_true.1 (show ts.all (fun T=>tyFits Lift.Q4.kk ts (fun _=>0) T)=true by kernel_rfl)
theorem makes:∀ T∈ts,∀ n,Lift.Q4.kk.tyOf T=some (.st n)→∀ cs,cs.map TV.t=Lift.Q4.kk.u.ctys n→∃ x,Lift.Q4.kk.u.make n cs=some x:=by
  intro T hT n hn cs hcs;simp only[ts,List.mem_cons,List.not_mem_nil,or_false] at hT;rcases hT with rfl|rfl|rfl|rfl|rfl|rfl|rfl|rfl|rfl|rfl|rfl|rfl
  · simp[Lift.Q4.tyOf] at hn
  · simp[Lift.Q4.tyOf] at hn
  · simp[Lift.Q4.tyOf] at hn
  · simp[Lift.Q4.tyOf] at hn
  · simp[Lift.Q4.tyOf] at hn
  · obtain rfl : 27 = n := by simpa [Lift.Q4.tyOf] using hn
    exact Lift.Q4.make_27 cs hcs
  · simp[Lift.Q4.tyOf] at hn
  · obtain rfl : 46 = n := by simpa [Lift.Q4.tyOf] using hn
    exact Lift.Q4.make_46 cs hcs
  · simp[Lift.Q4.tyOf] at hn
  · obtain rfl : 50 = n := by simpa [Lift.Q4.tyOf] using hn
    exact Lift.Q4.make_50 cs hcs
  · obtain rfl : 52 = n := by simpa [Lift.Q4.tyOf] using hn
    exact Lift.Q4.make_52 cs hcs
  · obtain rfl : 62 = n := by simpa [Lift.Q4.tyOf] using hn
    exact Lift.Q4.make_62 cs hcs
theorem walk (y0:TProg) (v0:Value) (w:World) (hg:Lift.Q4.globs w) (t0:TRel Lift.Q4.kk.u (fun k=>w.heap[k]?) ⟨.st 27,y0⟩ v0) (s0:Sized Lift.Q4.kk.u ⟨.st 27,y0⟩ 1048576):Calls Tryz.prog 7 #[v0] w fun e w'=>e=.returned (.bool true)∧Below w.heap.size w w':=by
  refine bool_of_postV (K:=Lift.Q4.kk) (V:=Lift.Q4.env0) hg (room_of hg) (o:=⟨⟨[0],[],[]⟩,[.t .bool],[]⟩) (args:=[v0]) (Lift.Q4.qar_post [⟨.st 27,y0⟩] 0 [⟨.bool,true⟩] ?_) rfl rfl rfl ⟨_,_,rfl,t0,rfl⟩;show (Tr.get (Lift.Fn.qar y0) _).val=_;rw[Lift.A4.showWrites1 y0 (Lift.A4.small y0 s0)];rfl
set_option maxRecDepth 100000 in
theorem contract (H:Type) (enc:TypeId×Value→H) (W:World) (base:Nat) (args:Array Value) (ds gs:List (DataW H)) (before:List MemPlace)
    (hval:∀ (j:Nat) t v,Tryz.f7.params[j]? = some t→args[j]? = some v→Value.okWide Tryz.prog W .any base t v)
    (hW:DataW.Whole enc Tryz.prog Tryz.f7.params.toList Rows.showWritesSpec.vars false W args.toList ds gs before) (hk:Rows.uptoSmall H (ds++gs)=true) (hg:Lift.Q4.globs W) :
    Calls Tryz.prog 7 args W fun e W'=>∃ v,e=.returned v∧Rows.showWritesSpec.post enc Tryz.prog Tryz.f7 false true false false W args v W':=by
  have hW':=hW;obtain ⟨p,q,hA0,hV,rfl,hfz,hnd⟩:=hW;have hA:DataW.TrodAll enc Tryz.prog W 0 (fun _=>true) true Tryz.f7.params.toList args.toList ds p:=hA0;rw[Tryz.params7] at hA hval;obtain ⟨v0,d0,rfl,rfl,h0⟩:=trodAll_one hA;obtain ⟨rfl,rfl⟩:=trodVars_none hV;have hb:Rows.uptoBulkAll ([d0]++([]:List (DataW H)))≤1048576:=of_decide_eq_true hk;simp only[List.cons_append,List.nil_append,List.append_nil,Rows.uptoBulkAll] at hb;have l0:∀ x∈p,x.block<W.heap.size:=fun x hx=>by simpa using hW'.lt x (by simp[hx])
  obtain ⟨y0,t0,⟨a0,s0,b0⟩,_⟩:=open_arg (K:=Lift.Q4.kk) (wt:=fun _=>0) (bulk:=Rows.uptoBulk) bulky fits makes (T:=27) (by decide) (ty:=.st 27) (by kernel_rfl) (hval 0 27 v0 rfl rfl) h0;clear hA0;simp only[List.append_nil] at hW';refine (walk y0 v0 W hg t0 (s0.le (by omega))).mono fun e W' ⟨he,hbl⟩=>?_
  subst he;exact ⟨_,rfl,_,_,_,[],_,[],hW',trodAll_mk1 (shut_bool Tryz.underlying4 _),trodAll_mk1 (Below.trod (by kernel_rfl) (by kernel_rfl) (of_decide_eq_true (by kernel_rfl)) h0 hbl l0),rfl,hbl.frame _,fun h=>by cases h⟩
noncomputable def laidWorld (os:Os):World:=World.laidAll Tryz.prog os Rows.showWritesUptoRow.laid
theorem laid_met (os:Os):laidMet Tryz.prog Rows.showWritesUptoRow.laid ((laidWorld os).forCall (fun _ _=>0) ⟨#[],#[.agg #[.slice Option.none 0 0,.slice Option.none 0 0,.slice Option.none 0 0]],[]⟩).memory:=
  laidMet_laidAll _ (by kernel_rfl) (by kernel_rfl)
theorem reads (os:Os) {H:Type} (enc:TypeId×Value→H):∃ places,DataW.whole enc Tryz.prog ((laidWorld os).forCall (fun _ _=>0) ⟨#[],#[.agg #[.slice Option.none 0 0,.slice Option.none 0 0,.slice Option.none 0 0]],[]⟩).memory Tryz.f7.params.toList Rows.showWritesSpec.vars false #[.agg #[.slice Option.none 0 0,.slice Option.none 0 0,.slice Option.none 0 0]].toList 8=some ([.agg [.nil,.nil,.nil]],[],places):=
  ⟨[],by kernel_rfl⟩
set_option maxRecDepth 100000 in
theorem lifted (os:Os) (started:os.Started) (H:Type) (enc:TypeId×Value→H) (F:Stop.Interp) :
    ReturnsInHanded {} Tryz.checked os 7 .any ((Rows.OpenSpec.upto Rows.showWritesSpec).preRow enc Tryz.prog Tryz.f7 Rows.showWritesUptoRow.domain false Rows.showWritesUptoRow.laid) (((Rows.OpenSpec.upto Rows.showWritesSpec).at F).post enc Tryz.prog Tryz.f7 false true false false):=by
  obtain ⟨places,hx⟩:=reads os enc
  refine returnsInHanded_of_row (C := Tryz.checked) (s := Rows.OpenSpec.upto Rows.showWritesSpec) own started (by kernel_rfl) Tryz.func7
    (witness_row_atRef (enc := enc) (C := Tryz.checked) false (laidWorld os) #[.agg #[.slice Option.none 0 0, .slice Option.none 0 0, .slice Option.none 0 0]] rfl (by kernel_rfl) (by kernel_rfl) (by kernel_rfl)
      (OpenSpec.preRow_of_cond 8 hx (by kernel_rfl) (fun k hk=>by cases hk; kernel_rfl) (by kernel_rfl) (laid_met os))) ?_
  intro W base args ds gs before hval hW _ hcond _ hL hS _;exact contract H enc W base args ds gs before hval hW (hcond _ rfl) (globs_of hL hS)
theorem said:Rows.ShowWritesUptoSaid:=
  OpenClaim.holds_of_cond 7 Tryz.f7 rfl rfl rfl rfl rfl rfl rfl ⟨rfl, rfl, rfl, rfl, rfl⟩ rfl rfl rfl rfl rfl (by kernel_rfl) Tryz.func7 (by kernel_rfl)
    (of_decide_eq_true (by kernel_rfl)) (by unfold Func.isWrapper; first|(rw[if_pos (by decide +kernel)]; kernel_rfl)|(rw[if_neg (by decide +kernel)]; exact ⟨rfl,rfl⟩))
    (fun os started H enc _ F=>by rw[OpenClaim.pre_eq_preRow]; exact lifted os started H enc F)
theorem plain (f : FuncId) (fn : Func) (hf : Tryz.pinned.checked.prog.funcNamed "racetree/racetreelaw05.ShowWrites" = some f) (hfn : Tryz.pinned.checked.prog.funcs[f]? = some fn) :
    true=Tryz.pinned.checked.prog.looks []∧∀ (j:Nat) t,fn.params[j]? = some t→Tryz.pinned.checked.prog.wantsStandIn t=false:=by
  obtain rfl : f = 7 := Option.some.inj ((show Tryz.prog.funcNamed "racetree/racetreelaw05.ShowWrites" = some 7 by kernel_rfl).symm.trans hf) |>.symm
  obtain rfl:fn=Tryz.f7:=(Option.some.inj (Tryz.func7.symm.trans hfn)).symm;refine ⟨by kernel_rfl,fun j t ht=>?_⟩;rw[Tryz.params7] at ht;have hm:=Array.mem_of_getElem? ht;simp only[List.mem_toArray,List.mem_cons,List.not_mem_nil,or_false] at hm;rcases hm with rfl
  · exact (show Tryz.prog.wantsStandIn 27=false by kernel_rfl)
end Go.Proofs.YtcmhkcpheehlhaaGreatDoor.showWrites
namespace Go.Proofs.YtcmhkcpheehlhaaGreatDoor
theorem showWrites_card:Rows.ShowWritesUptoCardSaid:=
  Claim7.holds_tied_plain_at .later [] _ _ _ _ showWrites.said (fun _ h=>by cases h) (by kernel_rfl) (fun _ h=>by cases h) showWritesUpto_row_tie rfl ⟨rfl,rfl⟩ (by kernel_rfl) rfl showWrites.plain (by kernel_rfl)
#print axioms showWrites_card
end Go.Proofs.YtcmhkcpheehlhaaGreatDoor
