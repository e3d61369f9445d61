/-
  DERIVED. 'ParseRightUptoCardSaid', THE GIVEN STATEMENT (THE TIED CARD), PROVED: of every text and two numbers within the bound the law returns true, and what it was given reads as before.
  Conditions: the statement's own bound.
-/
import Derived.Test.YtcmhkcpheehlhaaGreatDoorCards
import Derived.Test.YtcmhkcpheehlhaaGreatDoorTie
import Derived.ProofKit
import Derived.OpenShut
import Derived.JoinedCond
import Derived.Deep.DeepHandedRow
import Derived.Deep.DeepWitnessRowRef
import Derived.Lay
import Derived.SevenTiedAt
import Derived.MakeChecks
import Derived.Test.YtcmhkcpheehlhaaGreatDoorEnds
set_option linter.unusedVariables false
set_option linter.unusedSimpArgs false
set_option linter.unusedSectionVars false
namespace Go.Proofs.YtcmhkcpheehlhaaGreatDoor.parseRight
open Go.ChangeShapes Go.WideShapes Go.ChangeAt Go.RowKit Lift Lift.A4
theorem own:ownKnob Tryz.prog.godebug=Option.none:=by kernel_rfl
theorem bulky {H:Type}:Bulky (H:=H) Rows.uptoBulk Rows.uptoBulkAll where
  lit:=fun l=>by cases l<;>simp[Rows.uptoBulk]
  str:=fun s=>by simp[Rows.uptoBulk]
  nil:=by simp[Rows.uptoBulk]
  slice:=fun a b=>by simp[Rows.uptoBulk]
  agg:=fun a=>by simp[Rows.uptoBulk]
  cons:=fun d r=>by simp[Rows.uptoBulkAll]
def ts:List TypeId:=[3,9]
theorem fits:∀ T∈ts,tyFits Lift.Q5.kk ts (fun _=>0) T=true:=qy.1 (show ts.all (fun T=>tyFits Lift.Q5.kk ts (fun _=>0) T)=true by kernel_rfl)
theorem makes:∀ T∈ts,∀ n,Lift.Q5.kk.tyOf T=some (.st n)->∀ cs,cs.map TV.t=Lift.Q5.kk.u.ctys n->∃ x,Lift.Q5.kk.u.make n cs=some x:=by
  intro T hT n hn cs hcs;simp only[ts,List.mem_cons,List.not_mem_nil,or_false] at hT;rcases hT with rfl|rfl
  · simp[Lift.Q5.tyOf] at hn
  · simp[Lift.Q5.tyOf] at hn
theorem walk (y0:List UInt8) (v0:Value) (y1:Int) (v1:Value) (y2:Int) (v2:Value) (w:World) (hg:Lift.Q5.globs w) (t0:TRel Lift.Q5.kk.u (fun k=>w.heap[k]?) ⟨.str,y0⟩ v0) (t1:TRel Lift.Q5.kk.u (fun k=>w.heap[k]?) ⟨.int .i64,y1⟩ v1) (t2:TRel Lift.Q5.kk.u (fun k=>w.heap[k]?) ⟨.int .i64,y2⟩ v2) (s0:Sized Lift.Q5.kk.u ⟨.str,y0⟩ 1048576) (s1:Sized Lift.Q5.kk.u ⟨.int .i64,y1⟩ 1048576) (s2:Sized Lift.Q5.kk.u ⟨.int .i64,y2⟩ 1048576):Calls Tryz.prog 6 #[v0,v1,v2] w fun e w'=>e=.returned (.bool true)/\Below w.heap.size w w':=by
  refine bool_of_postV (K:=Lift.Q5.kk) (V:=Lift.Q5.env0) hg (room_of hg) (o:=⟨⟨[0],[],[]⟩,[.t .bool],[]⟩) (args:=[v0,v1,v2]) (Lift.Q5.qaH_post [⟨.str,y0⟩,⟨.int .i64,y1⟩,⟨.int .i64,y2⟩] 0 [⟨.bool,true⟩] ?_) rfl rfl rfl ⟨_,_,rfl,t0,⟨_,_,rfl,t1,⟨_,_,rfl,t2,rfl⟩⟩⟩;show (Tr.get (Lift.Fn.qaH y0 y1 y2) _).val=_;rw[Lift.A4.parseRight1 y0 y1 y2];rfl
set_option maxRecDepth 100000 in
theorem contract (H:Type) (enc:TypeId×Value->H) (W:World) (base:Nat) (args:Array Value) (ds gs:List (DataW H)) (before:List MemPlace)
    (hval:∀ (j:Nat) t v,Tryz.f6.params[j]? = some t->args[j]? = some v->Value.okWide Tryz.prog W .any base t v)
    (hW:DataW.Whole enc Tryz.prog Tryz.f6.params.toList Rows.parseRightSpec.vars false W args.toList ds gs before) (hk:Rows.uptoSmall H (ds++gs)=true) (hg:Lift.Q5.globs W) :
    Calls Tryz.prog 6 args W fun e W'=>∃ v,e=.returned v/\Rows.parseRightSpec.post enc Tryz.prog Tryz.f6 false true false false W args v W':=by
  have hW':=hW;obtain ⟨p,q,hA0,hV,rfl,hfz,hnd⟩:=hW;have hA:DataW.TrodAll enc Tryz.prog W 0 (fun _=>true) true Tryz.f6.params.toList args.toList ds p:=hA0;rw[Tryz.params6] at hA hval;obtain ⟨v0,v1,v2,d0,d1,d2,p0,p1,p2,rfl,rfl,rfl,h0,h1,h2⟩:=trodAll_three hA;obtain ⟨rfl,rfl⟩:=trodVars_none hV;have hb:Rows.uptoBulkAll ([d0,d1,d2]++([]:List (DataW H)))<=1048576:=of_decide_eq_true hk;simp only[qp,qu,xj,Rows.uptoBulkAll] at hb;have l0:∀ x∈p0,x.block<W.heap.size:=fun x hx=>by simpa using hW'.lt x (by simp[hx])
  obtain ⟨y0,t0,⟨a0,s0,b0⟩,_⟩:=open_arg (K:=Lift.Q5.kk) (wt:=fun _=>0) (bulk:=Rows.uptoBulk) bulky fits makes (T:=9) (by decide) (ty:=.str) (by kernel_rfl) (hval 0 9 v0 rfl rfl) h0;have l1:∀ x∈p1,x.block<W.heap.size:=fun x hx=>by simpa using hW'.lt x (by simp[hx])
  obtain ⟨y1,t1,⟨a1,s1,b1⟩,_⟩:=open_arg (K:=Lift.Q5.kk) (wt:=fun _=>0) (bulk:=Rows.uptoBulk) bulky fits makes (T:=3) (by decide) (ty:=.int .i64) (by kernel_rfl) (hval 1 3 v1 rfl rfl) h1;have l2:∀ x∈p2,x.block<W.heap.size:=fun x hx=>by simpa using hW'.lt x (by simp[hx])
  obtain ⟨y2,t2,⟨a2,s2,b2⟩,_⟩:=open_arg (K:=Lift.Q5.kk) (wt:=fun _=>0) (bulk:=Rows.uptoBulk) bulky fits makes (T:=3) (by decide) (ty:=.int .i64) (by kernel_rfl) (hval 2 3 v2 rfl rfl) h2;clear hA0;simp only[xj] at hW';refine (walk y0 v0 y1 v1 y2 v2 W hg t0 t1 t2 (s0.le (by omega)) (s1.le (by omega)) (s2.le (by omega))).mono fun e W' ⟨he,hbl⟩=>?_
  subst he;exact ⟨_,rfl,_,_,_,[],_,[],hW',trodAll_mk1 (shut_bool Tryz.underlying4 _),trodAll_mk3 (Below.trod (by kernel_rfl) (by kernel_rfl) (of_decide_eq_true (by kernel_rfl)) h0 hbl l0) (Below.trod (by kernel_rfl) (by kernel_rfl) (of_decide_eq_true (by kernel_rfl)) h1 hbl l1) (Below.trod (by kernel_rfl) (by kernel_rfl) (of_decide_eq_true (by kernel_rfl)) h2 hbl l2),rfl,hbl.frame _,fun h=>by cases h⟩
noncomputable def laidWorld (os:Os):World:=World.laidAll Tryz.prog os Rows.parseRightUptoRow.laid
theorem laid_met (os:Os):laidMet Tryz.prog Rows.parseRightUptoRow.laid ((laidWorld os).forCall (fun _ _=>0) ⟨#[],#[.string ⟨#[]⟩,.int .i64 0,.int .i64 0],[]⟩).memory:=
  laidMet_laidAll _ (by kernel_rfl) (by kernel_rfl)
theorem reads (os:Os) {H:Type} (enc:TypeId×Value->H):∃ places,DataW.whole enc Tryz.prog ((laidWorld os).forCall (fun _ _=>0) ⟨#[],#[.string ⟨#[]⟩,.int .i64 0,.int .i64 0],[]⟩).memory Tryz.f6.params.toList Rows.parseRightSpec.vars false #[.string ⟨#[]⟩,.int .i64 0,.int .i64 0].toList 8=some ([.lit (.string []),.lit (.int .i64 0),.lit (.int .i64 0)],[],places):=
  ⟨[],by kernel_rfl⟩
set_option maxRecDepth 100000 in
theorem lifted (os:Os) (started:os.Started) (H:Type) (enc:TypeId×Value->H) (F:Stop.Interp) :
    ReturnsInHanded {} Tryz.checked os 6 .any ((Rows.OpenSpec.upto Rows.parseRightSpec).preRow enc Tryz.prog Tryz.f6 Rows.parseRightUptoRow.domain false Rows.parseRightUptoRow.laid) (((Rows.OpenSpec.upto Rows.parseRightSpec).at F).post enc Tryz.prog Tryz.f6 false true false false):=by
  obtain ⟨places,hx⟩:=reads os enc
  refine returnsInHanded_of_row (C := Tryz.checked) (s := Rows.OpenSpec.upto Rows.parseRightSpec) own started (by kernel_rfl) Tryz.func6
    (witness_row_atRef (enc := enc) (C := Tryz.checked) false (laidWorld os) #[.string ⟨#[]⟩, .int .i64 0, .int .i64 0] rfl (by kernel_rfl) (by kernel_rfl) (by kernel_rfl)
      (OpenSpec.preRow_of_cond 8 hx (by kernel_rfl) (fun k hk=>by cases hk; kernel_rfl) (by kernel_rfl) (laid_met os))) ?_
  intro W base args ds gs before hval hW _ hcond _ hL hS _;exact contract H enc W base args ds gs before hval hW (hcond _ rfl) (globs_of hL hS)
theorem said:Rows.ParseRightUptoSaid:=
  OpenClaim.holds_of_cond 6 Tryz.f6 rfl rfl rfl rfl rfl rfl rfl ⟨rfl, rfl, rfl, rfl, rfl⟩ rfl rfl rfl rfl rfl (by kernel_rfl) Tryz.func6 (by kernel_rfl)
    (of_decide_eq_true (by kernel_rfl)) (by unfold Func.isWrapper; first|(rw[if_pos (by decide +kernel)]; kernel_rfl)|(rw[if_neg (by decide +kernel)]; exact ⟨rfl,rfl⟩))
    (fun os started H enc _ F=>by rw[OpenClaim.pre_eq_preRow]; exact lifted os started H enc F)
theorem plain (f : FuncId) (fn : Func) (hf : Tryz.pinned.checked.prog.funcNamed "racetree/racetreelaw04.ParseRight" = some f) (hfn : Tryz.pinned.checked.prog.funcs[f]? = some fn) :
    true=Tryz.pinned.checked.prog.looks []/\∀ (j:Nat) t,fn.params[j]? = some t->Tryz.pinned.checked.prog.wantsStandIn t=false:=by
  obtain rfl : f = 6 := Option.some.inj ((show Tryz.prog.funcNamed "racetree/racetreelaw04.ParseRight" = some 6 by kernel_rfl).symm.trans hf) |>.symm
  obtain rfl:fn=Tryz.f6:=(Option.some.inj (Tryz.func6.symm.trans hfn)).symm;refine ⟨by kernel_rfl,fun j t ht=>?_⟩;rw[Tryz.params6] at ht;have hm:=Array.mem_of_getElem? ht;simp only[List.mem_toArray,List.mem_cons,List.not_mem_nil,or_false] at hm;rcases hm with rfl|rfl|rfl
  · exact (show Tryz.prog.wantsStandIn 9=false by kernel_rfl)
  · exact (show Tryz.prog.wantsStandIn 3=false by kernel_rfl)
  · exact (show Tryz.prog.wantsStandIn 3=false by kernel_rfl)
end Go.Proofs.YtcmhkcpheehlhaaGreatDoor.parseRight
namespace Go.Proofs.YtcmhkcpheehlhaaGreatDoor
theorem parseRight_card:Rows.ParseRightUptoCardSaid:=
  Claim7.holds_tied_plain_at .later [] _ _ _ _ parseRight.said (fun _ h=>by cases h) (by kernel_rfl) (fun _ h=>by cases h) parseRightUpto_row_tie rfl ⟨rfl,rfl⟩ (by kernel_rfl) rfl parseRight.plain (by kernel_rfl)
#print axioms parseRight_card
end Go.Proofs.YtcmhkcpheehlhaaGreatDoor
