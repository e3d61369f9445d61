/-
  DERIVED. 'ParseBlanksUptoCardSaid', THE GIVEN STATEMENT (THE TIED CARD), PROVED: of every text and number within the bound the law returns true, and what it was given reads as before.
  Conditions: the statement's own bound.
-/
import Derived.Test.YtcmhkcpheehlhaaGreatDoorCards
import Derived.Test.YtcmhkcpheehlhaaGreatDoorTie
import Derived.ProofKit
import Derived.OpenShut
import Derived.JoinedCond
import Derived.Deep.DeepHandedRow
import Derived.Deep.DeepWitnessRowRef
import Derived.Lay
import Derived.SevenTiedAt
import Derived.MakeChecks
import Derived.Test.YtcmhkcpheehlhaaGreatDoorEnds
set_option linter.unusedVariables false
set_option linter.unusedSimpArgs false
namespace Go.Proofs.YtcmhkcpheehlhaaGreatDoor.parseBlanks
open Go.ChangeShapes Go.WideShapes Go.ChangeAt Go.RowKit Lift Lift.A4
theorem own:ownKnob Tryz.prog.godebug=Option.none:=by kernel_rfl
theorem bulky {H:Type}:Bulky (H:=H) Rows.uptoBulk Rows.uptoBulkAll where
  lit:=fun l=>by cases l<;>simp[Rows.uptoBulk]
  str:=fun s=>by simp[Rows.uptoBulk]
  nil:=by simp[Rows.uptoBulk]
  slice:=fun a b=>by simp[Rows.uptoBulk]
  agg:=fun a=>by simp[Rows.uptoBulk]
  cons:=fun d r=>by simp[Rows.uptoBulkAll]
def ts:List TypeId:=[3,9]
theorem fits:∀ T∈ts,tyFits Lift.P4.kk ts (fun _=>0) T=true:=List.all_eq_true.1 (show ts.all (fun T=>tyFits Lift.P4.kk ts (fun _=>0) T)=true by kernel_rfl)
theorem makes:∀ T∈ts,∀ n,Lift.P4.kk.tyOf T=some (.st n)→∀ cs,cs.map TV.t=Lift.P4.kk.u.ctys n→∃ x,Lift.P4.kk.u.make n cs=some x:=by
  intro T hT n hn cs hcs;simp only[ts,List.mem_cons,List.not_mem_nil,or_false] at hT;rcases hT with rfl|rfl
  · simp[Lift.P4.tyOf] at hn
  · simp[Lift.P4.tyOf] at hn
theorem walk (y0:List UInt8) (v0:Value) (y1:Int) (v1:Value) (w:World) (hg:Lift.P4.globs w) (t0:TRel Lift.P4.kk.u (fun k=>w.heap[k]?) ⟨.str,y0⟩ v0) (t1:TRel Lift.P4.kk.u (fun k=>w.heap[k]?) ⟨.int .i64,y1⟩ v1) (q1:(Lit.int .i64 y1).wf=true) (s0:Sized Lift.P4.kk.u ⟨.str,y0⟩ 1048576) (s1:Sized Lift.P4.kk.u ⟨.int .i64,y1⟩ 1048576):Calls Tryz.prog 4 #[v0,v1] w fun e w'=>e=.returned (.bool true)∧Below w.heap.size w w':=by
  refine bool_of_postV (K:=Lift.P4.kk) (V:=Lift.P4.env0) hg (room_of hg) (o:=⟨⟨[0],[],[]⟩,[.t .bool],[]⟩) (args:=[v0,v1]) (Lift.P4.qaE_post [⟨.str,y0⟩,⟨.int .i64,y1⟩] 0 [⟨.bool,true⟩] ?_) rfl rfl rfl ⟨_,_,rfl,t0,⟨_,_,rfl,t1,rfl⟩⟩;show (Tr.get (Lift.Fn.qaE y0 y1) _).val=_;rw[Lift.A4.parseBlanks1 y0 y1 (lo_of q1)];rfl
set_option maxRecDepth 100000 in
theorem contract (H:Type) (enc:TypeId×Value→H) (W:World) (base:Nat) (args:Array Value) (ds gs:List (DataW H)) (before:List MemPlace)
    (hval:∀ (j:Nat) t v,Tryz.f4.params[j]? = some t→args[j]? = some v→Value.okWide Tryz.prog W .any base t v)
    (hW:DataW.Whole enc Tryz.prog Tryz.f4.params.toList Rows.parseBlanksSpec.vars false W args.toList ds gs before) (hk:Rows.uptoSmall H (ds++gs)=true) (hg:Lift.P4.globs W) :
    Calls Tryz.prog 4 args W fun e W'=>∃ v,e=.returned v∧Rows.parseBlanksSpec.post enc Tryz.prog Tryz.f4 false true false false W args v W':=by
  have hW':=hW;obtain ⟨p,q,hA0,hV,rfl,hfz,hnd⟩:=hW;have hA:DataW.TrodAll enc Tryz.prog W 0 (fun _=>true) true Tryz.f4.params.toList args.toList ds p:=hA0;rw[Tryz.params4] at hA hval;obtain ⟨v0,v1,d0,d1,p0,p1,rfl,rfl,rfl,h0,h1⟩:=trodAll_two hA;obtain ⟨rfl,rfl⟩:=trodVars_none hV;have hb:Rows.uptoBulkAll ([d0,d1]++([]:List (DataW H)))≤1048576:=of_decide_eq_true hk;simp only[List.cons_append,List.nil_append,List.append_nil,Rows.uptoBulkAll] at hb;have l0:∀ x∈p0,x.block<W.heap.size:=fun x hx=>by simpa using hW'.lt x (by simp[hx])
  obtain ⟨y0,t0,⟨a0,s0,b0⟩,_⟩:=open_arg (K:=Lift.P4.kk) (wt:=fun _=>0) (bulk:=Rows.uptoBulk) bulky fits makes (T:=9) (by decide) (ty:=.str) (by kernel_rfl) (hval 0 9 v0 rfl rfl) h0;have l1:∀ x∈p1,x.block<W.heap.size:=fun x hx=>by simpa using hW'.lt x (by simp[hx])
  obtain ⟨y1,t1,⟨a1,s1,b1⟩,_⟩:=open_arg (K:=Lift.P4.kk) (wt:=fun _=>0) (bulk:=Rows.uptoBulk) bulky fits makes (T:=3) (by decide) (ty:=.int .i64) (by kernel_rfl) (hval 1 3 v1 rfl rfl) h1;clear hA0;simp only[List.append_nil] at hW';refine (walk y0 v0 y1 v1 W hg t0 t1 (Lift.int_range (hval 1 3 v1 rfl rfl) (by kernel_rfl) h1 t1) (s0.le (by omega)) (s1.le (by omega))).mono fun e W' ⟨he,hbl⟩=>?_
  subst he;exact ⟨_,rfl,_,_,_,[],_,[],hW',trodAll_mk1 (shut_bool Tryz.underlying4 _),trodAll_mk2 (Below.trod (by kernel_rfl) (by kernel_rfl) (of_decide_eq_true (by kernel_rfl)) h0 hbl l0) (Below.trod (by kernel_rfl) (by kernel_rfl) (of_decide_eq_true (by kernel_rfl)) h1 hbl l1),rfl,hbl.frame _,fun h=>by cases h⟩
noncomputable def laidWorld (os:Os):World:=World.laidAll Tryz.prog os Rows.parseBlanksUptoRow.laid
theorem laid_met (os:Os):laidMet Tryz.prog Rows.parseBlanksUptoRow.laid ((laidWorld os).forCall (fun _ _=>0) ⟨#[],#[.string ⟨#[]⟩,.int .i64 0],[]⟩).memory:=
  laidMet_laidAll _ (by kernel_rfl) (by kernel_rfl)
theorem reads (os:Os) {H:Type} (enc:TypeId×Value→H):∃ places,DataW.whole enc Tryz.prog ((laidWorld os).forCall (fun _ _=>0) ⟨#[],#[.string ⟨#[]⟩,.int .i64 0],[]⟩).memory Tryz.f4.params.toList Rows.parseBlanksSpec.vars false #[.string ⟨#[]⟩,.int .i64 0].toList 8=some ([.lit (.string []),.lit (.int .i64 0)],[],places):=
  ⟨[],by kernel_rfl⟩
set_option maxRecDepth 100000 in
theorem lifted (os:Os) (started:os.Started) (H:Type) (enc:TypeId×Value→H) (F:Stop.Interp) :
    ReturnsInHanded {} Tryz.checked os 4 .any ((Rows.OpenSpec.upto Rows.parseBlanksSpec).preRow enc Tryz.prog Tryz.f4 Rows.parseBlanksUptoRow.domain false Rows.parseBlanksUptoRow.laid) (((Rows.OpenSpec.upto Rows.parseBlanksSpec).at F).post enc Tryz.prog Tryz.f4 false true false false):=by
  obtain ⟨places,hx⟩:=reads os enc
  refine returnsInHanded_of_row (C := Tryz.checked) (s := Rows.OpenSpec.upto Rows.parseBlanksSpec) own started (by kernel_rfl) Tryz.func4
    (witness_row_atRef (enc := enc) (C := Tryz.checked) false (laidWorld os) #[.string ⟨#[]⟩, .int .i64 0] rfl (by kernel_rfl) (by kernel_rfl) (by kernel_rfl)
      (OpenSpec.preRow_of_cond 8 hx (by kernel_rfl) (fun k hk=>by cases hk; kernel_rfl) (by kernel_rfl) (laid_met os))) ?_
  intro W base args ds gs before hval hW _ hcond _ hL hS _;exact contract H enc W base args ds gs before hval hW (hcond _ rfl) (globs_of hL hS)
theorem said:Rows.ParseBlanksUptoSaid:=
  OpenClaim.holds_of_cond 4 Tryz.f4 rfl rfl rfl rfl rfl rfl rfl ⟨rfl, rfl, rfl, rfl, rfl⟩ rfl rfl rfl rfl rfl (by kernel_rfl) Tryz.func4 (by kernel_rfl)
    (of_decide_eq_true (by kernel_rfl)) (by unfold Func.isWrapper; first|(rw[if_pos (by decide +kernel)]; kernel_rfl)|(rw[if_neg (by decide +kernel)]; exact ⟨rfl,rfl⟩))
    (fun os started H enc _ F=>by rw[OpenClaim.pre_eq_preRow]; exact lifted os started H enc F)
theorem plain (f : FuncId) (fn : Func) (hf : Tryz.pinned.checked.prog.funcNamed "racetree/racetreelaw04.ParseBlanks" = some f) (hfn : Tryz.pinned.checked.prog.funcs[f]? = some fn) :
    true=Tryz.pinned.checked.prog.looks []∧∀ (j:Nat) t,fn.params[j]? = some t→Tryz.pinned.checked.prog.wantsStandIn t=false:=by
  obtain rfl : f = 4 := Option.some.inj ((show Tryz.prog.funcNamed "racetree/racetreelaw04.ParseBlanks" = some 4 by kernel_rfl).symm.trans hf) |>.symm
  obtain rfl:fn=Tryz.f4:=(Option.some.inj (Tryz.func4.symm.trans hfn)).symm;refine ⟨by kernel_rfl,fun j t ht=>?_⟩;rw[Tryz.params4] at ht;have hm:=Array.mem_of_getElem? ht;simp only[List.mem_toArray,List.mem_cons,List.not_mem_nil,or_false] at hm;rcases hm with rfl|rfl
  · exact (show Tryz.prog.wantsStandIn 9=false by kernel_rfl)
  · exact (show Tryz.prog.wantsStandIn 3=false by kernel_rfl)
end Go.Proofs.YtcmhkcpheehlhaaGreatDoor.parseBlanks
namespace Go.Proofs.YtcmhkcpheehlhaaGreatDoor
theorem parseBlanks_card:Rows.ParseBlanksUptoCardSaid:=
  Claim7.holds_tied_plain_at .later [] _ _ _ _ parseBlanks.said (fun _ h=>by cases h) (by kernel_rfl) (fun _ h=>by cases h) parseBlanksUpto_row_tie rfl ⟨rfl,rfl⟩ (by kernel_rfl) rfl parseBlanks.plain (by kernel_rfl)
#print axioms parseBlanks_card
end Go.Proofs.YtcmhkcpheehlhaaGreatDoor
