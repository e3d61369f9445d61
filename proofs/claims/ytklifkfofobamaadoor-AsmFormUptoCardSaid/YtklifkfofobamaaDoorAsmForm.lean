/-
  DERIVED. 'AsmFormUptoCardSaid', THE GIVEN STATEMENT (THE TIED CARD), PROVED: of every text within the bound the law returns true, and what it was given reads as before.
  Conditions: the statement's own bound.
-/
import Derived.Test.YtklifkfofobamaaDoorCards
import Derived.Test.YtklifkfofobamaaDoorTie
import Derived.ProofKit
import Derived.OpenShut
import Derived.JoinedCond
import Derived.Deep.DeepHandedRow
import Derived.Deep.DeepWitnessRowRef
import Derived.Lay
import Derived.SevenTiedAt
import Derived.MakeChecks
import Derived.Test.YtklifkfofobamaaDoorEnds
set_option linter.unusedVariables false
set_option linter.unusedSimpArgs false
namespace Go.Proofs.YtklifkfofobamaaDoor.asmForm
open Go.ChangeShapes Go.WideShapes Go.ChangeAt Go.RowKit Lift Lift.AA

theorem own : ownKnob Tryd.prog.godebug = Option.none := by kernel_rfl

theorem bulky {H : Type} : Bulky (H := H) Rows.uptoBulk Rows.uptoBulkAll where
  lit := fun l => by cases l <;> simp [Rows.uptoBulk]
  str := fun s => by simp [Rows.uptoBulk]
  nil := by simp [Rows.uptoBulk]
  slice := fun a b => by simp [Rows.uptoBulk]
  agg := fun a => by simp [Rows.uptoBulk]
  cons := fun d r => by simp [Rows.uptoBulkAll]

def ts : List TypeId := [9]
theorem fits : ∀ T ∈ ts, tyFits Lift.H1.kk ts (fun _ => 0) T = true := List.all_eq_true.1 (show ts.all (fun T => tyFits Lift.H1.kk ts (fun _ => 0) T) = true by kernel_rfl)
theorem makes : ∀ T ∈ ts, ∀ n, Lift.H1.kk.tyOf T = some (.st n) → ∀ cs, cs.map TV.t = Lift.H1.kk.u.ctys n → ∃ x, Lift.H1.kk.u.make n cs = some x := by
  intro T hT n hn cs hcs
  simp only [ts, List.mem_cons, List.not_mem_nil, or_false] at hT
  rcases hT with rfl
  · simp [Lift.H1.tyOf] at hn

theorem walk (y0 : List UInt8) (v0 : Value) (w : World) (hg : Lift.H1.globs w) (t0 : TRel Lift.H1.kk.u (fun k => w.heap[k]?) ⟨.str, y0⟩ v0) (s0 : Sized Lift.H1.kk.u ⟨.str, y0⟩ 1048576) : Calls Tryd.prog 7 #[v0] w fun e w' => e = .returned (.bool true) ∧ Below w.heap.size w w' := by
  refine bool_of_postV (K := Lift.H1.kk) (V := Lift.H1.env0) hg (room_of hg) (o := ⟨⟨[0], [], []⟩, [.t .bool], []⟩) (args := [v0]) (Lift.H1.qan_post [⟨.str, y0⟩] 0 [⟨.bool, true⟩] ?_) rfl rfl rfl ⟨_, _, rfl, t0, rfl⟩
  show (Tr.get (Lift.Fn.qan y0) _).val = _
  rw [Lift.AA.law_AsmForm y0 (by have := s0.str_inv; omega)]
  rfl

set_option maxRecDepth 100000 in
theorem contract (H : Type) (enc : TypeId × Value → H) (W : World) (base : Nat) (args : Array Value) (ds gs : List (DataW H)) (before : List MemPlace)
    (hval : ∀ (j : Nat) t v, Tryd.f7.params[j]? = some t → args[j]? = some v → Value.okWide Tryd.prog W .any base t v)
    (hW : DataW.Whole enc Tryd.prog Tryd.f7.params.toList Rows.asmFormSpec.vars false W args.toList ds gs before) (hk : Rows.uptoSmall H (ds ++ gs) = true) (hg : Lift.H1.globs W) :
    Calls Tryd.prog 7 args W fun e W' => ∃ v, e = .returned v ∧ Rows.asmFormSpec.post enc Tryd.prog Tryd.f7 false true false false W args v W' := by
  have hW' := hW
  obtain ⟨p, q, hA0, hV, rfl, hfz, hnd⟩ := hW
  have hA : DataW.TrodAll enc Tryd.prog W 0 (fun _ => true) true Tryd.f7.params.toList args.toList ds p := hA0
  rw [Tryd.params7] at hA hval
  obtain ⟨v0, d0, rfl, rfl, h0⟩ := trodAll_one hA
  obtain ⟨rfl, rfl⟩ := trodVars_none hV
  have hb : Rows.uptoBulkAll ([d0] ++ ([] : List (DataW H))) ≤ 1048576 := of_decide_eq_true hk
  simp only [List.cons_append, List.nil_append, List.append_nil, Rows.uptoBulkAll] at hb
  have l0 : ∀ x ∈ p, x.block < W.heap.size := fun x hx => by simpa using hW'.lt x (by simp [hx])
  obtain ⟨y0, t0, ⟨a0, s0, b0⟩, _⟩ := open_arg (K := Lift.H1.kk) (wt := fun _ => 0) (bulk := Rows.uptoBulk) bulky fits makes (T := 9) (by decide) (ty := .str) (by kernel_rfl) (hval 0 9 v0 rfl rfl) h0
  clear hA0
  simp only [List.append_nil] at hW'
  refine (walk y0 v0 W hg t0 (s0.le (by omega))).mono fun e W' ⟨he, hbl⟩ => ?_
  subst he
  exact ⟨_, rfl, _, _, _, [], _, [], hW', trodAll_mk1 (shut_bool Tryd.underlying4 _), trodAll_mk1 (Below.trod (by kernel_rfl) (by kernel_rfl) (of_decide_eq_true (by kernel_rfl)) h0 hbl l0), rfl, hbl.frame _, fun h => by cases h⟩

noncomputable def laidWorld (os : Os) : World := World.laidAll Tryd.prog os Rows.asmFormUptoRow.laid
theorem laid_met (os : Os) : laidMet Tryd.prog Rows.asmFormUptoRow.laid ((laidWorld os).forCall (fun _ _ => 0) ⟨#[], #[.string ⟨#[]⟩], []⟩).memory :=
  laidMet_laidAll _ (by kernel_rfl) (by kernel_rfl)
theorem reads (os : Os) {H : Type} (enc : TypeId × Value → H) : ∃ places, DataW.whole enc Tryd.prog ((laidWorld os).forCall (fun _ _ => 0) ⟨#[], #[.string ⟨#[]⟩], []⟩).memory Tryd.f7.params.toList Rows.asmFormSpec.vars false #[.string ⟨#[]⟩].toList 8 = some ([.lit (.string [])], [], places) :=
  ⟨[], by kernel_rfl⟩

set_option maxRecDepth 100000 in
theorem lifted (os : Os) (started : os.Started) (H : Type) (enc : TypeId × Value → H) (F : Stop.Interp) :
    ReturnsInHanded {} Tryd.checked os 7 .any ((Rows.OpenSpec.upto Rows.asmFormSpec).preRow enc Tryd.prog Tryd.f7 Rows.asmFormUptoRow.domain false Rows.asmFormUptoRow.laid) (((Rows.OpenSpec.upto Rows.asmFormSpec).at F).post enc Tryd.prog Tryd.f7 false true false false) := by
  obtain ⟨places, hx⟩ := reads os enc
  refine returnsInHanded_of_row (C := Tryd.checked) (s := Rows.OpenSpec.upto Rows.asmFormSpec) own started (by kernel_rfl) Tryd.func7
    (witness_row_atRef (enc := enc) (C := Tryd.checked) false (laidWorld os) #[.string ⟨#[]⟩] rfl (by kernel_rfl) (by kernel_rfl) (by kernel_rfl)
      (OpenSpec.preRow_of_cond 8 hx (by kernel_rfl) (fun k hk => by cases hk; kernel_rfl) (by kernel_rfl) (laid_met os))) ?_
  intro W base args ds gs before hval hW _ hcond _ hL hS _
  exact contract H enc W base args ds gs before hval hW (hcond _ rfl) (globs_of hL hS)

theorem said : Rows.AsmFormUptoSaid :=
  OpenClaim.holds_of_cond 7 Tryd.f7 rfl rfl rfl rfl rfl rfl rfl ⟨rfl, rfl, rfl, rfl, rfl⟩ rfl rfl rfl rfl rfl (by kernel_rfl) Tryd.func7 (by kernel_rfl)
    (of_decide_eq_true (by kernel_rfl)) (by unfold Func.isWrapper; first | (rw [if_pos (by decide +kernel)]; kernel_rfl) | (rw [if_neg (by decide +kernel)]; exact ⟨rfl, rfl⟩))
    (fun os started H enc _ F => by rw [OpenClaim.pre_eq_preRow]; exact lifted os started H enc F)

theorem plain (f : FuncId) (fn : Func) (hf : Tryd.pinned.checked.prog.funcNamed "racetree/racetreelaw10.AsmForm" = some f) (hfn : Tryd.pinned.checked.prog.funcs[f]? = some fn) :
    true = Tryd.pinned.checked.prog.looks [] ∧ ∀ (j : Nat) t, fn.params[j]? = some t → Tryd.pinned.checked.prog.wantsStandIn t = false := by
  obtain rfl : f = 7 := Option.some.inj ((show Tryd.prog.funcNamed "racetree/racetreelaw10.AsmForm" = some 7 by kernel_rfl).symm.trans hf) |>.symm
  obtain rfl : fn = Tryd.f7 := (Option.some.inj (Tryd.func7.symm.trans hfn)).symm
  refine ⟨by kernel_rfl, fun j t ht => ?_⟩
  rw [Tryd.params7] at ht
  have hm := Array.mem_of_getElem? ht
  simp only [List.mem_toArray, List.mem_cons, List.not_mem_nil, or_false] at hm
  rcases hm with rfl
  · exact (show Tryd.prog.wantsStandIn 9 = false by kernel_rfl)
end Go.Proofs.YtklifkfofobamaaDoor.asmForm
namespace Go.Proofs.YtklifkfofobamaaDoor
theorem asmForm_card : Rows.AsmFormUptoCardSaid :=
  Claim7.holds_tied_plain_at .later [] _ _ _ _ asmForm.said (fun _ h => by cases h) (by kernel_rfl) (fun _ h => by cases h) asmFormUpto_row_tie rfl ⟨rfl, rfl⟩ (by kernel_rfl) rfl asmForm.plain (by kernel_rfl)
#print axioms asmForm_card
end Go.Proofs.YtklifkfofobamaaDoor
