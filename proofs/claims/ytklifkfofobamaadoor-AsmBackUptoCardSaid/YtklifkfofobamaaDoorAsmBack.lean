/-
  DERIVED. 'AsmBackUptoCardSaid', THE GIVEN STATEMENT (THE TIED CARD), PROVED: of every image within the bound the law returns true, and what it was given reads as before.
  Conditions: the statement's own bound.
-/
import Derived.Test.YtklifkfofobamaaDoorCards
import Derived.Test.YtklifkfofobamaaDoorTie
import Derived.ProofKit
import Derived.OpenShut
import Derived.JoinedCond
import Derived.Deep.DeepHandedRow
import Derived.Deep.DeepWitnessRowRef
import Derived.Lay
import Derived.SevenTiedAt
import Derived.MakeChecks
import Derived.Test.YtklifkfofobamaaDoorEnds
set_option linter.unusedVariables false
set_option linter.unusedSimpArgs false
namespace Go.Proofs.YtklifkfofobamaaDoor.asmBack
open Go.ChangeShapes Go.WideShapes Go.ChangeAt Go.RowKit Lift Lift.AA

theorem own : ownKnob Tryd.prog.godebug = Option.none := by kernel_rfl

theorem bulky {H : Type} : Bulky (H := H) Rows.uptoBulk Rows.uptoBulkAll where
  lit := fun l => by cases l <;> simp [Rows.uptoBulk]
  str := fun s => by simp [Rows.uptoBulk]
  nil := by simp [Rows.uptoBulk]
  slice := fun a b => by simp [Rows.uptoBulk]
  agg := fun a => by simp [Rows.uptoBulk]
  cons := fun d r => by simp [Rows.uptoBulkAll]

def ts : List TypeId := [3, 22, 23, 25, 36, 38, 40]
theorem fits : ∀ T ∈ ts, tyFits Lift.H1.kk ts (fun _ => 0) T = true := List.all_eq_true.1 (show ts.all (fun T => tyFits Lift.H1.kk ts (fun _ => 0) T) = true by kernel_rfl)
theorem makes : ∀ T ∈ ts, ∀ n, Lift.H1.kk.tyOf T = some (.st n) → ∀ cs, cs.map TV.t = Lift.H1.kk.u.ctys n → ∃ x, Lift.H1.kk.u.make n cs = some x := by
  intro T hT n hn cs hcs
  simp only [ts, List.mem_cons, List.not_mem_nil, or_false] at hT
  rcases hT with rfl | rfl | rfl | rfl | rfl | rfl | rfl
  · simp [Lift.H1.tyOf] at hn
  · simp [Lift.H1.tyOf] at hn
  · simp [Lift.H1.tyOf] at hn
  · obtain rfl : 25 = n := by simpa [Lift.H1.tyOf] using hn
    exact Lift.H1.make_25 cs hcs
  · simp [Lift.H1.tyOf] at hn
  · obtain rfl : 38 = n := by simpa [Lift.H1.tyOf] using hn
    exact Lift.H1.make_38 cs hcs
  · obtain rfl : 40 = n := by simpa [Lift.H1.tyOf] using hn
    exact Lift.H1.make_40 cs hcs

theorem walk (y0 : Image) (v0 : Value) (w : World) (hg : Lift.H1.globs w) (t0 : TRel Lift.H1.kk.u (fun k => w.heap[k]?) ⟨.st 25, y0⟩ v0) (s0 : Sized Lift.H1.kk.u ⟨.st 25, y0⟩ 1048576) : Calls Tryd.prog 6 #[v0] w fun e w' => e = .returned (.bool true) ∧ Below w.heap.size w w' := by
  refine bool_of_postV (K := Lift.H1.kk) (V := Lift.H1.env0) hg (room_of hg) (o := ⟨⟨[0], [], []⟩, [.t .bool], []⟩) (args := [v0]) (Lift.H1.qan_post [⟨.st 25, y0⟩] 0 [⟨.bool, true⟩] ?_) rfl rfl rfl ⟨_, _, rfl, t0, rfl⟩
  show (Tr.get (Lift.Fn.qan y0) _).val = _
  rw [Lift.AA.law_AsmBack y0]
  rfl

set_option maxRecDepth 100000 in
theorem contract (H : Type) (enc : TypeId × Value → H) (W : World) (base : Nat) (args : Array Value) (ds gs : List (DataW H)) (before : List MemPlace)
    (hval : ∀ (j : Nat) t v, Tryd.f6.params[j]? = some t → args[j]? = some v → Value.okWide Tryd.prog W .any base t v)
    (hW : DataW.Whole enc Tryd.prog Tryd.f6.params.toList Rows.asmBackSpec.vars false W args.toList ds gs before) (hk : Rows.uptoSmall H (ds ++ gs) = true) (hg : Lift.H1.globs W) :
    Calls Tryd.prog 6 args W fun e W' => ∃ v, e = .returned v ∧ Rows.asmBackSpec.post enc Tryd.prog Tryd.f6 false true false false W args v W' := by
  have hW' := hW
  obtain ⟨p, q, hA0, hV, rfl, hfz, hnd⟩ := hW
  have hA : DataW.TrodAll enc Tryd.prog W 0 (fun _ => true) true Tryd.f6.params.toList args.toList ds p := hA0
  rw [Tryd.params6] at hA hval
  obtain ⟨v0, d0, rfl, rfl, h0⟩ := trodAll_one hA
  obtain ⟨rfl, rfl⟩ := trodVars_none hV
  have hb : Rows.uptoBulkAll ([d0] ++ ([] : List (DataW H))) ≤ 1048576 := of_decide_eq_true hk
  simp only [List.cons_append, List.nil_append, List.append_nil, Rows.uptoBulkAll] at hb
  have l0 : ∀ x ∈ p, x.block < W.heap.size := fun x hx => by simpa using hW'.lt x (by simp [hx])
  obtain ⟨y0, t0, ⟨a0, s0, b0⟩, _⟩ := open_arg (K := Lift.H1.kk) (wt := fun _ => 0) (bulk := Rows.uptoBulk) bulky fits makes (T := 25) (by decide) (ty := .st 25) (by kernel_rfl) (hval 0 25 v0 rfl rfl) h0
  clear hA0
  simp only [List.append_nil] at hW'
  refine (walk y0 v0 W hg t0 (s0.le (by omega))).mono fun e W' ⟨he, hbl⟩ => ?_
  subst he
  exact ⟨_, rfl, _, _, _, [], _, [], hW', trodAll_mk1 (shut_bool Tryd.underlying4 _), trodAll_mk1 (Below.trod (by kernel_rfl) (by kernel_rfl) (of_decide_eq_true (by kernel_rfl)) h0 hbl l0), rfl, hbl.frame _, fun h => by cases h⟩

noncomputable def laidWorld (os : Os) : World := World.laidAll Tryd.prog os Rows.asmBackUptoRow.laid
theorem laid_met (os : Os) : laidMet Tryd.prog Rows.asmBackUptoRow.laid ((laidWorld os).forCall (fun _ _ => 0) ⟨#[], #[.agg #[.slice Option.none 0 0, .int .i64 0, .slice Option.none 0 0]], []⟩).memory :=
  laidMet_laidAll _ (by kernel_rfl) (by kernel_rfl)
theorem reads (os : Os) {H : Type} (enc : TypeId × Value → H) : ∃ places, DataW.whole enc Tryd.prog ((laidWorld os).forCall (fun _ _ => 0) ⟨#[], #[.agg #[.slice Option.none 0 0, .int .i64 0, .slice Option.none 0 0]], []⟩).memory Tryd.f6.params.toList Rows.asmBackSpec.vars false #[.agg #[.slice Option.none 0 0, .int .i64 0, .slice Option.none 0 0]].toList 8 = some ([.agg [.nil, .lit (.int .i64 0), .nil]], [], places) :=
  ⟨[], by kernel_rfl⟩

set_option maxRecDepth 100000 in
theorem lifted (os : Os) (started : os.Started) (H : Type) (enc : TypeId × Value → H) (F : Stop.Interp) :
    ReturnsInHanded {} Tryd.checked os 6 .any ((Rows.OpenSpec.upto Rows.asmBackSpec).preRow enc Tryd.prog Tryd.f6 Rows.asmBackUptoRow.domain false Rows.asmBackUptoRow.laid) (((Rows.OpenSpec.upto Rows.asmBackSpec).at F).post enc Tryd.prog Tryd.f6 false true false false) := by
  obtain ⟨places, hx⟩ := reads os enc
  refine returnsInHanded_of_row (C := Tryd.checked) (s := Rows.OpenSpec.upto Rows.asmBackSpec) own started (by kernel_rfl) Tryd.func6
    (witness_row_atRef (enc := enc) (C := Tryd.checked) false (laidWorld os) #[.agg #[.slice Option.none 0 0, .int .i64 0, .slice Option.none 0 0]] rfl (by kernel_rfl) (by kernel_rfl) (by kernel_rfl)
      (OpenSpec.preRow_of_cond 8 hx (by kernel_rfl) (fun k hk => by cases hk; kernel_rfl) (by kernel_rfl) (laid_met os))) ?_
  intro W base args ds gs before hval hW _ hcond _ hL hS _
  exact contract H enc W base args ds gs before hval hW (hcond _ rfl) (globs_of hL hS)

theorem said : Rows.AsmBackUptoSaid :=
  OpenClaim.holds_of_cond 6 Tryd.f6 rfl rfl rfl rfl rfl rfl rfl ⟨rfl, rfl, rfl, rfl, rfl⟩ rfl rfl rfl rfl rfl (by kernel_rfl) Tryd.func6 (by kernel_rfl)
    (of_decide_eq_true (by kernel_rfl)) (by unfold Func.isWrapper; first | (rw [if_pos (by decide +kernel)]; kernel_rfl) | (rw [if_neg (by decide +kernel)]; exact ⟨rfl, rfl⟩))
    (fun os started H enc _ F => by rw [OpenClaim.pre_eq_preRow]; exact lifted os started H enc F)

theorem plain (f : FuncId) (fn : Func) (hf : Tryd.pinned.checked.prog.funcNamed "racetree/racetreelaw10.AsmBack" = some f) (hfn : Tryd.pinned.checked.prog.funcs[f]? = some fn) :
    true = Tryd.pinned.checked.prog.looks [] ∧ ∀ (j : Nat) t, fn.params[j]? = some t → Tryd.pinned.checked.prog.wantsStandIn t = false := by
  obtain rfl : f = 6 := Option.some.inj ((show Tryd.prog.funcNamed "racetree/racetreelaw10.AsmBack" = some 6 by kernel_rfl).symm.trans hf) |>.symm
  obtain rfl : fn = Tryd.f6 := (Option.some.inj (Tryd.func6.symm.trans hfn)).symm
  refine ⟨by kernel_rfl, fun j t ht => ?_⟩
  rw [Tryd.params6] at ht
  have hm := Array.mem_of_getElem? ht
  simp only [List.mem_toArray, List.mem_cons, List.not_mem_nil, or_false] at hm
  rcases hm with rfl
  · exact (show Tryd.prog.wantsStandIn 25 = false by kernel_rfl)
end Go.Proofs.YtklifkfofobamaaDoor.asmBack
namespace Go.Proofs.YtklifkfofobamaaDoor
theorem asmBack_card : Rows.AsmBackUptoCardSaid :=
  Claim7.holds_tied_plain_at .later [] _ _ _ _ asmBack.said (fun _ h => by cases h) (by kernel_rfl) (fun _ h => by cases h) asmBackUpto_row_tie rfl ⟨rfl, rfl⟩ (by kernel_rfl) rfl asmBack.plain (by kernel_rfl)
#print axioms asmBack_card
end Go.Proofs.YtklifkfofobamaaDoor
