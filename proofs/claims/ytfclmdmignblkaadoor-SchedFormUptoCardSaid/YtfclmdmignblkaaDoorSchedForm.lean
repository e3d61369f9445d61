/-
  DERIVED. 'SchedFormUptoCardSaid', THE GIVEN STATEMENT (THE TIED CARD), PROVED: of every text and all bytes within the bound the law returns true, and what it was given reads as before.
  Conditions: the statement's own bound.
-/
import Derived.Test.YtfclmdmignblkaaDoorCards
import Derived.Test.YtfclmdmignblkaaDoorTie
import Derived.ProofKit
import Derived.OpenShut
import Derived.JoinedCond
import Derived.Deep.DeepHandedRow
import Derived.Deep.DeepWitnessRowRef
import Derived.Lay
import Derived.SevenTiedAt
import Derived.MakeChecks
import Derived.Test.YtfclmdmignblkaaDoorEnds
set_option linter.unusedVariables false
set_option linter.unusedSimpArgs false
namespace Go.Proofs.YtfclmdmignblkaaDoor.schedForm
open Go.ChangeShapes Go.WideShapes Go.ChangeAt Go.RowKit Lift

theorem own : ownKnob Tryd.prog.godebug = Option.none := by kernel_rfl

theorem bulky {H : Type} : Bulky (H := H) Rows.uptoBulk Rows.uptoBulkAll where
  lit := fun l => by cases l <;> simp [Rows.uptoBulk]
  str := fun s => by simp [Rows.uptoBulk]
  nil := by simp [Rows.uptoBulk]
  slice := fun a b => by simp [Rows.uptoBulk]
  agg := fun a => by simp [Rows.uptoBulk]
  cons := fun d r => by simp [Rows.uptoBulkAll]

def ts : List TypeId := [5, 9, 30]
theorem fits : ∀ T ∈ ts, tyFits Lift.E2.kk ts (fun _ => 0) T = true := List.all_eq_true.1 (show ts.all (fun T => tyFits Lift.E2.kk ts (fun _ => 0) T) = true by kernel_rfl)
theorem makes : ∀ T ∈ ts, ∀ n, Lift.E2.kk.tyOf T = some (.st n) → ∀ cs, cs.map TV.t = Lift.E2.kk.u.ctys n → ∃ x, Lift.E2.kk.u.make n cs = some x := by
  intro T hT n hn cs hcs
  simp only [ts, List.mem_cons, List.not_mem_nil, or_false] at hT
  rcases hT with rfl | rfl | rfl
  · simp [Lift.E2.tyOf] at hn
  · simp [Lift.E2.tyOf] at hn
  · simp [Lift.E2.tyOf] at hn

theorem walk (y0 : List UInt8) (v0 : Value) (y1 : List Int) (v1 : Value) (w : World) (hg : Lift.E2.globs w) (t0 : TRel Lift.E2.kk.u (fun k => w.heap[k]?) ⟨.str, y0⟩ v0) (t1 : TRel Lift.E2.kk.u (fun k => w.heap[k]?) ⟨.slc (.int .u8), y1⟩ v1) (r1 : ∀ c ∈ y1, (Lit.int .u8 c).wf = true) (s0 : Sized Lift.E2.kk.u ⟨.str, y0⟩ 1048576) (s1 : Sized Lift.E2.kk.u ⟨.slc (.int .u8), y1⟩ 1048576) : Calls Tryd.prog 8 #[v0, v1] w fun e w' => e = .returned (.bool true) ∧ Below w.heap.size w w' := by
  refine bool_of_postV (K := Lift.E2.kk) (V := Lift.E2.env0) hg (room_of hg) (o := ⟨⟨[0], [], []⟩, [.t .bool], []⟩) (args := [v0, v1]) (Lift.E3.racetreelaw22_SchedForm_post [⟨.str, y0⟩, ⟨.slc (.int .u8), y1⟩] 0 [⟨.bool, true⟩] ?_) rfl rfl rfl ⟨_, _, rfl, t0, ⟨_, _, rfl, t1, rfl⟩⟩
  show (Tr.get _ _).val = _
  rw [Lift.A1P.schedForm1 y0 y1 (by have := s0.str_inv; omega) (Lift.A1P.okB_of r1) (by have := s1.slc_len; omega)]
  rfl

set_option maxRecDepth 100000 in
theorem contract (H : Type) (enc : TypeId × Value → H) (W : World) (base : Nat) (args : Array Value) (ds gs : List (DataW H)) (before : List MemPlace)
    (hval : ∀ (j : Nat) t v, Tryd.f8.params[j]? = some t → args[j]? = some v → Value.okWide Tryd.prog W .any base t v)
    (hW : DataW.Whole enc Tryd.prog Tryd.f8.params.toList Rows.schedFormSpec.vars false W args.toList ds gs before) (hk : Rows.uptoSmall H (ds ++ gs) = true) (hg : Lift.E2.globs W) :
    Calls Tryd.prog 8 args W fun e W' => ∃ v, e = .returned v ∧ Rows.schedFormSpec.post enc Tryd.prog Tryd.f8 false true false false W args v W' := by
  have hW' := hW
  obtain ⟨p, q, hA0, hV, rfl, hfz, hnd⟩ := hW
  have hA : DataW.TrodAll enc Tryd.prog W 0 (fun _ => true) true Tryd.f8.params.toList args.toList ds p := hA0
  rw [Tryd.params8] at hA hval
  obtain ⟨v0, v1, d0, d1, p0, p1, rfl, rfl, rfl, h0, h1⟩ := trodAll_two hA
  obtain ⟨rfl, rfl⟩ := trodVars_none hV
  have hb : Rows.uptoBulkAll ([d0, d1] ++ ([] : List (DataW H))) ≤ 1048576 := of_decide_eq_true hk
  simp only [List.cons_append, List.nil_append, List.append_nil, Rows.uptoBulkAll] at hb
  have l0 : ∀ x ∈ p0, x.block < W.heap.size := fun x hx => by simpa using hW'.lt x (by simp [hx])
  obtain ⟨y0, t0, ⟨a0, s0, b0⟩, _⟩ := open_arg (K := Lift.E2.kk) (wt := fun _ => 0) (bulk := Rows.uptoBulk) bulky fits makes (T := 9) (by decide) (ty := .str) (by kernel_rfl) (hval 0 9 v0 rfl rfl) h0
  have l1 : ∀ x ∈ p1, x.block < W.heap.size := fun x hx => by simpa using hW'.lt x (by simp [hx])
  obtain ⟨y1, t1, ⟨a1, s1, b1⟩, _⟩ := open_arg (K := Lift.E2.kk) (wt := fun _ => 0) (bulk := Rows.uptoBulk) bulky fits makes (T := 30) (by decide) (ty := .slc (.int .u8)) (by kernel_rfl) (hval 1 30 v1 rfl rfl) h1
  clear hA0
  simp only [List.append_nil] at hW'
  refine (walk y0 v0 y1 v1 W hg t0 t1 (row_range (E := 5) (by kernel_rfl) (by kernel_rfl) (by kernel_rfl) t1 h1) (s0.le (by omega)) (s1.le (by omega))).mono fun e W' ⟨he, hbl⟩ => ?_
  subst he
  exact ⟨_, rfl, _, _, _, [], _, [], hW', trodAll_mk1 (shut_bool Tryd.underlying4 _), trodAll_mk2 (Below.trod (by kernel_rfl) (by kernel_rfl) (of_decide_eq_true (by kernel_rfl)) h0 hbl l0) (Below.trod (by kernel_rfl) (by kernel_rfl) (of_decide_eq_true (by kernel_rfl)) h1 hbl l1), rfl, hbl.frame _, fun h => by cases h⟩

noncomputable def laidWorld (os : Os) : World := World.laidAll Tryd.prog os Rows.schedFormUptoRow.laid
theorem laid_met (os : Os) : laidMet Tryd.prog Rows.schedFormUptoRow.laid ((laidWorld os).forCall (fun _ _ => 0) ⟨#[], #[.string ⟨#[]⟩, .slice Option.none 0 0], []⟩).memory :=
  laidMet_laidAll _ (by kernel_rfl) (by kernel_rfl)
theorem reads (os : Os) {H : Type} (enc : TypeId × Value → H) : ∃ places, DataW.whole enc Tryd.prog ((laidWorld os).forCall (fun _ _ => 0) ⟨#[], #[.string ⟨#[]⟩, .slice Option.none 0 0], []⟩).memory Tryd.f8.params.toList Rows.schedFormSpec.vars false #[.string ⟨#[]⟩, .slice Option.none 0 0].toList 8 = some ([.lit (.string []), .nil], [], places) :=
  ⟨[], by kernel_rfl⟩

set_option maxRecDepth 100000 in
theorem lifted (os : Os) (started : os.Started) (H : Type) (enc : TypeId × Value → H) (F : Stop.Interp) :
    ReturnsInHanded {} Tryd.checked os 8 .any ((Rows.OpenSpec.upto Rows.schedFormSpec).preRow enc Tryd.prog Tryd.f8 Rows.schedFormUptoRow.domain false Rows.schedFormUptoRow.laid) (((Rows.OpenSpec.upto Rows.schedFormSpec).at F).post enc Tryd.prog Tryd.f8 false true false false) := by
  obtain ⟨places, hx⟩ := reads os enc
  refine returnsInHanded_of_row (C := Tryd.checked) (s := Rows.OpenSpec.upto Rows.schedFormSpec) own started (by kernel_rfl) Tryd.func8
    (witness_row_atRef (enc := enc) (C := Tryd.checked) false (laidWorld os) #[.string ⟨#[]⟩, .slice Option.none 0 0] rfl (by kernel_rfl) (by kernel_rfl) (by kernel_rfl)
      (OpenSpec.preRow_of_cond 8 hx (by kernel_rfl) (fun k hk => by cases hk; kernel_rfl) (by kernel_rfl) (laid_met os))) ?_
  intro W base args ds gs before hval hW _ hcond _ hL hS _
  exact contract H enc W base args ds gs before hval hW (hcond _ rfl) (globs_of hL hS)

theorem said : Rows.SchedFormUptoSaid :=
  OpenClaim.holds_of_cond 8 Tryd.f8 rfl rfl rfl rfl rfl rfl rfl ⟨rfl, rfl, rfl, rfl, rfl⟩ rfl rfl rfl rfl rfl (by kernel_rfl) Tryd.func8 (by kernel_rfl)
    (of_decide_eq_true (by kernel_rfl)) (by unfold Func.isWrapper; first | (rw [if_pos (by decide +kernel)]; kernel_rfl) | (rw [if_neg (by decide +kernel)]; exact ⟨rfl, rfl⟩))
    (fun os started H enc _ F => by rw [OpenClaim.pre_eq_preRow]; exact lifted os started H enc F)

theorem plain (f : FuncId) (fn : Func) (hf : Tryd.pinned.checked.prog.funcNamed "racetree/racetreelaw22.SchedForm" = some f) (hfn : Tryd.pinned.checked.prog.funcs[f]? = some fn) :
    true = Tryd.pinned.checked.prog.looks [] ∧ ∀ (j : Nat) t, fn.params[j]? = some t → Tryd.pinned.checked.prog.wantsStandIn t = false := by
  obtain rfl : f = 8 := Option.some.inj ((show Tryd.prog.funcNamed "racetree/racetreelaw22.SchedForm" = some 8 by kernel_rfl).symm.trans hf) |>.symm
  obtain rfl : fn = Tryd.f8 := (Option.some.inj (Tryd.func8.symm.trans hfn)).symm
  refine ⟨by kernel_rfl, fun j t ht => ?_⟩
  rw [Tryd.params8] at ht
  have hm := Array.mem_of_getElem? ht
  simp only [List.mem_toArray, List.mem_cons, List.not_mem_nil, or_false] at hm
  rcases hm with rfl | rfl
  · exact (show Tryd.prog.wantsStandIn 9 = false by kernel_rfl)
  · exact (show Tryd.prog.wantsStandIn 30 = false by kernel_rfl)
end Go.Proofs.YtfclmdmignblkaaDoor.schedForm
namespace Go.Proofs.YtfclmdmignblkaaDoor
theorem schedForm_card : Rows.SchedFormUptoCardSaid :=
  Claim7.holds_tied_plain_at .later [] _ _ _ _ schedForm.said (fun _ h => by cases h) (by kernel_rfl) (fun _ h => by cases h) schedFormUpto_row_tie rfl ⟨rfl, rfl⟩ (by kernel_rfl) rfl schedForm.plain (by kernel_rfl)
#print axioms schedForm_card
end Go.Proofs.YtfclmdmignblkaaDoor
