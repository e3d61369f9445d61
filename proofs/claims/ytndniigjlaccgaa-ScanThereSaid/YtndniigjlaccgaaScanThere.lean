/-
  DERIVED. 'ScanThereSaid', THE GIVEN STATEMENT, PROVED: of every list of numbers the law returns true, and what it was given reads as before.
  Conditions: none.
-/
import Derived.Test.YtndniigjlaccgaaRows
import Derived.ProofKit
import Derived.OpenShut
import Derived.Test.YtndniigjlaccgaaLaw
set_option linter.unusedVariables false
set_option linter.unusedSimpArgs false
namespace Go.Proofs.Ytndniigjlaccgaa.scanThere
open Go.ChangeShapes Go.WideShapes Go.ChangeAt Go.RowKit Lift
open Go.ChangeMaps (open_string shut_string)

theorem own : ownKnob Try.prog.godebug = Option.none := by kernel_rfl

theorem walk (x0 : List Int) (v0 : Value) (w : World) (h0 : TRel Lift.A1.kk.u (fun k => w.heap[k]?) ⟨.slc (.int .i64), x0⟩ v0) : Calls Try.prog 7 #[v0] w fun e w' => e = .returned (.bool true) ∧ Below w.heap.size w w' := by
  refine bool_of_post (K := Lift.A1.kk) (o := ⟨⟨[0], [], []⟩, [.t .bool], []⟩) (args := [v0]) (Lift.A1.racetreelaw01_ScanThere_post [⟨.slc (.int .i64), x0⟩] 0 [⟨.bool, true⟩] ?_) rfl rfl rfl ⟨_, _, rfl, h0, rfl⟩
  show (Tr.get _ _).val = _
  rw [Lift.A1P.scanThere1 x0]
  rfl

theorem contract (H : Type) (enc : TypeId × Value → H) (W : World) (base : Nat) (args : Array Value) (ds gs : List (DataW H)) (before : List MemPlace)
    (hval : ∀ (j : Nat) t v, Try.f7.params[j]? = some t → args[j]? = some v → Value.okWide Try.prog W .any base t v)
    (hW : DataW.Whole enc Try.prog Try.f7.params.toList Rows.scanThereSpec.vars false W args.toList ds gs before) :
    Calls Try.prog 7 args W fun e W' => ∃ v, e = .returned v ∧ Rows.scanThereSpec.post enc Try.prog Try.f7 false true false false W args v W' := by
  have hW' := hW
  obtain ⟨p, q, hA0, hV, rfl, hfz, hnd⟩ := hW
  have hA : DataW.TrodAll enc Try.prog W 0 (fun _ => true) true Try.f7.params.toList args.toList ds p := hA0
  rw [Try.params7] at hA hval
  obtain ⟨v0, d0, rfl, rfl, h0⟩ := trodAll_one hA
  obtain ⟨rfl, rfl⟩ := trodVars_none hV
  obtain ⟨x0, t0, w0, wf0, dd0⟩ := open_ints_tv (u := Lift.A1.kk.u) Try.underlying36 Try.underlying3 (by kernel_rfl) (hval 0 36 v0 rfl rfl) h0
  have hlt : ∀ x ∈ p, x.block < W.heap.size := fun x hx => by simpa using hW'.lt x (List.mem_append_left _ hx)
  clear hA0
  simp only [List.append_nil] at hW'
  refine (walk x0 v0 W t0).mono fun e W' ⟨he, hb⟩ => ?_
  subst he
  exact ⟨_, rfl, _, _, _, [], _, [], hW', trodAll_mk1 (shut_bool Try.underlying4 _), trodAll_mk1 (Below.trod (by kernel_rfl) (by kernel_rfl) (of_decide_eq_true (by kernel_rfl)) h0 hb hlt), rfl, hb.frame _, fun h => by cases h⟩

set_option maxRecDepth 100000 in
theorem lifted (os : Os) (started : os.Started) (H : Type) (enc : TypeId × Value → H) :
    ReturnsInHanded {} Try.checked os 7 .any (Rows.scanThereSpec.pre6 enc Try.prog Try.f7 Rows.scanThereRow.domain false) (Rows.scanThereSpec.post enc Try.prog Try.f7 false true false false) := by
  refine returnsInHanded_of_change (C := Try.checked) own started (by kernel_rfl) Try.func7
    (ChangeSpec.witness6 (enc := enc) (C := Try.checked) false ⟨#[], #[.slice Option.none 0 0], []⟩ 8 (by kernel_rfl) (by kernel_rfl) (by kernel_rfl) (by kernel_rfl)) ?_
  intro W base args ds gs before hval hW _ _
  exact contract H enc W base args ds gs before hval hW

end Go.Proofs.Ytndniigjlaccgaa.scanThere
namespace Go.Proofs.Ytndniigjlaccgaa
theorem scanThere_holds : Rows.ScanThereSaid :=
  OpenClaim.holds_of_wide 7 Try.f7 rfl rfl rfl rfl rfl rfl rfl ⟨rfl, rfl, rfl, rfl, rfl⟩ rfl rfl rfl rfl rfl (by kernel_rfl) Try.func7 (by kernel_rfl)
    (of_decide_eq_true (by kernel_rfl)) (by unfold Func.isWrapper; first | (rw [if_pos (by decide +kernel)]; kernel_rfl) | (rw [if_neg (by decide +kernel)]; exact ⟨rfl, rfl⟩))
    (fun os started H enc _ => scanThere.lifted os started H enc)
#print axioms scanThere_holds
end Go.Proofs.Ytndniigjlaccgaa
