/-
  DERIVED. 'ScanPlacesSaid', THE GIVEN STATEMENT, PROVED: of every text and number the law returns true, and what it was given reads as before.
  Conditions: none.
-/
import Derived.Test.YtndniigjlaccgaaRows
import Derived.ProofKit
import Derived.OpenShut
import Derived.Test.YtndniigjlaccgaaLaw
set_option linter.unusedVariables false
set_option linter.unusedSimpArgs false
namespace Go.Proofs.Ytndniigjlaccgaa.scanPlaces
open Go.ChangeShapes Go.WideShapes Go.ChangeAt Go.RowKit Lift
open Go.ChangeMaps (open_string shut_string)

theorem own : ownKnob Try.prog.godebug = Option.none := by kernel_rfl

theorem walk (x0 : List UInt8) (x1 : Int) (w : World) : Calls Try.prog 4 #[.string ⟨x0.toArray⟩, .int .i64 x1] w fun e w' => e = .returned (.bool true) ∧ Below w.heap.size w w' := by
  refine bool_of_post (K := Lift.A1.kk) (o := ⟨⟨[0], [], []⟩, [.t .bool], []⟩) (args := [.string ⟨x0.toArray⟩, .int .i64 x1]) (Lift.A1.racetreelaw01_ScanPlaces_post [⟨.str, x0⟩, ⟨.int .i64, x1⟩] 0 [⟨.bool, true⟩] ?_) rfl rfl rfl ⟨_, _, rfl, .str _, ⟨_, _, rfl, .int _ _, rfl⟩⟩
  show (Tr.get _ _).val = _
  rw [Lift.A1P.scanPlaces1 x0 x1]
  rfl

theorem contract (H : Type) (enc : TypeId × Value → H) (W : World) (base : Nat) (args : Array Value) (ds gs : List (DataW H)) (before : List MemPlace)
    (hval : ∀ (j : Nat) t v, Try.f4.params[j]? = some t → args[j]? = some v → Value.okWide Try.prog W .any base t v)
    (hW : DataW.Whole enc Try.prog Try.f4.params.toList Rows.scanPlacesSpec.vars false W args.toList ds gs before) :
    Calls Try.prog 4 args W fun e W' => ∃ v, e = .returned v ∧ Rows.scanPlacesSpec.post enc Try.prog Try.f4 false true false false W args v W' := by
  have hW' := hW
  obtain ⟨p, q, hA0, hV, rfl, hfz, hnd⟩ := hW
  have hA : DataW.TrodAll enc Try.prog W 0 (fun _ => true) true Try.f4.params.toList args.toList ds p := hA0
  rw [Try.params4] at hA hval
  obtain ⟨v0, v1, d0, d1, p0, p1, rfl, rfl, rfl, h0, h1⟩ := trodAll_two hA
  obtain ⟨rfl, rfl⟩ := trodVars_none hV
  obtain ⟨x0, rfl, rfl, rfl, w0⟩ := open_string Try.underlying9 (hval 0 9 v0 rfl rfl) h0
  obtain ⟨x1, rfl, rfl, rfl, w1⟩ := open_int Try.underlying3 (hval 1 3 v1 rfl rfl) h1
  clear hA0
  simp only [List.append_nil] at hW'
  refine (walk x0.data.toList x1 W).mono fun e W' ⟨he, hb⟩ => ?_
  subst he
  exact ⟨_, rfl, _, _, _, [], _, [], hW', trodAll_mk1 (shut_bool Try.underlying4 _), trodAll_mk2 (shut_string Try.underlying9 w0) (shut_int Try.underlying3 w1), rfl, hb.frame _, fun h => by cases h⟩

set_option maxRecDepth 100000 in
theorem lifted (os : Os) (started : os.Started) (H : Type) (enc : TypeId × Value → H) :
    ReturnsInHanded {} Try.checked os 4 .any (Rows.scanPlacesSpec.pre6 enc Try.prog Try.f4 Rows.scanPlacesRow.domain false) (Rows.scanPlacesSpec.post enc Try.prog Try.f4 false true false false) := by
  refine returnsInHanded_of_change (C := Try.checked) own started (by kernel_rfl) Try.func4
    (ChangeSpec.witness6 (enc := enc) (C := Try.checked) false ⟨#[], #[.string ⟨#[]⟩, .int .i64 0], []⟩ 8 (by kernel_rfl) (by kernel_rfl) (by kernel_rfl) (by kernel_rfl)) ?_
  intro W base args ds gs before hval hW _ _
  exact contract H enc W base args ds gs before hval hW

end Go.Proofs.Ytndniigjlaccgaa.scanPlaces
namespace Go.Proofs.Ytndniigjlaccgaa
theorem scanPlaces_holds : Rows.ScanPlacesSaid :=
  OpenClaim.holds_of_wide 4 Try.f4 rfl rfl rfl rfl rfl rfl rfl ⟨rfl, rfl, rfl, rfl, rfl⟩ rfl rfl rfl rfl rfl (by kernel_rfl) Try.func4 (by kernel_rfl)
    (of_decide_eq_true (by kernel_rfl)) (by unfold Func.isWrapper; first | (rw [if_pos (by decide +kernel)]; kernel_rfl) | (rw [if_neg (by decide +kernel)]; exact ⟨rfl, rfl⟩))
    (fun os started H enc _ => scanPlaces.lifted os started H enc)
#print axioms scanPlaces_holds
end Go.Proofs.Ytndniigjlaccgaa
