/-
  DERIVED. 'ScanTextsUptoSaid', THE GIVEN STATEMENT, PROVED: of every list of numbers within the bound the law returns true, and what it was given reads as before.
  Conditions: the statement's own bound.
-/
import Derived.Test.YtndniigjlaccgaaRows
import Derived.ProofKit
import Derived.OpenShut
import Derived.JoinedCond
import Derived.Test.YtndniigjlaccgaaLaw
set_option linter.unusedVariables false
set_option linter.unusedSimpArgs false
namespace Go.Proofs.Ytndniigjlaccgaa.scanTexts
open Go.ChangeShapes Go.WideShapes Go.ChangeAt Go.RowKit Lift
open Go.ChangeMaps (open_string shut_string)

theorem own : ownKnob Try.prog.godebug = Option.none := by kernel_rfl

theorem walk (x0 : List Int) (v0 : Value) (w : World) (h0 : TRel Lift.A1.kk.u (fun k => w.heap[k]?) ⟨.slc (.int .i64), x0⟩ v0) (hm : x0.length ≤ 9000000) : Calls Try.prog 5 #[v0] w fun e w' => e = .returned (.bool true) ∧ Below w.heap.size w w' := by
  refine bool_of_post (K := Lift.A1.kk) (o := ⟨⟨[0], [], []⟩, [.t .bool], []⟩) (args := [v0]) (Lift.A1.racetreelaw01_ScanTexts_post [⟨.slc (.int .i64), x0⟩] 0 [⟨.bool, true⟩] ?_) rfl rfl rfl ⟨_, _, rfl, h0, rfl⟩
  show (Tr.get _ _).val = _
  rw [Lift.A1P.scanTexts1 x0 hm]
  rfl

theorem bulk_one {H : Type} (d : DataW H) : 1 ≤ Rows.uptoBulk d := by
  cases d with
  | lit l => cases l <;> simp [Rows.uptoBulk]
  | nil => simp [Rows.uptoBulk]
  | ptr d => simp [Rows.uptoBulk]
  | slice elems spare => simp [Rows.uptoBulk]
  | agg parts => simp [Rows.uptoBulk]
  | iface t d => simp [Rows.uptoBulk]
  | map entries => simp [Rows.uptoBulk]
  | held h => simp [Rows.uptoBulk]

theorem bulk_len {H : Type} (l : List (DataW H)) : l.length ≤ Rows.uptoBulkAll l := by
  induction l with
  | nil => simp [Rows.uptoBulkAll]
  | cons x r ih => have := bulk_one x; simp only [Rows.uptoBulkAll, List.length_cons]; omega

theorem contract (H : Type) (enc : TypeId × Value → H) (W : World) (base : Nat) (args : Array Value) (ds gs : List (DataW H)) (before : List MemPlace)
    (hval : ∀ (j : Nat) t v, Try.f5.params[j]? = some t → args[j]? = some v → Value.okWide Try.prog W .any base t v)
    (hW : DataW.Whole enc Try.prog Try.f5.params.toList Rows.scanTextsSpec.vars false W args.toList ds gs before) (hk : Rows.uptoSmall H (ds ++ gs) = true) :
    Calls Try.prog 5 args W fun e W' => ∃ v, e = .returned v ∧ Rows.scanTextsSpec.post enc Try.prog Try.f5 false true false false W args v W' := by
  have hW' := hW
  obtain ⟨p, q, hA0, hV, rfl, hfz, hnd⟩ := hW
  have hA : DataW.TrodAll enc Try.prog W 0 (fun _ => true) true Try.f5.params.toList args.toList ds p := hA0
  rw [Try.params5] at hA hval
  obtain ⟨v0, d0, rfl, rfl, h0⟩ := trodAll_one hA
  obtain ⟨rfl, rfl⟩ := trodVars_none hV
  obtain ⟨x0, t0, w0, wf0, dd0⟩ := open_ints_tv (u := Lift.A1.kk.u) Try.underlying36 Try.underlying3 (by kernel_rfl) (hval 0 36 v0 rfl rfl) h0
  have hlt : ∀ x ∈ p, x.block < W.heap.size := fun x hx => by simpa using hW'.lt x (List.mem_append_left _ hx)
  have hm : x0.length ≤ 9000000 := by
    rcases dd0 with ⟨_, rfl⟩ | ⟨r, rfl⟩
    · simp
    · have hb : Rows.uptoBulkAll ([DataW.slice (lits (H := H) .i64 x0) r] ++ []) ≤ 1048576 := of_decide_eq_true hk
      have hl := bulk_len (lits (H := H) .i64 x0)
      have he : (lits (H := H) .i64 x0).length = x0.length := by simp [lits]
      simp only [List.append_nil, Rows.uptoBulkAll, Rows.uptoBulk] at hb
      omega
  clear hA0
  simp only [List.append_nil] at hW'
  refine (walk x0 v0 W t0 hm).mono fun e W' ⟨he, hb⟩ => ?_
  subst he
  exact ⟨_, rfl, _, _, _, [], _, [], hW', trodAll_mk1 (shut_bool Try.underlying4 _), trodAll_mk1 (Below.trod (by kernel_rfl) (by kernel_rfl) (of_decide_eq_true (by kernel_rfl)) h0 hb hlt), rfl, hb.frame _, fun h => by cases h⟩

set_option maxRecDepth 100000 in
theorem lifted (os : Os) (started : os.Started) (H : Type) (enc : TypeId × Value → H) (F : Stop.Interp) :
    ReturnsInHanded {} Try.checked os 5 .any ((Rows.OpenSpec.upto Rows.scanTextsSpec).pre6 enc Try.prog Try.f5 Rows.scanTextsUptoRow.domain false) (((Rows.OpenSpec.upto Rows.scanTextsSpec).at F).post enc Try.prog Try.f5 false true false false) := by
  refine returnsInHanded_of_cond (C := Try.checked) (s := Rows.OpenSpec.upto Rows.scanTextsSpec) (k := Rows.uptoSmall) rfl own started (by kernel_rfl) Try.func5
    (OpenSpec.witness (enc := enc) (C := Try.checked) (s := Rows.OpenSpec.upto Rows.scanTextsSpec) (k := Rows.uptoSmall) rfl false ⟨#[], #[.slice Option.none 0 0], []⟩ 8 (by kernel_rfl) (by kernel_rfl) (by kernel_rfl)
      (x := ([.nil], [], [])) (by kernel_rfl) rfl (by kernel_rfl)) ?_
  intro W base args ds gs before hval hW _ hk _
  exact contract H enc W base args ds gs before hval hW hk

end Go.Proofs.Ytndniigjlaccgaa.scanTexts
namespace Go.Proofs.Ytndniigjlaccgaa
theorem scanTexts_over : Rows.scanTextsUptoRow.holds Try.pinned (Rows.OpenSpec.upto Rows.scanTextsSpec) :=
  OpenClaim.holds_of_cond 5 Try.f5 rfl rfl rfl rfl rfl rfl rfl ⟨rfl, rfl, rfl, rfl, rfl⟩ rfl rfl rfl rfl rfl (by kernel_rfl) Try.func5 (by kernel_rfl)
    (of_decide_eq_true (by kernel_rfl)) (by unfold Func.isWrapper; first | (rw [if_pos (by decide +kernel)]; kernel_rfl) | (rw [if_neg (by decide +kernel)]; exact ⟨rfl, rfl⟩))
    (fun os started H enc _ F => scanTexts.lifted os started H enc F)
theorem scanTexts_holds : Rows.ScanTextsUptoSaid := scanTexts_over
#print axioms scanTexts_holds
end Go.Proofs.Ytndniigjlaccgaa
