/-
  DERIVED. 'LexBlanksUptoCardSaid', THE GIVEN STATEMENT (THE TIED CARD), PROVED: of every two texts and number within the bound the law returns true, and what it was given reads as before.
  Conditions: the statement's own bound.
-/
import Derived.Test.YtheockdfnlfneaaDoorCards
import Derived.Test.YtheockdfnlfneaaDoorTie
import Derived.ProofKit
import Derived.OpenShut
import Derived.JoinedCond
import Derived.Deep.DeepHandedRow
import Derived.Deep.DeepWitnessRowRef
import Derived.Lay
import Derived.SevenTiedAt
import Derived.MakeChecks
import Derived.Test.YtheockdfnlfneaaDoorEnds
set_option linter.unusedVariables false
set_option linter.unusedSimpArgs false
namespace Go.Proofs.YtheockdfnlfneaaDoor.lexBlanks
open Go.ChangeShapes Go.WideShapes Go.ChangeAt Go.RowKit Lift

theorem own : ownKnob Tryd.prog.godebug = Option.none := by kernel_rfl

theorem bulky {H : Type} : Bulky (H := H) Rows.uptoBulk Rows.uptoBulkAll where
  lit := fun l => by cases l <;> simp [Rows.uptoBulk]
  str := fun s => by simp [Rows.uptoBulk]
  nil := by simp [Rows.uptoBulk]
  slice := fun a b => by simp [Rows.uptoBulk]
  agg := fun a => by simp [Rows.uptoBulk]
  cons := fun d r => by simp [Rows.uptoBulkAll]

def ts : List TypeId := [3, 9]
theorem fits : ∀ T ∈ ts, tyFits Lift.B2.kk ts (fun _ => 0) T = true := List.all_eq_true.1 (show ts.all (fun T => tyFits Lift.B2.kk ts (fun _ => 0) T) = true by kernel_rfl)
theorem makes : ∀ T ∈ ts, ∀ n, Lift.B2.kk.tyOf T = some (.st n) → ∀ cs, cs.map TV.t = Lift.B2.kk.u.ctys n → ∃ x, Lift.B2.kk.u.make n cs = some x := by
  intro T hT n hn cs hcs
  simp only [ts, List.mem_cons, List.not_mem_nil, or_false] at hT
  rcases hT with rfl | rfl
  · simp [Lift.B2.tyOf] at hn
  · simp [Lift.B2.tyOf] at hn

theorem walk (y0 : List UInt8) (v0 : Value) (y1 : Int) (v1 : Value) (y2 : List UInt8) (v2 : Value) (w : World) (hg : Lift.B2.globs w) (t0 : TRel Lift.B2.kk.u (fun k => w.heap[k]?) ⟨.str, y0⟩ v0) (t1 : TRel Lift.B2.kk.u (fun k => w.heap[k]?) ⟨.int .i64, y1⟩ v1) (t2 : TRel Lift.B2.kk.u (fun k => w.heap[k]?) ⟨.str, y2⟩ v2) (s0 : Sized Lift.B2.kk.u ⟨.str, y0⟩ 1048576) (s1 : Sized Lift.B2.kk.u ⟨.int .i64, y1⟩ 1048576) (s2 : Sized Lift.B2.kk.u ⟨.str, y2⟩ 1048576) : Calls Tryd.prog 6 #[v0, v1, v2] w fun e w' => e = .returned (.bool true) ∧ Below w.heap.size w w' := by
  refine bool_of_postV (K := Lift.B2.kk) (V := Lift.B2.env0) hg (room_of hg) (o := ⟨⟨[0], [], []⟩, [.t .bool], []⟩) (args := [v0, v1, v2]) (Lift.B2.racetreelaw02_LexBlanks_post [⟨.str, y0⟩, ⟨.int .i64, y1⟩, ⟨.str, y2⟩] 0 [⟨.bool, true⟩] ?_) rfl rfl rfl ⟨_, _, rfl, t0, ⟨_, _, rfl, t1, ⟨_, _, rfl, t2, rfl⟩⟩⟩
  show (Tr.get _ _).val = _
  rw [Lift.A1P.lexBlanks1 y0 y1 y2]
  rfl

set_option maxRecDepth 100000 in
theorem contract (H : Type) (enc : TypeId × Value → H) (W : World) (base : Nat) (args : Array Value) (ds gs : List (DataW H)) (before : List MemPlace)
    (hval : ∀ (j : Nat) t v, Tryd.f6.params[j]? = some t → args[j]? = some v → Value.okWide Tryd.prog W .any base t v)
    (hW : DataW.Whole enc Tryd.prog Tryd.f6.params.toList Rows.lexBlanksSpec.vars false W args.toList ds gs before) (hk : Rows.uptoSmall H (ds ++ gs) = true) (hg : Lift.B2.globs W) :
    Calls Tryd.prog 6 args W fun e W' => ∃ v, e = .returned v ∧ Rows.lexBlanksSpec.post enc Tryd.prog Tryd.f6 false true false false W args v W' := by
  have hW' := hW
  obtain ⟨p, q, hA0, hV, rfl, hfz, hnd⟩ := hW
  have hA : DataW.TrodAll enc Tryd.prog W 0 (fun _ => true) true Tryd.f6.params.toList args.toList ds p := hA0
  rw [Tryd.params6] at hA hval
  obtain ⟨v0, v1, v2, d0, d1, d2, p0, p1, p2, rfl, rfl, rfl, h0, h1, h2⟩ := trodAll_three hA
  obtain ⟨rfl, rfl⟩ := trodVars_none hV
  have hb : Rows.uptoBulkAll ([d0, d1, d2] ++ ([] : List (DataW H))) ≤ 1048576 := of_decide_eq_true hk
  simp only [List.cons_append, List.nil_append, List.append_nil, Rows.uptoBulkAll] at hb
  have l0 : ∀ x ∈ p0, x.block < W.heap.size := fun x hx => by simpa using hW'.lt x (by simp [hx])
  obtain ⟨y0, t0, ⟨a0, s0, b0⟩, _⟩ := open_arg (K := Lift.B2.kk) (wt := fun _ => 0) (bulk := Rows.uptoBulk) bulky fits makes (T := 9) (by decide) (ty := .str) (by kernel_rfl) (hval 0 9 v0 rfl rfl) h0
  have l1 : ∀ x ∈ p1, x.block < W.heap.size := fun x hx => by simpa using hW'.lt x (by simp [hx])
  obtain ⟨y1, t1, ⟨a1, s1, b1⟩, _⟩ := open_arg (K := Lift.B2.kk) (wt := fun _ => 0) (bulk := Rows.uptoBulk) bulky fits makes (T := 3) (by decide) (ty := .int .i64) (by kernel_rfl) (hval 1 3 v1 rfl rfl) h1
  have l2 : ∀ x ∈ p2, x.block < W.heap.size := fun x hx => by simpa using hW'.lt x (by simp [hx])
  obtain ⟨y2, t2, ⟨a2, s2, b2⟩, _⟩ := open_arg (K := Lift.B2.kk) (wt := fun _ => 0) (bulk := Rows.uptoBulk) bulky fits makes (T := 9) (by decide) (ty := .str) (by kernel_rfl) (hval 2 9 v2 rfl rfl) h2
  clear hA0
  simp only [List.append_nil] at hW'
  refine (walk y0 v0 y1 v1 y2 v2 W hg t0 t1 t2 (s0.le (by omega)) (s1.le (by omega)) (s2.le (by omega))).mono fun e W' ⟨he, hbl⟩ => ?_
  subst he
  exact ⟨_, rfl, _, _, _, [], _, [], hW', trodAll_mk1 (shut_bool Tryd.underlying4 _), trodAll_mk3 (Below.trod (by kernel_rfl) (by kernel_rfl) (of_decide_eq_true (by kernel_rfl)) h0 hbl l0) (Below.trod (by kernel_rfl) (by kernel_rfl) (of_decide_eq_true (by kernel_rfl)) h1 hbl l1) (Below.trod (by kernel_rfl) (by kernel_rfl) (of_decide_eq_true (by kernel_rfl)) h2 hbl l2), rfl, hbl.frame _, fun h => by cases h⟩

noncomputable def laidWorld (os : Os) : World := World.laidAll Tryd.prog os Rows.lexBlanksUptoRow.laid
theorem laid_met (os : Os) : laidMet Tryd.prog Rows.lexBlanksUptoRow.laid ((laidWorld os).forCall (fun _ _ => 0) ⟨#[], #[.string ⟨#[]⟩, .int .i64 0, .string ⟨#[]⟩], []⟩).memory :=
  laidMet_laidAll _ (by kernel_rfl) (by kernel_rfl)
theorem reads (os : Os) {H : Type} (enc : TypeId × Value → H) : ∃ places, DataW.whole enc Tryd.prog ((laidWorld os).forCall (fun _ _ => 0) ⟨#[], #[.string ⟨#[]⟩, .int .i64 0, .string ⟨#[]⟩], []⟩).memory Tryd.f6.params.toList Rows.lexBlanksSpec.vars false #[.string ⟨#[]⟩, .int .i64 0, .string ⟨#[]⟩].toList 8 = some ([.lit (.string []), .lit (.int .i64 0), .lit (.string [])], [], places) :=
  ⟨[], by kernel_rfl⟩

set_option maxRecDepth 100000 in
theorem lifted (os : Os) (started : os.Started) (H : Type) (enc : TypeId × Value → H) (F : Stop.Interp) :
    ReturnsInHanded {} Tryd.checked os 6 .any ((Rows.OpenSpec.upto Rows.lexBlanksSpec).preRow enc Tryd.prog Tryd.f6 Rows.lexBlanksUptoRow.domain false Rows.lexBlanksUptoRow.laid) (((Rows.OpenSpec.upto Rows.lexBlanksSpec).at F).post enc Tryd.prog Tryd.f6 false true false false) := by
  obtain ⟨places, hx⟩ := reads os enc
  refine returnsInHanded_of_row (C := Tryd.checked) (s := Rows.OpenSpec.upto Rows.lexBlanksSpec) own started (by kernel_rfl) Tryd.func6
    (witness_row_atRef (enc := enc) (C := Tryd.checked) false (laidWorld os) #[.string ⟨#[]⟩, .int .i64 0, .string ⟨#[]⟩] rfl (by kernel_rfl) (by kernel_rfl) (by kernel_rfl)
      (OpenSpec.preRow_of_cond 8 hx (by kernel_rfl) (fun k hk => by cases hk; kernel_rfl) (by kernel_rfl) (laid_met os))) ?_
  intro W base args ds gs before hval hW _ hcond _ hL hS _
  exact contract H enc W base args ds gs before hval hW (hcond _ rfl) (globs_of hL hS)

theorem said : Rows.LexBlanksUptoSaid :=
  OpenClaim.holds_of_cond 6 Tryd.f6 rfl rfl rfl rfl rfl rfl rfl ⟨rfl, rfl, rfl, rfl, rfl⟩ rfl rfl rfl rfl rfl (by kernel_rfl) Tryd.func6 (by kernel_rfl)
    (of_decide_eq_true (by kernel_rfl)) (by unfold Func.isWrapper; first | (rw [if_pos (by decide +kernel)]; kernel_rfl) | (rw [if_neg (by decide +kernel)]; exact ⟨rfl, rfl⟩))
    (fun os started H enc _ F => by rw [OpenClaim.pre_eq_preRow]; exact lifted os started H enc F)

theorem plain (f : FuncId) (fn : Func) (hf : Tryd.pinned.checked.prog.funcNamed "racetree/racetreelaw02.LexBlanks" = some f) (hfn : Tryd.pinned.checked.prog.funcs[f]? = some fn) :
    true = Tryd.pinned.checked.prog.looks [] ∧ ∀ (j : Nat) t, fn.params[j]? = some t → Tryd.pinned.checked.prog.wantsStandIn t = false := by
  obtain rfl : f = 6 := Option.some.inj ((show Tryd.prog.funcNamed "racetree/racetreelaw02.LexBlanks" = some 6 by kernel_rfl).symm.trans hf) |>.symm
  obtain rfl : fn = Tryd.f6 := (Option.some.inj (Tryd.func6.symm.trans hfn)).symm
  refine ⟨by kernel_rfl, fun j t ht => ?_⟩
  rw [Tryd.params6] at ht
  have hm := Array.mem_of_getElem? ht
  simp only [List.mem_toArray, List.mem_cons, List.not_mem_nil, or_false] at hm
  rcases hm with rfl | rfl | rfl
  · exact (show Tryd.prog.wantsStandIn 9 = false by kernel_rfl)
  · exact (show Tryd.prog.wantsStandIn 3 = false by kernel_rfl)
  · exact (show Tryd.prog.wantsStandIn 9 = false by kernel_rfl)
end Go.Proofs.YtheockdfnlfneaaDoor.lexBlanks
namespace Go.Proofs.YtheockdfnlfneaaDoor
theorem lexBlanks_card : Rows.LexBlanksUptoCardSaid :=
  Claim7.holds_tied_plain_at .later [] _ _ _ _ lexBlanks.said (fun _ h => by cases h) (by kernel_rfl) (fun _ h => by cases h) lexBlanksUpto_row_tie rfl ⟨rfl, rfl⟩ (by kernel_rfl) rfl lexBlanks.plain (by kernel_rfl)
#print axioms lexBlanks_card
end Go.Proofs.YtheockdfnlfneaaDoor
