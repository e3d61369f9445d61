/-
  DERIVED. Each function of this seat computes its Lean function. Conditions: as each theorem says.
-/
import Derived.Test.YtjllbkgpjcomcaaDoorFour
set_option linter.unusedVariables false
set_option linter.unusedSimpArgs false
set_option linter.unusedSectionVars false
namespace Lift.D3
open Go Go.RowKit Go.Proofs Lift Lift.Fn
open Lift.D2 (U kk uni cells ctys make tyOf eqOk mixed strings_Join_md strconv_Itoa_md strings_Builder_copyCheck_md strings_Builder_String_md)

noncomputable def report_between_int_sh : StSh := ⟨⟨[0, 1, 2], [], []⟩, [.t (.int .i64), .t (.int .i64), .t (.int .i64)], []⟩

noncomputable def report_between_int_os : List StSh := [⟨⟨[0], [], []⟩, [.t .bool], []⟩]

noncomputable def report_between_int_L : Nat → Option (Lift.Loop U) := fun n => none

noncomputable def report_between_int_enc : Nat → List (TV U) → Option (Bool)
  | 0, [⟨.bool, a0⟩] => some a0
  | _, _ => none

noncomputable def report_between_int_dec : Bool → Nat × List (TV U) := fun x => (0, [⟨.bool, x⟩])

noncomputable def report_between_int_tr : Bool → Tr (Nat × List (TV U)) := fun r => (fun x => .ret (0, [⟨.bool, x⟩])) r

noncomputable def report_between_int_md : Mode U := ⟨report_between_int_sh, [], report_between_int_os, fun ls => match ls with | [⟨(.int .i64), a0⟩, ⟨(.int .i64), a1⟩, ⟨(.int .i64), a2⟩] => .get (report_between_int a0 a1 a2) report_between_int_tr | _ => .fail⟩

theorem report_between_int_E (a0 : Int) (a1 : Int) (a2 : Int) : (Kit.withModes kk (modesOf ms8)).fnEval report_between_int_L Tryd.f38 report_between_int_sh report_between_int_os [⟨(.int .i64), a0⟩, ⟨(.int .i64), a1⟩, ⟨(.int .i64), a2⟩] report_between_int_enc = report_between_int_f a0 a1 a2 := by kernel_rfl

theorem report_between_int_post : ∀ ls j rs, (report_between_int_md.sum ls).val = some (j, rs) → FnPost kk env0 38 report_between_int_sh report_between_int_os ls j rs := by
  have inner : LoopsOk (Kit.withModes kk (modesOf ms8)) env0 Tryd.f38.ntmps report_between_int_L (bodyOf Tryd.f38) := by
    exact loopsOk_of (bs := []) (by kernel_rfl) trivial
  intro ls j rs h
  simp only [report_between_int_md] at h
  split at h
  · obtain ⟨r, hr, h⟩ := Tr.get_val h
    rw [report_between_int, sealF_eq] at hr
    have hd : report_between_int_dec r = (j, rs) := by
      exact Option.some.inj h
    refine FnPost.modes.1 (fn_sound (kitOk_of eqOk mixed known8) (by kernel_rfl) inner ((report_between_int_E _ _ _).trans hr) ?_)
    intro i qs he
    unfold report_between_int_enc at he
    split at he <;> cases he <;> (cases hd; exact ⟨rfl, rfl⟩)
  · cases h

noncomputable def ms9 : List (FuncId × Mode U) := (38, report_between_int_md) :: ms8

theorem known9 : Known kk env0 (modesOf ms9) := known_cons (by kernel_rfl) report_between_int_post known8

noncomputable def report_thread_sh : StSh := ⟨⟨[0], [], []⟩, [.t (.int .i64)], []⟩

noncomputable def report_thread_os : List StSh := [⟨⟨[0], [], []⟩, [.t .bool], []⟩]

noncomputable def report_thread_L : Nat → Option (Lift.Loop U) := fun n => none

noncomputable def report_thread_enc : Nat → List (TV U) → Option (Bool)
  | 0, [⟨.bool, a0⟩] => some a0
  | _, _ => none

noncomputable def report_thread_dec : Bool → Nat × List (TV U) := fun x => (0, [⟨.bool, x⟩])

noncomputable def report_thread_tr : Bool → Tr (Nat × List (TV U)) := fun r => (fun x => .ret (0, [⟨.bool, x⟩])) r

noncomputable def report_thread_md : Mode U := ⟨report_thread_sh, [], report_thread_os, fun ls => match ls with | [⟨(.int .i64), a0⟩] => .get (report_thread a0) report_thread_tr | _ => .fail⟩

theorem report_thread_E (a0 : Int) : (Kit.withModes kk (modesOf ms9)).fnEval report_thread_L Tryd.f35 report_thread_sh report_thread_os [⟨(.int .i64), a0⟩] report_thread_enc = report_thread_f a0 := by kernel_rfl

theorem report_thread_post : ∀ ls j rs, (report_thread_md.sum ls).val = some (j, rs) → FnPost kk env0 35 report_thread_sh report_thread_os ls j rs := by
  have inner : LoopsOk (Kit.withModes kk (modesOf ms9)) env0 Tryd.f35.ntmps report_thread_L (bodyOf Tryd.f35) := by
    exact loopsOk_of (bs := []) (by kernel_rfl) trivial
  intro ls j rs h
  simp only [report_thread_md] at h
  split at h
  · obtain ⟨r, hr, h⟩ := Tr.get_val h
    rw [report_thread, sealF_eq] at hr
    have hd : report_thread_dec r = (j, rs) := by
      exact Option.some.inj h
    refine FnPost.modes.1 (fn_sound (kitOk_of eqOk mixed known9) (by kernel_rfl) inner ((report_thread_E _).trans hr) ?_)
    intro i qs he
    unfold report_thread_enc at he
    split at he <;> cases he <;> (cases hd; exact ⟨rfl, rfl⟩)
  · cases h

noncomputable def ms10 : List (FuncId × Mode U) := (35, report_thread_md) :: ms9

theorem known10 : Known kk env0 (modesOf ms10) := known_cons (by kernel_rfl) report_thread_post known9

noncomputable def report_right_1_sh : StSh := ⟨⟨[0], [], []⟩, [.t (.int .i64)], []⟩

noncomputable def report_right_1_os : List StSh := [⟨⟨[0], [], []⟩, [.t .bool], []⟩]

noncomputable def report_right_1_L : Nat → Option (Lift.Loop U) := fun n => none

noncomputable def report_right_1_enc : Nat → List (TV U) → Option (Bool)
  | 0, [⟨.bool, a0⟩] => some a0
  | _, _ => none

noncomputable def report_right_1_dec : Bool → Nat × List (TV U) := fun x => (0, [⟨.bool, x⟩])

noncomputable def report_right_1_tr : Bool → Tr (Nat × List (TV U)) := fun r => (fun x => .ret (0, [⟨.bool, x⟩])) r

noncomputable def report_right_1_md : Mode U := ⟨report_right_1_sh, [], report_right_1_os, fun ls => match ls with | [⟨(.int .i64), a0⟩] => .get (report_right_1 a0) report_right_1_tr | _ => .fail⟩

theorem report_right_1_E (a0 : Int) : (Kit.withModes kk (modesOf ms10)).fnEval report_right_1_L Tryd.f37 report_right_1_sh report_right_1_os [⟨(.int .i64), a0⟩] report_right_1_enc = report_right_1_f a0 := by kernel_rfl

theorem report_right_1_post : ∀ ls j rs, (report_right_1_md.sum ls).val = some (j, rs) → FnPost kk env0 37 report_right_1_sh report_right_1_os ls j rs := by
  have inner : LoopsOk (Kit.withModes kk (modesOf ms10)) env0 Tryd.f37.ntmps report_right_1_L (bodyOf Tryd.f37) := by
    exact loopsOk_of (bs := []) (by kernel_rfl) trivial
  intro ls j rs h
  simp only [report_right_1_md] at h
  split at h
  · obtain ⟨r, hr, h⟩ := Tr.get_val h
    rw [report_right_1, sealF_eq] at hr
    have hd : report_right_1_dec r = (j, rs) := by
      exact Option.some.inj h
    refine FnPost.modes.1 (fn_sound (kitOk_of eqOk mixed known10) (by kernel_rfl) inner ((report_right_1_E _).trans hr) ?_)
    intro i qs he
    unfold report_right_1_enc at he
    split at he <;> cases he <;> (cases hd; exact ⟨rfl, rfl⟩)
  · cases h

noncomputable def ms11 : List (FuncId × Mode U) := (37, report_right_1_md) :: ms10

theorem known11 : Known kk env0 (modesOf ms11) := known_cons (by kernel_rfl) report_right_1_post known10

noncomputable def slices_IndexFunc_int_int_sh2 : StSh := ⟨⟨[0, 1, 7, 8], [], []⟩, [.t (.slc (.int .i64)), .fnc 37, .t (.int .i64), .t (.int .i64)], []⟩

noncomputable def slices_IndexFunc_int_int_o2 : List Out := [⟨.ret, ⟨⟨[4], [], []⟩, [.t (.int .i64)], []⟩⟩, ⟨.exit 0, ⟨⟨[], [], []⟩, [], []⟩⟩]

noncomputable def slices_IndexFunc_int_int_b2 : Code := (nthLoop (bodyOf Tryd.f54) 0)

noncomputable def slices_IndexFunc_int_int_L2 : Nat → Option (Lift.Loop U) := fun n => none

noncomputable def slices_IndexFunc_int_int_rec2 (rec : List (Int) → Int → Int → Option ((Int) ⊕ (Unit))) : List (TV U) → Option ((Int) ⊕ (Unit))
  | [⟨(.slc (.int .i64)), a0⟩, ⟨(.int .i64), a1⟩, ⟨(.int .i64), a2⟩] => rec a0 a1 a2
  | _ => none

noncomputable def slices_IndexFunc_int_int_enc2 : Nat → List (TV U) → Option ((Int) ⊕ (Unit))
  | 0, [⟨(.int .i64), a0⟩] => some (.inl a0)
  | 1, [] => some (.inr ())
  | _, _ => none

noncomputable def slices_IndexFunc_int_int_dec2 : (Int) ⊕ (Unit) → Nat × List (TV U) := fun r => match r with | (.inl x) => (0, [⟨(.int .i64), x⟩]) | (.inr x) => (1, [])

noncomputable def slices_IndexFunc_int_int_tr2 : (Int) ⊕ (Unit) → Tr (Nat × List (TV U)) := fun r => .alt r (fun x => .ret (0, [⟨(.int .i64), x⟩])) (fun y => (fun x => .ret (1, [])) y)

noncomputable def slices_IndexFunc_int_int_lp2 : Lift.Loop U := ⟨slices_IndexFunc_int_int_sh2, slices_IndexFunc_int_int_o2, fun ls => match ls with | [⟨(.slc (.int .i64)), a0⟩, ⟨(.int .i64), a1⟩, ⟨(.int .i64), a2⟩] => .get (slices_IndexFunc_int_int_l2 a0 a1 a2) slices_IndexFunc_int_int_tr2 | _ => .fail⟩

theorem slices_IndexFunc_int_int_E2 (rec : List (Int) → Int → Int → Option ((Int) ⊕ (Unit))) (a0 : List (Int)) (a1 : Int) (a2 : Int) : (Kit.withModes kk (modesOf ms11)).turn Tryd.f54.ntmps slices_IndexFunc_int_int_L2 slices_IndexFunc_int_int_sh2 slices_IndexFunc_int_int_o2 slices_IndexFunc_int_int_b2 [⟨(.slc (.int .i64)), a0⟩, ⟨(.int .i64), a1⟩, ⟨(.int .i64), a2⟩] (slices_IndexFunc_int_int_rec2 rec) slices_IndexFunc_int_int_enc2 = slices_IndexFunc_int_int_t2 rec a0 a1 a2 := by kernel_rfl

theorem slices_IndexFunc_int_int_ok2 : ∀ ls j rs, (slices_IndexFunc_int_int_lp2.sum ls).val = some (j, rs) → RoundPost kk env0 Tryd.f54.ntmps slices_IndexFunc_int_int_b2 slices_IndexFunc_int_int_lp2.sh slices_IndexFunc_int_int_lp2.outs ls j rs := by
  have inner : LoopsOk (Kit.withModes kk (modesOf ms11)) env0 Tryd.f54.ntmps slices_IndexFunc_int_int_L2 slices_IndexFunc_int_int_b2 := by
    exact loopsOk_of (bs := []) (by kernel_rfl) trivial
  have key : ∀ n a0 a1 a2 r j rs, slices_IndexFunc_int_int_i2 n a0 a1 a2 = some r → slices_IndexFunc_int_int_dec2 r = (j, rs) → RoundPost kk env0 Tryd.f54.ntmps slices_IndexFunc_int_int_b2 slices_IndexFunc_int_int_sh2 slices_IndexFunc_int_int_o2 [⟨(.slc (.int .i64)), a0⟩, ⟨(.int .i64), a1⟩, ⟨(.int .i64), a2⟩] j rs := by
    intro n
    induction n with
    | zero => intro a0 a1 a2 r j rs h; cases h
    | succ n ih =>
      intro a0 a1 a2 r j rs h hd
      refine RoundPost.modes.1 (turn_sound (kitOk_of eqOk mixed known11) inner ((slices_IndexFunc_int_int_E2 (slices_IndexFunc_int_int_i2 n) a0 a1 a2).trans h) (fun q hq => RoundPost.modes.2 ?_) ?_)
      · unfold slices_IndexFunc_int_int_rec2 at hq
        split at hq
        · exact ih _ _ _ r j rs hq hd
        · cases hq
      · intro i qs he
        unfold slices_IndexFunc_int_int_enc2 at he
        split at he <;> cases he <;> (cases hd; exact ⟨rfl, rfl⟩)
  intro ls j rs h
  simp only [slices_IndexFunc_int_int_lp2] at h
  split at h
  · obtain ⟨r, hr, h⟩ := Tr.get_val h
    rw [slices_IndexFunc_int_int_l2, sealF_eq] at hr
    refine key fuel _ _ _ r j rs hr ?_
    rcases r with r | r <;> exact Option.some.inj h
  · cases h

noncomputable def slices_IndexFunc_int_int_sh : StSh := ⟨⟨[0, 1], [], []⟩, [.t (.slc (.int .i64)), .fnc 37], []⟩

noncomputable def slices_IndexFunc_int_int_os : List StSh := [⟨⟨[0], [], []⟩, [.t (.int .i64)], []⟩]

noncomputable def slices_IndexFunc_int_int_L : Nat → Option (Lift.Loop U) := fun n => bif Nat.beq n 2 then some slices_IndexFunc_int_int_lp2 else none

noncomputable def slices_IndexFunc_int_int_enc : Nat → List (TV U) → Option (Int)
  | 0, [⟨(.int .i64), a0⟩] => some a0
  | _, _ => none

noncomputable def slices_IndexFunc_int_int_dec : Int → Nat × List (TV U) := fun x => (0, [⟨(.int .i64), x⟩])

noncomputable def slices_IndexFunc_int_int_tr : Int → Tr (Nat × List (TV U)) := fun r => (fun x => .ret (0, [⟨(.int .i64), x⟩])) r

noncomputable def slices_IndexFunc_int_int_md : Mode U := ⟨slices_IndexFunc_int_int_sh, [], slices_IndexFunc_int_int_os, fun ls => match ls with | [⟨(.slc (.int .i64)), a0⟩] => .get (slices_IndexFunc_int_int a0) slices_IndexFunc_int_int_tr | _ => .fail⟩

theorem slices_IndexFunc_int_int_E (a0 : List (Int)) : (Kit.withModes kk (modesOf ms11)).fnEval slices_IndexFunc_int_int_L Tryd.f54 slices_IndexFunc_int_int_sh slices_IndexFunc_int_int_os [⟨(.slc (.int .i64)), a0⟩] slices_IndexFunc_int_int_enc = slices_IndexFunc_int_int_f a0 := by kernel_rfl

theorem slices_IndexFunc_int_int_post : ∀ ls j rs, (slices_IndexFunc_int_int_md.sum ls).val = some (j, rs) → FnPost kk env0 54 slices_IndexFunc_int_int_sh slices_IndexFunc_int_int_os ls j rs := by
  have inner : LoopsOk (Kit.withModes kk (modesOf ms11)) env0 Tryd.f54.ntmps slices_IndexFunc_int_int_L (bodyOf Tryd.f54) := by
    exact loopsOk_of (bs := [slices_IndexFunc_int_int_b2]) (by kernel_rfl) ⟨.inr ⟨_, by kernel_rfl, LoopOk.of_round slices_IndexFunc_int_int_ok2⟩, trivial⟩
  intro ls j rs h
  simp only [slices_IndexFunc_int_int_md] at h
  split at h
  · obtain ⟨r, hr, h⟩ := Tr.get_val h
    rw [slices_IndexFunc_int_int, sealF_eq] at hr
    have hd : slices_IndexFunc_int_int_dec r = (j, rs) := by
      exact Option.some.inj h
    refine FnPost.modes.1 (fn_sound (kitOk_of eqOk mixed known11) (by kernel_rfl) inner ((slices_IndexFunc_int_int_E _).trans hr) ?_)
    intro i qs he
    unfold slices_IndexFunc_int_int_enc at he
    split at he <;> cases he <;> (cases hd; exact ⟨rfl, rfl⟩)
  · cases h

noncomputable def ms12 : List (FuncId × Mode U) := (54, slices_IndexFunc_int_int_md) :: ms11

theorem known12 : Known kk env0 (modesOf ms12) := known_cons (by kernel_rfl) slices_IndexFunc_int_int_post known11

noncomputable def slices_ContainsFunc_int_int_sh : StSh := ⟨⟨[0, 1], [], []⟩, [.t (.slc (.int .i64)), .fnc 37], []⟩

noncomputable def slices_ContainsFunc_int_int_os : List StSh := [⟨⟨[0], [], []⟩, [.t .bool], []⟩]

noncomputable def slices_ContainsFunc_int_int_L : Nat → Option (Lift.Loop U) := fun n => none

noncomputable def slices_ContainsFunc_int_int_enc : Nat → List (TV U) → Option (Bool)
  | 0, [⟨.bool, a0⟩] => some a0
  | _, _ => none

noncomputable def slices_ContainsFunc_int_int_dec : Bool → Nat × List (TV U) := fun x => (0, [⟨.bool, x⟩])

noncomputable def slices_ContainsFunc_int_int_tr : Bool → Tr (Nat × List (TV U)) := fun r => (fun x => .ret (0, [⟨.bool, x⟩])) r

noncomputable def slices_ContainsFunc_int_int_md : Mode U := ⟨slices_ContainsFunc_int_int_sh, [], slices_ContainsFunc_int_int_os, fun ls => match ls with | [⟨(.slc (.int .i64)), a0⟩] => .get (slices_ContainsFunc_int_int a0) slices_ContainsFunc_int_int_tr | _ => .fail⟩

theorem slices_ContainsFunc_int_int_E (a0 : List (Int)) : (Kit.withModes kk (modesOf ms12)).fnEval slices_ContainsFunc_int_int_L Tryd.f36 slices_ContainsFunc_int_int_sh slices_ContainsFunc_int_int_os [⟨(.slc (.int .i64)), a0⟩] slices_ContainsFunc_int_int_enc = slices_ContainsFunc_int_int_f a0 := by kernel_rfl

theorem slices_ContainsFunc_int_int_post : ∀ ls j rs, (slices_ContainsFunc_int_int_md.sum ls).val = some (j, rs) → FnPost kk env0 36 slices_ContainsFunc_int_int_sh slices_ContainsFunc_int_int_os ls j rs := by
  have inner : LoopsOk (Kit.withModes kk (modesOf ms12)) env0 Tryd.f36.ntmps slices_ContainsFunc_int_int_L (bodyOf Tryd.f36) := by
    exact loopsOk_of (bs := []) (by kernel_rfl) trivial
  intro ls j rs h
  simp only [slices_ContainsFunc_int_int_md] at h
  split at h
  · obtain ⟨r, hr, h⟩ := Tr.get_val h
    rw [slices_ContainsFunc_int_int, sealF_eq] at hr
    have hd : slices_ContainsFunc_int_int_dec r = (j, rs) := by
      exact Option.some.inj h
    refine FnPost.modes.1 (fn_sound (kitOk_of eqOk mixed known12) (by kernel_rfl) inner ((slices_ContainsFunc_int_int_E _).trans hr) ?_)
    intro i qs he
    unfold slices_ContainsFunc_int_int_enc at he
    split at he <;> cases he <;> (cases hd; exact ⟨rfl, rfl⟩)
  · cases h

noncomputable def ms13 : List (FuncId × Mode U) := (36, slices_ContainsFunc_int_int_md) :: ms12

theorem known13 : Known kk env0 (modesOf ms13) := known_cons (by kernel_rfl) slices_ContainsFunc_int_int_post known12

noncomputable def report_right_sh : StSh := ⟨⟨[0], [], []⟩, [.t (.st 30)], []⟩

noncomputable def report_right_os : List StSh := [⟨⟨[0], [], []⟩, [.t .bool], []⟩]

noncomputable def report_right_L : Nat → Option (Lift.Loop U) := fun n => none

noncomputable def report_right_enc : Nat → List (TV U) → Option (Bool)
  | 0, [⟨.bool, a0⟩] => some a0
  | _, _ => none

noncomputable def report_right_dec : Bool → Nat × List (TV U) := fun x => (0, [⟨.bool, x⟩])

noncomputable def report_right_tr : Bool → Tr (Nat × List (TV U)) := fun r => (fun x => .ret (0, [⟨.bool, x⟩])) r

noncomputable def report_right_md : Mode U := ⟨report_right_sh, [], report_right_os, fun ls => match ls with | [⟨(.st 30), a0⟩] => .get (report_right a0) report_right_tr | _ => .fail⟩

theorem report_right_E (a0 : Finding) : (Kit.withModes kk (modesOf ms13)).fnEval report_right_L Tryd.f19 report_right_sh report_right_os [⟨(.st 30), a0⟩] report_right_enc = report_right_f a0 := by kernel_rfl

theorem report_right_post : ∀ ls j rs, (report_right_md.sum ls).val = some (j, rs) → FnPost kk env0 19 report_right_sh report_right_os ls j rs := by
  have inner : LoopsOk (Kit.withModes kk (modesOf ms13)) env0 Tryd.f19.ntmps report_right_L (bodyOf Tryd.f19) := by
    exact loopsOk_of (bs := []) (by kernel_rfl) trivial
  intro ls j rs h
  simp only [report_right_md] at h
  split at h
  · obtain ⟨r, hr, h⟩ := Tr.get_val h
    rw [report_right, sealF_eq] at hr
    have hd : report_right_dec r = (j, rs) := by
      exact Option.some.inj h
    refine FnPost.modes.1 (fn_sound (kitOk_of eqOk mixed known13) (by kernel_rfl) inner ((report_right_E _).trans hr) ?_)
    intro i qs he
    unfold report_right_enc at he
    split at he <;> cases he <;> (cases hd; exact ⟨rfl, rfl⟩)
  · cases h

noncomputable def ms14 : List (FuncId × Mode U) := (19, report_right_md) :: ms13

theorem known14 : Known kk env0 (modesOf ms14) := known_cons (by kernel_rfl) report_right_post known13

noncomputable def report_Print_1_sh : StSh := ⟨⟨[0], [], []⟩, [.t (.st 30)], []⟩

noncomputable def report_Print_1_os : List StSh := [⟨⟨[0], [], []⟩, [.t .bool], []⟩]

noncomputable def report_Print_1_L : Nat → Option (Lift.Loop U) := fun n => none

noncomputable def report_Print_1_enc : Nat → List (TV U) → Option (Bool)
  | 0, [⟨.bool, a0⟩] => some a0
  | _, _ => none

noncomputable def report_Print_1_dec : Bool → Nat × List (TV U) := fun x => (0, [⟨.bool, x⟩])

noncomputable def report_Print_1_tr : Bool → Tr (Nat × List (TV U)) := fun r => (fun x => .ret (0, [⟨.bool, x⟩])) r

noncomputable def report_Print_1_md : Mode U := ⟨report_Print_1_sh, [], report_Print_1_os, fun ls => match ls with | [⟨(.st 30), a0⟩] => .get (report_Print_1 a0) report_Print_1_tr | _ => .fail⟩

theorem report_Print_1_E (a0 : Finding) : (Kit.withModes kk (modesOf ms14)).fnEval report_Print_1_L Tryd.f18 report_Print_1_sh report_Print_1_os [⟨(.st 30), a0⟩] report_Print_1_enc = report_Print_1_f a0 := by kernel_rfl

theorem report_Print_1_post : ∀ ls j rs, (report_Print_1_md.sum ls).val = some (j, rs) → FnPost kk env0 18 report_Print_1_sh report_Print_1_os ls j rs := by
  have inner : LoopsOk (Kit.withModes kk (modesOf ms14)) env0 Tryd.f18.ntmps report_Print_1_L (bodyOf Tryd.f18) := by
    exact loopsOk_of (bs := []) (by kernel_rfl) trivial
  intro ls j rs h
  simp only [report_Print_1_md] at h
  split at h
  · obtain ⟨r, hr, h⟩ := Tr.get_val h
    rw [report_Print_1, sealF_eq] at hr
    have hd : report_Print_1_dec r = (j, rs) := by
      exact Option.some.inj h
    refine FnPost.modes.1 (fn_sound (kitOk_of eqOk mixed known14) (by kernel_rfl) inner ((report_Print_1_E _).trans hr) ?_)
    intro i qs he
    unfold report_Print_1_enc at he
    split at he <;> cases he <;> (cases hd; exact ⟨rfl, rfl⟩)
  · cases h

noncomputable def ms15 : List (FuncId × Mode U) := (18, report_Print_1_md) :: ms14

theorem known15 : Known kk env0 (modesOf ms15) := known_cons (by kernel_rfl) report_Print_1_post known14

noncomputable def slices_IndexFunc_api_Finding_api_Finding_sh2 : StSh := ⟨⟨[0, 1, 7, 8], [], []⟩, [.t (.slc (.st 30)), .fnc 18, .t (.int .i64), .t (.int .i64)], []⟩

noncomputable def slices_IndexFunc_api_Finding_api_Finding_o2 : List Out := [⟨.ret, ⟨⟨[4], [], []⟩, [.t (.int .i64)], []⟩⟩, ⟨.exit 0, ⟨⟨[], [], []⟩, [], []⟩⟩]

noncomputable def slices_IndexFunc_api_Finding_api_Finding_b2 : Code := (nthLoop (bodyOf Tryd.f34) 0)

noncomputable def slices_IndexFunc_api_Finding_api_Finding_L2 : Nat → Option (Lift.Loop U) := fun n => none

noncomputable def slices_IndexFunc_api_Finding_api_Finding_rec2 (rec : List (Finding) → Int → Int → Option ((Int) ⊕ (Unit))) : List (TV U) → Option ((Int) ⊕ (Unit))
  | [⟨(.slc (.st 30)), a0⟩, ⟨(.int .i64), a1⟩, ⟨(.int .i64), a2⟩] => rec a0 a1 a2
  | _ => none

noncomputable def slices_IndexFunc_api_Finding_api_Finding_enc2 : Nat → List (TV U) → Option ((Int) ⊕ (Unit))
  | 0, [⟨(.int .i64), a0⟩] => some (.inl a0)
  | 1, [] => some (.inr ())
  | _, _ => none

noncomputable def slices_IndexFunc_api_Finding_api_Finding_dec2 : (Int) ⊕ (Unit) → Nat × List (TV U) := fun r => match r with | (.inl x) => (0, [⟨(.int .i64), x⟩]) | (.inr x) => (1, [])

noncomputable def slices_IndexFunc_api_Finding_api_Finding_tr2 : (Int) ⊕ (Unit) → Tr (Nat × List (TV U)) := fun r => .alt r (fun x => .ret (0, [⟨(.int .i64), x⟩])) (fun y => (fun x => .ret (1, [])) y)

noncomputable def slices_IndexFunc_api_Finding_api_Finding_lp2 : Lift.Loop U := ⟨slices_IndexFunc_api_Finding_api_Finding_sh2, slices_IndexFunc_api_Finding_api_Finding_o2, fun ls => match ls with | [⟨(.slc (.st 30)), a0⟩, ⟨(.int .i64), a1⟩, ⟨(.int .i64), a2⟩] => .get (slices_IndexFunc_api_Finding_api_Finding_l2 a0 a1 a2) slices_IndexFunc_api_Finding_api_Finding_tr2 | _ => .fail⟩

theorem slices_IndexFunc_api_Finding_api_Finding_E2 (rec : List (Finding) → Int → Int → Option ((Int) ⊕ (Unit))) (a0 : List (Finding)) (a1 : Int) (a2 : Int) : (Kit.withModes kk (modesOf ms15)).turn Tryd.f34.ntmps slices_IndexFunc_api_Finding_api_Finding_L2 slices_IndexFunc_api_Finding_api_Finding_sh2 slices_IndexFunc_api_Finding_api_Finding_o2 slices_IndexFunc_api_Finding_api_Finding_b2 [⟨(.slc (.st 30)), a0⟩, ⟨(.int .i64), a1⟩, ⟨(.int .i64), a2⟩] (slices_IndexFunc_api_Finding_api_Finding_rec2 rec) slices_IndexFunc_api_Finding_api_Finding_enc2 = slices_IndexFunc_api_Finding_api_Finding_t2 rec a0 a1 a2 := by kernel_rfl

theorem slices_IndexFunc_api_Finding_api_Finding_ok2 : ∀ ls j rs, (slices_IndexFunc_api_Finding_api_Finding_lp2.sum ls).val = some (j, rs) → RoundPost kk env0 Tryd.f34.ntmps slices_IndexFunc_api_Finding_api_Finding_b2 slices_IndexFunc_api_Finding_api_Finding_lp2.sh slices_IndexFunc_api_Finding_api_Finding_lp2.outs ls j rs := by
  have inner : LoopsOk (Kit.withModes kk (modesOf ms15)) env0 Tryd.f34.ntmps slices_IndexFunc_api_Finding_api_Finding_L2 slices_IndexFunc_api_Finding_api_Finding_b2 := by
    exact loopsOk_of (bs := []) (by kernel_rfl) trivial
  have key : ∀ n a0 a1 a2 r j rs, slices_IndexFunc_api_Finding_api_Finding_i2 n a0 a1 a2 = some r → slices_IndexFunc_api_Finding_api_Finding_dec2 r = (j, rs) → RoundPost kk env0 Tryd.f34.ntmps slices_IndexFunc_api_Finding_api_Finding_b2 slices_IndexFunc_api_Finding_api_Finding_sh2 slices_IndexFunc_api_Finding_api_Finding_o2 [⟨(.slc (.st 30)), a0⟩, ⟨(.int .i64), a1⟩, ⟨(.int .i64), a2⟩] j rs := by
    intro n
    induction n with
    | zero => intro a0 a1 a2 r j rs h; cases h
    | succ n ih =>
      intro a0 a1 a2 r j rs h hd
      refine RoundPost.modes.1 (turn_sound (kitOk_of eqOk mixed known15) inner ((slices_IndexFunc_api_Finding_api_Finding_E2 (slices_IndexFunc_api_Finding_api_Finding_i2 n) a0 a1 a2).trans h) (fun q hq => RoundPost.modes.2 ?_) ?_)
      · unfold slices_IndexFunc_api_Finding_api_Finding_rec2 at hq
        split at hq
        · exact ih _ _ _ r j rs hq hd
        · cases hq
      · intro i qs he
        unfold slices_IndexFunc_api_Finding_api_Finding_enc2 at he
        split at he <;> cases he <;> (cases hd; exact ⟨rfl, rfl⟩)
  intro ls j rs h
  simp only [slices_IndexFunc_api_Finding_api_Finding_lp2] at h
  split at h
  · obtain ⟨r, hr, h⟩ := Tr.get_val h
    rw [slices_IndexFunc_api_Finding_api_Finding_l2, sealF_eq] at hr
    refine key fuel _ _ _ r j rs hr ?_
    rcases r with r | r <;> exact Option.some.inj h
  · cases h

noncomputable def slices_IndexFunc_api_Finding_api_Finding_sh : StSh := ⟨⟨[0, 1], [], []⟩, [.t (.slc (.st 30)), .fnc 18], []⟩

noncomputable def slices_IndexFunc_api_Finding_api_Finding_os : List StSh := [⟨⟨[0], [], []⟩, [.t (.int .i64)], []⟩]

noncomputable def slices_IndexFunc_api_Finding_api_Finding_L : Nat → Option (Lift.Loop U) := fun n => bif Nat.beq n 2 then some slices_IndexFunc_api_Finding_api_Finding_lp2 else none

noncomputable def slices_IndexFunc_api_Finding_api_Finding_enc : Nat → List (TV U) → Option (Int)
  | 0, [⟨(.int .i64), a0⟩] => some a0
  | _, _ => none

noncomputable def slices_IndexFunc_api_Finding_api_Finding_dec : Int → Nat × List (TV U) := fun x => (0, [⟨(.int .i64), x⟩])

noncomputable def slices_IndexFunc_api_Finding_api_Finding_tr : Int → Tr (Nat × List (TV U)) := fun r => (fun x => .ret (0, [⟨(.int .i64), x⟩])) r

noncomputable def slices_IndexFunc_api_Finding_api_Finding_md : Mode U := ⟨slices_IndexFunc_api_Finding_api_Finding_sh, [], slices_IndexFunc_api_Finding_api_Finding_os, fun ls => match ls with | [⟨(.slc (.st 30)), a0⟩] => .get (slices_IndexFunc_api_Finding_api_Finding a0) slices_IndexFunc_api_Finding_api_Finding_tr | _ => .fail⟩

theorem slices_IndexFunc_api_Finding_api_Finding_E (a0 : List (Finding)) : (Kit.withModes kk (modesOf ms15)).fnEval slices_IndexFunc_api_Finding_api_Finding_L Tryd.f34 slices_IndexFunc_api_Finding_api_Finding_sh slices_IndexFunc_api_Finding_api_Finding_os [⟨(.slc (.st 30)), a0⟩] slices_IndexFunc_api_Finding_api_Finding_enc = slices_IndexFunc_api_Finding_api_Finding_f a0 := by kernel_rfl

theorem slices_IndexFunc_api_Finding_api_Finding_post : ∀ ls j rs, (slices_IndexFunc_api_Finding_api_Finding_md.sum ls).val = some (j, rs) → FnPost kk env0 34 slices_IndexFunc_api_Finding_api_Finding_sh slices_IndexFunc_api_Finding_api_Finding_os ls j rs := by
  have inner : LoopsOk (Kit.withModes kk (modesOf ms15)) env0 Tryd.f34.ntmps slices_IndexFunc_api_Finding_api_Finding_L (bodyOf Tryd.f34) := by
    exact loopsOk_of (bs := [slices_IndexFunc_api_Finding_api_Finding_b2]) (by kernel_rfl) ⟨.inr ⟨_, by kernel_rfl, LoopOk.of_round slices_IndexFunc_api_Finding_api_Finding_ok2⟩, trivial⟩
  intro ls j rs h
  simp only [slices_IndexFunc_api_Finding_api_Finding_md] at h
  split at h
  · obtain ⟨r, hr, h⟩ := Tr.get_val h
    rw [slices_IndexFunc_api_Finding_api_Finding, sealF_eq] at hr
    have hd : slices_IndexFunc_api_Finding_api_Finding_dec r = (j, rs) := by
      exact Option.some.inj h
    refine FnPost.modes.1 (fn_sound (kitOk_of eqOk mixed known15) (by kernel_rfl) inner ((slices_IndexFunc_api_Finding_api_Finding_E _).trans hr) ?_)
    intro i qs he
    unfold slices_IndexFunc_api_Finding_api_Finding_enc at he
    split at he <;> cases he <;> (cases hd; exact ⟨rfl, rfl⟩)
  · cases h

noncomputable def ms16 : List (FuncId × Mode U) := (34, slices_IndexFunc_api_Finding_api_Finding_md) :: ms15

theorem known16 : Known kk env0 (modesOf ms16) := known_cons (by kernel_rfl) slices_IndexFunc_api_Finding_api_Finding_post known15

noncomputable def slices_ContainsFunc_api_Finding_api_Finding_sh : StSh := ⟨⟨[0, 1], [], []⟩, [.t (.slc (.st 30)), .fnc 18], []⟩

noncomputable def slices_ContainsFunc_api_Finding_api_Finding_os : List StSh := [⟨⟨[0], [], []⟩, [.t .bool], []⟩]

noncomputable def slices_ContainsFunc_api_Finding_api_Finding_L : Nat → Option (Lift.Loop U) := fun n => none

noncomputable def slices_ContainsFunc_api_Finding_api_Finding_enc : Nat → List (TV U) → Option (Bool)
  | 0, [⟨.bool, a0⟩] => some a0
  | _, _ => none

noncomputable def slices_ContainsFunc_api_Finding_api_Finding_dec : Bool → Nat × List (TV U) := fun x => (0, [⟨.bool, x⟩])

noncomputable def slices_ContainsFunc_api_Finding_api_Finding_tr : Bool → Tr (Nat × List (TV U)) := fun r => (fun x => .ret (0, [⟨.bool, x⟩])) r

noncomputable def slices_ContainsFunc_api_Finding_api_Finding_md : Mode U := ⟨slices_ContainsFunc_api_Finding_api_Finding_sh, [], slices_ContainsFunc_api_Finding_api_Finding_os, fun ls => match ls with | [⟨(.slc (.st 30)), a0⟩] => .get (slices_ContainsFunc_api_Finding_api_Finding a0) slices_ContainsFunc_api_Finding_api_Finding_tr | _ => .fail⟩

theorem slices_ContainsFunc_api_Finding_api_Finding_E (a0 : List (Finding)) : (Kit.withModes kk (modesOf ms16)).fnEval slices_ContainsFunc_api_Finding_api_Finding_L Tryd.f17 slices_ContainsFunc_api_Finding_api_Finding_sh slices_ContainsFunc_api_Finding_api_Finding_os [⟨(.slc (.st 30)), a0⟩] slices_ContainsFunc_api_Finding_api_Finding_enc = slices_ContainsFunc_api_Finding_api_Finding_f a0 := by kernel_rfl

theorem slices_ContainsFunc_api_Finding_api_Finding_post : ∀ ls j rs, (slices_ContainsFunc_api_Finding_api_Finding_md.sum ls).val = some (j, rs) → FnPost kk env0 17 slices_ContainsFunc_api_Finding_api_Finding_sh slices_ContainsFunc_api_Finding_api_Finding_os ls j rs := by
  have inner : LoopsOk (Kit.withModes kk (modesOf ms16)) env0 Tryd.f17.ntmps slices_ContainsFunc_api_Finding_api_Finding_L (bodyOf Tryd.f17) := by
    exact loopsOk_of (bs := []) (by kernel_rfl) trivial
  intro ls j rs h
  simp only [slices_ContainsFunc_api_Finding_api_Finding_md] at h
  split at h
  · obtain ⟨r, hr, h⟩ := Tr.get_val h
    rw [slices_ContainsFunc_api_Finding_api_Finding, sealF_eq] at hr
    have hd : slices_ContainsFunc_api_Finding_api_Finding_dec r = (j, rs) := by
      exact Option.some.inj h
    refine FnPost.modes.1 (fn_sound (kitOk_of eqOk mixed known16) (by kernel_rfl) inner ((slices_ContainsFunc_api_Finding_api_Finding_E _).trans hr) ?_)
    intro i qs he
    unfold slices_ContainsFunc_api_Finding_api_Finding_enc at he
    split at he <;> cases he <;> (cases hd; exact ⟨rfl, rfl⟩)
  · cases h

noncomputable def ms17 : List (FuncId × Mode U) := (17, slices_ContainsFunc_api_Finding_api_Finding_md) :: ms16

theorem known17 : Known kk env0 (modesOf ms17) := known_cons (by kernel_rfl) slices_ContainsFunc_api_Finding_api_Finding_post known16

noncomputable def report_schedule_sh5 : StSh := ⟨⟨[3, 12, 13, 14], [], [⟨.slot 3, 3, 9, .str⟩]⟩, [.oslc 3, .t (.slc (.int .i64)), .t (.int .i64), .t (.int .i64)], [.row 9 .str]⟩

noncomputable def report_schedule_o5 : List Out := [⟨.exit 0, ⟨⟨[3], [], [⟨.slot 3, 3, 9, .str⟩]⟩, [.oslc 3], [.row 9 .str]⟩⟩]

noncomputable def report_schedule_b5 : Code := (nthLoop (bodyOf Tryd.f42) 0)

noncomputable def report_schedule_L5 : Nat → Option (Lift.Loop U) := fun n => none

noncomputable def report_schedule_rec5 (rec : List (Int) → Int → Int → List (List UInt8) → Option ((List (List UInt8)))) : List (TV U) → Option ((List (List UInt8)))
  | [⟨(.slc (.int .i64)), a0⟩, ⟨(.int .i64), a1⟩, ⟨(.int .i64), a2⟩, ⟨(.slc .str), a3⟩] => rec a0 a1 a2 a3
  | _ => none

noncomputable def report_schedule_enc5 : Nat → List (TV U) → Option ((List (List UInt8)))
  | 0, [⟨(.slc .str), a0⟩] => some a0
  | _, _ => none

noncomputable def report_schedule_dec5 : (List (List UInt8)) → Nat × List (TV U) := fun x => (0, [⟨(.slc .str), x⟩])

noncomputable def report_schedule_tr5 : (List (List UInt8)) → Tr (Nat × List (TV U)) := fun r => (fun x => .ret (0, [⟨(.slc .str), x⟩])) r

noncomputable def report_schedule_lp5 : Lift.Loop U := ⟨report_schedule_sh5, report_schedule_o5, fun ls => match ls with | [⟨(.slc (.int .i64)), a0⟩, ⟨(.int .i64), a1⟩, ⟨(.int .i64), a2⟩, ⟨(.slc .str), a3⟩] => .get (report_schedule_l5 a0 a1 a2 a3) report_schedule_tr5 | _ => .fail⟩

theorem report_schedule_E5 (rec : List (Int) → Int → Int → List (List UInt8) → Option ((List (List UInt8)))) (a0 : List (Int)) (a1 : Int) (a2 : Int) (a3 : List (List UInt8)) : (Kit.withModes kk (modesOf ms17)).turn Tryd.f42.ntmps report_schedule_L5 report_schedule_sh5 report_schedule_o5 report_schedule_b5 [⟨(.slc (.int .i64)), a0⟩, ⟨(.int .i64), a1⟩, ⟨(.int .i64), a2⟩, ⟨(.slc .str), a3⟩] (report_schedule_rec5 rec) report_schedule_enc5 = report_schedule_t5 rec a0 a1 a2 a3 := by kernel_rfl

theorem report_schedule_ok5 : ∀ ls j rs, (report_schedule_lp5.sum ls).val = some (j, rs) → RoundPost kk env0 Tryd.f42.ntmps report_schedule_b5 report_schedule_lp5.sh report_schedule_lp5.outs ls j rs := by
  have inner : LoopsOk (Kit.withModes kk (modesOf ms17)) env0 Tryd.f42.ntmps report_schedule_L5 report_schedule_b5 := by
    exact loopsOk_of (bs := []) (by kernel_rfl) trivial
  have key : ∀ n a0 a1 a2 a3 r j rs, report_schedule_i5 n a0 a1 a2 a3 = some r → report_schedule_dec5 r = (j, rs) → RoundPost kk env0 Tryd.f42.ntmps report_schedule_b5 report_schedule_sh5 report_schedule_o5 [⟨(.slc (.int .i64)), a0⟩, ⟨(.int .i64), a1⟩, ⟨(.int .i64), a2⟩, ⟨(.slc .str), a3⟩] j rs := by
    intro n
    induction n with
    | zero => intro a0 a1 a2 a3 r j rs h; cases h
    | succ n ih =>
      intro a0 a1 a2 a3 r j rs h hd
      refine RoundPost.modes.1 (turn_sound (kitOk_of eqOk mixed known17) inner ((report_schedule_E5 (report_schedule_i5 n) a0 a1 a2 a3).trans h) (fun q hq => RoundPost.modes.2 ?_) ?_)
      · unfold report_schedule_rec5 at hq
        split at hq
        · exact ih _ _ _ _ r j rs hq hd
        · cases hq
      · intro i qs he
        unfold report_schedule_enc5 at he
        split at he <;> cases he <;> (cases hd; exact ⟨rfl, rfl⟩)
  intro ls j rs h
  simp only [report_schedule_lp5] at h
  split at h
  · obtain ⟨r, hr, h⟩ := Tr.get_val h
    rw [report_schedule_l5, sealF_eq] at hr
    refine key fuel _ _ _ _ r j rs hr ?_
    exact Option.some.inj h
  · cases h

noncomputable def report_schedule_sh : StSh := ⟨⟨[0], [], []⟩, [.t (.slc (.int .i64))], []⟩

noncomputable def report_schedule_os : List StSh := [⟨⟨[0], [], []⟩, [.t .str], []⟩]

noncomputable def report_schedule_L : Nat → Option (Lift.Loop U) := fun n => bif Nat.beq n 5 then some report_schedule_lp5 else none

noncomputable def report_schedule_enc : Nat → List (TV U) → Option ((List UInt8))
  | 0, [⟨.str, a0⟩] => some a0
  | _, _ => none

noncomputable def report_schedule_dec : (List UInt8) → Nat × List (TV U) := fun x => (0, [⟨.str, x⟩])

noncomputable def report_schedule_tr : (List UInt8) → Tr (Nat × List (TV U)) := fun r => (fun x => .ret (0, [⟨.str, x⟩])) r

noncomputable def report_schedule_md : Mode U := ⟨report_schedule_sh, [], report_schedule_os, fun ls => match ls with | [⟨(.slc (.int .i64)), a0⟩] => .get (report_schedule a0) report_schedule_tr | _ => .fail⟩

theorem report_schedule_E (a0 : List (Int)) : (Kit.withModes kk (modesOf ms17)).fnEval report_schedule_L Tryd.f42 report_schedule_sh report_schedule_os [⟨(.slc (.int .i64)), a0⟩] report_schedule_enc = report_schedule_f a0 := by kernel_rfl

theorem report_schedule_post : ∀ ls j rs, (report_schedule_md.sum ls).val = some (j, rs) → FnPost kk env0 42 report_schedule_sh report_schedule_os ls j rs := by
  have inner : LoopsOk (Kit.withModes kk (modesOf ms17)) env0 Tryd.f42.ntmps report_schedule_L (bodyOf Tryd.f42) := by
    exact loopsOk_of (bs := [report_schedule_b5]) (by kernel_rfl) ⟨.inr ⟨_, by kernel_rfl, LoopOk.of_round report_schedule_ok5⟩, trivial⟩
  intro ls j rs h
  simp only [report_schedule_md] at h
  split at h
  · obtain ⟨r, hr, h⟩ := Tr.get_val h
    rw [report_schedule, sealF_eq] at hr
    have hd : report_schedule_dec r = (j, rs) := by
      exact Option.some.inj h
    refine FnPost.modes.1 (fn_sound (kitOk_of eqOk mixed known17) (by kernel_rfl) inner ((report_schedule_E _).trans hr) ?_)
    intro i qs he
    unfold report_schedule_enc at he
    split at he <;> cases he <;> (cases hd; exact ⟨rfl, rfl⟩)
  · cases h

noncomputable def ms18 : List (FuncId × Mode U) := (42, report_schedule_md) :: ms17

theorem known18 : Known kk env0 (modesOf ms18) := known_cons (by kernel_rfl) report_schedule_post known17

noncomputable def report_line_sh : StSh := ⟨⟨[0], [], []⟩, [.t (.st 30)], []⟩

noncomputable def report_line_os : List StSh := [⟨⟨[0], [], []⟩, [.t .str], []⟩]

noncomputable def report_line_L : Nat → Option (Lift.Loop U) := fun n => none

noncomputable def report_line_enc : Nat → List (TV U) → Option ((List UInt8))
  | 0, [⟨.str, a0⟩] => some a0
  | _, _ => none

noncomputable def report_line_dec : (List UInt8) → Nat × List (TV U) := fun x => (0, [⟨.str, x⟩])

noncomputable def report_line_tr : (List UInt8) → Tr (Nat × List (TV U)) := fun r => (fun x => .ret (0, [⟨.str, x⟩])) r

noncomputable def report_line_md : Mode U := ⟨report_line_sh, [], report_line_os, fun ls => match ls with | [⟨(.st 30), a0⟩] => .get (report_line a0) report_line_tr | _ => .fail⟩

theorem report_line_E (a0 : Finding) : (Kit.withModes kk (modesOf ms18)).fnEval report_line_L Tryd.f21 report_line_sh report_line_os [⟨(.st 30), a0⟩] report_line_enc = report_line_f a0 := by kernel_rfl

theorem report_line_post : ∀ ls j rs, (report_line_md.sum ls).val = some (j, rs) → FnPost kk env0 21 report_line_sh report_line_os ls j rs := by
  have inner : LoopsOk (Kit.withModes kk (modesOf ms18)) env0 Tryd.f21.ntmps report_line_L (bodyOf Tryd.f21) := by
    exact loopsOk_of (bs := []) (by kernel_rfl) trivial
  intro ls j rs h
  simp only [report_line_md] at h
  split at h
  · obtain ⟨r, hr, h⟩ := Tr.get_val h
    rw [report_line, sealF_eq] at hr
    have hd : report_line_dec r = (j, rs) := by
      exact Option.some.inj h
    refine FnPost.modes.1 (fn_sound (kitOk_of eqOk mixed known18) (by kernel_rfl) inner ((report_line_E _).trans hr) ?_)
    intro i qs he
    unfold report_line_enc at he
    split at he <;> cases he <;> (cases hd; exact ⟨rfl, rfl⟩)
  · cases h

noncomputable def ms19 : List (FuncId × Mode U) := (21, report_line_md) :: ms18

theorem known19 : Known kk env0 (modesOf ms19) := known_cons (by kernel_rfl) report_line_post known18

noncomputable def strings_Builder_WriteString_sh : StSh := ⟨⟨[0, 1], [100000], [⟨.cell 100000 1, 200001, 5, (.int .u8)⟩]⟩, [.ptr 100000 0, .t .str], [.blk 48 [.selfp 100000, .oslc 200001], .row 5 (.int .u8)]⟩

noncomputable def strings_Builder_WriteString_os : List StSh := [⟨⟨[0, 1], [100000], [⟨.cell 100000 1, 200001, 5, (.int .u8)⟩]⟩, [.t (.int .i64), .t .err], [.blk 48 [.selfp 100000, .oslc 200001], .row 5 (.int .u8)]⟩]

noncomputable def strings_Builder_WriteString_L : Nat → Option (Lift.Loop U) := fun n => none

noncomputable def strings_Builder_WriteString_enc : Nat → List (TV U) → Option (Int × Bool × (List (Int)))
  | 0, [⟨(.int .i64), a0⟩, ⟨.err, a1⟩, ⟨(.slc (.int .u8)), a2⟩] => some (a0, a1, a2)
  | _, _ => none

noncomputable def strings_Builder_WriteString_dec : Int × Bool × (List (Int)) → Nat × List (TV U) := fun x => (0, [⟨(.int .i64), x.1⟩, ⟨.err, x.2.1⟩, ⟨(.slc (.int .u8)), x.2.2⟩])

noncomputable def strings_Builder_WriteString_tr : Int × Bool × (List (Int)) → Tr (Nat × List (TV U)) := fun r => (fun x => .ret (0, [⟨(.int .i64), x.1⟩, ⟨.err, x.2.1⟩, ⟨(.slc (.int .u8)), x.2.2⟩])) r

noncomputable def strings_Builder_WriteString_md : Mode U := ⟨strings_Builder_WriteString_sh, [⟨100000, .slot 0, []⟩], strings_Builder_WriteString_os, fun ls => match ls with | [⟨.str, a0⟩, ⟨(.slc (.int .u8)), a1⟩] => .get (strings_Builder_WriteString a0 a1) strings_Builder_WriteString_tr | _ => .fail⟩

theorem strings_Builder_WriteString_E (a0 : List UInt8) (a1 : List (Int)) : (Kit.withModes kk (modesOf ms19)).fnEval strings_Builder_WriteString_L Tryd.f20 strings_Builder_WriteString_sh strings_Builder_WriteString_os [⟨.str, a0⟩, ⟨(.slc (.int .u8)), a1⟩] strings_Builder_WriteString_enc = strings_Builder_WriteString_f a0 a1 := by kernel_rfl

theorem strings_Builder_WriteString_post : ∀ ls j rs, (strings_Builder_WriteString_md.sum ls).val = some (j, rs) → FnPost kk env0 20 strings_Builder_WriteString_sh strings_Builder_WriteString_os ls j rs := by
  have inner : LoopsOk (Kit.withModes kk (modesOf ms19)) env0 Tryd.f20.ntmps strings_Builder_WriteString_L (bodyOf Tryd.f20) := by
    exact loopsOk_of (bs := []) (by kernel_rfl) trivial
  intro ls j rs h
  simp only [strings_Builder_WriteString_md] at h
  split at h
  · obtain ⟨r, hr, h⟩ := Tr.get_val h
    rw [strings_Builder_WriteString, sealF_eq] at hr
    have hd : strings_Builder_WriteString_dec r = (j, rs) := by
      exact Option.some.inj h
    refine FnPost.modes.1 (fn_sound (kitOk_of eqOk mixed known19) (by kernel_rfl) inner ((strings_Builder_WriteString_E _ _).trans hr) ?_)
    intro i qs he
    unfold strings_Builder_WriteString_enc at he
    split at he <;> cases he <;> (cases hd; exact ⟨rfl, rfl⟩)
  · cases h

noncomputable def ms20 : List (FuncId × Mode U) := (20, strings_Builder_WriteString_md) :: ms19

theorem known20 : Known kk env0 (modesOf ms20) := known_cons (by kernel_rfl) strings_Builder_WriteString_post known19

noncomputable def strings_Builder_WriteByte_sh : StSh := ⟨⟨[0, 1], [100000], [⟨.cell 100000 1, 200001, 5, (.int .u8)⟩]⟩, [.ptr 100000 0, .t (.int .u8)], [.blk 48 [.selfp 100000, .oslc 200001], .row 5 (.int .u8)]⟩

noncomputable def strings_Builder_WriteByte_os : List StSh := [⟨⟨[0], [100000], [⟨.cell 100000 1, 200001, 5, (.int .u8)⟩]⟩, [.t .err], [.blk 48 [.selfp 100000, .oslc 200001], .row 5 (.int .u8)]⟩]

noncomputable def strings_Builder_WriteByte_L : Nat → Option (Lift.Loop U) := fun n => none

noncomputable def strings_Builder_WriteByte_enc : Nat → List (TV U) → Option (Bool × (List (Int)))
  | 0, [⟨.err, a0⟩, ⟨(.slc (.int .u8)), a1⟩] => some (a0, a1)
  | _, _ => none

noncomputable def strings_Builder_WriteByte_dec : Bool × (List (Int)) → Nat × List (TV U) := fun x => (0, [⟨.err, x.1⟩, ⟨(.slc (.int .u8)), x.2⟩])

noncomputable def strings_Builder_WriteByte_tr : Bool × (List (Int)) → Tr (Nat × List (TV U)) := fun r => (fun x => .ret (0, [⟨.err, x.1⟩, ⟨(.slc (.int .u8)), x.2⟩])) r

noncomputable def strings_Builder_WriteByte_md : Mode U := ⟨strings_Builder_WriteByte_sh, [⟨100000, .slot 0, []⟩], strings_Builder_WriteByte_os, fun ls => match ls with | [⟨(.int .u8), a0⟩, ⟨(.slc (.int .u8)), a1⟩] => .get (strings_Builder_WriteByte a0 a1) strings_Builder_WriteByte_tr | _ => .fail⟩

theorem strings_Builder_WriteByte_E (a0 : Int) (a1 : List (Int)) : (Kit.withModes kk (modesOf ms20)).fnEval strings_Builder_WriteByte_L Tryd.f22 strings_Builder_WriteByte_sh strings_Builder_WriteByte_os [⟨(.int .u8), a0⟩, ⟨(.slc (.int .u8)), a1⟩] strings_Builder_WriteByte_enc = strings_Builder_WriteByte_f a0 a1 := by kernel_rfl

theorem strings_Builder_WriteByte_post : ∀ ls j rs, (strings_Builder_WriteByte_md.sum ls).val = some (j, rs) → FnPost kk env0 22 strings_Builder_WriteByte_sh strings_Builder_WriteByte_os ls j rs := by
  have inner : LoopsOk (Kit.withModes kk (modesOf ms20)) env0 Tryd.f22.ntmps strings_Builder_WriteByte_L (bodyOf Tryd.f22) := by
    exact loopsOk_of (bs := []) (by kernel_rfl) trivial
  intro ls j rs h
  simp only [strings_Builder_WriteByte_md] at h
  split at h
  · obtain ⟨r, hr, h⟩ := Tr.get_val h
    rw [strings_Builder_WriteByte, sealF_eq] at hr
    have hd : strings_Builder_WriteByte_dec r = (j, rs) := by
      exact Option.some.inj h
    refine FnPost.modes.1 (fn_sound (kitOk_of eqOk mixed known20) (by kernel_rfl) inner ((strings_Builder_WriteByte_E _ _).trans hr) ?_)
    intro i qs he
    unfold strings_Builder_WriteByte_enc at he
    split at he <;> cases he <;> (cases hd; exact ⟨rfl, rfl⟩)
  · cases h

noncomputable def ms21 : List (FuncId × Mode U) := (22, strings_Builder_WriteByte_md) :: ms20

theorem known21 : Known kk env0 (modesOf ms21) := known_cons (by kernel_rfl) strings_Builder_WriteByte_post known20

noncomputable def strings_Builder_Len_sh : StSh := ⟨⟨[0], [100000], [⟨.cell 100000 1, 200001, 5, (.int .u8)⟩]⟩, [.ptr 100000 0], [.blk 48 [.selfp 100000, .oslc 200001], .row 5 (.int .u8)]⟩

noncomputable def strings_Builder_Len_os : List StSh := [⟨⟨[0], [100000], [⟨.cell 100000 1, 200001, 5, (.int .u8)⟩]⟩, [.t (.int .i64)], [.blk 48 [.selfp 100000, .oslc 200001], .row 5 (.int .u8)]⟩]

noncomputable def strings_Builder_Len_L : Nat → Option (Lift.Loop U) := fun n => none

noncomputable def strings_Builder_Len_enc : Nat → List (TV U) → Option (Int × (List (Int)))
  | 0, [⟨(.int .i64), a0⟩, ⟨(.slc (.int .u8)), a1⟩] => some (a0, a1)
  | _, _ => none

noncomputable def strings_Builder_Len_dec : Int × (List (Int)) → Nat × List (TV U) := fun x => (0, [⟨(.int .i64), x.1⟩, ⟨(.slc (.int .u8)), x.2⟩])

noncomputable def strings_Builder_Len_tr : Int × (List (Int)) → Tr (Nat × List (TV U)) := fun r => (fun x => .ret (0, [⟨(.int .i64), x.1⟩, ⟨(.slc (.int .u8)), x.2⟩])) r

noncomputable def strings_Builder_Len_md : Mode U := ⟨strings_Builder_Len_sh, [⟨100000, .slot 0, []⟩], strings_Builder_Len_os, fun ls => match ls with | [⟨(.slc (.int .u8)), a0⟩] => .get (strings_Builder_Len a0) strings_Builder_Len_tr | _ => .fail⟩

theorem strings_Builder_Len_E (a0 : List (Int)) : (Kit.withModes kk (modesOf ms21)).fnEval strings_Builder_Len_L Tryd.f23 strings_Builder_Len_sh strings_Builder_Len_os [⟨(.slc (.int .u8)), a0⟩] strings_Builder_Len_enc = strings_Builder_Len_f a0 := by kernel_rfl

theorem strings_Builder_Len_post : ∀ ls j rs, (strings_Builder_Len_md.sum ls).val = some (j, rs) → FnPost kk env0 23 strings_Builder_Len_sh strings_Builder_Len_os ls j rs := by
  have inner : LoopsOk (Kit.withModes kk (modesOf ms21)) env0 Tryd.f23.ntmps strings_Builder_Len_L (bodyOf Tryd.f23) := by
    exact loopsOk_of (bs := []) (by kernel_rfl) trivial
  intro ls j rs h
  simp only [strings_Builder_Len_md] at h
  split at h
  · obtain ⟨r, hr, h⟩ := Tr.get_val h
    rw [strings_Builder_Len, sealF_eq] at hr
    have hd : strings_Builder_Len_dec r = (j, rs) := by
      exact Option.some.inj h
    refine FnPost.modes.1 (fn_sound (kitOk_of eqOk mixed known21) (by kernel_rfl) inner ((strings_Builder_Len_E _).trans hr) ?_)
    intro i qs he
    unfold strings_Builder_Len_enc at he
    split at he <;> cases he <;> (cases hd; exact ⟨rfl, rfl⟩)
  · cases h

noncomputable def ms22 : List (FuncId × Mode U) := (23, strings_Builder_Len_md) :: ms21

theorem known22 : Known kk env0 (modesOf ms22) := known_cons (by kernel_rfl) strings_Builder_Len_post known21

noncomputable def report_Print_sh4 : StSh := ⟨⟨[4, 10, 11, 12], [4], [⟨.cell 4 1, 20201, 5, (.int .u8)⟩]⟩, [.ptr 4 0, .t (.slc (.st 30)), .t (.int .i64), .t (.int .i64)], [.blk 48 [.selfp 4, .oslc 20201], .row 5 (.int .u8)]⟩

noncomputable def report_Print_o4 : List Out := [⟨.ret, ⟨⟨[2, 3], [], []⟩, [.t .str, .t (.int .i64)], []⟩⟩, ⟨.exit 0, ⟨⟨[4], [4], [⟨.cell 4 1, 20201, 5, (.int .u8)⟩]⟩, [.ptr 4 0], [.blk 48 [.selfp 4, .oslc 20201], .row 5 (.int .u8)]⟩⟩]

noncomputable def report_Print_b4 : Code := (nthLoop (bodyOf Tryd.f10) 0)

noncomputable def report_Print_L4 : Nat → Option (Lift.Loop U) := fun n => none

noncomputable def report_Print_rec4 (rec : List (Finding) → Int → Int → List (Int) → Option (((List UInt8) × Int) ⊕ ((List (Int))))) : List (TV U) → Option (((List UInt8) × Int) ⊕ ((List (Int))))
  | [⟨(.slc (.st 30)), a0⟩, ⟨(.int .i64), a1⟩, ⟨(.int .i64), a2⟩, ⟨(.slc (.int .u8)), a3⟩] => rec a0 a1 a2 a3
  | _ => none

noncomputable def report_Print_enc4 : Nat → List (TV U) → Option (((List UInt8) × Int) ⊕ ((List (Int))))
  | 0, [⟨.str, a0⟩, ⟨(.int .i64), a1⟩] => some (.inl (a0, a1))
  | 1, [⟨(.slc (.int .u8)), a0⟩] => some (.inr a0)
  | _, _ => none

noncomputable def report_Print_dec4 : ((List UInt8) × Int) ⊕ ((List (Int))) → Nat × List (TV U) := fun r => match r with | (.inl x) => (0, [⟨.str, x.1⟩, ⟨(.int .i64), x.2⟩]) | (.inr x) => (1, [⟨(.slc (.int .u8)), x⟩])

noncomputable def report_Print_tr4 : ((List UInt8) × Int) ⊕ ((List (Int))) → Tr (Nat × List (TV U)) := fun r => .alt r (fun x => .ret (0, [⟨.str, x.1⟩, ⟨(.int .i64), x.2⟩])) (fun y => (fun x => .ret (1, [⟨(.slc (.int .u8)), x⟩])) y)

noncomputable def report_Print_lp4 : Lift.Loop U := ⟨report_Print_sh4, report_Print_o4, fun ls => match ls with | [⟨(.slc (.st 30)), a0⟩, ⟨(.int .i64), a1⟩, ⟨(.int .i64), a2⟩, ⟨(.slc (.int .u8)), a3⟩] => .get (report_Print_l4 a0 a1 a2 a3) report_Print_tr4 | _ => .fail⟩

theorem report_Print_E4 (rec : List (Finding) → Int → Int → List (Int) → Option (((List UInt8) × Int) ⊕ ((List (Int))))) (a0 : List (Finding)) (a1 : Int) (a2 : Int) (a3 : List (Int)) : (Kit.withModes kk (modesOf ms22)).turn Tryd.f10.ntmps report_Print_L4 report_Print_sh4 report_Print_o4 report_Print_b4 [⟨(.slc (.st 30)), a0⟩, ⟨(.int .i64), a1⟩, ⟨(.int .i64), a2⟩, ⟨(.slc (.int .u8)), a3⟩] (report_Print_rec4 rec) report_Print_enc4 = report_Print_t4 rec a0 a1 a2 a3 := by kernel_rfl

theorem report_Print_ok4 : ∀ ls j rs, (report_Print_lp4.sum ls).val = some (j, rs) → RoundPost kk env0 Tryd.f10.ntmps report_Print_b4 report_Print_lp4.sh report_Print_lp4.outs ls j rs := by
  have inner : LoopsOk (Kit.withModes kk (modesOf ms22)) env0 Tryd.f10.ntmps report_Print_L4 report_Print_b4 := by
    exact loopsOk_of (bs := []) (by kernel_rfl) trivial
  have key : ∀ n a0 a1 a2 a3 r j rs, report_Print_i4 n a0 a1 a2 a3 = some r → report_Print_dec4 r = (j, rs) → RoundPost kk env0 Tryd.f10.ntmps report_Print_b4 report_Print_sh4 report_Print_o4 [⟨(.slc (.st 30)), a0⟩, ⟨(.int .i64), a1⟩, ⟨(.int .i64), a2⟩, ⟨(.slc (.int .u8)), a3⟩] j rs := by
    intro n
    induction n with
    | zero => intro a0 a1 a2 a3 r j rs h; cases h
    | succ n ih =>
      intro a0 a1 a2 a3 r j rs h hd
      refine RoundPost.modes.1 (turn_sound (kitOk_of eqOk mixed known22) inner ((report_Print_E4 (report_Print_i4 n) a0 a1 a2 a3).trans h) (fun q hq => RoundPost.modes.2 ?_) ?_)
      · unfold report_Print_rec4 at hq
        split at hq
        · exact ih _ _ _ _ r j rs hq hd
        · cases hq
      · intro i qs he
        unfold report_Print_enc4 at he
        split at he <;> cases he <;> (cases hd; exact ⟨rfl, rfl⟩)
  intro ls j rs h
  simp only [report_Print_lp4] at h
  split at h
  · obtain ⟨r, hr, h⟩ := Tr.get_val h
    rw [report_Print_l4, sealF_eq] at hr
    refine key fuel _ _ _ _ r j rs hr ?_
    rcases r with r | r <;> exact Option.some.inj h
  · cases h

noncomputable def report_Print_sh : StSh := ⟨⟨[0], [], []⟩, [.t (.slc (.st 30))], []⟩

noncomputable def report_Print_os : List StSh := [⟨⟨[0, 1], [], []⟩, [.t .str, .t (.int .i64)], []⟩]

noncomputable def report_Print_L : Nat → Option (Lift.Loop U) := fun n => bif Nat.beq n 4 then some report_Print_lp4 else none

noncomputable def report_Print_enc : Nat → List (TV U) → Option ((List UInt8) × Int)
  | 0, [⟨.str, a0⟩, ⟨(.int .i64), a1⟩] => some (a0, a1)
  | _, _ => none

noncomputable def report_Print_dec : (List UInt8) × Int → Nat × List (TV U) := fun x => (0, [⟨.str, x.1⟩, ⟨(.int .i64), x.2⟩])

noncomputable def report_Print_tr : (List UInt8) × Int → Tr (Nat × List (TV U)) := fun r => (fun x => .ret (0, [⟨.str, x.1⟩, ⟨(.int .i64), x.2⟩])) r

noncomputable def report_Print_md : Mode U := ⟨report_Print_sh, [], report_Print_os, fun ls => match ls with | [⟨(.slc (.st 30)), a0⟩] => .get (report_Print a0) report_Print_tr | _ => .fail⟩

theorem report_Print_E (a0 : List (Finding)) : (Kit.withModes kk (modesOf ms22)).fnEval report_Print_L Tryd.f10 report_Print_sh report_Print_os [⟨(.slc (.st 30)), a0⟩] report_Print_enc = report_Print_f a0 := by kernel_rfl

theorem report_Print_post : ∀ ls j rs, (report_Print_md.sum ls).val = some (j, rs) → FnPost kk env0 10 report_Print_sh report_Print_os ls j rs := by
  have inner : LoopsOk (Kit.withModes kk (modesOf ms22)) env0 Tryd.f10.ntmps report_Print_L (bodyOf Tryd.f10) := by
    exact loopsOk_of (bs := [report_Print_b4]) (by kernel_rfl) ⟨.inr ⟨_, by kernel_rfl, LoopOk.of_round report_Print_ok4⟩, trivial⟩
  intro ls j rs h
  simp only [report_Print_md] at h
  split at h
  · obtain ⟨r, hr, h⟩ := Tr.get_val h
    rw [report_Print, sealF_eq] at hr
    have hd : report_Print_dec r = (j, rs) := by
      exact Option.some.inj h
    refine FnPost.modes.1 (fn_sound (kitOk_of eqOk mixed known22) (by kernel_rfl) inner ((report_Print_E _).trans hr) ?_)
    intro i qs he
    unfold report_Print_enc at he
    split at he <;> cases he <;> (cases hd; exact ⟨rfl, rfl⟩)
  · cases h

noncomputable def ms23 : List (FuncId × Mode U) := (10, report_Print_md) :: ms22

theorem known23 : Known kk env0 (modesOf ms23) := known_cons (by kernel_rfl) report_Print_post known22

noncomputable def racetreelaw25_awake_sh : StSh := ⟨⟨[], [], []⟩, [], []⟩

noncomputable def racetreelaw25_awake_os : List StSh := [⟨⟨[0], [], []⟩, [.t .bool], []⟩]

noncomputable def racetreelaw25_awake_L : Nat → Option (Lift.Loop U) := fun n => none

noncomputable def racetreelaw25_awake_enc : Nat → List (TV U) → Option (Bool)
  | 0, [⟨.bool, a0⟩] => some a0
  | _, _ => none

noncomputable def racetreelaw25_awake_dec : Bool → Nat × List (TV U) := fun x => (0, [⟨.bool, x⟩])

noncomputable def racetreelaw25_awake_tr : Bool → Tr (Nat × List (TV U)) := fun r => (fun x => .ret (0, [⟨.bool, x⟩])) r

noncomputable def racetreelaw25_awake_md : Mode U := ⟨racetreelaw25_awake_sh, [], racetreelaw25_awake_os, fun ls => match ls with | [] => .get (racetreelaw25_awake) racetreelaw25_awake_tr | _ => .fail⟩

theorem racetreelaw25_awake_E : (Kit.withModes kk (modesOf ms23)).fnEval racetreelaw25_awake_L Tryd.f9 racetreelaw25_awake_sh racetreelaw25_awake_os [] racetreelaw25_awake_enc = racetreelaw25_awake_f := by kernel_rfl

theorem racetreelaw25_awake_post : ∀ ls j rs, (racetreelaw25_awake_md.sum ls).val = some (j, rs) → FnPost kk env0 9 racetreelaw25_awake_sh racetreelaw25_awake_os ls j rs := by
  have inner : LoopsOk (Kit.withModes kk (modesOf ms23)) env0 Tryd.f9.ntmps racetreelaw25_awake_L (bodyOf Tryd.f9) := by
    exact loopsOk_of (bs := []) (by kernel_rfl) trivial
  intro ls j rs h
  simp only [racetreelaw25_awake_md] at h
  split at h
  · obtain ⟨r, hr, h⟩ := Tr.get_val h
    rw [racetreelaw25_awake, sealF_eq] at hr
    have hd : racetreelaw25_awake_dec r = (j, rs) := by
      exact Option.some.inj h
    refine FnPost.modes.1 (fn_sound (kitOk_of eqOk mixed known23) (by kernel_rfl) inner ((racetreelaw25_awake_E).trans hr) ?_)
    intro i qs he
    unfold racetreelaw25_awake_enc at he
    split at he <;> cases he <;> (cases hd; exact ⟨rfl, rfl⟩)
  · cases h

noncomputable def ms24 : List (FuncId × Mode U) := (9, racetreelaw25_awake_md) :: ms23

theorem known24 : Known kk env0 (modesOf ms24) := known_cons (by kernel_rfl) racetreelaw25_awake_post known23

noncomputable def report_Read_sh5 : StSh := ⟨⟨[0, 3, 4, 5], [3], [⟨.slot 4, 4, 30, (.st 30)⟩]⟩, [.t .str, .ptr 3 0, .oslc 4, .t (.int .i64)], [.blk 38 [.t (.int .i64), .t (.int .i64), .t .str], .row 30 (.st 30)]⟩

noncomputable def report_Read_o5 : List Out := [⟨.ret, ⟨⟨[2, 3], [3], []⟩, [.nil, .ptr 3 0], [.blk 38 [.t (.int .i64), .t (.int .i64), .t .str]]⟩⟩, ⟨.exit 0, ⟨⟨[3, 4], [3], [⟨.slot 4, 4, 30, (.st 30)⟩]⟩, [.ptr 3 0, .oslc 4], [.blk 38 [.t (.int .i64), .t (.int .i64), .t .str], .row 30 (.st 30)]⟩⟩]

noncomputable def report_Read_b5 : Code := (nthLoop (bodyOf Tryd.f14) 0)

noncomputable def report_Read_L5 : Nat → Option (Lift.Loop U) := fun n => none

noncomputable def report_Read_rec5 (rec : List UInt8 → Int → Int → Int → List UInt8 → List (Finding) → Option ((Int × Int × (List UInt8)) ⊕ (Int × Int × (List UInt8) × (List (Finding))))) : List (TV U) → Option ((Int × Int × (List UInt8)) ⊕ (Int × Int × (List UInt8) × (List (Finding))))
  | [⟨.str, a0⟩, ⟨(.int .i64), a1⟩, ⟨(.int .i64), a2⟩, ⟨(.int .i64), a3⟩, ⟨.str, a4⟩, ⟨(.slc (.st 30)), a5⟩] => rec a0 a1 a2 a3 a4 a5
  | _ => none

noncomputable def report_Read_enc5 : Nat → List (TV U) → Option ((Int × Int × (List UInt8)) ⊕ (Int × Int × (List UInt8) × (List (Finding))))
  | 0, [⟨(.int .i64), a0⟩, ⟨(.int .i64), a1⟩, ⟨.str, a2⟩] => some (.inl (a0, a1, a2))
  | 1, [⟨(.int .i64), a0⟩, ⟨(.int .i64), a1⟩, ⟨.str, a2⟩, ⟨(.slc (.st 30)), a3⟩] => some (.inr (a0, a1, a2, a3))
  | _, _ => none

noncomputable def report_Read_dec5 : (Int × Int × (List UInt8)) ⊕ (Int × Int × (List UInt8) × (List (Finding))) → Nat × List (TV U) := fun r => match r with | (.inl x) => (0, [⟨(.int .i64), x.1⟩, ⟨(.int .i64), x.2.1⟩, ⟨.str, x.2.2⟩]) | (.inr x) => (1, [⟨(.int .i64), x.1⟩, ⟨(.int .i64), x.2.1⟩, ⟨.str, x.2.2.1⟩, ⟨(.slc (.st 30)), x.2.2.2⟩])

noncomputable def report_Read_tr5 : (Int × Int × (List UInt8)) ⊕ (Int × Int × (List UInt8) × (List (Finding))) → Tr (Nat × List (TV U)) := fun r => .alt r (fun x => .ret (0, [⟨(.int .i64), x.1⟩, ⟨(.int .i64), x.2.1⟩, ⟨.str, x.2.2⟩])) (fun y => (fun x => .ret (1, [⟨(.int .i64), x.1⟩, ⟨(.int .i64), x.2.1⟩, ⟨.str, x.2.2.1⟩, ⟨(.slc (.st 30)), x.2.2.2⟩])) y)

noncomputable def report_Read_lp5 : Lift.Loop U := ⟨report_Read_sh5, report_Read_o5, fun ls => match ls with | [⟨.str, a0⟩, ⟨(.int .i64), a1⟩, ⟨(.int .i64), a2⟩, ⟨(.int .i64), a3⟩, ⟨.str, a4⟩, ⟨(.slc (.st 30)), a5⟩] => .get (report_Read_l5 a0 a1 a2 a3 a4 a5) report_Read_tr5 | _ => .fail⟩

theorem report_Read_E5 (rec : List UInt8 → Int → Int → Int → List UInt8 → List (Finding) → Option ((Int × Int × (List UInt8)) ⊕ (Int × Int × (List UInt8) × (List (Finding))))) (a0 : List UInt8) (a1 : Int) (a2 : Int) (a3 : Int) (a4 : List UInt8) (a5 : List (Finding)) : (Kit.withModes kk (modesOf ms24)).turn Tryd.f14.ntmps report_Read_L5 report_Read_sh5 report_Read_o5 report_Read_b5 [⟨.str, a0⟩, ⟨(.int .i64), a1⟩, ⟨(.int .i64), a2⟩, ⟨(.int .i64), a3⟩, ⟨.str, a4⟩, ⟨(.slc (.st 30)), a5⟩] (report_Read_rec5 rec) report_Read_enc5 = report_Read_t5 rec a0 a1 a2 a3 a4 a5 := by kernel_rfl

theorem report_Read_ok5 : ∀ ls j rs, (report_Read_lp5.sum ls).val = some (j, rs) → RoundPost kk env0 Tryd.f14.ntmps report_Read_b5 report_Read_lp5.sh report_Read_lp5.outs ls j rs := by
  have inner : LoopsOk (Kit.withModes kk (modesOf ms24)) env0 Tryd.f14.ntmps report_Read_L5 report_Read_b5 := by
    exact loopsOk_of (bs := []) (by kernel_rfl) trivial
  have key : ∀ n a0 a1 a2 a3 a4 a5 r j rs, report_Read_i5 n a0 a1 a2 a3 a4 a5 = some r → report_Read_dec5 r = (j, rs) → RoundPost kk env0 Tryd.f14.ntmps report_Read_b5 report_Read_sh5 report_Read_o5 [⟨.str, a0⟩, ⟨(.int .i64), a1⟩, ⟨(.int .i64), a2⟩, ⟨(.int .i64), a3⟩, ⟨.str, a4⟩, ⟨(.slc (.st 30)), a5⟩] j rs := by
    intro n
    induction n with
    | zero => intro a0 a1 a2 a3 a4 a5 r j rs h; cases h
    | succ n ih =>
      intro a0 a1 a2 a3 a4 a5 r j rs h hd
      refine RoundPost.modes.1 (turn_sound (kitOk_of eqOk mixed known24) inner ((report_Read_E5 (report_Read_i5 n) a0 a1 a2 a3 a4 a5).trans h) (fun q hq => RoundPost.modes.2 ?_) ?_)
      · unfold report_Read_rec5 at hq
        split at hq
        · exact ih _ _ _ _ _ _ r j rs hq hd
        · cases hq
      · intro i qs he
        unfold report_Read_enc5 at he
        split at he <;> cases he <;> (cases hd; exact ⟨rfl, rfl⟩)
  intro ls j rs h
  simp only [report_Read_lp5] at h
  split at h
  · obtain ⟨r, hr, h⟩ := Tr.get_val h
    rw [report_Read_l5, sealF_eq] at hr
    refine key fuel _ _ _ _ _ _ r j rs hr ?_
    rcases r with r | r <;> exact Option.some.inj h
  · cases h

noncomputable def report_Read_sh : StSh := ⟨⟨[0], [], []⟩, [.t .str], []⟩

noncomputable def report_Read_os : List StSh := [⟨⟨[0, 1], [], [⟨.slot 0, 100000, 30, (.st 30)⟩]⟩, [.oslc 100000, .t (.st 38)], [.row 30 (.st 30)]⟩]

noncomputable def report_Read_L : Nat → Option (Lift.Loop U) := fun n => bif Nat.beq n 5 then some report_Read_lp5 else none

noncomputable def report_Read_enc : Nat → List (TV U) → Option (Fault × (List (Finding)))
  | 0, [⟨(.st 38), a0⟩, ⟨(.slc (.st 30)), a1⟩] => some (a0, a1)
  | _, _ => none

noncomputable def report_Read_dec : Fault × (List (Finding)) → Nat × List (TV U) := fun x => (0, [⟨(.st 38), x.1⟩, ⟨(.slc (.st 30)), x.2⟩])

noncomputable def report_Read_tr : Fault × (List (Finding)) → Tr (Nat × List (TV U)) := fun r => (fun x => .ret (0, [⟨(.st 38), x.1⟩, ⟨(.slc (.st 30)), x.2⟩])) r

noncomputable def report_Read_md : Mode U := ⟨report_Read_sh, [], report_Read_os, fun ls => match ls with | [⟨.str, a0⟩] => .get (report_Read a0) report_Read_tr | _ => .fail⟩

theorem report_Read_E (a0 : List UInt8) : (Kit.withModes kk (modesOf ms24)).fnEval report_Read_L Tryd.f14 report_Read_sh report_Read_os [⟨.str, a0⟩] report_Read_enc = report_Read_f a0 := by kernel_rfl

theorem report_Read_post : ∀ ls j rs, (report_Read_md.sum ls).val = some (j, rs) → FnPost kk env0 14 report_Read_sh report_Read_os ls j rs := by
  have inner : LoopsOk (Kit.withModes kk (modesOf ms24)) env0 Tryd.f14.ntmps report_Read_L (bodyOf Tryd.f14) := by
    exact loopsOk_of (bs := [report_Read_b5]) (by kernel_rfl) ⟨.inr ⟨_, by kernel_rfl, LoopOk.of_round report_Read_ok5⟩, trivial⟩
  intro ls j rs h
  simp only [report_Read_md] at h
  split at h
  · obtain ⟨r, hr, h⟩ := Tr.get_val h
    rw [report_Read, sealF_eq] at hr
    have hd : report_Read_dec r = (j, rs) := by
      exact Option.some.inj h
    refine FnPost.modes.1 (fn_sound (kitOk_of eqOk mixed known24) (by kernel_rfl) inner ((report_Read_E _).trans hr) ?_)
    intro i qs he
    unfold report_Read_enc at he
    split at he <;> cases he <;> (cases hd; exact ⟨rfl, rfl⟩)
  · cases h

noncomputable def ms25 : List (FuncId × Mode U) := (14, report_Read_md) :: ms24

theorem known25 : Known kk env0 (modesOf ms25) := known_cons (by kernel_rfl) report_Read_post known24

noncomputable def racetreeref25_words_sh4 : StSh := ⟨⟨[0, 3, 4, 5], [], [⟨.slot 3, 3, 9, .str⟩]⟩, [.t .str, .oslc 3, .t (.int .i64), .t (.int .i64)], [.row 9 .str]⟩

noncomputable def racetreeref25_words_o4 : List Out := [⟨.exit 0, ⟨⟨[3], [], [⟨.slot 3, 3, 9, .str⟩]⟩, [.oslc 3], [.row 9 .str]⟩⟩]

noncomputable def racetreeref25_words_b4 : Code := (nthLoop (bodyOf Tryd.f50) 0)

noncomputable def racetreeref25_words_L4 : Nat → Option (Lift.Loop U) := fun n => none

noncomputable def racetreeref25_words_rec4 (rec : List UInt8 → Int → Int → List (List UInt8) → Option ((List (List UInt8)))) : List (TV U) → Option ((List (List UInt8)))
  | [⟨.str, a0⟩, ⟨(.int .i64), a1⟩, ⟨(.int .i64), a2⟩, ⟨(.slc .str), a3⟩] => rec a0 a1 a2 a3
  | _ => none

noncomputable def racetreeref25_words_enc4 : Nat → List (TV U) → Option ((List (List UInt8)))
  | 0, [⟨(.slc .str), a0⟩] => some a0
  | _, _ => none

noncomputable def racetreeref25_words_dec4 : (List (List UInt8)) → Nat × List (TV U) := fun x => (0, [⟨(.slc .str), x⟩])

noncomputable def racetreeref25_words_tr4 : (List (List UInt8)) → Tr (Nat × List (TV U)) := fun r => (fun x => .ret (0, [⟨(.slc .str), x⟩])) r

noncomputable def racetreeref25_words_lp4 : Lift.Loop U := ⟨racetreeref25_words_sh4, racetreeref25_words_o4, fun ls => match ls with | [⟨.str, a0⟩, ⟨(.int .i64), a1⟩, ⟨(.int .i64), a2⟩, ⟨(.slc .str), a3⟩] => .get (racetreeref25_words_l4 a0 a1 a2 a3) racetreeref25_words_tr4 | _ => .fail⟩

theorem racetreeref25_words_E4 (rec : List UInt8 → Int → Int → List (List UInt8) → Option ((List (List UInt8)))) (a0 : List UInt8) (a1 : Int) (a2 : Int) (a3 : List (List UInt8)) : (Kit.withModes kk (modesOf ms25)).turn Tryd.f50.ntmps racetreeref25_words_L4 racetreeref25_words_sh4 racetreeref25_words_o4 racetreeref25_words_b4 [⟨.str, a0⟩, ⟨(.int .i64), a1⟩, ⟨(.int .i64), a2⟩, ⟨(.slc .str), a3⟩] (racetreeref25_words_rec4 rec) racetreeref25_words_enc4 = racetreeref25_words_t4 rec a0 a1 a2 a3 := by kernel_rfl

theorem racetreeref25_words_ok4 : ∀ ls j rs, (racetreeref25_words_lp4.sum ls).val = some (j, rs) → RoundPost kk env0 Tryd.f50.ntmps racetreeref25_words_b4 racetreeref25_words_lp4.sh racetreeref25_words_lp4.outs ls j rs := by
  have inner : LoopsOk (Kit.withModes kk (modesOf ms25)) env0 Tryd.f50.ntmps racetreeref25_words_L4 racetreeref25_words_b4 := by
    exact loopsOk_of (bs := []) (by kernel_rfl) trivial
  have key : ∀ n a0 a1 a2 a3 r j rs, racetreeref25_words_i4 n a0 a1 a2 a3 = some r → racetreeref25_words_dec4 r = (j, rs) → RoundPost kk env0 Tryd.f50.ntmps racetreeref25_words_b4 racetreeref25_words_sh4 racetreeref25_words_o4 [⟨.str, a0⟩, ⟨(.int .i64), a1⟩, ⟨(.int .i64), a2⟩, ⟨(.slc .str), a3⟩] j rs := by
    intro n
    induction n with
    | zero => intro a0 a1 a2 a3 r j rs h; cases h
    | succ n ih =>
      intro a0 a1 a2 a3 r j rs h hd
      refine RoundPost.modes.1 (turn_sound (kitOk_of eqOk mixed known25) inner ((racetreeref25_words_E4 (racetreeref25_words_i4 n) a0 a1 a2 a3).trans h) (fun q hq => RoundPost.modes.2 ?_) ?_)
      · unfold racetreeref25_words_rec4 at hq
        split at hq
        · exact ih _ _ _ _ r j rs hq hd
        · cases hq
      · intro i qs he
        unfold racetreeref25_words_enc4 at he
        split at he <;> cases he <;> (cases hd; exact ⟨rfl, rfl⟩)
  intro ls j rs h
  simp only [racetreeref25_words_lp4] at h
  split at h
  · obtain ⟨r, hr, h⟩ := Tr.get_val h
    rw [racetreeref25_words_l4, sealF_eq] at hr
    refine key fuel _ _ _ _ r j rs hr ?_
    exact Option.some.inj h
  · cases h

noncomputable def racetreeref25_words_sh : StSh := ⟨⟨[0], [], []⟩, [.t .str], []⟩

noncomputable def racetreeref25_words_os : List StSh := [⟨⟨[0], [], [⟨.slot 0, 100000, 9, .str⟩]⟩, [.oslc 100000], [.row 9 .str]⟩]

noncomputable def racetreeref25_words_L : Nat → Option (Lift.Loop U) := fun n => bif Nat.beq n 4 then some racetreeref25_words_lp4 else none

noncomputable def racetreeref25_words_enc : Nat → List (TV U) → Option ((List (List UInt8)))
  | 0, [⟨(.slc .str), a0⟩] => some a0
  | _, _ => none

noncomputable def racetreeref25_words_dec : (List (List UInt8)) → Nat × List (TV U) := fun x => (0, [⟨(.slc .str), x⟩])

noncomputable def racetreeref25_words_tr : (List (List UInt8)) → Tr (Nat × List (TV U)) := fun r => (fun x => .ret (0, [⟨(.slc .str), x⟩])) r

noncomputable def racetreeref25_words_md : Mode U := ⟨racetreeref25_words_sh, [], racetreeref25_words_os, fun ls => match ls with | [⟨.str, a0⟩] => .get (racetreeref25_words a0) racetreeref25_words_tr | _ => .fail⟩

theorem racetreeref25_words_E (a0 : List UInt8) : (Kit.withModes kk (modesOf ms25)).fnEval racetreeref25_words_L Tryd.f50 racetreeref25_words_sh racetreeref25_words_os [⟨.str, a0⟩] racetreeref25_words_enc = racetreeref25_words_f a0 := by kernel_rfl

theorem racetreeref25_words_post : ∀ ls j rs, (racetreeref25_words_md.sum ls).val = some (j, rs) → FnPost kk env0 50 racetreeref25_words_sh racetreeref25_words_os ls j rs := by
  have inner : LoopsOk (Kit.withModes kk (modesOf ms25)) env0 Tryd.f50.ntmps racetreeref25_words_L (bodyOf Tryd.f50) := by
    exact loopsOk_of (bs := [racetreeref25_words_b4]) (by kernel_rfl) ⟨.inr ⟨_, by kernel_rfl, LoopOk.of_round racetreeref25_words_ok4⟩, trivial⟩
  intro ls j rs h
  simp only [racetreeref25_words_md] at h
  split at h
  · obtain ⟨r, hr, h⟩ := Tr.get_val h
    rw [racetreeref25_words, sealF_eq] at hr
    have hd : racetreeref25_words_dec r = (j, rs) := by
      exact Option.some.inj h
    refine FnPost.modes.1 (fn_sound (kitOk_of eqOk mixed known25) (by kernel_rfl) inner ((racetreeref25_words_E _).trans hr) ?_)
    intro i qs he
    unfold racetreeref25_words_enc at he
    split at he <;> cases he <;> (cases hd; exact ⟨rfl, rfl⟩)
  · cases h

noncomputable def ms26 : List (FuncId × Mode U) := (50, racetreeref25_words_md) :: ms25

theorem known26 : Known kk env0 (modesOf ms26) := known_cons (by kernel_rfl) racetreeref25_words_post known25

noncomputable def racetreeref25_one_sh : StSh := ⟨⟨[0], [], []⟩, [.t .str], []⟩

noncomputable def racetreeref25_one_os : List StSh := [⟨⟨[0], [], []⟩, [.t (.int .i64)], []⟩]

noncomputable def racetreeref25_one_L : Nat → Option (Lift.Loop U) := fun n => none

noncomputable def racetreeref25_one_enc : Nat → List (TV U) → Option (Int)
  | 0, [⟨(.int .i64), a0⟩] => some a0
  | _, _ => none

noncomputable def racetreeref25_one_dec : Int → Nat × List (TV U) := fun x => (0, [⟨(.int .i64), x⟩])

noncomputable def racetreeref25_one_tr : Int → Tr (Nat × List (TV U)) := fun r => (fun x => .ret (0, [⟨(.int .i64), x⟩])) r

noncomputable def racetreeref25_one_md : Mode U := ⟨racetreeref25_one_sh, [], racetreeref25_one_os, fun ls => match ls with | [⟨.str, a0⟩] => .get (racetreeref25_one a0) racetreeref25_one_tr | _ => .fail⟩

theorem racetreeref25_one_E (a0 : List UInt8) : (Kit.withModes kk (modesOf ms26)).fnEval racetreeref25_one_L Tryd.f51 racetreeref25_one_sh racetreeref25_one_os [⟨.str, a0⟩] racetreeref25_one_enc = racetreeref25_one_f a0 := by kernel_rfl

theorem racetreeref25_one_post : ∀ ls j rs, (racetreeref25_one_md.sum ls).val = some (j, rs) → FnPost kk env0 51 racetreeref25_one_sh racetreeref25_one_os ls j rs := by
  have inner : LoopsOk (Kit.withModes kk (modesOf ms26)) env0 Tryd.f51.ntmps racetreeref25_one_L (bodyOf Tryd.f51) := by
    exact loopsOk_of (bs := []) (by kernel_rfl) trivial
  intro ls j rs h
  simp only [racetreeref25_one_md] at h
  split at h
  · obtain ⟨r, hr, h⟩ := Tr.get_val h
    rw [racetreeref25_one, sealF_eq] at hr
    have hd : racetreeref25_one_dec r = (j, rs) := by
      exact Option.some.inj h
    refine FnPost.modes.1 (fn_sound (kitOk_of eqOk mixed known26) (by kernel_rfl) inner ((racetreeref25_one_E _).trans hr) ?_)
    intro i qs he
    unfold racetreeref25_one_enc at he
    split at he <;> cases he <;> (cases hd; exact ⟨rfl, rfl⟩)
  · cases h

noncomputable def ms27 : List (FuncId × Mode U) := (51, racetreeref25_one_md) :: ms26

theorem known27 : Known kk env0 (modesOf ms27) := known_cons (by kernel_rfl) racetreeref25_one_post known26

noncomputable def racetreeref25_schedule_sh5 : StSh := ⟨⟨[0, 3, 4], [], [⟨.slot 3, 3, 3, (.int .i64)⟩]⟩, [.t .str, .oslc 3, .t (.int .i64)], [.row 3 (.int .i64)]⟩

noncomputable def racetreeref25_schedule_o5 : List Out := [⟨.exit 0, ⟨⟨[3], [], [⟨.slot 3, 3, 3, (.int .i64)⟩]⟩, [.oslc 3], [.row 3 (.int .i64)]⟩⟩]

noncomputable def racetreeref25_schedule_b5 : Code := (nthLoop (bodyOf Tryd.f52) 0)

noncomputable def racetreeref25_schedule_L5 : Nat → Option (Lift.Loop U) := fun n => none

noncomputable def racetreeref25_schedule_rec5 (rec : List UInt8 → Int → List (Int) → Option ((List (Int)))) : List (TV U) → Option ((List (Int)))
  | [⟨.str, a0⟩, ⟨(.int .i64), a1⟩, ⟨(.slc (.int .i64)), a2⟩] => rec a0 a1 a2
  | _ => none

noncomputable def racetreeref25_schedule_enc5 : Nat → List (TV U) → Option ((List (Int)))
  | 0, [⟨(.slc (.int .i64)), a0⟩] => some a0
  | _, _ => none

noncomputable def racetreeref25_schedule_dec5 : (List (Int)) → Nat × List (TV U) := fun x => (0, [⟨(.slc (.int .i64)), x⟩])

noncomputable def racetreeref25_schedule_tr5 : (List (Int)) → Tr (Nat × List (TV U)) := fun r => (fun x => .ret (0, [⟨(.slc (.int .i64)), x⟩])) r

noncomputable def racetreeref25_schedule_lp5 : Lift.Loop U := ⟨racetreeref25_schedule_sh5, racetreeref25_schedule_o5, fun ls => match ls with | [⟨.str, a0⟩, ⟨(.int .i64), a1⟩, ⟨(.slc (.int .i64)), a2⟩] => .get (racetreeref25_schedule_l5 a0 a1 a2) racetreeref25_schedule_tr5 | _ => .fail⟩

theorem racetreeref25_schedule_E5 (rec : List UInt8 → Int → List (Int) → Option ((List (Int)))) (a0 : List UInt8) (a1 : Int) (a2 : List (Int)) : (Kit.withModes kk (modesOf ms27)).turn Tryd.f52.ntmps racetreeref25_schedule_L5 racetreeref25_schedule_sh5 racetreeref25_schedule_o5 racetreeref25_schedule_b5 [⟨.str, a0⟩, ⟨(.int .i64), a1⟩, ⟨(.slc (.int .i64)), a2⟩] (racetreeref25_schedule_rec5 rec) racetreeref25_schedule_enc5 = racetreeref25_schedule_t5 rec a0 a1 a2 := by kernel_rfl

theorem racetreeref25_schedule_ok5 : ∀ ls j rs, (racetreeref25_schedule_lp5.sum ls).val = some (j, rs) → RoundPost kk env0 Tryd.f52.ntmps racetreeref25_schedule_b5 racetreeref25_schedule_lp5.sh racetreeref25_schedule_lp5.outs ls j rs := by
  have inner : LoopsOk (Kit.withModes kk (modesOf ms27)) env0 Tryd.f52.ntmps racetreeref25_schedule_L5 racetreeref25_schedule_b5 := by
    exact loopsOk_of (bs := []) (by kernel_rfl) trivial
  have key : ∀ n a0 a1 a2 r j rs, racetreeref25_schedule_i5 n a0 a1 a2 = some r → racetreeref25_schedule_dec5 r = (j, rs) → RoundPost kk env0 Tryd.f52.ntmps racetreeref25_schedule_b5 racetreeref25_schedule_sh5 racetreeref25_schedule_o5 [⟨.str, a0⟩, ⟨(.int .i64), a1⟩, ⟨(.slc (.int .i64)), a2⟩] j rs := by
    intro n
    induction n with
    | zero => intro a0 a1 a2 r j rs h; cases h
    | succ n ih =>
      intro a0 a1 a2 r j rs h hd
      refine RoundPost.modes.1 (turn_sound (kitOk_of eqOk mixed known27) inner ((racetreeref25_schedule_E5 (racetreeref25_schedule_i5 n) a0 a1 a2).trans h) (fun q hq => RoundPost.modes.2 ?_) ?_)
      · unfold racetreeref25_schedule_rec5 at hq
        split at hq
        · exact ih _ _ _ r j rs hq hd
        · cases hq
      · intro i qs he
        unfold racetreeref25_schedule_enc5 at he
        split at he <;> cases he <;> (cases hd; exact ⟨rfl, rfl⟩)
  intro ls j rs h
  simp only [racetreeref25_schedule_lp5] at h
  split at h
  · obtain ⟨r, hr, h⟩ := Tr.get_val h
    rw [racetreeref25_schedule_l5, sealF_eq] at hr
    refine key fuel _ _ _ r j rs hr ?_
    exact Option.some.inj h
  · cases h

noncomputable def racetreeref25_schedule_sh : StSh := ⟨⟨[0], [], []⟩, [.t .str], []⟩

noncomputable def racetreeref25_schedule_os : List StSh := [⟨⟨[0], [], [⟨.slot 0, 100000, 3, (.int .i64)⟩]⟩, [.oslc 100000], [.row 3 (.int .i64)]⟩]

noncomputable def racetreeref25_schedule_L : Nat → Option (Lift.Loop U) := fun n => bif Nat.beq n 5 then some racetreeref25_schedule_lp5 else none

noncomputable def racetreeref25_schedule_enc : Nat → List (TV U) → Option ((List (Int)))
  | 0, [⟨(.slc (.int .i64)), a0⟩] => some a0
  | _, _ => none

noncomputable def racetreeref25_schedule_dec : (List (Int)) → Nat × List (TV U) := fun x => (0, [⟨(.slc (.int .i64)), x⟩])

noncomputable def racetreeref25_schedule_tr : (List (Int)) → Tr (Nat × List (TV U)) := fun r => (fun x => .ret (0, [⟨(.slc (.int .i64)), x⟩])) r

noncomputable def racetreeref25_schedule_md : Mode U := ⟨racetreeref25_schedule_sh, [], racetreeref25_schedule_os, fun ls => match ls with | [⟨.str, a0⟩] => .get (racetreeref25_schedule a0) racetreeref25_schedule_tr | _ => .fail⟩

theorem racetreeref25_schedule_E (a0 : List UInt8) : (Kit.withModes kk (modesOf ms27)).fnEval racetreeref25_schedule_L Tryd.f52 racetreeref25_schedule_sh racetreeref25_schedule_os [⟨.str, a0⟩] racetreeref25_schedule_enc = racetreeref25_schedule_f a0 := by kernel_rfl

theorem racetreeref25_schedule_post : ∀ ls j rs, (racetreeref25_schedule_md.sum ls).val = some (j, rs) → FnPost kk env0 52 racetreeref25_schedule_sh racetreeref25_schedule_os ls j rs := by
  have inner : LoopsOk (Kit.withModes kk (modesOf ms27)) env0 Tryd.f52.ntmps racetreeref25_schedule_L (bodyOf Tryd.f52) := by
    exact loopsOk_of (bs := [racetreeref25_schedule_b5]) (by kernel_rfl) ⟨.inr ⟨_, by kernel_rfl, LoopOk.of_round racetreeref25_schedule_ok5⟩, trivial⟩
  intro ls j rs h
  simp only [racetreeref25_schedule_md] at h
  split at h
  · obtain ⟨r, hr, h⟩ := Tr.get_val h
    rw [racetreeref25_schedule, sealF_eq] at hr
    have hd : racetreeref25_schedule_dec r = (j, rs) := by
      exact Option.some.inj h
    refine FnPost.modes.1 (fn_sound (kitOk_of eqOk mixed known27) (by kernel_rfl) inner ((racetreeref25_schedule_E _).trans hr) ?_)
    intro i qs he
    unfold racetreeref25_schedule_enc at he
    split at he <;> cases he <;> (cases hd; exact ⟨rfl, rfl⟩)
  · cases h

noncomputable def ms28 : List (FuncId × Mode U) := (52, racetreeref25_schedule_md) :: ms27

theorem known28 : Known kk env0 (modesOf ms28) := known_cons (by kernel_rfl) racetreeref25_schedule_post known27

noncomputable def racetreeref25_in_sh : StSh := ⟨⟨[0], [], []⟩, [.t (.int .i64)], []⟩

noncomputable def racetreeref25_in_os : List StSh := [⟨⟨[0], [], []⟩, [.t .bool], []⟩]

noncomputable def racetreeref25_in_L : Nat → Option (Lift.Loop U) := fun n => none

noncomputable def racetreeref25_in_enc : Nat → List (TV U) → Option (Bool)
  | 0, [⟨.bool, a0⟩] => some a0
  | _, _ => none

noncomputable def racetreeref25_in_dec : Bool → Nat × List (TV U) := fun x => (0, [⟨.bool, x⟩])

noncomputable def racetreeref25_in_tr : Bool → Tr (Nat × List (TV U)) := fun r => (fun x => .ret (0, [⟨.bool, x⟩])) r

noncomputable def racetreeref25_in_md : Mode U := ⟨racetreeref25_in_sh, [], racetreeref25_in_os, fun ls => match ls with | [⟨(.int .i64), a0⟩] => .get (racetreeref25_in a0) racetreeref25_in_tr | _ => .fail⟩

theorem racetreeref25_in_E (a0 : Int) : (Kit.withModes kk (modesOf ms28)).fnEval racetreeref25_in_L Tryd.f43 racetreeref25_in_sh racetreeref25_in_os [⟨(.int .i64), a0⟩] racetreeref25_in_enc = racetreeref25_in_f a0 := by kernel_rfl

theorem racetreeref25_in_post : ∀ ls j rs, (racetreeref25_in_md.sum ls).val = some (j, rs) → FnPost kk env0 43 racetreeref25_in_sh racetreeref25_in_os ls j rs := by
  have inner : LoopsOk (Kit.withModes kk (modesOf ms28)) env0 Tryd.f43.ntmps racetreeref25_in_L (bodyOf Tryd.f43) := by
    exact loopsOk_of (bs := []) (by kernel_rfl) trivial
  intro ls j rs h
  simp only [racetreeref25_in_md] at h
  split at h
  · obtain ⟨r, hr, h⟩ := Tr.get_val h
    rw [racetreeref25_in, sealF_eq] at hr
    have hd : racetreeref25_in_dec r = (j, rs) := by
      exact Option.some.inj h
    refine FnPost.modes.1 (fn_sound (kitOk_of eqOk mixed known28) (by kernel_rfl) inner ((racetreeref25_in_E _).trans hr) ?_)
    intro i qs he
    unfold racetreeref25_in_enc at he
    split at he <;> cases he <;> (cases hd; exact ⟨rfl, rfl⟩)
  · cases h

noncomputable def ms29 : List (FuncId × Mode U) := (43, racetreeref25_in_md) :: ms28

theorem known29 : Known kk env0 (modesOf ms29) := known_cons (by kernel_rfl) racetreeref25_in_post known28

noncomputable def racetreeref25_Right_sh5 : StSh := ⟨⟨[1, 4], [1], []⟩, [.ptr 1 0, .t (.int .i64)], [.blk 30 [.t (.int .i64), .t (.int .i64), .t (.int .i64), .t (.int .i64), .t (.slc (.int .i64))]]⟩

noncomputable def racetreeref25_Right_o5 : List Out := [⟨.ret, ⟨⟨[2], [], []⟩, [.t .bool], []⟩⟩, ⟨.exit 0, ⟨⟨[1], [1], []⟩, [.ptr 1 0], [.blk 30 [.t (.int .i64), .t (.int .i64), .t (.int .i64), .t (.int .i64), .t (.slc (.int .i64))]]⟩⟩]

noncomputable def racetreeref25_Right_b5 : Code := (nthLoop (bodyOf Tryd.f25) 0)

noncomputable def racetreeref25_Right_L5 : Nat → Option (Lift.Loop U) := fun n => none

noncomputable def racetreeref25_Right_rec5 (rec : Int → Int → Int → Int → Int → List (Int) → Option ((Bool) ⊕ (Int × Int × Int × Int × (List (Int))))) : List (TV U) → Option ((Bool) ⊕ (Int × Int × Int × Int × (List (Int))))
  | [⟨(.int .i64), a0⟩, ⟨(.int .i64), a1⟩, ⟨(.int .i64), a2⟩, ⟨(.int .i64), a3⟩, ⟨(.int .i64), a4⟩, ⟨(.slc (.int .i64)), a5⟩] => rec a0 a1 a2 a3 a4 a5
  | _ => none

noncomputable def racetreeref25_Right_enc5 : Nat → List (TV U) → Option ((Bool) ⊕ (Int × Int × Int × Int × (List (Int))))
  | 0, [⟨.bool, a0⟩] => some (.inl a0)
  | 1, [⟨(.int .i64), a0⟩, ⟨(.int .i64), a1⟩, ⟨(.int .i64), a2⟩, ⟨(.int .i64), a3⟩, ⟨(.slc (.int .i64)), a4⟩] => some (.inr (a0, a1, a2, a3, a4))
  | _, _ => none

noncomputable def racetreeref25_Right_dec5 : (Bool) ⊕ (Int × Int × Int × Int × (List (Int))) → Nat × List (TV U) := fun r => match r with | (.inl x) => (0, [⟨.bool, x⟩]) | (.inr x) => (1, [⟨(.int .i64), x.1⟩, ⟨(.int .i64), x.2.1⟩, ⟨(.int .i64), x.2.2.1⟩, ⟨(.int .i64), x.2.2.2.1⟩, ⟨(.slc (.int .i64)), x.2.2.2.2⟩])

noncomputable def racetreeref25_Right_tr5 : (Bool) ⊕ (Int × Int × Int × Int × (List (Int))) → Tr (Nat × List (TV U)) := fun r => .alt r (fun x => .ret (0, [⟨.bool, x⟩])) (fun y => (fun x => .ret (1, [⟨(.int .i64), x.1⟩, ⟨(.int .i64), x.2.1⟩, ⟨(.int .i64), x.2.2.1⟩, ⟨(.int .i64), x.2.2.2.1⟩, ⟨(.slc (.int .i64)), x.2.2.2.2⟩])) y)

noncomputable def racetreeref25_Right_lp5 : Lift.Loop U := ⟨racetreeref25_Right_sh5, racetreeref25_Right_o5, fun ls => match ls with | [⟨(.int .i64), a0⟩, ⟨(.int .i64), a1⟩, ⟨(.int .i64), a2⟩, ⟨(.int .i64), a3⟩, ⟨(.int .i64), a4⟩, ⟨(.slc (.int .i64)), a5⟩] => .get (racetreeref25_Right_l5 a0 a1 a2 a3 a4 a5) racetreeref25_Right_tr5 | _ => .fail⟩

theorem racetreeref25_Right_E5 (rec : Int → Int → Int → Int → Int → List (Int) → Option ((Bool) ⊕ (Int × Int × Int × Int × (List (Int))))) (a0 : Int) (a1 : Int) (a2 : Int) (a3 : Int) (a4 : Int) (a5 : List (Int)) : (Kit.withModes kk (modesOf ms29)).turn Tryd.f25.ntmps racetreeref25_Right_L5 racetreeref25_Right_sh5 racetreeref25_Right_o5 racetreeref25_Right_b5 [⟨(.int .i64), a0⟩, ⟨(.int .i64), a1⟩, ⟨(.int .i64), a2⟩, ⟨(.int .i64), a3⟩, ⟨(.int .i64), a4⟩, ⟨(.slc (.int .i64)), a5⟩] (racetreeref25_Right_rec5 rec) racetreeref25_Right_enc5 = racetreeref25_Right_t5 rec a0 a1 a2 a3 a4 a5 := by kernel_rfl

theorem racetreeref25_Right_ok5 : ∀ ls j rs, (racetreeref25_Right_lp5.sum ls).val = some (j, rs) → RoundPost kk env0 Tryd.f25.ntmps racetreeref25_Right_b5 racetreeref25_Right_lp5.sh racetreeref25_Right_lp5.outs ls j rs := by
  have inner : LoopsOk (Kit.withModes kk (modesOf ms29)) env0 Tryd.f25.ntmps racetreeref25_Right_L5 racetreeref25_Right_b5 := by
    exact loopsOk_of (bs := []) (by kernel_rfl) trivial
  have key : ∀ n a0 a1 a2 a3 a4 a5 r j rs, racetreeref25_Right_i5 n a0 a1 a2 a3 a4 a5 = some r → racetreeref25_Right_dec5 r = (j, rs) → RoundPost kk env0 Tryd.f25.ntmps racetreeref25_Right_b5 racetreeref25_Right_sh5 racetreeref25_Right_o5 [⟨(.int .i64), a0⟩, ⟨(.int .i64), a1⟩, ⟨(.int .i64), a2⟩, ⟨(.int .i64), a3⟩, ⟨(.int .i64), a4⟩, ⟨(.slc (.int .i64)), a5⟩] j rs := by
    intro n
    induction n with
    | zero => intro a0 a1 a2 a3 a4 a5 r j rs h; cases h
    | succ n ih =>
      intro a0 a1 a2 a3 a4 a5 r j rs h hd
      refine RoundPost.modes.1 (turn_sound (kitOk_of eqOk mixed known29) inner ((racetreeref25_Right_E5 (racetreeref25_Right_i5 n) a0 a1 a2 a3 a4 a5).trans h) (fun q hq => RoundPost.modes.2 ?_) ?_)
      · unfold racetreeref25_Right_rec5 at hq
        split at hq
        · exact ih _ _ _ _ _ _ r j rs hq hd
        · cases hq
      · intro i qs he
        unfold racetreeref25_Right_enc5 at he
        split at he <;> cases he <;> (cases hd; exact ⟨rfl, rfl⟩)
  intro ls j rs h
  simp only [racetreeref25_Right_lp5] at h
  split at h
  · obtain ⟨r, hr, h⟩ := Tr.get_val h
    rw [racetreeref25_Right_l5, sealF_eq] at hr
    refine key fuel _ _ _ _ _ _ r j rs hr ?_
    rcases r with r | r <;> exact Option.some.inj h
  · cases h

noncomputable def racetreeref25_Right_sh : StSh := ⟨⟨[0], [], []⟩, [.t (.st 30)], []⟩

noncomputable def racetreeref25_Right_os : List StSh := [⟨⟨[0], [], []⟩, [.t .bool], []⟩]

noncomputable def racetreeref25_Right_L : Nat → Option (Lift.Loop U) := fun n => bif Nat.beq n 5 then some racetreeref25_Right_lp5 else none

noncomputable def racetreeref25_Right_enc : Nat → List (TV U) → Option (Bool)
  | 0, [⟨.bool, a0⟩] => some a0
  | _, _ => none

noncomputable def racetreeref25_Right_dec : Bool → Nat × List (TV U) := fun x => (0, [⟨.bool, x⟩])

noncomputable def racetreeref25_Right_tr : Bool → Tr (Nat × List (TV U)) := fun r => (fun x => .ret (0, [⟨.bool, x⟩])) r

noncomputable def racetreeref25_Right_md : Mode U := ⟨racetreeref25_Right_sh, [], racetreeref25_Right_os, fun ls => match ls with | [⟨(.st 30), a0⟩] => .get (racetreeref25_Right a0) racetreeref25_Right_tr | _ => .fail⟩

theorem racetreeref25_Right_E (a0 : Finding) : (Kit.withModes kk (modesOf ms29)).fnEval racetreeref25_Right_L Tryd.f25 racetreeref25_Right_sh racetreeref25_Right_os [⟨(.st 30), a0⟩] racetreeref25_Right_enc = racetreeref25_Right_f a0 := by kernel_rfl

theorem racetreeref25_Right_post : ∀ ls j rs, (racetreeref25_Right_md.sum ls).val = some (j, rs) → FnPost kk env0 25 racetreeref25_Right_sh racetreeref25_Right_os ls j rs := by
  have inner : LoopsOk (Kit.withModes kk (modesOf ms29)) env0 Tryd.f25.ntmps racetreeref25_Right_L (bodyOf Tryd.f25) := by
    exact loopsOk_of (bs := [racetreeref25_Right_b5]) (by kernel_rfl) ⟨.inr ⟨_, by kernel_rfl, LoopOk.of_round racetreeref25_Right_ok5⟩, trivial⟩
  intro ls j rs h
  simp only [racetreeref25_Right_md] at h
  split at h
  · obtain ⟨r, hr, h⟩ := Tr.get_val h
    rw [racetreeref25_Right, sealF_eq] at hr
    have hd : racetreeref25_Right_dec r = (j, rs) := by
      exact Option.some.inj h
    refine FnPost.modes.1 (fn_sound (kitOk_of eqOk mixed known29) (by kernel_rfl) inner ((racetreeref25_Right_E _).trans hr) ?_)
    intro i qs he
    unfold racetreeref25_Right_enc at he
    split at he <;> cases he <;> (cases hd; exact ⟨rfl, rfl⟩)
  · cases h

noncomputable def ms30 : List (FuncId × Mode U) := (25, racetreeref25_Right_md) :: ms29

theorem known30 : Known kk env0 (modesOf ms30) := known_cons (by kernel_rfl) racetreeref25_Right_post known29

noncomputable def racetreeref25_digit_sh : StSh := ⟨⟨[0], [], []⟩, [.t (.int .i64)], []⟩

noncomputable def racetreeref25_digit_os : List StSh := [⟨⟨[0], [], []⟩, [.t .str], []⟩]

noncomputable def racetreeref25_digit_L : Nat → Option (Lift.Loop U) := fun n => none

noncomputable def racetreeref25_digit_enc : Nat → List (TV U) → Option ((List UInt8))
  | 0, [⟨.str, a0⟩] => some a0
  | _, _ => none

noncomputable def racetreeref25_digit_dec : (List UInt8) → Nat × List (TV U) := fun x => (0, [⟨.str, x⟩])

noncomputable def racetreeref25_digit_tr : (List UInt8) → Tr (Nat × List (TV U)) := fun r => (fun x => .ret (0, [⟨.str, x⟩])) r

noncomputable def racetreeref25_digit_md : Mode U := ⟨racetreeref25_digit_sh, [], racetreeref25_digit_os, fun ls => match ls with | [⟨(.int .i64), a0⟩] => .get (racetreeref25_digit a0) racetreeref25_digit_tr | _ => .fail⟩

theorem racetreeref25_digit_E (a0 : Int) : (Kit.withModes kk (modesOf ms30)).fnEval racetreeref25_digit_L Tryd.f44 racetreeref25_digit_sh racetreeref25_digit_os [⟨(.int .i64), a0⟩] racetreeref25_digit_enc = racetreeref25_digit_f a0 := by kernel_rfl

theorem racetreeref25_digit_post : ∀ ls j rs, (racetreeref25_digit_md.sum ls).val = some (j, rs) → FnPost kk env0 44 racetreeref25_digit_sh racetreeref25_digit_os ls j rs := by
  have inner : LoopsOk (Kit.withModes kk (modesOf ms30)) env0 Tryd.f44.ntmps racetreeref25_digit_L (bodyOf Tryd.f44) := by
    exact loopsOk_of (bs := []) (by kernel_rfl) trivial
  intro ls j rs h
  simp only [racetreeref25_digit_md] at h
  split at h
  · obtain ⟨r, hr, h⟩ := Tr.get_val h
    rw [racetreeref25_digit, sealF_eq] at hr
    have hd : racetreeref25_digit_dec r = (j, rs) := by
      exact Option.some.inj h
    refine FnPost.modes.1 (fn_sound (kitOk_of eqOk mixed known30) (by kernel_rfl) inner ((racetreeref25_digit_E _).trans hr) ?_)
    intro i qs he
    unfold racetreeref25_digit_enc at he
    split at he <;> cases he <;> (cases hd; exact ⟨rfl, rfl⟩)
  · cases h

noncomputable def ms31 : List (FuncId × Mode U) := (44, racetreeref25_digit_md) :: ms30

theorem known31 : Known kk env0 (modesOf ms31) := known_cons (by kernel_rfl) racetreeref25_digit_post known30

noncomputable def racetreeref25_misuse_sh : StSh := ⟨⟨[0], [], []⟩, [.t (.int .i64)], []⟩

noncomputable def racetreeref25_misuse_os : List StSh := [⟨⟨[0], [], []⟩, [.t .str], []⟩]

noncomputable def racetreeref25_misuse_L : Nat → Option (Lift.Loop U) := fun n => none

noncomputable def racetreeref25_misuse_enc : Nat → List (TV U) → Option ((List UInt8))
  | 0, [⟨.str, a0⟩] => some a0
  | _, _ => none

noncomputable def racetreeref25_misuse_dec : (List UInt8) → Nat × List (TV U) := fun x => (0, [⟨.str, x⟩])

noncomputable def racetreeref25_misuse_tr : (List UInt8) → Tr (Nat × List (TV U)) := fun r => (fun x => .ret (0, [⟨.str, x⟩])) r

noncomputable def racetreeref25_misuse_md : Mode U := ⟨racetreeref25_misuse_sh, [], racetreeref25_misuse_os, fun ls => match ls with | [⟨(.int .i64), a0⟩] => .get (racetreeref25_misuse a0) racetreeref25_misuse_tr | _ => .fail⟩

theorem racetreeref25_misuse_E (a0 : Int) : (Kit.withModes kk (modesOf ms31)).fnEval racetreeref25_misuse_L Tryd.f45 racetreeref25_misuse_sh racetreeref25_misuse_os [⟨(.int .i64), a0⟩] racetreeref25_misuse_enc = racetreeref25_misuse_f a0 := by kernel_rfl

theorem racetreeref25_misuse_post : ∀ ls j rs, (racetreeref25_misuse_md.sum ls).val = some (j, rs) → FnPost kk env0 45 racetreeref25_misuse_sh racetreeref25_misuse_os ls j rs := by
  have inner : LoopsOk (Kit.withModes kk (modesOf ms31)) env0 Tryd.f45.ntmps racetreeref25_misuse_L (bodyOf Tryd.f45) := by
    exact loopsOk_of (bs := []) (by kernel_rfl) trivial
  intro ls j rs h
  simp only [racetreeref25_misuse_md] at h
  split at h
  · obtain ⟨r, hr, h⟩ := Tr.get_val h
    rw [racetreeref25_misuse, sealF_eq] at hr
    have hd : racetreeref25_misuse_dec r = (j, rs) := by
      exact Option.some.inj h
    refine FnPost.modes.1 (fn_sound (kitOk_of eqOk mixed known31) (by kernel_rfl) inner ((racetreeref25_misuse_E _).trans hr) ?_)
    intro i qs he
    unfold racetreeref25_misuse_enc at he
    split at he <;> cases he <;> (cases hd; exact ⟨rfl, rfl⟩)
  · cases h

noncomputable def ms32 : List (FuncId × Mode U) := (45, racetreeref25_misuse_md) :: ms31

theorem known32 : Known kk env0 (modesOf ms32) := known_cons (by kernel_rfl) racetreeref25_misuse_post known31

noncomputable def racetreeref25_line_sh20 : StSh := ⟨⟨[1, 8, 9], [1], [⟨.slot 8, 8, 5, (.int .u8)⟩]⟩, [.ptr 1 0, .oslc 8, .t (.int .i64)], [.blk 30 [.t (.int .i64), .t (.int .i64), .t (.int .i64), .t (.int .i64), .t (.slc (.int .i64))], .row 5 (.int .u8)]⟩

noncomputable def racetreeref25_line_o20 : List Out := [⟨.exit 1, ⟨⟨[8], [], [⟨.slot 8, 8, 5, (.int .u8)⟩]⟩, [.oslc 8], [.row 5 (.int .u8)]⟩⟩]

noncomputable def racetreeref25_line_b20 : Code := (nthLoop (bodyOf Tryd.f26) 0)

noncomputable def racetreeref25_line_L20 : Nat → Option (Lift.Loop U) := fun n => none

noncomputable def racetreeref25_line_rec20 (rec : Int → Int → Int → Int → Int → List (Int) → List (Int) → Option ((List (Int)))) : List (TV U) → Option ((List (Int)))
  | [⟨(.int .i64), a0⟩, ⟨(.int .i64), a1⟩, ⟨(.int .i64), a2⟩, ⟨(.int .i64), a3⟩, ⟨(.int .i64), a4⟩, ⟨(.slc (.int .i64)), a5⟩, ⟨(.slc (.int .u8)), a6⟩] => rec a0 a1 a2 a3 a4 a5 a6
  | _ => none

noncomputable def racetreeref25_line_enc20 : Nat → List (TV U) → Option ((List (Int)))
  | 0, [⟨(.slc (.int .u8)), a0⟩] => some a0
  | _, _ => none

noncomputable def racetreeref25_line_dec20 : (List (Int)) → Nat × List (TV U) := fun x => (0, [⟨(.slc (.int .u8)), x⟩])

noncomputable def racetreeref25_line_tr20 : (List (Int)) → Tr (Nat × List (TV U)) := fun r => (fun x => .ret (0, [⟨(.slc (.int .u8)), x⟩])) r

noncomputable def racetreeref25_line_lp20 : Lift.Loop U := ⟨racetreeref25_line_sh20, racetreeref25_line_o20, fun ls => match ls with | [⟨(.int .i64), a0⟩, ⟨(.int .i64), a1⟩, ⟨(.int .i64), a2⟩, ⟨(.int .i64), a3⟩, ⟨(.int .i64), a4⟩, ⟨(.slc (.int .i64)), a5⟩, ⟨(.slc (.int .u8)), a6⟩] => .get (racetreeref25_line_l20 a0 a1 a2 a3 a4 a5 a6) racetreeref25_line_tr20 | _ => .fail⟩

theorem racetreeref25_line_E20 (rec : Int → Int → Int → Int → Int → List (Int) → List (Int) → Option ((List (Int)))) (a0 : Int) (a1 : Int) (a2 : Int) (a3 : Int) (a4 : Int) (a5 : List (Int)) (a6 : List (Int)) : (Kit.withModes kk (modesOf ms32)).turn Tryd.f26.ntmps racetreeref25_line_L20 racetreeref25_line_sh20 racetreeref25_line_o20 racetreeref25_line_b20 [⟨(.int .i64), a0⟩, ⟨(.int .i64), a1⟩, ⟨(.int .i64), a2⟩, ⟨(.int .i64), a3⟩, ⟨(.int .i64), a4⟩, ⟨(.slc (.int .i64)), a5⟩, ⟨(.slc (.int .u8)), a6⟩] (racetreeref25_line_rec20 rec) racetreeref25_line_enc20 = racetreeref25_line_t20 rec a0 a1 a2 a3 a4 a5 a6 := by kernel_rfl

theorem racetreeref25_line_ok20 : ∀ ls j rs, (racetreeref25_line_lp20.sum ls).val = some (j, rs) → RoundPost kk env0 Tryd.f26.ntmps racetreeref25_line_b20 racetreeref25_line_lp20.sh racetreeref25_line_lp20.outs ls j rs := by
  have inner : LoopsOk (Kit.withModes kk (modesOf ms32)) env0 Tryd.f26.ntmps racetreeref25_line_L20 racetreeref25_line_b20 := by
    exact loopsOk_of (bs := []) (by kernel_rfl) trivial
  have key : ∀ n a0 a1 a2 a3 a4 a5 a6 r j rs, racetreeref25_line_i20 n a0 a1 a2 a3 a4 a5 a6 = some r → racetreeref25_line_dec20 r = (j, rs) → RoundPost kk env0 Tryd.f26.ntmps racetreeref25_line_b20 racetreeref25_line_sh20 racetreeref25_line_o20 [⟨(.int .i64), a0⟩, ⟨(.int .i64), a1⟩, ⟨(.int .i64), a2⟩, ⟨(.int .i64), a3⟩, ⟨(.int .i64), a4⟩, ⟨(.slc (.int .i64)), a5⟩, ⟨(.slc (.int .u8)), a6⟩] j rs := by
    intro n
    induction n with
    | zero => intro a0 a1 a2 a3 a4 a5 a6 r j rs h; cases h
    | succ n ih =>
      intro a0 a1 a2 a3 a4 a5 a6 r j rs h hd
      refine RoundPost.modes.1 (turn_sound (kitOk_of eqOk mixed known32) inner ((racetreeref25_line_E20 (racetreeref25_line_i20 n) a0 a1 a2 a3 a4 a5 a6).trans h) (fun q hq => RoundPost.modes.2 ?_) ?_)
      · unfold racetreeref25_line_rec20 at hq
        split at hq
        · exact ih _ _ _ _ _ _ _ r j rs hq hd
        · cases hq
      · intro i qs he
        unfold racetreeref25_line_enc20 at he
        split at he <;> cases he <;> (cases hd; exact ⟨rfl, rfl⟩)
  intro ls j rs h
  simp only [racetreeref25_line_lp20] at h
  split at h
  · obtain ⟨r, hr, h⟩ := Tr.get_val h
    rw [racetreeref25_line_l20, sealF_eq] at hr
    refine key fuel _ _ _ _ _ _ _ r j rs hr ?_
    exact Option.some.inj h
  · cases h

noncomputable def racetreeref25_line_sh : StSh := ⟨⟨[0], [], []⟩, [.t (.st 30)], []⟩

noncomputable def racetreeref25_line_os : List StSh := [⟨⟨[0], [], []⟩, [.t .str], []⟩]

noncomputable def racetreeref25_line_L : Nat → Option (Lift.Loop U) := fun n => bif Nat.beq n 20 then some racetreeref25_line_lp20 else none

noncomputable def racetreeref25_line_enc : Nat → List (TV U) → Option ((List UInt8))
  | 0, [⟨.str, a0⟩] => some a0
  | _, _ => none

noncomputable def racetreeref25_line_dec : (List UInt8) → Nat × List (TV U) := fun x => (0, [⟨.str, x⟩])

noncomputable def racetreeref25_line_tr : (List UInt8) → Tr (Nat × List (TV U)) := fun r => (fun x => .ret (0, [⟨.str, x⟩])) r

noncomputable def racetreeref25_line_md : Mode U := ⟨racetreeref25_line_sh, [], racetreeref25_line_os, fun ls => match ls with | [⟨(.st 30), a0⟩] => .get (racetreeref25_line a0) racetreeref25_line_tr | _ => .fail⟩

theorem racetreeref25_line_E (a0 : Finding) : (Kit.withModes kk (modesOf ms32)).fnEval racetreeref25_line_L Tryd.f26 racetreeref25_line_sh racetreeref25_line_os [⟨(.st 30), a0⟩] racetreeref25_line_enc = racetreeref25_line_f a0 := by kernel_rfl

theorem racetreeref25_line_post : ∀ ls j rs, (racetreeref25_line_md.sum ls).val = some (j, rs) → FnPost kk env0 26 racetreeref25_line_sh racetreeref25_line_os ls j rs := by
  have inner : LoopsOk (Kit.withModes kk (modesOf ms32)) env0 Tryd.f26.ntmps racetreeref25_line_L (bodyOf Tryd.f26) := by
    exact loopsOk_of (bs := [racetreeref25_line_b20]) (by kernel_rfl) ⟨.inr ⟨_, by kernel_rfl, LoopOk.of_round racetreeref25_line_ok20⟩, trivial⟩
  intro ls j rs h
  simp only [racetreeref25_line_md] at h
  split at h
  · obtain ⟨r, hr, h⟩ := Tr.get_val h
    rw [racetreeref25_line, sealF_eq] at hr
    have hd : racetreeref25_line_dec r = (j, rs) := by
      exact Option.some.inj h
    refine FnPost.modes.1 (fn_sound (kitOk_of eqOk mixed known32) (by kernel_rfl) inner ((racetreeref25_line_E _).trans hr) ?_)
    intro i qs he
    unfold racetreeref25_line_enc at he
    split at he <;> cases he <;> (cases hd; exact ⟨rfl, rfl⟩)
  · cases h

noncomputable def ms33 : List (FuncId × Mode U) := (26, racetreeref25_line_md) :: ms32

theorem known33 : Known kk env0 (modesOf ms33) := known_cons (by kernel_rfl) racetreeref25_line_post known32

noncomputable def racetreeref25_read_sh : StSh := ⟨⟨[0], [], []⟩, [.t .str], []⟩

noncomputable def racetreeref25_read_os : List StSh := [⟨⟨[0, 1], [], []⟩, [.t (.st 30), .t .bool], []⟩]

noncomputable def racetreeref25_read_L : Nat → Option (Lift.Loop U) := fun n => none

noncomputable def racetreeref25_read_enc : Nat → List (TV U) → Option (Finding × Bool)
  | 0, [⟨(.st 30), a0⟩, ⟨.bool, a1⟩] => some (a0, a1)
  | _, _ => none

noncomputable def racetreeref25_read_dec : Finding × Bool → Nat × List (TV U) := fun x => (0, [⟨(.st 30), x.1⟩, ⟨.bool, x.2⟩])

noncomputable def racetreeref25_read_tr : Finding × Bool → Tr (Nat × List (TV U)) := fun r => (fun x => .ret (0, [⟨(.st 30), x.1⟩, ⟨.bool, x.2⟩])) r

noncomputable def racetreeref25_read_md : Mode U := ⟨racetreeref25_read_sh, [], racetreeref25_read_os, fun ls => match ls with | [⟨.str, a0⟩] => .get (racetreeref25_read a0) racetreeref25_read_tr | _ => .fail⟩

theorem racetreeref25_read_E (a0 : List UInt8) : (Kit.withModes kk (modesOf ms33)).fnEval racetreeref25_read_L Tryd.f31 racetreeref25_read_sh racetreeref25_read_os [⟨.str, a0⟩] racetreeref25_read_enc = racetreeref25_read_f a0 := by kernel_rfl

theorem racetreeref25_read_post : ∀ ls j rs, (racetreeref25_read_md.sum ls).val = some (j, rs) → FnPost kk env0 31 racetreeref25_read_sh racetreeref25_read_os ls j rs := by
  have inner : LoopsOk (Kit.withModes kk (modesOf ms33)) env0 Tryd.f31.ntmps racetreeref25_read_L (bodyOf Tryd.f31) := by
    exact loopsOk_of (bs := []) (by kernel_rfl) trivial
  intro ls j rs h
  simp only [racetreeref25_read_md] at h
  split at h
  · obtain ⟨r, hr, h⟩ := Tr.get_val h
    rw [racetreeref25_read, sealF_eq] at hr
    have hd : racetreeref25_read_dec r = (j, rs) := by
      exact Option.some.inj h
    refine FnPost.modes.1 (fn_sound (kitOk_of eqOk mixed known33) (by kernel_rfl) inner ((racetreeref25_read_E _).trans hr) ?_)
    intro i qs he
    unfold racetreeref25_read_enc at he
    split at he <;> cases he <;> (cases hd; exact ⟨rfl, rfl⟩)
  · cases h

noncomputable def ms34 : List (FuncId × Mode U) := (31, racetreeref25_read_md) :: ms33

theorem known34 : Known kk env0 (modesOf ms34) := known_cons (by kernel_rfl) racetreeref25_read_post known33

noncomputable def racetreeref25_Read_sh6 : StSh := ⟨⟨[0, 3, 4, 5, 6], [3], [⟨.slot 4, 4, 30, (.st 30)⟩]⟩, [.t .str, .ptr 3 0, .oslc 4, .t (.int .i64), .t (.int .i64)], [.blk 38 [.t (.int .i64), .t (.int .i64), .t .str], .row 30 (.st 30)]⟩

noncomputable def racetreeref25_Read_o6 : List Out := [⟨.ret, ⟨⟨[2, 3], [3], []⟩, [.nil, .ptr 3 0], [.blk 38 [.t (.int .i64), .t (.int .i64), .t .str]]⟩⟩, ⟨.exit 0, ⟨⟨[0, 3, 4, 5], [3], [⟨.slot 4, 4, 30, (.st 30)⟩]⟩, [.t .str, .ptr 3 0, .oslc 4, .t (.int .i64)], [.blk 38 [.t (.int .i64), .t (.int .i64), .t .str], .row 30 (.st 30)]⟩⟩]

noncomputable def racetreeref25_Read_b6 : Code := (nthLoop (bodyOf Tryd.f15) 0)

noncomputable def racetreeref25_Read_L6 : Nat → Option (Lift.Loop U) := fun n => none

noncomputable def racetreeref25_Read_rec6 (rec : List UInt8 → Int → Int → Int → Int → List UInt8 → List (Finding) → Option ((Int × Int × (List UInt8)) ⊕ ((List UInt8) × Int × Int × Int × (List UInt8) × (List (Finding))))) : List (TV U) → Option ((Int × Int × (List UInt8)) ⊕ ((List UInt8) × Int × Int × Int × (List UInt8) × (List (Finding))))
  | [⟨.str, a0⟩, ⟨(.int .i64), a1⟩, ⟨(.int .i64), a2⟩, ⟨(.int .i64), a3⟩, ⟨(.int .i64), a4⟩, ⟨.str, a5⟩, ⟨(.slc (.st 30)), a6⟩] => rec a0 a1 a2 a3 a4 a5 a6
  | _ => none

noncomputable def racetreeref25_Read_enc6 : Nat → List (TV U) → Option ((Int × Int × (List UInt8)) ⊕ ((List UInt8) × Int × Int × Int × (List UInt8) × (List (Finding))))
  | 0, [⟨(.int .i64), a0⟩, ⟨(.int .i64), a1⟩, ⟨.str, a2⟩] => some (.inl (a0, a1, a2))
  | 1, [⟨.str, a0⟩, ⟨(.int .i64), a1⟩, ⟨(.int .i64), a2⟩, ⟨(.int .i64), a3⟩, ⟨.str, a4⟩, ⟨(.slc (.st 30)), a5⟩] => some (.inr (a0, a1, a2, a3, a4, a5))
  | _, _ => none

noncomputable def racetreeref25_Read_dec6 : (Int × Int × (List UInt8)) ⊕ ((List UInt8) × Int × Int × Int × (List UInt8) × (List (Finding))) → Nat × List (TV U) := fun r => match r with | (.inl x) => (0, [⟨(.int .i64), x.1⟩, ⟨(.int .i64), x.2.1⟩, ⟨.str, x.2.2⟩]) | (.inr x) => (1, [⟨.str, x.1⟩, ⟨(.int .i64), x.2.1⟩, ⟨(.int .i64), x.2.2.1⟩, ⟨(.int .i64), x.2.2.2.1⟩, ⟨.str, x.2.2.2.2.1⟩, ⟨(.slc (.st 30)), x.2.2.2.2.2⟩])

noncomputable def racetreeref25_Read_tr6 : (Int × Int × (List UInt8)) ⊕ ((List UInt8) × Int × Int × Int × (List UInt8) × (List (Finding))) → Tr (Nat × List (TV U)) := fun r => .alt r (fun x => .ret (0, [⟨(.int .i64), x.1⟩, ⟨(.int .i64), x.2.1⟩, ⟨.str, x.2.2⟩])) (fun y => (fun x => .ret (1, [⟨.str, x.1⟩, ⟨(.int .i64), x.2.1⟩, ⟨(.int .i64), x.2.2.1⟩, ⟨(.int .i64), x.2.2.2.1⟩, ⟨.str, x.2.2.2.2.1⟩, ⟨(.slc (.st 30)), x.2.2.2.2.2⟩])) y)

noncomputable def racetreeref25_Read_lp6 : Lift.Loop U := ⟨racetreeref25_Read_sh6, racetreeref25_Read_o6, fun ls => match ls with | [⟨.str, a0⟩, ⟨(.int .i64), a1⟩, ⟨(.int .i64), a2⟩, ⟨(.int .i64), a3⟩, ⟨(.int .i64), a4⟩, ⟨.str, a5⟩, ⟨(.slc (.st 30)), a6⟩] => .get (racetreeref25_Read_l6 a0 a1 a2 a3 a4 a5 a6) racetreeref25_Read_tr6 | _ => .fail⟩

theorem racetreeref25_Read_E6 (rec : List UInt8 → Int → Int → Int → Int → List UInt8 → List (Finding) → Option ((Int × Int × (List UInt8)) ⊕ ((List UInt8) × Int × Int × Int × (List UInt8) × (List (Finding))))) (a0 : List UInt8) (a1 : Int) (a2 : Int) (a3 : Int) (a4 : Int) (a5 : List UInt8) (a6 : List (Finding)) : (Kit.withModes kk (modesOf ms34)).turn Tryd.f15.ntmps racetreeref25_Read_L6 racetreeref25_Read_sh6 racetreeref25_Read_o6 racetreeref25_Read_b6 [⟨.str, a0⟩, ⟨(.int .i64), a1⟩, ⟨(.int .i64), a2⟩, ⟨(.int .i64), a3⟩, ⟨(.int .i64), a4⟩, ⟨.str, a5⟩, ⟨(.slc (.st 30)), a6⟩] (racetreeref25_Read_rec6 rec) racetreeref25_Read_enc6 = racetreeref25_Read_t6 rec a0 a1 a2 a3 a4 a5 a6 := by kernel_rfl

theorem racetreeref25_Read_ok6 : ∀ ls j rs, (racetreeref25_Read_lp6.sum ls).val = some (j, rs) → RoundPost kk env0 Tryd.f15.ntmps racetreeref25_Read_b6 racetreeref25_Read_lp6.sh racetreeref25_Read_lp6.outs ls j rs := by
  have inner : LoopsOk (Kit.withModes kk (modesOf ms34)) env0 Tryd.f15.ntmps racetreeref25_Read_L6 racetreeref25_Read_b6 := by
    exact loopsOk_of (bs := []) (by kernel_rfl) trivial
  have key : ∀ n a0 a1 a2 a3 a4 a5 a6 r j rs, racetreeref25_Read_i6 n a0 a1 a2 a3 a4 a5 a6 = some r → racetreeref25_Read_dec6 r = (j, rs) → RoundPost kk env0 Tryd.f15.ntmps racetreeref25_Read_b6 racetreeref25_Read_sh6 racetreeref25_Read_o6 [⟨.str, a0⟩, ⟨(.int .i64), a1⟩, ⟨(.int .i64), a2⟩, ⟨(.int .i64), a3⟩, ⟨(.int .i64), a4⟩, ⟨.str, a5⟩, ⟨(.slc (.st 30)), a6⟩] j rs := by
    intro n
    induction n with
    | zero => intro a0 a1 a2 a3 a4 a5 a6 r j rs h; cases h
    | succ n ih =>
      intro a0 a1 a2 a3 a4 a5 a6 r j rs h hd
      refine RoundPost.modes.1 (turn_sound (kitOk_of eqOk mixed known34) inner ((racetreeref25_Read_E6 (racetreeref25_Read_i6 n) a0 a1 a2 a3 a4 a5 a6).trans h) (fun q hq => RoundPost.modes.2 ?_) ?_)
      · unfold racetreeref25_Read_rec6 at hq
        split at hq
        · exact ih _ _ _ _ _ _ _ r j rs hq hd
        · cases hq
      · intro i qs he
        unfold racetreeref25_Read_enc6 at he
        split at he <;> cases he <;> (cases hd; exact ⟨rfl, rfl⟩)
  intro ls j rs h
  simp only [racetreeref25_Read_lp6] at h
  split at h
  · obtain ⟨r, hr, h⟩ := Tr.get_val h
    rw [racetreeref25_Read_l6, sealF_eq] at hr
    refine key fuel _ _ _ _ _ _ _ r j rs hr ?_
    rcases r with r | r <;> exact Option.some.inj h
  · cases h

noncomputable def racetreeref25_Read_sh : StSh := ⟨⟨[0], [], []⟩, [.t .str], []⟩

noncomputable def racetreeref25_Read_os : List StSh := [⟨⟨[0, 1], [], [⟨.slot 0, 100000, 30, (.st 30)⟩]⟩, [.oslc 100000, .t (.st 38)], [.row 30 (.st 30)]⟩]

noncomputable def racetreeref25_Read_L : Nat → Option (Lift.Loop U) := fun n => bif Nat.beq n 6 then some racetreeref25_Read_lp6 else none

noncomputable def racetreeref25_Read_enc : Nat → List (TV U) → Option (Fault × (List (Finding)))
  | 0, [⟨(.st 38), a0⟩, ⟨(.slc (.st 30)), a1⟩] => some (a0, a1)
  | _, _ => none

noncomputable def racetreeref25_Read_dec : Fault × (List (Finding)) → Nat × List (TV U) := fun x => (0, [⟨(.st 38), x.1⟩, ⟨(.slc (.st 30)), x.2⟩])

noncomputable def racetreeref25_Read_tr : Fault × (List (Finding)) → Tr (Nat × List (TV U)) := fun r => (fun x => .ret (0, [⟨(.st 38), x.1⟩, ⟨(.slc (.st 30)), x.2⟩])) r

noncomputable def racetreeref25_Read_md : Mode U := ⟨racetreeref25_Read_sh, [], racetreeref25_Read_os, fun ls => match ls with | [⟨.str, a0⟩] => .get (racetreeref25_Read a0) racetreeref25_Read_tr | _ => .fail⟩

theorem racetreeref25_Read_E (a0 : List UInt8) : (Kit.withModes kk (modesOf ms34)).fnEval racetreeref25_Read_L Tryd.f15 racetreeref25_Read_sh racetreeref25_Read_os [⟨.str, a0⟩] racetreeref25_Read_enc = racetreeref25_Read_f a0 := by kernel_rfl

theorem racetreeref25_Read_post : ∀ ls j rs, (racetreeref25_Read_md.sum ls).val = some (j, rs) → FnPost kk env0 15 racetreeref25_Read_sh racetreeref25_Read_os ls j rs := by
  have inner : LoopsOk (Kit.withModes kk (modesOf ms34)) env0 Tryd.f15.ntmps racetreeref25_Read_L (bodyOf Tryd.f15) := by
    exact loopsOk_of (bs := [racetreeref25_Read_b6]) (by kernel_rfl) ⟨.inr ⟨_, by kernel_rfl, LoopOk.of_round racetreeref25_Read_ok6⟩, trivial⟩
  intro ls j rs h
  simp only [racetreeref25_Read_md] at h
  split at h
  · obtain ⟨r, hr, h⟩ := Tr.get_val h
    rw [racetreeref25_Read, sealF_eq] at hr
    have hd : racetreeref25_Read_dec r = (j, rs) := by
      exact Option.some.inj h
    refine FnPost.modes.1 (fn_sound (kitOk_of eqOk mixed known34) (by kernel_rfl) inner ((racetreeref25_Read_E _).trans hr) ?_)
    intro i qs he
    unfold racetreeref25_Read_enc at he
    split at he <;> cases he <;> (cases hd; exact ⟨rfl, rfl⟩)
  · cases h

noncomputable def ms35 : List (FuncId × Mode U) := (15, racetreeref25_Read_md) :: ms34

theorem known35 : Known kk env0 (modesOf ms35) := known_cons (by kernel_rfl) racetreeref25_Read_post known34

noncomputable def racetreeref21_Alike_sh4 : StSh := ⟨⟨[0, 1, 5], [], []⟩, [.t (.slc (.st 30)), .t (.slc (.st 30)), .t (.int .i64)], []⟩

noncomputable def racetreeref21_Alike_o4 : List Out := [⟨.ret, ⟨⟨[4], [], []⟩, [.t .bool], []⟩⟩, ⟨.exit 0, ⟨⟨[], [], []⟩, [], []⟩⟩]

noncomputable def racetreeref21_Alike_b4 : Code := (nthLoop (bodyOf Tryd.f32) 0)

noncomputable def racetreeref21_Alike_L4 : Nat → Option (Lift.Loop U) := fun n => none

noncomputable def racetreeref21_Alike_rec4 (rec : List (Finding) → List (Finding) → Int → Option ((Bool) ⊕ (Unit))) : List (TV U) → Option ((Bool) ⊕ (Unit))
  | [⟨(.slc (.st 30)), a0⟩, ⟨(.slc (.st 30)), a1⟩, ⟨(.int .i64), a2⟩] => rec a0 a1 a2
  | _ => none

noncomputable def racetreeref21_Alike_enc4 : Nat → List (TV U) → Option ((Bool) ⊕ (Unit))
  | 0, [⟨.bool, a0⟩] => some (.inl a0)
  | 1, [] => some (.inr ())
  | _, _ => none

noncomputable def racetreeref21_Alike_dec4 : (Bool) ⊕ (Unit) → Nat × List (TV U) := fun r => match r with | (.inl x) => (0, [⟨.bool, x⟩]) | (.inr x) => (1, [])

noncomputable def racetreeref21_Alike_tr4 : (Bool) ⊕ (Unit) → Tr (Nat × List (TV U)) := fun r => .alt r (fun x => .ret (0, [⟨.bool, x⟩])) (fun y => (fun x => .ret (1, [])) y)

noncomputable def racetreeref21_Alike_lp4 : Lift.Loop U := ⟨racetreeref21_Alike_sh4, racetreeref21_Alike_o4, fun ls => match ls with | [⟨(.slc (.st 30)), a0⟩, ⟨(.slc (.st 30)), a1⟩, ⟨(.int .i64), a2⟩] => .get (racetreeref21_Alike_l4 a0 a1 a2) racetreeref21_Alike_tr4 | _ => .fail⟩

theorem racetreeref21_Alike_E4 (rec : List (Finding) → List (Finding) → Int → Option ((Bool) ⊕ (Unit))) (a0 : List (Finding)) (a1 : List (Finding)) (a2 : Int) : (Kit.withModes kk (modesOf ms35)).turn Tryd.f32.ntmps racetreeref21_Alike_L4 racetreeref21_Alike_sh4 racetreeref21_Alike_o4 racetreeref21_Alike_b4 [⟨(.slc (.st 30)), a0⟩, ⟨(.slc (.st 30)), a1⟩, ⟨(.int .i64), a2⟩] (racetreeref21_Alike_rec4 rec) racetreeref21_Alike_enc4 = racetreeref21_Alike_t4 rec a0 a1 a2 := by kernel_rfl

theorem racetreeref21_Alike_ok4 : ∀ ls j rs, (racetreeref21_Alike_lp4.sum ls).val = some (j, rs) → RoundPost kk env0 Tryd.f32.ntmps racetreeref21_Alike_b4 racetreeref21_Alike_lp4.sh racetreeref21_Alike_lp4.outs ls j rs := by
  have inner : LoopsOk (Kit.withModes kk (modesOf ms35)) env0 Tryd.f32.ntmps racetreeref21_Alike_L4 racetreeref21_Alike_b4 := by
    exact loopsOk_of (bs := []) (by kernel_rfl) trivial
  have key : ∀ n a0 a1 a2 r j rs, racetreeref21_Alike_i4 n a0 a1 a2 = some r → racetreeref21_Alike_dec4 r = (j, rs) → RoundPost kk env0 Tryd.f32.ntmps racetreeref21_Alike_b4 racetreeref21_Alike_sh4 racetreeref21_Alike_o4 [⟨(.slc (.st 30)), a0⟩, ⟨(.slc (.st 30)), a1⟩, ⟨(.int .i64), a2⟩] j rs := by
    intro n
    induction n with
    | zero => intro a0 a1 a2 r j rs h; cases h
    | succ n ih =>
      intro a0 a1 a2 r j rs h hd
      refine RoundPost.modes.1 (turn_sound (kitOk_of eqOk mixed known35) inner ((racetreeref21_Alike_E4 (racetreeref21_Alike_i4 n) a0 a1 a2).trans h) (fun q hq => RoundPost.modes.2 ?_) ?_)
      · unfold racetreeref21_Alike_rec4 at hq
        split at hq
        · exact ih _ _ _ r j rs hq hd
        · cases hq
      · intro i qs he
        unfold racetreeref21_Alike_enc4 at he
        split at he <;> cases he <;> (cases hd; exact ⟨rfl, rfl⟩)
  intro ls j rs h
  simp only [racetreeref21_Alike_lp4] at h
  split at h
  · obtain ⟨r, hr, h⟩ := Tr.get_val h
    rw [racetreeref21_Alike_l4, sealF_eq] at hr
    refine key fuel _ _ _ r j rs hr ?_
    rcases r with r | r <;> exact Option.some.inj h
  · cases h

noncomputable def racetreeref21_Alike_sh : StSh := ⟨⟨[0, 1], [], []⟩, [.t (.slc (.st 30)), .t (.slc (.st 30))], []⟩

noncomputable def racetreeref21_Alike_os : List StSh := [⟨⟨[0], [], []⟩, [.t .bool], []⟩]

noncomputable def racetreeref21_Alike_L : Nat → Option (Lift.Loop U) := fun n => bif Nat.beq n 4 then some racetreeref21_Alike_lp4 else none

noncomputable def racetreeref21_Alike_enc : Nat → List (TV U) → Option (Bool)
  | 0, [⟨.bool, a0⟩] => some a0
  | _, _ => none

noncomputable def racetreeref21_Alike_dec : Bool → Nat × List (TV U) := fun x => (0, [⟨.bool, x⟩])

noncomputable def racetreeref21_Alike_tr : Bool → Tr (Nat × List (TV U)) := fun r => (fun x => .ret (0, [⟨.bool, x⟩])) r

noncomputable def racetreeref21_Alike_md : Mode U := ⟨racetreeref21_Alike_sh, [], racetreeref21_Alike_os, fun ls => match ls with | [⟨(.slc (.st 30)), a0⟩, ⟨(.slc (.st 30)), a1⟩] => .get (racetreeref21_Alike a0 a1) racetreeref21_Alike_tr | _ => .fail⟩

theorem racetreeref21_Alike_E (a0 : List (Finding)) (a1 : List (Finding)) : (Kit.withModes kk (modesOf ms35)).fnEval racetreeref21_Alike_L Tryd.f32 racetreeref21_Alike_sh racetreeref21_Alike_os [⟨(.slc (.st 30)), a0⟩, ⟨(.slc (.st 30)), a1⟩] racetreeref21_Alike_enc = racetreeref21_Alike_f a0 a1 := by kernel_rfl

theorem racetreeref21_Alike_post : ∀ ls j rs, (racetreeref21_Alike_md.sum ls).val = some (j, rs) → FnPost kk env0 32 racetreeref21_Alike_sh racetreeref21_Alike_os ls j rs := by
  have inner : LoopsOk (Kit.withModes kk (modesOf ms35)) env0 Tryd.f32.ntmps racetreeref21_Alike_L (bodyOf Tryd.f32) := by
    exact loopsOk_of (bs := [racetreeref21_Alike_b4]) (by kernel_rfl) ⟨.inr ⟨_, by kernel_rfl, LoopOk.of_round racetreeref21_Alike_ok4⟩, trivial⟩
  intro ls j rs h
  simp only [racetreeref21_Alike_md] at h
  split at h
  · obtain ⟨r, hr, h⟩ := Tr.get_val h
    rw [racetreeref21_Alike, sealF_eq] at hr
    have hd : racetreeref21_Alike_dec r = (j, rs) := by
      exact Option.some.inj h
    refine FnPost.modes.1 (fn_sound (kitOk_of eqOk mixed known35) (by kernel_rfl) inner ((racetreeref21_Alike_E _ _).trans hr) ?_)
    intro i qs he
    unfold racetreeref21_Alike_enc at he
    split at he <;> cases he <;> (cases hd; exact ⟨rfl, rfl⟩)
  · cases h

noncomputable def ms36 : List (FuncId × Mode U) := (32, racetreeref21_Alike_md) :: ms35

theorem known36 : Known kk env0 (modesOf ms36) := known_cons (by kernel_rfl) racetreeref21_Alike_post known35

noncomputable def racetreeref21_equal_sh4 : StSh := ⟨⟨[0, 1, 5], [], []⟩, [.t (.slc (.int .i64)), .t (.slc (.int .i64)), .t (.int .i64)], []⟩

noncomputable def racetreeref21_equal_o4 : List Out := [⟨.ret, ⟨⟨[4], [], []⟩, [.t .bool], []⟩⟩, ⟨.exit 0, ⟨⟨[], [], []⟩, [], []⟩⟩]

noncomputable def racetreeref21_equal_b4 : Code := (nthLoop (bodyOf Tryd.f33) 0)

noncomputable def racetreeref21_equal_L4 : Nat → Option (Lift.Loop U) := fun n => none

noncomputable def racetreeref21_equal_rec4 (rec : List (Int) → List (Int) → Int → Option ((Bool) ⊕ (Unit))) : List (TV U) → Option ((Bool) ⊕ (Unit))
  | [⟨(.slc (.int .i64)), a0⟩, ⟨(.slc (.int .i64)), a1⟩, ⟨(.int .i64), a2⟩] => rec a0 a1 a2
  | _ => none

noncomputable def racetreeref21_equal_enc4 : Nat → List (TV U) → Option ((Bool) ⊕ (Unit))
  | 0, [⟨.bool, a0⟩] => some (.inl a0)
  | 1, [] => some (.inr ())
  | _, _ => none

noncomputable def racetreeref21_equal_dec4 : (Bool) ⊕ (Unit) → Nat × List (TV U) := fun r => match r with | (.inl x) => (0, [⟨.bool, x⟩]) | (.inr x) => (1, [])

noncomputable def racetreeref21_equal_tr4 : (Bool) ⊕ (Unit) → Tr (Nat × List (TV U)) := fun r => .alt r (fun x => .ret (0, [⟨.bool, x⟩])) (fun y => (fun x => .ret (1, [])) y)

noncomputable def racetreeref21_equal_lp4 : Lift.Loop U := ⟨racetreeref21_equal_sh4, racetreeref21_equal_o4, fun ls => match ls with | [⟨(.slc (.int .i64)), a0⟩, ⟨(.slc (.int .i64)), a1⟩, ⟨(.int .i64), a2⟩] => .get (racetreeref21_equal_l4 a0 a1 a2) racetreeref21_equal_tr4 | _ => .fail⟩

theorem racetreeref21_equal_E4 (rec : List (Int) → List (Int) → Int → Option ((Bool) ⊕ (Unit))) (a0 : List (Int)) (a1 : List (Int)) (a2 : Int) : (Kit.withModes kk (modesOf ms36)).turn Tryd.f33.ntmps racetreeref21_equal_L4 racetreeref21_equal_sh4 racetreeref21_equal_o4 racetreeref21_equal_b4 [⟨(.slc (.int .i64)), a0⟩, ⟨(.slc (.int .i64)), a1⟩, ⟨(.int .i64), a2⟩] (racetreeref21_equal_rec4 rec) racetreeref21_equal_enc4 = racetreeref21_equal_t4 rec a0 a1 a2 := by kernel_rfl

theorem racetreeref21_equal_ok4 : ∀ ls j rs, (racetreeref21_equal_lp4.sum ls).val = some (j, rs) → RoundPost kk env0 Tryd.f33.ntmps racetreeref21_equal_b4 racetreeref21_equal_lp4.sh racetreeref21_equal_lp4.outs ls j rs := by
  have inner : LoopsOk (Kit.withModes kk (modesOf ms36)) env0 Tryd.f33.ntmps racetreeref21_equal_L4 racetreeref21_equal_b4 := by
    exact loopsOk_of (bs := []) (by kernel_rfl) trivial
  have key : ∀ n a0 a1 a2 r j rs, racetreeref21_equal_i4 n a0 a1 a2 = some r → racetreeref21_equal_dec4 r = (j, rs) → RoundPost kk env0 Tryd.f33.ntmps racetreeref21_equal_b4 racetreeref21_equal_sh4 racetreeref21_equal_o4 [⟨(.slc (.int .i64)), a0⟩, ⟨(.slc (.int .i64)), a1⟩, ⟨(.int .i64), a2⟩] j rs := by
    intro n
    induction n with
    | zero => intro a0 a1 a2 r j rs h; cases h
    | succ n ih =>
      intro a0 a1 a2 r j rs h hd
      refine RoundPost.modes.1 (turn_sound (kitOk_of eqOk mixed known36) inner ((racetreeref21_equal_E4 (racetreeref21_equal_i4 n) a0 a1 a2).trans h) (fun q hq => RoundPost.modes.2 ?_) ?_)
      · unfold racetreeref21_equal_rec4 at hq
        split at hq
        · exact ih _ _ _ r j rs hq hd
        · cases hq
      · intro i qs he
        unfold racetreeref21_equal_enc4 at he
        split at he <;> cases he <;> (cases hd; exact ⟨rfl, rfl⟩)
  intro ls j rs h
  simp only [racetreeref21_equal_lp4] at h
  split at h
  · obtain ⟨r, hr, h⟩ := Tr.get_val h
    rw [racetreeref21_equal_l4, sealF_eq] at hr
    refine key fuel _ _ _ r j rs hr ?_
    rcases r with r | r <;> exact Option.some.inj h
  · cases h

noncomputable def racetreeref21_equal_sh : StSh := ⟨⟨[0, 1], [], []⟩, [.t (.slc (.int .i64)), .t (.slc (.int .i64))], []⟩

noncomputable def racetreeref21_equal_os : List StSh := [⟨⟨[0], [], []⟩, [.t .bool], []⟩]

noncomputable def racetreeref21_equal_L : Nat → Option (Lift.Loop U) := fun n => bif Nat.beq n 4 then some racetreeref21_equal_lp4 else none

noncomputable def racetreeref21_equal_enc : Nat → List (TV U) → Option (Bool)
  | 0, [⟨.bool, a0⟩] => some a0
  | _, _ => none

noncomputable def racetreeref21_equal_dec : Bool → Nat × List (TV U) := fun x => (0, [⟨.bool, x⟩])

noncomputable def racetreeref21_equal_tr : Bool → Tr (Nat × List (TV U)) := fun r => (fun x => .ret (0, [⟨.bool, x⟩])) r

noncomputable def racetreeref21_equal_md : Mode U := ⟨racetreeref21_equal_sh, [], racetreeref21_equal_os, fun ls => match ls with | [⟨(.slc (.int .i64)), a0⟩, ⟨(.slc (.int .i64)), a1⟩] => .get (racetreeref21_equal a0 a1) racetreeref21_equal_tr | _ => .fail⟩

theorem racetreeref21_equal_E (a0 : List (Int)) (a1 : List (Int)) : (Kit.withModes kk (modesOf ms36)).fnEval racetreeref21_equal_L Tryd.f33 racetreeref21_equal_sh racetreeref21_equal_os [⟨(.slc (.int .i64)), a0⟩, ⟨(.slc (.int .i64)), a1⟩] racetreeref21_equal_enc = racetreeref21_equal_f a0 a1 := by kernel_rfl

theorem racetreeref21_equal_post : ∀ ls j rs, (racetreeref21_equal_md.sum ls).val = some (j, rs) → FnPost kk env0 33 racetreeref21_equal_sh racetreeref21_equal_os ls j rs := by
  have inner : LoopsOk (Kit.withModes kk (modesOf ms36)) env0 Tryd.f33.ntmps racetreeref21_equal_L (bodyOf Tryd.f33) := by
    exact loopsOk_of (bs := [racetreeref21_equal_b4]) (by kernel_rfl) ⟨.inr ⟨_, by kernel_rfl, LoopOk.of_round racetreeref21_equal_ok4⟩, trivial⟩
  intro ls j rs h
  simp only [racetreeref21_equal_md] at h
  split at h
  · obtain ⟨r, hr, h⟩ := Tr.get_val h
    rw [racetreeref21_equal, sealF_eq] at hr
    have hd : racetreeref21_equal_dec r = (j, rs) := by
      exact Option.some.inj h
    refine FnPost.modes.1 (fn_sound (kitOk_of eqOk mixed known36) (by kernel_rfl) inner ((racetreeref21_equal_E _ _).trans hr) ?_)
    intro i qs he
    unfold racetreeref21_equal_enc at he
    split at he <;> cases he <;> (cases hd; exact ⟨rfl, rfl⟩)
  · cases h

noncomputable def ms37 : List (FuncId × Mode U) := (33, racetreeref21_equal_md) :: ms36

theorem known37 : Known kk env0 (modesOf ms37) := known_cons (by kernel_rfl) racetreeref21_equal_post known36

noncomputable def racetreeref21_Same_sh5 : StSh := ⟨⟨[0, 1, 6], [], []⟩, [.t (.slc (.st 30)), .t (.slc (.st 30)), .t (.int .i64)], []⟩

noncomputable def racetreeref21_Same_o5 : List Out := [⟨.ret, ⟨⟨[4], [], []⟩, [.t .bool], []⟩⟩, ⟨.exit 0, ⟨⟨[], [], []⟩, [], []⟩⟩]

noncomputable def racetreeref21_Same_b5 : Code := (nthLoop (bodyOf Tryd.f16) 0)

noncomputable def racetreeref21_Same_L5 : Nat → Option (Lift.Loop U) := fun n => none

noncomputable def racetreeref21_Same_rec5 (rec : List (Finding) → List (Finding) → Int → Option ((Bool) ⊕ (Unit))) : List (TV U) → Option ((Bool) ⊕ (Unit))
  | [⟨(.slc (.st 30)), a0⟩, ⟨(.slc (.st 30)), a1⟩, ⟨(.int .i64), a2⟩] => rec a0 a1 a2
  | _ => none

noncomputable def racetreeref21_Same_enc5 : Nat → List (TV U) → Option ((Bool) ⊕ (Unit))
  | 0, [⟨.bool, a0⟩] => some (.inl a0)
  | 1, [] => some (.inr ())
  | _, _ => none

noncomputable def racetreeref21_Same_dec5 : (Bool) ⊕ (Unit) → Nat × List (TV U) := fun r => match r with | (.inl x) => (0, [⟨.bool, x⟩]) | (.inr x) => (1, [])

noncomputable def racetreeref21_Same_tr5 : (Bool) ⊕ (Unit) → Tr (Nat × List (TV U)) := fun r => .alt r (fun x => .ret (0, [⟨.bool, x⟩])) (fun y => (fun x => .ret (1, [])) y)

noncomputable def racetreeref21_Same_lp5 : Lift.Loop U := ⟨racetreeref21_Same_sh5, racetreeref21_Same_o5, fun ls => match ls with | [⟨(.slc (.st 30)), a0⟩, ⟨(.slc (.st 30)), a1⟩, ⟨(.int .i64), a2⟩] => .get (racetreeref21_Same_l5 a0 a1 a2) racetreeref21_Same_tr5 | _ => .fail⟩

theorem racetreeref21_Same_E5 (rec : List (Finding) → List (Finding) → Int → Option ((Bool) ⊕ (Unit))) (a0 : List (Finding)) (a1 : List (Finding)) (a2 : Int) : (Kit.withModes kk (modesOf ms37)).turn Tryd.f16.ntmps racetreeref21_Same_L5 racetreeref21_Same_sh5 racetreeref21_Same_o5 racetreeref21_Same_b5 [⟨(.slc (.st 30)), a0⟩, ⟨(.slc (.st 30)), a1⟩, ⟨(.int .i64), a2⟩] (racetreeref21_Same_rec5 rec) racetreeref21_Same_enc5 = racetreeref21_Same_t5 rec a0 a1 a2 := by kernel_rfl

theorem racetreeref21_Same_ok5 : ∀ ls j rs, (racetreeref21_Same_lp5.sum ls).val = some (j, rs) → RoundPost kk env0 Tryd.f16.ntmps racetreeref21_Same_b5 racetreeref21_Same_lp5.sh racetreeref21_Same_lp5.outs ls j rs := by
  have inner : LoopsOk (Kit.withModes kk (modesOf ms37)) env0 Tryd.f16.ntmps racetreeref21_Same_L5 racetreeref21_Same_b5 := by
    exact loopsOk_of (bs := []) (by kernel_rfl) trivial
  have key : ∀ n a0 a1 a2 r j rs, racetreeref21_Same_i5 n a0 a1 a2 = some r → racetreeref21_Same_dec5 r = (j, rs) → RoundPost kk env0 Tryd.f16.ntmps racetreeref21_Same_b5 racetreeref21_Same_sh5 racetreeref21_Same_o5 [⟨(.slc (.st 30)), a0⟩, ⟨(.slc (.st 30)), a1⟩, ⟨(.int .i64), a2⟩] j rs := by
    intro n
    induction n with
    | zero => intro a0 a1 a2 r j rs h; cases h
    | succ n ih =>
      intro a0 a1 a2 r j rs h hd
      refine RoundPost.modes.1 (turn_sound (kitOk_of eqOk mixed known37) inner ((racetreeref21_Same_E5 (racetreeref21_Same_i5 n) a0 a1 a2).trans h) (fun q hq => RoundPost.modes.2 ?_) ?_)
      · unfold racetreeref21_Same_rec5 at hq
        split at hq
        · exact ih _ _ _ r j rs hq hd
        · cases hq
      · intro i qs he
        unfold racetreeref21_Same_enc5 at he
        split at he <;> cases he <;> (cases hd; exact ⟨rfl, rfl⟩)
  intro ls j rs h
  simp only [racetreeref21_Same_lp5] at h
  split at h
  · obtain ⟨r, hr, h⟩ := Tr.get_val h
    rw [racetreeref21_Same_l5, sealF_eq] at hr
    refine key fuel _ _ _ r j rs hr ?_
    rcases r with r | r <;> exact Option.some.inj h
  · cases h

noncomputable def racetreeref21_Same_sh : StSh := ⟨⟨[0, 1], [], []⟩, [.t (.slc (.st 30)), .t (.slc (.st 30))], []⟩

noncomputable def racetreeref21_Same_os : List StSh := [⟨⟨[0], [], []⟩, [.t .bool], []⟩]

noncomputable def racetreeref21_Same_L : Nat → Option (Lift.Loop U) := fun n => bif Nat.beq n 5 then some racetreeref21_Same_lp5 else none

noncomputable def racetreeref21_Same_enc : Nat → List (TV U) → Option (Bool)
  | 0, [⟨.bool, a0⟩] => some a0
  | _, _ => none

noncomputable def racetreeref21_Same_dec : Bool → Nat × List (TV U) := fun x => (0, [⟨.bool, x⟩])

noncomputable def racetreeref21_Same_tr : Bool → Tr (Nat × List (TV U)) := fun r => (fun x => .ret (0, [⟨.bool, x⟩])) r

noncomputable def racetreeref21_Same_md : Mode U := ⟨racetreeref21_Same_sh, [], racetreeref21_Same_os, fun ls => match ls with | [⟨(.slc (.st 30)), a0⟩, ⟨(.slc (.st 30)), a1⟩] => .get (racetreeref21_Same a0 a1) racetreeref21_Same_tr | _ => .fail⟩

theorem racetreeref21_Same_E (a0 : List (Finding)) (a1 : List (Finding)) : (Kit.withModes kk (modesOf ms37)).fnEval racetreeref21_Same_L Tryd.f16 racetreeref21_Same_sh racetreeref21_Same_os [⟨(.slc (.st 30)), a0⟩, ⟨(.slc (.st 30)), a1⟩] racetreeref21_Same_enc = racetreeref21_Same_f a0 a1 := by kernel_rfl

theorem racetreeref21_Same_post : ∀ ls j rs, (racetreeref21_Same_md.sum ls).val = some (j, rs) → FnPost kk env0 16 racetreeref21_Same_sh racetreeref21_Same_os ls j rs := by
  have inner : LoopsOk (Kit.withModes kk (modesOf ms37)) env0 Tryd.f16.ntmps racetreeref21_Same_L (bodyOf Tryd.f16) := by
    exact loopsOk_of (bs := [racetreeref21_Same_b5]) (by kernel_rfl) ⟨.inr ⟨_, by kernel_rfl, LoopOk.of_round racetreeref21_Same_ok5⟩, trivial⟩
  intro ls j rs h
  simp only [racetreeref21_Same_md] at h
  split at h
  · obtain ⟨r, hr, h⟩ := Tr.get_val h
    rw [racetreeref21_Same, sealF_eq] at hr
    have hd : racetreeref21_Same_dec r = (j, rs) := by
      exact Option.some.inj h
    refine FnPost.modes.1 (fn_sound (kitOk_of eqOk mixed known37) (by kernel_rfl) inner ((racetreeref21_Same_E _ _).trans hr) ?_)
    intro i qs he
    unfold racetreeref21_Same_enc at he
    split at he <;> cases he <;> (cases hd; exact ⟨rfl, rfl⟩)
  · cases h

noncomputable def ms38 : List (FuncId × Mode U) := (16, racetreeref21_Same_md) :: ms37

theorem known38 : Known kk env0 (modesOf ms38) := known_cons (by kernel_rfl) racetreeref21_Same_post known37

noncomputable def racetreelaw25_ReportReads_sh : StSh := ⟨⟨[0], [], []⟩, [.t .str], []⟩

noncomputable def racetreelaw25_ReportReads_os : List StSh := [⟨⟨[0], [], []⟩, [.t .bool], []⟩]

noncomputable def racetreelaw25_ReportReads_L : Nat → Option (Lift.Loop U) := fun n => none

noncomputable def racetreelaw25_ReportReads_enc : Nat → List (TV U) → Option (Bool)
  | 0, [⟨.bool, a0⟩] => some a0
  | _, _ => none

noncomputable def racetreelaw25_ReportReads_dec : Bool → Nat × List (TV U) := fun x => (0, [⟨.bool, x⟩])

noncomputable def racetreelaw25_ReportReads_tr : Bool → Tr (Nat × List (TV U)) := fun r => (fun x => .ret (0, [⟨.bool, x⟩])) r

noncomputable def racetreelaw25_ReportReads_md : Mode U := ⟨racetreelaw25_ReportReads_sh, [], racetreelaw25_ReportReads_os, fun ls => match ls with | [⟨.str, a0⟩] => .get (racetreelaw25_ReportReads a0) racetreelaw25_ReportReads_tr | _ => .fail⟩

theorem racetreelaw25_ReportReads_E (a0 : List UInt8) : (Kit.withModes kk (modesOf ms38)).fnEval racetreelaw25_ReportReads_L Tryd.f5 racetreelaw25_ReportReads_sh racetreelaw25_ReportReads_os [⟨.str, a0⟩] racetreelaw25_ReportReads_enc = racetreelaw25_ReportReads_f a0 := by kernel_rfl

theorem racetreelaw25_ReportReads_post : ∀ ls j rs, (racetreelaw25_ReportReads_md.sum ls).val = some (j, rs) → FnPost kk env0 5 racetreelaw25_ReportReads_sh racetreelaw25_ReportReads_os ls j rs := by
  have inner : LoopsOk (Kit.withModes kk (modesOf ms38)) env0 Tryd.f5.ntmps racetreelaw25_ReportReads_L (bodyOf Tryd.f5) := by
    exact loopsOk_of (bs := []) (by kernel_rfl) trivial
  intro ls j rs h
  simp only [racetreelaw25_ReportReads_md] at h
  split at h
  · obtain ⟨r, hr, h⟩ := Tr.get_val h
    rw [racetreelaw25_ReportReads, sealF_eq] at hr
    have hd : racetreelaw25_ReportReads_dec r = (j, rs) := by
      exact Option.some.inj h
    refine FnPost.modes.1 (fn_sound (kitOk_of eqOk mixed known38) (by kernel_rfl) inner ((racetreelaw25_ReportReads_E _).trans hr) ?_)
    intro i qs he
    unfold racetreelaw25_ReportReads_enc at he
    split at he <;> cases he <;> (cases hd; exact ⟨rfl, rfl⟩)
  · cases h

noncomputable def ms39 : List (FuncId × Mode U) := (5, racetreelaw25_ReportReads_md) :: ms38

theorem known39 : Known kk env0 (modesOf ms39) := known_cons (by kernel_rfl) racetreelaw25_ReportReads_post known38

noncomputable def racetreeref25_Print_sh2 : StSh := ⟨⟨[0, 4], [], []⟩, [.t (.slc (.st 30)), .t (.int .i64)], []⟩

noncomputable def racetreeref25_Print_o2 : List Out := [⟨.ret, ⟨⟨[2, 3], [], []⟩, [.t .str, .t (.int .i64)], []⟩⟩, ⟨.exit 0, ⟨⟨[0], [], []⟩, [.t (.slc (.st 30))], []⟩⟩]

noncomputable def racetreeref25_Print_b2 : Code := (nthLoop (bodyOf Tryd.f11) 0)

noncomputable def racetreeref25_Print_L2 : Nat → Option (Lift.Loop U) := fun n => none

noncomputable def racetreeref25_Print_rec2 (rec : List (Finding) → Int → Option (((List UInt8) × Int) ⊕ ((List (Finding))))) : List (TV U) → Option (((List UInt8) × Int) ⊕ ((List (Finding))))
  | [⟨(.slc (.st 30)), a0⟩, ⟨(.int .i64), a1⟩] => rec a0 a1
  | _ => none

noncomputable def racetreeref25_Print_enc2 : Nat → List (TV U) → Option (((List UInt8) × Int) ⊕ ((List (Finding))))
  | 0, [⟨.str, a0⟩, ⟨(.int .i64), a1⟩] => some (.inl (a0, a1))
  | 1, [⟨(.slc (.st 30)), a0⟩] => some (.inr a0)
  | _, _ => none

noncomputable def racetreeref25_Print_dec2 : ((List UInt8) × Int) ⊕ ((List (Finding))) → Nat × List (TV U) := fun r => match r with | (.inl x) => (0, [⟨.str, x.1⟩, ⟨(.int .i64), x.2⟩]) | (.inr x) => (1, [⟨(.slc (.st 30)), x⟩])

noncomputable def racetreeref25_Print_tr2 : ((List UInt8) × Int) ⊕ ((List (Finding))) → Tr (Nat × List (TV U)) := fun r => .alt r (fun x => .ret (0, [⟨.str, x.1⟩, ⟨(.int .i64), x.2⟩])) (fun y => (fun x => .ret (1, [⟨(.slc (.st 30)), x⟩])) y)

noncomputable def racetreeref25_Print_lp2 : Lift.Loop U := ⟨racetreeref25_Print_sh2, racetreeref25_Print_o2, fun ls => match ls with | [⟨(.slc (.st 30)), a0⟩, ⟨(.int .i64), a1⟩] => .get (racetreeref25_Print_l2 a0 a1) racetreeref25_Print_tr2 | _ => .fail⟩

theorem racetreeref25_Print_E2 (rec : List (Finding) → Int → Option (((List UInt8) × Int) ⊕ ((List (Finding))))) (a0 : List (Finding)) (a1 : Int) : (Kit.withModes kk (modesOf ms39)).turn Tryd.f11.ntmps racetreeref25_Print_L2 racetreeref25_Print_sh2 racetreeref25_Print_o2 racetreeref25_Print_b2 [⟨(.slc (.st 30)), a0⟩, ⟨(.int .i64), a1⟩] (racetreeref25_Print_rec2 rec) racetreeref25_Print_enc2 = racetreeref25_Print_t2 rec a0 a1 := by kernel_rfl

theorem racetreeref25_Print_ok2 : ∀ ls j rs, (racetreeref25_Print_lp2.sum ls).val = some (j, rs) → RoundPost kk env0 Tryd.f11.ntmps racetreeref25_Print_b2 racetreeref25_Print_lp2.sh racetreeref25_Print_lp2.outs ls j rs := by
  have inner : LoopsOk (Kit.withModes kk (modesOf ms39)) env0 Tryd.f11.ntmps racetreeref25_Print_L2 racetreeref25_Print_b2 := by
    exact loopsOk_of (bs := []) (by kernel_rfl) trivial
  have key : ∀ n a0 a1 r j rs, racetreeref25_Print_i2 n a0 a1 = some r → racetreeref25_Print_dec2 r = (j, rs) → RoundPost kk env0 Tryd.f11.ntmps racetreeref25_Print_b2 racetreeref25_Print_sh2 racetreeref25_Print_o2 [⟨(.slc (.st 30)), a0⟩, ⟨(.int .i64), a1⟩] j rs := by
    intro n
    induction n with
    | zero => intro a0 a1 r j rs h; cases h
    | succ n ih =>
      intro a0 a1 r j rs h hd
      refine RoundPost.modes.1 (turn_sound (kitOk_of eqOk mixed known39) inner ((racetreeref25_Print_E2 (racetreeref25_Print_i2 n) a0 a1).trans h) (fun q hq => RoundPost.modes.2 ?_) ?_)
      · unfold racetreeref25_Print_rec2 at hq
        split at hq
        · exact ih _ _ r j rs hq hd
        · cases hq
      · intro i qs he
        unfold racetreeref25_Print_enc2 at he
        split at he <;> cases he <;> (cases hd; exact ⟨rfl, rfl⟩)
  intro ls j rs h
  simp only [racetreeref25_Print_lp2] at h
  split at h
  · obtain ⟨r, hr, h⟩ := Tr.get_val h
    rw [racetreeref25_Print_l2, sealF_eq] at hr
    refine key fuel _ _ r j rs hr ?_
    rcases r with r | r <;> exact Option.some.inj h
  · cases h

noncomputable def racetreeref25_Print_sh9 : StSh := ⟨⟨[0, 6, 7], [], [⟨.slot 6, 6, 5, (.int .u8)⟩]⟩, [.t (.slc (.st 30)), .oslc 6, .t (.int .i64)], [.row 5 (.int .u8)]⟩

noncomputable def racetreeref25_Print_o9 : List Out := [⟨.ret, ⟨⟨[2, 3], [], []⟩, [.t .str, .t (.int .i64)], []⟩⟩, ⟨.exit 2, ⟨⟨[6], [], [⟨.slot 6, 6, 5, (.int .u8)⟩]⟩, [.oslc 6], [.row 5 (.int .u8)]⟩⟩]

noncomputable def racetreeref25_Print_b9 : Code := (nthLoop (bodyOf Tryd.f11) 1)

noncomputable def racetreeref25_Print_L9 : Nat → Option (Lift.Loop U) := fun n => none

noncomputable def racetreeref25_Print_rec9 (rec : List (Finding) → Int → List (Int) → Option (((List UInt8) × Int) ⊕ ((List (Int))))) : List (TV U) → Option (((List UInt8) × Int) ⊕ ((List (Int))))
  | [⟨(.slc (.st 30)), a0⟩, ⟨(.int .i64), a1⟩, ⟨(.slc (.int .u8)), a2⟩] => rec a0 a1 a2
  | _ => none

noncomputable def racetreeref25_Print_enc9 : Nat → List (TV U) → Option (((List UInt8) × Int) ⊕ ((List (Int))))
  | 0, [⟨.str, a0⟩, ⟨(.int .i64), a1⟩] => some (.inl (a0, a1))
  | 1, [⟨(.slc (.int .u8)), a0⟩] => some (.inr a0)
  | _, _ => none

noncomputable def racetreeref25_Print_dec9 : ((List UInt8) × Int) ⊕ ((List (Int))) → Nat × List (TV U) := fun r => match r with | (.inl x) => (0, [⟨.str, x.1⟩, ⟨(.int .i64), x.2⟩]) | (.inr x) => (1, [⟨(.slc (.int .u8)), x⟩])

noncomputable def racetreeref25_Print_tr9 : ((List UInt8) × Int) ⊕ ((List (Int))) → Tr (Nat × List (TV U)) := fun r => .alt r (fun x => .ret (0, [⟨.str, x.1⟩, ⟨(.int .i64), x.2⟩])) (fun y => (fun x => .ret (1, [⟨(.slc (.int .u8)), x⟩])) y)

noncomputable def racetreeref25_Print_lp9 : Lift.Loop U := ⟨racetreeref25_Print_sh9, racetreeref25_Print_o9, fun ls => match ls with | [⟨(.slc (.st 30)), a0⟩, ⟨(.int .i64), a1⟩, ⟨(.slc (.int .u8)), a2⟩] => .get (racetreeref25_Print_l9 a0 a1 a2) racetreeref25_Print_tr9 | _ => .fail⟩

theorem racetreeref25_Print_E9 (rec : List (Finding) → Int → List (Int) → Option (((List UInt8) × Int) ⊕ ((List (Int))))) (a0 : List (Finding)) (a1 : Int) (a2 : List (Int)) : (Kit.withModes kk (modesOf ms39)).turn Tryd.f11.ntmps racetreeref25_Print_L9 racetreeref25_Print_sh9 racetreeref25_Print_o9 racetreeref25_Print_b9 [⟨(.slc (.st 30)), a0⟩, ⟨(.int .i64), a1⟩, ⟨(.slc (.int .u8)), a2⟩] (racetreeref25_Print_rec9 rec) racetreeref25_Print_enc9 = racetreeref25_Print_t9 rec a0 a1 a2 := by kernel_rfl

theorem racetreeref25_Print_ok9 : ∀ ls j rs, (racetreeref25_Print_lp9.sum ls).val = some (j, rs) → RoundPost kk env0 Tryd.f11.ntmps racetreeref25_Print_b9 racetreeref25_Print_lp9.sh racetreeref25_Print_lp9.outs ls j rs := by
  have inner : LoopsOk (Kit.withModes kk (modesOf ms39)) env0 Tryd.f11.ntmps racetreeref25_Print_L9 racetreeref25_Print_b9 := by
    exact loopsOk_of (bs := []) (by kernel_rfl) trivial
  have key : ∀ n a0 a1 a2 r j rs, racetreeref25_Print_i9 n a0 a1 a2 = some r → racetreeref25_Print_dec9 r = (j, rs) → RoundPost kk env0 Tryd.f11.ntmps racetreeref25_Print_b9 racetreeref25_Print_sh9 racetreeref25_Print_o9 [⟨(.slc (.st 30)), a0⟩, ⟨(.int .i64), a1⟩, ⟨(.slc (.int .u8)), a2⟩] j rs := by
    intro n
    induction n with
    | zero => intro a0 a1 a2 r j rs h; cases h
    | succ n ih =>
      intro a0 a1 a2 r j rs h hd
      refine RoundPost.modes.1 (turn_sound (kitOk_of eqOk mixed known39) inner ((racetreeref25_Print_E9 (racetreeref25_Print_i9 n) a0 a1 a2).trans h) (fun q hq => RoundPost.modes.2 ?_) ?_)
      · unfold racetreeref25_Print_rec9 at hq
        split at hq
        · exact ih _ _ _ r j rs hq hd
        · cases hq
      · intro i qs he
        unfold racetreeref25_Print_enc9 at he
        split at he <;> cases he <;> (cases hd; exact ⟨rfl, rfl⟩)
  intro ls j rs h
  simp only [racetreeref25_Print_lp9] at h
  split at h
  · obtain ⟨r, hr, h⟩ := Tr.get_val h
    rw [racetreeref25_Print_l9, sealF_eq] at hr
    refine key fuel _ _ _ r j rs hr ?_
    rcases r with r | r <;> exact Option.some.inj h
  · cases h

noncomputable def racetreeref25_Print_sh : StSh := ⟨⟨[0], [], []⟩, [.t (.slc (.st 30))], []⟩

noncomputable def racetreeref25_Print_os : List StSh := [⟨⟨[0, 1], [], []⟩, [.t .str, .t (.int .i64)], []⟩]

noncomputable def racetreeref25_Print_L : Nat → Option (Lift.Loop U) := fun n => bif Nat.beq n 2 then some racetreeref25_Print_lp2 else bif Nat.beq n 9 then some racetreeref25_Print_lp9 else none

noncomputable def racetreeref25_Print_enc : Nat → List (TV U) → Option ((List UInt8) × Int)
  | 0, [⟨.str, a0⟩, ⟨(.int .i64), a1⟩] => some (a0, a1)
  | _, _ => none

noncomputable def racetreeref25_Print_dec : (List UInt8) × Int → Nat × List (TV U) := fun x => (0, [⟨.str, x.1⟩, ⟨(.int .i64), x.2⟩])

noncomputable def racetreeref25_Print_tr : (List UInt8) × Int → Tr (Nat × List (TV U)) := fun r => (fun x => .ret (0, [⟨.str, x.1⟩, ⟨(.int .i64), x.2⟩])) r

noncomputable def racetreeref25_Print_md : Mode U := ⟨racetreeref25_Print_sh, [], racetreeref25_Print_os, fun ls => match ls with | [⟨(.slc (.st 30)), a0⟩] => .get (racetreeref25_Print a0) racetreeref25_Print_tr | _ => .fail⟩

theorem racetreeref25_Print_E (a0 : List (Finding)) : (Kit.withModes kk (modesOf ms39)).fnEval racetreeref25_Print_L Tryd.f11 racetreeref25_Print_sh racetreeref25_Print_os [⟨(.slc (.st 30)), a0⟩] racetreeref25_Print_enc = racetreeref25_Print_f a0 := by kernel_rfl

theorem racetreeref25_Print_post : ∀ ls j rs, (racetreeref25_Print_md.sum ls).val = some (j, rs) → FnPost kk env0 11 racetreeref25_Print_sh racetreeref25_Print_os ls j rs := by
  have inner : LoopsOk (Kit.withModes kk (modesOf ms39)) env0 Tryd.f11.ntmps racetreeref25_Print_L (bodyOf Tryd.f11) := by
    exact loopsOk_of (bs := [racetreeref25_Print_b2, racetreeref25_Print_b9]) (by kernel_rfl) ⟨.inr ⟨_, by kernel_rfl, LoopOk.of_round racetreeref25_Print_ok2⟩, .inr ⟨_, by kernel_rfl, LoopOk.of_round racetreeref25_Print_ok9⟩, trivial⟩
  intro ls j rs h
  simp only [racetreeref25_Print_md] at h
  split at h
  · obtain ⟨r, hr, h⟩ := Tr.get_val h
    rw [racetreeref25_Print, sealF_eq] at hr
    have hd : racetreeref25_Print_dec r = (j, rs) := by
      exact Option.some.inj h
    refine FnPost.modes.1 (fn_sound (kitOk_of eqOk mixed known39) (by kernel_rfl) inner ((racetreeref25_Print_E _).trans hr) ?_)
    intro i qs he
    unfold racetreeref25_Print_enc at he
    split at he <;> cases he <;> (cases hd; exact ⟨rfl, rfl⟩)
  · cases h

noncomputable def ms40 : List (FuncId × Mode U) := (11, racetreeref25_Print_md) :: ms39

theorem known40 : Known kk env0 (modesOf ms40) := known_cons (by kernel_rfl) racetreeref25_Print_post known39

noncomputable def racetreelaw25_ReportThere_sh : StSh := ⟨⟨[0], [], []⟩, [.t (.slc (.st 30))], []⟩

noncomputable def racetreelaw25_ReportThere_os : List StSh := [⟨⟨[0], [], []⟩, [.t .bool], []⟩]

noncomputable def racetreelaw25_ReportThere_L : Nat → Option (Lift.Loop U) := fun n => none

noncomputable def racetreelaw25_ReportThere_enc : Nat → List (TV U) → Option (Bool)
  | 0, [⟨.bool, a0⟩] => some a0
  | _, _ => none

noncomputable def racetreelaw25_ReportThere_dec : Bool → Nat × List (TV U) := fun x => (0, [⟨.bool, x⟩])

noncomputable def racetreelaw25_ReportThere_tr : Bool → Tr (Nat × List (TV U)) := fun r => (fun x => .ret (0, [⟨.bool, x⟩])) r

noncomputable def racetreelaw25_ReportThere_md : Mode U := ⟨racetreelaw25_ReportThere_sh, [], racetreelaw25_ReportThere_os, fun ls => match ls with | [⟨(.slc (.st 30)), a0⟩] => .get (racetreelaw25_ReportThere a0) racetreelaw25_ReportThere_tr | _ => .fail⟩

theorem racetreelaw25_ReportThere_E (a0 : List (Finding)) : (Kit.withModes kk (modesOf ms40)).fnEval racetreelaw25_ReportThere_L Tryd.f6 racetreelaw25_ReportThere_sh racetreelaw25_ReportThere_os [⟨(.slc (.st 30)), a0⟩] racetreelaw25_ReportThere_enc = racetreelaw25_ReportThere_f a0 := by kernel_rfl

theorem racetreelaw25_ReportThere_post : ∀ ls j rs, (racetreelaw25_ReportThere_md.sum ls).val = some (j, rs) → FnPost kk env0 6 racetreelaw25_ReportThere_sh racetreelaw25_ReportThere_os ls j rs := by
  have inner : LoopsOk (Kit.withModes kk (modesOf ms40)) env0 Tryd.f6.ntmps racetreelaw25_ReportThere_L (bodyOf Tryd.f6) := by
    exact loopsOk_of (bs := []) (by kernel_rfl) trivial
  intro ls j rs h
  simp only [racetreelaw25_ReportThere_md] at h
  split at h
  · obtain ⟨r, hr, h⟩ := Tr.get_val h
    rw [racetreelaw25_ReportThere, sealF_eq] at hr
    have hd : racetreelaw25_ReportThere_dec r = (j, rs) := by
      exact Option.some.inj h
    refine FnPost.modes.1 (fn_sound (kitOk_of eqOk mixed known40) (by kernel_rfl) inner ((racetreelaw25_ReportThere_E _).trans hr) ?_)
    intro i qs he
    unfold racetreelaw25_ReportThere_enc at he
    split at he <;> cases he <;> (cases hd; exact ⟨rfl, rfl⟩)
  · cases h

noncomputable def ms41 : List (FuncId × Mode U) := (6, racetreelaw25_ReportThere_md) :: ms40

theorem known41 : Known kk env0 (modesOf ms41) := known_cons (by kernel_rfl) racetreelaw25_ReportThere_post known40

noncomputable def racetreelaw25_ReportBack_sh : StSh := ⟨⟨[0], [], []⟩, [.t .str], []⟩

noncomputable def racetreelaw25_ReportBack_os : List StSh := [⟨⟨[0], [], []⟩, [.t .bool], []⟩]

noncomputable def racetreelaw25_ReportBack_L : Nat → Option (Lift.Loop U) := fun n => none

noncomputable def racetreelaw25_ReportBack_enc : Nat → List (TV U) → Option (Bool)
  | 0, [⟨.bool, a0⟩] => some a0
  | _, _ => none

noncomputable def racetreelaw25_ReportBack_dec : Bool → Nat × List (TV U) := fun x => (0, [⟨.bool, x⟩])

noncomputable def racetreelaw25_ReportBack_tr : Bool → Tr (Nat × List (TV U)) := fun r => (fun x => .ret (0, [⟨.bool, x⟩])) r

noncomputable def racetreelaw25_ReportBack_md : Mode U := ⟨racetreelaw25_ReportBack_sh, [], racetreelaw25_ReportBack_os, fun ls => match ls with | [⟨.str, a0⟩] => .get (racetreelaw25_ReportBack a0) racetreelaw25_ReportBack_tr | _ => .fail⟩

theorem racetreelaw25_ReportBack_E (a0 : List UInt8) : (Kit.withModes kk (modesOf ms41)).fnEval racetreelaw25_ReportBack_L Tryd.f7 racetreelaw25_ReportBack_sh racetreelaw25_ReportBack_os [⟨.str, a0⟩] racetreelaw25_ReportBack_enc = racetreelaw25_ReportBack_f a0 := by kernel_rfl

theorem racetreelaw25_ReportBack_post : ∀ ls j rs, (racetreelaw25_ReportBack_md.sum ls).val = some (j, rs) → FnPost kk env0 7 racetreelaw25_ReportBack_sh racetreelaw25_ReportBack_os ls j rs := by
  have inner : LoopsOk (Kit.withModes kk (modesOf ms41)) env0 Tryd.f7.ntmps racetreelaw25_ReportBack_L (bodyOf Tryd.f7) := by
    exact loopsOk_of (bs := []) (by kernel_rfl) trivial
  intro ls j rs h
  simp only [racetreelaw25_ReportBack_md] at h
  split at h
  · obtain ⟨r, hr, h⟩ := Tr.get_val h
    rw [racetreelaw25_ReportBack, sealF_eq] at hr
    have hd : racetreelaw25_ReportBack_dec r = (j, rs) := by
      exact Option.some.inj h
    refine FnPost.modes.1 (fn_sound (kitOk_of eqOk mixed known41) (by kernel_rfl) inner ((racetreelaw25_ReportBack_E _).trans hr) ?_)
    intro i qs he
    unfold racetreelaw25_ReportBack_enc at he
    split at he <;> cases he <;> (cases hd; exact ⟨rfl, rfl⟩)
  · cases h

noncomputable def ms42 : List (FuncId × Mode U) := (7, racetreelaw25_ReportBack_md) :: ms41

theorem known42 : Known kk env0 (modesOf ms42) := known_cons (by kernel_rfl) racetreelaw25_ReportBack_post known41

noncomputable def racetreelaw25_ReportJoins_sh : StSh := ⟨⟨[0, 1], [], []⟩, [.t (.slc (.st 30)), .t (.slc (.st 30))], []⟩

noncomputable def racetreelaw25_ReportJoins_os : List StSh := [⟨⟨[0], [], []⟩, [.t .bool], []⟩]

noncomputable def racetreelaw25_ReportJoins_L : Nat → Option (Lift.Loop U) := fun n => none

noncomputable def racetreelaw25_ReportJoins_enc : Nat → List (TV U) → Option (Bool)
  | 0, [⟨.bool, a0⟩] => some a0
  | _, _ => none

noncomputable def racetreelaw25_ReportJoins_dec : Bool → Nat × List (TV U) := fun x => (0, [⟨.bool, x⟩])

noncomputable def racetreelaw25_ReportJoins_tr : Bool → Tr (Nat × List (TV U)) := fun r => (fun x => .ret (0, [⟨.bool, x⟩])) r

noncomputable def racetreelaw25_ReportJoins_md : Mode U := ⟨racetreelaw25_ReportJoins_sh, [], racetreelaw25_ReportJoins_os, fun ls => match ls with | [⟨(.slc (.st 30)), a0⟩, ⟨(.slc (.st 30)), a1⟩] => .get (racetreelaw25_ReportJoins a0 a1) racetreelaw25_ReportJoins_tr | _ => .fail⟩

theorem racetreelaw25_ReportJoins_E (a0 : List (Finding)) (a1 : List (Finding)) : (Kit.withModes kk (modesOf ms42)).fnEval racetreelaw25_ReportJoins_L Tryd.f8 racetreelaw25_ReportJoins_sh racetreelaw25_ReportJoins_os [⟨(.slc (.st 30)), a0⟩, ⟨(.slc (.st 30)), a1⟩] racetreelaw25_ReportJoins_enc = racetreelaw25_ReportJoins_f a0 a1 := by kernel_rfl

theorem racetreelaw25_ReportJoins_post : ∀ ls j rs, (racetreelaw25_ReportJoins_md.sum ls).val = some (j, rs) → FnPost kk env0 8 racetreelaw25_ReportJoins_sh racetreelaw25_ReportJoins_os ls j rs := by
  have inner : LoopsOk (Kit.withModes kk (modesOf ms42)) env0 Tryd.f8.ntmps racetreelaw25_ReportJoins_L (bodyOf Tryd.f8) := by
    exact loopsOk_of (bs := []) (by kernel_rfl) trivial
  intro ls j rs h
  simp only [racetreelaw25_ReportJoins_md] at h
  split at h
  · obtain ⟨r, hr, h⟩ := Tr.get_val h
    rw [racetreelaw25_ReportJoins, sealF_eq] at hr
    have hd : racetreelaw25_ReportJoins_dec r = (j, rs) := by
      exact Option.some.inj h
    refine FnPost.modes.1 (fn_sound (kitOk_of eqOk mixed known42) (by kernel_rfl) inner ((racetreelaw25_ReportJoins_E _ _).trans hr) ?_)
    intro i qs he
    unfold racetreelaw25_ReportJoins_enc at he
    split at he <;> cases he <;> (cases hd; exact ⟨rfl, rfl⟩)
  · cases h

noncomputable def ms43 : List (FuncId × Mode U) := (8, racetreelaw25_ReportJoins_md) :: ms42

theorem known43 : Known kk env0 (modesOf ms43) := known_cons (by kernel_rfl) racetreelaw25_ReportJoins_post known42

end Lift.D3

