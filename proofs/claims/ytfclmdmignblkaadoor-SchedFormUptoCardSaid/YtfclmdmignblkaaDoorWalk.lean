/-
  DERIVED. Each function of this seat computes its Lean function. Conditions: as each theorem says.
-/
import Derived.Test.YtfclmdmignblkaaDoorFour
set_option linter.unusedVariables false
set_option linter.unusedSimpArgs false
set_option linter.unusedSectionVars false
namespace Lift.E3
open Go Go.RowKit Go.Proofs Lift Lift.Fn
open Lift.E2 (U kk uni cells ctys make tyOf eqOk mixed ms0 ms1 ms2 ms3 ms4 ms5 strings_Join_md strconv_ItoaW_md strings_Cut_md strconv_Atoi_md slices_Repeat_int_int_md env0 globs known5)

noncomputable def sched_runs_sh5 : StSh := ⟨⟨[4, 11, 12, 13], [], [⟨.slot 4, 4, 53, (.st 53)⟩]⟩, [.oslc 4, .t (.slc (.int .i64)), .t (.int .i64), .t (.int .i64)], [.row 53 (.st 53)]⟩

noncomputable def sched_runs_o5 : List Out := [⟨.ret, ⟨⟨[2, 3], [], []⟩, [.nil, .t (.int .i64)], []⟩⟩, ⟨.exit 0, ⟨⟨[4], [], [⟨.slot 4, 4, 53, (.st 53)⟩]⟩, [.oslc 4], [.row 53 (.st 53)]⟩⟩]

noncomputable def sched_runs_b5 : Code := (nthLoop (bodyOf Tryd.f24) 0)

noncomputable def sched_runs_L5 : Nat → Option (Lift.Loop U) := fun n => none

noncomputable def sched_runs_rec5 (rec : List (Int) → Int → Int → List (Run) → Option ((Int) ⊕ ((List (Run))))) : List (TV U) → Option ((Int) ⊕ ((List (Run))))
  | [⟨(.slc (.int .i64)), a0⟩, ⟨(.int .i64), a1⟩, ⟨(.int .i64), a2⟩, ⟨(.slc (.st 53)), a3⟩] => rec a0 a1 a2 a3
  | _ => none

noncomputable def sched_runs_enc5 : Nat → List (TV U) → Option ((Int) ⊕ ((List (Run))))
  | 0, [⟨(.int .i64), a0⟩] => some (.inl a0)
  | 1, [⟨(.slc (.st 53)), a0⟩] => some (.inr a0)
  | _, _ => none

noncomputable def sched_runs_dec5 : (Int) ⊕ ((List (Run))) → Nat × List (TV U) := fun r => match r with | (.inl x) => (0, [⟨(.int .i64), x⟩]) | (.inr x) => (1, [⟨(.slc (.st 53)), x⟩])

noncomputable def sched_runs_tr5 : (Int) ⊕ ((List (Run))) → Tr (Nat × List (TV U)) := fun r => .alt r (fun x => .ret (0, [⟨(.int .i64), x⟩])) (fun y => (fun x => .ret (1, [⟨(.slc (.st 53)), x⟩])) y)

noncomputable def sched_runs_lp5 : Lift.Loop U := ⟨sched_runs_sh5, sched_runs_o5, fun ls => match ls with | [⟨(.slc (.int .i64)), a0⟩, ⟨(.int .i64), a1⟩, ⟨(.int .i64), a2⟩, ⟨(.slc (.st 53)), a3⟩] => .get (sched_runs_l5 a0 a1 a2 a3) sched_runs_tr5 | _ => .fail⟩

theorem sched_runs_E5 (rec : List (Int) → Int → Int → List (Run) → Option ((Int) ⊕ ((List (Run))))) (a0 : List (Int)) (a1 : Int) (a2 : Int) (a3 : List (Run)) : (Kit.withModes kk (modesOf ms6)).turn Tryd.f24.ntmps sched_runs_L5 sched_runs_sh5 sched_runs_o5 sched_runs_b5 [⟨(.slc (.int .i64)), a0⟩, ⟨(.int .i64), a1⟩, ⟨(.int .i64), a2⟩, ⟨(.slc (.st 53)), a3⟩] (sched_runs_rec5 rec) sched_runs_enc5 = sched_runs_t5 rec a0 a1 a2 a3 := by kernel_rfl

theorem sched_runs_ok5 : ∀ ls j rs, (sched_runs_lp5.sum ls).val = some (j, rs) → RoundPost kk env0 Tryd.f24.ntmps sched_runs_b5 sched_runs_lp5.sh sched_runs_lp5.outs ls j rs := by
  have inner : LoopsOk (Kit.withModes kk (modesOf ms6)) env0 Tryd.f24.ntmps sched_runs_L5 sched_runs_b5 := by
    exact loopsOk_of (bs := []) (by kernel_rfl) trivial
  have key : ∀ n a0 a1 a2 a3 r j rs, sched_runs_i5 n a0 a1 a2 a3 = some r → sched_runs_dec5 r = (j, rs) → RoundPost kk env0 Tryd.f24.ntmps sched_runs_b5 sched_runs_sh5 sched_runs_o5 [⟨(.slc (.int .i64)), a0⟩, ⟨(.int .i64), a1⟩, ⟨(.int .i64), a2⟩, ⟨(.slc (.st 53)), a3⟩] j rs := by
    intro n
    induction n with
    | zero => intro a0 a1 a2 a3 r j rs h; cases h
    | succ n ih =>
      intro a0 a1 a2 a3 r j rs h hd
      refine RoundPost.modes.1 (turn_sound (kitOk_of eqOk mixed known6) inner ((sched_runs_E5 (sched_runs_i5 n) a0 a1 a2 a3).trans h) (fun q hq => RoundPost.modes.2 ?_) ?_)
      · unfold sched_runs_rec5 at hq
        split at hq
        · exact ih _ _ _ _ r j rs hq hd
        · cases hq
      · intro i qs he
        unfold sched_runs_enc5 at he
        split at he <;> cases he <;> (cases hd; exact ⟨rfl, rfl⟩)
  intro ls j rs h
  simp only [sched_runs_lp5] at h
  split at h
  · obtain ⟨r, hr, h⟩ := Tr.get_val h
    rw [sched_runs_l5, sealF_eq] at hr
    refine key fuel _ _ _ _ r j rs hr ?_
    rcases r with r | r <;> exact Option.some.inj h
  · cases h

noncomputable def sched_runs_sh : StSh := ⟨⟨[0], [], []⟩, [.t (.slc (.int .i64))], []⟩

noncomputable def sched_runs_os : List StSh := [⟨⟨[0, 1], [], [⟨.slot 0, 100000, 53, (.st 53)⟩]⟩, [.oslc 100000, .t (.int .i64)], [.row 53 (.st 53)]⟩]

noncomputable def sched_runs_L : Nat → Option (Lift.Loop U) := fun n => bif Nat.beq n 5 then some sched_runs_lp5 else none

noncomputable def sched_runs_enc : Nat → List (TV U) → Option (Int × (List (Run)))
  | 0, [⟨(.int .i64), a0⟩, ⟨(.slc (.st 53)), a1⟩] => some (a0, a1)
  | _, _ => none

noncomputable def sched_runs_dec : Int × (List (Run)) → Nat × List (TV U) := fun x => (0, [⟨(.int .i64), x.1⟩, ⟨(.slc (.st 53)), x.2⟩])

noncomputable def sched_runs_tr : Int × (List (Run)) → Tr (Nat × List (TV U)) := fun r => (fun x => .ret (0, [⟨(.int .i64), x.1⟩, ⟨(.slc (.st 53)), x.2⟩])) r

noncomputable def sched_runs_md : Mode U := ⟨sched_runs_sh, [], sched_runs_os, fun ls => match ls with | [⟨(.slc (.int .i64)), a0⟩] => .get (sched_runs a0) sched_runs_tr | _ => .fail⟩

theorem sched_runs_E (a0 : List (Int)) : (Kit.withModes kk (modesOf ms6)).fnEval sched_runs_L Tryd.f24 sched_runs_sh sched_runs_os [⟨(.slc (.int .i64)), a0⟩] sched_runs_enc = sched_runs_f a0 := by kernel_rfl

theorem sched_runs_post : ∀ ls j rs, (sched_runs_md.sum ls).val = some (j, rs) → FnPost kk env0 24 sched_runs_sh sched_runs_os ls j rs := by
  have inner : LoopsOk (Kit.withModes kk (modesOf ms6)) env0 Tryd.f24.ntmps sched_runs_L (bodyOf Tryd.f24) := by
    exact loopsOk_of (bs := [sched_runs_b5]) (by kernel_rfl) ⟨.inr ⟨_, by kernel_rfl, LoopOk.of_round sched_runs_ok5⟩, trivial⟩
  intro ls j rs h
  simp only [sched_runs_md] at h
  split at h
  · obtain ⟨r, hr, h⟩ := Tr.get_val h
    rw [sched_runs, sealF_eq] at hr
    have hd : sched_runs_dec r = (j, rs) := by
      exact Option.some.inj h
    refine FnPost.modes.1 (fn_sound (kitOk_of eqOk mixed known6) (by kernel_rfl) inner ((sched_runs_E _).trans hr) ?_)
    intro i qs he
    unfold sched_runs_enc at he
    split at he <;> cases he <;> (cases hd; exact ⟨rfl, rfl⟩)
  · cases h

noncomputable def ms7 : List (FuncId × Mode U) := (24, sched_runs_md) :: ms6

theorem known7 : Known kk env0 (modesOf ms7) := known_cons (by kernel_rfl) sched_runs_post known6

noncomputable def sched_Print_sh6 : StSh := ⟨⟨[6, 18, 19, 20], [], [⟨.slot 18, 18, 53, (.st 53)⟩, ⟨.slot 6, 6, 9, .str⟩]⟩, [.oslc 6, .oslc 18, .t (.int .i64), .t (.int .i64)], [.row 53 (.st 53), .row 9 .str]⟩

noncomputable def sched_Print_o6 : List Out := [⟨.exit 0, ⟨⟨[6], [], [⟨.slot 6, 6, 9, .str⟩]⟩, [.oslc 6], [.row 9 .str]⟩⟩]

noncomputable def sched_Print_b6 : Code := (nthLoop (bodyOf Tryd.f12) 0)

noncomputable def sched_Print_L6 : Nat → Option (Lift.Loop U) := fun n => none

noncomputable def sched_Print_rec6 (rec : Int → Int → List (Run) → List (List UInt8) → Option ((List (List UInt8)))) : List (TV U) → Option ((List (List UInt8)))
  | [⟨(.int .i64), a0⟩, ⟨(.int .i64), a1⟩, ⟨(.slc (.st 53)), a2⟩, ⟨(.slc .str), a3⟩] => rec a0 a1 a2 a3
  | _ => none

noncomputable def sched_Print_enc6 : Nat → List (TV U) → Option ((List (List UInt8)))
  | 0, [⟨(.slc .str), a0⟩] => some a0
  | _, _ => none

noncomputable def sched_Print_dec6 : (List (List UInt8)) → Nat × List (TV U) := fun x => (0, [⟨(.slc .str), x⟩])

noncomputable def sched_Print_tr6 : (List (List UInt8)) → Tr (Nat × List (TV U)) := fun r => (fun x => .ret (0, [⟨(.slc .str), x⟩])) r

noncomputable def sched_Print_lp6 : Lift.Loop U := ⟨sched_Print_sh6, sched_Print_o6, fun ls => match ls with | [⟨(.int .i64), a0⟩, ⟨(.int .i64), a1⟩, ⟨(.slc (.st 53)), a2⟩, ⟨(.slc .str), a3⟩] => .get (sched_Print_l6 a0 a1 a2 a3) sched_Print_tr6 | _ => .fail⟩

theorem sched_Print_E6 (rec : Int → Int → List (Run) → List (List UInt8) → Option ((List (List UInt8)))) (a0 : Int) (a1 : Int) (a2 : List (Run)) (a3 : List (List UInt8)) : (Kit.withModes kk (modesOf ms7)).turn Tryd.f12.ntmps sched_Print_L6 sched_Print_sh6 sched_Print_o6 sched_Print_b6 [⟨(.int .i64), a0⟩, ⟨(.int .i64), a1⟩, ⟨(.slc (.st 53)), a2⟩, ⟨(.slc .str), a3⟩] (sched_Print_rec6 rec) sched_Print_enc6 = sched_Print_t6 rec a0 a1 a2 a3 := by kernel_rfl

theorem sched_Print_ok6 : ∀ ls j rs, (sched_Print_lp6.sum ls).val = some (j, rs) → RoundPost kk env0 Tryd.f12.ntmps sched_Print_b6 sched_Print_lp6.sh sched_Print_lp6.outs ls j rs := by
  have inner : LoopsOk (Kit.withModes kk (modesOf ms7)) env0 Tryd.f12.ntmps sched_Print_L6 sched_Print_b6 := by
    exact loopsOk_of (bs := []) (by kernel_rfl) trivial
  have key : ∀ n a0 a1 a2 a3 r j rs, sched_Print_i6 n a0 a1 a2 a3 = some r → sched_Print_dec6 r = (j, rs) → RoundPost kk env0 Tryd.f12.ntmps sched_Print_b6 sched_Print_sh6 sched_Print_o6 [⟨(.int .i64), a0⟩, ⟨(.int .i64), a1⟩, ⟨(.slc (.st 53)), a2⟩, ⟨(.slc .str), a3⟩] j rs := by
    intro n
    induction n with
    | zero => intro a0 a1 a2 a3 r j rs h; cases h
    | succ n ih =>
      intro a0 a1 a2 a3 r j rs h hd
      refine RoundPost.modes.1 (turn_sound (kitOk_of eqOk mixed known7) inner ((sched_Print_E6 (sched_Print_i6 n) a0 a1 a2 a3).trans h) (fun q hq => RoundPost.modes.2 ?_) ?_)
      · unfold sched_Print_rec6 at hq
        split at hq
        · exact ih _ _ _ _ r j rs hq hd
        · cases hq
      · intro i qs he
        unfold sched_Print_enc6 at he
        split at he <;> cases he <;> (cases hd; exact ⟨rfl, rfl⟩)
  intro ls j rs h
  simp only [sched_Print_lp6] at h
  split at h
  · obtain ⟨r, hr, h⟩ := Tr.get_val h
    rw [sched_Print_l6, sealF_eq] at hr
    refine key fuel _ _ _ _ r j rs hr ?_
    exact Option.some.inj h
  · cases h

noncomputable def sched_Print_sh : StSh := ⟨⟨[0], [], []⟩, [.t (.slc (.int .i64))], []⟩

noncomputable def sched_Print_os : List StSh := [⟨⟨[0, 1], [], []⟩, [.t .str, .t (.int .i64)], []⟩]

noncomputable def sched_Print_L : Nat → Option (Lift.Loop U) := fun n => bif Nat.beq n 6 then some sched_Print_lp6 else none

noncomputable def sched_Print_enc : Nat → List (TV U) → Option ((List UInt8) × Int)
  | 0, [⟨.str, a0⟩, ⟨(.int .i64), a1⟩] => some (a0, a1)
  | _, _ => none

noncomputable def sched_Print_dec : (List UInt8) × Int → Nat × List (TV U) := fun x => (0, [⟨.str, x.1⟩, ⟨(.int .i64), x.2⟩])

noncomputable def sched_Print_tr : (List UInt8) × Int → Tr (Nat × List (TV U)) := fun r => (fun x => .ret (0, [⟨.str, x.1⟩, ⟨(.int .i64), x.2⟩])) r

noncomputable def sched_Print_md : Mode U := ⟨sched_Print_sh, [], sched_Print_os, fun ls => match ls with | [⟨(.slc (.int .i64)), a0⟩] => .get (sched_Print a0) sched_Print_tr | _ => .fail⟩

theorem sched_Print_E (a0 : List (Int)) : (Kit.withModes kk (modesOf ms7)).fnEval sched_Print_L Tryd.f12 sched_Print_sh sched_Print_os [⟨(.slc (.int .i64)), a0⟩] sched_Print_enc = sched_Print_f a0 := by kernel_rfl

theorem sched_Print_post : ∀ ls j rs, (sched_Print_md.sum ls).val = some (j, rs) → FnPost kk env0 12 sched_Print_sh sched_Print_os ls j rs := by
  have inner : LoopsOk (Kit.withModes kk (modesOf ms7)) env0 Tryd.f12.ntmps sched_Print_L (bodyOf Tryd.f12) := by
    exact loopsOk_of (bs := [sched_Print_b6]) (by kernel_rfl) ⟨.inr ⟨_, by kernel_rfl, LoopOk.of_round sched_Print_ok6⟩, trivial⟩
  intro ls j rs h
  simp only [sched_Print_md] at h
  split at h
  · obtain ⟨r, hr, h⟩ := Tr.get_val h
    rw [sched_Print, sealF_eq] at hr
    have hd : sched_Print_dec r = (j, rs) := by
      exact Option.some.inj h
    refine FnPost.modes.1 (fn_sound (kitOk_of eqOk mixed known7) (by kernel_rfl) inner ((sched_Print_E _).trans hr) ?_)
    intro i qs he
    unfold sched_Print_enc at he
    split at he <;> cases he <;> (cases hd; exact ⟨rfl, rfl⟩)
  · cases h

noncomputable def ms8 : List (FuncId × Mode U) := (12, sched_Print_md) :: ms7

theorem known8 : Known kk env0 (modesOf ms8) := known_cons (by kernel_rfl) sched_Print_post known7

noncomputable def sched_put_sh1 : StSh := ⟨⟨[0, 1], [], [⟨.slot 0, 0, 5, (.int .u8)⟩]⟩, [.oslc 0, .t (.int .i64)], [.row 5 (.int .u8)]⟩

noncomputable def sched_put_o1 : List Out := [⟨.exit 0, ⟨⟨[0, 1], [], [⟨.slot 0, 0, 5, (.int .u8)⟩]⟩, [.oslc 0, .t (.int .i64)], [.row 5 (.int .u8)]⟩⟩]

noncomputable def sched_put_b1 : Code := (nthLoop (bodyOf Tryd.f28) 0)

noncomputable def sched_put_L1 : Nat → Option (Lift.Loop U) := fun n => none

noncomputable def sched_put_rec1 (rec : Int → List (Int) → Option (Int × (List (Int)))) : List (TV U) → Option (Int × (List (Int)))
  | [⟨(.int .i64), a0⟩, ⟨(.slc (.int .u8)), a1⟩] => rec a0 a1
  | _ => none

noncomputable def sched_put_enc1 : Nat → List (TV U) → Option (Int × (List (Int)))
  | 0, [⟨(.int .i64), a0⟩, ⟨(.slc (.int .u8)), a1⟩] => some (a0, a1)
  | _, _ => none

noncomputable def sched_put_dec1 : Int × (List (Int)) → Nat × List (TV U) := fun x => (0, [⟨(.int .i64), x.1⟩, ⟨(.slc (.int .u8)), x.2⟩])

noncomputable def sched_put_tr1 : Int × (List (Int)) → Tr (Nat × List (TV U)) := fun r => (fun x => .ret (0, [⟨(.int .i64), x.1⟩, ⟨(.slc (.int .u8)), x.2⟩])) r

noncomputable def sched_put_lp1 : Lift.Loop U := ⟨sched_put_sh1, sched_put_o1, fun ls => match ls with | [⟨(.int .i64), a0⟩, ⟨(.slc (.int .u8)), a1⟩] => .get (sched_put_l1 a0 a1) sched_put_tr1 | _ => .fail⟩

theorem sched_put_E1 (rec : Int → List (Int) → Option (Int × (List (Int)))) (a0 : Int) (a1 : List (Int)) : (Kit.withModes kk (modesOf ms8)).turn Tryd.f28.ntmps sched_put_L1 sched_put_sh1 sched_put_o1 sched_put_b1 [⟨(.int .i64), a0⟩, ⟨(.slc (.int .u8)), a1⟩] (sched_put_rec1 rec) sched_put_enc1 = sched_put_t1 rec a0 a1 := by kernel_rfl

theorem sched_put_ok1 : ∀ ls j rs, (sched_put_lp1.sum ls).val = some (j, rs) → RoundPost kk env0 Tryd.f28.ntmps sched_put_b1 sched_put_lp1.sh sched_put_lp1.outs ls j rs := by
  have inner : LoopsOk (Kit.withModes kk (modesOf ms8)) env0 Tryd.f28.ntmps sched_put_L1 sched_put_b1 := by
    exact loopsOk_of (bs := []) (by kernel_rfl) trivial
  have key : ∀ n a0 a1 r j rs, sched_put_i1 n a0 a1 = some r → sched_put_dec1 r = (j, rs) → RoundPost kk env0 Tryd.f28.ntmps sched_put_b1 sched_put_sh1 sched_put_o1 [⟨(.int .i64), a0⟩, ⟨(.slc (.int .u8)), a1⟩] j rs := by
    intro n
    induction n with
    | zero => intro a0 a1 r j rs h; cases h
    | succ n ih =>
      intro a0 a1 r j rs h hd
      refine RoundPost.modes.1 (turn_sound (kitOk_of eqOk mixed known8) inner ((sched_put_E1 (sched_put_i1 n) a0 a1).trans h) (fun q hq => RoundPost.modes.2 ?_) ?_)
      · unfold sched_put_rec1 at hq
        split at hq
        · exact ih _ _ r j rs hq hd
        · cases hq
      · intro i qs he
        unfold sched_put_enc1 at he
        split at he <;> cases he <;> (cases hd; exact ⟨rfl, rfl⟩)
  intro ls j rs h
  simp only [sched_put_lp1] at h
  split at h
  · obtain ⟨r, hr, h⟩ := Tr.get_val h
    rw [sched_put_l1, sealF_eq] at hr
    refine key fuel _ _ r j rs hr ?_
    exact Option.some.inj h
  · cases h

noncomputable def sched_put_sh : StSh := ⟨⟨[0, 1], [], [⟨.slot 0, 0, 5, (.int .u8)⟩]⟩, [.oslc 0, .t (.int .i64)], [.row 5 (.int .u8)]⟩

noncomputable def sched_put_os : List StSh := [⟨⟨[0], [], [⟨.slot 0, 100000, 5, (.int .u8)⟩]⟩, [.oslc 100000], [.row 5 (.int .u8)]⟩]

noncomputable def sched_put_L : Nat → Option (Lift.Loop U) := fun n => bif Nat.beq n 1 then some sched_put_lp1 else none

noncomputable def sched_put_enc : Nat → List (TV U) → Option ((List (Int)))
  | 0, [⟨(.slc (.int .u8)), a0⟩] => some a0
  | _, _ => none

noncomputable def sched_put_dec : (List (Int)) → Nat × List (TV U) := fun x => (0, [⟨(.slc (.int .u8)), x⟩])

noncomputable def sched_put_tr : (List (Int)) → Tr (Nat × List (TV U)) := fun r => (fun x => .ret (0, [⟨(.slc (.int .u8)), x⟩])) r

noncomputable def sched_put_md : Mode U := ⟨sched_put_sh, [], sched_put_os, fun ls => match ls with | [⟨(.int .i64), a0⟩, ⟨(.slc (.int .u8)), a1⟩] => .get (sched_put a0 a1) sched_put_tr | _ => .fail⟩

theorem sched_put_E (a0 : Int) (a1 : List (Int)) : (Kit.withModes kk (modesOf ms8)).fnEval sched_put_L Tryd.f28 sched_put_sh sched_put_os [⟨(.int .i64), a0⟩, ⟨(.slc (.int .u8)), a1⟩] sched_put_enc = sched_put_f a0 a1 := by kernel_rfl

theorem sched_put_post : ∀ ls j rs, (sched_put_md.sum ls).val = some (j, rs) → FnPost kk env0 28 sched_put_sh sched_put_os ls j rs := by
  have inner : LoopsOk (Kit.withModes kk (modesOf ms8)) env0 Tryd.f28.ntmps sched_put_L (bodyOf Tryd.f28) := by
    exact loopsOk_of (bs := [sched_put_b1]) (by kernel_rfl) ⟨.inr ⟨_, by kernel_rfl, LoopOk.of_round sched_put_ok1⟩, trivial⟩
  intro ls j rs h
  simp only [sched_put_md] at h
  split at h
  · obtain ⟨r, hr, h⟩ := Tr.get_val h
    rw [sched_put, sealF_eq] at hr
    have hd : sched_put_dec r = (j, rs) := by
      exact Option.some.inj h
    refine FnPost.modes.1 (fn_sound (kitOk_of eqOk mixed known8) (by kernel_rfl) inner ((sched_put_E _ _).trans hr) ?_)
    intro i qs he
    unfold sched_put_enc at he
    split at he <;> cases he <;> (cases hd; exact ⟨rfl, rfl⟩)
  · cases h

noncomputable def ms9 : List (FuncId × Mode U) := (28, sched_put_md) :: ms8

theorem known9 : Known kk env0 (modesOf ms9) := known_cons (by kernel_rfl) sched_put_post known8

noncomputable def slices_Clip_byte_byte_sh : StSh := ⟨⟨[0], [], [⟨.slot 0, 0, 5, (.int .u8)⟩]⟩, [.oslc 0], [.row 5 (.int .u8)]⟩

noncomputable def slices_Clip_byte_byte_os : List StSh := [⟨⟨[0], [], [⟨.slot 0, 100000, 5, (.int .u8)⟩]⟩, [.oslc 100000], [.row 5 (.int .u8)]⟩]

noncomputable def slices_Clip_byte_byte_L : Nat → Option (Lift.Loop U) := fun n => none

noncomputable def slices_Clip_byte_byte_enc : Nat → List (TV U) → Option ((List (Int)))
  | 0, [⟨(.slc (.int .u8)), a0⟩] => some a0
  | _, _ => none

noncomputable def slices_Clip_byte_byte_dec : (List (Int)) → Nat × List (TV U) := fun x => (0, [⟨(.slc (.int .u8)), x⟩])

noncomputable def slices_Clip_byte_byte_tr : (List (Int)) → Tr (Nat × List (TV U)) := fun r => (fun x => .ret (0, [⟨(.slc (.int .u8)), x⟩])) r

noncomputable def slices_Clip_byte_byte_md : Mode U := ⟨slices_Clip_byte_byte_sh, [], slices_Clip_byte_byte_os, fun ls => match ls with | [⟨(.slc (.int .u8)), a0⟩] => .get (slices_Clip_byte_byte a0) slices_Clip_byte_byte_tr | _ => .fail⟩

theorem slices_Clip_byte_byte_E (a0 : List (Int)) : (Kit.withModes kk (modesOf ms9)).fnEval slices_Clip_byte_byte_L Tryd.f29 slices_Clip_byte_byte_sh slices_Clip_byte_byte_os [⟨(.slc (.int .u8)), a0⟩] slices_Clip_byte_byte_enc = slices_Clip_byte_byte_f a0 := by kernel_rfl

theorem slices_Clip_byte_byte_post : ∀ ls j rs, (slices_Clip_byte_byte_md.sum ls).val = some (j, rs) → FnPost kk env0 29 slices_Clip_byte_byte_sh slices_Clip_byte_byte_os ls j rs := by
  have inner : LoopsOk (Kit.withModes kk (modesOf ms9)) env0 Tryd.f29.ntmps slices_Clip_byte_byte_L (bodyOf Tryd.f29) := by
    exact loopsOk_of (bs := []) (by kernel_rfl) trivial
  intro ls j rs h
  simp only [slices_Clip_byte_byte_md] at h
  split at h
  · obtain ⟨r, hr, h⟩ := Tr.get_val h
    rw [slices_Clip_byte_byte, sealF_eq] at hr
    have hd : slices_Clip_byte_byte_dec r = (j, rs) := by
      exact Option.some.inj h
    refine FnPost.modes.1 (fn_sound (kitOk_of eqOk mixed known9) (by kernel_rfl) inner ((slices_Clip_byte_byte_E _).trans hr) ?_)
    intro i qs he
    unfold slices_Clip_byte_byte_enc at he
    split at he <;> cases he <;> (cases hd; exact ⟨rfl, rfl⟩)
  · cases h

noncomputable def ms10 : List (FuncId × Mode U) := (29, slices_Clip_byte_byte_md) :: ms9

theorem known10 : Known kk env0 (modesOf ms10) := known_cons (by kernel_rfl) slices_Clip_byte_byte_post known9

noncomputable def sched_Bytes_sh6 : StSh := ⟨⟨[6, 20, 21, 22], [], [⟨.slot 6, 6, 5, (.int .u8)⟩, ⟨.slot 20, 20, 53, (.st 53)⟩]⟩, [.oslc 6, .oslc 20, .t (.int .i64), .t (.int .i64)], [.row 5 (.int .u8), .row 53 (.st 53)]⟩

noncomputable def sched_Bytes_o6 : List Out := [⟨.exit 0, ⟨⟨[6], [], [⟨.slot 6, 6, 5, (.int .u8)⟩]⟩, [.oslc 6], [.row 5 (.int .u8)]⟩⟩]

noncomputable def sched_Bytes_b6 : Code := (nthLoop (bodyOf Tryd.f15) 0)

noncomputable def sched_Bytes_L6 : Nat → Option (Lift.Loop U) := fun n => none

noncomputable def sched_Bytes_rec6 (rec : Int → Int → List (Int) → List (Run) → Option ((List (Int)))) : List (TV U) → Option ((List (Int)))
  | [⟨(.int .i64), a0⟩, ⟨(.int .i64), a1⟩, ⟨(.slc (.int .u8)), a2⟩, ⟨(.slc (.st 53)), a3⟩] => rec a0 a1 a2 a3
  | _ => none

noncomputable def sched_Bytes_enc6 : Nat → List (TV U) → Option ((List (Int)))
  | 0, [⟨(.slc (.int .u8)), a0⟩] => some a0
  | _, _ => none

noncomputable def sched_Bytes_dec6 : (List (Int)) → Nat × List (TV U) := fun x => (0, [⟨(.slc (.int .u8)), x⟩])

noncomputable def sched_Bytes_tr6 : (List (Int)) → Tr (Nat × List (TV U)) := fun r => (fun x => .ret (0, [⟨(.slc (.int .u8)), x⟩])) r

noncomputable def sched_Bytes_lp6 : Lift.Loop U := ⟨sched_Bytes_sh6, sched_Bytes_o6, fun ls => match ls with | [⟨(.int .i64), a0⟩, ⟨(.int .i64), a1⟩, ⟨(.slc (.int .u8)), a2⟩, ⟨(.slc (.st 53)), a3⟩] => .get (sched_Bytes_l6 a0 a1 a2 a3) sched_Bytes_tr6 | _ => .fail⟩

theorem sched_Bytes_E6 (rec : Int → Int → List (Int) → List (Run) → Option ((List (Int)))) (a0 : Int) (a1 : Int) (a2 : List (Int)) (a3 : List (Run)) : (Kit.withModes kk (modesOf ms10)).turn Tryd.f15.ntmps sched_Bytes_L6 sched_Bytes_sh6 sched_Bytes_o6 sched_Bytes_b6 [⟨(.int .i64), a0⟩, ⟨(.int .i64), a1⟩, ⟨(.slc (.int .u8)), a2⟩, ⟨(.slc (.st 53)), a3⟩] (sched_Bytes_rec6 rec) sched_Bytes_enc6 = sched_Bytes_t6 rec a0 a1 a2 a3 := by kernel_rfl

theorem sched_Bytes_ok6 : ∀ ls j rs, (sched_Bytes_lp6.sum ls).val = some (j, rs) → RoundPost kk env0 Tryd.f15.ntmps sched_Bytes_b6 sched_Bytes_lp6.sh sched_Bytes_lp6.outs ls j rs := by
  have inner : LoopsOk (Kit.withModes kk (modesOf ms10)) env0 Tryd.f15.ntmps sched_Bytes_L6 sched_Bytes_b6 := by
    exact loopsOk_of (bs := []) (by kernel_rfl) trivial
  have key : ∀ n a0 a1 a2 a3 r j rs, sched_Bytes_i6 n a0 a1 a2 a3 = some r → sched_Bytes_dec6 r = (j, rs) → RoundPost kk env0 Tryd.f15.ntmps sched_Bytes_b6 sched_Bytes_sh6 sched_Bytes_o6 [⟨(.int .i64), a0⟩, ⟨(.int .i64), a1⟩, ⟨(.slc (.int .u8)), a2⟩, ⟨(.slc (.st 53)), a3⟩] j rs := by
    intro n
    induction n with
    | zero => intro a0 a1 a2 a3 r j rs h; cases h
    | succ n ih =>
      intro a0 a1 a2 a3 r j rs h hd
      refine RoundPost.modes.1 (turn_sound (kitOk_of eqOk mixed known10) inner ((sched_Bytes_E6 (sched_Bytes_i6 n) a0 a1 a2 a3).trans h) (fun q hq => RoundPost.modes.2 ?_) ?_)
      · unfold sched_Bytes_rec6 at hq
        split at hq
        · exact ih _ _ _ _ r j rs hq hd
        · cases hq
      · intro i qs he
        unfold sched_Bytes_enc6 at he
        split at he <;> cases he <;> (cases hd; exact ⟨rfl, rfl⟩)
  intro ls j rs h
  simp only [sched_Bytes_lp6] at h
  split at h
  · obtain ⟨r, hr, h⟩ := Tr.get_val h
    rw [sched_Bytes_l6, sealF_eq] at hr
    refine key fuel _ _ _ _ r j rs hr ?_
    exact Option.some.inj h
  · cases h

noncomputable def sched_Bytes_sh : StSh := ⟨⟨[0], [], []⟩, [.t (.slc (.int .i64))], []⟩

noncomputable def sched_Bytes_os : List StSh := [⟨⟨[0, 1], [], [⟨.slot 0, 100000, 5, (.int .u8)⟩]⟩, [.oslc 100000, .t (.int .i64)], [.row 5 (.int .u8)]⟩]

noncomputable def sched_Bytes_L : Nat → Option (Lift.Loop U) := fun n => bif Nat.beq n 6 then some sched_Bytes_lp6 else none

noncomputable def sched_Bytes_enc : Nat → List (TV U) → Option (Int × (List (Int)))
  | 0, [⟨(.int .i64), a0⟩, ⟨(.slc (.int .u8)), a1⟩] => some (a0, a1)
  | _, _ => none

noncomputable def sched_Bytes_dec : Int × (List (Int)) → Nat × List (TV U) := fun x => (0, [⟨(.int .i64), x.1⟩, ⟨(.slc (.int .u8)), x.2⟩])

noncomputable def sched_Bytes_tr : Int × (List (Int)) → Tr (Nat × List (TV U)) := fun r => (fun x => .ret (0, [⟨(.int .i64), x.1⟩, ⟨(.slc (.int .u8)), x.2⟩])) r

noncomputable def sched_Bytes_md : Mode U := ⟨sched_Bytes_sh, [], sched_Bytes_os, fun ls => match ls with | [⟨(.slc (.int .i64)), a0⟩] => .get (sched_Bytes a0) sched_Bytes_tr | _ => .fail⟩

theorem sched_Bytes_E (a0 : List (Int)) : (Kit.withModes kk (modesOf ms10)).fnEval sched_Bytes_L Tryd.f15 sched_Bytes_sh sched_Bytes_os [⟨(.slc (.int .i64)), a0⟩] sched_Bytes_enc = sched_Bytes_f a0 := by kernel_rfl

theorem sched_Bytes_post : ∀ ls j rs, (sched_Bytes_md.sum ls).val = some (j, rs) → FnPost kk env0 15 sched_Bytes_sh sched_Bytes_os ls j rs := by
  have inner : LoopsOk (Kit.withModes kk (modesOf ms10)) env0 Tryd.f15.ntmps sched_Bytes_L (bodyOf Tryd.f15) := by
    exact loopsOk_of (bs := [sched_Bytes_b6]) (by kernel_rfl) ⟨.inr ⟨_, by kernel_rfl, LoopOk.of_round sched_Bytes_ok6⟩, trivial⟩
  intro ls j rs h
  simp only [sched_Bytes_md] at h
  split at h
  · obtain ⟨r, hr, h⟩ := Tr.get_val h
    rw [sched_Bytes, sealF_eq] at hr
    have hd : sched_Bytes_dec r = (j, rs) := by
      exact Option.some.inj h
    refine FnPost.modes.1 (fn_sound (kitOk_of eqOk mixed known10) (by kernel_rfl) inner ((sched_Bytes_E _).trans hr) ?_)
    intro i qs he
    unfold sched_Bytes_enc at he
    split at he <;> cases he <;> (cases hd; exact ⟨rfl, rfl⟩)
  · cases h

noncomputable def ms11 : List (FuncId × Mode U) := (15, sched_Bytes_md) :: ms10

theorem known11 : Known kk env0 (modesOf ms11) := known_cons (by kernel_rfl) sched_Bytes_post known10

noncomputable def sched_take_sh3 : StSh := ⟨⟨[0, 5, 8, 9, 10], [], []⟩, [.t (.slc (.int .u8)), .t (.int .i64), .t (.slc (.int .u8)), .t (.int .i64), .t (.int .i64)], []⟩

noncomputable def sched_take_o3 : List Out := [⟨.exit 0, ⟨⟨[], [], []⟩, [], []⟩⟩, ⟨.ret, ⟨⟨[2, 3, 4], [], []⟩, [.t (.int .i64), .t (.slc (.int .u8)), .t .bool], []⟩⟩]

noncomputable def sched_take_b3 : Code := (nthLoop (bodyOf Tryd.f37) 0)

noncomputable def sched_take_L3 : Nat → Option (Lift.Loop U) := fun n => none

noncomputable def sched_take_rec3 (rec : List (Int) → Int → List (Int) → Int → Int → Option ((Unit) ⊕ (Int × (List (Int)) × Bool))) : List (TV U) → Option ((Unit) ⊕ (Int × (List (Int)) × Bool))
  | [⟨(.slc (.int .u8)), a0⟩, ⟨(.int .i64), a1⟩, ⟨(.slc (.int .u8)), a2⟩, ⟨(.int .i64), a3⟩, ⟨(.int .i64), a4⟩] => rec a0 a1 a2 a3 a4
  | _ => none

noncomputable def sched_take_enc3 : Nat → List (TV U) → Option ((Unit) ⊕ (Int × (List (Int)) × Bool))
  | 0, [] => some (.inl ())
  | 1, [⟨(.int .i64), a0⟩, ⟨(.slc (.int .u8)), a1⟩, ⟨.bool, a2⟩] => some (.inr (a0, a1, a2))
  | _, _ => none

noncomputable def sched_take_dec3 : (Unit) ⊕ (Int × (List (Int)) × Bool) → Nat × List (TV U) := fun r => match r with | (.inl x) => (0, []) | (.inr x) => (1, [⟨(.int .i64), x.1⟩, ⟨(.slc (.int .u8)), x.2.1⟩, ⟨.bool, x.2.2⟩])

noncomputable def sched_take_tr3 : (Unit) ⊕ (Int × (List (Int)) × Bool) → Tr (Nat × List (TV U)) := fun r => .alt r (fun x => .ret (0, [])) (fun y => (fun x => .ret (1, [⟨(.int .i64), x.1⟩, ⟨(.slc (.int .u8)), x.2.1⟩, ⟨.bool, x.2.2⟩])) y)

noncomputable def sched_take_lp3 : Lift.Loop U := ⟨sched_take_sh3, sched_take_o3, fun ls => match ls with | [⟨(.slc (.int .u8)), a0⟩, ⟨(.int .i64), a1⟩, ⟨(.slc (.int .u8)), a2⟩, ⟨(.int .i64), a3⟩, ⟨(.int .i64), a4⟩] => .get (sched_take_l3 a0 a1 a2 a3 a4) sched_take_tr3 | _ => .fail⟩

theorem sched_take_E3 (rec : List (Int) → Int → List (Int) → Int → Int → Option ((Unit) ⊕ (Int × (List (Int)) × Bool))) (a0 : List (Int)) (a1 : Int) (a2 : List (Int)) (a3 : Int) (a4 : Int) : (Kit.withModes kk (modesOf ms11)).turn Tryd.f37.ntmps sched_take_L3 sched_take_sh3 sched_take_o3 sched_take_b3 [⟨(.slc (.int .u8)), a0⟩, ⟨(.int .i64), a1⟩, ⟨(.slc (.int .u8)), a2⟩, ⟨(.int .i64), a3⟩, ⟨(.int .i64), a4⟩] (sched_take_rec3 rec) sched_take_enc3 = sched_take_t3 rec a0 a1 a2 a3 a4 := by kernel_rfl

theorem sched_take_ok3 : ∀ ls j rs, (sched_take_lp3.sum ls).val = some (j, rs) → RoundPost kk env0 Tryd.f37.ntmps sched_take_b3 sched_take_lp3.sh sched_take_lp3.outs ls j rs := by
  have inner : LoopsOk (Kit.withModes kk (modesOf ms11)) env0 Tryd.f37.ntmps sched_take_L3 sched_take_b3 := by
    exact loopsOk_of (bs := []) (by kernel_rfl) trivial
  have key : ∀ n a0 a1 a2 a3 a4 r j rs, sched_take_i3 n a0 a1 a2 a3 a4 = some r → sched_take_dec3 r = (j, rs) → RoundPost kk env0 Tryd.f37.ntmps sched_take_b3 sched_take_sh3 sched_take_o3 [⟨(.slc (.int .u8)), a0⟩, ⟨(.int .i64), a1⟩, ⟨(.slc (.int .u8)), a2⟩, ⟨(.int .i64), a3⟩, ⟨(.int .i64), a4⟩] j rs := by
    intro n
    induction n with
    | zero => intro a0 a1 a2 a3 a4 r j rs h; cases h
    | succ n ih =>
      intro a0 a1 a2 a3 a4 r j rs h hd
      refine RoundPost.modes.1 (turn_sound (kitOk_of eqOk mixed known11) inner ((sched_take_E3 (sched_take_i3 n) a0 a1 a2 a3 a4).trans h) (fun q hq => RoundPost.modes.2 ?_) ?_)
      · unfold sched_take_rec3 at hq
        split at hq
        · exact ih _ _ _ _ _ r j rs hq hd
        · cases hq
      · intro i qs he
        unfold sched_take_enc3 at he
        split at he <;> cases he <;> (cases hd; exact ⟨rfl, rfl⟩)
  intro ls j rs h
  simp only [sched_take_lp3] at h
  split at h
  · obtain ⟨r, hr, h⟩ := Tr.get_val h
    rw [sched_take_l3, sealF_eq] at hr
    refine key fuel _ _ _ _ _ r j rs hr ?_
    rcases r with r | r <;> exact Option.some.inj h
  · cases h

noncomputable def sched_take_sh : StSh := ⟨⟨[0], [], []⟩, [.t (.slc (.int .u8))], []⟩

noncomputable def sched_take_os : List StSh := [⟨⟨[0, 1, 2], [], []⟩, [.t (.int .i64), .t (.slc (.int .u8)), .t .bool], []⟩]

noncomputable def sched_take_L : Nat → Option (Lift.Loop U) := fun n => bif Nat.beq n 3 then some sched_take_lp3 else none

noncomputable def sched_take_enc : Nat → List (TV U) → Option (Int × (List (Int)) × Bool)
  | 0, [⟨(.int .i64), a0⟩, ⟨(.slc (.int .u8)), a1⟩, ⟨.bool, a2⟩] => some (a0, a1, a2)
  | _, _ => none

noncomputable def sched_take_dec : Int × (List (Int)) × Bool → Nat × List (TV U) := fun x => (0, [⟨(.int .i64), x.1⟩, ⟨(.slc (.int .u8)), x.2.1⟩, ⟨.bool, x.2.2⟩])

noncomputable def sched_take_tr : Int × (List (Int)) × Bool → Tr (Nat × List (TV U)) := fun r => (fun x => .ret (0, [⟨(.int .i64), x.1⟩, ⟨(.slc (.int .u8)), x.2.1⟩, ⟨.bool, x.2.2⟩])) r

noncomputable def sched_take_md : Mode U := ⟨sched_take_sh, [], sched_take_os, fun ls => match ls with | [⟨(.slc (.int .u8)), a0⟩] => .get (sched_take a0) sched_take_tr | _ => .fail⟩

theorem sched_take_E (a0 : List (Int)) : (Kit.withModes kk (modesOf ms11)).fnEval sched_take_L Tryd.f37 sched_take_sh sched_take_os [⟨(.slc (.int .u8)), a0⟩] sched_take_enc = sched_take_f a0 := by kernel_rfl

theorem sched_take_post : ∀ ls j rs, (sched_take_md.sum ls).val = some (j, rs) → FnPost kk env0 37 sched_take_sh sched_take_os ls j rs := by
  have inner : LoopsOk (Kit.withModes kk (modesOf ms11)) env0 Tryd.f37.ntmps sched_take_L (bodyOf Tryd.f37) := by
    exact loopsOk_of (bs := [sched_take_b3]) (by kernel_rfl) ⟨.inr ⟨_, by kernel_rfl, LoopOk.of_round sched_take_ok3⟩, trivial⟩
  intro ls j rs h
  simp only [sched_take_md] at h
  split at h
  · obtain ⟨r, hr, h⟩ := Tr.get_val h
    rw [sched_take, sealF_eq] at hr
    have hd : sched_take_dec r = (j, rs) := by
      exact Option.some.inj h
    refine FnPost.modes.1 (fn_sound (kitOk_of eqOk mixed known11) (by kernel_rfl) inner ((sched_take_E _).trans hr) ?_)
    intro i qs he
    unfold sched_take_enc at he
    split at he <;> cases he <;> (cases hd; exact ⟨rfl, rfl⟩)
  · cases h

noncomputable def ms12 : List (FuncId × Mode U) := (37, sched_take_md) :: ms11

theorem known12 : Known kk env0 (modesOf ms12) := known_cons (by kernel_rfl) sched_take_post known11

noncomputable def slices_Clip_int_int_sh : StSh := ⟨⟨[0], [], [⟨.slot 0, 0, 3, (.int .i64)⟩]⟩, [.oslc 0], [.row 3 (.int .i64)]⟩

noncomputable def slices_Clip_int_int_os : List StSh := [⟨⟨[0], [], [⟨.slot 0, 100000, 3, (.int .i64)⟩]⟩, [.oslc 100000], [.row 3 (.int .i64)]⟩]

noncomputable def slices_Clip_int_int_L : Nat → Option (Lift.Loop U) := fun n => none

noncomputable def slices_Clip_int_int_enc : Nat → List (TV U) → Option ((List (Int)))
  | 0, [⟨(.slc (.int .i64)), a0⟩] => some a0
  | _, _ => none

noncomputable def slices_Clip_int_int_dec : (List (Int)) → Nat × List (TV U) := fun x => (0, [⟨(.slc (.int .i64)), x⟩])

noncomputable def slices_Clip_int_int_tr : (List (Int)) → Tr (Nat × List (TV U)) := fun r => (fun x => .ret (0, [⟨(.slc (.int .i64)), x⟩])) r

noncomputable def slices_Clip_int_int_md : Mode U := ⟨slices_Clip_int_int_sh, [], slices_Clip_int_int_os, fun ls => match ls with | [⟨(.slc (.int .i64)), a0⟩] => .get (slices_Clip_int_int a0) slices_Clip_int_int_tr | _ => .fail⟩

theorem slices_Clip_int_int_E (a0 : List (Int)) : (Kit.withModes kk (modesOf ms12)).fnEval slices_Clip_int_int_L Tryd.f34 slices_Clip_int_int_sh slices_Clip_int_int_os [⟨(.slc (.int .i64)), a0⟩] slices_Clip_int_int_enc = slices_Clip_int_int_f a0 := by kernel_rfl

theorem slices_Clip_int_int_post : ∀ ls j rs, (slices_Clip_int_int_md.sum ls).val = some (j, rs) → FnPost kk env0 34 slices_Clip_int_int_sh slices_Clip_int_int_os ls j rs := by
  have inner : LoopsOk (Kit.withModes kk (modesOf ms12)) env0 Tryd.f34.ntmps slices_Clip_int_int_L (bodyOf Tryd.f34) := by
    exact loopsOk_of (bs := []) (by kernel_rfl) trivial
  intro ls j rs h
  simp only [slices_Clip_int_int_md] at h
  split at h
  · obtain ⟨r, hr, h⟩ := Tr.get_val h
    rw [slices_Clip_int_int, sealF_eq] at hr
    have hd : slices_Clip_int_int_dec r = (j, rs) := by
      exact Option.some.inj h
    refine FnPost.modes.1 (fn_sound (kitOk_of eqOk mixed known12) (by kernel_rfl) inner ((slices_Clip_int_int_E _).trans hr) ?_)
    intro i qs he
    unfold slices_Clip_int_int_enc at he
    split at he <;> cases he <;> (cases hd; exact ⟨rfl, rfl⟩)
  · cases h

noncomputable def ms13 : List (FuncId × Mode U) := (34, slices_Clip_int_int_md) :: ms12

theorem known13 : Known kk env0 (modesOf ms13) := known_cons (by kernel_rfl) slices_Clip_int_int_post known12

noncomputable def sched_Load_sh4 : StSh := ⟨⟨[0, 5, 6, 16, 17], [], [⟨.slot 6, 6, 3, (.int .i64)⟩]⟩, [.t (.slc (.int .u8)), .t .bool, .oslc 6, .t (.int .i64), .t (.int .i64)], [.row 3 (.int .i64)]⟩

noncomputable def sched_Load_o4 : List Out := [⟨.exit 0, ⟨⟨[0, 5, 6], [], [⟨.slot 6, 6, 3, (.int .i64)⟩]⟩, [.t (.slc (.int .u8)), .t .bool, .oslc 6], [.row 3 (.int .i64)]⟩⟩]

noncomputable def sched_Load_b4 : Code := (nthLoop (bodyOf Tryd.f20) 0)

noncomputable def sched_Load_L4 : Nat → Option (Lift.Loop U) := fun n => none

noncomputable def sched_Load_rec4 (rec : List (Int) → Bool → Int → Int → List (Int) → Option ((List (Int)) × Bool × (List (Int)))) : List (TV U) → Option ((List (Int)) × Bool × (List (Int)))
  | [⟨(.slc (.int .u8)), a0⟩, ⟨.bool, a1⟩, ⟨(.int .i64), a2⟩, ⟨(.int .i64), a3⟩, ⟨(.slc (.int .i64)), a4⟩] => rec a0 a1 a2 a3 a4
  | _ => none

noncomputable def sched_Load_enc4 : Nat → List (TV U) → Option ((List (Int)) × Bool × (List (Int)))
  | 0, [⟨(.slc (.int .u8)), a0⟩, ⟨.bool, a1⟩, ⟨(.slc (.int .i64)), a2⟩] => some (a0, a1, a2)
  | _, _ => none

noncomputable def sched_Load_dec4 : (List (Int)) × Bool × (List (Int)) → Nat × List (TV U) := fun x => (0, [⟨(.slc (.int .u8)), x.1⟩, ⟨.bool, x.2.1⟩, ⟨(.slc (.int .i64)), x.2.2⟩])

noncomputable def sched_Load_tr4 : (List (Int)) × Bool × (List (Int)) → Tr (Nat × List (TV U)) := fun r => (fun x => .ret (0, [⟨(.slc (.int .u8)), x.1⟩, ⟨.bool, x.2.1⟩, ⟨(.slc (.int .i64)), x.2.2⟩])) r

noncomputable def sched_Load_lp4 : Lift.Loop U := ⟨sched_Load_sh4, sched_Load_o4, fun ls => match ls with | [⟨(.slc (.int .u8)), a0⟩, ⟨.bool, a1⟩, ⟨(.int .i64), a2⟩, ⟨(.int .i64), a3⟩, ⟨(.slc (.int .i64)), a4⟩] => .get (sched_Load_l4 a0 a1 a2 a3 a4) sched_Load_tr4 | _ => .fail⟩

theorem sched_Load_E4 (rec : List (Int) → Bool → Int → Int → List (Int) → Option ((List (Int)) × Bool × (List (Int)))) (a0 : List (Int)) (a1 : Bool) (a2 : Int) (a3 : Int) (a4 : List (Int)) : (Kit.withModes kk (modesOf ms13)).turn Tryd.f20.ntmps sched_Load_L4 sched_Load_sh4 sched_Load_o4 sched_Load_b4 [⟨(.slc (.int .u8)), a0⟩, ⟨.bool, a1⟩, ⟨(.int .i64), a2⟩, ⟨(.int .i64), a3⟩, ⟨(.slc (.int .i64)), a4⟩] (sched_Load_rec4 rec) sched_Load_enc4 = sched_Load_t4 rec a0 a1 a2 a3 a4 := by kernel_rfl

theorem sched_Load_ok4 : ∀ ls j rs, (sched_Load_lp4.sum ls).val = some (j, rs) → RoundPost kk env0 Tryd.f20.ntmps sched_Load_b4 sched_Load_lp4.sh sched_Load_lp4.outs ls j rs := by
  have inner : LoopsOk (Kit.withModes kk (modesOf ms13)) env0 Tryd.f20.ntmps sched_Load_L4 sched_Load_b4 := by
    exact loopsOk_of (bs := []) (by kernel_rfl) trivial
  have key : ∀ n a0 a1 a2 a3 a4 r j rs, sched_Load_i4 n a0 a1 a2 a3 a4 = some r → sched_Load_dec4 r = (j, rs) → RoundPost kk env0 Tryd.f20.ntmps sched_Load_b4 sched_Load_sh4 sched_Load_o4 [⟨(.slc (.int .u8)), a0⟩, ⟨.bool, a1⟩, ⟨(.int .i64), a2⟩, ⟨(.int .i64), a3⟩, ⟨(.slc (.int .i64)), a4⟩] j rs := by
    intro n
    induction n with
    | zero => intro a0 a1 a2 a3 a4 r j rs h; cases h
    | succ n ih =>
      intro a0 a1 a2 a3 a4 r j rs h hd
      refine RoundPost.modes.1 (turn_sound (kitOk_of eqOk mixed known13) inner ((sched_Load_E4 (sched_Load_i4 n) a0 a1 a2 a3 a4).trans h) (fun q hq => RoundPost.modes.2 ?_) ?_)
      · unfold sched_Load_rec4 at hq
        split at hq
        · exact ih _ _ _ _ _ r j rs hq hd
        · cases hq
      · intro i qs he
        unfold sched_Load_enc4 at he
        split at he <;> cases he <;> (cases hd; exact ⟨rfl, rfl⟩)
  intro ls j rs h
  simp only [sched_Load_lp4] at h
  split at h
  · obtain ⟨r, hr, h⟩ := Tr.get_val h
    rw [sched_Load_l4, sealF_eq] at hr
    refine key fuel _ _ _ _ _ r j rs hr ?_
    exact Option.some.inj h
  · cases h

noncomputable def sched_Load_sh : StSh := ⟨⟨[0], [], []⟩, [.t (.slc (.int .u8))], []⟩

noncomputable def sched_Load_os : List StSh := [⟨⟨[0, 1], [], [⟨.slot 0, 100000, 3, (.int .i64)⟩]⟩, [.oslc 100000, .t (.int .i64)], [.row 3 (.int .i64)]⟩]

noncomputable def sched_Load_L : Nat → Option (Lift.Loop U) := fun n => bif Nat.beq n 4 then some sched_Load_lp4 else none

noncomputable def sched_Load_enc : Nat → List (TV U) → Option (Int × (List (Int)))
  | 0, [⟨(.int .i64), a0⟩, ⟨(.slc (.int .i64)), a1⟩] => some (a0, a1)
  | _, _ => none

noncomputable def sched_Load_dec : Int × (List (Int)) → Nat × List (TV U) := fun x => (0, [⟨(.int .i64), x.1⟩, ⟨(.slc (.int .i64)), x.2⟩])

noncomputable def sched_Load_tr : Int × (List (Int)) → Tr (Nat × List (TV U)) := fun r => (fun x => .ret (0, [⟨(.int .i64), x.1⟩, ⟨(.slc (.int .i64)), x.2⟩])) r

noncomputable def sched_Load_md : Mode U := ⟨sched_Load_sh, [], sched_Load_os, fun ls => match ls with | [⟨(.slc (.int .u8)), a0⟩] => .get (sched_Load a0) sched_Load_tr | _ => .fail⟩

theorem sched_Load_E (a0 : List (Int)) : (Kit.withModes kk (modesOf ms13)).fnEval sched_Load_L Tryd.f20 sched_Load_sh sched_Load_os [⟨(.slc (.int .u8)), a0⟩] sched_Load_enc = sched_Load_f a0 := by kernel_rfl

theorem sched_Load_post : ∀ ls j rs, (sched_Load_md.sum ls).val = some (j, rs) → FnPost kk env0 20 sched_Load_sh sched_Load_os ls j rs := by
  have inner : LoopsOk (Kit.withModes kk (modesOf ms13)) env0 Tryd.f20.ntmps sched_Load_L (bodyOf Tryd.f20) := by
    exact loopsOk_of (bs := [sched_Load_b4]) (by kernel_rfl) ⟨.inr ⟨_, by kernel_rfl, LoopOk.of_round sched_Load_ok4⟩, trivial⟩
  intro ls j rs h
  simp only [sched_Load_md] at h
  split at h
  · obtain ⟨r, hr, h⟩ := Tr.get_val h
    rw [sched_Load, sealF_eq] at hr
    have hd : sched_Load_dec r = (j, rs) := by
      exact Option.some.inj h
    refine FnPost.modes.1 (fn_sound (kitOk_of eqOk mixed known13) (by kernel_rfl) inner ((sched_Load_E _).trans hr) ?_)
    intro i qs he
    unfold sched_Load_enc at he
    split at he <;> cases he <;> (cases hd; exact ⟨rfl, rfl⟩)
  · cases h

noncomputable def ms14 : List (FuncId × Mode U) := (20, sched_Load_md) :: ms13

theorem known14 : Known kk env0 (modesOf ms14) := known_cons (by kernel_rfl) sched_Load_post known13

noncomputable def racetreeref08_sameInts_sh4 : StSh := ⟨⟨[0, 1, 5], [], []⟩, [.t (.slc (.int .i64)), .t (.slc (.int .i64)), .t (.int .i64)], []⟩

noncomputable def racetreeref08_sameInts_o4 : List Out := [⟨.ret, ⟨⟨[4], [], []⟩, [.t .bool], []⟩⟩, ⟨.exit 0, ⟨⟨[], [], []⟩, [], []⟩⟩]

noncomputable def racetreeref08_sameInts_b4 : Code := (nthLoop (bodyOf Tryd.f35) 0)

noncomputable def racetreeref08_sameInts_L4 : Nat → Option (Lift.Loop U) := fun n => none

noncomputable def racetreeref08_sameInts_rec4 (rec : List (Int) → List (Int) → Int → Option ((Bool) ⊕ (Unit))) : List (TV U) → Option ((Bool) ⊕ (Unit))
  | [⟨(.slc (.int .i64)), a0⟩, ⟨(.slc (.int .i64)), a1⟩, ⟨(.int .i64), a2⟩] => rec a0 a1 a2
  | _ => none

noncomputable def racetreeref08_sameInts_enc4 : Nat → List (TV U) → Option ((Bool) ⊕ (Unit))
  | 0, [⟨.bool, a0⟩] => some (.inl a0)
  | 1, [] => some (.inr ())
  | _, _ => none

noncomputable def racetreeref08_sameInts_dec4 : (Bool) ⊕ (Unit) → Nat × List (TV U) := fun r => match r with | (.inl x) => (0, [⟨.bool, x⟩]) | (.inr x) => (1, [])

noncomputable def racetreeref08_sameInts_tr4 : (Bool) ⊕ (Unit) → Tr (Nat × List (TV U)) := fun r => .alt r (fun x => .ret (0, [⟨.bool, x⟩])) (fun y => (fun x => .ret (1, [])) y)

noncomputable def racetreeref08_sameInts_lp4 : Lift.Loop U := ⟨racetreeref08_sameInts_sh4, racetreeref08_sameInts_o4, fun ls => match ls with | [⟨(.slc (.int .i64)), a0⟩, ⟨(.slc (.int .i64)), a1⟩, ⟨(.int .i64), a2⟩] => .get (racetreeref08_sameInts_l4 a0 a1 a2) racetreeref08_sameInts_tr4 | _ => .fail⟩

theorem racetreeref08_sameInts_E4 (rec : List (Int) → List (Int) → Int → Option ((Bool) ⊕ (Unit))) (a0 : List (Int)) (a1 : List (Int)) (a2 : Int) : (Kit.withModes kk (modesOf ms14)).turn Tryd.f35.ntmps racetreeref08_sameInts_L4 racetreeref08_sameInts_sh4 racetreeref08_sameInts_o4 racetreeref08_sameInts_b4 [⟨(.slc (.int .i64)), a0⟩, ⟨(.slc (.int .i64)), a1⟩, ⟨(.int .i64), a2⟩] (racetreeref08_sameInts_rec4 rec) racetreeref08_sameInts_enc4 = racetreeref08_sameInts_t4 rec a0 a1 a2 := by kernel_rfl

theorem racetreeref08_sameInts_ok4 : ∀ ls j rs, (racetreeref08_sameInts_lp4.sum ls).val = some (j, rs) → RoundPost kk env0 Tryd.f35.ntmps racetreeref08_sameInts_b4 racetreeref08_sameInts_lp4.sh racetreeref08_sameInts_lp4.outs ls j rs := by
  have inner : LoopsOk (Kit.withModes kk (modesOf ms14)) env0 Tryd.f35.ntmps racetreeref08_sameInts_L4 racetreeref08_sameInts_b4 := by
    exact loopsOk_of (bs := []) (by kernel_rfl) trivial
  have key : ∀ n a0 a1 a2 r j rs, racetreeref08_sameInts_i4 n a0 a1 a2 = some r → racetreeref08_sameInts_dec4 r = (j, rs) → RoundPost kk env0 Tryd.f35.ntmps racetreeref08_sameInts_b4 racetreeref08_sameInts_sh4 racetreeref08_sameInts_o4 [⟨(.slc (.int .i64)), a0⟩, ⟨(.slc (.int .i64)), a1⟩, ⟨(.int .i64), a2⟩] j rs := by
    intro n
    induction n with
    | zero => intro a0 a1 a2 r j rs h; cases h
    | succ n ih =>
      intro a0 a1 a2 r j rs h hd
      refine RoundPost.modes.1 (turn_sound (kitOk_of eqOk mixed known14) inner ((racetreeref08_sameInts_E4 (racetreeref08_sameInts_i4 n) a0 a1 a2).trans h) (fun q hq => RoundPost.modes.2 ?_) ?_)
      · unfold racetreeref08_sameInts_rec4 at hq
        split at hq
        · exact ih _ _ _ r j rs hq hd
        · cases hq
      · intro i qs he
        unfold racetreeref08_sameInts_enc4 at he
        split at he <;> cases he <;> (cases hd; exact ⟨rfl, rfl⟩)
  intro ls j rs h
  simp only [racetreeref08_sameInts_lp4] at h
  split at h
  · obtain ⟨r, hr, h⟩ := Tr.get_val h
    rw [racetreeref08_sameInts_l4, sealF_eq] at hr
    refine key fuel _ _ _ r j rs hr ?_
    rcases r with r | r <;> exact Option.some.inj h
  · cases h

noncomputable def racetreeref08_sameInts_sh : StSh := ⟨⟨[0, 1], [], []⟩, [.t (.slc (.int .i64)), .t (.slc (.int .i64))], []⟩

noncomputable def racetreeref08_sameInts_os : List StSh := [⟨⟨[0], [], []⟩, [.t .bool], []⟩]

noncomputable def racetreeref08_sameInts_L : Nat → Option (Lift.Loop U) := fun n => bif Nat.beq n 4 then some racetreeref08_sameInts_lp4 else none

noncomputable def racetreeref08_sameInts_enc : Nat → List (TV U) → Option (Bool)
  | 0, [⟨.bool, a0⟩] => some a0
  | _, _ => none

noncomputable def racetreeref08_sameInts_dec : Bool → Nat × List (TV U) := fun x => (0, [⟨.bool, x⟩])

noncomputable def racetreeref08_sameInts_tr : Bool → Tr (Nat × List (TV U)) := fun r => (fun x => .ret (0, [⟨.bool, x⟩])) r

noncomputable def racetreeref08_sameInts_md : Mode U := ⟨racetreeref08_sameInts_sh, [], racetreeref08_sameInts_os, fun ls => match ls with | [⟨(.slc (.int .i64)), a0⟩, ⟨(.slc (.int .i64)), a1⟩] => .get (racetreeref08_sameInts a0 a1) racetreeref08_sameInts_tr | _ => .fail⟩

theorem racetreeref08_sameInts_E (a0 : List (Int)) (a1 : List (Int)) : (Kit.withModes kk (modesOf ms14)).fnEval racetreeref08_sameInts_L Tryd.f35 racetreeref08_sameInts_sh racetreeref08_sameInts_os [⟨(.slc (.int .i64)), a0⟩, ⟨(.slc (.int .i64)), a1⟩] racetreeref08_sameInts_enc = racetreeref08_sameInts_f a0 a1 := by kernel_rfl

theorem racetreeref08_sameInts_post : ∀ ls j rs, (racetreeref08_sameInts_md.sum ls).val = some (j, rs) → FnPost kk env0 35 racetreeref08_sameInts_sh racetreeref08_sameInts_os ls j rs := by
  have inner : LoopsOk (Kit.withModes kk (modesOf ms14)) env0 Tryd.f35.ntmps racetreeref08_sameInts_L (bodyOf Tryd.f35) := by
    exact loopsOk_of (bs := [racetreeref08_sameInts_b4]) (by kernel_rfl) ⟨.inr ⟨_, by kernel_rfl, LoopOk.of_round racetreeref08_sameInts_ok4⟩, trivial⟩
  intro ls j rs h
  simp only [racetreeref08_sameInts_md] at h
  split at h
  · obtain ⟨r, hr, h⟩ := Tr.get_val h
    rw [racetreeref08_sameInts, sealF_eq] at hr
    have hd : racetreeref08_sameInts_dec r = (j, rs) := by
      exact Option.some.inj h
    refine FnPost.modes.1 (fn_sound (kitOk_of eqOk mixed known14) (by kernel_rfl) inner ((racetreeref08_sameInts_E _ _).trans hr) ?_)
    intro i qs he
    unfold racetreeref08_sameInts_enc at he
    split at he <;> cases he <;> (cases hd; exact ⟨rfl, rfl⟩)
  · cases h

noncomputable def ms15 : List (FuncId × Mode U) := (35, racetreeref08_sameInts_md) :: ms14

theorem known15 : Known kk env0 (modesOf ms15) := known_cons (by kernel_rfl) racetreeref08_sameInts_post known14

noncomputable def racetreeref08_SameInts_sh : StSh := ⟨⟨[0, 1], [], []⟩, [.t (.slc (.int .i64)), .t (.slc (.int .i64))], []⟩

noncomputable def racetreeref08_SameInts_os : List StSh := [⟨⟨[0], [], []⟩, [.t .bool], []⟩]

noncomputable def racetreeref08_SameInts_L : Nat → Option (Lift.Loop U) := fun n => none

noncomputable def racetreeref08_SameInts_enc : Nat → List (TV U) → Option (Bool)
  | 0, [⟨.bool, a0⟩] => some a0
  | _, _ => none

noncomputable def racetreeref08_SameInts_dec : Bool → Nat × List (TV U) := fun x => (0, [⟨.bool, x⟩])

noncomputable def racetreeref08_SameInts_tr : Bool → Tr (Nat × List (TV U)) := fun r => (fun x => .ret (0, [⟨.bool, x⟩])) r

noncomputable def racetreeref08_SameInts_md : Mode U := ⟨racetreeref08_SameInts_sh, [], racetreeref08_SameInts_os, fun ls => match ls with | [⟨(.slc (.int .i64)), a0⟩, ⟨(.slc (.int .i64)), a1⟩] => .get (racetreeref08_SameInts a0 a1) racetreeref08_SameInts_tr | _ => .fail⟩

theorem racetreeref08_SameInts_E (a0 : List (Int)) (a1 : List (Int)) : (Kit.withModes kk (modesOf ms15)).fnEval racetreeref08_SameInts_L Tryd.f18 racetreeref08_SameInts_sh racetreeref08_SameInts_os [⟨(.slc (.int .i64)), a0⟩, ⟨(.slc (.int .i64)), a1⟩] racetreeref08_SameInts_enc = racetreeref08_SameInts_f a0 a1 := by kernel_rfl

theorem racetreeref08_SameInts_post : ∀ ls j rs, (racetreeref08_SameInts_md.sum ls).val = some (j, rs) → FnPost kk env0 18 racetreeref08_SameInts_sh racetreeref08_SameInts_os ls j rs := by
  have inner : LoopsOk (Kit.withModes kk (modesOf ms15)) env0 Tryd.f18.ntmps racetreeref08_SameInts_L (bodyOf Tryd.f18) := by
    exact loopsOk_of (bs := []) (by kernel_rfl) trivial
  intro ls j rs h
  simp only [racetreeref08_SameInts_md] at h
  split at h
  · obtain ⟨r, hr, h⟩ := Tr.get_val h
    rw [racetreeref08_SameInts, sealF_eq] at hr
    have hd : racetreeref08_SameInts_dec r = (j, rs) := by
      exact Option.some.inj h
    refine FnPost.modes.1 (fn_sound (kitOk_of eqOk mixed known15) (by kernel_rfl) inner ((racetreeref08_SameInts_E _ _).trans hr) ?_)
    intro i qs he
    unfold racetreeref08_SameInts_enc at he
    split at he <;> cases he <;> (cases hd; exact ⟨rfl, rfl⟩)
  · cases h

noncomputable def ms16 : List (FuncId × Mode U) := (18, racetreeref08_SameInts_md) :: ms15

theorem known16 : Known kk env0 (modesOf ms16) := known_cons (by kernel_rfl) racetreeref08_SameInts_post known15

noncomputable def racetreelaw22_shown_sh : StSh := ⟨⟨[], [], []⟩, [], []⟩

noncomputable def racetreelaw22_shown_os : List StSh := [⟨⟨[0], [], []⟩, [.t .bool], []⟩]

noncomputable def racetreelaw22_shown_L : Nat → Option (Lift.Loop U) := fun n => none

noncomputable def racetreelaw22_shown_enc : Nat → List (TV U) → Option (Bool)
  | 0, [⟨.bool, a0⟩] => some a0
  | _, _ => none

noncomputable def racetreelaw22_shown_dec : Bool → Nat × List (TV U) := fun x => (0, [⟨.bool, x⟩])

noncomputable def racetreelaw22_shown_tr : Bool → Tr (Nat × List (TV U)) := fun r => (fun x => .ret (0, [⟨.bool, x⟩])) r

noncomputable def racetreelaw22_shown_md : Mode U := ⟨racetreelaw22_shown_sh, [], racetreelaw22_shown_os, fun ls => match ls with | [] => .get (racetreelaw22_shown) racetreelaw22_shown_tr | _ => .fail⟩

theorem racetreelaw22_shown_E : (Kit.withModes kk (modesOf ms16)).fnEval racetreelaw22_shown_L Tryd.f9 racetreelaw22_shown_sh racetreelaw22_shown_os [] racetreelaw22_shown_enc = racetreelaw22_shown_f := by kernel_rfl

theorem racetreelaw22_shown_post : ∀ ls j rs, (racetreelaw22_shown_md.sum ls).val = some (j, rs) → FnPost kk env0 9 racetreelaw22_shown_sh racetreelaw22_shown_os ls j rs := by
  have inner : LoopsOk (Kit.withModes kk (modesOf ms16)) env0 Tryd.f9.ntmps racetreelaw22_shown_L (bodyOf Tryd.f9) := by
    exact loopsOk_of (bs := []) (by kernel_rfl) trivial
  intro ls j rs h
  simp only [racetreelaw22_shown_md] at h
  split at h
  · obtain ⟨r, hr, h⟩ := Tr.get_val h
    rw [racetreelaw22_shown, sealF_eq] at hr
    have hd : racetreelaw22_shown_dec r = (j, rs) := by
      exact Option.some.inj h
    refine FnPost.modes.1 (fn_sound (kitOk_of eqOk mixed known16) (by kernel_rfl) inner ((racetreelaw22_shown_E).trans hr) ?_)
    intro i qs he
    unfold racetreelaw22_shown_enc at he
    split at he <;> cases he <;> (cases hd; exact ⟨rfl, rfl⟩)
  · cases h

noncomputable def ms17 : List (FuncId × Mode U) := (9, racetreelaw22_shown_md) :: ms16

theorem known17 : Known kk env0 (modesOf ms17) := known_cons (by kernel_rfl) racetreelaw22_shown_post known16

noncomputable def racetreelaw22_lent_sh : StSh := ⟨⟨[0], [], []⟩, [.t (.slc (.int .i64))], []⟩

noncomputable def racetreelaw22_lent_os : List StSh := [⟨⟨[0], [], [⟨.slot 0, 100000, 3, (.int .i64)⟩]⟩, [.oslc 100000], [.row 3 (.int .i64)]⟩]

noncomputable def racetreelaw22_lent_L : Nat → Option (Lift.Loop U) := fun n => none

noncomputable def racetreelaw22_lent_enc : Nat → List (TV U) → Option ((List (Int)))
  | 0, [⟨(.slc (.int .i64)), a0⟩] => some a0
  | _, _ => none

noncomputable def racetreelaw22_lent_dec : (List (Int)) → Nat × List (TV U) := fun x => (0, [⟨(.slc (.int .i64)), x⟩])

noncomputable def racetreelaw22_lent_tr : (List (Int)) → Tr (Nat × List (TV U)) := fun r => (fun x => .ret (0, [⟨(.slc (.int .i64)), x⟩])) r

noncomputable def racetreelaw22_lent_md : Mode U := ⟨racetreelaw22_lent_sh, [], racetreelaw22_lent_os, fun ls => match ls with | [⟨(.slc (.int .i64)), a0⟩] => .get (racetreelaw22_lent a0) racetreelaw22_lent_tr | _ => .fail⟩

theorem racetreelaw22_lent_E (a0 : List (Int)) : (Kit.withModes kk (modesOf ms17)).fnEval racetreelaw22_lent_L Tryd.f10 racetreelaw22_lent_sh racetreelaw22_lent_os [⟨(.slc (.int .i64)), a0⟩] racetreelaw22_lent_enc = racetreelaw22_lent_f a0 := by kernel_rfl

theorem racetreelaw22_lent_post : ∀ ls j rs, (racetreelaw22_lent_md.sum ls).val = some (j, rs) → FnPost kk env0 10 racetreelaw22_lent_sh racetreelaw22_lent_os ls j rs := by
  have inner : LoopsOk (Kit.withModes kk (modesOf ms17)) env0 Tryd.f10.ntmps racetreelaw22_lent_L (bodyOf Tryd.f10) := by
    exact loopsOk_of (bs := []) (by kernel_rfl) trivial
  intro ls j rs h
  simp only [racetreelaw22_lent_md] at h
  split at h
  · obtain ⟨r, hr, h⟩ := Tr.get_val h
    rw [racetreelaw22_lent, sealF_eq] at hr
    have hd : racetreelaw22_lent_dec r = (j, rs) := by
      exact Option.some.inj h
    refine FnPost.modes.1 (fn_sound (kitOk_of eqOk mixed known17) (by kernel_rfl) inner ((racetreelaw22_lent_E _).trans hr) ?_)
    intro i qs he
    unfold racetreelaw22_lent_enc at he
    split at he <;> cases he <;> (cases hd; exact ⟨rfl, rfl⟩)
  · cases h

noncomputable def ms18 : List (FuncId × Mode U) := (10, racetreelaw22_lent_md) :: ms17

theorem known18 : Known kk env0 (modesOf ms18) := known_cons (by kernel_rfl) racetreelaw22_lent_post known17

noncomputable def racetreeref22_may_sh4 : StSh := ⟨⟨[0, 3], [], []⟩, [.t (.slc (.int .i64)), .t (.int .i64)], []⟩

noncomputable def racetreeref22_may_o4 : List Out := [⟨.ret, ⟨⟨[2], [], []⟩, [.t (.int .i64)], []⟩⟩, ⟨.exit 0, ⟨⟨[], [], []⟩, [], []⟩⟩]

noncomputable def racetreeref22_may_b4 : Code := (nthLoop (bodyOf Tryd.f21) 0)

noncomputable def racetreeref22_may_L4 : Nat → Option (Lift.Loop U) := fun n => none

noncomputable def racetreeref22_may_rec4 (rec : List (Int) → Int → Option ((Int) ⊕ (Unit))) : List (TV U) → Option ((Int) ⊕ (Unit))
  | [⟨(.slc (.int .i64)), a0⟩, ⟨(.int .i64), a1⟩] => rec a0 a1
  | _ => none

noncomputable def racetreeref22_may_enc4 : Nat → List (TV U) → Option ((Int) ⊕ (Unit))
  | 0, [⟨(.int .i64), a0⟩] => some (.inl a0)
  | 1, [] => some (.inr ())
  | _, _ => none

noncomputable def racetreeref22_may_dec4 : (Int) ⊕ (Unit) → Nat × List (TV U) := fun r => match r with | (.inl x) => (0, [⟨(.int .i64), x⟩]) | (.inr x) => (1, [])

noncomputable def racetreeref22_may_tr4 : (Int) ⊕ (Unit) → Tr (Nat × List (TV U)) := fun r => .alt r (fun x => .ret (0, [⟨(.int .i64), x⟩])) (fun y => (fun x => .ret (1, [])) y)

noncomputable def racetreeref22_may_lp4 : Lift.Loop U := ⟨racetreeref22_may_sh4, racetreeref22_may_o4, fun ls => match ls with | [⟨(.slc (.int .i64)), a0⟩, ⟨(.int .i64), a1⟩] => .get (racetreeref22_may_l4 a0 a1) racetreeref22_may_tr4 | _ => .fail⟩

theorem racetreeref22_may_E4 (rec : List (Int) → Int → Option ((Int) ⊕ (Unit))) (a0 : List (Int)) (a1 : Int) : (Kit.withModes kk (modesOf ms18)).turn Tryd.f21.ntmps racetreeref22_may_L4 racetreeref22_may_sh4 racetreeref22_may_o4 racetreeref22_may_b4 [⟨(.slc (.int .i64)), a0⟩, ⟨(.int .i64), a1⟩] (racetreeref22_may_rec4 rec) racetreeref22_may_enc4 = racetreeref22_may_t4 rec a0 a1 := by kernel_rfl

theorem racetreeref22_may_ok4 : ∀ ls j rs, (racetreeref22_may_lp4.sum ls).val = some (j, rs) → RoundPost kk env0 Tryd.f21.ntmps racetreeref22_may_b4 racetreeref22_may_lp4.sh racetreeref22_may_lp4.outs ls j rs := by
  have inner : LoopsOk (Kit.withModes kk (modesOf ms18)) env0 Tryd.f21.ntmps racetreeref22_may_L4 racetreeref22_may_b4 := by
    exact loopsOk_of (bs := []) (by kernel_rfl) trivial
  have key : ∀ n a0 a1 r j rs, racetreeref22_may_i4 n a0 a1 = some r → racetreeref22_may_dec4 r = (j, rs) → RoundPost kk env0 Tryd.f21.ntmps racetreeref22_may_b4 racetreeref22_may_sh4 racetreeref22_may_o4 [⟨(.slc (.int .i64)), a0⟩, ⟨(.int .i64), a1⟩] j rs := by
    intro n
    induction n with
    | zero => intro a0 a1 r j rs h; cases h
    | succ n ih =>
      intro a0 a1 r j rs h hd
      refine RoundPost.modes.1 (turn_sound (kitOk_of eqOk mixed known18) inner ((racetreeref22_may_E4 (racetreeref22_may_i4 n) a0 a1).trans h) (fun q hq => RoundPost.modes.2 ?_) ?_)
      · unfold racetreeref22_may_rec4 at hq
        split at hq
        · exact ih _ _ r j rs hq hd
        · cases hq
      · intro i qs he
        unfold racetreeref22_may_enc4 at he
        split at he <;> cases he <;> (cases hd; exact ⟨rfl, rfl⟩)
  intro ls j rs h
  simp only [racetreeref22_may_lp4] at h
  split at h
  · obtain ⟨r, hr, h⟩ := Tr.get_val h
    rw [racetreeref22_may_l4, sealF_eq] at hr
    refine key fuel _ _ r j rs hr ?_
    rcases r with r | r <;> exact Option.some.inj h
  · cases h

noncomputable def racetreeref22_may_sh : StSh := ⟨⟨[0], [], []⟩, [.t (.slc (.int .i64))], []⟩

noncomputable def racetreeref22_may_os : List StSh := [⟨⟨[0], [], []⟩, [.t (.int .i64)], []⟩]

noncomputable def racetreeref22_may_L : Nat → Option (Lift.Loop U) := fun n => bif Nat.beq n 4 then some racetreeref22_may_lp4 else none

noncomputable def racetreeref22_may_enc : Nat → List (TV U) → Option (Int)
  | 0, [⟨(.int .i64), a0⟩] => some a0
  | _, _ => none

noncomputable def racetreeref22_may_dec : Int → Nat × List (TV U) := fun x => (0, [⟨(.int .i64), x⟩])

noncomputable def racetreeref22_may_tr : Int → Tr (Nat × List (TV U)) := fun r => (fun x => .ret (0, [⟨(.int .i64), x⟩])) r

noncomputable def racetreeref22_may_md : Mode U := ⟨racetreeref22_may_sh, [], racetreeref22_may_os, fun ls => match ls with | [⟨(.slc (.int .i64)), a0⟩] => .get (racetreeref22_may a0) racetreeref22_may_tr | _ => .fail⟩

theorem racetreeref22_may_E (a0 : List (Int)) : (Kit.withModes kk (modesOf ms18)).fnEval racetreeref22_may_L Tryd.f21 racetreeref22_may_sh racetreeref22_may_os [⟨(.slc (.int .i64)), a0⟩] racetreeref22_may_enc = racetreeref22_may_f a0 := by kernel_rfl

theorem racetreeref22_may_post : ∀ ls j rs, (racetreeref22_may_md.sum ls).val = some (j, rs) → FnPost kk env0 21 racetreeref22_may_sh racetreeref22_may_os ls j rs := by
  have inner : LoopsOk (Kit.withModes kk (modesOf ms18)) env0 Tryd.f21.ntmps racetreeref22_may_L (bodyOf Tryd.f21) := by
    exact loopsOk_of (bs := [racetreeref22_may_b4]) (by kernel_rfl) ⟨.inr ⟨_, by kernel_rfl, LoopOk.of_round racetreeref22_may_ok4⟩, trivial⟩
  intro ls j rs h
  simp only [racetreeref22_may_md] at h
  split at h
  · obtain ⟨r, hr, h⟩ := Tr.get_val h
    rw [racetreeref22_may, sealF_eq] at hr
    have hd : racetreeref22_may_dec r = (j, rs) := by
      exact Option.some.inj h
    refine FnPost.modes.1 (fn_sound (kitOk_of eqOk mixed known18) (by kernel_rfl) inner ((racetreeref22_may_E _).trans hr) ?_)
    intro i qs he
    unfold racetreeref22_may_enc at he
    split at he <;> cases he <;> (cases hd; exact ⟨rfl, rfl⟩)
  · cases h

noncomputable def ms19 : List (FuncId × Mode U) := (21, racetreeref22_may_md) :: ms18

theorem known19 : Known kk env0 (modesOf ms19) := known_cons (by kernel_rfl) racetreeref22_may_post known18

noncomputable def racetreeref22_runs_sh3 : StSh := ⟨⟨[0, 3, 4], [], [⟨.slot 3, 3, 47, (.st 47)⟩]⟩, [.t (.slc (.int .i64)), .oslc 3, .t (.int .i64)], [.row 47 (.st 47)]⟩

noncomputable def racetreeref22_runs_o3 : List Out := [⟨.exit 0, ⟨⟨[3], [], [⟨.slot 3, 3, 47, (.st 47)⟩]⟩, [.oslc 3], [.row 47 (.st 47)]⟩⟩]

noncomputable def racetreeref22_runs_b3 : Code := (nthLoop (bodyOf Tryd.f22) 0)

noncomputable def racetreeref22_runs_L3 : Nat → Option (Lift.Loop U) := fun n => none

noncomputable def racetreeref22_runs_rec3 (rec : List (Int) → Int → List (Run) → Option ((List (Run)))) : List (TV U) → Option ((List (Run)))
  | [⟨(.slc (.int .i64)), a0⟩, ⟨(.int .i64), a1⟩, ⟨(.slc (.st 47)), a2⟩] => rec a0 a1 a2
  | _ => none

noncomputable def racetreeref22_runs_enc3 : Nat → List (TV U) → Option ((List (Run)))
  | 0, [⟨(.slc (.st 47)), a0⟩] => some a0
  | _, _ => none

noncomputable def racetreeref22_runs_dec3 : (List (Run)) → Nat × List (TV U) := fun x => (0, [⟨(.slc (.st 47)), x⟩])

noncomputable def racetreeref22_runs_tr3 : (List (Run)) → Tr (Nat × List (TV U)) := fun r => (fun x => .ret (0, [⟨(.slc (.st 47)), x⟩])) r

noncomputable def racetreeref22_runs_lp3 : Lift.Loop U := ⟨racetreeref22_runs_sh3, racetreeref22_runs_o3, fun ls => match ls with | [⟨(.slc (.int .i64)), a0⟩, ⟨(.int .i64), a1⟩, ⟨(.slc (.st 47)), a2⟩] => .get (racetreeref22_runs_l3 a0 a1 a2) racetreeref22_runs_tr3 | _ => .fail⟩

theorem racetreeref22_runs_E3 (rec : List (Int) → Int → List (Run) → Option ((List (Run)))) (a0 : List (Int)) (a1 : Int) (a2 : List (Run)) : (Kit.withModes kk (modesOf ms19)).turn Tryd.f22.ntmps racetreeref22_runs_L3 racetreeref22_runs_sh3 racetreeref22_runs_o3 racetreeref22_runs_b3 [⟨(.slc (.int .i64)), a0⟩, ⟨(.int .i64), a1⟩, ⟨(.slc (.st 47)), a2⟩] (racetreeref22_runs_rec3 rec) racetreeref22_runs_enc3 = racetreeref22_runs_t3 rec a0 a1 a2 := by kernel_rfl

theorem racetreeref22_runs_ok3 : ∀ ls j rs, (racetreeref22_runs_lp3.sum ls).val = some (j, rs) → RoundPost kk env0 Tryd.f22.ntmps racetreeref22_runs_b3 racetreeref22_runs_lp3.sh racetreeref22_runs_lp3.outs ls j rs := by
  have inner : LoopsOk (Kit.withModes kk (modesOf ms19)) env0 Tryd.f22.ntmps racetreeref22_runs_L3 racetreeref22_runs_b3 := by
    exact loopsOk_of (bs := []) (by kernel_rfl) trivial
  have key : ∀ n a0 a1 a2 r j rs, racetreeref22_runs_i3 n a0 a1 a2 = some r → racetreeref22_runs_dec3 r = (j, rs) → RoundPost kk env0 Tryd.f22.ntmps racetreeref22_runs_b3 racetreeref22_runs_sh3 racetreeref22_runs_o3 [⟨(.slc (.int .i64)), a0⟩, ⟨(.int .i64), a1⟩, ⟨(.slc (.st 47)), a2⟩] j rs := by
    intro n
    induction n with
    | zero => intro a0 a1 a2 r j rs h; cases h
    | succ n ih =>
      intro a0 a1 a2 r j rs h hd
      refine RoundPost.modes.1 (turn_sound (kitOk_of eqOk mixed known19) inner ((racetreeref22_runs_E3 (racetreeref22_runs_i3 n) a0 a1 a2).trans h) (fun q hq => RoundPost.modes.2 ?_) ?_)
      · unfold racetreeref22_runs_rec3 at hq
        split at hq
        · exact ih _ _ _ r j rs hq hd
        · cases hq
      · intro i qs he
        unfold racetreeref22_runs_enc3 at he
        split at he <;> cases he <;> (cases hd; exact ⟨rfl, rfl⟩)
  intro ls j rs h
  simp only [racetreeref22_runs_lp3] at h
  split at h
  · obtain ⟨r, hr, h⟩ := Tr.get_val h
    rw [racetreeref22_runs_l3, sealF_eq] at hr
    refine key fuel _ _ _ r j rs hr ?_
    exact Option.some.inj h
  · cases h

noncomputable def racetreeref22_runs_sh : StSh := ⟨⟨[0], [], []⟩, [.t (.slc (.int .i64))], []⟩

noncomputable def racetreeref22_runs_os : List StSh := [⟨⟨[0], [], [⟨.slot 0, 100000, 47, (.st 47)⟩]⟩, [.oslc 100000], [.row 47 (.st 47)]⟩]

noncomputable def racetreeref22_runs_L : Nat → Option (Lift.Loop U) := fun n => bif Nat.beq n 3 then some racetreeref22_runs_lp3 else none

noncomputable def racetreeref22_runs_enc : Nat → List (TV U) → Option ((List (Run)))
  | 0, [⟨(.slc (.st 47)), a0⟩] => some a0
  | _, _ => none

noncomputable def racetreeref22_runs_dec : (List (Run)) → Nat × List (TV U) := fun x => (0, [⟨(.slc (.st 47)), x⟩])

noncomputable def racetreeref22_runs_tr : (List (Run)) → Tr (Nat × List (TV U)) := fun r => (fun x => .ret (0, [⟨(.slc (.st 47)), x⟩])) r

noncomputable def racetreeref22_runs_md : Mode U := ⟨racetreeref22_runs_sh, [], racetreeref22_runs_os, fun ls => match ls with | [⟨(.slc (.int .i64)), a0⟩] => .get (racetreeref22_runs a0) racetreeref22_runs_tr | _ => .fail⟩

theorem racetreeref22_runs_E (a0 : List (Int)) : (Kit.withModes kk (modesOf ms19)).fnEval racetreeref22_runs_L Tryd.f22 racetreeref22_runs_sh racetreeref22_runs_os [⟨(.slc (.int .i64)), a0⟩] racetreeref22_runs_enc = racetreeref22_runs_f a0 := by kernel_rfl

theorem racetreeref22_runs_post : ∀ ls j rs, (racetreeref22_runs_md.sum ls).val = some (j, rs) → FnPost kk env0 22 racetreeref22_runs_sh racetreeref22_runs_os ls j rs := by
  have inner : LoopsOk (Kit.withModes kk (modesOf ms19)) env0 Tryd.f22.ntmps racetreeref22_runs_L (bodyOf Tryd.f22) := by
    exact loopsOk_of (bs := [racetreeref22_runs_b3]) (by kernel_rfl) ⟨.inr ⟨_, by kernel_rfl, LoopOk.of_round racetreeref22_runs_ok3⟩, trivial⟩
  intro ls j rs h
  simp only [racetreeref22_runs_md] at h
  split at h
  · obtain ⟨r, hr, h⟩ := Tr.get_val h
    rw [racetreeref22_runs, sealF_eq] at hr
    have hd : racetreeref22_runs_dec r = (j, rs) := by
      exact Option.some.inj h
    refine FnPost.modes.1 (fn_sound (kitOk_of eqOk mixed known19) (by kernel_rfl) inner ((racetreeref22_runs_E _).trans hr) ?_)
    intro i qs he
    unfold racetreeref22_runs_enc at he
    split at he <;> cases he <;> (cases hd; exact ⟨rfl, rfl⟩)
  · cases h

noncomputable def ms20 : List (FuncId × Mode U) := (22, racetreeref22_runs_md) :: ms19

theorem known20 : Known kk env0 (modesOf ms20) := known_cons (by kernel_rfl) racetreeref22_runs_post known19

noncomputable def racetreeref05_Digits_sh5 : StSh := ⟨⟨[0, 3, 4], [], []⟩, [.t (.int .i64), .t (.int .u64), .t .str], []⟩

noncomputable def racetreeref05_Digits_o5 : List Out := [⟨.exit 0, ⟨⟨[0, 3, 4], [], []⟩, [.t (.int .i64), .t (.int .u64), .t .str], []⟩⟩]

noncomputable def racetreeref05_Digits_b5 : Code := (nthLoop (bodyOf Tryd.f23) 0)

noncomputable def racetreeref05_Digits_L5 : Nat → Option (Lift.Loop U) := fun n => none

noncomputable def racetreeref05_Digits_rec5 (rec : Int → Int → List UInt8 → Option (Int × Int × (List UInt8))) : List (TV U) → Option (Int × Int × (List UInt8))
  | [⟨(.int .i64), a0⟩, ⟨(.int .u64), a1⟩, ⟨.str, a2⟩] => rec a0 a1 a2
  | _ => none

noncomputable def racetreeref05_Digits_enc5 : Nat → List (TV U) → Option (Int × Int × (List UInt8))
  | 0, [⟨(.int .i64), a0⟩, ⟨(.int .u64), a1⟩, ⟨.str, a2⟩] => some (a0, a1, a2)
  | _, _ => none

noncomputable def racetreeref05_Digits_dec5 : Int × Int × (List UInt8) → Nat × List (TV U) := fun x => (0, [⟨(.int .i64), x.1⟩, ⟨(.int .u64), x.2.1⟩, ⟨.str, x.2.2⟩])

noncomputable def racetreeref05_Digits_tr5 : Int × Int × (List UInt8) → Tr (Nat × List (TV U)) := fun r => (fun x => .ret (0, [⟨(.int .i64), x.1⟩, ⟨(.int .u64), x.2.1⟩, ⟨.str, x.2.2⟩])) r

noncomputable def racetreeref05_Digits_lp5 : Lift.Loop U := ⟨racetreeref05_Digits_sh5, racetreeref05_Digits_o5, fun ls => match ls with | [⟨(.int .i64), a0⟩, ⟨(.int .u64), a1⟩, ⟨.str, a2⟩] => .get (racetreeref05_Digits_l5 a0 a1 a2) racetreeref05_Digits_tr5 | _ => .fail⟩

theorem racetreeref05_Digits_E5 (rec : Int → Int → List UInt8 → Option (Int × Int × (List UInt8))) (a0 : Int) (a1 : Int) (a2 : List UInt8) : (Kit.withModes kk (modesOf ms20)).turn Tryd.f23.ntmps racetreeref05_Digits_L5 racetreeref05_Digits_sh5 racetreeref05_Digits_o5 racetreeref05_Digits_b5 [⟨(.int .i64), a0⟩, ⟨(.int .u64), a1⟩, ⟨.str, a2⟩] (racetreeref05_Digits_rec5 rec) racetreeref05_Digits_enc5 = racetreeref05_Digits_t5 rec a0 a1 a2 := by kernel_rfl

theorem racetreeref05_Digits_ok5 : ∀ ls j rs, (racetreeref05_Digits_lp5.sum ls).val = some (j, rs) → RoundPost kk env0 Tryd.f23.ntmps racetreeref05_Digits_b5 racetreeref05_Digits_lp5.sh racetreeref05_Digits_lp5.outs ls j rs := by
  have inner : LoopsOk (Kit.withModes kk (modesOf ms20)) env0 Tryd.f23.ntmps racetreeref05_Digits_L5 racetreeref05_Digits_b5 := by
    exact loopsOk_of (bs := []) (by kernel_rfl) trivial
  have key : ∀ n a0 a1 a2 r j rs, racetreeref05_Digits_i5 n a0 a1 a2 = some r → racetreeref05_Digits_dec5 r = (j, rs) → RoundPost kk env0 Tryd.f23.ntmps racetreeref05_Digits_b5 racetreeref05_Digits_sh5 racetreeref05_Digits_o5 [⟨(.int .i64), a0⟩, ⟨(.int .u64), a1⟩, ⟨.str, a2⟩] j rs := by
    intro n
    induction n with
    | zero => intro a0 a1 a2 r j rs h; cases h
    | succ n ih =>
      intro a0 a1 a2 r j rs h hd
      refine RoundPost.modes.1 (turn_sound (kitOk_of eqOk mixed known20) inner ((racetreeref05_Digits_E5 (racetreeref05_Digits_i5 n) a0 a1 a2).trans h) (fun q hq => RoundPost.modes.2 ?_) ?_)
      · unfold racetreeref05_Digits_rec5 at hq
        split at hq
        · exact ih _ _ _ r j rs hq hd
        · cases hq
      · intro i qs he
        unfold racetreeref05_Digits_enc5 at he
        split at he <;> cases he <;> (cases hd; exact ⟨rfl, rfl⟩)
  intro ls j rs h
  simp only [racetreeref05_Digits_lp5] at h
  split at h
  · obtain ⟨r, hr, h⟩ := Tr.get_val h
    rw [racetreeref05_Digits_l5, sealF_eq] at hr
    refine key fuel _ _ _ r j rs hr ?_
    exact Option.some.inj h
  · cases h

noncomputable def racetreeref05_Digits_sh : StSh := ⟨⟨[0], [], []⟩, [.t (.int .i64)], []⟩

noncomputable def racetreeref05_Digits_os : List StSh := [⟨⟨[0], [], []⟩, [.t .str], []⟩]

noncomputable def racetreeref05_Digits_L : Nat → Option (Lift.Loop U) := fun n => bif Nat.beq n 5 then some racetreeref05_Digits_lp5 else none

noncomputable def racetreeref05_Digits_enc : Nat → List (TV U) → Option ((List UInt8))
  | 0, [⟨.str, a0⟩] => some a0
  | _, _ => none

noncomputable def racetreeref05_Digits_dec : (List UInt8) → Nat × List (TV U) := fun x => (0, [⟨.str, x⟩])

noncomputable def racetreeref05_Digits_tr : (List UInt8) → Tr (Nat × List (TV U)) := fun r => (fun x => .ret (0, [⟨.str, x⟩])) r

noncomputable def racetreeref05_Digits_md : Mode U := ⟨racetreeref05_Digits_sh, [], racetreeref05_Digits_os, fun ls => match ls with | [⟨(.int .i64), a0⟩] => .get (racetreeref05_Digits a0) racetreeref05_Digits_tr | _ => .fail⟩

theorem racetreeref05_Digits_E (a0 : Int) : (Kit.withModes kk (modesOf ms20)).fnEval racetreeref05_Digits_L Tryd.f23 racetreeref05_Digits_sh racetreeref05_Digits_os [⟨(.int .i64), a0⟩] racetreeref05_Digits_enc = racetreeref05_Digits_f a0 := by kernel_rfl

theorem racetreeref05_Digits_post : ∀ ls j rs, (racetreeref05_Digits_md.sum ls).val = some (j, rs) → FnPost kk env0 23 racetreeref05_Digits_sh racetreeref05_Digits_os ls j rs := by
  have inner : LoopsOk (Kit.withModes kk (modesOf ms20)) env0 Tryd.f23.ntmps racetreeref05_Digits_L (bodyOf Tryd.f23) := by
    exact loopsOk_of (bs := [racetreeref05_Digits_b5]) (by kernel_rfl) ⟨.inr ⟨_, by kernel_rfl, LoopOk.of_round racetreeref05_Digits_ok5⟩, trivial⟩
  intro ls j rs h
  simp only [racetreeref05_Digits_md] at h
  split at h
  · obtain ⟨r, hr, h⟩ := Tr.get_val h
    rw [racetreeref05_Digits, sealF_eq] at hr
    have hd : racetreeref05_Digits_dec r = (j, rs) := by
      exact Option.some.inj h
    refine FnPost.modes.1 (fn_sound (kitOk_of eqOk mixed known20) (by kernel_rfl) inner ((racetreeref05_Digits_E _).trans hr) ?_)
    intro i qs he
    unfold racetreeref05_Digits_enc at he
    split at he <;> cases he <;> (cases hd; exact ⟨rfl, rfl⟩)
  · cases h

noncomputable def ms21 : List (FuncId × Mode U) := (23, racetreeref05_Digits_md) :: ms20

theorem known21 : Known kk env0 (modesOf ms21) := known_cons (by kernel_rfl) racetreeref05_Digits_post known20

noncomputable def racetreeref22_Print_sh7 : StSh := ⟨⟨[5, 6, 7], [], [⟨.slot 5, 5, 47, (.st 47)⟩, ⟨.slot 6, 6, 5, (.int .u8)⟩]⟩, [.oslc 5, .oslc 6, .t (.int .i64)], [.row 47 (.st 47), .row 5 (.int .u8)]⟩

noncomputable def racetreeref22_Print_o7 : List Out := [⟨.exit 0, ⟨⟨[6], [], [⟨.slot 6, 6, 5, (.int .u8)⟩]⟩, [.oslc 6], [.row 5 (.int .u8)]⟩⟩]

noncomputable def racetreeref22_Print_b7 : Code := (nthLoop (bodyOf Tryd.f11) 0)

noncomputable def racetreeref22_Print_L7 : Nat → Option (Lift.Loop U) := fun n => none

noncomputable def racetreeref22_Print_rec7 (rec : Int → List (Run) → List (Int) → Option ((List (Int)))) : List (TV U) → Option ((List (Int)))
  | [⟨(.int .i64), a0⟩, ⟨(.slc (.st 47)), a1⟩, ⟨(.slc (.int .u8)), a2⟩] => rec a0 a1 a2
  | _ => none

noncomputable def racetreeref22_Print_enc7 : Nat → List (TV U) → Option ((List (Int)))
  | 0, [⟨(.slc (.int .u8)), a0⟩] => some a0
  | _, _ => none

noncomputable def racetreeref22_Print_dec7 : (List (Int)) → Nat × List (TV U) := fun x => (0, [⟨(.slc (.int .u8)), x⟩])

noncomputable def racetreeref22_Print_tr7 : (List (Int)) → Tr (Nat × List (TV U)) := fun r => (fun x => .ret (0, [⟨(.slc (.int .u8)), x⟩])) r

noncomputable def racetreeref22_Print_lp7 : Lift.Loop U := ⟨racetreeref22_Print_sh7, racetreeref22_Print_o7, fun ls => match ls with | [⟨(.int .i64), a0⟩, ⟨(.slc (.st 47)), a1⟩, ⟨(.slc (.int .u8)), a2⟩] => .get (racetreeref22_Print_l7 a0 a1 a2) racetreeref22_Print_tr7 | _ => .fail⟩

theorem racetreeref22_Print_E7 (rec : Int → List (Run) → List (Int) → Option ((List (Int)))) (a0 : Int) (a1 : List (Run)) (a2 : List (Int)) : (Kit.withModes kk (modesOf ms21)).turn Tryd.f11.ntmps racetreeref22_Print_L7 racetreeref22_Print_sh7 racetreeref22_Print_o7 racetreeref22_Print_b7 [⟨(.int .i64), a0⟩, ⟨(.slc (.st 47)), a1⟩, ⟨(.slc (.int .u8)), a2⟩] (racetreeref22_Print_rec7 rec) racetreeref22_Print_enc7 = racetreeref22_Print_t7 rec a0 a1 a2 := by kernel_rfl

theorem racetreeref22_Print_ok7 : ∀ ls j rs, (racetreeref22_Print_lp7.sum ls).val = some (j, rs) → RoundPost kk env0 Tryd.f11.ntmps racetreeref22_Print_b7 racetreeref22_Print_lp7.sh racetreeref22_Print_lp7.outs ls j rs := by
  have inner : LoopsOk (Kit.withModes kk (modesOf ms21)) env0 Tryd.f11.ntmps racetreeref22_Print_L7 racetreeref22_Print_b7 := by
    exact loopsOk_of (bs := []) (by kernel_rfl) trivial
  have key : ∀ n a0 a1 a2 r j rs, racetreeref22_Print_i7 n a0 a1 a2 = some r → racetreeref22_Print_dec7 r = (j, rs) → RoundPost kk env0 Tryd.f11.ntmps racetreeref22_Print_b7 racetreeref22_Print_sh7 racetreeref22_Print_o7 [⟨(.int .i64), a0⟩, ⟨(.slc (.st 47)), a1⟩, ⟨(.slc (.int .u8)), a2⟩] j rs := by
    intro n
    induction n with
    | zero => intro a0 a1 a2 r j rs h; cases h
    | succ n ih =>
      intro a0 a1 a2 r j rs h hd
      refine RoundPost.modes.1 (turn_sound (kitOk_of eqOk mixed known21) inner ((racetreeref22_Print_E7 (racetreeref22_Print_i7 n) a0 a1 a2).trans h) (fun q hq => RoundPost.modes.2 ?_) ?_)
      · unfold racetreeref22_Print_rec7 at hq
        split at hq
        · exact ih _ _ _ r j rs hq hd
        · cases hq
      · intro i qs he
        unfold racetreeref22_Print_enc7 at he
        split at he <;> cases he <;> (cases hd; exact ⟨rfl, rfl⟩)
  intro ls j rs h
  simp only [racetreeref22_Print_lp7] at h
  split at h
  · obtain ⟨r, hr, h⟩ := Tr.get_val h
    rw [racetreeref22_Print_l7, sealF_eq] at hr
    refine key fuel _ _ _ r j rs hr ?_
    exact Option.some.inj h
  · cases h

noncomputable def racetreeref22_Print_sh : StSh := ⟨⟨[0], [], []⟩, [.t (.slc (.int .i64))], []⟩

noncomputable def racetreeref22_Print_os : List StSh := [⟨⟨[0, 1], [], []⟩, [.t .str, .t (.int .i64)], []⟩]

noncomputable def racetreeref22_Print_L : Nat → Option (Lift.Loop U) := fun n => bif Nat.beq n 7 then some racetreeref22_Print_lp7 else none

noncomputable def racetreeref22_Print_enc : Nat → List (TV U) → Option ((List UInt8) × Int)
  | 0, [⟨.str, a0⟩, ⟨(.int .i64), a1⟩] => some (a0, a1)
  | _, _ => none

noncomputable def racetreeref22_Print_dec : (List UInt8) × Int → Nat × List (TV U) := fun x => (0, [⟨.str, x.1⟩, ⟨(.int .i64), x.2⟩])

noncomputable def racetreeref22_Print_tr : (List UInt8) × Int → Tr (Nat × List (TV U)) := fun r => (fun x => .ret (0, [⟨.str, x.1⟩, ⟨(.int .i64), x.2⟩])) r

noncomputable def racetreeref22_Print_md : Mode U := ⟨racetreeref22_Print_sh, [], racetreeref22_Print_os, fun ls => match ls with | [⟨(.slc (.int .i64)), a0⟩] => .get (racetreeref22_Print a0) racetreeref22_Print_tr | _ => .fail⟩

theorem racetreeref22_Print_E (a0 : List (Int)) : (Kit.withModes kk (modesOf ms21)).fnEval racetreeref22_Print_L Tryd.f11 racetreeref22_Print_sh racetreeref22_Print_os [⟨(.slc (.int .i64)), a0⟩] racetreeref22_Print_enc = racetreeref22_Print_f a0 := by kernel_rfl

theorem racetreeref22_Print_post : ∀ ls j rs, (racetreeref22_Print_md.sum ls).val = some (j, rs) → FnPost kk env0 11 racetreeref22_Print_sh racetreeref22_Print_os ls j rs := by
  have inner : LoopsOk (Kit.withModes kk (modesOf ms21)) env0 Tryd.f11.ntmps racetreeref22_Print_L (bodyOf Tryd.f11) := by
    exact loopsOk_of (bs := [racetreeref22_Print_b7]) (by kernel_rfl) ⟨.inr ⟨_, by kernel_rfl, LoopOk.of_round racetreeref22_Print_ok7⟩, trivial⟩
  intro ls j rs h
  simp only [racetreeref22_Print_md] at h
  split at h
  · obtain ⟨r, hr, h⟩ := Tr.get_val h
    rw [racetreeref22_Print, sealF_eq] at hr
    have hd : racetreeref22_Print_dec r = (j, rs) := by
      exact Option.some.inj h
    refine FnPost.modes.1 (fn_sound (kitOk_of eqOk mixed known21) (by kernel_rfl) inner ((racetreeref22_Print_E _).trans hr) ?_)
    intro i qs he
    unfold racetreeref22_Print_enc at he
    split at he <;> cases he <;> (cases hd; exact ⟨rfl, rfl⟩)
  · cases h

noncomputable def ms22 : List (FuncId × Mode U) := (11, racetreeref22_Print_md) :: ms21

theorem known22 : Known kk env0 (modesOf ms22) := known_cons (by kernel_rfl) racetreeref22_Print_post known21

noncomputable def racetreelaw22_stays_sh2 : StSh := ⟨⟨[0, 1, 5], [], []⟩, [.t (.slc (.int .i64)), .t (.slc (.int .i64)), .t (.int .i64)], []⟩

noncomputable def racetreelaw22_stays_o2 : List Out := [⟨.ret, ⟨⟨[4], [], []⟩, [.t .bool], []⟩⟩, ⟨.exit 0, ⟨⟨[0, 1], [], []⟩, [.t (.slc (.int .i64)), .t (.slc (.int .i64))], []⟩⟩]

noncomputable def racetreelaw22_stays_b2 : Code := (nthLoop (bodyOf Tryd.f13) 0)

noncomputable def racetreelaw22_stays_L2 : Nat → Option (Lift.Loop U) := fun n => none

noncomputable def racetreelaw22_stays_rec2 (rec : List (Int) → List (Int) → Int → Option ((Bool) ⊕ ((List (Int)) × (List (Int))))) : List (TV U) → Option ((Bool) ⊕ ((List (Int)) × (List (Int))))
  | [⟨(.slc (.int .i64)), a0⟩, ⟨(.slc (.int .i64)), a1⟩, ⟨(.int .i64), a2⟩] => rec a0 a1 a2
  | _ => none

noncomputable def racetreelaw22_stays_enc2 : Nat → List (TV U) → Option ((Bool) ⊕ ((List (Int)) × (List (Int))))
  | 0, [⟨.bool, a0⟩] => some (.inl a0)
  | 1, [⟨(.slc (.int .i64)), a0⟩, ⟨(.slc (.int .i64)), a1⟩] => some (.inr (a0, a1))
  | _, _ => none

noncomputable def racetreelaw22_stays_dec2 : (Bool) ⊕ ((List (Int)) × (List (Int))) → Nat × List (TV U) := fun r => match r with | (.inl x) => (0, [⟨.bool, x⟩]) | (.inr x) => (1, [⟨(.slc (.int .i64)), x.1⟩, ⟨(.slc (.int .i64)), x.2⟩])

noncomputable def racetreelaw22_stays_tr2 : (Bool) ⊕ ((List (Int)) × (List (Int))) → Tr (Nat × List (TV U)) := fun r => .alt r (fun x => .ret (0, [⟨.bool, x⟩])) (fun y => (fun x => .ret (1, [⟨(.slc (.int .i64)), x.1⟩, ⟨(.slc (.int .i64)), x.2⟩])) y)

noncomputable def racetreelaw22_stays_lp2 : Lift.Loop U := ⟨racetreelaw22_stays_sh2, racetreelaw22_stays_o2, fun ls => match ls with | [⟨(.slc (.int .i64)), a0⟩, ⟨(.slc (.int .i64)), a1⟩, ⟨(.int .i64), a2⟩] => .get (racetreelaw22_stays_l2 a0 a1 a2) racetreelaw22_stays_tr2 | _ => .fail⟩

theorem racetreelaw22_stays_E2 (rec : List (Int) → List (Int) → Int → Option ((Bool) ⊕ ((List (Int)) × (List (Int))))) (a0 : List (Int)) (a1 : List (Int)) (a2 : Int) : (Kit.withModes kk (modesOf ms22)).turn Tryd.f13.ntmps racetreelaw22_stays_L2 racetreelaw22_stays_sh2 racetreelaw22_stays_o2 racetreelaw22_stays_b2 [⟨(.slc (.int .i64)), a0⟩, ⟨(.slc (.int .i64)), a1⟩, ⟨(.int .i64), a2⟩] (racetreelaw22_stays_rec2 rec) racetreelaw22_stays_enc2 = racetreelaw22_stays_t2 rec a0 a1 a2 := by kernel_rfl

theorem racetreelaw22_stays_ok2 : ∀ ls j rs, (racetreelaw22_stays_lp2.sum ls).val = some (j, rs) → RoundPost kk env0 Tryd.f13.ntmps racetreelaw22_stays_b2 racetreelaw22_stays_lp2.sh racetreelaw22_stays_lp2.outs ls j rs := by
  have inner : LoopsOk (Kit.withModes kk (modesOf ms22)) env0 Tryd.f13.ntmps racetreelaw22_stays_L2 racetreelaw22_stays_b2 := by
    exact loopsOk_of (bs := []) (by kernel_rfl) trivial
  have key : ∀ n a0 a1 a2 r j rs, racetreelaw22_stays_i2 n a0 a1 a2 = some r → racetreelaw22_stays_dec2 r = (j, rs) → RoundPost kk env0 Tryd.f13.ntmps racetreelaw22_stays_b2 racetreelaw22_stays_sh2 racetreelaw22_stays_o2 [⟨(.slc (.int .i64)), a0⟩, ⟨(.slc (.int .i64)), a1⟩, ⟨(.int .i64), a2⟩] j rs := by
    intro n
    induction n with
    | zero => intro a0 a1 a2 r j rs h; cases h
    | succ n ih =>
      intro a0 a1 a2 r j rs h hd
      refine RoundPost.modes.1 (turn_sound (kitOk_of eqOk mixed known22) inner ((racetreelaw22_stays_E2 (racetreelaw22_stays_i2 n) a0 a1 a2).trans h) (fun q hq => RoundPost.modes.2 ?_) ?_)
      · unfold racetreelaw22_stays_rec2 at hq
        split at hq
        · exact ih _ _ _ r j rs hq hd
        · cases hq
      · intro i qs he
        unfold racetreelaw22_stays_enc2 at he
        split at he <;> cases he <;> (cases hd; exact ⟨rfl, rfl⟩)
  intro ls j rs h
  simp only [racetreelaw22_stays_lp2] at h
  split at h
  · obtain ⟨r, hr, h⟩ := Tr.get_val h
    rw [racetreelaw22_stays_l2, sealF_eq] at hr
    refine key fuel _ _ _ r j rs hr ?_
    rcases r with r | r <;> exact Option.some.inj h
  · cases h

noncomputable def racetreelaw22_stays_sh : StSh := ⟨⟨[0, 1], [], []⟩, [.t (.slc (.int .i64)), .t (.slc (.int .i64))], []⟩

noncomputable def racetreelaw22_stays_os : List StSh := [⟨⟨[0], [], []⟩, [.t .bool], []⟩]

noncomputable def racetreelaw22_stays_L : Nat → Option (Lift.Loop U) := fun n => bif Nat.beq n 2 then some racetreelaw22_stays_lp2 else none

noncomputable def racetreelaw22_stays_enc : Nat → List (TV U) → Option (Bool)
  | 0, [⟨.bool, a0⟩] => some a0
  | _, _ => none

noncomputable def racetreelaw22_stays_dec : Bool → Nat × List (TV U) := fun x => (0, [⟨.bool, x⟩])

noncomputable def racetreelaw22_stays_tr : Bool → Tr (Nat × List (TV U)) := fun r => (fun x => .ret (0, [⟨.bool, x⟩])) r

noncomputable def racetreelaw22_stays_md : Mode U := ⟨racetreelaw22_stays_sh, [], racetreelaw22_stays_os, fun ls => match ls with | [⟨(.slc (.int .i64)), a0⟩, ⟨(.slc (.int .i64)), a1⟩] => .get (racetreelaw22_stays a0 a1) racetreelaw22_stays_tr | _ => .fail⟩

theorem racetreelaw22_stays_E (a0 : List (Int)) (a1 : List (Int)) : (Kit.withModes kk (modesOf ms22)).fnEval racetreelaw22_stays_L Tryd.f13 racetreelaw22_stays_sh racetreelaw22_stays_os [⟨(.slc (.int .i64)), a0⟩, ⟨(.slc (.int .i64)), a1⟩] racetreelaw22_stays_enc = racetreelaw22_stays_f a0 a1 := by kernel_rfl

theorem racetreelaw22_stays_post : ∀ ls j rs, (racetreelaw22_stays_md.sum ls).val = some (j, rs) → FnPost kk env0 13 racetreelaw22_stays_sh racetreelaw22_stays_os ls j rs := by
  have inner : LoopsOk (Kit.withModes kk (modesOf ms22)) env0 Tryd.f13.ntmps racetreelaw22_stays_L (bodyOf Tryd.f13) := by
    exact loopsOk_of (bs := [racetreelaw22_stays_b2]) (by kernel_rfl) ⟨.inr ⟨_, by kernel_rfl, LoopOk.of_round racetreelaw22_stays_ok2⟩, trivial⟩
  intro ls j rs h
  simp only [racetreelaw22_stays_md] at h
  split at h
  · obtain ⟨r, hr, h⟩ := Tr.get_val h
    rw [racetreelaw22_stays, sealF_eq] at hr
    have hd : racetreelaw22_stays_dec r = (j, rs) := by
      exact Option.some.inj h
    refine FnPost.modes.1 (fn_sound (kitOk_of eqOk mixed known22) (by kernel_rfl) inner ((racetreelaw22_stays_E _ _).trans hr) ?_)
    intro i qs he
    unfold racetreelaw22_stays_enc at he
    split at he <;> cases he <;> (cases hd; exact ⟨rfl, rfl⟩)
  · cases h

noncomputable def ms23 : List (FuncId × Mode U) := (13, racetreelaw22_stays_md) :: ms22

theorem known23 : Known kk env0 (modesOf ms23) := known_cons (by kernel_rfl) racetreelaw22_stays_post known22

noncomputable def racetreelaw22_SchedPrints_sh : StSh := ⟨⟨[0], [], []⟩, [.t (.slc (.int .i64))], []⟩

noncomputable def racetreelaw22_SchedPrints_os : List StSh := [⟨⟨[0], [], []⟩, [.t .bool], []⟩]

noncomputable def racetreelaw22_SchedPrints_L : Nat → Option (Lift.Loop U) := fun n => none

noncomputable def racetreelaw22_SchedPrints_enc : Nat → List (TV U) → Option (Bool)
  | 0, [⟨.bool, a0⟩] => some a0
  | _, _ => none

noncomputable def racetreelaw22_SchedPrints_dec : Bool → Nat × List (TV U) := fun x => (0, [⟨.bool, x⟩])

noncomputable def racetreelaw22_SchedPrints_tr : Bool → Tr (Nat × List (TV U)) := fun r => (fun x => .ret (0, [⟨.bool, x⟩])) r

noncomputable def racetreelaw22_SchedPrints_md : Mode U := ⟨racetreelaw22_SchedPrints_sh, [], racetreelaw22_SchedPrints_os, fun ls => match ls with | [⟨(.slc (.int .i64)), a0⟩] => .get (racetreelaw22_SchedPrints a0) racetreelaw22_SchedPrints_tr | _ => .fail⟩

theorem racetreelaw22_SchedPrints_E (a0 : List (Int)) : (Kit.withModes kk (modesOf ms23)).fnEval racetreelaw22_SchedPrints_L Tryd.f3 racetreelaw22_SchedPrints_sh racetreelaw22_SchedPrints_os [⟨(.slc (.int .i64)), a0⟩] racetreelaw22_SchedPrints_enc = racetreelaw22_SchedPrints_f a0 := by kernel_rfl

theorem racetreelaw22_SchedPrints_post : ∀ ls j rs, (racetreelaw22_SchedPrints_md.sum ls).val = some (j, rs) → FnPost kk env0 3 racetreelaw22_SchedPrints_sh racetreelaw22_SchedPrints_os ls j rs := by
  have inner : LoopsOk (Kit.withModes kk (modesOf ms23)) env0 Tryd.f3.ntmps racetreelaw22_SchedPrints_L (bodyOf Tryd.f3) := by
    exact loopsOk_of (bs := []) (by kernel_rfl) trivial
  intro ls j rs h
  simp only [racetreelaw22_SchedPrints_md] at h
  split at h
  · obtain ⟨r, hr, h⟩ := Tr.get_val h
    rw [racetreelaw22_SchedPrints, sealF_eq] at hr
    have hd : racetreelaw22_SchedPrints_dec r = (j, rs) := by
      exact Option.some.inj h
    refine FnPost.modes.1 (fn_sound (kitOk_of eqOk mixed known23) (by kernel_rfl) inner ((racetreelaw22_SchedPrints_E _).trans hr) ?_)
    intro i qs he
    unfold racetreelaw22_SchedPrints_enc at he
    split at he <;> cases he <;> (cases hd; exact ⟨rfl, rfl⟩)
  · cases h

noncomputable def ms24 : List (FuncId × Mode U) := (3, racetreelaw22_SchedPrints_md) :: ms23

theorem known24 : Known kk env0 (modesOf ms24) := known_cons (by kernel_rfl) racetreelaw22_SchedPrints_post known23

noncomputable def racetreeref22_put_sh1 : StSh := ⟨⟨[0, 1], [], [⟨.slot 0, 0, 5, (.int .u8)⟩]⟩, [.oslc 0, .t (.int .i64)], [.row 5 (.int .u8)]⟩

noncomputable def racetreeref22_put_o1 : List Out := [⟨.exit 0, ⟨⟨[0, 1], [], [⟨.slot 0, 0, 5, (.int .u8)⟩]⟩, [.oslc 0, .t (.int .i64)], [.row 5 (.int .u8)]⟩⟩]

noncomputable def racetreeref22_put_b1 : Code := (nthLoop (bodyOf Tryd.f27) 0)

noncomputable def racetreeref22_put_L1 : Nat → Option (Lift.Loop U) := fun n => none

noncomputable def racetreeref22_put_rec1 (rec : Int → List (Int) → Option (Int × (List (Int)))) : List (TV U) → Option (Int × (List (Int)))
  | [⟨(.int .i64), a0⟩, ⟨(.slc (.int .u8)), a1⟩] => rec a0 a1
  | _ => none

noncomputable def racetreeref22_put_enc1 : Nat → List (TV U) → Option (Int × (List (Int)))
  | 0, [⟨(.int .i64), a0⟩, ⟨(.slc (.int .u8)), a1⟩] => some (a0, a1)
  | _, _ => none

noncomputable def racetreeref22_put_dec1 : Int × (List (Int)) → Nat × List (TV U) := fun x => (0, [⟨(.int .i64), x.1⟩, ⟨(.slc (.int .u8)), x.2⟩])

noncomputable def racetreeref22_put_tr1 : Int × (List (Int)) → Tr (Nat × List (TV U)) := fun r => (fun x => .ret (0, [⟨(.int .i64), x.1⟩, ⟨(.slc (.int .u8)), x.2⟩])) r

noncomputable def racetreeref22_put_lp1 : Lift.Loop U := ⟨racetreeref22_put_sh1, racetreeref22_put_o1, fun ls => match ls with | [⟨(.int .i64), a0⟩, ⟨(.slc (.int .u8)), a1⟩] => .get (racetreeref22_put_l1 a0 a1) racetreeref22_put_tr1 | _ => .fail⟩

theorem racetreeref22_put_E1 (rec : Int → List (Int) → Option (Int × (List (Int)))) (a0 : Int) (a1 : List (Int)) : (Kit.withModes kk (modesOf ms24)).turn Tryd.f27.ntmps racetreeref22_put_L1 racetreeref22_put_sh1 racetreeref22_put_o1 racetreeref22_put_b1 [⟨(.int .i64), a0⟩, ⟨(.slc (.int .u8)), a1⟩] (racetreeref22_put_rec1 rec) racetreeref22_put_enc1 = racetreeref22_put_t1 rec a0 a1 := by kernel_rfl

theorem racetreeref22_put_ok1 : ∀ ls j rs, (racetreeref22_put_lp1.sum ls).val = some (j, rs) → RoundPost kk env0 Tryd.f27.ntmps racetreeref22_put_b1 racetreeref22_put_lp1.sh racetreeref22_put_lp1.outs ls j rs := by
  have inner : LoopsOk (Kit.withModes kk (modesOf ms24)) env0 Tryd.f27.ntmps racetreeref22_put_L1 racetreeref22_put_b1 := by
    exact loopsOk_of (bs := []) (by kernel_rfl) trivial
  have key : ∀ n a0 a1 r j rs, racetreeref22_put_i1 n a0 a1 = some r → racetreeref22_put_dec1 r = (j, rs) → RoundPost kk env0 Tryd.f27.ntmps racetreeref22_put_b1 racetreeref22_put_sh1 racetreeref22_put_o1 [⟨(.int .i64), a0⟩, ⟨(.slc (.int .u8)), a1⟩] j rs := by
    intro n
    induction n with
    | zero => intro a0 a1 r j rs h; cases h
    | succ n ih =>
      intro a0 a1 r j rs h hd
      refine RoundPost.modes.1 (turn_sound (kitOk_of eqOk mixed known24) inner ((racetreeref22_put_E1 (racetreeref22_put_i1 n) a0 a1).trans h) (fun q hq => RoundPost.modes.2 ?_) ?_)
      · unfold racetreeref22_put_rec1 at hq
        split at hq
        · exact ih _ _ r j rs hq hd
        · cases hq
      · intro i qs he
        unfold racetreeref22_put_enc1 at he
        split at he <;> cases he <;> (cases hd; exact ⟨rfl, rfl⟩)
  intro ls j rs h
  simp only [racetreeref22_put_lp1] at h
  split at h
  · obtain ⟨r, hr, h⟩ := Tr.get_val h
    rw [racetreeref22_put_l1, sealF_eq] at hr
    refine key fuel _ _ r j rs hr ?_
    exact Option.some.inj h
  · cases h

noncomputable def racetreeref22_put_sh : StSh := ⟨⟨[0, 1], [], [⟨.slot 0, 0, 5, (.int .u8)⟩]⟩, [.oslc 0, .t (.int .i64)], [.row 5 (.int .u8)]⟩

noncomputable def racetreeref22_put_os : List StSh := [⟨⟨[0], [], [⟨.slot 0, 100000, 5, (.int .u8)⟩]⟩, [.oslc 100000], [.row 5 (.int .u8)]⟩]

noncomputable def racetreeref22_put_L : Nat → Option (Lift.Loop U) := fun n => bif Nat.beq n 1 then some racetreeref22_put_lp1 else none

noncomputable def racetreeref22_put_enc : Nat → List (TV U) → Option ((List (Int)))
  | 0, [⟨(.slc (.int .u8)), a0⟩] => some a0
  | _, _ => none

noncomputable def racetreeref22_put_dec : (List (Int)) → Nat × List (TV U) := fun x => (0, [⟨(.slc (.int .u8)), x⟩])

noncomputable def racetreeref22_put_tr : (List (Int)) → Tr (Nat × List (TV U)) := fun r => (fun x => .ret (0, [⟨(.slc (.int .u8)), x⟩])) r

noncomputable def racetreeref22_put_md : Mode U := ⟨racetreeref22_put_sh, [], racetreeref22_put_os, fun ls => match ls with | [⟨(.int .i64), a0⟩, ⟨(.slc (.int .u8)), a1⟩] => .get (racetreeref22_put a0 a1) racetreeref22_put_tr | _ => .fail⟩

theorem racetreeref22_put_E (a0 : Int) (a1 : List (Int)) : (Kit.withModes kk (modesOf ms24)).fnEval racetreeref22_put_L Tryd.f27 racetreeref22_put_sh racetreeref22_put_os [⟨(.int .i64), a0⟩, ⟨(.slc (.int .u8)), a1⟩] racetreeref22_put_enc = racetreeref22_put_f a0 a1 := by kernel_rfl

theorem racetreeref22_put_post : ∀ ls j rs, (racetreeref22_put_md.sum ls).val = some (j, rs) → FnPost kk env0 27 racetreeref22_put_sh racetreeref22_put_os ls j rs := by
  have inner : LoopsOk (Kit.withModes kk (modesOf ms24)) env0 Tryd.f27.ntmps racetreeref22_put_L (bodyOf Tryd.f27) := by
    exact loopsOk_of (bs := [racetreeref22_put_b1]) (by kernel_rfl) ⟨.inr ⟨_, by kernel_rfl, LoopOk.of_round racetreeref22_put_ok1⟩, trivial⟩
  intro ls j rs h
  simp only [racetreeref22_put_md] at h
  split at h
  · obtain ⟨r, hr, h⟩ := Tr.get_val h
    rw [racetreeref22_put, sealF_eq] at hr
    have hd : racetreeref22_put_dec r = (j, rs) := by
      exact Option.some.inj h
    refine FnPost.modes.1 (fn_sound (kitOk_of eqOk mixed known24) (by kernel_rfl) inner ((racetreeref22_put_E _ _).trans hr) ?_)
    intro i qs he
    unfold racetreeref22_put_enc at he
    split at he <;> cases he <;> (cases hd; exact ⟨rfl, rfl⟩)
  · cases h

noncomputable def ms25 : List (FuncId × Mode U) := (27, racetreeref22_put_md) :: ms24

theorem known25 : Known kk env0 (modesOf ms25) := known_cons (by kernel_rfl) racetreeref22_put_post known24

noncomputable def racetreeref22_Bytes_sh7 : StSh := ⟨⟨[5, 6, 7], [], [⟨.slot 5, 5, 47, (.st 47)⟩, ⟨.slot 6, 6, 5, (.int .u8)⟩]⟩, [.oslc 5, .oslc 6, .t (.int .i64)], [.row 47 (.st 47), .row 5 (.int .u8)]⟩

noncomputable def racetreeref22_Bytes_o7 : List Out := [⟨.exit 0, ⟨⟨[6], [], [⟨.slot 6, 6, 5, (.int .u8)⟩]⟩, [.oslc 6], [.row 5 (.int .u8)]⟩⟩]

noncomputable def racetreeref22_Bytes_b7 : Code := (nthLoop (bodyOf Tryd.f14) 0)

noncomputable def racetreeref22_Bytes_L7 : Nat → Option (Lift.Loop U) := fun n => none

noncomputable def racetreeref22_Bytes_rec7 (rec : Int → List (Run) → List (Int) → Option ((List (Int)))) : List (TV U) → Option ((List (Int)))
  | [⟨(.int .i64), a0⟩, ⟨(.slc (.st 47)), a1⟩, ⟨(.slc (.int .u8)), a2⟩] => rec a0 a1 a2
  | _ => none

noncomputable def racetreeref22_Bytes_enc7 : Nat → List (TV U) → Option ((List (Int)))
  | 0, [⟨(.slc (.int .u8)), a0⟩] => some a0
  | _, _ => none

noncomputable def racetreeref22_Bytes_dec7 : (List (Int)) → Nat × List (TV U) := fun x => (0, [⟨(.slc (.int .u8)), x⟩])

noncomputable def racetreeref22_Bytes_tr7 : (List (Int)) → Tr (Nat × List (TV U)) := fun r => (fun x => .ret (0, [⟨(.slc (.int .u8)), x⟩])) r

noncomputable def racetreeref22_Bytes_lp7 : Lift.Loop U := ⟨racetreeref22_Bytes_sh7, racetreeref22_Bytes_o7, fun ls => match ls with | [⟨(.int .i64), a0⟩, ⟨(.slc (.st 47)), a1⟩, ⟨(.slc (.int .u8)), a2⟩] => .get (racetreeref22_Bytes_l7 a0 a1 a2) racetreeref22_Bytes_tr7 | _ => .fail⟩

theorem racetreeref22_Bytes_E7 (rec : Int → List (Run) → List (Int) → Option ((List (Int)))) (a0 : Int) (a1 : List (Run)) (a2 : List (Int)) : (Kit.withModes kk (modesOf ms25)).turn Tryd.f14.ntmps racetreeref22_Bytes_L7 racetreeref22_Bytes_sh7 racetreeref22_Bytes_o7 racetreeref22_Bytes_b7 [⟨(.int .i64), a0⟩, ⟨(.slc (.st 47)), a1⟩, ⟨(.slc (.int .u8)), a2⟩] (racetreeref22_Bytes_rec7 rec) racetreeref22_Bytes_enc7 = racetreeref22_Bytes_t7 rec a0 a1 a2 := by kernel_rfl

theorem racetreeref22_Bytes_ok7 : ∀ ls j rs, (racetreeref22_Bytes_lp7.sum ls).val = some (j, rs) → RoundPost kk env0 Tryd.f14.ntmps racetreeref22_Bytes_b7 racetreeref22_Bytes_lp7.sh racetreeref22_Bytes_lp7.outs ls j rs := by
  have inner : LoopsOk (Kit.withModes kk (modesOf ms25)) env0 Tryd.f14.ntmps racetreeref22_Bytes_L7 racetreeref22_Bytes_b7 := by
    exact loopsOk_of (bs := []) (by kernel_rfl) trivial
  have key : ∀ n a0 a1 a2 r j rs, racetreeref22_Bytes_i7 n a0 a1 a2 = some r → racetreeref22_Bytes_dec7 r = (j, rs) → RoundPost kk env0 Tryd.f14.ntmps racetreeref22_Bytes_b7 racetreeref22_Bytes_sh7 racetreeref22_Bytes_o7 [⟨(.int .i64), a0⟩, ⟨(.slc (.st 47)), a1⟩, ⟨(.slc (.int .u8)), a2⟩] j rs := by
    intro n
    induction n with
    | zero => intro a0 a1 a2 r j rs h; cases h
    | succ n ih =>
      intro a0 a1 a2 r j rs h hd
      refine RoundPost.modes.1 (turn_sound (kitOk_of eqOk mixed known25) inner ((racetreeref22_Bytes_E7 (racetreeref22_Bytes_i7 n) a0 a1 a2).trans h) (fun q hq => RoundPost.modes.2 ?_) ?_)
      · unfold racetreeref22_Bytes_rec7 at hq
        split at hq
        · exact ih _ _ _ r j rs hq hd
        · cases hq
      · intro i qs he
        unfold racetreeref22_Bytes_enc7 at he
        split at he <;> cases he <;> (cases hd; exact ⟨rfl, rfl⟩)
  intro ls j rs h
  simp only [racetreeref22_Bytes_lp7] at h
  split at h
  · obtain ⟨r, hr, h⟩ := Tr.get_val h
    rw [racetreeref22_Bytes_l7, sealF_eq] at hr
    refine key fuel _ _ _ r j rs hr ?_
    exact Option.some.inj h
  · cases h

noncomputable def racetreeref22_Bytes_sh : StSh := ⟨⟨[0], [], []⟩, [.t (.slc (.int .i64))], []⟩

noncomputable def racetreeref22_Bytes_os : List StSh := [⟨⟨[0, 1], [], [⟨.slot 0, 100000, 5, (.int .u8)⟩]⟩, [.oslc 100000, .t (.int .i64)], [.row 5 (.int .u8)]⟩]

noncomputable def racetreeref22_Bytes_L : Nat → Option (Lift.Loop U) := fun n => bif Nat.beq n 7 then some racetreeref22_Bytes_lp7 else none

noncomputable def racetreeref22_Bytes_enc : Nat → List (TV U) → Option (Int × (List (Int)))
  | 0, [⟨(.int .i64), a0⟩, ⟨(.slc (.int .u8)), a1⟩] => some (a0, a1)
  | _, _ => none

noncomputable def racetreeref22_Bytes_dec : Int × (List (Int)) → Nat × List (TV U) := fun x => (0, [⟨(.int .i64), x.1⟩, ⟨(.slc (.int .u8)), x.2⟩])

noncomputable def racetreeref22_Bytes_tr : Int × (List (Int)) → Tr (Nat × List (TV U)) := fun r => (fun x => .ret (0, [⟨(.int .i64), x.1⟩, ⟨(.slc (.int .u8)), x.2⟩])) r

noncomputable def racetreeref22_Bytes_md : Mode U := ⟨racetreeref22_Bytes_sh, [], racetreeref22_Bytes_os, fun ls => match ls with | [⟨(.slc (.int .i64)), a0⟩] => .get (racetreeref22_Bytes a0) racetreeref22_Bytes_tr | _ => .fail⟩

theorem racetreeref22_Bytes_E (a0 : List (Int)) : (Kit.withModes kk (modesOf ms25)).fnEval racetreeref22_Bytes_L Tryd.f14 racetreeref22_Bytes_sh racetreeref22_Bytes_os [⟨(.slc (.int .i64)), a0⟩] racetreeref22_Bytes_enc = racetreeref22_Bytes_f a0 := by kernel_rfl

theorem racetreeref22_Bytes_post : ∀ ls j rs, (racetreeref22_Bytes_md.sum ls).val = some (j, rs) → FnPost kk env0 14 racetreeref22_Bytes_sh racetreeref22_Bytes_os ls j rs := by
  have inner : LoopsOk (Kit.withModes kk (modesOf ms25)) env0 Tryd.f14.ntmps racetreeref22_Bytes_L (bodyOf Tryd.f14) := by
    exact loopsOk_of (bs := [racetreeref22_Bytes_b7]) (by kernel_rfl) ⟨.inr ⟨_, by kernel_rfl, LoopOk.of_round racetreeref22_Bytes_ok7⟩, trivial⟩
  intro ls j rs h
  simp only [racetreeref22_Bytes_md] at h
  split at h
  · obtain ⟨r, hr, h⟩ := Tr.get_val h
    rw [racetreeref22_Bytes, sealF_eq] at hr
    have hd : racetreeref22_Bytes_dec r = (j, rs) := by
      exact Option.some.inj h
    refine FnPost.modes.1 (fn_sound (kitOk_of eqOk mixed known25) (by kernel_rfl) inner ((racetreeref22_Bytes_E _).trans hr) ?_)
    intro i qs he
    unfold racetreeref22_Bytes_enc at he
    split at he <;> cases he <;> (cases hd; exact ⟨rfl, rfl⟩)
  · cases h

noncomputable def ms26 : List (FuncId × Mode U) := (14, racetreeref22_Bytes_md) :: ms25

theorem known26 : Known kk env0 (modesOf ms26) := known_cons (by kernel_rfl) racetreeref22_Bytes_post known25

noncomputable def racetreelaw22_SchedBytes_sh7 : StSh := ⟨⟨[0, 3, 4, 5, 6, 7, 8, 9, 10], [], [⟨.slot 5, 5, 5, (.int .u8)⟩, ⟨.slot 7, 7, 5, (.int .u8)⟩]⟩, [.t (.slc (.int .i64)), .t .bool, .t (.slc (.int .i64)), .oslc 5, .t (.int .i64), .oslc 7, .t (.int .i64), .t .bool, .t (.int .i64)], [.row 5 (.int .u8), .row 5 (.int .u8)]⟩

noncomputable def racetreelaw22_SchedBytes_o7 : List Out := [⟨.exit 0, ⟨⟨[0, 3, 4, 5, 6, 7, 8, 9], [], [⟨.slot 5, 5, 5, (.int .u8)⟩, ⟨.slot 7, 7, 5, (.int .u8)⟩]⟩, [.t (.slc (.int .i64)), .t .bool, .t (.slc (.int .i64)), .oslc 5, .t (.int .i64), .oslc 7, .t (.int .i64), .t .bool], [.row 5 (.int .u8), .row 5 (.int .u8)]⟩⟩]

noncomputable def racetreelaw22_SchedBytes_b7 : Code := (nthLoop (bodyOf Tryd.f4) 0)

noncomputable def racetreelaw22_SchedBytes_L7 : Nat → Option (Lift.Loop U) := fun n => none

noncomputable def racetreelaw22_SchedBytes_rec7 (rec : List (Int) → Bool → List (Int) → Int → Int → Bool → Int → List (Int) → List (Int) → Option ((List (Int)) × Bool × (List (Int)) × Int × Int × Bool × (List (Int)) × (List (Int)))) : List (TV U) → Option ((List (Int)) × Bool × (List (Int)) × Int × Int × Bool × (List (Int)) × (List (Int)))
  | [⟨(.slc (.int .i64)), a0⟩, ⟨.bool, a1⟩, ⟨(.slc (.int .i64)), a2⟩, ⟨(.int .i64), a3⟩, ⟨(.int .i64), a4⟩, ⟨.bool, a5⟩, ⟨(.int .i64), a6⟩, ⟨(.slc (.int .u8)), a7⟩, ⟨(.slc (.int .u8)), a8⟩] => rec a0 a1 a2 a3 a4 a5 a6 a7 a8
  | _ => none

noncomputable def racetreelaw22_SchedBytes_enc7 : Nat → List (TV U) → Option ((List (Int)) × Bool × (List (Int)) × Int × Int × Bool × (List (Int)) × (List (Int)))
  | 0, [⟨(.slc (.int .i64)), a0⟩, ⟨.bool, a1⟩, ⟨(.slc (.int .i64)), a2⟩, ⟨(.int .i64), a3⟩, ⟨(.int .i64), a4⟩, ⟨.bool, a5⟩, ⟨(.slc (.int .u8)), a6⟩, ⟨(.slc (.int .u8)), a7⟩] => some (a0, a1, a2, a3, a4, a5, a6, a7)
  | _, _ => none

noncomputable def racetreelaw22_SchedBytes_dec7 : (List (Int)) × Bool × (List (Int)) × Int × Int × Bool × (List (Int)) × (List (Int)) → Nat × List (TV U) := fun x => (0, [⟨(.slc (.int .i64)), x.1⟩, ⟨.bool, x.2.1⟩, ⟨(.slc (.int .i64)), x.2.2.1⟩, ⟨(.int .i64), x.2.2.2.1⟩, ⟨(.int .i64), x.2.2.2.2.1⟩, ⟨.bool, x.2.2.2.2.2.1⟩, ⟨(.slc (.int .u8)), x.2.2.2.2.2.2.1⟩, ⟨(.slc (.int .u8)), x.2.2.2.2.2.2.2⟩])

noncomputable def racetreelaw22_SchedBytes_tr7 : (List (Int)) × Bool × (List (Int)) × Int × Int × Bool × (List (Int)) × (List (Int)) → Tr (Nat × List (TV U)) := fun r => (fun x => .ret (0, [⟨(.slc (.int .i64)), x.1⟩, ⟨.bool, x.2.1⟩, ⟨(.slc (.int .i64)), x.2.2.1⟩, ⟨(.int .i64), x.2.2.2.1⟩, ⟨(.int .i64), x.2.2.2.2.1⟩, ⟨.bool, x.2.2.2.2.2.1⟩, ⟨(.slc (.int .u8)), x.2.2.2.2.2.2.1⟩, ⟨(.slc (.int .u8)), x.2.2.2.2.2.2.2⟩])) r

noncomputable def racetreelaw22_SchedBytes_lp7 : Lift.Loop U := ⟨racetreelaw22_SchedBytes_sh7, racetreelaw22_SchedBytes_o7, fun ls => match ls with | [⟨(.slc (.int .i64)), a0⟩, ⟨.bool, a1⟩, ⟨(.slc (.int .i64)), a2⟩, ⟨(.int .i64), a3⟩, ⟨(.int .i64), a4⟩, ⟨.bool, a5⟩, ⟨(.int .i64), a6⟩, ⟨(.slc (.int .u8)), a7⟩, ⟨(.slc (.int .u8)), a8⟩] => .get (racetreelaw22_SchedBytes_l7 a0 a1 a2 a3 a4 a5 a6 a7 a8) racetreelaw22_SchedBytes_tr7 | _ => .fail⟩

theorem racetreelaw22_SchedBytes_E7 (rec : List (Int) → Bool → List (Int) → Int → Int → Bool → Int → List (Int) → List (Int) → Option ((List (Int)) × Bool × (List (Int)) × Int × Int × Bool × (List (Int)) × (List (Int)))) (a0 : List (Int)) (a1 : Bool) (a2 : List (Int)) (a3 : Int) (a4 : Int) (a5 : Bool) (a6 : Int) (a7 : List (Int)) (a8 : List (Int)) : (Kit.withModes kk (modesOf ms26)).turn Tryd.f4.ntmps racetreelaw22_SchedBytes_L7 racetreelaw22_SchedBytes_sh7 racetreelaw22_SchedBytes_o7 racetreelaw22_SchedBytes_b7 [⟨(.slc (.int .i64)), a0⟩, ⟨.bool, a1⟩, ⟨(.slc (.int .i64)), a2⟩, ⟨(.int .i64), a3⟩, ⟨(.int .i64), a4⟩, ⟨.bool, a5⟩, ⟨(.int .i64), a6⟩, ⟨(.slc (.int .u8)), a7⟩, ⟨(.slc (.int .u8)), a8⟩] (racetreelaw22_SchedBytes_rec7 rec) racetreelaw22_SchedBytes_enc7 = racetreelaw22_SchedBytes_t7 rec a0 a1 a2 a3 a4 a5 a6 a7 a8 := by kernel_rfl

theorem racetreelaw22_SchedBytes_ok7 : ∀ ls j rs, (racetreelaw22_SchedBytes_lp7.sum ls).val = some (j, rs) → RoundPost kk env0 Tryd.f4.ntmps racetreelaw22_SchedBytes_b7 racetreelaw22_SchedBytes_lp7.sh racetreelaw22_SchedBytes_lp7.outs ls j rs := by
  have inner : LoopsOk (Kit.withModes kk (modesOf ms26)) env0 Tryd.f4.ntmps racetreelaw22_SchedBytes_L7 racetreelaw22_SchedBytes_b7 := by
    exact loopsOk_of (bs := []) (by kernel_rfl) trivial
  have key : ∀ n a0 a1 a2 a3 a4 a5 a6 a7 a8 r j rs, racetreelaw22_SchedBytes_i7 n a0 a1 a2 a3 a4 a5 a6 a7 a8 = some r → racetreelaw22_SchedBytes_dec7 r = (j, rs) → RoundPost kk env0 Tryd.f4.ntmps racetreelaw22_SchedBytes_b7 racetreelaw22_SchedBytes_sh7 racetreelaw22_SchedBytes_o7 [⟨(.slc (.int .i64)), a0⟩, ⟨.bool, a1⟩, ⟨(.slc (.int .i64)), a2⟩, ⟨(.int .i64), a3⟩, ⟨(.int .i64), a4⟩, ⟨.bool, a5⟩, ⟨(.int .i64), a6⟩, ⟨(.slc (.int .u8)), a7⟩, ⟨(.slc (.int .u8)), a8⟩] j rs := by
    intro n
    induction n with
    | zero => intro a0 a1 a2 a3 a4 a5 a6 a7 a8 r j rs h; cases h
    | succ n ih =>
      intro a0 a1 a2 a3 a4 a5 a6 a7 a8 r j rs h hd
      refine RoundPost.modes.1 (turn_sound (kitOk_of eqOk mixed known26) inner ((racetreelaw22_SchedBytes_E7 (racetreelaw22_SchedBytes_i7 n) a0 a1 a2 a3 a4 a5 a6 a7 a8).trans h) (fun q hq => RoundPost.modes.2 ?_) ?_)
      · unfold racetreelaw22_SchedBytes_rec7 at hq
        split at hq
        · exact ih _ _ _ _ _ _ _ _ _ r j rs hq hd
        · cases hq
      · intro i qs he
        unfold racetreelaw22_SchedBytes_enc7 at he
        split at he <;> cases he <;> (cases hd; exact ⟨rfl, rfl⟩)
  intro ls j rs h
  simp only [racetreelaw22_SchedBytes_lp7] at h
  split at h
  · obtain ⟨r, hr, h⟩ := Tr.get_val h
    rw [racetreelaw22_SchedBytes_l7, sealF_eq] at hr
    refine key fuel _ _ _ _ _ _ _ _ _ r j rs hr ?_
    exact Option.some.inj h
  · cases h

noncomputable def racetreelaw22_SchedBytes_sh : StSh := ⟨⟨[0], [], []⟩, [.t (.slc (.int .i64))], []⟩

noncomputable def racetreelaw22_SchedBytes_os : List StSh := [⟨⟨[0], [], []⟩, [.t .bool], []⟩]

noncomputable def racetreelaw22_SchedBytes_L : Nat → Option (Lift.Loop U) := fun n => bif Nat.beq n 7 then some racetreelaw22_SchedBytes_lp7 else none

noncomputable def racetreelaw22_SchedBytes_enc : Nat → List (TV U) → Option (Bool)
  | 0, [⟨.bool, a0⟩] => some a0
  | _, _ => none

noncomputable def racetreelaw22_SchedBytes_dec : Bool → Nat × List (TV U) := fun x => (0, [⟨.bool, x⟩])

noncomputable def racetreelaw22_SchedBytes_tr : Bool → Tr (Nat × List (TV U)) := fun r => (fun x => .ret (0, [⟨.bool, x⟩])) r

noncomputable def racetreelaw22_SchedBytes_md : Mode U := ⟨racetreelaw22_SchedBytes_sh, [], racetreelaw22_SchedBytes_os, fun ls => match ls with | [⟨(.slc (.int .i64)), a0⟩] => .get (racetreelaw22_SchedBytes a0) racetreelaw22_SchedBytes_tr | _ => .fail⟩

theorem racetreelaw22_SchedBytes_E (a0 : List (Int)) : (Kit.withModes kk (modesOf ms26)).fnEval racetreelaw22_SchedBytes_L Tryd.f4 racetreelaw22_SchedBytes_sh racetreelaw22_SchedBytes_os [⟨(.slc (.int .i64)), a0⟩] racetreelaw22_SchedBytes_enc = racetreelaw22_SchedBytes_f a0 := by kernel_rfl

theorem racetreelaw22_SchedBytes_post : ∀ ls j rs, (racetreelaw22_SchedBytes_md.sum ls).val = some (j, rs) → FnPost kk env0 4 racetreelaw22_SchedBytes_sh racetreelaw22_SchedBytes_os ls j rs := by
  have inner : LoopsOk (Kit.withModes kk (modesOf ms26)) env0 Tryd.f4.ntmps racetreelaw22_SchedBytes_L (bodyOf Tryd.f4) := by
    exact loopsOk_of (bs := [racetreelaw22_SchedBytes_b7]) (by kernel_rfl) ⟨.inr ⟨_, by kernel_rfl, LoopOk.of_round racetreelaw22_SchedBytes_ok7⟩, trivial⟩
  intro ls j rs h
  simp only [racetreelaw22_SchedBytes_md] at h
  split at h
  · obtain ⟨r, hr, h⟩ := Tr.get_val h
    rw [racetreelaw22_SchedBytes, sealF_eq] at hr
    have hd : racetreelaw22_SchedBytes_dec r = (j, rs) := by
      exact Option.some.inj h
    refine FnPost.modes.1 (fn_sound (kitOk_of eqOk mixed known26) (by kernel_rfl) inner ((racetreelaw22_SchedBytes_E _).trans hr) ?_)
    intro i qs he
    unfold racetreelaw22_SchedBytes_enc at he
    split at he <;> cases he <;> (cases hd; exact ⟨rfl, rfl⟩)
  · cases h

noncomputable def ms27 : List (FuncId × Mode U) := (4, racetreelaw22_SchedBytes_md) :: ms26

theorem known27 : Known kk env0 (modesOf ms27) := known_cons (by kernel_rfl) racetreelaw22_SchedBytes_post known26

noncomputable def racetreeref10_Number_sh8 : StSh := ⟨⟨[0, 4, 5, 6], [], []⟩, [.t .str, .t .bool, .t (.int .i64), .t (.int .i64)], []⟩

noncomputable def racetreeref10_Number_o8 : List Out := [⟨.ret, ⟨⟨[2, 3], [], []⟩, [.t (.int .i64), .t .bool], []⟩⟩, ⟨.exit 0, ⟨⟨[4, 5], [], []⟩, [.t .bool, .t (.int .i64)], []⟩⟩]

noncomputable def racetreeref10_Number_b8 : Code := (nthLoop (bodyOf Tryd.f50) 0)

noncomputable def racetreeref10_Number_L8 : Nat → Option (Lift.Loop U) := fun n => none

noncomputable def racetreeref10_Number_rec8 (rec : List UInt8 → Bool → Int → Int → Option ((Int × Bool) ⊕ (Bool × Int))) : List (TV U) → Option ((Int × Bool) ⊕ (Bool × Int))
  | [⟨.str, a0⟩, ⟨.bool, a1⟩, ⟨(.int .i64), a2⟩, ⟨(.int .i64), a3⟩] => rec a0 a1 a2 a3
  | _ => none

noncomputable def racetreeref10_Number_enc8 : Nat → List (TV U) → Option ((Int × Bool) ⊕ (Bool × Int))
  | 0, [⟨(.int .i64), a0⟩, ⟨.bool, a1⟩] => some (.inl (a0, a1))
  | 1, [⟨.bool, a0⟩, ⟨(.int .i64), a1⟩] => some (.inr (a0, a1))
  | _, _ => none

noncomputable def racetreeref10_Number_dec8 : (Int × Bool) ⊕ (Bool × Int) → Nat × List (TV U) := fun r => match r with | (.inl x) => (0, [⟨(.int .i64), x.1⟩, ⟨.bool, x.2⟩]) | (.inr x) => (1, [⟨.bool, x.1⟩, ⟨(.int .i64), x.2⟩])

noncomputable def racetreeref10_Number_tr8 : (Int × Bool) ⊕ (Bool × Int) → Tr (Nat × List (TV U)) := fun r => .alt r (fun x => .ret (0, [⟨(.int .i64), x.1⟩, ⟨.bool, x.2⟩])) (fun y => (fun x => .ret (1, [⟨.bool, x.1⟩, ⟨(.int .i64), x.2⟩])) y)

noncomputable def racetreeref10_Number_lp8 : Lift.Loop U := ⟨racetreeref10_Number_sh8, racetreeref10_Number_o8, fun ls => match ls with | [⟨.str, a0⟩, ⟨.bool, a1⟩, ⟨(.int .i64), a2⟩, ⟨(.int .i64), a3⟩] => .get (racetreeref10_Number_l8 a0 a1 a2 a3) racetreeref10_Number_tr8 | _ => .fail⟩

theorem racetreeref10_Number_E8 (rec : List UInt8 → Bool → Int → Int → Option ((Int × Bool) ⊕ (Bool × Int))) (a0 : List UInt8) (a1 : Bool) (a2 : Int) (a3 : Int) : (Kit.withModes kk (modesOf ms27)).turn Tryd.f50.ntmps racetreeref10_Number_L8 racetreeref10_Number_sh8 racetreeref10_Number_o8 racetreeref10_Number_b8 [⟨.str, a0⟩, ⟨.bool, a1⟩, ⟨(.int .i64), a2⟩, ⟨(.int .i64), a3⟩] (racetreeref10_Number_rec8 rec) racetreeref10_Number_enc8 = racetreeref10_Number_t8 rec a0 a1 a2 a3 := by kernel_rfl

theorem racetreeref10_Number_ok8 : ∀ ls j rs, (racetreeref10_Number_lp8.sum ls).val = some (j, rs) → RoundPost kk env0 Tryd.f50.ntmps racetreeref10_Number_b8 racetreeref10_Number_lp8.sh racetreeref10_Number_lp8.outs ls j rs := by
  have inner : LoopsOk (Kit.withModes kk (modesOf ms27)) env0 Tryd.f50.ntmps racetreeref10_Number_L8 racetreeref10_Number_b8 := by
    exact loopsOk_of (bs := []) (by kernel_rfl) trivial
  have key : ∀ n a0 a1 a2 a3 r j rs, racetreeref10_Number_i8 n a0 a1 a2 a3 = some r → racetreeref10_Number_dec8 r = (j, rs) → RoundPost kk env0 Tryd.f50.ntmps racetreeref10_Number_b8 racetreeref10_Number_sh8 racetreeref10_Number_o8 [⟨.str, a0⟩, ⟨.bool, a1⟩, ⟨(.int .i64), a2⟩, ⟨(.int .i64), a3⟩] j rs := by
    intro n
    induction n with
    | zero => intro a0 a1 a2 a3 r j rs h; cases h
    | succ n ih =>
      intro a0 a1 a2 a3 r j rs h hd
      refine RoundPost.modes.1 (turn_sound (kitOk_of eqOk mixed known27) inner ((racetreeref10_Number_E8 (racetreeref10_Number_i8 n) a0 a1 a2 a3).trans h) (fun q hq => RoundPost.modes.2 ?_) ?_)
      · unfold racetreeref10_Number_rec8 at hq
        split at hq
        · exact ih _ _ _ _ r j rs hq hd
        · cases hq
      · intro i qs he
        unfold racetreeref10_Number_enc8 at he
        split at he <;> cases he <;> (cases hd; exact ⟨rfl, rfl⟩)
  intro ls j rs h
  simp only [racetreeref10_Number_lp8] at h
  split at h
  · obtain ⟨r, hr, h⟩ := Tr.get_val h
    rw [racetreeref10_Number_l8, sealF_eq] at hr
    refine key fuel _ _ _ _ r j rs hr ?_
    rcases r with r | r <;> exact Option.some.inj h
  · cases h

noncomputable def racetreeref10_Number_sh : StSh := ⟨⟨[0], [], []⟩, [.t .str], []⟩

noncomputable def racetreeref10_Number_os : List StSh := [⟨⟨[0, 1], [], []⟩, [.t (.int .i64), .t .bool], []⟩]

noncomputable def racetreeref10_Number_L : Nat → Option (Lift.Loop U) := fun n => bif Nat.beq n 8 then some racetreeref10_Number_lp8 else none

noncomputable def racetreeref10_Number_enc : Nat → List (TV U) → Option (Int × Bool)
  | 0, [⟨(.int .i64), a0⟩, ⟨.bool, a1⟩] => some (a0, a1)
  | _, _ => none

noncomputable def racetreeref10_Number_dec : Int × Bool → Nat × List (TV U) := fun x => (0, [⟨(.int .i64), x.1⟩, ⟨.bool, x.2⟩])

noncomputable def racetreeref10_Number_tr : Int × Bool → Tr (Nat × List (TV U)) := fun r => (fun x => .ret (0, [⟨(.int .i64), x.1⟩, ⟨.bool, x.2⟩])) r

noncomputable def racetreeref10_Number_md : Mode U := ⟨racetreeref10_Number_sh, [], racetreeref10_Number_os, fun ls => match ls with | [⟨.str, a0⟩] => .get (racetreeref10_Number a0) racetreeref10_Number_tr | _ => .fail⟩

theorem racetreeref10_Number_E (a0 : List UInt8) : (Kit.withModes kk (modesOf ms27)).fnEval racetreeref10_Number_L Tryd.f50 racetreeref10_Number_sh racetreeref10_Number_os [⟨.str, a0⟩] racetreeref10_Number_enc = racetreeref10_Number_f a0 := by kernel_rfl

theorem racetreeref10_Number_post : ∀ ls j rs, (racetreeref10_Number_md.sum ls).val = some (j, rs) → FnPost kk env0 50 racetreeref10_Number_sh racetreeref10_Number_os ls j rs := by
  have inner : LoopsOk (Kit.withModes kk (modesOf ms27)) env0 Tryd.f50.ntmps racetreeref10_Number_L (bodyOf Tryd.f50) := by
    exact loopsOk_of (bs := [racetreeref10_Number_b8]) (by kernel_rfl) ⟨.inr ⟨_, by kernel_rfl, LoopOk.of_round racetreeref10_Number_ok8⟩, trivial⟩
  intro ls j rs h
  simp only [racetreeref10_Number_md] at h
  split at h
  · obtain ⟨r, hr, h⟩ := Tr.get_val h
    rw [racetreeref10_Number, sealF_eq] at hr
    have hd : racetreeref10_Number_dec r = (j, rs) := by
      exact Option.some.inj h
    refine FnPost.modes.1 (fn_sound (kitOk_of eqOk mixed known27) (by kernel_rfl) inner ((racetreeref10_Number_E _).trans hr) ?_)
    intro i qs he
    unfold racetreeref10_Number_enc at he
    split at he <;> cases he <;> (cases hd; exact ⟨rfl, rfl⟩)
  · cases h

noncomputable def ms28 : List (FuncId × Mode U) := (50, racetreeref10_Number_md) :: ms27

theorem known28 : Known kk env0 (modesOf ms28) := known_cons (by kernel_rfl) racetreeref10_Number_post known27

noncomputable def racetreeref22_whole_sh : StSh := ⟨⟨[0, 1], [], []⟩, [.t .str, .t (.int .i64)], []⟩

noncomputable def racetreeref22_whole_os : List StSh := [⟨⟨[0, 1], [], []⟩, [.t (.int .i64), .t .bool], []⟩]

noncomputable def racetreeref22_whole_L : Nat → Option (Lift.Loop U) := fun n => none

noncomputable def racetreeref22_whole_enc : Nat → List (TV U) → Option (Int × Bool)
  | 0, [⟨(.int .i64), a0⟩, ⟨.bool, a1⟩] => some (a0, a1)
  | _, _ => none

noncomputable def racetreeref22_whole_dec : Int × Bool → Nat × List (TV U) := fun x => (0, [⟨(.int .i64), x.1⟩, ⟨.bool, x.2⟩])

noncomputable def racetreeref22_whole_tr : Int × Bool → Tr (Nat × List (TV U)) := fun r => (fun x => .ret (0, [⟨(.int .i64), x.1⟩, ⟨.bool, x.2⟩])) r

noncomputable def racetreeref22_whole_md : Mode U := ⟨racetreeref22_whole_sh, [], racetreeref22_whole_os, fun ls => match ls with | [⟨.str, a0⟩, ⟨(.int .i64), a1⟩] => .get (racetreeref22_whole a0 a1) racetreeref22_whole_tr | _ => .fail⟩

theorem racetreeref22_whole_E (a0 : List UInt8) (a1 : Int) : (Kit.withModes kk (modesOf ms28)).fnEval racetreeref22_whole_L Tryd.f42 racetreeref22_whole_sh racetreeref22_whole_os [⟨.str, a0⟩, ⟨(.int .i64), a1⟩] racetreeref22_whole_enc = racetreeref22_whole_f a0 a1 := by kernel_rfl

theorem racetreeref22_whole_post : ∀ ls j rs, (racetreeref22_whole_md.sum ls).val = some (j, rs) → FnPost kk env0 42 racetreeref22_whole_sh racetreeref22_whole_os ls j rs := by
  have inner : LoopsOk (Kit.withModes kk (modesOf ms28)) env0 Tryd.f42.ntmps racetreeref22_whole_L (bodyOf Tryd.f42) := by
    exact loopsOk_of (bs := []) (by kernel_rfl) trivial
  intro ls j rs h
  simp only [racetreeref22_whole_md] at h
  split at h
  · obtain ⟨r, hr, h⟩ := Tr.get_val h
    rw [racetreeref22_whole, sealF_eq] at hr
    have hd : racetreeref22_whole_dec r = (j, rs) := by
      exact Option.some.inj h
    refine FnPost.modes.1 (fn_sound (kitOk_of eqOk mixed known28) (by kernel_rfl) inner ((racetreeref22_whole_E _ _).trans hr) ?_)
    intro i qs he
    unfold racetreeref22_whole_enc at he
    split at he <;> cases he <;> (cases hd; exact ⟨rfl, rfl⟩)
  · cases h

noncomputable def ms29 : List (FuncId × Mode U) := (42, racetreeref22_whole_md) :: ms28

theorem known29 : Known kk env0 (modesOf ms29) := known_cons (by kernel_rfl) racetreeref22_whole_post known28

noncomputable def racetreeref22_field_sh2 : StSh := ⟨⟨[0, 2, 4], [2], []⟩, [.t .str, .ptr 2 0, .t (.int .i64)], [.blk 47 [.t (.int .i64), .t (.int .i64)]]⟩

noncomputable def racetreeref22_field_o2 : List Out := [⟨.ret, ⟨⟨[2, 3], [2], []⟩, [.ptr 2 0, .t .bool], [.blk 47 [.t (.int .i64), .t (.int .i64)]]⟩⟩, ⟨.exit 0, ⟨⟨[0, 2], [2], []⟩, [.t .str, .ptr 2 0], [.blk 47 [.t (.int .i64), .t (.int .i64)]]⟩⟩]

noncomputable def racetreeref22_field_b2 : Code := (nthLoop (bodyOf Tryd.f30) 0)

noncomputable def racetreeref22_field_L2 : Nat → Option (Lift.Loop U) := fun n => none

noncomputable def racetreeref22_field_rec2 (rec : List UInt8 → Int → Int → Int → Option ((Bool × Int × Int) ⊕ ((List UInt8) × Int × Int))) : List (TV U) → Option ((Bool × Int × Int) ⊕ ((List UInt8) × Int × Int))
  | [⟨.str, a0⟩, ⟨(.int .i64), a1⟩, ⟨(.int .i64), a2⟩, ⟨(.int .i64), a3⟩] => rec a0 a1 a2 a3
  | _ => none

noncomputable def racetreeref22_field_enc2 : Nat → List (TV U) → Option ((Bool × Int × Int) ⊕ ((List UInt8) × Int × Int))
  | 0, [⟨.bool, a0⟩, ⟨(.int .i64), a1⟩, ⟨(.int .i64), a2⟩] => some (.inl (a0, a1, a2))
  | 1, [⟨.str, a0⟩, ⟨(.int .i64), a1⟩, ⟨(.int .i64), a2⟩] => some (.inr (a0, a1, a2))
  | _, _ => none

noncomputable def racetreeref22_field_dec2 : (Bool × Int × Int) ⊕ ((List UInt8) × Int × Int) → Nat × List (TV U) := fun r => match r with | (.inl x) => (0, [⟨.bool, x.1⟩, ⟨(.int .i64), x.2.1⟩, ⟨(.int .i64), x.2.2⟩]) | (.inr x) => (1, [⟨.str, x.1⟩, ⟨(.int .i64), x.2.1⟩, ⟨(.int .i64), x.2.2⟩])

noncomputable def racetreeref22_field_tr2 : (Bool × Int × Int) ⊕ ((List UInt8) × Int × Int) → Tr (Nat × List (TV U)) := fun r => .alt r (fun x => .ret (0, [⟨.bool, x.1⟩, ⟨(.int .i64), x.2.1⟩, ⟨(.int .i64), x.2.2⟩])) (fun y => (fun x => .ret (1, [⟨.str, x.1⟩, ⟨(.int .i64), x.2.1⟩, ⟨(.int .i64), x.2.2⟩])) y)

noncomputable def racetreeref22_field_lp2 : Lift.Loop U := ⟨racetreeref22_field_sh2, racetreeref22_field_o2, fun ls => match ls with | [⟨.str, a0⟩, ⟨(.int .i64), a1⟩, ⟨(.int .i64), a2⟩, ⟨(.int .i64), a3⟩] => .get (racetreeref22_field_l2 a0 a1 a2 a3) racetreeref22_field_tr2 | _ => .fail⟩

theorem racetreeref22_field_E2 (rec : List UInt8 → Int → Int → Int → Option ((Bool × Int × Int) ⊕ ((List UInt8) × Int × Int))) (a0 : List UInt8) (a1 : Int) (a2 : Int) (a3 : Int) : (Kit.withModes kk (modesOf ms29)).turn Tryd.f30.ntmps racetreeref22_field_L2 racetreeref22_field_sh2 racetreeref22_field_o2 racetreeref22_field_b2 [⟨.str, a0⟩, ⟨(.int .i64), a1⟩, ⟨(.int .i64), a2⟩, ⟨(.int .i64), a3⟩] (racetreeref22_field_rec2 rec) racetreeref22_field_enc2 = racetreeref22_field_t2 rec a0 a1 a2 a3 := by kernel_rfl

theorem racetreeref22_field_ok2 : ∀ ls j rs, (racetreeref22_field_lp2.sum ls).val = some (j, rs) → RoundPost kk env0 Tryd.f30.ntmps racetreeref22_field_b2 racetreeref22_field_lp2.sh racetreeref22_field_lp2.outs ls j rs := by
  have inner : LoopsOk (Kit.withModes kk (modesOf ms29)) env0 Tryd.f30.ntmps racetreeref22_field_L2 racetreeref22_field_b2 := by
    exact loopsOk_of (bs := []) (by kernel_rfl) trivial
  have key : ∀ n a0 a1 a2 a3 r j rs, racetreeref22_field_i2 n a0 a1 a2 a3 = some r → racetreeref22_field_dec2 r = (j, rs) → RoundPost kk env0 Tryd.f30.ntmps racetreeref22_field_b2 racetreeref22_field_sh2 racetreeref22_field_o2 [⟨.str, a0⟩, ⟨(.int .i64), a1⟩, ⟨(.int .i64), a2⟩, ⟨(.int .i64), a3⟩] j rs := by
    intro n
    induction n with
    | zero => intro a0 a1 a2 a3 r j rs h; cases h
    | succ n ih =>
      intro a0 a1 a2 a3 r j rs h hd
      refine RoundPost.modes.1 (turn_sound (kitOk_of eqOk mixed known29) inner ((racetreeref22_field_E2 (racetreeref22_field_i2 n) a0 a1 a2 a3).trans h) (fun q hq => RoundPost.modes.2 ?_) ?_)
      · unfold racetreeref22_field_rec2 at hq
        split at hq
        · exact ih _ _ _ _ r j rs hq hd
        · cases hq
      · intro i qs he
        unfold racetreeref22_field_enc2 at he
        split at he <;> cases he <;> (cases hd; exact ⟨rfl, rfl⟩)
  intro ls j rs h
  simp only [racetreeref22_field_lp2] at h
  split at h
  · obtain ⟨r, hr, h⟩ := Tr.get_val h
    rw [racetreeref22_field_l2, sealF_eq] at hr
    refine key fuel _ _ _ _ r j rs hr ?_
    rcases r with r | r <;> exact Option.some.inj h
  · cases h

noncomputable def racetreeref22_field_sh : StSh := ⟨⟨[0], [], []⟩, [.t .str], []⟩

noncomputable def racetreeref22_field_os : List StSh := [⟨⟨[0, 1], [], []⟩, [.t (.st 47), .t .bool], []⟩]

noncomputable def racetreeref22_field_L : Nat → Option (Lift.Loop U) := fun n => bif Nat.beq n 2 then some racetreeref22_field_lp2 else none

noncomputable def racetreeref22_field_enc : Nat → List (TV U) → Option (Run × Bool)
  | 0, [⟨(.st 47), a0⟩, ⟨.bool, a1⟩] => some (a0, a1)
  | _, _ => none

noncomputable def racetreeref22_field_dec : Run × Bool → Nat × List (TV U) := fun x => (0, [⟨(.st 47), x.1⟩, ⟨.bool, x.2⟩])

noncomputable def racetreeref22_field_tr : Run × Bool → Tr (Nat × List (TV U)) := fun r => (fun x => .ret (0, [⟨(.st 47), x.1⟩, ⟨.bool, x.2⟩])) r

noncomputable def racetreeref22_field_md : Mode U := ⟨racetreeref22_field_sh, [], racetreeref22_field_os, fun ls => match ls with | [⟨.str, a0⟩] => .get (racetreeref22_field a0) racetreeref22_field_tr | _ => .fail⟩

theorem racetreeref22_field_E (a0 : List UInt8) : (Kit.withModes kk (modesOf ms29)).fnEval racetreeref22_field_L Tryd.f30 racetreeref22_field_sh racetreeref22_field_os [⟨.str, a0⟩] racetreeref22_field_enc = racetreeref22_field_f a0 := by kernel_rfl

theorem racetreeref22_field_post : ∀ ls j rs, (racetreeref22_field_md.sum ls).val = some (j, rs) → FnPost kk env0 30 racetreeref22_field_sh racetreeref22_field_os ls j rs := by
  have inner : LoopsOk (Kit.withModes kk (modesOf ms29)) env0 Tryd.f30.ntmps racetreeref22_field_L (bodyOf Tryd.f30) := by
    exact loopsOk_of (bs := [racetreeref22_field_b2]) (by kernel_rfl) ⟨.inr ⟨_, by kernel_rfl, LoopOk.of_round racetreeref22_field_ok2⟩, trivial⟩
  intro ls j rs h
  simp only [racetreeref22_field_md] at h
  split at h
  · obtain ⟨r, hr, h⟩ := Tr.get_val h
    rw [racetreeref22_field, sealF_eq] at hr
    have hd : racetreeref22_field_dec r = (j, rs) := by
      exact Option.some.inj h
    refine FnPost.modes.1 (fn_sound (kitOk_of eqOk mixed known29) (by kernel_rfl) inner ((racetreeref22_field_E _).trans hr) ?_)
    intro i qs he
    unfold racetreeref22_field_enc at he
    split at he <;> cases he <;> (cases hd; exact ⟨rfl, rfl⟩)
  · cases h

noncomputable def ms30 : List (FuncId × Mode U) := (30, racetreeref22_field_md) :: ms29

theorem known30 : Known kk env0 (modesOf ms30) := known_cons (by kernel_rfl) racetreeref22_field_post known29

noncomputable def racetreeref22_Read_sh5 : StSh := ⟨⟨[0, 3, 4, 5, 6], [3], [⟨.slot 4, 4, 3, (.int .i64)⟩]⟩, [.t .str, .ptr 3 0, .oslc 4, .t (.int .i64), .t (.int .i64)], [.blk 34 [.t (.int .i64), .t (.int .i64), .t .str], .row 3 (.int .i64)]⟩

noncomputable def racetreeref22_Read_o5 : List Out := [⟨.exit 2, ⟨⟨[0, 3, 4, 5, 6], [3], [⟨.slot 4, 4, 3, (.int .i64)⟩]⟩, [.t .str, .ptr 3 0, .oslc 4, .t (.int .i64), .t (.int .i64)], [.blk 34 [.t (.int .i64), .t (.int .i64), .t .str], .row 3 (.int .i64)]⟩⟩]

noncomputable def racetreeref22_Read_b5 : Code := (nthLoop (nthLoop (bodyOf Tryd.f16) 0) 0)

noncomputable def racetreeref22_Read_L5 : Nat → Option (Lift.Loop U) := fun n => none

noncomputable def racetreeref22_Read_rec5 (rec : List UInt8 → Int → Int → Int → Int → List UInt8 → List (Int) → Option ((List UInt8) × Int × Int × Int × Int × (List UInt8) × (List (Int)))) : List (TV U) → Option ((List UInt8) × Int × Int × Int × Int × (List UInt8) × (List (Int)))
  | [⟨.str, a0⟩, ⟨(.int .i64), a1⟩, ⟨(.int .i64), a2⟩, ⟨(.int .i64), a3⟩, ⟨(.int .i64), a4⟩, ⟨.str, a5⟩, ⟨(.slc (.int .i64)), a6⟩] => rec a0 a1 a2 a3 a4 a5 a6
  | _ => none

noncomputable def racetreeref22_Read_enc5 : Nat → List (TV U) → Option ((List UInt8) × Int × Int × Int × Int × (List UInt8) × (List (Int)))
  | 0, [⟨.str, a0⟩, ⟨(.int .i64), a1⟩, ⟨(.int .i64), a2⟩, ⟨(.int .i64), a3⟩, ⟨(.int .i64), a4⟩, ⟨.str, a5⟩, ⟨(.slc (.int .i64)), a6⟩] => some (a0, a1, a2, a3, a4, a5, a6)
  | _, _ => none

noncomputable def racetreeref22_Read_dec5 : (List UInt8) × Int × Int × Int × Int × (List UInt8) × (List (Int)) → Nat × List (TV U) := fun x => (0, [⟨.str, x.1⟩, ⟨(.int .i64), x.2.1⟩, ⟨(.int .i64), x.2.2.1⟩, ⟨(.int .i64), x.2.2.2.1⟩, ⟨(.int .i64), x.2.2.2.2.1⟩, ⟨.str, x.2.2.2.2.2.1⟩, ⟨(.slc (.int .i64)), x.2.2.2.2.2.2⟩])

noncomputable def racetreeref22_Read_tr5 : (List UInt8) × Int × Int × Int × Int × (List UInt8) × (List (Int)) → Tr (Nat × List (TV U)) := fun r => (fun x => .ret (0, [⟨.str, x.1⟩, ⟨(.int .i64), x.2.1⟩, ⟨(.int .i64), x.2.2.1⟩, ⟨(.int .i64), x.2.2.2.1⟩, ⟨(.int .i64), x.2.2.2.2.1⟩, ⟨.str, x.2.2.2.2.2.1⟩, ⟨(.slc (.int .i64)), x.2.2.2.2.2.2⟩])) r

noncomputable def racetreeref22_Read_lp5 : Lift.Loop U := ⟨racetreeref22_Read_sh5, racetreeref22_Read_o5, fun ls => match ls with | [⟨.str, a0⟩, ⟨(.int .i64), a1⟩, ⟨(.int .i64), a2⟩, ⟨(.int .i64), a3⟩, ⟨(.int .i64), a4⟩, ⟨.str, a5⟩, ⟨(.slc (.int .i64)), a6⟩] => .get (racetreeref22_Read_l5 a0 a1 a2 a3 a4 a5 a6) racetreeref22_Read_tr5 | _ => .fail⟩

theorem racetreeref22_Read_E5 (rec : List UInt8 → Int → Int → Int → Int → List UInt8 → List (Int) → Option ((List UInt8) × Int × Int × Int × Int × (List UInt8) × (List (Int)))) (a0 : List UInt8) (a1 : Int) (a2 : Int) (a3 : Int) (a4 : Int) (a5 : List UInt8) (a6 : List (Int)) : (Kit.withModes kk (modesOf ms30)).turn Tryd.f16.ntmps racetreeref22_Read_L5 racetreeref22_Read_sh5 racetreeref22_Read_o5 racetreeref22_Read_b5 [⟨.str, a0⟩, ⟨(.int .i64), a1⟩, ⟨(.int .i64), a2⟩, ⟨(.int .i64), a3⟩, ⟨(.int .i64), a4⟩, ⟨.str, a5⟩, ⟨(.slc (.int .i64)), a6⟩] (racetreeref22_Read_rec5 rec) racetreeref22_Read_enc5 = racetreeref22_Read_t5 rec a0 a1 a2 a3 a4 a5 a6 := by kernel_rfl

theorem racetreeref22_Read_ok5 : ∀ ls j rs, (racetreeref22_Read_lp5.sum ls).val = some (j, rs) → RoundPost kk env0 Tryd.f16.ntmps racetreeref22_Read_b5 racetreeref22_Read_lp5.sh racetreeref22_Read_lp5.outs ls j rs := by
  have inner : LoopsOk (Kit.withModes kk (modesOf ms30)) env0 Tryd.f16.ntmps racetreeref22_Read_L5 racetreeref22_Read_b5 := by
    exact loopsOk_of (bs := []) (by kernel_rfl) trivial
  have key : ∀ n a0 a1 a2 a3 a4 a5 a6 r j rs, racetreeref22_Read_i5 n a0 a1 a2 a3 a4 a5 a6 = some r → racetreeref22_Read_dec5 r = (j, rs) → RoundPost kk env0 Tryd.f16.ntmps racetreeref22_Read_b5 racetreeref22_Read_sh5 racetreeref22_Read_o5 [⟨.str, a0⟩, ⟨(.int .i64), a1⟩, ⟨(.int .i64), a2⟩, ⟨(.int .i64), a3⟩, ⟨(.int .i64), a4⟩, ⟨.str, a5⟩, ⟨(.slc (.int .i64)), a6⟩] j rs := by
    intro n
    induction n with
    | zero => intro a0 a1 a2 a3 a4 a5 a6 r j rs h; cases h
    | succ n ih =>
      intro a0 a1 a2 a3 a4 a5 a6 r j rs h hd
      refine RoundPost.modes.1 (turn_sound (kitOk_of eqOk mixed known30) inner ((racetreeref22_Read_E5 (racetreeref22_Read_i5 n) a0 a1 a2 a3 a4 a5 a6).trans h) (fun q hq => RoundPost.modes.2 ?_) ?_)
      · unfold racetreeref22_Read_rec5 at hq
        split at hq
        · exact ih _ _ _ _ _ _ _ r j rs hq hd
        · cases hq
      · intro i qs he
        unfold racetreeref22_Read_enc5 at he
        split at he <;> cases he <;> (cases hd; exact ⟨rfl, rfl⟩)
  intro ls j rs h
  simp only [racetreeref22_Read_lp5] at h
  split at h
  · obtain ⟨r, hr, h⟩ := Tr.get_val h
    rw [racetreeref22_Read_l5, sealF_eq] at hr
    refine key fuel _ _ _ _ _ _ _ r j rs hr ?_
    exact Option.some.inj h
  · cases h

noncomputable def racetreeref22_Read_sh13 : StSh := ⟨⟨[0, 3, 4, 6, 7, 9], [3, 7], [⟨.slot 4, 4, 3, (.int .i64)⟩]⟩, [.t .str, .ptr 3 0, .oslc 4, .t (.int .i64), .ptr 7 0, .t (.int .i64)], [.blk 34 [.t (.int .i64), .t (.int .i64), .t .str], .blk 47 [.t (.int .i64), .t (.int .i64)], .row 3 (.int .i64)]⟩

noncomputable def racetreeref22_Read_o13 : List Out := [⟨.exit 4, ⟨⟨[0, 3, 4, 6], [3], [⟨.slot 4, 4, 3, (.int .i64)⟩]⟩, [.t .str, .ptr 3 0, .oslc 4, .t (.int .i64)], [.blk 34 [.t (.int .i64), .t (.int .i64), .t .str], .row 3 (.int .i64)]⟩⟩]

noncomputable def racetreeref22_Read_b13 : Code := (nthLoop (nthLoop (bodyOf Tryd.f16) 0) 1)

noncomputable def racetreeref22_Read_L13 : Nat → Option (Lift.Loop U) := fun n => none

noncomputable def racetreeref22_Read_rec13 (rec : List UInt8 → Int → Int → Int → Int → List UInt8 → Int → Int → List (Int) → Option ((List UInt8) × Int × Int × Int × (List UInt8) × (List (Int)))) : List (TV U) → Option ((List UInt8) × Int × Int × Int × (List UInt8) × (List (Int)))
  | [⟨.str, a0⟩, ⟨(.int .i64), a1⟩, ⟨(.int .i64), a2⟩, ⟨(.int .i64), a3⟩, ⟨(.int .i64), a4⟩, ⟨.str, a5⟩, ⟨(.int .i64), a6⟩, ⟨(.int .i64), a7⟩, ⟨(.slc (.int .i64)), a8⟩] => rec a0 a1 a2 a3 a4 a5 a6 a7 a8
  | _ => none

noncomputable def racetreeref22_Read_enc13 : Nat → List (TV U) → Option ((List UInt8) × Int × Int × Int × (List UInt8) × (List (Int)))
  | 0, [⟨.str, a0⟩, ⟨(.int .i64), a1⟩, ⟨(.int .i64), a2⟩, ⟨(.int .i64), a3⟩, ⟨.str, a4⟩, ⟨(.slc (.int .i64)), a5⟩] => some (a0, a1, a2, a3, a4, a5)
  | _, _ => none

noncomputable def racetreeref22_Read_dec13 : (List UInt8) × Int × Int × Int × (List UInt8) × (List (Int)) → Nat × List (TV U) := fun x => (0, [⟨.str, x.1⟩, ⟨(.int .i64), x.2.1⟩, ⟨(.int .i64), x.2.2.1⟩, ⟨(.int .i64), x.2.2.2.1⟩, ⟨.str, x.2.2.2.2.1⟩, ⟨(.slc (.int .i64)), x.2.2.2.2.2⟩])

noncomputable def racetreeref22_Read_tr13 : (List UInt8) × Int × Int × Int × (List UInt8) × (List (Int)) → Tr (Nat × List (TV U)) := fun r => (fun x => .ret (0, [⟨.str, x.1⟩, ⟨(.int .i64), x.2.1⟩, ⟨(.int .i64), x.2.2.1⟩, ⟨(.int .i64), x.2.2.2.1⟩, ⟨.str, x.2.2.2.2.1⟩, ⟨(.slc (.int .i64)), x.2.2.2.2.2⟩])) r

noncomputable def racetreeref22_Read_lp13 : Lift.Loop U := ⟨racetreeref22_Read_sh13, racetreeref22_Read_o13, fun ls => match ls with | [⟨.str, a0⟩, ⟨(.int .i64), a1⟩, ⟨(.int .i64), a2⟩, ⟨(.int .i64), a3⟩, ⟨(.int .i64), a4⟩, ⟨.str, a5⟩, ⟨(.int .i64), a6⟩, ⟨(.int .i64), a7⟩, ⟨(.slc (.int .i64)), a8⟩] => .get (racetreeref22_Read_l13 a0 a1 a2 a3 a4 a5 a6 a7 a8) racetreeref22_Read_tr13 | _ => .fail⟩

theorem racetreeref22_Read_E13 (rec : List UInt8 → Int → Int → Int → Int → List UInt8 → Int → Int → List (Int) → Option ((List UInt8) × Int × Int × Int × (List UInt8) × (List (Int)))) (a0 : List UInt8) (a1 : Int) (a2 : Int) (a3 : Int) (a4 : Int) (a5 : List UInt8) (a6 : Int) (a7 : Int) (a8 : List (Int)) : (Kit.withModes kk (modesOf ms30)).turn Tryd.f16.ntmps racetreeref22_Read_L13 racetreeref22_Read_sh13 racetreeref22_Read_o13 racetreeref22_Read_b13 [⟨.str, a0⟩, ⟨(.int .i64), a1⟩, ⟨(.int .i64), a2⟩, ⟨(.int .i64), a3⟩, ⟨(.int .i64), a4⟩, ⟨.str, a5⟩, ⟨(.int .i64), a6⟩, ⟨(.int .i64), a7⟩, ⟨(.slc (.int .i64)), a8⟩] (racetreeref22_Read_rec13 rec) racetreeref22_Read_enc13 = racetreeref22_Read_t13 rec a0 a1 a2 a3 a4 a5 a6 a7 a8 := by kernel_rfl

theorem racetreeref22_Read_ok13 : ∀ ls j rs, (racetreeref22_Read_lp13.sum ls).val = some (j, rs) → RoundPost kk env0 Tryd.f16.ntmps racetreeref22_Read_b13 racetreeref22_Read_lp13.sh racetreeref22_Read_lp13.outs ls j rs := by
  have inner : LoopsOk (Kit.withModes kk (modesOf ms30)) env0 Tryd.f16.ntmps racetreeref22_Read_L13 racetreeref22_Read_b13 := by
    exact loopsOk_of (bs := []) (by kernel_rfl) trivial
  have key : ∀ n a0 a1 a2 a3 a4 a5 a6 a7 a8 r j rs, racetreeref22_Read_i13 n a0 a1 a2 a3 a4 a5 a6 a7 a8 = some r → racetreeref22_Read_dec13 r = (j, rs) → RoundPost kk env0 Tryd.f16.ntmps racetreeref22_Read_b13 racetreeref22_Read_sh13 racetreeref22_Read_o13 [⟨.str, a0⟩, ⟨(.int .i64), a1⟩, ⟨(.int .i64), a2⟩, ⟨(.int .i64), a3⟩, ⟨(.int .i64), a4⟩, ⟨.str, a5⟩, ⟨(.int .i64), a6⟩, ⟨(.int .i64), a7⟩, ⟨(.slc (.int .i64)), a8⟩] j rs := by
    intro n
    induction n with
    | zero => intro a0 a1 a2 a3 a4 a5 a6 a7 a8 r j rs h; cases h
    | succ n ih =>
      intro a0 a1 a2 a3 a4 a5 a6 a7 a8 r j rs h hd
      refine RoundPost.modes.1 (turn_sound (kitOk_of eqOk mixed known30) inner ((racetreeref22_Read_E13 (racetreeref22_Read_i13 n) a0 a1 a2 a3 a4 a5 a6 a7 a8).trans h) (fun q hq => RoundPost.modes.2 ?_) ?_)
      · unfold racetreeref22_Read_rec13 at hq
        split at hq
        · exact ih _ _ _ _ _ _ _ _ _ r j rs hq hd
        · cases hq
      · intro i qs he
        unfold racetreeref22_Read_enc13 at he
        split at he <;> cases he <;> (cases hd; exact ⟨rfl, rfl⟩)
  intro ls j rs h
  simp only [racetreeref22_Read_lp13] at h
  split at h
  · obtain ⟨r, hr, h⟩ := Tr.get_val h
    rw [racetreeref22_Read_l13, sealF_eq] at hr
    refine key fuel _ _ _ _ _ _ _ _ _ r j rs hr ?_
    exact Option.some.inj h
  · cases h

noncomputable def racetreeref22_Read_sh3 : StSh := ⟨⟨[0, 3, 4, 5], [3], [⟨.slot 4, 4, 3, (.int .i64)⟩]⟩, [.t .str, .ptr 3 0, .oslc 4, .t (.int .i64)], [.blk 34 [.t (.int .i64), .t (.int .i64), .t .str], .row 3 (.int .i64)]⟩

noncomputable def racetreeref22_Read_o3 : List Out := [⟨.ret, ⟨⟨[2, 3], [3], []⟩, [.nil, .ptr 3 0], [.blk 34 [.t (.int .i64), .t (.int .i64), .t .str]]⟩⟩, ⟨.exit 0, ⟨⟨[3, 4], [3], [⟨.slot 4, 4, 3, (.int .i64)⟩]⟩, [.ptr 3 0, .oslc 4], [.blk 34 [.t (.int .i64), .t (.int .i64), .t .str], .row 3 (.int .i64)]⟩⟩]

noncomputable def racetreeref22_Read_b3 : Code := (nthLoop (bodyOf Tryd.f16) 0)

noncomputable def racetreeref22_Read_L3 : Nat → Option (Lift.Loop U) := fun n => bif Nat.beq n 5 then some racetreeref22_Read_lp5 else bif Nat.beq n 13 then some racetreeref22_Read_lp13 else none

noncomputable def racetreeref22_Read_rec3 (rec : List UInt8 → Int → Int → Int → List UInt8 → List (Int) → Option ((Int × Int × (List UInt8)) ⊕ (Int × Int × (List UInt8) × (List (Int))))) : List (TV U) → Option ((Int × Int × (List UInt8)) ⊕ (Int × Int × (List UInt8) × (List (Int))))
  | [⟨.str, a0⟩, ⟨(.int .i64), a1⟩, ⟨(.int .i64), a2⟩, ⟨(.int .i64), a3⟩, ⟨.str, a4⟩, ⟨(.slc (.int .i64)), a5⟩] => rec a0 a1 a2 a3 a4 a5
  | _ => none

noncomputable def racetreeref22_Read_enc3 : Nat → List (TV U) → Option ((Int × Int × (List UInt8)) ⊕ (Int × Int × (List UInt8) × (List (Int))))
  | 0, [⟨(.int .i64), a0⟩, ⟨(.int .i64), a1⟩, ⟨.str, a2⟩] => some (.inl (a0, a1, a2))
  | 1, [⟨(.int .i64), a0⟩, ⟨(.int .i64), a1⟩, ⟨.str, a2⟩, ⟨(.slc (.int .i64)), a3⟩] => some (.inr (a0, a1, a2, a3))
  | _, _ => none

noncomputable def racetreeref22_Read_dec3 : (Int × Int × (List UInt8)) ⊕ (Int × Int × (List UInt8) × (List (Int))) → Nat × List (TV U) := fun r => match r with | (.inl x) => (0, [⟨(.int .i64), x.1⟩, ⟨(.int .i64), x.2.1⟩, ⟨.str, x.2.2⟩]) | (.inr x) => (1, [⟨(.int .i64), x.1⟩, ⟨(.int .i64), x.2.1⟩, ⟨.str, x.2.2.1⟩, ⟨(.slc (.int .i64)), x.2.2.2⟩])

noncomputable def racetreeref22_Read_tr3 : (Int × Int × (List UInt8)) ⊕ (Int × Int × (List UInt8) × (List (Int))) → Tr (Nat × List (TV U)) := fun r => .alt r (fun x => .ret (0, [⟨(.int .i64), x.1⟩, ⟨(.int .i64), x.2.1⟩, ⟨.str, x.2.2⟩])) (fun y => (fun x => .ret (1, [⟨(.int .i64), x.1⟩, ⟨(.int .i64), x.2.1⟩, ⟨.str, x.2.2.1⟩, ⟨(.slc (.int .i64)), x.2.2.2⟩])) y)

noncomputable def racetreeref22_Read_lp3 : Lift.Loop U := ⟨racetreeref22_Read_sh3, racetreeref22_Read_o3, fun ls => match ls with | [⟨.str, a0⟩, ⟨(.int .i64), a1⟩, ⟨(.int .i64), a2⟩, ⟨(.int .i64), a3⟩, ⟨.str, a4⟩, ⟨(.slc (.int .i64)), a5⟩] => .get (racetreeref22_Read_l3 a0 a1 a2 a3 a4 a5) racetreeref22_Read_tr3 | _ => .fail⟩

theorem racetreeref22_Read_E3 (rec : List UInt8 → Int → Int → Int → List UInt8 → List (Int) → Option ((Int × Int × (List UInt8)) ⊕ (Int × Int × (List UInt8) × (List (Int))))) (a0 : List UInt8) (a1 : Int) (a2 : Int) (a3 : Int) (a4 : List UInt8) (a5 : List (Int)) : (Kit.withModes kk (modesOf ms30)).turn Tryd.f16.ntmps racetreeref22_Read_L3 racetreeref22_Read_sh3 racetreeref22_Read_o3 racetreeref22_Read_b3 [⟨.str, a0⟩, ⟨(.int .i64), a1⟩, ⟨(.int .i64), a2⟩, ⟨(.int .i64), a3⟩, ⟨.str, a4⟩, ⟨(.slc (.int .i64)), a5⟩] (racetreeref22_Read_rec3 rec) racetreeref22_Read_enc3 = racetreeref22_Read_t3 rec a0 a1 a2 a3 a4 a5 := by kernel_rfl

theorem racetreeref22_Read_ok3 : ∀ ls j rs, (racetreeref22_Read_lp3.sum ls).val = some (j, rs) → RoundPost kk env0 Tryd.f16.ntmps racetreeref22_Read_b3 racetreeref22_Read_lp3.sh racetreeref22_Read_lp3.outs ls j rs := by
  have inner : LoopsOk (Kit.withModes kk (modesOf ms30)) env0 Tryd.f16.ntmps racetreeref22_Read_L3 racetreeref22_Read_b3 := by
    exact loopsOk_of (bs := [racetreeref22_Read_b5, racetreeref22_Read_b13]) (by kernel_rfl) ⟨.inr ⟨_, by kernel_rfl, LoopOk.of_round racetreeref22_Read_ok5⟩, .inr ⟨_, by kernel_rfl, LoopOk.of_round racetreeref22_Read_ok13⟩, trivial⟩
  have key : ∀ n a0 a1 a2 a3 a4 a5 r j rs, racetreeref22_Read_i3 n a0 a1 a2 a3 a4 a5 = some r → racetreeref22_Read_dec3 r = (j, rs) → RoundPost kk env0 Tryd.f16.ntmps racetreeref22_Read_b3 racetreeref22_Read_sh3 racetreeref22_Read_o3 [⟨.str, a0⟩, ⟨(.int .i64), a1⟩, ⟨(.int .i64), a2⟩, ⟨(.int .i64), a3⟩, ⟨.str, a4⟩, ⟨(.slc (.int .i64)), a5⟩] j rs := by
    intro n
    induction n with
    | zero => intro a0 a1 a2 a3 a4 a5 r j rs h; cases h
    | succ n ih =>
      intro a0 a1 a2 a3 a4 a5 r j rs h hd
      refine RoundPost.modes.1 (turn_sound (kitOk_of eqOk mixed known30) inner ((racetreeref22_Read_E3 (racetreeref22_Read_i3 n) a0 a1 a2 a3 a4 a5).trans h) (fun q hq => RoundPost.modes.2 ?_) ?_)
      · unfold racetreeref22_Read_rec3 at hq
        split at hq
        · exact ih _ _ _ _ _ _ r j rs hq hd
        · cases hq
      · intro i qs he
        unfold racetreeref22_Read_enc3 at he
        split at he <;> cases he <;> (cases hd; exact ⟨rfl, rfl⟩)
  intro ls j rs h
  simp only [racetreeref22_Read_lp3] at h
  split at h
  · obtain ⟨r, hr, h⟩ := Tr.get_val h
    rw [racetreeref22_Read_l3, sealF_eq] at hr
    refine key fuel _ _ _ _ _ _ r j rs hr ?_
    rcases r with r | r <;> exact Option.some.inj h
  · cases h

noncomputable def racetreeref22_Read_sh : StSh := ⟨⟨[0], [], []⟩, [.t .str], []⟩

noncomputable def racetreeref22_Read_os : List StSh := [⟨⟨[0, 1], [], [⟨.slot 0, 100000, 3, (.int .i64)⟩]⟩, [.oslc 100000, .t (.st 34)], [.row 3 (.int .i64)]⟩]

noncomputable def racetreeref22_Read_L : Nat → Option (Lift.Loop U) := fun n => bif Nat.beq n 3 then some racetreeref22_Read_lp3 else none

noncomputable def racetreeref22_Read_enc : Nat → List (TV U) → Option (Fault × (List (Int)))
  | 0, [⟨(.st 34), a0⟩, ⟨(.slc (.int .i64)), a1⟩] => some (a0, a1)
  | _, _ => none

noncomputable def racetreeref22_Read_dec : Fault × (List (Int)) → Nat × List (TV U) := fun x => (0, [⟨(.st 34), x.1⟩, ⟨(.slc (.int .i64)), x.2⟩])

noncomputable def racetreeref22_Read_tr : Fault × (List (Int)) → Tr (Nat × List (TV U)) := fun r => (fun x => .ret (0, [⟨(.st 34), x.1⟩, ⟨(.slc (.int .i64)), x.2⟩])) r

noncomputable def racetreeref22_Read_md : Mode U := ⟨racetreeref22_Read_sh, [], racetreeref22_Read_os, fun ls => match ls with | [⟨.str, a0⟩] => .get (racetreeref22_Read a0) racetreeref22_Read_tr | _ => .fail⟩

theorem racetreeref22_Read_E (a0 : List UInt8) : (Kit.withModes kk (modesOf ms30)).fnEval racetreeref22_Read_L Tryd.f16 racetreeref22_Read_sh racetreeref22_Read_os [⟨.str, a0⟩] racetreeref22_Read_enc = racetreeref22_Read_f a0 := by kernel_rfl

theorem racetreeref22_Read_post : ∀ ls j rs, (racetreeref22_Read_md.sum ls).val = some (j, rs) → FnPost kk env0 16 racetreeref22_Read_sh racetreeref22_Read_os ls j rs := by
  have inner : LoopsOk (Kit.withModes kk (modesOf ms30)) env0 Tryd.f16.ntmps racetreeref22_Read_L (bodyOf Tryd.f16) := by
    exact loopsOk_of (bs := [racetreeref22_Read_b3]) (by kernel_rfl) ⟨.inr ⟨_, by kernel_rfl, LoopOk.of_round racetreeref22_Read_ok3⟩, trivial⟩
  intro ls j rs h
  simp only [racetreeref22_Read_md] at h
  split at h
  · obtain ⟨r, hr, h⟩ := Tr.get_val h
    rw [racetreeref22_Read, sealF_eq] at hr
    have hd : racetreeref22_Read_dec r = (j, rs) := by
      exact Option.some.inj h
    refine FnPost.modes.1 (fn_sound (kitOk_of eqOk mixed known30) (by kernel_rfl) inner ((racetreeref22_Read_E _).trans hr) ?_)
    intro i qs he
    unfold racetreeref22_Read_enc at he
    split at he <;> cases he <;> (cases hd; exact ⟨rfl, rfl⟩)
  · cases h

noncomputable def ms31 : List (FuncId × Mode U) := (16, racetreeref22_Read_md) :: ms30

theorem known31 : Known kk env0 (modesOf ms31) := known_cons (by kernel_rfl) racetreeref22_Read_post known30

noncomputable def racetreelaw22_SchedReads_sh6 : StSh := ⟨⟨[0, 3, 4, 5, 6, 7, 8, 9], [5, 7], [⟨.slot 4, 4, 3, (.int .i64)⟩, ⟨.slot 6, 6, 3, (.int .i64)⟩]⟩, [.t .str, .t .bool, .oslc 4, .ptr 5 0, .oslc 6, .ptr 7 0, .t .bool, .t (.int .i64)], [.blk 34 [.t (.int .i64), .t (.int .i64), .t .str], .blk 34 [.t (.int .i64), .t (.int .i64), .t .str], .row 3 (.int .i64), .row 3 (.int .i64)]⟩

noncomputable def racetreelaw22_SchedReads_o6 : List Out := [⟨.exit 0, ⟨⟨[0, 3, 4, 5, 6, 7, 8], [5, 7], [⟨.slot 4, 4, 3, (.int .i64)⟩, ⟨.slot 6, 6, 3, (.int .i64)⟩]⟩, [.t .str, .t .bool, .oslc 4, .ptr 5 0, .oslc 6, .ptr 7 0, .t .bool], [.blk 34 [.t (.int .i64), .t (.int .i64), .t .str], .blk 34 [.t (.int .i64), .t (.int .i64), .t .str], .row 3 (.int .i64), .row 3 (.int .i64)]⟩⟩]

noncomputable def racetreelaw22_SchedReads_b6 : Code := (nthLoop (bodyOf Tryd.f5) 0)

noncomputable def racetreelaw22_SchedReads_L6 : Nat → Option (Lift.Loop U) := fun n => none

noncomputable def racetreelaw22_SchedReads_rec6 (rec : List UInt8 → Bool → Bool → Int → Int → Int → List UInt8 → Int → Int → List UInt8 → List (Int) → List (Int) → Option ((List UInt8) × Bool × Bool × Int × Int × (List UInt8) × Int × Int × (List UInt8) × (List (Int)) × (List (Int)))) : List (TV U) → Option ((List UInt8) × Bool × Bool × Int × Int × (List UInt8) × Int × Int × (List UInt8) × (List (Int)) × (List (Int)))
  | [⟨.str, a0⟩, ⟨.bool, a1⟩, ⟨.bool, a2⟩, ⟨(.int .i64), a3⟩, ⟨(.int .i64), a4⟩, ⟨(.int .i64), a5⟩, ⟨.str, a6⟩, ⟨(.int .i64), a7⟩, ⟨(.int .i64), a8⟩, ⟨.str, a9⟩, ⟨(.slc (.int .i64)), a10⟩, ⟨(.slc (.int .i64)), a11⟩] => rec a0 a1 a2 a3 a4 a5 a6 a7 a8 a9 a10 a11
  | _ => none

noncomputable def racetreelaw22_SchedReads_enc6 : Nat → List (TV U) → Option ((List UInt8) × Bool × Bool × Int × Int × (List UInt8) × Int × Int × (List UInt8) × (List (Int)) × (List (Int)))
  | 0, [⟨.str, a0⟩, ⟨.bool, a1⟩, ⟨.bool, a2⟩, ⟨(.int .i64), a3⟩, ⟨(.int .i64), a4⟩, ⟨.str, a5⟩, ⟨(.int .i64), a6⟩, ⟨(.int .i64), a7⟩, ⟨.str, a8⟩, ⟨(.slc (.int .i64)), a9⟩, ⟨(.slc (.int .i64)), a10⟩] => some (a0, a1, a2, a3, a4, a5, a6, a7, a8, a9, a10)
  | _, _ => none

noncomputable def racetreelaw22_SchedReads_dec6 : (List UInt8) × Bool × Bool × Int × Int × (List UInt8) × Int × Int × (List UInt8) × (List (Int)) × (List (Int)) → Nat × List (TV U) := fun x => (0, [⟨.str, x.1⟩, ⟨.bool, x.2.1⟩, ⟨.bool, x.2.2.1⟩, ⟨(.int .i64), x.2.2.2.1⟩, ⟨(.int .i64), x.2.2.2.2.1⟩, ⟨.str, x.2.2.2.2.2.1⟩, ⟨(.int .i64), x.2.2.2.2.2.2.1⟩, ⟨(.int .i64), x.2.2.2.2.2.2.2.1⟩, ⟨.str, x.2.2.2.2.2.2.2.2.1⟩, ⟨(.slc (.int .i64)), x.2.2.2.2.2.2.2.2.2.1⟩, ⟨(.slc (.int .i64)), x.2.2.2.2.2.2.2.2.2.2⟩])

noncomputable def racetreelaw22_SchedReads_tr6 : (List UInt8) × Bool × Bool × Int × Int × (List UInt8) × Int × Int × (List UInt8) × (List (Int)) × (List (Int)) → Tr (Nat × List (TV U)) := fun r => (fun x => .ret (0, [⟨.str, x.1⟩, ⟨.bool, x.2.1⟩, ⟨.bool, x.2.2.1⟩, ⟨(.int .i64), x.2.2.2.1⟩, ⟨(.int .i64), x.2.2.2.2.1⟩, ⟨.str, x.2.2.2.2.2.1⟩, ⟨(.int .i64), x.2.2.2.2.2.2.1⟩, ⟨(.int .i64), x.2.2.2.2.2.2.2.1⟩, ⟨.str, x.2.2.2.2.2.2.2.2.1⟩, ⟨(.slc (.int .i64)), x.2.2.2.2.2.2.2.2.2.1⟩, ⟨(.slc (.int .i64)), x.2.2.2.2.2.2.2.2.2.2⟩])) r

noncomputable def racetreelaw22_SchedReads_lp6 : Lift.Loop U := ⟨racetreelaw22_SchedReads_sh6, racetreelaw22_SchedReads_o6, fun ls => match ls with | [⟨.str, a0⟩, ⟨.bool, a1⟩, ⟨.bool, a2⟩, ⟨(.int .i64), a3⟩, ⟨(.int .i64), a4⟩, ⟨(.int .i64), a5⟩, ⟨.str, a6⟩, ⟨(.int .i64), a7⟩, ⟨(.int .i64), a8⟩, ⟨.str, a9⟩, ⟨(.slc (.int .i64)), a10⟩, ⟨(.slc (.int .i64)), a11⟩] => .get (racetreelaw22_SchedReads_l6 a0 a1 a2 a3 a4 a5 a6 a7 a8 a9 a10 a11) racetreelaw22_SchedReads_tr6 | _ => .fail⟩

theorem racetreelaw22_SchedReads_E6 (rec : List UInt8 → Bool → Bool → Int → Int → Int → List UInt8 → Int → Int → List UInt8 → List (Int) → List (Int) → Option ((List UInt8) × Bool × Bool × Int × Int × (List UInt8) × Int × Int × (List UInt8) × (List (Int)) × (List (Int)))) (a0 : List UInt8) (a1 : Bool) (a2 : Bool) (a3 : Int) (a4 : Int) (a5 : Int) (a6 : List UInt8) (a7 : Int) (a8 : Int) (a9 : List UInt8) (a10 : List (Int)) (a11 : List (Int)) : (Kit.withModes kk (modesOf ms31)).turn Tryd.f5.ntmps racetreelaw22_SchedReads_L6 racetreelaw22_SchedReads_sh6 racetreelaw22_SchedReads_o6 racetreelaw22_SchedReads_b6 [⟨.str, a0⟩, ⟨.bool, a1⟩, ⟨.bool, a2⟩, ⟨(.int .i64), a3⟩, ⟨(.int .i64), a4⟩, ⟨(.int .i64), a5⟩, ⟨.str, a6⟩, ⟨(.int .i64), a7⟩, ⟨(.int .i64), a8⟩, ⟨.str, a9⟩, ⟨(.slc (.int .i64)), a10⟩, ⟨(.slc (.int .i64)), a11⟩] (racetreelaw22_SchedReads_rec6 rec) racetreelaw22_SchedReads_enc6 = racetreelaw22_SchedReads_t6 rec a0 a1 a2 a3 a4 a5 a6 a7 a8 a9 a10 a11 := by kernel_rfl

theorem racetreelaw22_SchedReads_ok6 : ∀ ls j rs, (racetreelaw22_SchedReads_lp6.sum ls).val = some (j, rs) → RoundPost kk env0 Tryd.f5.ntmps racetreelaw22_SchedReads_b6 racetreelaw22_SchedReads_lp6.sh racetreelaw22_SchedReads_lp6.outs ls j rs := by
  have inner : LoopsOk (Kit.withModes kk (modesOf ms31)) env0 Tryd.f5.ntmps racetreelaw22_SchedReads_L6 racetreelaw22_SchedReads_b6 := by
    exact loopsOk_of (bs := []) (by kernel_rfl) trivial
  have key : ∀ n a0 a1 a2 a3 a4 a5 a6 a7 a8 a9 a10 a11 r j rs, racetreelaw22_SchedReads_i6 n a0 a1 a2 a3 a4 a5 a6 a7 a8 a9 a10 a11 = some r → racetreelaw22_SchedReads_dec6 r = (j, rs) → RoundPost kk env0 Tryd.f5.ntmps racetreelaw22_SchedReads_b6 racetreelaw22_SchedReads_sh6 racetreelaw22_SchedReads_o6 [⟨.str, a0⟩, ⟨.bool, a1⟩, ⟨.bool, a2⟩, ⟨(.int .i64), a3⟩, ⟨(.int .i64), a4⟩, ⟨(.int .i64), a5⟩, ⟨.str, a6⟩, ⟨(.int .i64), a7⟩, ⟨(.int .i64), a8⟩, ⟨.str, a9⟩, ⟨(.slc (.int .i64)), a10⟩, ⟨(.slc (.int .i64)), a11⟩] j rs := by
    intro n
    induction n with
    | zero => intro a0 a1 a2 a3 a4 a5 a6 a7 a8 a9 a10 a11 r j rs h; cases h
    | succ n ih =>
      intro a0 a1 a2 a3 a4 a5 a6 a7 a8 a9 a10 a11 r j rs h hd
      refine RoundPost.modes.1 (turn_sound (kitOk_of eqOk mixed known31) inner ((racetreelaw22_SchedReads_E6 (racetreelaw22_SchedReads_i6 n) a0 a1 a2 a3 a4 a5 a6 a7 a8 a9 a10 a11).trans h) (fun q hq => RoundPost.modes.2 ?_) ?_)
      · unfold racetreelaw22_SchedReads_rec6 at hq
        split at hq
        · exact ih _ _ _ _ _ _ _ _ _ _ _ _ r j rs hq hd
        · cases hq
      · intro i qs he
        unfold racetreelaw22_SchedReads_enc6 at he
        split at he <;> cases he <;> (cases hd; exact ⟨rfl, rfl⟩)
  intro ls j rs h
  simp only [racetreelaw22_SchedReads_lp6] at h
  split at h
  · obtain ⟨r, hr, h⟩ := Tr.get_val h
    rw [racetreelaw22_SchedReads_l6, sealF_eq] at hr
    refine key fuel _ _ _ _ _ _ _ _ _ _ _ _ r j rs hr ?_
    exact Option.some.inj h
  · cases h

noncomputable def racetreelaw22_SchedReads_sh : StSh := ⟨⟨[0], [], []⟩, [.t .str], []⟩

noncomputable def racetreelaw22_SchedReads_os : List StSh := [⟨⟨[0], [], []⟩, [.t .bool], []⟩]

noncomputable def racetreelaw22_SchedReads_L : Nat → Option (Lift.Loop U) := fun n => bif Nat.beq n 6 then some racetreelaw22_SchedReads_lp6 else none

noncomputable def racetreelaw22_SchedReads_enc : Nat → List (TV U) → Option (Bool)
  | 0, [⟨.bool, a0⟩] => some a0
  | _, _ => none

noncomputable def racetreelaw22_SchedReads_dec : Bool → Nat × List (TV U) := fun x => (0, [⟨.bool, x⟩])

noncomputable def racetreelaw22_SchedReads_tr : Bool → Tr (Nat × List (TV U)) := fun r => (fun x => .ret (0, [⟨.bool, x⟩])) r

noncomputable def racetreelaw22_SchedReads_md : Mode U := ⟨racetreelaw22_SchedReads_sh, [], racetreelaw22_SchedReads_os, fun ls => match ls with | [⟨.str, a0⟩] => .get (racetreelaw22_SchedReads a0) racetreelaw22_SchedReads_tr | _ => .fail⟩

theorem racetreelaw22_SchedReads_E (a0 : List UInt8) : (Kit.withModes kk (modesOf ms31)).fnEval racetreelaw22_SchedReads_L Tryd.f5 racetreelaw22_SchedReads_sh racetreelaw22_SchedReads_os [⟨.str, a0⟩] racetreelaw22_SchedReads_enc = racetreelaw22_SchedReads_f a0 := by kernel_rfl

theorem racetreelaw22_SchedReads_post : ∀ ls j rs, (racetreelaw22_SchedReads_md.sum ls).val = some (j, rs) → FnPost kk env0 5 racetreelaw22_SchedReads_sh racetreelaw22_SchedReads_os ls j rs := by
  have inner : LoopsOk (Kit.withModes kk (modesOf ms31)) env0 Tryd.f5.ntmps racetreelaw22_SchedReads_L (bodyOf Tryd.f5) := by
    exact loopsOk_of (bs := [racetreelaw22_SchedReads_b6]) (by kernel_rfl) ⟨.inr ⟨_, by kernel_rfl, LoopOk.of_round racetreelaw22_SchedReads_ok6⟩, trivial⟩
  intro ls j rs h
  simp only [racetreelaw22_SchedReads_md] at h
  split at h
  · obtain ⟨r, hr, h⟩ := Tr.get_val h
    rw [racetreelaw22_SchedReads, sealF_eq] at hr
    have hd : racetreelaw22_SchedReads_dec r = (j, rs) := by
      exact Option.some.inj h
    refine FnPost.modes.1 (fn_sound (kitOk_of eqOk mixed known31) (by kernel_rfl) inner ((racetreelaw22_SchedReads_E _).trans hr) ?_)
    intro i qs he
    unfold racetreelaw22_SchedReads_enc at he
    split at he <;> cases he <;> (cases hd; exact ⟨rfl, rfl⟩)
  · cases h

noncomputable def ms32 : List (FuncId × Mode U) := (5, racetreelaw22_SchedReads_md) :: ms31

theorem known32 : Known kk env0 (modesOf ms32) := known_cons (by kernel_rfl) racetreelaw22_SchedReads_post known31

noncomputable def racetreeref22_reader_number_sh4 : StSh := ⟨⟨[0, 1, 5, 6, 7], [100000], []⟩, [.ptr 100000 0, .t (.int .i64), .t (.int .i64), .t (.int .i64), .t (.int .i64)], [.blk 67 [.t (.slc (.int .u8)), .t (.int .i64), .t .bool]]⟩

noncomputable def racetreeref22_reader_number_o4 : List Out := [⟨.exit 0, ⟨⟨[0], [100000], []⟩, [.ptr 100000 0], [.blk 67 [.t (.slc (.int .u8)), .t (.int .i64), .t .bool]]⟩⟩, ⟨.ret, ⟨⟨[4], [100000], []⟩, [.t (.int .i64)], [.blk 67 [.t (.slc (.int .u8)), .t (.int .i64), .t .bool]]⟩⟩]

noncomputable def racetreeref22_reader_number_b4 : Code := (nthLoop (bodyOf Tryd.f36) 0)

noncomputable def racetreeref22_reader_number_L4 : Nat → Option (Lift.Loop U) := fun n => none

noncomputable def racetreeref22_reader_number_rec4 (rec : Int → Int → Int → Int → List (Int) → Int → Bool → Option (((List (Int)) × Int × Bool) ⊕ (Int × (List (Int)) × Int × Bool))) : List (TV U) → Option (((List (Int)) × Int × Bool) ⊕ (Int × (List (Int)) × Int × Bool))
  | [⟨(.int .i64), a0⟩, ⟨(.int .i64), a1⟩, ⟨(.int .i64), a2⟩, ⟨(.int .i64), a3⟩, ⟨(.slc (.int .u8)), a4⟩, ⟨(.int .i64), a5⟩, ⟨.bool, a6⟩] => rec a0 a1 a2 a3 a4 a5 a6
  | _ => none

noncomputable def racetreeref22_reader_number_enc4 : Nat → List (TV U) → Option (((List (Int)) × Int × Bool) ⊕ (Int × (List (Int)) × Int × Bool))
  | 0, [⟨(.slc (.int .u8)), a0⟩, ⟨(.int .i64), a1⟩, ⟨.bool, a2⟩] => some (.inl (a0, a1, a2))
  | 1, [⟨(.int .i64), a0⟩, ⟨(.slc (.int .u8)), a1⟩, ⟨(.int .i64), a2⟩, ⟨.bool, a3⟩] => some (.inr (a0, a1, a2, a3))
  | _, _ => none

noncomputable def racetreeref22_reader_number_dec4 : ((List (Int)) × Int × Bool) ⊕ (Int × (List (Int)) × Int × Bool) → Nat × List (TV U) := fun r => match r with | (.inl x) => (0, [⟨(.slc (.int .u8)), x.1⟩, ⟨(.int .i64), x.2.1⟩, ⟨.bool, x.2.2⟩]) | (.inr x) => (1, [⟨(.int .i64), x.1⟩, ⟨(.slc (.int .u8)), x.2.1⟩, ⟨(.int .i64), x.2.2.1⟩, ⟨.bool, x.2.2.2⟩])

noncomputable def racetreeref22_reader_number_tr4 : ((List (Int)) × Int × Bool) ⊕ (Int × (List (Int)) × Int × Bool) → Tr (Nat × List (TV U)) := fun r => .alt r (fun x => .ret (0, [⟨(.slc (.int .u8)), x.1⟩, ⟨(.int .i64), x.2.1⟩, ⟨.bool, x.2.2⟩])) (fun y => (fun x => .ret (1, [⟨(.int .i64), x.1⟩, ⟨(.slc (.int .u8)), x.2.1⟩, ⟨(.int .i64), x.2.2.1⟩, ⟨.bool, x.2.2.2⟩])) y)

noncomputable def racetreeref22_reader_number_lp4 : Lift.Loop U := ⟨racetreeref22_reader_number_sh4, racetreeref22_reader_number_o4, fun ls => match ls with | [⟨(.int .i64), a0⟩, ⟨(.int .i64), a1⟩, ⟨(.int .i64), a2⟩, ⟨(.int .i64), a3⟩, ⟨(.slc (.int .u8)), a4⟩, ⟨(.int .i64), a5⟩, ⟨.bool, a6⟩] => .get (racetreeref22_reader_number_l4 a0 a1 a2 a3 a4 a5 a6) racetreeref22_reader_number_tr4 | _ => .fail⟩

theorem racetreeref22_reader_number_E4 (rec : Int → Int → Int → Int → List (Int) → Int → Bool → Option (((List (Int)) × Int × Bool) ⊕ (Int × (List (Int)) × Int × Bool))) (a0 : Int) (a1 : Int) (a2 : Int) (a3 : Int) (a4 : List (Int)) (a5 : Int) (a6 : Bool) : (Kit.withModes kk (modesOf ms32)).turn Tryd.f36.ntmps racetreeref22_reader_number_L4 racetreeref22_reader_number_sh4 racetreeref22_reader_number_o4 racetreeref22_reader_number_b4 [⟨(.int .i64), a0⟩, ⟨(.int .i64), a1⟩, ⟨(.int .i64), a2⟩, ⟨(.int .i64), a3⟩, ⟨(.slc (.int .u8)), a4⟩, ⟨(.int .i64), a5⟩, ⟨.bool, a6⟩] (racetreeref22_reader_number_rec4 rec) racetreeref22_reader_number_enc4 = racetreeref22_reader_number_t4 rec a0 a1 a2 a3 a4 a5 a6 := by kernel_rfl

theorem racetreeref22_reader_number_ok4 : ∀ ls j rs, (racetreeref22_reader_number_lp4.sum ls).val = some (j, rs) → RoundPost kk env0 Tryd.f36.ntmps racetreeref22_reader_number_b4 racetreeref22_reader_number_lp4.sh racetreeref22_reader_number_lp4.outs ls j rs := by
  have inner : LoopsOk (Kit.withModes kk (modesOf ms32)) env0 Tryd.f36.ntmps racetreeref22_reader_number_L4 racetreeref22_reader_number_b4 := by
    exact loopsOk_of (bs := []) (by kernel_rfl) trivial
  have key : ∀ n a0 a1 a2 a3 a4 a5 a6 r j rs, racetreeref22_reader_number_i4 n a0 a1 a2 a3 a4 a5 a6 = some r → racetreeref22_reader_number_dec4 r = (j, rs) → RoundPost kk env0 Tryd.f36.ntmps racetreeref22_reader_number_b4 racetreeref22_reader_number_sh4 racetreeref22_reader_number_o4 [⟨(.int .i64), a0⟩, ⟨(.int .i64), a1⟩, ⟨(.int .i64), a2⟩, ⟨(.int .i64), a3⟩, ⟨(.slc (.int .u8)), a4⟩, ⟨(.int .i64), a5⟩, ⟨.bool, a6⟩] j rs := by
    intro n
    induction n with
    | zero => intro a0 a1 a2 a3 a4 a5 a6 r j rs h; cases h
    | succ n ih =>
      intro a0 a1 a2 a3 a4 a5 a6 r j rs h hd
      refine RoundPost.modes.1 (turn_sound (kitOk_of eqOk mixed known32) inner ((racetreeref22_reader_number_E4 (racetreeref22_reader_number_i4 n) a0 a1 a2 a3 a4 a5 a6).trans h) (fun q hq => RoundPost.modes.2 ?_) ?_)
      · unfold racetreeref22_reader_number_rec4 at hq
        split at hq
        · exact ih _ _ _ _ _ _ _ r j rs hq hd
        · cases hq
      · intro i qs he
        unfold racetreeref22_reader_number_enc4 at he
        split at he <;> cases he <;> (cases hd; exact ⟨rfl, rfl⟩)
  intro ls j rs h
  simp only [racetreeref22_reader_number_lp4] at h
  split at h
  · obtain ⟨r, hr, h⟩ := Tr.get_val h
    rw [racetreeref22_reader_number_l4, sealF_eq] at hr
    refine key fuel _ _ _ _ _ _ _ r j rs hr ?_
    rcases r with r | r <;> exact Option.some.inj h
  · cases h

noncomputable def racetreeref22_reader_number_sh : StSh := ⟨⟨[0, 1], [100000], []⟩, [.ptr 100000 0, .t (.int .i64)], [.blk 67 [.t (.slc (.int .u8)), .t (.int .i64), .t .bool]]⟩

noncomputable def racetreeref22_reader_number_os : List StSh := [⟨⟨[0], [100000], []⟩, [.t (.int .i64)], [.blk 67 [.t (.slc (.int .u8)), .t (.int .i64), .t .bool]]⟩]

noncomputable def racetreeref22_reader_number_L : Nat → Option (Lift.Loop U) := fun n => bif Nat.beq n 4 then some racetreeref22_reader_number_lp4 else none

noncomputable def racetreeref22_reader_number_enc : Nat → List (TV U) → Option (Int × (List (Int)) × Int × Bool)
  | 0, [⟨(.int .i64), a0⟩, ⟨(.slc (.int .u8)), a1⟩, ⟨(.int .i64), a2⟩, ⟨.bool, a3⟩] => some (a0, a1, a2, a3)
  | _, _ => none

noncomputable def racetreeref22_reader_number_dec : Int × (List (Int)) × Int × Bool → Nat × List (TV U) := fun x => (0, [⟨(.int .i64), x.1⟩, ⟨(.slc (.int .u8)), x.2.1⟩, ⟨(.int .i64), x.2.2.1⟩, ⟨.bool, x.2.2.2⟩])

noncomputable def racetreeref22_reader_number_tr : Int × (List (Int)) × Int × Bool → Tr (Nat × List (TV U)) := fun r => (fun x => .ret (0, [⟨(.int .i64), x.1⟩, ⟨(.slc (.int .u8)), x.2.1⟩, ⟨(.int .i64), x.2.2.1⟩, ⟨.bool, x.2.2.2⟩])) r

noncomputable def racetreeref22_reader_number_md : Mode U := ⟨racetreeref22_reader_number_sh, [⟨100000, .slot 0, []⟩], racetreeref22_reader_number_os, fun ls => match ls with | [⟨(.int .i64), a0⟩, ⟨(.slc (.int .u8)), a1⟩, ⟨(.int .i64), a2⟩, ⟨.bool, a3⟩] => .get (racetreeref22_reader_number a0 a1 a2 a3) racetreeref22_reader_number_tr | _ => .fail⟩

theorem racetreeref22_reader_number_E (a0 : Int) (a1 : List (Int)) (a2 : Int) (a3 : Bool) : (Kit.withModes kk (modesOf ms32)).fnEval racetreeref22_reader_number_L Tryd.f36 racetreeref22_reader_number_sh racetreeref22_reader_number_os [⟨(.int .i64), a0⟩, ⟨(.slc (.int .u8)), a1⟩, ⟨(.int .i64), a2⟩, ⟨.bool, a3⟩] racetreeref22_reader_number_enc = racetreeref22_reader_number_f a0 a1 a2 a3 := by kernel_rfl

theorem racetreeref22_reader_number_post : ∀ ls j rs, (racetreeref22_reader_number_md.sum ls).val = some (j, rs) → FnPost kk env0 36 racetreeref22_reader_number_sh racetreeref22_reader_number_os ls j rs := by
  have inner : LoopsOk (Kit.withModes kk (modesOf ms32)) env0 Tryd.f36.ntmps racetreeref22_reader_number_L (bodyOf Tryd.f36) := by
    exact loopsOk_of (bs := [racetreeref22_reader_number_b4]) (by kernel_rfl) ⟨.inr ⟨_, by kernel_rfl, LoopOk.of_round racetreeref22_reader_number_ok4⟩, trivial⟩
  intro ls j rs h
  simp only [racetreeref22_reader_number_md] at h
  split at h
  · obtain ⟨r, hr, h⟩ := Tr.get_val h
    rw [racetreeref22_reader_number, sealF_eq] at hr
    have hd : racetreeref22_reader_number_dec r = (j, rs) := by
      exact Option.some.inj h
    refine FnPost.modes.1 (fn_sound (kitOk_of eqOk mixed known32) (by kernel_rfl) inner ((racetreeref22_reader_number_E _ _ _ _).trans hr) ?_)
    intro i qs he
    unfold racetreeref22_reader_number_enc at he
    split at he <;> cases he <;> (cases hd; exact ⟨rfl, rfl⟩)
  · cases h

noncomputable def ms33 : List (FuncId × Mode U) := (36, racetreeref22_reader_number_md) :: ms32

theorem known33 : Known kk env0 (modesOf ms33) := known_cons (by kernel_rfl) racetreeref22_reader_number_post known32

noncomputable def racetreeref22_Load_sh12 : StSh := ⟨⟨[0, 4, 5, 6, 7, 8, 9, 10], [13], [⟨.slot 5, 5, 3, (.int .i64)⟩]⟩, [.t (.slc (.int .u8)), .ptr 13 0, .oslc 5, .t (.int .i64), .t (.int .i64), .t (.int .i64), .t (.int .i64), .t (.int .i64)], [.blk 67 [.t (.slc (.int .u8)), .t (.int .i64), .t .bool], .row 3 (.int .i64)]⟩

noncomputable def racetreeref22_Load_o12 : List Out := [⟨.exit 2, ⟨⟨[0, 4, 5, 6, 7], [13], [⟨.slot 5, 5, 3, (.int .i64)⟩]⟩, [.t (.slc (.int .u8)), .ptr 13 0, .oslc 5, .t (.int .i64), .t (.int .i64)], [.blk 67 [.t (.slc (.int .u8)), .t (.int .i64), .t .bool], .row 3 (.int .i64)]⟩⟩]

noncomputable def racetreeref22_Load_b12 : Code := (nthLoop (nthLoop (bodyOf Tryd.f19) 0) 0)

noncomputable def racetreeref22_Load_L12 : Nat → Option (Lift.Loop U) := fun n => none

noncomputable def racetreeref22_Load_rec12 (rec : List (Int) → Int → Int → Int → Int → Int → List (Int) → Int → Bool → List (Int) → Option ((List (Int)) × Int × Int × (List (Int)) × Int × Bool × (List (Int)))) : List (TV U) → Option ((List (Int)) × Int × Int × (List (Int)) × Int × Bool × (List (Int)))
  | [⟨(.slc (.int .u8)), a0⟩, ⟨(.int .i64), a1⟩, ⟨(.int .i64), a2⟩, ⟨(.int .i64), a3⟩, ⟨(.int .i64), a4⟩, ⟨(.int .i64), a5⟩, ⟨(.slc (.int .u8)), a6⟩, ⟨(.int .i64), a7⟩, ⟨.bool, a8⟩, ⟨(.slc (.int .i64)), a9⟩] => rec a0 a1 a2 a3 a4 a5 a6 a7 a8 a9
  | _ => none

noncomputable def racetreeref22_Load_enc12 : Nat → List (TV U) → Option ((List (Int)) × Int × Int × (List (Int)) × Int × Bool × (List (Int)))
  | 0, [⟨(.slc (.int .u8)), a0⟩, ⟨(.int .i64), a1⟩, ⟨(.int .i64), a2⟩, ⟨(.slc (.int .u8)), a3⟩, ⟨(.int .i64), a4⟩, ⟨.bool, a5⟩, ⟨(.slc (.int .i64)), a6⟩] => some (a0, a1, a2, a3, a4, a5, a6)
  | _, _ => none

noncomputable def racetreeref22_Load_dec12 : (List (Int)) × Int × Int × (List (Int)) × Int × Bool × (List (Int)) → Nat × List (TV U) := fun x => (0, [⟨(.slc (.int .u8)), x.1⟩, ⟨(.int .i64), x.2.1⟩, ⟨(.int .i64), x.2.2.1⟩, ⟨(.slc (.int .u8)), x.2.2.2.1⟩, ⟨(.int .i64), x.2.2.2.2.1⟩, ⟨.bool, x.2.2.2.2.2.1⟩, ⟨(.slc (.int .i64)), x.2.2.2.2.2.2⟩])

noncomputable def racetreeref22_Load_tr12 : (List (Int)) × Int × Int × (List (Int)) × Int × Bool × (List (Int)) → Tr (Nat × List (TV U)) := fun r => (fun x => .ret (0, [⟨(.slc (.int .u8)), x.1⟩, ⟨(.int .i64), x.2.1⟩, ⟨(.int .i64), x.2.2.1⟩, ⟨(.slc (.int .u8)), x.2.2.2.1⟩, ⟨(.int .i64), x.2.2.2.2.1⟩, ⟨.bool, x.2.2.2.2.2.1⟩, ⟨(.slc (.int .i64)), x.2.2.2.2.2.2⟩])) r

noncomputable def racetreeref22_Load_lp12 : Lift.Loop U := ⟨racetreeref22_Load_sh12, racetreeref22_Load_o12, fun ls => match ls with | [⟨(.slc (.int .u8)), a0⟩, ⟨(.int .i64), a1⟩, ⟨(.int .i64), a2⟩, ⟨(.int .i64), a3⟩, ⟨(.int .i64), a4⟩, ⟨(.int .i64), a5⟩, ⟨(.slc (.int .u8)), a6⟩, ⟨(.int .i64), a7⟩, ⟨.bool, a8⟩, ⟨(.slc (.int .i64)), a9⟩] => .get (racetreeref22_Load_l12 a0 a1 a2 a3 a4 a5 a6 a7 a8 a9) racetreeref22_Load_tr12 | _ => .fail⟩

theorem racetreeref22_Load_E12 (rec : List (Int) → Int → Int → Int → Int → Int → List (Int) → Int → Bool → List (Int) → Option ((List (Int)) × Int × Int × (List (Int)) × Int × Bool × (List (Int)))) (a0 : List (Int)) (a1 : Int) (a2 : Int) (a3 : Int) (a4 : Int) (a5 : Int) (a6 : List (Int)) (a7 : Int) (a8 : Bool) (a9 : List (Int)) : (Kit.withModes kk (modesOf ms33)).turn Tryd.f19.ntmps racetreeref22_Load_L12 racetreeref22_Load_sh12 racetreeref22_Load_o12 racetreeref22_Load_b12 [⟨(.slc (.int .u8)), a0⟩, ⟨(.int .i64), a1⟩, ⟨(.int .i64), a2⟩, ⟨(.int .i64), a3⟩, ⟨(.int .i64), a4⟩, ⟨(.int .i64), a5⟩, ⟨(.slc (.int .u8)), a6⟩, ⟨(.int .i64), a7⟩, ⟨.bool, a8⟩, ⟨(.slc (.int .i64)), a9⟩] (racetreeref22_Load_rec12 rec) racetreeref22_Load_enc12 = racetreeref22_Load_t12 rec a0 a1 a2 a3 a4 a5 a6 a7 a8 a9 := by kernel_rfl

theorem racetreeref22_Load_ok12 : ∀ ls j rs, (racetreeref22_Load_lp12.sum ls).val = some (j, rs) → RoundPost kk env0 Tryd.f19.ntmps racetreeref22_Load_b12 racetreeref22_Load_lp12.sh racetreeref22_Load_lp12.outs ls j rs := by
  have inner : LoopsOk (Kit.withModes kk (modesOf ms33)) env0 Tryd.f19.ntmps racetreeref22_Load_L12 racetreeref22_Load_b12 := by
    exact loopsOk_of (bs := []) (by kernel_rfl) trivial
  have key : ∀ n a0 a1 a2 a3 a4 a5 a6 a7 a8 a9 r j rs, racetreeref22_Load_i12 n a0 a1 a2 a3 a4 a5 a6 a7 a8 a9 = some r → racetreeref22_Load_dec12 r = (j, rs) → RoundPost kk env0 Tryd.f19.ntmps racetreeref22_Load_b12 racetreeref22_Load_sh12 racetreeref22_Load_o12 [⟨(.slc (.int .u8)), a0⟩, ⟨(.int .i64), a1⟩, ⟨(.int .i64), a2⟩, ⟨(.int .i64), a3⟩, ⟨(.int .i64), a4⟩, ⟨(.int .i64), a5⟩, ⟨(.slc (.int .u8)), a6⟩, ⟨(.int .i64), a7⟩, ⟨.bool, a8⟩, ⟨(.slc (.int .i64)), a9⟩] j rs := by
    intro n
    induction n with
    | zero => intro a0 a1 a2 a3 a4 a5 a6 a7 a8 a9 r j rs h; cases h
    | succ n ih =>
      intro a0 a1 a2 a3 a4 a5 a6 a7 a8 a9 r j rs h hd
      refine RoundPost.modes.1 (turn_sound (kitOk_of eqOk mixed known33) inner ((racetreeref22_Load_E12 (racetreeref22_Load_i12 n) a0 a1 a2 a3 a4 a5 a6 a7 a8 a9).trans h) (fun q hq => RoundPost.modes.2 ?_) ?_)
      · unfold racetreeref22_Load_rec12 at hq
        split at hq
        · exact ih _ _ _ _ _ _ _ _ _ _ r j rs hq hd
        · cases hq
      · intro i qs he
        unfold racetreeref22_Load_enc12 at he
        split at he <;> cases he <;> (cases hd; exact ⟨rfl, rfl⟩)
  intro ls j rs h
  simp only [racetreeref22_Load_lp12] at h
  split at h
  · obtain ⟨r, hr, h⟩ := Tr.get_val h
    rw [racetreeref22_Load_l12, sealF_eq] at hr
    refine key fuel _ _ _ _ _ _ _ _ _ _ r j rs hr ?_
    exact Option.some.inj h
  · cases h

noncomputable def racetreeref22_Load_sh5 : StSh := ⟨⟨[0, 4, 5, 6, 7], [13], [⟨.slot 5, 5, 3, (.int .i64)⟩]⟩, [.t (.slc (.int .u8)), .ptr 13 0, .oslc 5, .t (.int .i64), .t (.int .i64)], [.blk 67 [.t (.slc (.int .u8)), .t (.int .i64), .t .bool], .row 3 (.int .i64)]⟩

noncomputable def racetreeref22_Load_o5 : List Out := [⟨.exit 0, ⟨⟨[0, 4, 5], [13], [⟨.slot 5, 5, 3, (.int .i64)⟩]⟩, [.t (.slc (.int .u8)), .ptr 13 0, .oslc 5], [.blk 67 [.t (.slc (.int .u8)), .t (.int .i64), .t .bool], .row 3 (.int .i64)]⟩⟩]

noncomputable def racetreeref22_Load_b5 : Code := (nthLoop (bodyOf Tryd.f19) 0)

noncomputable def racetreeref22_Load_L5 : Nat → Option (Lift.Loop U) := fun n => bif Nat.beq n 12 then some racetreeref22_Load_lp12 else none

noncomputable def racetreeref22_Load_rec5 (rec : List (Int) → Int → Int → List (Int) → Int → Bool → List (Int) → Option ((List (Int)) × (List (Int)) × Int × Bool × (List (Int)))) : List (TV U) → Option ((List (Int)) × (List (Int)) × Int × Bool × (List (Int)))
  | [⟨(.slc (.int .u8)), a0⟩, ⟨(.int .i64), a1⟩, ⟨(.int .i64), a2⟩, ⟨(.slc (.int .u8)), a3⟩, ⟨(.int .i64), a4⟩, ⟨.bool, a5⟩, ⟨(.slc (.int .i64)), a6⟩] => rec a0 a1 a2 a3 a4 a5 a6
  | _ => none

noncomputable def racetreeref22_Load_enc5 : Nat → List (TV U) → Option ((List (Int)) × (List (Int)) × Int × Bool × (List (Int)))
  | 0, [⟨(.slc (.int .u8)), a0⟩, ⟨(.slc (.int .u8)), a1⟩, ⟨(.int .i64), a2⟩, ⟨.bool, a3⟩, ⟨(.slc (.int .i64)), a4⟩] => some (a0, a1, a2, a3, a4)
  | _, _ => none

noncomputable def racetreeref22_Load_dec5 : (List (Int)) × (List (Int)) × Int × Bool × (List (Int)) → Nat × List (TV U) := fun x => (0, [⟨(.slc (.int .u8)), x.1⟩, ⟨(.slc (.int .u8)), x.2.1⟩, ⟨(.int .i64), x.2.2.1⟩, ⟨.bool, x.2.2.2.1⟩, ⟨(.slc (.int .i64)), x.2.2.2.2⟩])

noncomputable def racetreeref22_Load_tr5 : (List (Int)) × (List (Int)) × Int × Bool × (List (Int)) → Tr (Nat × List (TV U)) := fun r => (fun x => .ret (0, [⟨(.slc (.int .u8)), x.1⟩, ⟨(.slc (.int .u8)), x.2.1⟩, ⟨(.int .i64), x.2.2.1⟩, ⟨.bool, x.2.2.2.1⟩, ⟨(.slc (.int .i64)), x.2.2.2.2⟩])) r

noncomputable def racetreeref22_Load_lp5 : Lift.Loop U := ⟨racetreeref22_Load_sh5, racetreeref22_Load_o5, fun ls => match ls with | [⟨(.slc (.int .u8)), a0⟩, ⟨(.int .i64), a1⟩, ⟨(.int .i64), a2⟩, ⟨(.slc (.int .u8)), a3⟩, ⟨(.int .i64), a4⟩, ⟨.bool, a5⟩, ⟨(.slc (.int .i64)), a6⟩] => .get (racetreeref22_Load_l5 a0 a1 a2 a3 a4 a5 a6) racetreeref22_Load_tr5 | _ => .fail⟩

theorem racetreeref22_Load_E5 (rec : List (Int) → Int → Int → List (Int) → Int → Bool → List (Int) → Option ((List (Int)) × (List (Int)) × Int × Bool × (List (Int)))) (a0 : List (Int)) (a1 : Int) (a2 : Int) (a3 : List (Int)) (a4 : Int) (a5 : Bool) (a6 : List (Int)) : (Kit.withModes kk (modesOf ms33)).turn Tryd.f19.ntmps racetreeref22_Load_L5 racetreeref22_Load_sh5 racetreeref22_Load_o5 racetreeref22_Load_b5 [⟨(.slc (.int .u8)), a0⟩, ⟨(.int .i64), a1⟩, ⟨(.int .i64), a2⟩, ⟨(.slc (.int .u8)), a3⟩, ⟨(.int .i64), a4⟩, ⟨.bool, a5⟩, ⟨(.slc (.int .i64)), a6⟩] (racetreeref22_Load_rec5 rec) racetreeref22_Load_enc5 = racetreeref22_Load_t5 rec a0 a1 a2 a3 a4 a5 a6 := by kernel_rfl

theorem racetreeref22_Load_ok5 : ∀ ls j rs, (racetreeref22_Load_lp5.sum ls).val = some (j, rs) → RoundPost kk env0 Tryd.f19.ntmps racetreeref22_Load_b5 racetreeref22_Load_lp5.sh racetreeref22_Load_lp5.outs ls j rs := by
  have inner : LoopsOk (Kit.withModes kk (modesOf ms33)) env0 Tryd.f19.ntmps racetreeref22_Load_L5 racetreeref22_Load_b5 := by
    exact loopsOk_of (bs := [racetreeref22_Load_b12]) (by kernel_rfl) ⟨.inr ⟨_, by kernel_rfl, LoopOk.of_round racetreeref22_Load_ok12⟩, trivial⟩
  have key : ∀ n a0 a1 a2 a3 a4 a5 a6 r j rs, racetreeref22_Load_i5 n a0 a1 a2 a3 a4 a5 a6 = some r → racetreeref22_Load_dec5 r = (j, rs) → RoundPost kk env0 Tryd.f19.ntmps racetreeref22_Load_b5 racetreeref22_Load_sh5 racetreeref22_Load_o5 [⟨(.slc (.int .u8)), a0⟩, ⟨(.int .i64), a1⟩, ⟨(.int .i64), a2⟩, ⟨(.slc (.int .u8)), a3⟩, ⟨(.int .i64), a4⟩, ⟨.bool, a5⟩, ⟨(.slc (.int .i64)), a6⟩] j rs := by
    intro n
    induction n with
    | zero => intro a0 a1 a2 a3 a4 a5 a6 r j rs h; cases h
    | succ n ih =>
      intro a0 a1 a2 a3 a4 a5 a6 r j rs h hd
      refine RoundPost.modes.1 (turn_sound (kitOk_of eqOk mixed known33) inner ((racetreeref22_Load_E5 (racetreeref22_Load_i5 n) a0 a1 a2 a3 a4 a5 a6).trans h) (fun q hq => RoundPost.modes.2 ?_) ?_)
      · unfold racetreeref22_Load_rec5 at hq
        split at hq
        · exact ih _ _ _ _ _ _ _ r j rs hq hd
        · cases hq
      · intro i qs he
        unfold racetreeref22_Load_enc5 at he
        split at he <;> cases he <;> (cases hd; exact ⟨rfl, rfl⟩)
  intro ls j rs h
  simp only [racetreeref22_Load_lp5] at h
  split at h
  · obtain ⟨r, hr, h⟩ := Tr.get_val h
    rw [racetreeref22_Load_l5, sealF_eq] at hr
    refine key fuel _ _ _ _ _ _ _ r j rs hr ?_
    exact Option.some.inj h
  · cases h

noncomputable def racetreeref22_Load_sh : StSh := ⟨⟨[0], [], []⟩, [.t (.slc (.int .u8))], []⟩

noncomputable def racetreeref22_Load_os : List StSh := [⟨⟨[0, 1], [], [⟨.slot 0, 100000, 3, (.int .i64)⟩]⟩, [.oslc 100000, .t (.int .i64)], [.row 3 (.int .i64)]⟩]

noncomputable def racetreeref22_Load_L : Nat → Option (Lift.Loop U) := fun n => bif Nat.beq n 5 then some racetreeref22_Load_lp5 else none

noncomputable def racetreeref22_Load_enc : Nat → List (TV U) → Option (Int × (List (Int)))
  | 0, [⟨(.int .i64), a0⟩, ⟨(.slc (.int .i64)), a1⟩] => some (a0, a1)
  | _, _ => none

noncomputable def racetreeref22_Load_dec : Int × (List (Int)) → Nat × List (TV U) := fun x => (0, [⟨(.int .i64), x.1⟩, ⟨(.slc (.int .i64)), x.2⟩])

noncomputable def racetreeref22_Load_tr : Int × (List (Int)) → Tr (Nat × List (TV U)) := fun r => (fun x => .ret (0, [⟨(.int .i64), x.1⟩, ⟨(.slc (.int .i64)), x.2⟩])) r

noncomputable def racetreeref22_Load_md : Mode U := ⟨racetreeref22_Load_sh, [], racetreeref22_Load_os, fun ls => match ls with | [⟨(.slc (.int .u8)), a0⟩] => .get (racetreeref22_Load a0) racetreeref22_Load_tr | _ => .fail⟩

theorem racetreeref22_Load_E (a0 : List (Int)) : (Kit.withModes kk (modesOf ms33)).fnEval racetreeref22_Load_L Tryd.f19 racetreeref22_Load_sh racetreeref22_Load_os [⟨(.slc (.int .u8)), a0⟩] racetreeref22_Load_enc = racetreeref22_Load_f a0 := by kernel_rfl

theorem racetreeref22_Load_post : ∀ ls j rs, (racetreeref22_Load_md.sum ls).val = some (j, rs) → FnPost kk env0 19 racetreeref22_Load_sh racetreeref22_Load_os ls j rs := by
  have inner : LoopsOk (Kit.withModes kk (modesOf ms33)) env0 Tryd.f19.ntmps racetreeref22_Load_L (bodyOf Tryd.f19) := by
    exact loopsOk_of (bs := [racetreeref22_Load_b5]) (by kernel_rfl) ⟨.inr ⟨_, by kernel_rfl, LoopOk.of_round racetreeref22_Load_ok5⟩, trivial⟩
  intro ls j rs h
  simp only [racetreeref22_Load_md] at h
  split at h
  · obtain ⟨r, hr, h⟩ := Tr.get_val h
    rw [racetreeref22_Load, sealF_eq] at hr
    have hd : racetreeref22_Load_dec r = (j, rs) := by
      exact Option.some.inj h
    refine FnPost.modes.1 (fn_sound (kitOk_of eqOk mixed known33) (by kernel_rfl) inner ((racetreeref22_Load_E _).trans hr) ?_)
    intro i qs he
    unfold racetreeref22_Load_enc at he
    split at he <;> cases he <;> (cases hd; exact ⟨rfl, rfl⟩)
  · cases h

noncomputable def ms34 : List (FuncId × Mode U) := (19, racetreeref22_Load_md) :: ms33

theorem known34 : Known kk env0 (modesOf ms34) := known_cons (by kernel_rfl) racetreeref22_Load_post known33

noncomputable def racetreelaw22_SchedLoads_sh : StSh := ⟨⟨[0], [], []⟩, [.t (.slc (.int .u8))], []⟩

noncomputable def racetreelaw22_SchedLoads_os : List StSh := [⟨⟨[0], [], []⟩, [.t .bool], []⟩]

noncomputable def racetreelaw22_SchedLoads_L : Nat → Option (Lift.Loop U) := fun n => none

noncomputable def racetreelaw22_SchedLoads_enc : Nat → List (TV U) → Option (Bool)
  | 0, [⟨.bool, a0⟩] => some a0
  | _, _ => none

noncomputable def racetreelaw22_SchedLoads_dec : Bool → Nat × List (TV U) := fun x => (0, [⟨.bool, x⟩])

noncomputable def racetreelaw22_SchedLoads_tr : Bool → Tr (Nat × List (TV U)) := fun r => (fun x => .ret (0, [⟨.bool, x⟩])) r

noncomputable def racetreelaw22_SchedLoads_md : Mode U := ⟨racetreelaw22_SchedLoads_sh, [], racetreelaw22_SchedLoads_os, fun ls => match ls with | [⟨(.slc (.int .u8)), a0⟩] => .get (racetreelaw22_SchedLoads a0) racetreelaw22_SchedLoads_tr | _ => .fail⟩

theorem racetreelaw22_SchedLoads_E (a0 : List (Int)) : (Kit.withModes kk (modesOf ms34)).fnEval racetreelaw22_SchedLoads_L Tryd.f6 racetreelaw22_SchedLoads_sh racetreelaw22_SchedLoads_os [⟨(.slc (.int .u8)), a0⟩] racetreelaw22_SchedLoads_enc = racetreelaw22_SchedLoads_f a0 := by kernel_rfl

theorem racetreelaw22_SchedLoads_post : ∀ ls j rs, (racetreelaw22_SchedLoads_md.sum ls).val = some (j, rs) → FnPost kk env0 6 racetreelaw22_SchedLoads_sh racetreelaw22_SchedLoads_os ls j rs := by
  have inner : LoopsOk (Kit.withModes kk (modesOf ms34)) env0 Tryd.f6.ntmps racetreelaw22_SchedLoads_L (bodyOf Tryd.f6) := by
    exact loopsOk_of (bs := []) (by kernel_rfl) trivial
  intro ls j rs h
  simp only [racetreelaw22_SchedLoads_md] at h
  split at h
  · obtain ⟨r, hr, h⟩ := Tr.get_val h
    rw [racetreelaw22_SchedLoads, sealF_eq] at hr
    have hd : racetreelaw22_SchedLoads_dec r = (j, rs) := by
      exact Option.some.inj h
    refine FnPost.modes.1 (fn_sound (kitOk_of eqOk mixed known34) (by kernel_rfl) inner ((racetreelaw22_SchedLoads_E _).trans hr) ?_)
    intro i qs he
    unfold racetreelaw22_SchedLoads_enc at he
    split at he <;> cases he <;> (cases hd; exact ⟨rfl, rfl⟩)
  · cases h

noncomputable def ms35 : List (FuncId × Mode U) := (6, racetreelaw22_SchedLoads_md) :: ms34

theorem known35 : Known kk env0 (modesOf ms35) := known_cons (by kernel_rfl) racetreelaw22_SchedLoads_post known34

noncomputable def racetreelaw22_SchedBack_sh : StSh := ⟨⟨[0], [], []⟩, [.t (.slc (.int .i64))], []⟩

noncomputable def racetreelaw22_SchedBack_os : List StSh := [⟨⟨[0], [], []⟩, [.t .bool], []⟩]

noncomputable def racetreelaw22_SchedBack_L : Nat → Option (Lift.Loop U) := fun n => none

noncomputable def racetreelaw22_SchedBack_enc : Nat → List (TV U) → Option (Bool)
  | 0, [⟨.bool, a0⟩] => some a0
  | _, _ => none

noncomputable def racetreelaw22_SchedBack_dec : Bool → Nat × List (TV U) := fun x => (0, [⟨.bool, x⟩])

noncomputable def racetreelaw22_SchedBack_tr : Bool → Tr (Nat × List (TV U)) := fun r => (fun x => .ret (0, [⟨.bool, x⟩])) r

noncomputable def racetreelaw22_SchedBack_md : Mode U := ⟨racetreelaw22_SchedBack_sh, [], racetreelaw22_SchedBack_os, fun ls => match ls with | [⟨(.slc (.int .i64)), a0⟩] => .get (racetreelaw22_SchedBack a0) racetreelaw22_SchedBack_tr | _ => .fail⟩

theorem racetreelaw22_SchedBack_E (a0 : List (Int)) : (Kit.withModes kk (modesOf ms35)).fnEval racetreelaw22_SchedBack_L Tryd.f7 racetreelaw22_SchedBack_sh racetreelaw22_SchedBack_os [⟨(.slc (.int .i64)), a0⟩] racetreelaw22_SchedBack_enc = racetreelaw22_SchedBack_f a0 := by kernel_rfl

theorem racetreelaw22_SchedBack_post : ∀ ls j rs, (racetreelaw22_SchedBack_md.sum ls).val = some (j, rs) → FnPost kk env0 7 racetreelaw22_SchedBack_sh racetreelaw22_SchedBack_os ls j rs := by
  have inner : LoopsOk (Kit.withModes kk (modesOf ms35)) env0 Tryd.f7.ntmps racetreelaw22_SchedBack_L (bodyOf Tryd.f7) := by
    exact loopsOk_of (bs := []) (by kernel_rfl) trivial
  intro ls j rs h
  simp only [racetreelaw22_SchedBack_md] at h
  split at h
  · obtain ⟨r, hr, h⟩ := Tr.get_val h
    rw [racetreelaw22_SchedBack, sealF_eq] at hr
    have hd : racetreelaw22_SchedBack_dec r = (j, rs) := by
      exact Option.some.inj h
    refine FnPost.modes.1 (fn_sound (kitOk_of eqOk mixed known35) (by kernel_rfl) inner ((racetreelaw22_SchedBack_E _).trans hr) ?_)
    intro i qs he
    unfold racetreelaw22_SchedBack_enc at he
    split at he <;> cases he <;> (cases hd; exact ⟨rfl, rfl⟩)
  · cases h

noncomputable def ms36 : List (FuncId × Mode U) := (7, racetreelaw22_SchedBack_md) :: ms35

theorem known36 : Known kk env0 (modesOf ms36) := known_cons (by kernel_rfl) racetreelaw22_SchedBack_post known35

noncomputable def racetreelaw22_SchedForm_sh : StSh := ⟨⟨[0, 1], [], []⟩, [.t .str, .t (.slc (.int .u8))], []⟩

noncomputable def racetreelaw22_SchedForm_os : List StSh := [⟨⟨[0], [], []⟩, [.t .bool], []⟩]

noncomputable def racetreelaw22_SchedForm_L : Nat → Option (Lift.Loop U) := fun n => none

noncomputable def racetreelaw22_SchedForm_enc : Nat → List (TV U) → Option (Bool)
  | 0, [⟨.bool, a0⟩] => some a0
  | _, _ => none

noncomputable def racetreelaw22_SchedForm_dec : Bool → Nat × List (TV U) := fun x => (0, [⟨.bool, x⟩])

noncomputable def racetreelaw22_SchedForm_tr : Bool → Tr (Nat × List (TV U)) := fun r => (fun x => .ret (0, [⟨.bool, x⟩])) r

noncomputable def racetreelaw22_SchedForm_md : Mode U := ⟨racetreelaw22_SchedForm_sh, [], racetreelaw22_SchedForm_os, fun ls => match ls with | [⟨.str, a0⟩, ⟨(.slc (.int .u8)), a1⟩] => .get (racetreelaw22_SchedForm a0 a1) racetreelaw22_SchedForm_tr | _ => .fail⟩

theorem racetreelaw22_SchedForm_E (a0 : List UInt8) (a1 : List (Int)) : (Kit.withModes kk (modesOf ms36)).fnEval racetreelaw22_SchedForm_L Tryd.f8 racetreelaw22_SchedForm_sh racetreelaw22_SchedForm_os [⟨.str, a0⟩, ⟨(.slc (.int .u8)), a1⟩] racetreelaw22_SchedForm_enc = racetreelaw22_SchedForm_f a0 a1 := by kernel_rfl

theorem racetreelaw22_SchedForm_post : ∀ ls j rs, (racetreelaw22_SchedForm_md.sum ls).val = some (j, rs) → FnPost kk env0 8 racetreelaw22_SchedForm_sh racetreelaw22_SchedForm_os ls j rs := by
  have inner : LoopsOk (Kit.withModes kk (modesOf ms36)) env0 Tryd.f8.ntmps racetreelaw22_SchedForm_L (bodyOf Tryd.f8) := by
    exact loopsOk_of (bs := []) (by kernel_rfl) trivial
  intro ls j rs h
  simp only [racetreelaw22_SchedForm_md] at h
  split at h
  · obtain ⟨r, hr, h⟩ := Tr.get_val h
    rw [racetreelaw22_SchedForm, sealF_eq] at hr
    have hd : racetreelaw22_SchedForm_dec r = (j, rs) := by
      exact Option.some.inj h
    refine FnPost.modes.1 (fn_sound (kitOk_of eqOk mixed known36) (by kernel_rfl) inner ((racetreelaw22_SchedForm_E _ _).trans hr) ?_)
    intro i qs he
    unfold racetreelaw22_SchedForm_enc at he
    split at he <;> cases he <;> (cases hd; exact ⟨rfl, rfl⟩)
  · cases h

noncomputable def ms37 : List (FuncId × Mode U) := (8, racetreelaw22_SchedForm_md) :: ms36

theorem known37 : Known kk env0 (modesOf ms37) := known_cons (by kernel_rfl) racetreelaw22_SchedForm_post known36

end Lift.E3

