/-
  DERIVED. Each function of this seat computes its Lean function. Conditions: as each theorem says.
-/
import Derived.Test.YtndniigjlaccgaaDefs
set_option linter.unusedVariables false
set_option linter.unusedSimpArgs false
set_option linter.unusedSectionVars false
namespace Lift.A1
open Go Go.RowKit Go.Proofs Lift Lift.Fn

noncomputable def unicode_utf8_RuneLen_sh : StSh := ⟨⟨[0], [], []⟩, [.t (.int .i32)], []⟩

noncomputable def unicode_utf8_RuneLen_os : List StSh := [⟨⟨[0], [], []⟩, [.t (.int .i64)], []⟩]

noncomputable def unicode_utf8_RuneLen_L : Nat → Option (Lift.Loop U) := fun n => none

noncomputable def unicode_utf8_RuneLen_enc : Nat → List (TV U) → Option (Int)
  | 0, [⟨(.int .i64), a0⟩] => some a0
  | _, _ => none

noncomputable def unicode_utf8_RuneLen_dec : Int → Nat × List (TV U) := fun x => (0, [⟨(.int .i64), x⟩])

noncomputable def unicode_utf8_RuneLen_tr : Int → Tr (Nat × List (TV U)) := fun r => (fun x => .ret (0, [⟨(.int .i64), x⟩])) r

noncomputable def unicode_utf8_RuneLen_md : Mode U := ⟨unicode_utf8_RuneLen_sh, [], unicode_utf8_RuneLen_os, fun ls => match ls with | [⟨(.int .i32), a0⟩] => .get (unicode_utf8_RuneLen a0) unicode_utf8_RuneLen_tr | _ => .fail⟩

theorem unicode_utf8_RuneLen_E (a0 : Int) : (Kit.withModes kk (modesOf ms0)).fnEval unicode_utf8_RuneLen_L Try.f31 unicode_utf8_RuneLen_sh unicode_utf8_RuneLen_os [⟨(.int .i32), a0⟩] unicode_utf8_RuneLen_enc = unicode_utf8_RuneLen_f a0 := by kernel_rfl

theorem unicode_utf8_RuneLen_post : ∀ ls j rs, (unicode_utf8_RuneLen_md.sum ls).val = some (j, rs) → FnPost kk anyEnv 31 unicode_utf8_RuneLen_sh unicode_utf8_RuneLen_os ls j rs := by
  have inner : LoopsOk (Kit.withModes kk (modesOf ms0)) anyEnv Try.f31.ntmps unicode_utf8_RuneLen_L (bodyOf Try.f31) := by
    exact loopsOk_of (bs := []) (by kernel_rfl) trivial
  intro ls j rs h
  simp only [unicode_utf8_RuneLen_md] at h
  split at h
  · obtain ⟨r, hr, h⟩ := Tr.get_val h
    rw [unicode_utf8_RuneLen, sealF_eq] at hr
    have hd : unicode_utf8_RuneLen_dec r = (j, rs) := by
      exact Option.some.inj h
    refine FnPost.modes.1 (fn_sound (kitOk_of eqOk mixed known0) (by kernel_rfl) inner ((unicode_utf8_RuneLen_E _).trans hr) ?_)
    intro i qs he
    unfold unicode_utf8_RuneLen_enc at he
    split at he <;> cases he <;> (cases hd; exact ⟨rfl, rfl⟩)
  · cases h

noncomputable def ms1 : List (FuncId × Mode U) := (31, unicode_utf8_RuneLen_md) :: ms0

theorem known1 : Known kk anyEnv (modesOf ms1) := known_cons (by kernel_rfl) unicode_utf8_RuneLen_post known0

noncomputable def scan_gone_sh4 : StSh := ⟨⟨[0, 3, 4, 5, 10], [3, 5, 10], [⟨.slot 4, 4, 31, (.st 31)⟩]⟩, [.t .str, .ptr 3 0, .oslc 4, .ptr 5 0, .ptr 10 0], [.blk [.t (.int .i64), .t (.int .i64), .t (.int .i64), .t (.int .i64)], .blk [.t (.int .i64), .t (.int .i64), .t (.int .i64), .t (.int .i64)], .sit, .row 31 (.st 31)]⟩

noncomputable def scan_gone_o4 : List Out := [⟨.ret, ⟨⟨[2, 3], [3], [⟨.slot 2, 2, 31, (.st 31)⟩]⟩, [.oslc 2, .ptr 3 0], [.blk [.t (.int .i64), .t (.int .i64), .t (.int .i64), .t (.int .i64)], .row 31 (.st 31)]⟩⟩, ⟨.exit 0, ⟨⟨[3, 4, 5], [3, 5], [⟨.slot 4, 4, 31, (.st 31)⟩]⟩, [.ptr 3 0, .oslc 4, .ptr 5 0], [.blk [.t (.int .i64), .t (.int .i64), .t (.int .i64), .t (.int .i64)], .blk [.t (.int .i64), .t (.int .i64), .t (.int .i64), .t (.int .i64)], .row 31 (.st 31)]⟩⟩]

noncomputable def scan_gone_b4 : Code := (nthLoop (bodyOf Try.f25) 0)

noncomputable def scan_gone_L4 : Nat → Option (Lift.Loop U) := fun n => none

noncomputable def scan_gone_rec4 (rec : List UInt8 → Int → Int → Int → Int → Int → Int → Int → Int → List UInt8 → Nat → List (Spot) → Option ((Int × Int × Int × Int × (List (Spot))) ⊕ (Int × Int × Int × Int × Int × Int × Int × Int × (List (Spot))))) : List (TV U) → Option ((Int × Int × Int × Int × (List (Spot))) ⊕ (Int × Int × Int × Int × Int × Int × Int × Int × (List (Spot))))
  | [⟨.str, a0⟩, ⟨(.int .i64), a1⟩, ⟨(.int .i64), a2⟩, ⟨(.int .i64), a3⟩, ⟨(.int .i64), a4⟩, ⟨(.int .i64), a5⟩, ⟨(.int .i64), a6⟩, ⟨(.int .i64), a7⟩, ⟨(.int .i64), a8⟩, ⟨.str, a9⟩, ⟨.fn, a10⟩, ⟨(.slc (.st 31)), a11⟩] => rec a0 a1 a2 a3 a4 a5 a6 a7 a8 a9 a10 a11
  | _ => none

noncomputable def scan_gone_enc4 : Nat → List (TV U) → Option ((Int × Int × Int × Int × (List (Spot))) ⊕ (Int × Int × Int × Int × Int × Int × Int × Int × (List (Spot))))
  | 0, [⟨(.int .i64), a0⟩, ⟨(.int .i64), a1⟩, ⟨(.int .i64), a2⟩, ⟨(.int .i64), a3⟩, ⟨(.slc (.st 31)), a4⟩] => some (.inl (a0, a1, a2, a3, a4))
  | 1, [⟨(.int .i64), a0⟩, ⟨(.int .i64), a1⟩, ⟨(.int .i64), a2⟩, ⟨(.int .i64), a3⟩, ⟨(.int .i64), a4⟩, ⟨(.int .i64), a5⟩, ⟨(.int .i64), a6⟩, ⟨(.int .i64), a7⟩, ⟨(.slc (.st 31)), a8⟩] => some (.inr (a0, a1, a2, a3, a4, a5, a6, a7, a8))
  | _, _ => none

noncomputable def scan_gone_dec4 : (Int × Int × Int × Int × (List (Spot))) ⊕ (Int × Int × Int × Int × Int × Int × Int × Int × (List (Spot))) → Nat × List (TV U) := fun r => match r with | (.inl x) => (0, [⟨(.int .i64), x.1⟩, ⟨(.int .i64), x.2.1⟩, ⟨(.int .i64), x.2.2.1⟩, ⟨(.int .i64), x.2.2.2.1⟩, ⟨(.slc (.st 31)), x.2.2.2.2⟩]) | (.inr x) => (1, [⟨(.int .i64), x.1⟩, ⟨(.int .i64), x.2.1⟩, ⟨(.int .i64), x.2.2.1⟩, ⟨(.int .i64), x.2.2.2.1⟩, ⟨(.int .i64), x.2.2.2.2.1⟩, ⟨(.int .i64), x.2.2.2.2.2.1⟩, ⟨(.int .i64), x.2.2.2.2.2.2.1⟩, ⟨(.int .i64), x.2.2.2.2.2.2.2.1⟩, ⟨(.slc (.st 31)), x.2.2.2.2.2.2.2.2⟩])

noncomputable def scan_gone_tr4 : (Int × Int × Int × Int × (List (Spot))) ⊕ (Int × Int × Int × Int × Int × Int × Int × Int × (List (Spot))) → Tr (Nat × List (TV U)) := fun r => .alt r (fun x => .ret (0, [⟨(.int .i64), x.1⟩, ⟨(.int .i64), x.2.1⟩, ⟨(.int .i64), x.2.2.1⟩, ⟨(.int .i64), x.2.2.2.1⟩, ⟨(.slc (.st 31)), x.2.2.2.2⟩])) (fun y => (fun x => .ret (1, [⟨(.int .i64), x.1⟩, ⟨(.int .i64), x.2.1⟩, ⟨(.int .i64), x.2.2.1⟩, ⟨(.int .i64), x.2.2.2.1⟩, ⟨(.int .i64), x.2.2.2.2.1⟩, ⟨(.int .i64), x.2.2.2.2.2.1⟩, ⟨(.int .i64), x.2.2.2.2.2.2.1⟩, ⟨(.int .i64), x.2.2.2.2.2.2.2.1⟩, ⟨(.slc (.st 31)), x.2.2.2.2.2.2.2.2⟩])) y)

noncomputable def scan_gone_lp4 : Lift.Loop U := ⟨scan_gone_sh4, scan_gone_o4, fun ls => match ls with | [⟨.str, a0⟩, ⟨(.int .i64), a1⟩, ⟨(.int .i64), a2⟩, ⟨(.int .i64), a3⟩, ⟨(.int .i64), a4⟩, ⟨(.int .i64), a5⟩, ⟨(.int .i64), a6⟩, ⟨(.int .i64), a7⟩, ⟨(.int .i64), a8⟩, ⟨.str, a9⟩, ⟨.fn, a10⟩, ⟨(.slc (.st 31)), a11⟩] => .get (scan_gone_l4 a0 a1 a2 a3 a4 a5 a6 a7 a8 a9 a10 a11) scan_gone_tr4 | _ => .fail⟩

theorem scan_gone_E4 (rec : List UInt8 → Int → Int → Int → Int → Int → Int → Int → Int → List UInt8 → Nat → List (Spot) → Option ((Int × Int × Int × Int × (List (Spot))) ⊕ (Int × Int × Int × Int × Int × Int × Int × Int × (List (Spot))))) (a0 : List UInt8) (a1 : Int) (a2 : Int) (a3 : Int) (a4 : Int) (a5 : Int) (a6 : Int) (a7 : Int) (a8 : Int) (a9 : List UInt8) (a10 : Nat) (a11 : List (Spot)) : (Kit.withModes kk (modesOf ms1)).turn Try.f25.ntmps scan_gone_L4 scan_gone_sh4 scan_gone_o4 scan_gone_b4 [⟨.str, a0⟩, ⟨(.int .i64), a1⟩, ⟨(.int .i64), a2⟩, ⟨(.int .i64), a3⟩, ⟨(.int .i64), a4⟩, ⟨(.int .i64), a5⟩, ⟨(.int .i64), a6⟩, ⟨(.int .i64), a7⟩, ⟨(.int .i64), a8⟩, ⟨.str, a9⟩, ⟨.fn, a10⟩, ⟨(.slc (.st 31)), a11⟩] (scan_gone_rec4 rec) scan_gone_enc4 = scan_gone_t4 rec a0 a1 a2 a3 a4 a5 a6 a7 a8 a9 a10 a11 := by kernel_rfl

theorem scan_gone_ok4 : ∀ ls j rs, (scan_gone_lp4.sum ls).val = some (j, rs) → RoundPost kk anyEnv Try.f25.ntmps scan_gone_b4 scan_gone_lp4.sh scan_gone_lp4.outs ls j rs := by
  have inner : LoopsOk (Kit.withModes kk (modesOf ms1)) anyEnv Try.f25.ntmps scan_gone_L4 scan_gone_b4 := by
    exact loopsOk_of (bs := []) (by kernel_rfl) trivial
  have key : ∀ n a0 a1 a2 a3 a4 a5 a6 a7 a8 a9 a10 a11 r j rs, scan_gone_i4 n a0 a1 a2 a3 a4 a5 a6 a7 a8 a9 a10 a11 = some r → scan_gone_dec4 r = (j, rs) → RoundPost kk anyEnv Try.f25.ntmps scan_gone_b4 scan_gone_sh4 scan_gone_o4 [⟨.str, a0⟩, ⟨(.int .i64), a1⟩, ⟨(.int .i64), a2⟩, ⟨(.int .i64), a3⟩, ⟨(.int .i64), a4⟩, ⟨(.int .i64), a5⟩, ⟨(.int .i64), a6⟩, ⟨(.int .i64), a7⟩, ⟨(.int .i64), a8⟩, ⟨.str, a9⟩, ⟨.fn, a10⟩, ⟨(.slc (.st 31)), a11⟩] j rs := by
    intro n
    induction n with
    | zero => intro a0 a1 a2 a3 a4 a5 a6 a7 a8 a9 a10 a11 r j rs h; cases h
    | succ n ih =>
      intro a0 a1 a2 a3 a4 a5 a6 a7 a8 a9 a10 a11 r j rs h hd
      refine RoundPost.modes.1 (turn_sound (kitOk_of eqOk mixed known1) inner ((scan_gone_E4 (scan_gone_i4 n) a0 a1 a2 a3 a4 a5 a6 a7 a8 a9 a10 a11).trans h) (fun q hq => RoundPost.modes.2 ?_) ?_)
      · unfold scan_gone_rec4 at hq
        split at hq
        · exact ih _ _ _ _ _ _ _ _ _ _ _ _ r j rs hq hd
        · cases hq
      · intro i qs he
        unfold scan_gone_enc4 at he
        split at he <;> cases he <;> (cases hd; exact ⟨rfl, rfl⟩)
  intro ls j rs h
  simp only [scan_gone_lp4] at h
  split at h
  · obtain ⟨r, hr, h⟩ := Tr.get_val h
    rw [scan_gone_l4, sealF_eq] at hr
    refine key fuel _ _ _ _ _ _ _ _ _ _ _ _ r j rs hr ?_
    rcases r with r | r <;> exact Option.some.inj h
  · cases h

noncomputable def scan_gone_sh : StSh := ⟨⟨[0], [], []⟩, [.t .str], []⟩

noncomputable def scan_gone_os : List StSh := [⟨⟨[0, 1], [], [⟨.slot 0, 100000, 31, (.st 31)⟩]⟩, [.oslc 100000, .t (.st 31)], [.row 31 (.st 31)]⟩]

noncomputable def scan_gone_L : Nat → Option (Lift.Loop U) := fun n => bif Nat.beq n 4 then some scan_gone_lp4 else none

noncomputable def scan_gone_enc : Nat → List (TV U) → Option (Spot × (List (Spot)))
  | 0, [⟨(.st 31), a0⟩, ⟨(.slc (.st 31)), a1⟩] => some (a0, a1)
  | _, _ => none

noncomputable def scan_gone_dec : Spot × (List (Spot)) → Nat × List (TV U) := fun x => (0, [⟨(.st 31), x.1⟩, ⟨(.slc (.st 31)), x.2⟩])

noncomputable def scan_gone_tr : Spot × (List (Spot)) → Tr (Nat × List (TV U)) := fun r => (fun x => .ret (0, [⟨(.st 31), x.1⟩, ⟨(.slc (.st 31)), x.2⟩])) r

noncomputable def scan_gone_md : Mode U := ⟨scan_gone_sh, [], scan_gone_os, fun ls => match ls with | [⟨.str, a0⟩] => .get (scan_gone a0) scan_gone_tr | _ => .fail⟩

theorem scan_gone_E (a0 : List UInt8) : (Kit.withModes kk (modesOf ms1)).fnEval scan_gone_L Try.f25 scan_gone_sh scan_gone_os [⟨.str, a0⟩] scan_gone_enc = scan_gone_f a0 := by kernel_rfl

theorem scan_gone_post : ∀ ls j rs, (scan_gone_md.sum ls).val = some (j, rs) → FnPost kk anyEnv 25 scan_gone_sh scan_gone_os ls j rs := by
  have inner : LoopsOk (Kit.withModes kk (modesOf ms1)) anyEnv Try.f25.ntmps scan_gone_L (bodyOf Try.f25) := by
    exact loopsOk_of (bs := [scan_gone_b4]) (by kernel_rfl) ⟨.inr ⟨_, by kernel_rfl, LoopOk.of_round scan_gone_ok4⟩, trivial⟩
  intro ls j rs h
  simp only [scan_gone_md] at h
  split at h
  · obtain ⟨r, hr, h⟩ := Tr.get_val h
    rw [scan_gone, sealF_eq] at hr
    have hd : scan_gone_dec r = (j, rs) := by
      exact Option.some.inj h
    refine FnPost.modes.1 (fn_sound (kitOk_of eqOk mixed known1) (by kernel_rfl) inner ((scan_gone_E _).trans hr) ?_)
    intro i qs he
    unfold scan_gone_enc at he
    split at he <;> cases he <;> (cases hd; exact ⟨rfl, rfl⟩)
  · cases h

noncomputable def ms2 : List (FuncId × Mode U) := (25, scan_gone_md) :: ms1

theorem known2 : Known kk anyEnv (modesOf ms2) := known_cons (by kernel_rfl) scan_gone_post known1

noncomputable def scan_Runes_sh : StSh := ⟨⟨[0], [], []⟩, [.t .str], []⟩

noncomputable def scan_Runes_os : List StSh := [⟨⟨[0, 1], [], [⟨.slot 0, 100000, 31, (.st 31)⟩]⟩, [.oslc 100000, .t (.st 26)], [.row 31 (.st 31)]⟩]

noncomputable def scan_Runes_L : Nat → Option (Lift.Loop U) := fun n => none

noncomputable def scan_Runes_enc : Nat → List (TV U) → Option (Fault × (List (Spot)))
  | 0, [⟨(.st 26), a0⟩, ⟨(.slc (.st 31)), a1⟩] => some (a0, a1)
  | _, _ => none

noncomputable def scan_Runes_dec : Fault × (List (Spot)) → Nat × List (TV U) := fun x => (0, [⟨(.st 26), x.1⟩, ⟨(.slc (.st 31)), x.2⟩])

noncomputable def scan_Runes_tr : Fault × (List (Spot)) → Tr (Nat × List (TV U)) := fun r => (fun x => .ret (0, [⟨(.st 26), x.1⟩, ⟨(.slc (.st 31)), x.2⟩])) r

noncomputable def scan_Runes_md : Mode U := ⟨scan_Runes_sh, [], scan_Runes_os, fun ls => match ls with | [⟨.str, a0⟩] => .get (scan_Runes a0) scan_Runes_tr | _ => .fail⟩

theorem scan_Runes_E (a0 : List UInt8) : (Kit.withModes kk (modesOf ms2)).fnEval scan_Runes_L Try.f12 scan_Runes_sh scan_Runes_os [⟨.str, a0⟩] scan_Runes_enc = scan_Runes_f a0 := by kernel_rfl

theorem scan_Runes_post : ∀ ls j rs, (scan_Runes_md.sum ls).val = some (j, rs) → FnPost kk anyEnv 12 scan_Runes_sh scan_Runes_os ls j rs := by
  have inner : LoopsOk (Kit.withModes kk (modesOf ms2)) anyEnv Try.f12.ntmps scan_Runes_L (bodyOf Try.f12) := by
    exact loopsOk_of (bs := []) (by kernel_rfl) trivial
  intro ls j rs h
  simp only [scan_Runes_md] at h
  split at h
  · obtain ⟨r, hr, h⟩ := Tr.get_val h
    rw [scan_Runes, sealF_eq] at hr
    have hd : scan_Runes_dec r = (j, rs) := by
      exact Option.some.inj h
    refine FnPost.modes.1 (fn_sound (kitOk_of eqOk mixed known2) (by kernel_rfl) inner ((scan_Runes_E _).trans hr) ?_)
    intro i qs he
    unfold scan_Runes_enc at he
    split at he <;> cases he <;> (cases hd; exact ⟨rfl, rfl⟩)
  · cases h

noncomputable def ms3 : List (FuncId × Mode U) := (12, scan_Runes_md) :: ms2

theorem known3 : Known kk anyEnv (modesOf ms3) := known_cons (by kernel_rfl) scan_Runes_post known2

noncomputable def unicode_utf8_ValidRune_sh : StSh := ⟨⟨[0], [], []⟩, [.t (.int .i32)], []⟩

noncomputable def unicode_utf8_ValidRune_os : List StSh := [⟨⟨[0], [], []⟩, [.t .bool], []⟩]

noncomputable def unicode_utf8_ValidRune_L : Nat → Option (Lift.Loop U) := fun n => none

noncomputable def unicode_utf8_ValidRune_enc : Nat → List (TV U) → Option (Bool)
  | 0, [⟨.bool, a0⟩] => some a0
  | _, _ => none

noncomputable def unicode_utf8_ValidRune_dec : Bool → Nat × List (TV U) := fun x => (0, [⟨.bool, x⟩])

noncomputable def unicode_utf8_ValidRune_tr : Bool → Tr (Nat × List (TV U)) := fun r => (fun x => .ret (0, [⟨.bool, x⟩])) r

noncomputable def unicode_utf8_ValidRune_md : Mode U := ⟨unicode_utf8_ValidRune_sh, [], unicode_utf8_ValidRune_os, fun ls => match ls with | [⟨(.int .i32), a0⟩] => .get (unicode_utf8_ValidRune a0) unicode_utf8_ValidRune_tr | _ => .fail⟩

theorem unicode_utf8_ValidRune_E (a0 : Int) : (Kit.withModes kk (modesOf ms3)).fnEval unicode_utf8_ValidRune_L Try.f33 unicode_utf8_ValidRune_sh unicode_utf8_ValidRune_os [⟨(.int .i32), a0⟩] unicode_utf8_ValidRune_enc = unicode_utf8_ValidRune_f a0 := by kernel_rfl

theorem unicode_utf8_ValidRune_post : ∀ ls j rs, (unicode_utf8_ValidRune_md.sum ls).val = some (j, rs) → FnPost kk anyEnv 33 unicode_utf8_ValidRune_sh unicode_utf8_ValidRune_os ls j rs := by
  have inner : LoopsOk (Kit.withModes kk (modesOf ms3)) anyEnv Try.f33.ntmps unicode_utf8_ValidRune_L (bodyOf Try.f33) := by
    exact loopsOk_of (bs := []) (by kernel_rfl) trivial
  intro ls j rs h
  simp only [unicode_utf8_ValidRune_md] at h
  split at h
  · obtain ⟨r, hr, h⟩ := Tr.get_val h
    rw [unicode_utf8_ValidRune, sealF_eq] at hr
    have hd : unicode_utf8_ValidRune_dec r = (j, rs) := by
      exact Option.some.inj h
    refine FnPost.modes.1 (fn_sound (kitOk_of eqOk mixed known3) (by kernel_rfl) inner ((unicode_utf8_ValidRune_E _).trans hr) ?_)
    intro i qs he
    unfold unicode_utf8_ValidRune_enc at he
    split at he <;> cases he <;> (cases hd; exact ⟨rfl, rfl⟩)
  · cases h

noncomputable def ms4 : List (FuncId × Mode U) := (33, unicode_utf8_ValidRune_md) :: ms3

theorem known4 : Known kk anyEnv (modesOf ms4) := known_cons (by kernel_rfl) unicode_utf8_ValidRune_post known3

noncomputable def scan_whole_sh : StSh := ⟨⟨[0], [], []⟩, [.t (.int .i64)], []⟩

noncomputable def scan_whole_os : List StSh := [⟨⟨[0], [], []⟩, [.t .bool], []⟩]

noncomputable def scan_whole_L : Nat → Option (Lift.Loop U) := fun n => none

noncomputable def scan_whole_enc : Nat → List (TV U) → Option (Bool)
  | 0, [⟨.bool, a0⟩] => some a0
  | _, _ => none

noncomputable def scan_whole_dec : Bool → Nat × List (TV U) := fun x => (0, [⟨.bool, x⟩])

noncomputable def scan_whole_tr : Bool → Tr (Nat × List (TV U)) := fun r => (fun x => .ret (0, [⟨.bool, x⟩])) r

noncomputable def scan_whole_md : Mode U := ⟨scan_whole_sh, [], scan_whole_os, fun ls => match ls with | [⟨(.int .i64), a0⟩] => .get (scan_whole a0) scan_whole_tr | _ => .fail⟩

theorem scan_whole_E (a0 : Int) : (Kit.withModes kk (modesOf ms4)).fnEval scan_whole_L Try.f28 scan_whole_sh scan_whole_os [⟨(.int .i64), a0⟩] scan_whole_enc = scan_whole_f a0 := by kernel_rfl

theorem scan_whole_post : ∀ ls j rs, (scan_whole_md.sum ls).val = some (j, rs) → FnPost kk anyEnv 28 scan_whole_sh scan_whole_os ls j rs := by
  have inner : LoopsOk (Kit.withModes kk (modesOf ms4)) anyEnv Try.f28.ntmps scan_whole_L (bodyOf Try.f28) := by
    exact loopsOk_of (bs := []) (by kernel_rfl) trivial
  intro ls j rs h
  simp only [scan_whole_md] at h
  split at h
  · obtain ⟨r, hr, h⟩ := Tr.get_val h
    rw [scan_whole, sealF_eq] at hr
    have hd : scan_whole_dec r = (j, rs) := by
      exact Option.some.inj h
    refine FnPost.modes.1 (fn_sound (kitOk_of eqOk mixed known4) (by kernel_rfl) inner ((scan_whole_E _).trans hr) ?_)
    intro i qs he
    unfold scan_whole_enc at he
    split at he <;> cases he <;> (cases hd; exact ⟨rfl, rfl⟩)
  · cases h

noncomputable def ms5 : List (FuncId × Mode U) := (28, scan_whole_md) :: ms4

theorem known5 : Known kk anyEnv (modesOf ms5) := known_cons (by kernel_rfl) scan_whole_post known4

noncomputable def scan_Text_sh5 : StSh := ⟨⟨[4, 11, 12, 13], [], [⟨.slot 4, 4, 21, (.int .i32)⟩]⟩, [.oslc 4, .t (.slc (.int .i64)), .t (.int .i64), .t (.int .i64)], [.row 21 (.int .i32)]⟩

noncomputable def scan_Text_o5 : List Out := [⟨.ret, ⟨⟨[2, 3], [], []⟩, [.t .str, .t (.int .i64)], []⟩⟩, ⟨.exit 0, ⟨⟨[4], [], [⟨.slot 4, 4, 21, (.int .i32)⟩]⟩, [.oslc 4], [.row 21 (.int .i32)]⟩⟩]

noncomputable def scan_Text_b5 : Code := (nthLoop (bodyOf Try.f17) 0)

noncomputable def scan_Text_L5 : Nat → Option (Lift.Loop U) := fun n => none

noncomputable def scan_Text_rec5 (rec : List (Int) → Int → Int → List (Int) → Option (((List UInt8) × Int) ⊕ ((List (Int))))) : List (TV U) → Option (((List UInt8) × Int) ⊕ ((List (Int))))
  | [⟨(.slc (.int .i64)), a0⟩, ⟨(.int .i64), a1⟩, ⟨(.int .i64), a2⟩, ⟨(.slc (.int .i32)), a3⟩] => rec a0 a1 a2 a3
  | _ => none

noncomputable def scan_Text_enc5 : Nat → List (TV U) → Option (((List UInt8) × Int) ⊕ ((List (Int))))
  | 0, [⟨.str, a0⟩, ⟨(.int .i64), a1⟩] => some (.inl (a0, a1))
  | 1, [⟨(.slc (.int .i32)), a0⟩] => some (.inr a0)
  | _, _ => none

noncomputable def scan_Text_dec5 : ((List UInt8) × Int) ⊕ ((List (Int))) → Nat × List (TV U) := fun r => match r with | (.inl x) => (0, [⟨.str, x.1⟩, ⟨(.int .i64), x.2⟩]) | (.inr x) => (1, [⟨(.slc (.int .i32)), x⟩])

noncomputable def scan_Text_tr5 : ((List UInt8) × Int) ⊕ ((List (Int))) → Tr (Nat × List (TV U)) := fun r => .alt r (fun x => .ret (0, [⟨.str, x.1⟩, ⟨(.int .i64), x.2⟩])) (fun y => (fun x => .ret (1, [⟨(.slc (.int .i32)), x⟩])) y)

noncomputable def scan_Text_lp5 : Lift.Loop U := ⟨scan_Text_sh5, scan_Text_o5, fun ls => match ls with | [⟨(.slc (.int .i64)), a0⟩, ⟨(.int .i64), a1⟩, ⟨(.int .i64), a2⟩, ⟨(.slc (.int .i32)), a3⟩] => .get (scan_Text_l5 a0 a1 a2 a3) scan_Text_tr5 | _ => .fail⟩

theorem scan_Text_E5 (rec : List (Int) → Int → Int → List (Int) → Option (((List UInt8) × Int) ⊕ ((List (Int))))) (a0 : List (Int)) (a1 : Int) (a2 : Int) (a3 : List (Int)) : (Kit.withModes kk (modesOf ms5)).turn Try.f17.ntmps scan_Text_L5 scan_Text_sh5 scan_Text_o5 scan_Text_b5 [⟨(.slc (.int .i64)), a0⟩, ⟨(.int .i64), a1⟩, ⟨(.int .i64), a2⟩, ⟨(.slc (.int .i32)), a3⟩] (scan_Text_rec5 rec) scan_Text_enc5 = scan_Text_t5 rec a0 a1 a2 a3 := by kernel_rfl

theorem scan_Text_ok5 : ∀ ls j rs, (scan_Text_lp5.sum ls).val = some (j, rs) → RoundPost kk anyEnv Try.f17.ntmps scan_Text_b5 scan_Text_lp5.sh scan_Text_lp5.outs ls j rs := by
  have inner : LoopsOk (Kit.withModes kk (modesOf ms5)) anyEnv Try.f17.ntmps scan_Text_L5 scan_Text_b5 := by
    exact loopsOk_of (bs := []) (by kernel_rfl) trivial
  have key : ∀ n a0 a1 a2 a3 r j rs, scan_Text_i5 n a0 a1 a2 a3 = some r → scan_Text_dec5 r = (j, rs) → RoundPost kk anyEnv Try.f17.ntmps scan_Text_b5 scan_Text_sh5 scan_Text_o5 [⟨(.slc (.int .i64)), a0⟩, ⟨(.int .i64), a1⟩, ⟨(.int .i64), a2⟩, ⟨(.slc (.int .i32)), a3⟩] j rs := by
    intro n
    induction n with
    | zero => intro a0 a1 a2 a3 r j rs h; cases h
    | succ n ih =>
      intro a0 a1 a2 a3 r j rs h hd
      refine RoundPost.modes.1 (turn_sound (kitOk_of eqOk mixed known5) inner ((scan_Text_E5 (scan_Text_i5 n) a0 a1 a2 a3).trans h) (fun q hq => RoundPost.modes.2 ?_) ?_)
      · unfold scan_Text_rec5 at hq
        split at hq
        · exact ih _ _ _ _ r j rs hq hd
        · cases hq
      · intro i qs he
        unfold scan_Text_enc5 at he
        split at he <;> cases he <;> (cases hd; exact ⟨rfl, rfl⟩)
  intro ls j rs h
  simp only [scan_Text_lp5] at h
  split at h
  · obtain ⟨r, hr, h⟩ := Tr.get_val h
    rw [scan_Text_l5, sealF_eq] at hr
    refine key fuel _ _ _ _ r j rs hr ?_
    rcases r with r | r <;> exact Option.some.inj h
  · cases h

noncomputable def scan_Text_sh : StSh := ⟨⟨[0], [], []⟩, [.t (.slc (.int .i64))], []⟩

noncomputable def scan_Text_os : List StSh := [⟨⟨[0, 1], [], []⟩, [.t .str, .t (.int .i64)], []⟩]

noncomputable def scan_Text_L : Nat → Option (Lift.Loop U) := fun n => bif Nat.beq n 5 then some scan_Text_lp5 else none

noncomputable def scan_Text_enc : Nat → List (TV U) → Option ((List UInt8) × Int)
  | 0, [⟨.str, a0⟩, ⟨(.int .i64), a1⟩] => some (a0, a1)
  | _, _ => none

noncomputable def scan_Text_dec : (List UInt8) × Int → Nat × List (TV U) := fun x => (0, [⟨.str, x.1⟩, ⟨(.int .i64), x.2⟩])

noncomputable def scan_Text_tr : (List UInt8) × Int → Tr (Nat × List (TV U)) := fun r => (fun x => .ret (0, [⟨.str, x.1⟩, ⟨(.int .i64), x.2⟩])) r

noncomputable def scan_Text_md : Mode U := ⟨scan_Text_sh, [], scan_Text_os, fun ls => match ls with | [⟨(.slc (.int .i64)), a0⟩] => .get (scan_Text a0) scan_Text_tr | _ => .fail⟩

theorem scan_Text_E (a0 : List (Int)) : (Kit.withModes kk (modesOf ms5)).fnEval scan_Text_L Try.f17 scan_Text_sh scan_Text_os [⟨(.slc (.int .i64)), a0⟩] scan_Text_enc = scan_Text_f a0 := by kernel_rfl

theorem scan_Text_post : ∀ ls j rs, (scan_Text_md.sum ls).val = some (j, rs) → FnPost kk anyEnv 17 scan_Text_sh scan_Text_os ls j rs := by
  have inner : LoopsOk (Kit.withModes kk (modesOf ms5)) anyEnv Try.f17.ntmps scan_Text_L (bodyOf Try.f17) := by
    exact loopsOk_of (bs := [scan_Text_b5]) (by kernel_rfl) ⟨.inr ⟨_, by kernel_rfl, LoopOk.of_round scan_Text_ok5⟩, trivial⟩
  intro ls j rs h
  simp only [scan_Text_md] at h
  split at h
  · obtain ⟨r, hr, h⟩ := Tr.get_val h
    rw [scan_Text, sealF_eq] at hr
    have hd : scan_Text_dec r = (j, rs) := by
      exact Option.some.inj h
    refine FnPost.modes.1 (fn_sound (kitOk_of eqOk mixed known5) (by kernel_rfl) inner ((scan_Text_E _).trans hr) ?_)
    intro i qs he
    unfold scan_Text_enc at he
    split at he <;> cases he <;> (cases hd; exact ⟨rfl, rfl⟩)
  · cases h

noncomputable def ms6 : List (FuncId × Mode U) := (17, scan_Text_md) :: ms5

theorem known6 : Known kk anyEnv (modesOf ms6) := known_cons (by kernel_rfl) scan_Text_post known5

noncomputable def scan_Place_sh8 : StSh := ⟨⟨[1, 4, 33, 34, 35], [4], [⟨.slot 33, 33, 31, (.st 31)⟩]⟩, [.t (.int .i64), .ptr 4 0, .oslc 33, .t (.int .i64), .t (.int .i64)], [.blk [.t (.int .i64), .t (.int .i64), .t (.int .i64), .t (.int .i64)], .row 31 (.st 31)]⟩

noncomputable def scan_Place_o8 : List Out := [⟨.ret, ⟨⟨[4, 5], [4], []⟩, [.ptr 4 0, .t (.int .i64)], [.blk [.t (.int .i64), .t (.int .i64), .t (.int .i64), .t (.int .i64)]]⟩⟩, ⟨.exit 0, ⟨⟨[4], [4], []⟩, [.ptr 4 0], [.blk [.t (.int .i64), .t (.int .i64), .t (.int .i64), .t (.int .i64)]]⟩⟩]

noncomputable def scan_Place_b8 : Code := (nthLoop (bodyOf Try.f15) 0)

noncomputable def scan_Place_L8 : Nat → Option (Lift.Loop U) := fun n => none

noncomputable def scan_Place_rec8 (rec : Int → Int → Int → Int → Int → Int → Int → List (Spot) → Option ((Int × Int × Int × Int × Int) ⊕ (Int × Int × Int × Int))) : List (TV U) → Option ((Int × Int × Int × Int × Int) ⊕ (Int × Int × Int × Int))
  | [⟨(.int .i64), a0⟩, ⟨(.int .i64), a1⟩, ⟨(.int .i64), a2⟩, ⟨(.int .i64), a3⟩, ⟨(.int .i64), a4⟩, ⟨(.int .i64), a5⟩, ⟨(.int .i64), a6⟩, ⟨(.slc (.st 31)), a7⟩] => rec a0 a1 a2 a3 a4 a5 a6 a7
  | _ => none

noncomputable def scan_Place_enc8 : Nat → List (TV U) → Option ((Int × Int × Int × Int × Int) ⊕ (Int × Int × Int × Int))
  | 0, [⟨(.int .i64), a0⟩, ⟨(.int .i64), a1⟩, ⟨(.int .i64), a2⟩, ⟨(.int .i64), a3⟩, ⟨(.int .i64), a4⟩] => some (.inl (a0, a1, a2, a3, a4))
  | 1, [⟨(.int .i64), a0⟩, ⟨(.int .i64), a1⟩, ⟨(.int .i64), a2⟩, ⟨(.int .i64), a3⟩] => some (.inr (a0, a1, a2, a3))
  | _, _ => none

noncomputable def scan_Place_dec8 : (Int × Int × Int × Int × Int) ⊕ (Int × Int × Int × Int) → Nat × List (TV U) := fun r => match r with | (.inl x) => (0, [⟨(.int .i64), x.1⟩, ⟨(.int .i64), x.2.1⟩, ⟨(.int .i64), x.2.2.1⟩, ⟨(.int .i64), x.2.2.2.1⟩, ⟨(.int .i64), x.2.2.2.2⟩]) | (.inr x) => (1, [⟨(.int .i64), x.1⟩, ⟨(.int .i64), x.2.1⟩, ⟨(.int .i64), x.2.2.1⟩, ⟨(.int .i64), x.2.2.2⟩])

noncomputable def scan_Place_tr8 : (Int × Int × Int × Int × Int) ⊕ (Int × Int × Int × Int) → Tr (Nat × List (TV U)) := fun r => .alt r (fun x => .ret (0, [⟨(.int .i64), x.1⟩, ⟨(.int .i64), x.2.1⟩, ⟨(.int .i64), x.2.2.1⟩, ⟨(.int .i64), x.2.2.2.1⟩, ⟨(.int .i64), x.2.2.2.2⟩])) (fun y => (fun x => .ret (1, [⟨(.int .i64), x.1⟩, ⟨(.int .i64), x.2.1⟩, ⟨(.int .i64), x.2.2.1⟩, ⟨(.int .i64), x.2.2.2⟩])) y)

noncomputable def scan_Place_lp8 : Lift.Loop U := ⟨scan_Place_sh8, scan_Place_o8, fun ls => match ls with | [⟨(.int .i64), a0⟩, ⟨(.int .i64), a1⟩, ⟨(.int .i64), a2⟩, ⟨(.int .i64), a3⟩, ⟨(.int .i64), a4⟩, ⟨(.int .i64), a5⟩, ⟨(.int .i64), a6⟩, ⟨(.slc (.st 31)), a7⟩] => .get (scan_Place_l8 a0 a1 a2 a3 a4 a5 a6 a7) scan_Place_tr8 | _ => .fail⟩

theorem scan_Place_E8 (rec : Int → Int → Int → Int → Int → Int → Int → List (Spot) → Option ((Int × Int × Int × Int × Int) ⊕ (Int × Int × Int × Int))) (a0 : Int) (a1 : Int) (a2 : Int) (a3 : Int) (a4 : Int) (a5 : Int) (a6 : Int) (a7 : List (Spot)) : (Kit.withModes kk (modesOf ms6)).turn Try.f15.ntmps scan_Place_L8 scan_Place_sh8 scan_Place_o8 scan_Place_b8 [⟨(.int .i64), a0⟩, ⟨(.int .i64), a1⟩, ⟨(.int .i64), a2⟩, ⟨(.int .i64), a3⟩, ⟨(.int .i64), a4⟩, ⟨(.int .i64), a5⟩, ⟨(.int .i64), a6⟩, ⟨(.slc (.st 31)), a7⟩] (scan_Place_rec8 rec) scan_Place_enc8 = scan_Place_t8 rec a0 a1 a2 a3 a4 a5 a6 a7 := by kernel_rfl

theorem scan_Place_ok8 : ∀ ls j rs, (scan_Place_lp8.sum ls).val = some (j, rs) → RoundPost kk anyEnv Try.f15.ntmps scan_Place_b8 scan_Place_lp8.sh scan_Place_lp8.outs ls j rs := by
  have inner : LoopsOk (Kit.withModes kk (modesOf ms6)) anyEnv Try.f15.ntmps scan_Place_L8 scan_Place_b8 := by
    exact loopsOk_of (bs := []) (by kernel_rfl) trivial
  have key : ∀ n a0 a1 a2 a3 a4 a5 a6 a7 r j rs, scan_Place_i8 n a0 a1 a2 a3 a4 a5 a6 a7 = some r → scan_Place_dec8 r = (j, rs) → RoundPost kk anyEnv Try.f15.ntmps scan_Place_b8 scan_Place_sh8 scan_Place_o8 [⟨(.int .i64), a0⟩, ⟨(.int .i64), a1⟩, ⟨(.int .i64), a2⟩, ⟨(.int .i64), a3⟩, ⟨(.int .i64), a4⟩, ⟨(.int .i64), a5⟩, ⟨(.int .i64), a6⟩, ⟨(.slc (.st 31)), a7⟩] j rs := by
    intro n
    induction n with
    | zero => intro a0 a1 a2 a3 a4 a5 a6 a7 r j rs h; cases h
    | succ n ih =>
      intro a0 a1 a2 a3 a4 a5 a6 a7 r j rs h hd
      refine RoundPost.modes.1 (turn_sound (kitOk_of eqOk mixed known6) inner ((scan_Place_E8 (scan_Place_i8 n) a0 a1 a2 a3 a4 a5 a6 a7).trans h) (fun q hq => RoundPost.modes.2 ?_) ?_)
      · unfold scan_Place_rec8 at hq
        split at hq
        · exact ih _ _ _ _ _ _ _ _ r j rs hq hd
        · cases hq
      · intro i qs he
        unfold scan_Place_enc8 at he
        split at he <;> cases he <;> (cases hd; exact ⟨rfl, rfl⟩)
  intro ls j rs h
  simp only [scan_Place_lp8] at h
  split at h
  · obtain ⟨r, hr, h⟩ := Tr.get_val h
    rw [scan_Place_l8, sealF_eq] at hr
    refine key fuel _ _ _ _ _ _ _ _ r j rs hr ?_
    rcases r with r | r <;> exact Option.some.inj h
  · cases h

noncomputable def scan_Place_sh : StSh := ⟨⟨[0, 1], [], []⟩, [.t .str, .t (.int .i64)], []⟩

noncomputable def scan_Place_os : List StSh := [⟨⟨[0, 1], [], []⟩, [.t (.st 31), .t (.int .i64)], []⟩]

noncomputable def scan_Place_L : Nat → Option (Lift.Loop U) := fun n => bif Nat.beq n 8 then some scan_Place_lp8 else none

noncomputable def scan_Place_enc : Nat → List (TV U) → Option (Spot × Int)
  | 0, [⟨(.st 31), a0⟩, ⟨(.int .i64), a1⟩] => some (a0, a1)
  | _, _ => none

noncomputable def scan_Place_dec : Spot × Int → Nat × List (TV U) := fun x => (0, [⟨(.st 31), x.1⟩, ⟨(.int .i64), x.2⟩])

noncomputable def scan_Place_tr : Spot × Int → Tr (Nat × List (TV U)) := fun r => (fun x => .ret (0, [⟨(.st 31), x.1⟩, ⟨(.int .i64), x.2⟩])) r

noncomputable def scan_Place_md : Mode U := ⟨scan_Place_sh, [], scan_Place_os, fun ls => match ls with | [⟨.str, a0⟩, ⟨(.int .i64), a1⟩] => .get (scan_Place a0 a1) scan_Place_tr | _ => .fail⟩

theorem scan_Place_E (a0 : List UInt8) (a1 : Int) : (Kit.withModes kk (modesOf ms6)).fnEval scan_Place_L Try.f15 scan_Place_sh scan_Place_os [⟨.str, a0⟩, ⟨(.int .i64), a1⟩] scan_Place_enc = scan_Place_f a0 a1 := by kernel_rfl

theorem scan_Place_post : ∀ ls j rs, (scan_Place_md.sum ls).val = some (j, rs) → FnPost kk anyEnv 15 scan_Place_sh scan_Place_os ls j rs := by
  have inner : LoopsOk (Kit.withModes kk (modesOf ms6)) anyEnv Try.f15.ntmps scan_Place_L (bodyOf Try.f15) := by
    exact loopsOk_of (bs := [scan_Place_b8]) (by kernel_rfl) ⟨.inr ⟨_, by kernel_rfl, LoopOk.of_round scan_Place_ok8⟩, trivial⟩
  intro ls j rs h
  simp only [scan_Place_md] at h
  split at h
  · obtain ⟨r, hr, h⟩ := Tr.get_val h
    rw [scan_Place, sealF_eq] at hr
    have hd : scan_Place_dec r = (j, rs) := by
      exact Option.some.inj h
    refine FnPost.modes.1 (fn_sound (kitOk_of eqOk mixed known6) (by kernel_rfl) inner ((scan_Place_E _ _).trans hr) ?_)
    intro i qs he
    unfold scan_Place_enc at he
    split at he <;> cases he <;> (cases hd; exact ⟨rfl, rfl⟩)
  · cases h

noncomputable def ms7 : List (FuncId × Mode U) := (15, scan_Place_md) :: ms6

theorem known7 : Known kk anyEnv (modesOf ms7) := known_cons (by kernel_rfl) scan_Place_post known6

noncomputable def racetreelaw01_shown_sh : StSh := ⟨⟨[], [], []⟩, [], []⟩

noncomputable def racetreelaw01_shown_os : List StSh := [⟨⟨[0], [], []⟩, [.t .bool], []⟩]

noncomputable def racetreelaw01_shown_L : Nat → Option (Lift.Loop U) := fun n => none

noncomputable def racetreelaw01_shown_enc : Nat → List (TV U) → Option (Bool)
  | 0, [⟨.bool, a0⟩] => some a0
  | _, _ => none

noncomputable def racetreelaw01_shown_dec : Bool → Nat × List (TV U) := fun x => (0, [⟨.bool, x⟩])

noncomputable def racetreelaw01_shown_tr : Bool → Tr (Nat × List (TV U)) := fun r => (fun x => .ret (0, [⟨.bool, x⟩])) r

noncomputable def racetreelaw01_shown_md : Mode U := ⟨racetreelaw01_shown_sh, [], racetreelaw01_shown_os, fun ls => match ls with | [] => .get (racetreelaw01_shown) racetreelaw01_shown_tr | _ => .fail⟩

theorem racetreelaw01_shown_E : (Kit.withModes kk (modesOf ms7)).fnEval racetreelaw01_shown_L Try.f10 racetreelaw01_shown_sh racetreelaw01_shown_os [] racetreelaw01_shown_enc = racetreelaw01_shown_f := by kernel_rfl

theorem racetreelaw01_shown_post : ∀ ls j rs, (racetreelaw01_shown_md.sum ls).val = some (j, rs) → FnPost kk anyEnv 10 racetreelaw01_shown_sh racetreelaw01_shown_os ls j rs := by
  have inner : LoopsOk (Kit.withModes kk (modesOf ms7)) anyEnv Try.f10.ntmps racetreelaw01_shown_L (bodyOf Try.f10) := by
    exact loopsOk_of (bs := []) (by kernel_rfl) trivial
  intro ls j rs h
  simp only [racetreelaw01_shown_md] at h
  split at h
  · obtain ⟨r, hr, h⟩ := Tr.get_val h
    rw [racetreelaw01_shown, sealF_eq] at hr
    have hd : racetreelaw01_shown_dec r = (j, rs) := by
      exact Option.some.inj h
    refine FnPost.modes.1 (fn_sound (kitOk_of eqOk mixed known7) (by kernel_rfl) inner ((racetreelaw01_shown_E).trans hr) ?_)
    intro i qs he
    unfold racetreelaw01_shown_enc at he
    split at he <;> cases he <;> (cases hd; exact ⟨rfl, rfl⟩)
  · cases h

noncomputable def ms8 : List (FuncId × Mode U) := (10, racetreelaw01_shown_md) :: ms7

theorem known8 : Known kk anyEnv (modesOf ms8) := known_cons (by kernel_rfl) racetreelaw01_shown_post known7

noncomputable def scan_Letter_sh : StSh := ⟨⟨[0], [], []⟩, [.t (.int .i64)], []⟩

noncomputable def scan_Letter_os : List StSh := [⟨⟨[0], [], []⟩, [.t .bool], []⟩]

noncomputable def scan_Letter_L : Nat → Option (Lift.Loop U) := fun n => none

noncomputable def scan_Letter_enc : Nat → List (TV U) → Option (Bool)
  | 0, [⟨.bool, a0⟩] => some a0
  | _, _ => none

noncomputable def scan_Letter_dec : Bool → Nat × List (TV U) := fun x => (0, [⟨.bool, x⟩])

noncomputable def scan_Letter_tr : Bool → Tr (Nat × List (TV U)) := fun r => (fun x => .ret (0, [⟨.bool, x⟩])) r

noncomputable def scan_Letter_md : Mode U := ⟨scan_Letter_sh, [], scan_Letter_os, fun ls => match ls with | [⟨(.int .i64), a0⟩] => .get (scan_Letter a0) scan_Letter_tr | _ => .fail⟩

theorem scan_Letter_E (a0 : Int) : (Kit.withModes kk (modesOf ms8)).fnEval scan_Letter_L Try.f18 scan_Letter_sh scan_Letter_os [⟨(.int .i64), a0⟩] scan_Letter_enc = scan_Letter_f a0 := by kernel_rfl

theorem scan_Letter_post : ∀ ls j rs, (scan_Letter_md.sum ls).val = some (j, rs) → FnPost kk anyEnv 18 scan_Letter_sh scan_Letter_os ls j rs := by
  have inner : LoopsOk (Kit.withModes kk (modesOf ms8)) anyEnv Try.f18.ntmps scan_Letter_L (bodyOf Try.f18) := by
    exact loopsOk_of (bs := []) (by kernel_rfl) trivial
  intro ls j rs h
  simp only [scan_Letter_md] at h
  split at h
  · obtain ⟨r, hr, h⟩ := Tr.get_val h
    rw [scan_Letter, sealF_eq] at hr
    have hd : scan_Letter_dec r = (j, rs) := by
      exact Option.some.inj h
    refine FnPost.modes.1 (fn_sound (kitOk_of eqOk mixed known8) (by kernel_rfl) inner ((scan_Letter_E _).trans hr) ?_)
    intro i qs he
    unfold scan_Letter_enc at he
    split at he <;> cases he <;> (cases hd; exact ⟨rfl, rfl⟩)
  · cases h

noncomputable def ms9 : List (FuncId × Mode U) := (18, scan_Letter_md) :: ms8

theorem known9 : Known kk anyEnv (modesOf ms9) := known_cons (by kernel_rfl) scan_Letter_post known8

noncomputable def scan_Digit_sh : StSh := ⟨⟨[0], [], []⟩, [.t (.int .i64)], []⟩

noncomputable def scan_Digit_os : List StSh := [⟨⟨[0], [], []⟩, [.t .bool], []⟩]

noncomputable def scan_Digit_L : Nat → Option (Lift.Loop U) := fun n => none

noncomputable def scan_Digit_enc : Nat → List (TV U) → Option (Bool)
  | 0, [⟨.bool, a0⟩] => some a0
  | _, _ => none

noncomputable def scan_Digit_dec : Bool → Nat × List (TV U) := fun x => (0, [⟨.bool, x⟩])

noncomputable def scan_Digit_tr : Bool → Tr (Nat × List (TV U)) := fun r => (fun x => .ret (0, [⟨.bool, x⟩])) r

noncomputable def scan_Digit_md : Mode U := ⟨scan_Digit_sh, [], scan_Digit_os, fun ls => match ls with | [⟨(.int .i64), a0⟩] => .get (scan_Digit a0) scan_Digit_tr | _ => .fail⟩

theorem scan_Digit_E (a0 : Int) : (Kit.withModes kk (modesOf ms9)).fnEval scan_Digit_L Try.f19 scan_Digit_sh scan_Digit_os [⟨(.int .i64), a0⟩] scan_Digit_enc = scan_Digit_f a0 := by kernel_rfl

theorem scan_Digit_post : ∀ ls j rs, (scan_Digit_md.sum ls).val = some (j, rs) → FnPost kk anyEnv 19 scan_Digit_sh scan_Digit_os ls j rs := by
  have inner : LoopsOk (Kit.withModes kk (modesOf ms9)) anyEnv Try.f19.ntmps scan_Digit_L (bodyOf Try.f19) := by
    exact loopsOk_of (bs := []) (by kernel_rfl) trivial
  intro ls j rs h
  simp only [scan_Digit_md] at h
  split at h
  · obtain ⟨r, hr, h⟩ := Tr.get_val h
    rw [scan_Digit, sealF_eq] at hr
    have hd : scan_Digit_dec r = (j, rs) := by
      exact Option.some.inj h
    refine FnPost.modes.1 (fn_sound (kitOk_of eqOk mixed known9) (by kernel_rfl) inner ((scan_Digit_E _).trans hr) ?_)
    intro i qs he
    unfold scan_Digit_enc at he
    split at he <;> cases he <;> (cases hd; exact ⟨rfl, rfl⟩)
  · cases h

noncomputable def ms10 : List (FuncId × Mode U) := (19, scan_Digit_md) :: ms9

theorem known10 : Known kk anyEnv (modesOf ms10) := known_cons (by kernel_rfl) scan_Digit_post known9

noncomputable def scan_Blank_sh : StSh := ⟨⟨[0], [], []⟩, [.t (.int .i64)], []⟩

noncomputable def scan_Blank_os : List StSh := [⟨⟨[0], [], []⟩, [.t .bool], []⟩]

noncomputable def scan_Blank_L : Nat → Option (Lift.Loop U) := fun n => none

noncomputable def scan_Blank_enc : Nat → List (TV U) → Option (Bool)
  | 0, [⟨.bool, a0⟩] => some a0
  | _, _ => none

noncomputable def scan_Blank_dec : Bool → Nat × List (TV U) := fun x => (0, [⟨.bool, x⟩])

noncomputable def scan_Blank_tr : Bool → Tr (Nat × List (TV U)) := fun r => (fun x => .ret (0, [⟨.bool, x⟩])) r

noncomputable def scan_Blank_md : Mode U := ⟨scan_Blank_sh, [], scan_Blank_os, fun ls => match ls with | [⟨(.int .i64), a0⟩] => .get (scan_Blank a0) scan_Blank_tr | _ => .fail⟩

theorem scan_Blank_E (a0 : Int) : (Kit.withModes kk (modesOf ms10)).fnEval scan_Blank_L Try.f20 scan_Blank_sh scan_Blank_os [⟨(.int .i64), a0⟩] scan_Blank_enc = scan_Blank_f a0 := by kernel_rfl

theorem scan_Blank_post : ∀ ls j rs, (scan_Blank_md.sum ls).val = some (j, rs) → FnPost kk anyEnv 20 scan_Blank_sh scan_Blank_os ls j rs := by
  have inner : LoopsOk (Kit.withModes kk (modesOf ms10)) anyEnv Try.f20.ntmps scan_Blank_L (bodyOf Try.f20) := by
    exact loopsOk_of (bs := []) (by kernel_rfl) trivial
  intro ls j rs h
  simp only [scan_Blank_md] at h
  split at h
  · obtain ⟨r, hr, h⟩ := Tr.get_val h
    rw [scan_Blank, sealF_eq] at hr
    have hd : scan_Blank_dec r = (j, rs) := by
      exact Option.some.inj h
    refine FnPost.modes.1 (fn_sound (kitOk_of eqOk mixed known10) (by kernel_rfl) inner ((scan_Blank_E _).trans hr) ?_)
    intro i qs he
    unfold scan_Blank_enc at he
    split at he <;> cases he <;> (cases hd; exact ⟨rfl, rfl⟩)
  · cases h

noncomputable def ms11 : List (FuncId × Mode U) := (20, scan_Blank_md) :: ms10

theorem known11 : Known kk anyEnv (modesOf ms11) := known_cons (by kernel_rfl) scan_Blank_post known10

noncomputable def racetreeref01_IsRune_sh : StSh := ⟨⟨[0], [], []⟩, [.t (.int .i64)], []⟩

noncomputable def racetreeref01_IsRune_os : List StSh := [⟨⟨[0], [], []⟩, [.t .bool], []⟩]

noncomputable def racetreeref01_IsRune_L : Nat → Option (Lift.Loop U) := fun n => none

noncomputable def racetreeref01_IsRune_enc : Nat → List (TV U) → Option (Bool)
  | 0, [⟨.bool, a0⟩] => some a0
  | _, _ => none

noncomputable def racetreeref01_IsRune_dec : Bool → Nat × List (TV U) := fun x => (0, [⟨.bool, x⟩])

noncomputable def racetreeref01_IsRune_tr : Bool → Tr (Nat × List (TV U)) := fun r => (fun x => .ret (0, [⟨.bool, x⟩])) r

noncomputable def racetreeref01_IsRune_md : Mode U := ⟨racetreeref01_IsRune_sh, [], racetreeref01_IsRune_os, fun ls => match ls with | [⟨(.int .i64), a0⟩] => .get (racetreeref01_IsRune a0) racetreeref01_IsRune_tr | _ => .fail⟩

theorem racetreeref01_IsRune_E (a0 : Int) : (Kit.withModes kk (modesOf ms11)).fnEval racetreeref01_IsRune_L Try.f26 racetreeref01_IsRune_sh racetreeref01_IsRune_os [⟨(.int .i64), a0⟩] racetreeref01_IsRune_enc = racetreeref01_IsRune_f a0 := by kernel_rfl

theorem racetreeref01_IsRune_post : ∀ ls j rs, (racetreeref01_IsRune_md.sum ls).val = some (j, rs) → FnPost kk anyEnv 26 racetreeref01_IsRune_sh racetreeref01_IsRune_os ls j rs := by
  have inner : LoopsOk (Kit.withModes kk (modesOf ms11)) anyEnv Try.f26.ntmps racetreeref01_IsRune_L (bodyOf Try.f26) := by
    exact loopsOk_of (bs := []) (by kernel_rfl) trivial
  intro ls j rs h
  simp only [racetreeref01_IsRune_md] at h
  split at h
  · obtain ⟨r, hr, h⟩ := Tr.get_val h
    rw [racetreeref01_IsRune, sealF_eq] at hr
    have hd : racetreeref01_IsRune_dec r = (j, rs) := by
      exact Option.some.inj h
    refine FnPost.modes.1 (fn_sound (kitOk_of eqOk mixed known11) (by kernel_rfl) inner ((racetreeref01_IsRune_E _).trans hr) ?_)
    intro i qs he
    unfold racetreeref01_IsRune_enc at he
    split at he <;> cases he <;> (cases hd; exact ⟨rfl, rfl⟩)
  · cases h

noncomputable def ms12 : List (FuncId × Mode U) := (26, racetreeref01_IsRune_md) :: ms11

theorem known12 : Known kk anyEnv (modesOf ms12) := known_cons (by kernel_rfl) racetreeref01_IsRune_post known11

noncomputable def racetreeref01_Letter_sh : StSh := ⟨⟨[0], [], []⟩, [.t (.int .i64)], []⟩

noncomputable def racetreeref01_Letter_os : List StSh := [⟨⟨[0], [], []⟩, [.t .bool], []⟩]

noncomputable def racetreeref01_Letter_L : Nat → Option (Lift.Loop U) := fun n => none

noncomputable def racetreeref01_Letter_enc : Nat → List (TV U) → Option (Bool)
  | 0, [⟨.bool, a0⟩] => some a0
  | _, _ => none

noncomputable def racetreeref01_Letter_dec : Bool → Nat × List (TV U) := fun x => (0, [⟨.bool, x⟩])

noncomputable def racetreeref01_Letter_tr : Bool → Tr (Nat × List (TV U)) := fun r => (fun x => .ret (0, [⟨.bool, x⟩])) r

noncomputable def racetreeref01_Letter_md : Mode U := ⟨racetreeref01_Letter_sh, [], racetreeref01_Letter_os, fun ls => match ls with | [⟨(.int .i64), a0⟩] => .get (racetreeref01_Letter a0) racetreeref01_Letter_tr | _ => .fail⟩

theorem racetreeref01_Letter_E (a0 : Int) : (Kit.withModes kk (modesOf ms12)).fnEval racetreeref01_Letter_L Try.f21 racetreeref01_Letter_sh racetreeref01_Letter_os [⟨(.int .i64), a0⟩] racetreeref01_Letter_enc = racetreeref01_Letter_f a0 := by kernel_rfl

theorem racetreeref01_Letter_post : ∀ ls j rs, (racetreeref01_Letter_md.sum ls).val = some (j, rs) → FnPost kk anyEnv 21 racetreeref01_Letter_sh racetreeref01_Letter_os ls j rs := by
  have inner : LoopsOk (Kit.withModes kk (modesOf ms12)) anyEnv Try.f21.ntmps racetreeref01_Letter_L (bodyOf Try.f21) := by
    exact loopsOk_of (bs := []) (by kernel_rfl) trivial
  intro ls j rs h
  simp only [racetreeref01_Letter_md] at h
  split at h
  · obtain ⟨r, hr, h⟩ := Tr.get_val h
    rw [racetreeref01_Letter, sealF_eq] at hr
    have hd : racetreeref01_Letter_dec r = (j, rs) := by
      exact Option.some.inj h
    refine FnPost.modes.1 (fn_sound (kitOk_of eqOk mixed known12) (by kernel_rfl) inner ((racetreeref01_Letter_E _).trans hr) ?_)
    intro i qs he
    unfold racetreeref01_Letter_enc at he
    split at he <;> cases he <;> (cases hd; exact ⟨rfl, rfl⟩)
  · cases h

noncomputable def ms13 : List (FuncId × Mode U) := (21, racetreeref01_Letter_md) :: ms12

theorem known13 : Known kk anyEnv (modesOf ms13) := known_cons (by kernel_rfl) racetreeref01_Letter_post known12

noncomputable def racetreeref01_Digit_sh : StSh := ⟨⟨[0], [], []⟩, [.t (.int .i64)], []⟩

noncomputable def racetreeref01_Digit_os : List StSh := [⟨⟨[0], [], []⟩, [.t .bool], []⟩]

noncomputable def racetreeref01_Digit_L : Nat → Option (Lift.Loop U) := fun n => none

noncomputable def racetreeref01_Digit_enc : Nat → List (TV U) → Option (Bool)
  | 0, [⟨.bool, a0⟩] => some a0
  | _, _ => none

noncomputable def racetreeref01_Digit_dec : Bool → Nat × List (TV U) := fun x => (0, [⟨.bool, x⟩])

noncomputable def racetreeref01_Digit_tr : Bool → Tr (Nat × List (TV U)) := fun r => (fun x => .ret (0, [⟨.bool, x⟩])) r

noncomputable def racetreeref01_Digit_md : Mode U := ⟨racetreeref01_Digit_sh, [], racetreeref01_Digit_os, fun ls => match ls with | [⟨(.int .i64), a0⟩] => .get (racetreeref01_Digit a0) racetreeref01_Digit_tr | _ => .fail⟩

theorem racetreeref01_Digit_E (a0 : Int) : (Kit.withModes kk (modesOf ms13)).fnEval racetreeref01_Digit_L Try.f22 racetreeref01_Digit_sh racetreeref01_Digit_os [⟨(.int .i64), a0⟩] racetreeref01_Digit_enc = racetreeref01_Digit_f a0 := by kernel_rfl

theorem racetreeref01_Digit_post : ∀ ls j rs, (racetreeref01_Digit_md.sum ls).val = some (j, rs) → FnPost kk anyEnv 22 racetreeref01_Digit_sh racetreeref01_Digit_os ls j rs := by
  have inner : LoopsOk (Kit.withModes kk (modesOf ms13)) anyEnv Try.f22.ntmps racetreeref01_Digit_L (bodyOf Try.f22) := by
    exact loopsOk_of (bs := []) (by kernel_rfl) trivial
  intro ls j rs h
  simp only [racetreeref01_Digit_md] at h
  split at h
  · obtain ⟨r, hr, h⟩ := Tr.get_val h
    rw [racetreeref01_Digit, sealF_eq] at hr
    have hd : racetreeref01_Digit_dec r = (j, rs) := by
      exact Option.some.inj h
    refine FnPost.modes.1 (fn_sound (kitOk_of eqOk mixed known13) (by kernel_rfl) inner ((racetreeref01_Digit_E _).trans hr) ?_)
    intro i qs he
    unfold racetreeref01_Digit_enc at he
    split at he <;> cases he <;> (cases hd; exact ⟨rfl, rfl⟩)
  · cases h

noncomputable def ms14 : List (FuncId × Mode U) := (22, racetreeref01_Digit_md) :: ms13

theorem known14 : Known kk anyEnv (modesOf ms14) := known_cons (by kernel_rfl) racetreeref01_Digit_post known13

noncomputable def racetreeref01_Blank_sh : StSh := ⟨⟨[0], [], []⟩, [.t (.int .i64)], []⟩

noncomputable def racetreeref01_Blank_os : List StSh := [⟨⟨[0], [], []⟩, [.t .bool], []⟩]

noncomputable def racetreeref01_Blank_L : Nat → Option (Lift.Loop U) := fun n => none

noncomputable def racetreeref01_Blank_enc : Nat → List (TV U) → Option (Bool)
  | 0, [⟨.bool, a0⟩] => some a0
  | _, _ => none

noncomputable def racetreeref01_Blank_dec : Bool → Nat × List (TV U) := fun x => (0, [⟨.bool, x⟩])

noncomputable def racetreeref01_Blank_tr : Bool → Tr (Nat × List (TV U)) := fun r => (fun x => .ret (0, [⟨.bool, x⟩])) r

noncomputable def racetreeref01_Blank_md : Mode U := ⟨racetreeref01_Blank_sh, [], racetreeref01_Blank_os, fun ls => match ls with | [⟨(.int .i64), a0⟩] => .get (racetreeref01_Blank a0) racetreeref01_Blank_tr | _ => .fail⟩

theorem racetreeref01_Blank_E (a0 : Int) : (Kit.withModes kk (modesOf ms14)).fnEval racetreeref01_Blank_L Try.f23 racetreeref01_Blank_sh racetreeref01_Blank_os [⟨(.int .i64), a0⟩] racetreeref01_Blank_enc = racetreeref01_Blank_f a0 := by kernel_rfl

theorem racetreeref01_Blank_post : ∀ ls j rs, (racetreeref01_Blank_md.sum ls).val = some (j, rs) → FnPost kk anyEnv 23 racetreeref01_Blank_sh racetreeref01_Blank_os ls j rs := by
  have inner : LoopsOk (Kit.withModes kk (modesOf ms14)) anyEnv Try.f23.ntmps racetreeref01_Blank_L (bodyOf Try.f23) := by
    exact loopsOk_of (bs := []) (by kernel_rfl) trivial
  intro ls j rs h
  simp only [racetreeref01_Blank_md] at h
  split at h
  · obtain ⟨r, hr, h⟩ := Tr.get_val h
    rw [racetreeref01_Blank, sealF_eq] at hr
    have hd : racetreeref01_Blank_dec r = (j, rs) := by
      exact Option.some.inj h
    refine FnPost.modes.1 (fn_sound (kitOk_of eqOk mixed known14) (by kernel_rfl) inner ((racetreeref01_Blank_E _).trans hr) ?_)
    intro i qs he
    unfold racetreeref01_Blank_enc at he
    split at he <;> cases he <;> (cases hd; exact ⟨rfl, rfl⟩)
  · cases h

noncomputable def ms15 : List (FuncId × Mode U) := (23, racetreeref01_Blank_md) :: ms14

theorem known15 : Known kk anyEnv (modesOf ms15) := known_cons (by kernel_rfl) racetreeref01_Blank_post known14

noncomputable def racetreelaw01_ScanClasses_sh : StSh := ⟨⟨[0], [], []⟩, [.t (.int .i64)], []⟩

noncomputable def racetreelaw01_ScanClasses_os : List StSh := [⟨⟨[0], [], []⟩, [.t .bool], []⟩]

noncomputable def racetreelaw01_ScanClasses_L : Nat → Option (Lift.Loop U) := fun n => none

noncomputable def racetreelaw01_ScanClasses_enc : Nat → List (TV U) → Option (Bool)
  | 0, [⟨.bool, a0⟩] => some a0
  | _, _ => none

noncomputable def racetreelaw01_ScanClasses_dec : Bool → Nat × List (TV U) := fun x => (0, [⟨.bool, x⟩])

noncomputable def racetreelaw01_ScanClasses_tr : Bool → Tr (Nat × List (TV U)) := fun r => (fun x => .ret (0, [⟨.bool, x⟩])) r

noncomputable def racetreelaw01_ScanClasses_md : Mode U := ⟨racetreelaw01_ScanClasses_sh, [], racetreelaw01_ScanClasses_os, fun ls => match ls with | [⟨(.int .i64), a0⟩] => .get (racetreelaw01_ScanClasses a0) racetreelaw01_ScanClasses_tr | _ => .fail⟩

theorem racetreelaw01_ScanClasses_E (a0 : Int) : (Kit.withModes kk (modesOf ms15)).fnEval racetreelaw01_ScanClasses_L Try.f9 racetreelaw01_ScanClasses_sh racetreelaw01_ScanClasses_os [⟨(.int .i64), a0⟩] racetreelaw01_ScanClasses_enc = racetreelaw01_ScanClasses_f a0 := by kernel_rfl

theorem racetreelaw01_ScanClasses_post : ∀ ls j rs, (racetreelaw01_ScanClasses_md.sum ls).val = some (j, rs) → FnPost kk anyEnv 9 racetreelaw01_ScanClasses_sh racetreelaw01_ScanClasses_os ls j rs := by
  have inner : LoopsOk (Kit.withModes kk (modesOf ms15)) anyEnv Try.f9.ntmps racetreelaw01_ScanClasses_L (bodyOf Try.f9) := by
    exact loopsOk_of (bs := []) (by kernel_rfl) trivial
  intro ls j rs h
  simp only [racetreelaw01_ScanClasses_md] at h
  split at h
  · obtain ⟨r, hr, h⟩ := Tr.get_val h
    rw [racetreelaw01_ScanClasses, sealF_eq] at hr
    have hd : racetreelaw01_ScanClasses_dec r = (j, rs) := by
      exact Option.some.inj h
    refine FnPost.modes.1 (fn_sound (kitOk_of eqOk mixed known15) (by kernel_rfl) inner ((racetreelaw01_ScanClasses_E _).trans hr) ?_)
    intro i qs he
    unfold racetreelaw01_ScanClasses_enc at he
    split at he <;> cases he <;> (cases hd; exact ⟨rfl, rfl⟩)
  · cases h

noncomputable def ms16 : List (FuncId × Mode U) := (9, racetreelaw01_ScanClasses_md) :: ms15

theorem known16 : Known kk anyEnv (modesOf ms16) := known_cons (by kernel_rfl) racetreelaw01_ScanClasses_post known15

noncomputable def racetreeref01_long_sh : StSh := ⟨⟨[0], [], []⟩, [.t (.int .i64)], []⟩

noncomputable def racetreeref01_long_os : List StSh := [⟨⟨[0], [], []⟩, [.t (.int .i64)], []⟩]

noncomputable def racetreeref01_long_L : Nat → Option (Lift.Loop U) := fun n => none

noncomputable def racetreeref01_long_enc : Nat → List (TV U) → Option (Int)
  | 0, [⟨(.int .i64), a0⟩] => some a0
  | _, _ => none

noncomputable def racetreeref01_long_dec : Int → Nat × List (TV U) := fun x => (0, [⟨(.int .i64), x⟩])

noncomputable def racetreeref01_long_tr : Int → Tr (Nat × List (TV U)) := fun r => (fun x => .ret (0, [⟨(.int .i64), x⟩])) r

noncomputable def racetreeref01_long_md : Mode U := ⟨racetreeref01_long_sh, [], racetreeref01_long_os, fun ls => match ls with | [⟨(.int .i64), a0⟩] => .get (racetreeref01_long a0) racetreeref01_long_tr | _ => .fail⟩

theorem racetreeref01_long_E (a0 : Int) : (Kit.withModes kk (modesOf ms16)).fnEval racetreeref01_long_L Try.f32 racetreeref01_long_sh racetreeref01_long_os [⟨(.int .i64), a0⟩] racetreeref01_long_enc = racetreeref01_long_f a0 := by kernel_rfl

theorem racetreeref01_long_post : ∀ ls j rs, (racetreeref01_long_md.sum ls).val = some (j, rs) → FnPost kk anyEnv 32 racetreeref01_long_sh racetreeref01_long_os ls j rs := by
  have inner : LoopsOk (Kit.withModes kk (modesOf ms16)) anyEnv Try.f32.ntmps racetreeref01_long_L (bodyOf Try.f32) := by
    exact loopsOk_of (bs := []) (by kernel_rfl) trivial
  intro ls j rs h
  simp only [racetreeref01_long_md] at h
  split at h
  · obtain ⟨r, hr, h⟩ := Tr.get_val h
    rw [racetreeref01_long, sealF_eq] at hr
    have hd : racetreeref01_long_dec r = (j, rs) := by
      exact Option.some.inj h
    refine FnPost.modes.1 (fn_sound (kitOk_of eqOk mixed known16) (by kernel_rfl) inner ((racetreeref01_long_E _).trans hr) ?_)
    intro i qs he
    unfold racetreeref01_long_enc at he
    split at he <;> cases he <;> (cases hd; exact ⟨rfl, rfl⟩)
  · cases h

noncomputable def ms17 : List (FuncId × Mode U) := (32, racetreeref01_long_md) :: ms16

theorem known17 : Known kk anyEnv (modesOf ms17) := known_cons (by kernel_rfl) racetreeref01_long_post known16

noncomputable def racetreeref01_At_sh18 : StSh := ⟨⟨[0, 1, 7, 8, 9], [], []⟩, [.t .str, .t (.int .i64), .t (.int .i64), .t (.int .i64), .t (.int .i64)], []⟩

noncomputable def racetreeref01_At_o18 : List Out := [⟨.ret, ⟨⟨[4, 5], [], []⟩, [.t (.int .i64), .t (.int .i64)], []⟩⟩, ⟨.exit 1, ⟨⟨[7, 8], [], []⟩, [.t (.int .i64), .t (.int .i64)], []⟩⟩]

noncomputable def racetreeref01_At_b18 : Code := (nthLoop (bodyOf Try.f29) 0)

noncomputable def racetreeref01_At_L18 : Nat → Option (Lift.Loop U) := fun n => none

noncomputable def racetreeref01_At_rec18 (rec : List UInt8 → Int → Int → Int → Int → Option ((Int × Int) ⊕ (Int × Int))) : List (TV U) → Option ((Int × Int) ⊕ (Int × Int))
  | [⟨.str, a0⟩, ⟨(.int .i64), a1⟩, ⟨(.int .i64), a2⟩, ⟨(.int .i64), a3⟩, ⟨(.int .i64), a4⟩] => rec a0 a1 a2 a3 a4
  | _ => none

noncomputable def racetreeref01_At_enc18 : Nat → List (TV U) → Option ((Int × Int) ⊕ (Int × Int))
  | 0, [⟨(.int .i64), a0⟩, ⟨(.int .i64), a1⟩] => some (.inl (a0, a1))
  | 1, [⟨(.int .i64), a0⟩, ⟨(.int .i64), a1⟩] => some (.inr (a0, a1))
  | _, _ => none

noncomputable def racetreeref01_At_dec18 : (Int × Int) ⊕ (Int × Int) → Nat × List (TV U) := fun r => match r with | (.inl x) => (0, [⟨(.int .i64), x.1⟩, ⟨(.int .i64), x.2⟩]) | (.inr x) => (1, [⟨(.int .i64), x.1⟩, ⟨(.int .i64), x.2⟩])

noncomputable def racetreeref01_At_tr18 : (Int × Int) ⊕ (Int × Int) → Tr (Nat × List (TV U)) := fun r => .alt r (fun x => .ret (0, [⟨(.int .i64), x.1⟩, ⟨(.int .i64), x.2⟩])) (fun y => (fun x => .ret (1, [⟨(.int .i64), x.1⟩, ⟨(.int .i64), x.2⟩])) y)

noncomputable def racetreeref01_At_lp18 : Lift.Loop U := ⟨racetreeref01_At_sh18, racetreeref01_At_o18, fun ls => match ls with | [⟨.str, a0⟩, ⟨(.int .i64), a1⟩, ⟨(.int .i64), a2⟩, ⟨(.int .i64), a3⟩, ⟨(.int .i64), a4⟩] => .get (racetreeref01_At_l18 a0 a1 a2 a3 a4) racetreeref01_At_tr18 | _ => .fail⟩

theorem racetreeref01_At_E18 (rec : List UInt8 → Int → Int → Int → Int → Option ((Int × Int) ⊕ (Int × Int))) (a0 : List UInt8) (a1 : Int) (a2 : Int) (a3 : Int) (a4 : Int) : (Kit.withModes kk (modesOf ms17)).turn Try.f29.ntmps racetreeref01_At_L18 racetreeref01_At_sh18 racetreeref01_At_o18 racetreeref01_At_b18 [⟨.str, a0⟩, ⟨(.int .i64), a1⟩, ⟨(.int .i64), a2⟩, ⟨(.int .i64), a3⟩, ⟨(.int .i64), a4⟩] (racetreeref01_At_rec18 rec) racetreeref01_At_enc18 = racetreeref01_At_t18 rec a0 a1 a2 a3 a4 := by kernel_rfl

theorem racetreeref01_At_ok18 : ∀ ls j rs, (racetreeref01_At_lp18.sum ls).val = some (j, rs) → RoundPost kk anyEnv Try.f29.ntmps racetreeref01_At_b18 racetreeref01_At_lp18.sh racetreeref01_At_lp18.outs ls j rs := by
  have inner : LoopsOk (Kit.withModes kk (modesOf ms17)) anyEnv Try.f29.ntmps racetreeref01_At_L18 racetreeref01_At_b18 := by
    exact loopsOk_of (bs := []) (by kernel_rfl) trivial
  have key : ∀ n a0 a1 a2 a3 a4 r j rs, racetreeref01_At_i18 n a0 a1 a2 a3 a4 = some r → racetreeref01_At_dec18 r = (j, rs) → RoundPost kk anyEnv Try.f29.ntmps racetreeref01_At_b18 racetreeref01_At_sh18 racetreeref01_At_o18 [⟨.str, a0⟩, ⟨(.int .i64), a1⟩, ⟨(.int .i64), a2⟩, ⟨(.int .i64), a3⟩, ⟨(.int .i64), a4⟩] j rs := by
    intro n
    induction n with
    | zero => intro a0 a1 a2 a3 a4 r j rs h; cases h
    | succ n ih =>
      intro a0 a1 a2 a3 a4 r j rs h hd
      refine RoundPost.modes.1 (turn_sound (kitOk_of eqOk mixed known17) inner ((racetreeref01_At_E18 (racetreeref01_At_i18 n) a0 a1 a2 a3 a4).trans h) (fun q hq => RoundPost.modes.2 ?_) ?_)
      · unfold racetreeref01_At_rec18 at hq
        split at hq
        · exact ih _ _ _ _ _ r j rs hq hd
        · cases hq
      · intro i qs he
        unfold racetreeref01_At_enc18 at he
        split at he <;> cases he <;> (cases hd; exact ⟨rfl, rfl⟩)
  intro ls j rs h
  simp only [racetreeref01_At_lp18] at h
  split at h
  · obtain ⟨r, hr, h⟩ := Tr.get_val h
    rw [racetreeref01_At_l18, sealF_eq] at hr
    refine key fuel _ _ _ _ _ r j rs hr ?_
    rcases r with r | r <;> exact Option.some.inj h
  · cases h

noncomputable def racetreeref01_At_sh : StSh := ⟨⟨[0, 1], [], []⟩, [.t .str, .t (.int .i64)], []⟩

noncomputable def racetreeref01_At_os : List StSh := [⟨⟨[0, 1], [], []⟩, [.t (.int .i64), .t (.int .i64)], []⟩]

noncomputable def racetreeref01_At_L : Nat → Option (Lift.Loop U) := fun n => bif Nat.beq n 18 then some racetreeref01_At_lp18 else none

noncomputable def racetreeref01_At_enc : Nat → List (TV U) → Option (Int × Int)
  | 0, [⟨(.int .i64), a0⟩, ⟨(.int .i64), a1⟩] => some (a0, a1)
  | _, _ => none

noncomputable def racetreeref01_At_dec : Int × Int → Nat × List (TV U) := fun x => (0, [⟨(.int .i64), x.1⟩, ⟨(.int .i64), x.2⟩])

noncomputable def racetreeref01_At_tr : Int × Int → Tr (Nat × List (TV U)) := fun r => (fun x => .ret (0, [⟨(.int .i64), x.1⟩, ⟨(.int .i64), x.2⟩])) r

noncomputable def racetreeref01_At_md : Mode U := ⟨racetreeref01_At_sh, [], racetreeref01_At_os, fun ls => match ls with | [⟨.str, a0⟩, ⟨(.int .i64), a1⟩] => .get (racetreeref01_At a0 a1) racetreeref01_At_tr | _ => .fail⟩

theorem racetreeref01_At_E (a0 : List UInt8) (a1 : Int) : (Kit.withModes kk (modesOf ms17)).fnEval racetreeref01_At_L Try.f29 racetreeref01_At_sh racetreeref01_At_os [⟨.str, a0⟩, ⟨(.int .i64), a1⟩] racetreeref01_At_enc = racetreeref01_At_f a0 a1 := by kernel_rfl

theorem racetreeref01_At_post : ∀ ls j rs, (racetreeref01_At_md.sum ls).val = some (j, rs) → FnPost kk anyEnv 29 racetreeref01_At_sh racetreeref01_At_os ls j rs := by
  have inner : LoopsOk (Kit.withModes kk (modesOf ms17)) anyEnv Try.f29.ntmps racetreeref01_At_L (bodyOf Try.f29) := by
    exact loopsOk_of (bs := [racetreeref01_At_b18]) (by kernel_rfl) ⟨.inr ⟨_, by kernel_rfl, LoopOk.of_round racetreeref01_At_ok18⟩, trivial⟩
  intro ls j rs h
  simp only [racetreeref01_At_md] at h
  split at h
  · obtain ⟨r, hr, h⟩ := Tr.get_val h
    rw [racetreeref01_At, sealF_eq] at hr
    have hd : racetreeref01_At_dec r = (j, rs) := by
      exact Option.some.inj h
    refine FnPost.modes.1 (fn_sound (kitOk_of eqOk mixed known17) (by kernel_rfl) inner ((racetreeref01_At_E _ _).trans hr) ?_)
    intro i qs he
    unfold racetreeref01_At_enc at he
    split at he <;> cases he <;> (cases hd; exact ⟨rfl, rfl⟩)
  · cases h

noncomputable def ms18 : List (FuncId × Mode U) := (29, racetreeref01_At_md) :: ms17

theorem known18 : Known kk anyEnv (modesOf ms18) := known_cons (by kernel_rfl) racetreeref01_At_post known17

noncomputable def racetreeref01_on_sh : StSh := ⟨⟨[0, 1, 2], [], []⟩, [.t (.st 31), .t (.int .i64), .t (.int .i64)], []⟩

noncomputable def racetreeref01_on_os : List StSh := [⟨⟨[0], [], []⟩, [.t (.st 31)], []⟩]

noncomputable def racetreeref01_on_L : Nat → Option (Lift.Loop U) := fun n => none

noncomputable def racetreeref01_on_enc : Nat → List (TV U) → Option (Spot)
  | 0, [⟨(.st 31), a0⟩] => some a0
  | _, _ => none

noncomputable def racetreeref01_on_dec : Spot → Nat × List (TV U) := fun x => (0, [⟨(.st 31), x⟩])

noncomputable def racetreeref01_on_tr : Spot → Tr (Nat × List (TV U)) := fun r => (fun x => .ret (0, [⟨(.st 31), x⟩])) r

noncomputable def racetreeref01_on_md : Mode U := ⟨racetreeref01_on_sh, [], racetreeref01_on_os, fun ls => match ls with | [⟨(.st 31), a0⟩, ⟨(.int .i64), a1⟩, ⟨(.int .i64), a2⟩] => .get (racetreeref01_on a0 a1 a2) racetreeref01_on_tr | _ => .fail⟩

theorem racetreeref01_on_E (a0 : Spot) (a1 : Int) (a2 : Int) : (Kit.withModes kk (modesOf ms18)).fnEval racetreeref01_on_L Try.f30 racetreeref01_on_sh racetreeref01_on_os [⟨(.st 31), a0⟩, ⟨(.int .i64), a1⟩, ⟨(.int .i64), a2⟩] racetreeref01_on_enc = racetreeref01_on_f a0 a1 a2 := by kernel_rfl

theorem racetreeref01_on_post : ∀ ls j rs, (racetreeref01_on_md.sum ls).val = some (j, rs) → FnPost kk anyEnv 30 racetreeref01_on_sh racetreeref01_on_os ls j rs := by
  have inner : LoopsOk (Kit.withModes kk (modesOf ms18)) anyEnv Try.f30.ntmps racetreeref01_on_L (bodyOf Try.f30) := by
    exact loopsOk_of (bs := []) (by kernel_rfl) trivial
  intro ls j rs h
  simp only [racetreeref01_on_md] at h
  split at h
  · obtain ⟨r, hr, h⟩ := Tr.get_val h
    rw [racetreeref01_on, sealF_eq] at hr
    have hd : racetreeref01_on_dec r = (j, rs) := by
      exact Option.some.inj h
    refine FnPost.modes.1 (fn_sound (kitOk_of eqOk mixed known18) (by kernel_rfl) inner ((racetreeref01_on_E _ _ _).trans hr) ?_)
    intro i qs he
    unfold racetreeref01_on_enc at he
    split at he <;> cases he <;> (cases hd; exact ⟨rfl, rfl⟩)
  · cases h

noncomputable def ms19 : List (FuncId × Mode U) := (30, racetreeref01_on_md) :: ms18

theorem known19 : Known kk anyEnv (modesOf ms19) := known_cons (by kernel_rfl) racetreeref01_on_post known18

noncomputable def racetreeref01_spots_sh3 : StSh := ⟨⟨[0, 3, 4, 5], [3, 5], [⟨.slot 4, 4, 31, (.st 31)⟩]⟩, [.t .str, .ptr 3 0, .oslc 4, .ptr 5 0], [.blk [.t (.int .i64), .t (.int .i64), .t (.int .i64), .t (.int .i64)], .blk [.t (.int .i64), .t (.int .i64), .t (.int .i64), .t (.int .i64)], .row 31 (.st 31)]⟩

noncomputable def racetreeref01_spots_o3 : List Out := [⟨.exit 0, ⟨⟨[3, 4, 5], [3, 5], [⟨.slot 4, 4, 31, (.st 31)⟩]⟩, [.ptr 3 0, .oslc 4, .ptr 5 0], [.blk [.t (.int .i64), .t (.int .i64), .t (.int .i64), .t (.int .i64)], .blk [.t (.int .i64), .t (.int .i64), .t (.int .i64), .t (.int .i64)], .row 31 (.st 31)]⟩⟩]

noncomputable def racetreeref01_spots_b3 : Code := (nthLoop (bodyOf Try.f24) 0)

noncomputable def racetreeref01_spots_L3 : Nat → Option (Lift.Loop U) := fun n => none

noncomputable def racetreeref01_spots_rec3 (rec : List UInt8 → Int → Int → Int → Int → Int → Int → Int → Int → List (Spot) → Option (Int × Int × Int × Int × Int × Int × Int × Int × (List (Spot)))) : List (TV U) → Option (Int × Int × Int × Int × Int × Int × Int × Int × (List (Spot)))
  | [⟨.str, a0⟩, ⟨(.int .i64), a1⟩, ⟨(.int .i64), a2⟩, ⟨(.int .i64), a3⟩, ⟨(.int .i64), a4⟩, ⟨(.int .i64), a5⟩, ⟨(.int .i64), a6⟩, ⟨(.int .i64), a7⟩, ⟨(.int .i64), a8⟩, ⟨(.slc (.st 31)), a9⟩] => rec a0 a1 a2 a3 a4 a5 a6 a7 a8 a9
  | _ => none

noncomputable def racetreeref01_spots_enc3 : Nat → List (TV U) → Option (Int × Int × Int × Int × Int × Int × Int × Int × (List (Spot)))
  | 0, [⟨(.int .i64), a0⟩, ⟨(.int .i64), a1⟩, ⟨(.int .i64), a2⟩, ⟨(.int .i64), a3⟩, ⟨(.int .i64), a4⟩, ⟨(.int .i64), a5⟩, ⟨(.int .i64), a6⟩, ⟨(.int .i64), a7⟩, ⟨(.slc (.st 31)), a8⟩] => some (a0, a1, a2, a3, a4, a5, a6, a7, a8)
  | _, _ => none

noncomputable def racetreeref01_spots_dec3 : Int × Int × Int × Int × Int × Int × Int × Int × (List (Spot)) → Nat × List (TV U) := fun x => (0, [⟨(.int .i64), x.1⟩, ⟨(.int .i64), x.2.1⟩, ⟨(.int .i64), x.2.2.1⟩, ⟨(.int .i64), x.2.2.2.1⟩, ⟨(.int .i64), x.2.2.2.2.1⟩, ⟨(.int .i64), x.2.2.2.2.2.1⟩, ⟨(.int .i64), x.2.2.2.2.2.2.1⟩, ⟨(.int .i64), x.2.2.2.2.2.2.2.1⟩, ⟨(.slc (.st 31)), x.2.2.2.2.2.2.2.2⟩])

noncomputable def racetreeref01_spots_tr3 : Int × Int × Int × Int × Int × Int × Int × Int × (List (Spot)) → Tr (Nat × List (TV U)) := fun r => (fun x => .ret (0, [⟨(.int .i64), x.1⟩, ⟨(.int .i64), x.2.1⟩, ⟨(.int .i64), x.2.2.1⟩, ⟨(.int .i64), x.2.2.2.1⟩, ⟨(.int .i64), x.2.2.2.2.1⟩, ⟨(.int .i64), x.2.2.2.2.2.1⟩, ⟨(.int .i64), x.2.2.2.2.2.2.1⟩, ⟨(.int .i64), x.2.2.2.2.2.2.2.1⟩, ⟨(.slc (.st 31)), x.2.2.2.2.2.2.2.2⟩])) r

noncomputable def racetreeref01_spots_lp3 : Lift.Loop U := ⟨racetreeref01_spots_sh3, racetreeref01_spots_o3, fun ls => match ls with | [⟨.str, a0⟩, ⟨(.int .i64), a1⟩, ⟨(.int .i64), a2⟩, ⟨(.int .i64), a3⟩, ⟨(.int .i64), a4⟩, ⟨(.int .i64), a5⟩, ⟨(.int .i64), a6⟩, ⟨(.int .i64), a7⟩, ⟨(.int .i64), a8⟩, ⟨(.slc (.st 31)), a9⟩] => .get (racetreeref01_spots_l3 a0 a1 a2 a3 a4 a5 a6 a7 a8 a9) racetreeref01_spots_tr3 | _ => .fail⟩

theorem racetreeref01_spots_E3 (rec : List UInt8 → Int → Int → Int → Int → Int → Int → Int → Int → List (Spot) → Option (Int × Int × Int × Int × Int × Int × Int × Int × (List (Spot)))) (a0 : List UInt8) (a1 : Int) (a2 : Int) (a3 : Int) (a4 : Int) (a5 : Int) (a6 : Int) (a7 : Int) (a8 : Int) (a9 : List (Spot)) : (Kit.withModes kk (modesOf ms19)).turn Try.f24.ntmps racetreeref01_spots_L3 racetreeref01_spots_sh3 racetreeref01_spots_o3 racetreeref01_spots_b3 [⟨.str, a0⟩, ⟨(.int .i64), a1⟩, ⟨(.int .i64), a2⟩, ⟨(.int .i64), a3⟩, ⟨(.int .i64), a4⟩, ⟨(.int .i64), a5⟩, ⟨(.int .i64), a6⟩, ⟨(.int .i64), a7⟩, ⟨(.int .i64), a8⟩, ⟨(.slc (.st 31)), a9⟩] (racetreeref01_spots_rec3 rec) racetreeref01_spots_enc3 = racetreeref01_spots_t3 rec a0 a1 a2 a3 a4 a5 a6 a7 a8 a9 := by kernel_rfl

theorem racetreeref01_spots_ok3 : ∀ ls j rs, (racetreeref01_spots_lp3.sum ls).val = some (j, rs) → RoundPost kk anyEnv Try.f24.ntmps racetreeref01_spots_b3 racetreeref01_spots_lp3.sh racetreeref01_spots_lp3.outs ls j rs := by
  have inner : LoopsOk (Kit.withModes kk (modesOf ms19)) anyEnv Try.f24.ntmps racetreeref01_spots_L3 racetreeref01_spots_b3 := by
    exact loopsOk_of (bs := []) (by kernel_rfl) trivial
  have key : ∀ n a0 a1 a2 a3 a4 a5 a6 a7 a8 a9 r j rs, racetreeref01_spots_i3 n a0 a1 a2 a3 a4 a5 a6 a7 a8 a9 = some r → racetreeref01_spots_dec3 r = (j, rs) → RoundPost kk anyEnv Try.f24.ntmps racetreeref01_spots_b3 racetreeref01_spots_sh3 racetreeref01_spots_o3 [⟨.str, a0⟩, ⟨(.int .i64), a1⟩, ⟨(.int .i64), a2⟩, ⟨(.int .i64), a3⟩, ⟨(.int .i64), a4⟩, ⟨(.int .i64), a5⟩, ⟨(.int .i64), a6⟩, ⟨(.int .i64), a7⟩, ⟨(.int .i64), a8⟩, ⟨(.slc (.st 31)), a9⟩] j rs := by
    intro n
    induction n with
    | zero => intro a0 a1 a2 a3 a4 a5 a6 a7 a8 a9 r j rs h; cases h
    | succ n ih =>
      intro a0 a1 a2 a3 a4 a5 a6 a7 a8 a9 r j rs h hd
      refine RoundPost.modes.1 (turn_sound (kitOk_of eqOk mixed known19) inner ((racetreeref01_spots_E3 (racetreeref01_spots_i3 n) a0 a1 a2 a3 a4 a5 a6 a7 a8 a9).trans h) (fun q hq => RoundPost.modes.2 ?_) ?_)
      · unfold racetreeref01_spots_rec3 at hq
        split at hq
        · exact ih _ _ _ _ _ _ _ _ _ _ r j rs hq hd
        · cases hq
      · intro i qs he
        unfold racetreeref01_spots_enc3 at he
        split at he <;> cases he <;> (cases hd; exact ⟨rfl, rfl⟩)
  intro ls j rs h
  simp only [racetreeref01_spots_lp3] at h
  split at h
  · obtain ⟨r, hr, h⟩ := Tr.get_val h
    rw [racetreeref01_spots_l3, sealF_eq] at hr
    refine key fuel _ _ _ _ _ _ _ _ _ _ r j rs hr ?_
    exact Option.some.inj h
  · cases h

noncomputable def racetreeref01_spots_sh : StSh := ⟨⟨[0], [], []⟩, [.t .str], []⟩

noncomputable def racetreeref01_spots_os : List StSh := [⟨⟨[0, 1], [], [⟨.slot 0, 100000, 31, (.st 31)⟩]⟩, [.oslc 100000, .t (.st 31)], [.row 31 (.st 31)]⟩]

noncomputable def racetreeref01_spots_L : Nat → Option (Lift.Loop U) := fun n => bif Nat.beq n 3 then some racetreeref01_spots_lp3 else none

noncomputable def racetreeref01_spots_enc : Nat → List (TV U) → Option (Spot × (List (Spot)))
  | 0, [⟨(.st 31), a0⟩, ⟨(.slc (.st 31)), a1⟩] => some (a0, a1)
  | _, _ => none

noncomputable def racetreeref01_spots_dec : Spot × (List (Spot)) → Nat × List (TV U) := fun x => (0, [⟨(.st 31), x.1⟩, ⟨(.slc (.st 31)), x.2⟩])

noncomputable def racetreeref01_spots_tr : Spot × (List (Spot)) → Tr (Nat × List (TV U)) := fun r => (fun x => .ret (0, [⟨(.st 31), x.1⟩, ⟨(.slc (.st 31)), x.2⟩])) r

noncomputable def racetreeref01_spots_md : Mode U := ⟨racetreeref01_spots_sh, [], racetreeref01_spots_os, fun ls => match ls with | [⟨.str, a0⟩] => .get (racetreeref01_spots a0) racetreeref01_spots_tr | _ => .fail⟩

theorem racetreeref01_spots_E (a0 : List UInt8) : (Kit.withModes kk (modesOf ms19)).fnEval racetreeref01_spots_L Try.f24 racetreeref01_spots_sh racetreeref01_spots_os [⟨.str, a0⟩] racetreeref01_spots_enc = racetreeref01_spots_f a0 := by kernel_rfl

theorem racetreeref01_spots_post : ∀ ls j rs, (racetreeref01_spots_md.sum ls).val = some (j, rs) → FnPost kk anyEnv 24 racetreeref01_spots_sh racetreeref01_spots_os ls j rs := by
  have inner : LoopsOk (Kit.withModes kk (modesOf ms19)) anyEnv Try.f24.ntmps racetreeref01_spots_L (bodyOf Try.f24) := by
    exact loopsOk_of (bs := [racetreeref01_spots_b3]) (by kernel_rfl) ⟨.inr ⟨_, by kernel_rfl, LoopOk.of_round racetreeref01_spots_ok3⟩, trivial⟩
  intro ls j rs h
  simp only [racetreeref01_spots_md] at h
  split at h
  · obtain ⟨r, hr, h⟩ := Tr.get_val h
    rw [racetreeref01_spots, sealF_eq] at hr
    have hd : racetreeref01_spots_dec r = (j, rs) := by
      exact Option.some.inj h
    refine FnPost.modes.1 (fn_sound (kitOk_of eqOk mixed known19) (by kernel_rfl) inner ((racetreeref01_spots_E _).trans hr) ?_)
    intro i qs he
    unfold racetreeref01_spots_enc at he
    split at he <;> cases he <;> (cases hd; exact ⟨rfl, rfl⟩)
  · cases h

noncomputable def ms20 : List (FuncId × Mode U) := (24, racetreeref01_spots_md) :: ms19

theorem known20 : Known kk anyEnv (modesOf ms20) := known_cons (by kernel_rfl) racetreeref01_spots_post known19

noncomputable def racetreeref01_Runes_sh : StSh := ⟨⟨[0], [], []⟩, [.t .str], []⟩

noncomputable def racetreeref01_Runes_os : List StSh := [⟨⟨[0, 1], [], [⟨.slot 0, 100000, 31, (.st 31)⟩]⟩, [.oslc 100000, .t (.st 26)], [.row 31 (.st 31)]⟩]

noncomputable def racetreeref01_Runes_L : Nat → Option (Lift.Loop U) := fun n => none

noncomputable def racetreeref01_Runes_enc : Nat → List (TV U) → Option (Fault × (List (Spot)))
  | 0, [⟨(.st 26), a0⟩, ⟨(.slc (.st 31)), a1⟩] => some (a0, a1)
  | _, _ => none

noncomputable def racetreeref01_Runes_dec : Fault × (List (Spot)) → Nat × List (TV U) := fun x => (0, [⟨(.st 26), x.1⟩, ⟨(.slc (.st 31)), x.2⟩])

noncomputable def racetreeref01_Runes_tr : Fault × (List (Spot)) → Tr (Nat × List (TV U)) := fun r => (fun x => .ret (0, [⟨(.st 26), x.1⟩, ⟨(.slc (.st 31)), x.2⟩])) r

noncomputable def racetreeref01_Runes_md : Mode U := ⟨racetreeref01_Runes_sh, [], racetreeref01_Runes_os, fun ls => match ls with | [⟨.str, a0⟩] => .get (racetreeref01_Runes a0) racetreeref01_Runes_tr | _ => .fail⟩

theorem racetreeref01_Runes_E (a0 : List UInt8) : (Kit.withModes kk (modesOf ms20)).fnEval racetreeref01_Runes_L Try.f11 racetreeref01_Runes_sh racetreeref01_Runes_os [⟨.str, a0⟩] racetreeref01_Runes_enc = racetreeref01_Runes_f a0 := by kernel_rfl

theorem racetreeref01_Runes_post : ∀ ls j rs, (racetreeref01_Runes_md.sum ls).val = some (j, rs) → FnPost kk anyEnv 11 racetreeref01_Runes_sh racetreeref01_Runes_os ls j rs := by
  have inner : LoopsOk (Kit.withModes kk (modesOf ms20)) anyEnv Try.f11.ntmps racetreeref01_Runes_L (bodyOf Try.f11) := by
    exact loopsOk_of (bs := []) (by kernel_rfl) trivial
  intro ls j rs h
  simp only [racetreeref01_Runes_md] at h
  split at h
  · obtain ⟨r, hr, h⟩ := Tr.get_val h
    rw [racetreeref01_Runes, sealF_eq] at hr
    have hd : racetreeref01_Runes_dec r = (j, rs) := by
      exact Option.some.inj h
    refine FnPost.modes.1 (fn_sound (kitOk_of eqOk mixed known20) (by kernel_rfl) inner ((racetreeref01_Runes_E _).trans hr) ?_)
    intro i qs he
    unfold racetreeref01_Runes_enc at he
    split at he <;> cases he <;> (cases hd; exact ⟨rfl, rfl⟩)
  · cases h

noncomputable def ms21 : List (FuncId × Mode U) := (11, racetreeref01_Runes_md) :: ms20

theorem known21 : Known kk anyEnv (modesOf ms21) := known_cons (by kernel_rfl) racetreeref01_Runes_post known20

noncomputable def racetreeref01_Place_sh5 : StSh := ⟨⟨[0, 1, 4, 6, 8], [4], [⟨.slot 6, 6, 31, (.st 31)⟩]⟩, [.t .str, .t (.int .i64), .ptr 4 0, .oslc 6, .t (.int .i64)], [.blk [.t (.int .i64), .t (.int .i64), .t (.int .i64), .t (.int .i64)], .row 31 (.st 31)]⟩

noncomputable def racetreeref01_Place_o5 : List Out := [⟨.ret, ⟨⟨[4, 5], [4], []⟩, [.ptr 4 0, .t (.int .i64)], [.blk [.t (.int .i64), .t (.int .i64), .t (.int .i64), .t (.int .i64)]]⟩⟩, ⟨.exit 0, ⟨⟨[0, 1, 4], [4], []⟩, [.t .str, .t (.int .i64), .ptr 4 0], [.blk [.t (.int .i64), .t (.int .i64), .t (.int .i64), .t (.int .i64)]]⟩⟩]

noncomputable def racetreeref01_Place_b5 : Code := (nthLoop (bodyOf Try.f14) 0)

noncomputable def racetreeref01_Place_L5 : Nat → Option (Lift.Loop U) := fun n => none

noncomputable def racetreeref01_Place_rec5 (rec : List UInt8 → Int → Int → Int → Int → Int → Int → List (Spot) → Option ((Int × Int × Int × Int × Int) ⊕ ((List UInt8) × Int × Int × Int × Int × Int))) : List (TV U) → Option ((Int × Int × Int × Int × Int) ⊕ ((List UInt8) × Int × Int × Int × Int × Int))
  | [⟨.str, a0⟩, ⟨(.int .i64), a1⟩, ⟨(.int .i64), a2⟩, ⟨(.int .i64), a3⟩, ⟨(.int .i64), a4⟩, ⟨(.int .i64), a5⟩, ⟨(.int .i64), a6⟩, ⟨(.slc (.st 31)), a7⟩] => rec a0 a1 a2 a3 a4 a5 a6 a7
  | _ => none

noncomputable def racetreeref01_Place_enc5 : Nat → List (TV U) → Option ((Int × Int × Int × Int × Int) ⊕ ((List UInt8) × Int × Int × Int × Int × Int))
  | 0, [⟨(.int .i64), a0⟩, ⟨(.int .i64), a1⟩, ⟨(.int .i64), a2⟩, ⟨(.int .i64), a3⟩, ⟨(.int .i64), a4⟩] => some (.inl (a0, a1, a2, a3, a4))
  | 1, [⟨.str, a0⟩, ⟨(.int .i64), a1⟩, ⟨(.int .i64), a2⟩, ⟨(.int .i64), a3⟩, ⟨(.int .i64), a4⟩, ⟨(.int .i64), a5⟩] => some (.inr (a0, a1, a2, a3, a4, a5))
  | _, _ => none

noncomputable def racetreeref01_Place_dec5 : (Int × Int × Int × Int × Int) ⊕ ((List UInt8) × Int × Int × Int × Int × Int) → Nat × List (TV U) := fun r => match r with | (.inl x) => (0, [⟨(.int .i64), x.1⟩, ⟨(.int .i64), x.2.1⟩, ⟨(.int .i64), x.2.2.1⟩, ⟨(.int .i64), x.2.2.2.1⟩, ⟨(.int .i64), x.2.2.2.2⟩]) | (.inr x) => (1, [⟨.str, x.1⟩, ⟨(.int .i64), x.2.1⟩, ⟨(.int .i64), x.2.2.1⟩, ⟨(.int .i64), x.2.2.2.1⟩, ⟨(.int .i64), x.2.2.2.2.1⟩, ⟨(.int .i64), x.2.2.2.2.2⟩])

noncomputable def racetreeref01_Place_tr5 : (Int × Int × Int × Int × Int) ⊕ ((List UInt8) × Int × Int × Int × Int × Int) → Tr (Nat × List (TV U)) := fun r => .alt r (fun x => .ret (0, [⟨(.int .i64), x.1⟩, ⟨(.int .i64), x.2.1⟩, ⟨(.int .i64), x.2.2.1⟩, ⟨(.int .i64), x.2.2.2.1⟩, ⟨(.int .i64), x.2.2.2.2⟩])) (fun y => (fun x => .ret (1, [⟨.str, x.1⟩, ⟨(.int .i64), x.2.1⟩, ⟨(.int .i64), x.2.2.1⟩, ⟨(.int .i64), x.2.2.2.1⟩, ⟨(.int .i64), x.2.2.2.2.1⟩, ⟨(.int .i64), x.2.2.2.2.2⟩])) y)

noncomputable def racetreeref01_Place_lp5 : Lift.Loop U := ⟨racetreeref01_Place_sh5, racetreeref01_Place_o5, fun ls => match ls with | [⟨.str, a0⟩, ⟨(.int .i64), a1⟩, ⟨(.int .i64), a2⟩, ⟨(.int .i64), a3⟩, ⟨(.int .i64), a4⟩, ⟨(.int .i64), a5⟩, ⟨(.int .i64), a6⟩, ⟨(.slc (.st 31)), a7⟩] => .get (racetreeref01_Place_l5 a0 a1 a2 a3 a4 a5 a6 a7) racetreeref01_Place_tr5 | _ => .fail⟩

theorem racetreeref01_Place_E5 (rec : List UInt8 → Int → Int → Int → Int → Int → Int → List (Spot) → Option ((Int × Int × Int × Int × Int) ⊕ ((List UInt8) × Int × Int × Int × Int × Int))) (a0 : List UInt8) (a1 : Int) (a2 : Int) (a3 : Int) (a4 : Int) (a5 : Int) (a6 : Int) (a7 : List (Spot)) : (Kit.withModes kk (modesOf ms21)).turn Try.f14.ntmps racetreeref01_Place_L5 racetreeref01_Place_sh5 racetreeref01_Place_o5 racetreeref01_Place_b5 [⟨.str, a0⟩, ⟨(.int .i64), a1⟩, ⟨(.int .i64), a2⟩, ⟨(.int .i64), a3⟩, ⟨(.int .i64), a4⟩, ⟨(.int .i64), a5⟩, ⟨(.int .i64), a6⟩, ⟨(.slc (.st 31)), a7⟩] (racetreeref01_Place_rec5 rec) racetreeref01_Place_enc5 = racetreeref01_Place_t5 rec a0 a1 a2 a3 a4 a5 a6 a7 := by kernel_rfl

theorem racetreeref01_Place_ok5 : ∀ ls j rs, (racetreeref01_Place_lp5.sum ls).val = some (j, rs) → RoundPost kk anyEnv Try.f14.ntmps racetreeref01_Place_b5 racetreeref01_Place_lp5.sh racetreeref01_Place_lp5.outs ls j rs := by
  have inner : LoopsOk (Kit.withModes kk (modesOf ms21)) anyEnv Try.f14.ntmps racetreeref01_Place_L5 racetreeref01_Place_b5 := by
    exact loopsOk_of (bs := []) (by kernel_rfl) trivial
  have key : ∀ n a0 a1 a2 a3 a4 a5 a6 a7 r j rs, racetreeref01_Place_i5 n a0 a1 a2 a3 a4 a5 a6 a7 = some r → racetreeref01_Place_dec5 r = (j, rs) → RoundPost kk anyEnv Try.f14.ntmps racetreeref01_Place_b5 racetreeref01_Place_sh5 racetreeref01_Place_o5 [⟨.str, a0⟩, ⟨(.int .i64), a1⟩, ⟨(.int .i64), a2⟩, ⟨(.int .i64), a3⟩, ⟨(.int .i64), a4⟩, ⟨(.int .i64), a5⟩, ⟨(.int .i64), a6⟩, ⟨(.slc (.st 31)), a7⟩] j rs := by
    intro n
    induction n with
    | zero => intro a0 a1 a2 a3 a4 a5 a6 a7 r j rs h; cases h
    | succ n ih =>
      intro a0 a1 a2 a3 a4 a5 a6 a7 r j rs h hd
      refine RoundPost.modes.1 (turn_sound (kitOk_of eqOk mixed known21) inner ((racetreeref01_Place_E5 (racetreeref01_Place_i5 n) a0 a1 a2 a3 a4 a5 a6 a7).trans h) (fun q hq => RoundPost.modes.2 ?_) ?_)
      · unfold racetreeref01_Place_rec5 at hq
        split at hq
        · exact ih _ _ _ _ _ _ _ _ r j rs hq hd
        · cases hq
      · intro i qs he
        unfold racetreeref01_Place_enc5 at he
        split at he <;> cases he <;> (cases hd; exact ⟨rfl, rfl⟩)
  intro ls j rs h
  simp only [racetreeref01_Place_lp5] at h
  split at h
  · obtain ⟨r, hr, h⟩ := Tr.get_val h
    rw [racetreeref01_Place_l5, sealF_eq] at hr
    refine key fuel _ _ _ _ _ _ _ _ r j rs hr ?_
    rcases r with r | r <;> exact Option.some.inj h
  · cases h

noncomputable def racetreeref01_Place_sh : StSh := ⟨⟨[0, 1], [], []⟩, [.t .str, .t (.int .i64)], []⟩

noncomputable def racetreeref01_Place_os : List StSh := [⟨⟨[0, 1], [], []⟩, [.t (.st 31), .t (.int .i64)], []⟩]

noncomputable def racetreeref01_Place_L : Nat → Option (Lift.Loop U) := fun n => bif Nat.beq n 5 then some racetreeref01_Place_lp5 else none

noncomputable def racetreeref01_Place_enc : Nat → List (TV U) → Option (Spot × Int)
  | 0, [⟨(.st 31), a0⟩, ⟨(.int .i64), a1⟩] => some (a0, a1)
  | _, _ => none

noncomputable def racetreeref01_Place_dec : Spot × Int → Nat × List (TV U) := fun x => (0, [⟨(.st 31), x.1⟩, ⟨(.int .i64), x.2⟩])

noncomputable def racetreeref01_Place_tr : Spot × Int → Tr (Nat × List (TV U)) := fun r => (fun x => .ret (0, [⟨(.st 31), x.1⟩, ⟨(.int .i64), x.2⟩])) r

noncomputable def racetreeref01_Place_md : Mode U := ⟨racetreeref01_Place_sh, [], racetreeref01_Place_os, fun ls => match ls with | [⟨.str, a0⟩, ⟨(.int .i64), a1⟩] => .get (racetreeref01_Place a0 a1) racetreeref01_Place_tr | _ => .fail⟩

theorem racetreeref01_Place_E (a0 : List UInt8) (a1 : Int) : (Kit.withModes kk (modesOf ms21)).fnEval racetreeref01_Place_L Try.f14 racetreeref01_Place_sh racetreeref01_Place_os [⟨.str, a0⟩, ⟨(.int .i64), a1⟩] racetreeref01_Place_enc = racetreeref01_Place_f a0 a1 := by kernel_rfl

theorem racetreeref01_Place_post : ∀ ls j rs, (racetreeref01_Place_md.sum ls).val = some (j, rs) → FnPost kk anyEnv 14 racetreeref01_Place_sh racetreeref01_Place_os ls j rs := by
  have inner : LoopsOk (Kit.withModes kk (modesOf ms21)) anyEnv Try.f14.ntmps racetreeref01_Place_L (bodyOf Try.f14) := by
    exact loopsOk_of (bs := [racetreeref01_Place_b5]) (by kernel_rfl) ⟨.inr ⟨_, by kernel_rfl, LoopOk.of_round racetreeref01_Place_ok5⟩, trivial⟩
  intro ls j rs h
  simp only [racetreeref01_Place_md] at h
  split at h
  · obtain ⟨r, hr, h⟩ := Tr.get_val h
    rw [racetreeref01_Place, sealF_eq] at hr
    have hd : racetreeref01_Place_dec r = (j, rs) := by
      exact Option.some.inj h
    refine FnPost.modes.1 (fn_sound (kitOk_of eqOk mixed known21) (by kernel_rfl) inner ((racetreeref01_Place_E _ _).trans hr) ?_)
    intro i qs he
    unfold racetreeref01_Place_enc at he
    split at he <;> cases he <;> (cases hd; exact ⟨rfl, rfl⟩)
  · cases h

noncomputable def ms22 : List (FuncId × Mode U) := (14, racetreeref01_Place_md) :: ms21

theorem known22 : Known kk anyEnv (modesOf ms22) := known_cons (by kernel_rfl) racetreeref01_Place_post known21

noncomputable def racetreelaw01_ScanPlaces_sh : StSh := ⟨⟨[0, 1], [], []⟩, [.t .str, .t (.int .i64)], []⟩

noncomputable def racetreelaw01_ScanPlaces_os : List StSh := [⟨⟨[0], [], []⟩, [.t .bool], []⟩]

noncomputable def racetreelaw01_ScanPlaces_L : Nat → Option (Lift.Loop U) := fun n => none

noncomputable def racetreelaw01_ScanPlaces_enc : Nat → List (TV U) → Option (Bool)
  | 0, [⟨.bool, a0⟩] => some a0
  | _, _ => none

noncomputable def racetreelaw01_ScanPlaces_dec : Bool → Nat × List (TV U) := fun x => (0, [⟨.bool, x⟩])

noncomputable def racetreelaw01_ScanPlaces_tr : Bool → Tr (Nat × List (TV U)) := fun r => (fun x => .ret (0, [⟨.bool, x⟩])) r

noncomputable def racetreelaw01_ScanPlaces_md : Mode U := ⟨racetreelaw01_ScanPlaces_sh, [], racetreelaw01_ScanPlaces_os, fun ls => match ls with | [⟨.str, a0⟩, ⟨(.int .i64), a1⟩] => .get (racetreelaw01_ScanPlaces a0 a1) racetreelaw01_ScanPlaces_tr | _ => .fail⟩

theorem racetreelaw01_ScanPlaces_E (a0 : List UInt8) (a1 : Int) : (Kit.withModes kk (modesOf ms22)).fnEval racetreelaw01_ScanPlaces_L Try.f4 racetreelaw01_ScanPlaces_sh racetreelaw01_ScanPlaces_os [⟨.str, a0⟩, ⟨(.int .i64), a1⟩] racetreelaw01_ScanPlaces_enc = racetreelaw01_ScanPlaces_f a0 a1 := by kernel_rfl

theorem racetreelaw01_ScanPlaces_post : ∀ ls j rs, (racetreelaw01_ScanPlaces_md.sum ls).val = some (j, rs) → FnPost kk anyEnv 4 racetreelaw01_ScanPlaces_sh racetreelaw01_ScanPlaces_os ls j rs := by
  have inner : LoopsOk (Kit.withModes kk (modesOf ms22)) anyEnv Try.f4.ntmps racetreelaw01_ScanPlaces_L (bodyOf Try.f4) := by
    exact loopsOk_of (bs := []) (by kernel_rfl) trivial
  intro ls j rs h
  simp only [racetreelaw01_ScanPlaces_md] at h
  split at h
  · obtain ⟨r, hr, h⟩ := Tr.get_val h
    rw [racetreelaw01_ScanPlaces, sealF_eq] at hr
    have hd : racetreelaw01_ScanPlaces_dec r = (j, rs) := by
      exact Option.some.inj h
    refine FnPost.modes.1 (fn_sound (kitOk_of eqOk mixed known22) (by kernel_rfl) inner ((racetreelaw01_ScanPlaces_E _ _).trans hr) ?_)
    intro i qs he
    unfold racetreelaw01_ScanPlaces_enc at he
    split at he <;> cases he <;> (cases hd; exact ⟨rfl, rfl⟩)
  · cases h

noncomputable def ms23 : List (FuncId × Mode U) := (4, racetreelaw01_ScanPlaces_md) :: ms22

theorem known23 : Known kk anyEnv (modesOf ms23) := known_cons (by kernel_rfl) racetreelaw01_ScanPlaces_post known22

noncomputable def racetreelaw01_ScanCut_sh : StSh := ⟨⟨[0, 1], [], []⟩, [.t .str, .t .str], []⟩

noncomputable def racetreelaw01_ScanCut_os : List StSh := [⟨⟨[0], [], []⟩, [.t .bool], []⟩]

noncomputable def racetreelaw01_ScanCut_L : Nat → Option (Lift.Loop U) := fun n => none

noncomputable def racetreelaw01_ScanCut_enc : Nat → List (TV U) → Option (Bool)
  | 0, [⟨.bool, a0⟩] => some a0
  | _, _ => none

noncomputable def racetreelaw01_ScanCut_dec : Bool → Nat × List (TV U) := fun x => (0, [⟨.bool, x⟩])

noncomputable def racetreelaw01_ScanCut_tr : Bool → Tr (Nat × List (TV U)) := fun r => (fun x => .ret (0, [⟨.bool, x⟩])) r

noncomputable def racetreelaw01_ScanCut_md : Mode U := ⟨racetreelaw01_ScanCut_sh, [], racetreelaw01_ScanCut_os, fun ls => match ls with | [⟨.str, a0⟩, ⟨.str, a1⟩] => .get (racetreelaw01_ScanCut a0 a1) racetreelaw01_ScanCut_tr | _ => .fail⟩

theorem racetreelaw01_ScanCut_E (a0 : List UInt8) (a1 : List UInt8) : (Kit.withModes kk (modesOf ms23)).fnEval racetreelaw01_ScanCut_L Try.f8 racetreelaw01_ScanCut_sh racetreelaw01_ScanCut_os [⟨.str, a0⟩, ⟨.str, a1⟩] racetreelaw01_ScanCut_enc = racetreelaw01_ScanCut_f a0 a1 := by kernel_rfl

theorem racetreelaw01_ScanCut_post : ∀ ls j rs, (racetreelaw01_ScanCut_md.sum ls).val = some (j, rs) → FnPost kk anyEnv 8 racetreelaw01_ScanCut_sh racetreelaw01_ScanCut_os ls j rs := by
  have inner : LoopsOk (Kit.withModes kk (modesOf ms23)) anyEnv Try.f8.ntmps racetreelaw01_ScanCut_L (bodyOf Try.f8) := by
    exact loopsOk_of (bs := []) (by kernel_rfl) trivial
  intro ls j rs h
  simp only [racetreelaw01_ScanCut_md] at h
  split at h
  · obtain ⟨r, hr, h⟩ := Tr.get_val h
    rw [racetreelaw01_ScanCut, sealF_eq] at hr
    have hd : racetreelaw01_ScanCut_dec r = (j, rs) := by
      exact Option.some.inj h
    refine FnPost.modes.1 (fn_sound (kitOk_of eqOk mixed known23) (by kernel_rfl) inner ((racetreelaw01_ScanCut_E _ _).trans hr) ?_)
    intro i qs he
    unfold racetreelaw01_ScanCut_enc at he
    split at he <;> cases he <;> (cases hd; exact ⟨rfl, rfl⟩)
  · cases h

noncomputable def ms24 : List (FuncId × Mode U) := (8, racetreelaw01_ScanCut_md) :: ms23

theorem known24 : Known kk anyEnv (modesOf ms24) := known_cons (by kernel_rfl) racetreelaw01_ScanCut_post known23

noncomputable def racetreelaw01_ScanThere_sh9 : StSh := ⟨⟨[0, 6, 8], [], [⟨.slot 6, 6, 31, (.st 31)⟩]⟩, [.t (.slc (.int .i64)), .oslc 6, .t (.int .i64)], [.row 31 (.st 31)]⟩

noncomputable def racetreelaw01_ScanThere_o9 : List Out := [⟨.ret, ⟨⟨[2], [], []⟩, [.t .bool], []⟩⟩, ⟨.exit 0, ⟨⟨[], [], []⟩, [], []⟩⟩]

noncomputable def racetreelaw01_ScanThere_b9 : Code := (nthLoop (bodyOf Try.f7) 0)

noncomputable def racetreelaw01_ScanThere_L9 : Nat → Option (Lift.Loop U) := fun n => none

noncomputable def racetreelaw01_ScanThere_rec9 (rec : List (Int) → Int → List (Spot) → Option ((Bool) ⊕ (Unit))) : List (TV U) → Option ((Bool) ⊕ (Unit))
  | [⟨(.slc (.int .i64)), a0⟩, ⟨(.int .i64), a1⟩, ⟨(.slc (.st 31)), a2⟩] => rec a0 a1 a2
  | _ => none

noncomputable def racetreelaw01_ScanThere_enc9 : Nat → List (TV U) → Option ((Bool) ⊕ (Unit))
  | 0, [⟨.bool, a0⟩] => some (.inl a0)
  | 1, [] => some (.inr ())
  | _, _ => none

noncomputable def racetreelaw01_ScanThere_dec9 : (Bool) ⊕ (Unit) → Nat × List (TV U) := fun r => match r with | (.inl x) => (0, [⟨.bool, x⟩]) | (.inr x) => (1, [])

noncomputable def racetreelaw01_ScanThere_tr9 : (Bool) ⊕ (Unit) → Tr (Nat × List (TV U)) := fun r => .alt r (fun x => .ret (0, [⟨.bool, x⟩])) (fun y => (fun x => .ret (1, [])) y)

noncomputable def racetreelaw01_ScanThere_lp9 : Lift.Loop U := ⟨racetreelaw01_ScanThere_sh9, racetreelaw01_ScanThere_o9, fun ls => match ls with | [⟨(.slc (.int .i64)), a0⟩, ⟨(.int .i64), a1⟩, ⟨(.slc (.st 31)), a2⟩] => .get (racetreelaw01_ScanThere_l9 a0 a1 a2) racetreelaw01_ScanThere_tr9 | _ => .fail⟩

theorem racetreelaw01_ScanThere_E9 (rec : List (Int) → Int → List (Spot) → Option ((Bool) ⊕ (Unit))) (a0 : List (Int)) (a1 : Int) (a2 : List (Spot)) : (Kit.withModes kk (modesOf ms24)).turn Try.f7.ntmps racetreelaw01_ScanThere_L9 racetreelaw01_ScanThere_sh9 racetreelaw01_ScanThere_o9 racetreelaw01_ScanThere_b9 [⟨(.slc (.int .i64)), a0⟩, ⟨(.int .i64), a1⟩, ⟨(.slc (.st 31)), a2⟩] (racetreelaw01_ScanThere_rec9 rec) racetreelaw01_ScanThere_enc9 = racetreelaw01_ScanThere_t9 rec a0 a1 a2 := by kernel_rfl

theorem racetreelaw01_ScanThere_ok9 : ∀ ls j rs, (racetreelaw01_ScanThere_lp9.sum ls).val = some (j, rs) → RoundPost kk anyEnv Try.f7.ntmps racetreelaw01_ScanThere_b9 racetreelaw01_ScanThere_lp9.sh racetreelaw01_ScanThere_lp9.outs ls j rs := by
  have inner : LoopsOk (Kit.withModes kk (modesOf ms24)) anyEnv Try.f7.ntmps racetreelaw01_ScanThere_L9 racetreelaw01_ScanThere_b9 := by
    exact loopsOk_of (bs := []) (by kernel_rfl) trivial
  have key : ∀ n a0 a1 a2 r j rs, racetreelaw01_ScanThere_i9 n a0 a1 a2 = some r → racetreelaw01_ScanThere_dec9 r = (j, rs) → RoundPost kk anyEnv Try.f7.ntmps racetreelaw01_ScanThere_b9 racetreelaw01_ScanThere_sh9 racetreelaw01_ScanThere_o9 [⟨(.slc (.int .i64)), a0⟩, ⟨(.int .i64), a1⟩, ⟨(.slc (.st 31)), a2⟩] j rs := by
    intro n
    induction n with
    | zero => intro a0 a1 a2 r j rs h; cases h
    | succ n ih =>
      intro a0 a1 a2 r j rs h hd
      refine RoundPost.modes.1 (turn_sound (kitOk_of eqOk mixed known24) inner ((racetreelaw01_ScanThere_E9 (racetreelaw01_ScanThere_i9 n) a0 a1 a2).trans h) (fun q hq => RoundPost.modes.2 ?_) ?_)
      · unfold racetreelaw01_ScanThere_rec9 at hq
        split at hq
        · exact ih _ _ _ r j rs hq hd
        · cases hq
      · intro i qs he
        unfold racetreelaw01_ScanThere_enc9 at he
        split at he <;> cases he <;> (cases hd; exact ⟨rfl, rfl⟩)
  intro ls j rs h
  simp only [racetreelaw01_ScanThere_lp9] at h
  split at h
  · obtain ⟨r, hr, h⟩ := Tr.get_val h
    rw [racetreelaw01_ScanThere_l9, sealF_eq] at hr
    refine key fuel _ _ _ r j rs hr ?_
    rcases r with r | r <;> exact Option.some.inj h
  · cases h

noncomputable def racetreelaw01_ScanThere_sh : StSh := ⟨⟨[0], [], []⟩, [.t (.slc (.int .i64))], []⟩

noncomputable def racetreelaw01_ScanThere_os : List StSh := [⟨⟨[0], [], []⟩, [.t .bool], []⟩]

noncomputable def racetreelaw01_ScanThere_L : Nat → Option (Lift.Loop U) := fun n => bif Nat.beq n 9 then some racetreelaw01_ScanThere_lp9 else none

noncomputable def racetreelaw01_ScanThere_enc : Nat → List (TV U) → Option (Bool)
  | 0, [⟨.bool, a0⟩] => some a0
  | _, _ => none

noncomputable def racetreelaw01_ScanThere_dec : Bool → Nat × List (TV U) := fun x => (0, [⟨.bool, x⟩])

noncomputable def racetreelaw01_ScanThere_tr : Bool → Tr (Nat × List (TV U)) := fun r => (fun x => .ret (0, [⟨.bool, x⟩])) r

noncomputable def racetreelaw01_ScanThere_md : Mode U := ⟨racetreelaw01_ScanThere_sh, [], racetreelaw01_ScanThere_os, fun ls => match ls with | [⟨(.slc (.int .i64)), a0⟩] => .get (racetreelaw01_ScanThere a0) racetreelaw01_ScanThere_tr | _ => .fail⟩

theorem racetreelaw01_ScanThere_E (a0 : List (Int)) : (Kit.withModes kk (modesOf ms24)).fnEval racetreelaw01_ScanThere_L Try.f7 racetreelaw01_ScanThere_sh racetreelaw01_ScanThere_os [⟨(.slc (.int .i64)), a0⟩] racetreelaw01_ScanThere_enc = racetreelaw01_ScanThere_f a0 := by kernel_rfl

theorem racetreelaw01_ScanThere_post : ∀ ls j rs, (racetreelaw01_ScanThere_md.sum ls).val = some (j, rs) → FnPost kk anyEnv 7 racetreelaw01_ScanThere_sh racetreelaw01_ScanThere_os ls j rs := by
  have inner : LoopsOk (Kit.withModes kk (modesOf ms24)) anyEnv Try.f7.ntmps racetreelaw01_ScanThere_L (bodyOf Try.f7) := by
    exact loopsOk_of (bs := [racetreelaw01_ScanThere_b9]) (by kernel_rfl) ⟨.inr ⟨_, by kernel_rfl, LoopOk.of_round racetreelaw01_ScanThere_ok9⟩, trivial⟩
  intro ls j rs h
  simp only [racetreelaw01_ScanThere_md] at h
  split at h
  · obtain ⟨r, hr, h⟩ := Tr.get_val h
    rw [racetreelaw01_ScanThere, sealF_eq] at hr
    have hd : racetreelaw01_ScanThere_dec r = (j, rs) := by
      exact Option.some.inj h
    refine FnPost.modes.1 (fn_sound (kitOk_of eqOk mixed known24) (by kernel_rfl) inner ((racetreelaw01_ScanThere_E _).trans hr) ?_)
    intro i qs he
    unfold racetreelaw01_ScanThere_enc at he
    split at he <;> cases he <;> (cases hd; exact ⟨rfl, rfl⟩)
  · cases h

noncomputable def ms25 : List (FuncId × Mode U) := (7, racetreelaw01_ScanThere_md) :: ms24

theorem known25 : Known kk anyEnv (modesOf ms25) := known_cons (by kernel_rfl) racetreelaw01_ScanThere_post known24

noncomputable def racetreelaw01_same_sh4 : StSh := ⟨⟨[0, 1, 5], [], []⟩, [.t (.slc (.st 31)), .t (.slc (.st 31)), .t (.int .i64)], []⟩

noncomputable def racetreelaw01_same_o4 : List Out := [⟨.ret, ⟨⟨[4], [], []⟩, [.t .bool], []⟩⟩, ⟨.exit 0, ⟨⟨[], [], []⟩, [], []⟩⟩]

noncomputable def racetreelaw01_same_b4 : Code := (nthLoop (bodyOf Try.f13) 0)

noncomputable def racetreelaw01_same_L4 : Nat → Option (Lift.Loop U) := fun n => none

noncomputable def racetreelaw01_same_rec4 (rec : List (Spot) → List (Spot) → Int → Option ((Bool) ⊕ (Unit))) : List (TV U) → Option ((Bool) ⊕ (Unit))
  | [⟨(.slc (.st 31)), a0⟩, ⟨(.slc (.st 31)), a1⟩, ⟨(.int .i64), a2⟩] => rec a0 a1 a2
  | _ => none

noncomputable def racetreelaw01_same_enc4 : Nat → List (TV U) → Option ((Bool) ⊕ (Unit))
  | 0, [⟨.bool, a0⟩] => some (.inl a0)
  | 1, [] => some (.inr ())
  | _, _ => none

noncomputable def racetreelaw01_same_dec4 : (Bool) ⊕ (Unit) → Nat × List (TV U) := fun r => match r with | (.inl x) => (0, [⟨.bool, x⟩]) | (.inr x) => (1, [])

noncomputable def racetreelaw01_same_tr4 : (Bool) ⊕ (Unit) → Tr (Nat × List (TV U)) := fun r => .alt r (fun x => .ret (0, [⟨.bool, x⟩])) (fun y => (fun x => .ret (1, [])) y)

noncomputable def racetreelaw01_same_lp4 : Lift.Loop U := ⟨racetreelaw01_same_sh4, racetreelaw01_same_o4, fun ls => match ls with | [⟨(.slc (.st 31)), a0⟩, ⟨(.slc (.st 31)), a1⟩, ⟨(.int .i64), a2⟩] => .get (racetreelaw01_same_l4 a0 a1 a2) racetreelaw01_same_tr4 | _ => .fail⟩

theorem racetreelaw01_same_E4 (rec : List (Spot) → List (Spot) → Int → Option ((Bool) ⊕ (Unit))) (a0 : List (Spot)) (a1 : List (Spot)) (a2 : Int) : (Kit.withModes kk (modesOf ms25)).turn Try.f13.ntmps racetreelaw01_same_L4 racetreelaw01_same_sh4 racetreelaw01_same_o4 racetreelaw01_same_b4 [⟨(.slc (.st 31)), a0⟩, ⟨(.slc (.st 31)), a1⟩, ⟨(.int .i64), a2⟩] (racetreelaw01_same_rec4 rec) racetreelaw01_same_enc4 = racetreelaw01_same_t4 rec a0 a1 a2 := by kernel_rfl

theorem racetreelaw01_same_ok4 : ∀ ls j rs, (racetreelaw01_same_lp4.sum ls).val = some (j, rs) → RoundPost kk anyEnv Try.f13.ntmps racetreelaw01_same_b4 racetreelaw01_same_lp4.sh racetreelaw01_same_lp4.outs ls j rs := by
  have inner : LoopsOk (Kit.withModes kk (modesOf ms25)) anyEnv Try.f13.ntmps racetreelaw01_same_L4 racetreelaw01_same_b4 := by
    exact loopsOk_of (bs := []) (by kernel_rfl) trivial
  have key : ∀ n a0 a1 a2 r j rs, racetreelaw01_same_i4 n a0 a1 a2 = some r → racetreelaw01_same_dec4 r = (j, rs) → RoundPost kk anyEnv Try.f13.ntmps racetreelaw01_same_b4 racetreelaw01_same_sh4 racetreelaw01_same_o4 [⟨(.slc (.st 31)), a0⟩, ⟨(.slc (.st 31)), a1⟩, ⟨(.int .i64), a2⟩] j rs := by
    intro n
    induction n with
    | zero => intro a0 a1 a2 r j rs h; cases h
    | succ n ih =>
      intro a0 a1 a2 r j rs h hd
      refine RoundPost.modes.1 (turn_sound (kitOk_of eqOk mixed known25) inner ((racetreelaw01_same_E4 (racetreelaw01_same_i4 n) a0 a1 a2).trans h) (fun q hq => RoundPost.modes.2 ?_) ?_)
      · unfold racetreelaw01_same_rec4 at hq
        split at hq
        · exact ih _ _ _ r j rs hq hd
        · cases hq
      · intro i qs he
        unfold racetreelaw01_same_enc4 at he
        split at he <;> cases he <;> (cases hd; exact ⟨rfl, rfl⟩)
  intro ls j rs h
  simp only [racetreelaw01_same_lp4] at h
  split at h
  · obtain ⟨r, hr, h⟩ := Tr.get_val h
    rw [racetreelaw01_same_l4, sealF_eq] at hr
    refine key fuel _ _ _ r j rs hr ?_
    rcases r with r | r <;> exact Option.some.inj h
  · cases h

noncomputable def racetreelaw01_same_sh : StSh := ⟨⟨[0, 1], [], []⟩, [.t (.slc (.st 31)), .t (.slc (.st 31))], []⟩

noncomputable def racetreelaw01_same_os : List StSh := [⟨⟨[0], [], []⟩, [.t .bool], []⟩]

noncomputable def racetreelaw01_same_L : Nat → Option (Lift.Loop U) := fun n => bif Nat.beq n 4 then some racetreelaw01_same_lp4 else none

noncomputable def racetreelaw01_same_enc : Nat → List (TV U) → Option (Bool)
  | 0, [⟨.bool, a0⟩] => some a0
  | _, _ => none

noncomputable def racetreelaw01_same_dec : Bool → Nat × List (TV U) := fun x => (0, [⟨.bool, x⟩])

noncomputable def racetreelaw01_same_tr : Bool → Tr (Nat × List (TV U)) := fun r => (fun x => .ret (0, [⟨.bool, x⟩])) r

noncomputable def racetreelaw01_same_md : Mode U := ⟨racetreelaw01_same_sh, [], racetreelaw01_same_os, fun ls => match ls with | [⟨(.slc (.st 31)), a0⟩, ⟨(.slc (.st 31)), a1⟩] => .get (racetreelaw01_same a0 a1) racetreelaw01_same_tr | _ => .fail⟩

theorem racetreelaw01_same_E (a0 : List (Spot)) (a1 : List (Spot)) : (Kit.withModes kk (modesOf ms25)).fnEval racetreelaw01_same_L Try.f13 racetreelaw01_same_sh racetreelaw01_same_os [⟨(.slc (.st 31)), a0⟩, ⟨(.slc (.st 31)), a1⟩] racetreelaw01_same_enc = racetreelaw01_same_f a0 a1 := by kernel_rfl

theorem racetreelaw01_same_post : ∀ ls j rs, (racetreelaw01_same_md.sum ls).val = some (j, rs) → FnPost kk anyEnv 13 racetreelaw01_same_sh racetreelaw01_same_os ls j rs := by
  have inner : LoopsOk (Kit.withModes kk (modesOf ms25)) anyEnv Try.f13.ntmps racetreelaw01_same_L (bodyOf Try.f13) := by
    exact loopsOk_of (bs := [racetreelaw01_same_b4]) (by kernel_rfl) ⟨.inr ⟨_, by kernel_rfl, LoopOk.of_round racetreelaw01_same_ok4⟩, trivial⟩
  intro ls j rs h
  simp only [racetreelaw01_same_md] at h
  split at h
  · obtain ⟨r, hr, h⟩ := Tr.get_val h
    rw [racetreelaw01_same, sealF_eq] at hr
    have hd : racetreelaw01_same_dec r = (j, rs) := by
      exact Option.some.inj h
    refine FnPost.modes.1 (fn_sound (kitOk_of eqOk mixed known25) (by kernel_rfl) inner ((racetreelaw01_same_E _ _).trans hr) ?_)
    intro i qs he
    unfold racetreelaw01_same_enc at he
    split at he <;> cases he <;> (cases hd; exact ⟨rfl, rfl⟩)
  · cases h

noncomputable def ms26 : List (FuncId × Mode U) := (13, racetreelaw01_same_md) :: ms25

theorem known26 : Known kk anyEnv (modesOf ms26) := known_cons (by kernel_rfl) racetreelaw01_same_post known25

noncomputable def racetreelaw01_ScanBack_sh7 : StSh := ⟨⟨[0, 1, 6, 8, 9], [], [⟨.slot 6, 6, 31, (.st 31)⟩, ⟨.slot 8, 8, 3, (.int .i64)⟩]⟩, [.t .str, .t (.int .i64), .oslc 6, .oslc 8, .t (.int .i64)], [.row 31 (.st 31), .row 3 (.int .i64)]⟩

noncomputable def racetreelaw01_ScanBack_o7 : List Out := [⟨.exit 0, ⟨⟨[0, 1, 6, 8], [], [⟨.slot 6, 6, 31, (.st 31)⟩, ⟨.slot 8, 8, 3, (.int .i64)⟩]⟩, [.t .str, .t (.int .i64), .oslc 6, .oslc 8], [.row 31 (.st 31), .row 3 (.int .i64)]⟩⟩]

noncomputable def racetreelaw01_ScanBack_b7 : Code := (nthLoop (bodyOf Try.f6) 0)

noncomputable def racetreelaw01_ScanBack_L7 : Nat → Option (Lift.Loop U) := fun n => none

noncomputable def racetreelaw01_ScanBack_rec7 (rec : List UInt8 → Int → Int → List (Spot) → List (Int) → Option ((List UInt8) × Int × (List (Spot)) × (List (Int)))) : List (TV U) → Option ((List UInt8) × Int × (List (Spot)) × (List (Int)))
  | [⟨.str, a0⟩, ⟨(.int .i64), a1⟩, ⟨(.int .i64), a2⟩, ⟨(.slc (.st 31)), a3⟩, ⟨(.slc (.int .i64)), a4⟩] => rec a0 a1 a2 a3 a4
  | _ => none

noncomputable def racetreelaw01_ScanBack_enc7 : Nat → List (TV U) → Option ((List UInt8) × Int × (List (Spot)) × (List (Int)))
  | 0, [⟨.str, a0⟩, ⟨(.int .i64), a1⟩, ⟨(.slc (.st 31)), a2⟩, ⟨(.slc (.int .i64)), a3⟩] => some (a0, a1, a2, a3)
  | _, _ => none

noncomputable def racetreelaw01_ScanBack_dec7 : (List UInt8) × Int × (List (Spot)) × (List (Int)) → Nat × List (TV U) := fun x => (0, [⟨.str, x.1⟩, ⟨(.int .i64), x.2.1⟩, ⟨(.slc (.st 31)), x.2.2.1⟩, ⟨(.slc (.int .i64)), x.2.2.2⟩])

noncomputable def racetreelaw01_ScanBack_tr7 : (List UInt8) × Int × (List (Spot)) × (List (Int)) → Tr (Nat × List (TV U)) := fun r => (fun x => .ret (0, [⟨.str, x.1⟩, ⟨(.int .i64), x.2.1⟩, ⟨(.slc (.st 31)), x.2.2.1⟩, ⟨(.slc (.int .i64)), x.2.2.2⟩])) r

noncomputable def racetreelaw01_ScanBack_lp7 : Lift.Loop U := ⟨racetreelaw01_ScanBack_sh7, racetreelaw01_ScanBack_o7, fun ls => match ls with | [⟨.str, a0⟩, ⟨(.int .i64), a1⟩, ⟨(.int .i64), a2⟩, ⟨(.slc (.st 31)), a3⟩, ⟨(.slc (.int .i64)), a4⟩] => .get (racetreelaw01_ScanBack_l7 a0 a1 a2 a3 a4) racetreelaw01_ScanBack_tr7 | _ => .fail⟩

theorem racetreelaw01_ScanBack_E7 (rec : List UInt8 → Int → Int → List (Spot) → List (Int) → Option ((List UInt8) × Int × (List (Spot)) × (List (Int)))) (a0 : List UInt8) (a1 : Int) (a2 : Int) (a3 : List (Spot)) (a4 : List (Int)) : (Kit.withModes kk (modesOf ms26)).turn Try.f6.ntmps racetreelaw01_ScanBack_L7 racetreelaw01_ScanBack_sh7 racetreelaw01_ScanBack_o7 racetreelaw01_ScanBack_b7 [⟨.str, a0⟩, ⟨(.int .i64), a1⟩, ⟨(.int .i64), a2⟩, ⟨(.slc (.st 31)), a3⟩, ⟨(.slc (.int .i64)), a4⟩] (racetreelaw01_ScanBack_rec7 rec) racetreelaw01_ScanBack_enc7 = racetreelaw01_ScanBack_t7 rec a0 a1 a2 a3 a4 := by kernel_rfl

theorem racetreelaw01_ScanBack_ok7 : ∀ ls j rs, (racetreelaw01_ScanBack_lp7.sum ls).val = some (j, rs) → RoundPost kk anyEnv Try.f6.ntmps racetreelaw01_ScanBack_b7 racetreelaw01_ScanBack_lp7.sh racetreelaw01_ScanBack_lp7.outs ls j rs := by
  have inner : LoopsOk (Kit.withModes kk (modesOf ms26)) anyEnv Try.f6.ntmps racetreelaw01_ScanBack_L7 racetreelaw01_ScanBack_b7 := by
    exact loopsOk_of (bs := []) (by kernel_rfl) trivial
  have key : ∀ n a0 a1 a2 a3 a4 r j rs, racetreelaw01_ScanBack_i7 n a0 a1 a2 a3 a4 = some r → racetreelaw01_ScanBack_dec7 r = (j, rs) → RoundPost kk anyEnv Try.f6.ntmps racetreelaw01_ScanBack_b7 racetreelaw01_ScanBack_sh7 racetreelaw01_ScanBack_o7 [⟨.str, a0⟩, ⟨(.int .i64), a1⟩, ⟨(.int .i64), a2⟩, ⟨(.slc (.st 31)), a3⟩, ⟨(.slc (.int .i64)), a4⟩] j rs := by
    intro n
    induction n with
    | zero => intro a0 a1 a2 a3 a4 r j rs h; cases h
    | succ n ih =>
      intro a0 a1 a2 a3 a4 r j rs h hd
      refine RoundPost.modes.1 (turn_sound (kitOk_of eqOk mixed known26) inner ((racetreelaw01_ScanBack_E7 (racetreelaw01_ScanBack_i7 n) a0 a1 a2 a3 a4).trans h) (fun q hq => RoundPost.modes.2 ?_) ?_)
      · unfold racetreelaw01_ScanBack_rec7 at hq
        split at hq
        · exact ih _ _ _ _ _ r j rs hq hd
        · cases hq
      · intro i qs he
        unfold racetreelaw01_ScanBack_enc7 at he
        split at he <;> cases he <;> (cases hd; exact ⟨rfl, rfl⟩)
  intro ls j rs h
  simp only [racetreelaw01_ScanBack_lp7] at h
  split at h
  · obtain ⟨r, hr, h⟩ := Tr.get_val h
    rw [racetreelaw01_ScanBack_l7, sealF_eq] at hr
    refine key fuel _ _ _ _ _ r j rs hr ?_
    exact Option.some.inj h
  · cases h

noncomputable def racetreelaw01_ScanBack_sh : StSh := ⟨⟨[0, 1], [], []⟩, [.t .str, .t (.int .i64)], []⟩

noncomputable def racetreelaw01_ScanBack_os : List StSh := [⟨⟨[0], [], []⟩, [.t .bool], []⟩]

noncomputable def racetreelaw01_ScanBack_L : Nat → Option (Lift.Loop U) := fun n => bif Nat.beq n 7 then some racetreelaw01_ScanBack_lp7 else none

noncomputable def racetreelaw01_ScanBack_enc : Nat → List (TV U) → Option (Bool)
  | 0, [⟨.bool, a0⟩] => some a0
  | _, _ => none

noncomputable def racetreelaw01_ScanBack_dec : Bool → Nat × List (TV U) := fun x => (0, [⟨.bool, x⟩])

noncomputable def racetreelaw01_ScanBack_tr : Bool → Tr (Nat × List (TV U)) := fun r => (fun x => .ret (0, [⟨.bool, x⟩])) r

noncomputable def racetreelaw01_ScanBack_md : Mode U := ⟨racetreelaw01_ScanBack_sh, [], racetreelaw01_ScanBack_os, fun ls => match ls with | [⟨.str, a0⟩, ⟨(.int .i64), a1⟩] => .get (racetreelaw01_ScanBack a0 a1) racetreelaw01_ScanBack_tr | _ => .fail⟩

theorem racetreelaw01_ScanBack_E (a0 : List UInt8) (a1 : Int) : (Kit.withModes kk (modesOf ms26)).fnEval racetreelaw01_ScanBack_L Try.f6 racetreelaw01_ScanBack_sh racetreelaw01_ScanBack_os [⟨.str, a0⟩, ⟨(.int .i64), a1⟩] racetreelaw01_ScanBack_enc = racetreelaw01_ScanBack_f a0 a1 := by kernel_rfl

theorem racetreelaw01_ScanBack_post : ∀ ls j rs, (racetreelaw01_ScanBack_md.sum ls).val = some (j, rs) → FnPost kk anyEnv 6 racetreelaw01_ScanBack_sh racetreelaw01_ScanBack_os ls j rs := by
  have inner : LoopsOk (Kit.withModes kk (modesOf ms26)) anyEnv Try.f6.ntmps racetreelaw01_ScanBack_L (bodyOf Try.f6) := by
    exact loopsOk_of (bs := [racetreelaw01_ScanBack_b7]) (by kernel_rfl) ⟨.inr ⟨_, by kernel_rfl, LoopOk.of_round racetreelaw01_ScanBack_ok7⟩, trivial⟩
  intro ls j rs h
  simp only [racetreelaw01_ScanBack_md] at h
  split at h
  · obtain ⟨r, hr, h⟩ := Tr.get_val h
    rw [racetreelaw01_ScanBack, sealF_eq] at hr
    have hd : racetreelaw01_ScanBack_dec r = (j, rs) := by
      exact Option.some.inj h
    refine FnPost.modes.1 (fn_sound (kitOk_of eqOk mixed known26) (by kernel_rfl) inner ((racetreelaw01_ScanBack_E _ _).trans hr) ?_)
    intro i qs he
    unfold racetreelaw01_ScanBack_enc at he
    split at he <;> cases he <;> (cases hd; exact ⟨rfl, rfl⟩)
  · cases h

noncomputable def ms27 : List (FuncId × Mode U) := (6, racetreelaw01_ScanBack_md) :: ms26

theorem known27 : Known kk anyEnv (modesOf ms27) := known_cons (by kernel_rfl) racetreelaw01_ScanBack_post known26

noncomputable def racetreeref01_Encoded_sh : StSh := ⟨⟨[0], [], []⟩, [.t (.int .i64)], []⟩

noncomputable def racetreeref01_Encoded_os : List StSh := [⟨⟨[0], [], [⟨.slot 0, 100000, 5, (.int .u8)⟩]⟩, [.oslc 100000], [.row 5 (.int .u8)]⟩]

noncomputable def racetreeref01_Encoded_L : Nat → Option (Lift.Loop U) := fun n => none

noncomputable def racetreeref01_Encoded_enc : Nat → List (TV U) → Option ((List (Int)))
  | 0, [⟨(.slc (.int .u8)), a0⟩] => some a0
  | _, _ => none

noncomputable def racetreeref01_Encoded_dec : (List (Int)) → Nat × List (TV U) := fun x => (0, [⟨(.slc (.int .u8)), x⟩])

noncomputable def racetreeref01_Encoded_tr : (List (Int)) → Tr (Nat × List (TV U)) := fun r => (fun x => .ret (0, [⟨(.slc (.int .u8)), x⟩])) r

noncomputable def racetreeref01_Encoded_md : Mode U := ⟨racetreeref01_Encoded_sh, [], racetreeref01_Encoded_os, fun ls => match ls with | [⟨(.int .i64), a0⟩] => .get (racetreeref01_Encoded a0) racetreeref01_Encoded_tr | _ => .fail⟩

theorem racetreeref01_Encoded_E (a0 : Int) : (Kit.withModes kk (modesOf ms27)).fnEval racetreeref01_Encoded_L Try.f27 racetreeref01_Encoded_sh racetreeref01_Encoded_os [⟨(.int .i64), a0⟩] racetreeref01_Encoded_enc = racetreeref01_Encoded_f a0 := by kernel_rfl

theorem racetreeref01_Encoded_post : ∀ ls j rs, (racetreeref01_Encoded_md.sum ls).val = some (j, rs) → FnPost kk anyEnv 27 racetreeref01_Encoded_sh racetreeref01_Encoded_os ls j rs := by
  have inner : LoopsOk (Kit.withModes kk (modesOf ms27)) anyEnv Try.f27.ntmps racetreeref01_Encoded_L (bodyOf Try.f27) := by
    exact loopsOk_of (bs := []) (by kernel_rfl) trivial
  intro ls j rs h
  simp only [racetreeref01_Encoded_md] at h
  split at h
  · obtain ⟨r, hr, h⟩ := Tr.get_val h
    rw [racetreeref01_Encoded, sealF_eq] at hr
    have hd : racetreeref01_Encoded_dec r = (j, rs) := by
      exact Option.some.inj h
    refine FnPost.modes.1 (fn_sound (kitOk_of eqOk mixed known27) (by kernel_rfl) inner ((racetreeref01_Encoded_E _).trans hr) ?_)
    intro i qs he
    unfold racetreeref01_Encoded_enc at he
    split at he <;> cases he <;> (cases hd; exact ⟨rfl, rfl⟩)
  · cases h

noncomputable def ms28 : List (FuncId × Mode U) := (27, racetreeref01_Encoded_md) :: ms27

theorem known28 : Known kk anyEnv (modesOf ms28) := known_cons (by kernel_rfl) racetreeref01_Encoded_post known27

noncomputable def racetreeref01_Text_sh5 : StSh := ⟨⟨[0, 4, 5], [], [⟨.slot 4, 4, 5, (.int .u8)⟩]⟩, [.t (.slc (.int .i64)), .oslc 4, .t (.int .i64)], [.row 5 (.int .u8)]⟩

noncomputable def racetreeref01_Text_o5 : List Out := [⟨.ret, ⟨⟨[2, 3], [], []⟩, [.t .str, .t (.int .i64)], []⟩⟩, ⟨.exit 0, ⟨⟨[4], [], [⟨.slot 4, 4, 5, (.int .u8)⟩]⟩, [.oslc 4], [.row 5 (.int .u8)]⟩⟩]

noncomputable def racetreeref01_Text_b5 : Code := (nthLoop (bodyOf Try.f16) 0)

noncomputable def racetreeref01_Text_L5 : Nat → Option (Lift.Loop U) := fun n => none

noncomputable def racetreeref01_Text_rec5 (rec : List (Int) → Int → List (Int) → Option (((List UInt8) × Int) ⊕ ((List (Int))))) : List (TV U) → Option (((List UInt8) × Int) ⊕ ((List (Int))))
  | [⟨(.slc (.int .i64)), a0⟩, ⟨(.int .i64), a1⟩, ⟨(.slc (.int .u8)), a2⟩] => rec a0 a1 a2
  | _ => none

noncomputable def racetreeref01_Text_enc5 : Nat → List (TV U) → Option (((List UInt8) × Int) ⊕ ((List (Int))))
  | 0, [⟨.str, a0⟩, ⟨(.int .i64), a1⟩] => some (.inl (a0, a1))
  | 1, [⟨(.slc (.int .u8)), a0⟩] => some (.inr a0)
  | _, _ => none

noncomputable def racetreeref01_Text_dec5 : ((List UInt8) × Int) ⊕ ((List (Int))) → Nat × List (TV U) := fun r => match r with | (.inl x) => (0, [⟨.str, x.1⟩, ⟨(.int .i64), x.2⟩]) | (.inr x) => (1, [⟨(.slc (.int .u8)), x⟩])

noncomputable def racetreeref01_Text_tr5 : ((List UInt8) × Int) ⊕ ((List (Int))) → Tr (Nat × List (TV U)) := fun r => .alt r (fun x => .ret (0, [⟨.str, x.1⟩, ⟨(.int .i64), x.2⟩])) (fun y => (fun x => .ret (1, [⟨(.slc (.int .u8)), x⟩])) y)

noncomputable def racetreeref01_Text_lp5 : Lift.Loop U := ⟨racetreeref01_Text_sh5, racetreeref01_Text_o5, fun ls => match ls with | [⟨(.slc (.int .i64)), a0⟩, ⟨(.int .i64), a1⟩, ⟨(.slc (.int .u8)), a2⟩] => .get (racetreeref01_Text_l5 a0 a1 a2) racetreeref01_Text_tr5 | _ => .fail⟩

theorem racetreeref01_Text_E5 (rec : List (Int) → Int → List (Int) → Option (((List UInt8) × Int) ⊕ ((List (Int))))) (a0 : List (Int)) (a1 : Int) (a2 : List (Int)) : (Kit.withModes kk (modesOf ms28)).turn Try.f16.ntmps racetreeref01_Text_L5 racetreeref01_Text_sh5 racetreeref01_Text_o5 racetreeref01_Text_b5 [⟨(.slc (.int .i64)), a0⟩, ⟨(.int .i64), a1⟩, ⟨(.slc (.int .u8)), a2⟩] (racetreeref01_Text_rec5 rec) racetreeref01_Text_enc5 = racetreeref01_Text_t5 rec a0 a1 a2 := by kernel_rfl

theorem racetreeref01_Text_ok5 : ∀ ls j rs, (racetreeref01_Text_lp5.sum ls).val = some (j, rs) → RoundPost kk anyEnv Try.f16.ntmps racetreeref01_Text_b5 racetreeref01_Text_lp5.sh racetreeref01_Text_lp5.outs ls j rs := by
  have inner : LoopsOk (Kit.withModes kk (modesOf ms28)) anyEnv Try.f16.ntmps racetreeref01_Text_L5 racetreeref01_Text_b5 := by
    exact loopsOk_of (bs := []) (by kernel_rfl) trivial
  have key : ∀ n a0 a1 a2 r j rs, racetreeref01_Text_i5 n a0 a1 a2 = some r → racetreeref01_Text_dec5 r = (j, rs) → RoundPost kk anyEnv Try.f16.ntmps racetreeref01_Text_b5 racetreeref01_Text_sh5 racetreeref01_Text_o5 [⟨(.slc (.int .i64)), a0⟩, ⟨(.int .i64), a1⟩, ⟨(.slc (.int .u8)), a2⟩] j rs := by
    intro n
    induction n with
    | zero => intro a0 a1 a2 r j rs h; cases h
    | succ n ih =>
      intro a0 a1 a2 r j rs h hd
      refine RoundPost.modes.1 (turn_sound (kitOk_of eqOk mixed known28) inner ((racetreeref01_Text_E5 (racetreeref01_Text_i5 n) a0 a1 a2).trans h) (fun q hq => RoundPost.modes.2 ?_) ?_)
      · unfold racetreeref01_Text_rec5 at hq
        split at hq
        · exact ih _ _ _ r j rs hq hd
        · cases hq
      · intro i qs he
        unfold racetreeref01_Text_enc5 at he
        split at he <;> cases he <;> (cases hd; exact ⟨rfl, rfl⟩)
  intro ls j rs h
  simp only [racetreeref01_Text_lp5] at h
  split at h
  · obtain ⟨r, hr, h⟩ := Tr.get_val h
    rw [racetreeref01_Text_l5, sealF_eq] at hr
    refine key fuel _ _ _ r j rs hr ?_
    rcases r with r | r <;> exact Option.some.inj h
  · cases h

noncomputable def racetreeref01_Text_sh : StSh := ⟨⟨[0], [], []⟩, [.t (.slc (.int .i64))], []⟩

noncomputable def racetreeref01_Text_os : List StSh := [⟨⟨[0, 1], [], []⟩, [.t .str, .t (.int .i64)], []⟩]

noncomputable def racetreeref01_Text_L : Nat → Option (Lift.Loop U) := fun n => bif Nat.beq n 5 then some racetreeref01_Text_lp5 else none

noncomputable def racetreeref01_Text_enc : Nat → List (TV U) → Option ((List UInt8) × Int)
  | 0, [⟨.str, a0⟩, ⟨(.int .i64), a1⟩] => some (a0, a1)
  | _, _ => none

noncomputable def racetreeref01_Text_dec : (List UInt8) × Int → Nat × List (TV U) := fun x => (0, [⟨.str, x.1⟩, ⟨(.int .i64), x.2⟩])

noncomputable def racetreeref01_Text_tr : (List UInt8) × Int → Tr (Nat × List (TV U)) := fun r => (fun x => .ret (0, [⟨.str, x.1⟩, ⟨(.int .i64), x.2⟩])) r

noncomputable def racetreeref01_Text_md : Mode U := ⟨racetreeref01_Text_sh, [], racetreeref01_Text_os, fun ls => match ls with | [⟨(.slc (.int .i64)), a0⟩] => .get (racetreeref01_Text a0) racetreeref01_Text_tr | _ => .fail⟩

theorem racetreeref01_Text_E (a0 : List (Int)) : (Kit.withModes kk (modesOf ms28)).fnEval racetreeref01_Text_L Try.f16 racetreeref01_Text_sh racetreeref01_Text_os [⟨(.slc (.int .i64)), a0⟩] racetreeref01_Text_enc = racetreeref01_Text_f a0 := by kernel_rfl

theorem racetreeref01_Text_post : ∀ ls j rs, (racetreeref01_Text_md.sum ls).val = some (j, rs) → FnPost kk anyEnv 16 racetreeref01_Text_sh racetreeref01_Text_os ls j rs := by
  have inner : LoopsOk (Kit.withModes kk (modesOf ms28)) anyEnv Try.f16.ntmps racetreeref01_Text_L (bodyOf Try.f16) := by
    exact loopsOk_of (bs := [racetreeref01_Text_b5]) (by kernel_rfl) ⟨.inr ⟨_, by kernel_rfl, LoopOk.of_round racetreeref01_Text_ok5⟩, trivial⟩
  intro ls j rs h
  simp only [racetreeref01_Text_md] at h
  split at h
  · obtain ⟨r, hr, h⟩ := Tr.get_val h
    rw [racetreeref01_Text, sealF_eq] at hr
    have hd : racetreeref01_Text_dec r = (j, rs) := by
      exact Option.some.inj h
    refine FnPost.modes.1 (fn_sound (kitOk_of eqOk mixed known28) (by kernel_rfl) inner ((racetreeref01_Text_E _).trans hr) ?_)
    intro i qs he
    unfold racetreeref01_Text_enc at he
    split at he <;> cases he <;> (cases hd; exact ⟨rfl, rfl⟩)
  · cases h

noncomputable def ms29 : List (FuncId × Mode U) := (16, racetreeref01_Text_md) :: ms28

theorem known29 : Known kk anyEnv (modesOf ms29) := known_cons (by kernel_rfl) racetreeref01_Text_post known28

noncomputable def racetreelaw01_ScanTexts_sh10 : StSh := ⟨⟨[0, 3, 4, 5, 6, 7, 8, 9, 10], [], []⟩, [.t (.slc (.int .i64)), .t .bool, .t (.slc (.int .i64)), .t .str, .t (.int .i64), .t .str, .t (.int .i64), .t .bool, .t (.int .i64)], []⟩

noncomputable def racetreelaw01_ScanTexts_o10 : List Out := [⟨.exit 0, ⟨⟨[3, 5, 6, 7, 8, 9], [], []⟩, [.t .bool, .t .str, .t (.int .i64), .t .str, .t (.int .i64), .t .bool], []⟩⟩]

noncomputable def racetreelaw01_ScanTexts_b10 : Code := (nthLoop (bodyOf Try.f5) 0)

noncomputable def racetreelaw01_ScanTexts_L10 : Nat → Option (Lift.Loop U) := fun n => none

noncomputable def racetreelaw01_ScanTexts_rec10 (rec : List (Int) → Bool → List (Int) → List UInt8 → Int → List UInt8 → Int → Bool → Int → Option (Bool × (List UInt8) × Int × (List UInt8) × Int × Bool)) : List (TV U) → Option (Bool × (List UInt8) × Int × (List UInt8) × Int × Bool)
  | [⟨(.slc (.int .i64)), a0⟩, ⟨.bool, a1⟩, ⟨(.slc (.int .i64)), a2⟩, ⟨.str, a3⟩, ⟨(.int .i64), a4⟩, ⟨.str, a5⟩, ⟨(.int .i64), a6⟩, ⟨.bool, a7⟩, ⟨(.int .i64), a8⟩] => rec a0 a1 a2 a3 a4 a5 a6 a7 a8
  | _ => none

noncomputable def racetreelaw01_ScanTexts_enc10 : Nat → List (TV U) → Option (Bool × (List UInt8) × Int × (List UInt8) × Int × Bool)
  | 0, [⟨.bool, a0⟩, ⟨.str, a1⟩, ⟨(.int .i64), a2⟩, ⟨.str, a3⟩, ⟨(.int .i64), a4⟩, ⟨.bool, a5⟩] => some (a0, a1, a2, a3, a4, a5)
  | _, _ => none

noncomputable def racetreelaw01_ScanTexts_dec10 : Bool × (List UInt8) × Int × (List UInt8) × Int × Bool → Nat × List (TV U) := fun x => (0, [⟨.bool, x.1⟩, ⟨.str, x.2.1⟩, ⟨(.int .i64), x.2.2.1⟩, ⟨.str, x.2.2.2.1⟩, ⟨(.int .i64), x.2.2.2.2.1⟩, ⟨.bool, x.2.2.2.2.2⟩])

noncomputable def racetreelaw01_ScanTexts_tr10 : Bool × (List UInt8) × Int × (List UInt8) × Int × Bool → Tr (Nat × List (TV U)) := fun r => (fun x => .ret (0, [⟨.bool, x.1⟩, ⟨.str, x.2.1⟩, ⟨(.int .i64), x.2.2.1⟩, ⟨.str, x.2.2.2.1⟩, ⟨(.int .i64), x.2.2.2.2.1⟩, ⟨.bool, x.2.2.2.2.2⟩])) r

noncomputable def racetreelaw01_ScanTexts_lp10 : Lift.Loop U := ⟨racetreelaw01_ScanTexts_sh10, racetreelaw01_ScanTexts_o10, fun ls => match ls with | [⟨(.slc (.int .i64)), a0⟩, ⟨.bool, a1⟩, ⟨(.slc (.int .i64)), a2⟩, ⟨.str, a3⟩, ⟨(.int .i64), a4⟩, ⟨.str, a5⟩, ⟨(.int .i64), a6⟩, ⟨.bool, a7⟩, ⟨(.int .i64), a8⟩] => .get (racetreelaw01_ScanTexts_l10 a0 a1 a2 a3 a4 a5 a6 a7 a8) racetreelaw01_ScanTexts_tr10 | _ => .fail⟩

theorem racetreelaw01_ScanTexts_E10 (rec : List (Int) → Bool → List (Int) → List UInt8 → Int → List UInt8 → Int → Bool → Int → Option (Bool × (List UInt8) × Int × (List UInt8) × Int × Bool)) (a0 : List (Int)) (a1 : Bool) (a2 : List (Int)) (a3 : List UInt8) (a4 : Int) (a5 : List UInt8) (a6 : Int) (a7 : Bool) (a8 : Int) : (Kit.withModes kk (modesOf ms29)).turn Try.f5.ntmps racetreelaw01_ScanTexts_L10 racetreelaw01_ScanTexts_sh10 racetreelaw01_ScanTexts_o10 racetreelaw01_ScanTexts_b10 [⟨(.slc (.int .i64)), a0⟩, ⟨.bool, a1⟩, ⟨(.slc (.int .i64)), a2⟩, ⟨.str, a3⟩, ⟨(.int .i64), a4⟩, ⟨.str, a5⟩, ⟨(.int .i64), a6⟩, ⟨.bool, a7⟩, ⟨(.int .i64), a8⟩] (racetreelaw01_ScanTexts_rec10 rec) racetreelaw01_ScanTexts_enc10 = racetreelaw01_ScanTexts_t10 rec a0 a1 a2 a3 a4 a5 a6 a7 a8 := by kernel_rfl

theorem racetreelaw01_ScanTexts_ok10 : ∀ ls j rs, (racetreelaw01_ScanTexts_lp10.sum ls).val = some (j, rs) → RoundPost kk anyEnv Try.f5.ntmps racetreelaw01_ScanTexts_b10 racetreelaw01_ScanTexts_lp10.sh racetreelaw01_ScanTexts_lp10.outs ls j rs := by
  have inner : LoopsOk (Kit.withModes kk (modesOf ms29)) anyEnv Try.f5.ntmps racetreelaw01_ScanTexts_L10 racetreelaw01_ScanTexts_b10 := by
    exact loopsOk_of (bs := []) (by kernel_rfl) trivial
  have key : ∀ n a0 a1 a2 a3 a4 a5 a6 a7 a8 r j rs, racetreelaw01_ScanTexts_i10 n a0 a1 a2 a3 a4 a5 a6 a7 a8 = some r → racetreelaw01_ScanTexts_dec10 r = (j, rs) → RoundPost kk anyEnv Try.f5.ntmps racetreelaw01_ScanTexts_b10 racetreelaw01_ScanTexts_sh10 racetreelaw01_ScanTexts_o10 [⟨(.slc (.int .i64)), a0⟩, ⟨.bool, a1⟩, ⟨(.slc (.int .i64)), a2⟩, ⟨.str, a3⟩, ⟨(.int .i64), a4⟩, ⟨.str, a5⟩, ⟨(.int .i64), a6⟩, ⟨.bool, a7⟩, ⟨(.int .i64), a8⟩] j rs := by
    intro n
    induction n with
    | zero => intro a0 a1 a2 a3 a4 a5 a6 a7 a8 r j rs h; cases h
    | succ n ih =>
      intro a0 a1 a2 a3 a4 a5 a6 a7 a8 r j rs h hd
      refine RoundPost.modes.1 (turn_sound (kitOk_of eqOk mixed known29) inner ((racetreelaw01_ScanTexts_E10 (racetreelaw01_ScanTexts_i10 n) a0 a1 a2 a3 a4 a5 a6 a7 a8).trans h) (fun q hq => RoundPost.modes.2 ?_) ?_)
      · unfold racetreelaw01_ScanTexts_rec10 at hq
        split at hq
        · exact ih _ _ _ _ _ _ _ _ _ r j rs hq hd
        · cases hq
      · intro i qs he
        unfold racetreelaw01_ScanTexts_enc10 at he
        split at he <;> cases he <;> (cases hd; exact ⟨rfl, rfl⟩)
  intro ls j rs h
  simp only [racetreelaw01_ScanTexts_lp10] at h
  split at h
  · obtain ⟨r, hr, h⟩ := Tr.get_val h
    rw [racetreelaw01_ScanTexts_l10, sealF_eq] at hr
    refine key fuel _ _ _ _ _ _ _ _ _ r j rs hr ?_
    exact Option.some.inj h
  · cases h

noncomputable def racetreelaw01_ScanTexts_sh : StSh := ⟨⟨[0], [], []⟩, [.t (.slc (.int .i64))], []⟩

noncomputable def racetreelaw01_ScanTexts_os : List StSh := [⟨⟨[0], [], []⟩, [.t .bool], []⟩]

noncomputable def racetreelaw01_ScanTexts_L : Nat → Option (Lift.Loop U) := fun n => bif Nat.beq n 10 then some racetreelaw01_ScanTexts_lp10 else none

noncomputable def racetreelaw01_ScanTexts_enc : Nat → List (TV U) → Option (Bool)
  | 0, [⟨.bool, a0⟩] => some a0
  | _, _ => none

noncomputable def racetreelaw01_ScanTexts_dec : Bool → Nat × List (TV U) := fun x => (0, [⟨.bool, x⟩])

noncomputable def racetreelaw01_ScanTexts_tr : Bool → Tr (Nat × List (TV U)) := fun r => (fun x => .ret (0, [⟨.bool, x⟩])) r

noncomputable def racetreelaw01_ScanTexts_md : Mode U := ⟨racetreelaw01_ScanTexts_sh, [], racetreelaw01_ScanTexts_os, fun ls => match ls with | [⟨(.slc (.int .i64)), a0⟩] => .get (racetreelaw01_ScanTexts a0) racetreelaw01_ScanTexts_tr | _ => .fail⟩

theorem racetreelaw01_ScanTexts_E (a0 : List (Int)) : (Kit.withModes kk (modesOf ms29)).fnEval racetreelaw01_ScanTexts_L Try.f5 racetreelaw01_ScanTexts_sh racetreelaw01_ScanTexts_os [⟨(.slc (.int .i64)), a0⟩] racetreelaw01_ScanTexts_enc = racetreelaw01_ScanTexts_f a0 := by kernel_rfl

theorem racetreelaw01_ScanTexts_post : ∀ ls j rs, (racetreelaw01_ScanTexts_md.sum ls).val = some (j, rs) → FnPost kk anyEnv 5 racetreelaw01_ScanTexts_sh racetreelaw01_ScanTexts_os ls j rs := by
  have inner : LoopsOk (Kit.withModes kk (modesOf ms29)) anyEnv Try.f5.ntmps racetreelaw01_ScanTexts_L (bodyOf Try.f5) := by
    exact loopsOk_of (bs := [racetreelaw01_ScanTexts_b10]) (by kernel_rfl) ⟨.inr ⟨_, by kernel_rfl, LoopOk.of_round racetreelaw01_ScanTexts_ok10⟩, trivial⟩
  intro ls j rs h
  simp only [racetreelaw01_ScanTexts_md] at h
  split at h
  · obtain ⟨r, hr, h⟩ := Tr.get_val h
    rw [racetreelaw01_ScanTexts, sealF_eq] at hr
    have hd : racetreelaw01_ScanTexts_dec r = (j, rs) := by
      exact Option.some.inj h
    refine FnPost.modes.1 (fn_sound (kitOk_of eqOk mixed known29) (by kernel_rfl) inner ((racetreelaw01_ScanTexts_E _).trans hr) ?_)
    intro i qs he
    unfold racetreelaw01_ScanTexts_enc at he
    split at he <;> cases he <;> (cases hd; exact ⟨rfl, rfl⟩)
  · cases h

noncomputable def ms30 : List (FuncId × Mode U) := (5, racetreelaw01_ScanTexts_md) :: ms29

theorem known30 : Known kk anyEnv (modesOf ms30) := known_cons (by kernel_rfl) racetreelaw01_ScanTexts_post known29

noncomputable def racetreelaw01_ScanRunes_sh6 : StSh := ⟨⟨[0, 3, 4, 5, 6, 7, 8, 9], [5, 7], [⟨.slot 4, 4, 31, (.st 31)⟩, ⟨.slot 6, 6, 31, (.st 31)⟩]⟩, [.t .str, .t .bool, .oslc 4, .ptr 5 0, .oslc 6, .ptr 7 0, .t .bool, .t (.int .i64)], [.blk [.t (.int .i64), .t (.int .i64), .t .str], .blk [.t (.int .i64), .t (.int .i64), .t .str], .row 31 (.st 31), .row 31 (.st 31)]⟩

noncomputable def racetreelaw01_ScanRunes_o6 : List Out := [⟨.exit 0, ⟨⟨[0, 3, 4, 5, 6, 7, 8], [5, 7], [⟨.slot 4, 4, 31, (.st 31)⟩, ⟨.slot 6, 6, 31, (.st 31)⟩]⟩, [.t .str, .t .bool, .oslc 4, .ptr 5 0, .oslc 6, .ptr 7 0, .t .bool], [.blk [.t (.int .i64), .t (.int .i64), .t .str], .blk [.t (.int .i64), .t (.int .i64), .t .str], .row 31 (.st 31), .row 31 (.st 31)]⟩⟩]

noncomputable def racetreelaw01_ScanRunes_b6 : Code := (nthLoop (bodyOf Try.f3) 0)

noncomputable def racetreelaw01_ScanRunes_L6 : Nat → Option (Lift.Loop U) := fun n => none

noncomputable def racetreelaw01_ScanRunes_rec6 (rec : List UInt8 → Bool → Bool → Int → Int → Int → List UInt8 → Int → Int → List UInt8 → List (Spot) → List (Spot) → Option ((List UInt8) × Bool × Bool × Int × Int × (List UInt8) × Int × Int × (List UInt8) × (List (Spot)) × (List (Spot)))) : List (TV U) → Option ((List UInt8) × Bool × Bool × Int × Int × (List UInt8) × Int × Int × (List UInt8) × (List (Spot)) × (List (Spot)))
  | [⟨.str, a0⟩, ⟨.bool, a1⟩, ⟨.bool, a2⟩, ⟨(.int .i64), a3⟩, ⟨(.int .i64), a4⟩, ⟨(.int .i64), a5⟩, ⟨.str, a6⟩, ⟨(.int .i64), a7⟩, ⟨(.int .i64), a8⟩, ⟨.str, a9⟩, ⟨(.slc (.st 31)), a10⟩, ⟨(.slc (.st 31)), a11⟩] => rec a0 a1 a2 a3 a4 a5 a6 a7 a8 a9 a10 a11
  | _ => none

noncomputable def racetreelaw01_ScanRunes_enc6 : Nat → List (TV U) → Option ((List UInt8) × Bool × Bool × Int × Int × (List UInt8) × Int × Int × (List UInt8) × (List (Spot)) × (List (Spot)))
  | 0, [⟨.str, a0⟩, ⟨.bool, a1⟩, ⟨.bool, a2⟩, ⟨(.int .i64), a3⟩, ⟨(.int .i64), a4⟩, ⟨.str, a5⟩, ⟨(.int .i64), a6⟩, ⟨(.int .i64), a7⟩, ⟨.str, a8⟩, ⟨(.slc (.st 31)), a9⟩, ⟨(.slc (.st 31)), a10⟩] => some (a0, a1, a2, a3, a4, a5, a6, a7, a8, a9, a10)
  | _, _ => none

noncomputable def racetreelaw01_ScanRunes_dec6 : (List UInt8) × Bool × Bool × Int × Int × (List UInt8) × Int × Int × (List UInt8) × (List (Spot)) × (List (Spot)) → Nat × List (TV U) := fun x => (0, [⟨.str, x.1⟩, ⟨.bool, x.2.1⟩, ⟨.bool, x.2.2.1⟩, ⟨(.int .i64), x.2.2.2.1⟩, ⟨(.int .i64), x.2.2.2.2.1⟩, ⟨.str, x.2.2.2.2.2.1⟩, ⟨(.int .i64), x.2.2.2.2.2.2.1⟩, ⟨(.int .i64), x.2.2.2.2.2.2.2.1⟩, ⟨.str, x.2.2.2.2.2.2.2.2.1⟩, ⟨(.slc (.st 31)), x.2.2.2.2.2.2.2.2.2.1⟩, ⟨(.slc (.st 31)), x.2.2.2.2.2.2.2.2.2.2⟩])

noncomputable def racetreelaw01_ScanRunes_tr6 : (List UInt8) × Bool × Bool × Int × Int × (List UInt8) × Int × Int × (List UInt8) × (List (Spot)) × (List (Spot)) → Tr (Nat × List (TV U)) := fun r => (fun x => .ret (0, [⟨.str, x.1⟩, ⟨.bool, x.2.1⟩, ⟨.bool, x.2.2.1⟩, ⟨(.int .i64), x.2.2.2.1⟩, ⟨(.int .i64), x.2.2.2.2.1⟩, ⟨.str, x.2.2.2.2.2.1⟩, ⟨(.int .i64), x.2.2.2.2.2.2.1⟩, ⟨(.int .i64), x.2.2.2.2.2.2.2.1⟩, ⟨.str, x.2.2.2.2.2.2.2.2.1⟩, ⟨(.slc (.st 31)), x.2.2.2.2.2.2.2.2.2.1⟩, ⟨(.slc (.st 31)), x.2.2.2.2.2.2.2.2.2.2⟩])) r

noncomputable def racetreelaw01_ScanRunes_lp6 : Lift.Loop U := ⟨racetreelaw01_ScanRunes_sh6, racetreelaw01_ScanRunes_o6, fun ls => match ls with | [⟨.str, a0⟩, ⟨.bool, a1⟩, ⟨.bool, a2⟩, ⟨(.int .i64), a3⟩, ⟨(.int .i64), a4⟩, ⟨(.int .i64), a5⟩, ⟨.str, a6⟩, ⟨(.int .i64), a7⟩, ⟨(.int .i64), a8⟩, ⟨.str, a9⟩, ⟨(.slc (.st 31)), a10⟩, ⟨(.slc (.st 31)), a11⟩] => .get (racetreelaw01_ScanRunes_l6 a0 a1 a2 a3 a4 a5 a6 a7 a8 a9 a10 a11) racetreelaw01_ScanRunes_tr6 | _ => .fail⟩

theorem racetreelaw01_ScanRunes_E6 (rec : List UInt8 → Bool → Bool → Int → Int → Int → List UInt8 → Int → Int → List UInt8 → List (Spot) → List (Spot) → Option ((List UInt8) × Bool × Bool × Int × Int × (List UInt8) × Int × Int × (List UInt8) × (List (Spot)) × (List (Spot)))) (a0 : List UInt8) (a1 : Bool) (a2 : Bool) (a3 : Int) (a4 : Int) (a5 : Int) (a6 : List UInt8) (a7 : Int) (a8 : Int) (a9 : List UInt8) (a10 : List (Spot)) (a11 : List (Spot)) : (Kit.withModes kk (modesOf ms30)).turn Try.f3.ntmps racetreelaw01_ScanRunes_L6 racetreelaw01_ScanRunes_sh6 racetreelaw01_ScanRunes_o6 racetreelaw01_ScanRunes_b6 [⟨.str, a0⟩, ⟨.bool, a1⟩, ⟨.bool, a2⟩, ⟨(.int .i64), a3⟩, ⟨(.int .i64), a4⟩, ⟨(.int .i64), a5⟩, ⟨.str, a6⟩, ⟨(.int .i64), a7⟩, ⟨(.int .i64), a8⟩, ⟨.str, a9⟩, ⟨(.slc (.st 31)), a10⟩, ⟨(.slc (.st 31)), a11⟩] (racetreelaw01_ScanRunes_rec6 rec) racetreelaw01_ScanRunes_enc6 = racetreelaw01_ScanRunes_t6 rec a0 a1 a2 a3 a4 a5 a6 a7 a8 a9 a10 a11 := by kernel_rfl

theorem racetreelaw01_ScanRunes_ok6 : ∀ ls j rs, (racetreelaw01_ScanRunes_lp6.sum ls).val = some (j, rs) → RoundPost kk anyEnv Try.f3.ntmps racetreelaw01_ScanRunes_b6 racetreelaw01_ScanRunes_lp6.sh racetreelaw01_ScanRunes_lp6.outs ls j rs := by
  have inner : LoopsOk (Kit.withModes kk (modesOf ms30)) anyEnv Try.f3.ntmps racetreelaw01_ScanRunes_L6 racetreelaw01_ScanRunes_b6 := by
    exact loopsOk_of (bs := []) (by kernel_rfl) trivial
  have key : ∀ n a0 a1 a2 a3 a4 a5 a6 a7 a8 a9 a10 a11 r j rs, racetreelaw01_ScanRunes_i6 n a0 a1 a2 a3 a4 a5 a6 a7 a8 a9 a10 a11 = some r → racetreelaw01_ScanRunes_dec6 r = (j, rs) → RoundPost kk anyEnv Try.f3.ntmps racetreelaw01_ScanRunes_b6 racetreelaw01_ScanRunes_sh6 racetreelaw01_ScanRunes_o6 [⟨.str, a0⟩, ⟨.bool, a1⟩, ⟨.bool, a2⟩, ⟨(.int .i64), a3⟩, ⟨(.int .i64), a4⟩, ⟨(.int .i64), a5⟩, ⟨.str, a6⟩, ⟨(.int .i64), a7⟩, ⟨(.int .i64), a8⟩, ⟨.str, a9⟩, ⟨(.slc (.st 31)), a10⟩, ⟨(.slc (.st 31)), a11⟩] j rs := by
    intro n
    induction n with
    | zero => intro a0 a1 a2 a3 a4 a5 a6 a7 a8 a9 a10 a11 r j rs h; cases h
    | succ n ih =>
      intro a0 a1 a2 a3 a4 a5 a6 a7 a8 a9 a10 a11 r j rs h hd
      refine RoundPost.modes.1 (turn_sound (kitOk_of eqOk mixed known30) inner ((racetreelaw01_ScanRunes_E6 (racetreelaw01_ScanRunes_i6 n) a0 a1 a2 a3 a4 a5 a6 a7 a8 a9 a10 a11).trans h) (fun q hq => RoundPost.modes.2 ?_) ?_)
      · unfold racetreelaw01_ScanRunes_rec6 at hq
        split at hq
        · exact ih _ _ _ _ _ _ _ _ _ _ _ _ r j rs hq hd
        · cases hq
      · intro i qs he
        unfold racetreelaw01_ScanRunes_enc6 at he
        split at he <;> cases he <;> (cases hd; exact ⟨rfl, rfl⟩)
  intro ls j rs h
  simp only [racetreelaw01_ScanRunes_lp6] at h
  split at h
  · obtain ⟨r, hr, h⟩ := Tr.get_val h
    rw [racetreelaw01_ScanRunes_l6, sealF_eq] at hr
    refine key fuel _ _ _ _ _ _ _ _ _ _ _ _ r j rs hr ?_
    exact Option.some.inj h
  · cases h

noncomputable def racetreelaw01_ScanRunes_sh : StSh := ⟨⟨[0], [], []⟩, [.t .str], []⟩

noncomputable def racetreelaw01_ScanRunes_os : List StSh := [⟨⟨[0], [], []⟩, [.t .bool], []⟩]

noncomputable def racetreelaw01_ScanRunes_L : Nat → Option (Lift.Loop U) := fun n => bif Nat.beq n 6 then some racetreelaw01_ScanRunes_lp6 else none

noncomputable def racetreelaw01_ScanRunes_enc : Nat → List (TV U) → Option (Bool)
  | 0, [⟨.bool, a0⟩] => some a0
  | _, _ => none

noncomputable def racetreelaw01_ScanRunes_dec : Bool → Nat × List (TV U) := fun x => (0, [⟨.bool, x⟩])

noncomputable def racetreelaw01_ScanRunes_tr : Bool → Tr (Nat × List (TV U)) := fun r => (fun x => .ret (0, [⟨.bool, x⟩])) r

noncomputable def racetreelaw01_ScanRunes_md : Mode U := ⟨racetreelaw01_ScanRunes_sh, [], racetreelaw01_ScanRunes_os, fun ls => match ls with | [⟨.str, a0⟩] => .get (racetreelaw01_ScanRunes a0) racetreelaw01_ScanRunes_tr | _ => .fail⟩

theorem racetreelaw01_ScanRunes_E (a0 : List UInt8) : (Kit.withModes kk (modesOf ms30)).fnEval racetreelaw01_ScanRunes_L Try.f3 racetreelaw01_ScanRunes_sh racetreelaw01_ScanRunes_os [⟨.str, a0⟩] racetreelaw01_ScanRunes_enc = racetreelaw01_ScanRunes_f a0 := by kernel_rfl

theorem racetreelaw01_ScanRunes_post : ∀ ls j rs, (racetreelaw01_ScanRunes_md.sum ls).val = some (j, rs) → FnPost kk anyEnv 3 racetreelaw01_ScanRunes_sh racetreelaw01_ScanRunes_os ls j rs := by
  have inner : LoopsOk (Kit.withModes kk (modesOf ms30)) anyEnv Try.f3.ntmps racetreelaw01_ScanRunes_L (bodyOf Try.f3) := by
    exact loopsOk_of (bs := [racetreelaw01_ScanRunes_b6]) (by kernel_rfl) ⟨.inr ⟨_, by kernel_rfl, LoopOk.of_round racetreelaw01_ScanRunes_ok6⟩, trivial⟩
  intro ls j rs h
  simp only [racetreelaw01_ScanRunes_md] at h
  split at h
  · obtain ⟨r, hr, h⟩ := Tr.get_val h
    rw [racetreelaw01_ScanRunes, sealF_eq] at hr
    have hd : racetreelaw01_ScanRunes_dec r = (j, rs) := by
      exact Option.some.inj h
    refine FnPost.modes.1 (fn_sound (kitOk_of eqOk mixed known30) (by kernel_rfl) inner ((racetreelaw01_ScanRunes_E _).trans hr) ?_)
    intro i qs he
    unfold racetreelaw01_ScanRunes_enc at he
    split at he <;> cases he <;> (cases hd; exact ⟨rfl, rfl⟩)
  · cases h

noncomputable def ms31 : List (FuncId × Mode U) := (3, racetreelaw01_ScanRunes_md) :: ms30

theorem known31 : Known kk anyEnv (modesOf ms31) := known_cons (by kernel_rfl) racetreelaw01_ScanRunes_post known30

end Lift.A1

