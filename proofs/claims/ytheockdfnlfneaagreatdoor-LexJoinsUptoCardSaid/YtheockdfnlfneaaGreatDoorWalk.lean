/-
  DERIVED. Each function of this seat computes its Lean function. Conditions: as each theorem says.
-/
import Derived.Test.YtheockdfnlfneaaGreatDoorDefs
set_option linter.unusedVariables false
set_option linter.unusedSimpArgs false
set_option linter.unusedSectionVars false
namespace Lift.C2
open Go Go.RowKit Go.Proofs Lift Lift.Fn

noncomputable def unicode_utf8_RuneLen_sh : StSh := ⟨⟨[0], [], []⟩, [.t (.int .i32)], []⟩

noncomputable def unicode_utf8_RuneLen_os : List StSh := [⟨⟨[0], [], []⟩, [.t (.int .i64)], []⟩]

noncomputable def unicode_utf8_RuneLen_L : Nat → Option (Lift.Loop U) := fun n => none

noncomputable def unicode_utf8_RuneLen_enc : Nat → List (TV U) → Option (Int)
  | 0, [⟨(.int .i64), a0⟩] => some a0
  | _, _ => none

noncomputable def unicode_utf8_RuneLen_dec : Int → Nat × List (TV U) := fun x => (0, [⟨(.int .i64), x⟩])

noncomputable def unicode_utf8_RuneLen_tr : Int → Tr (Nat × List (TV U)) := fun r => (fun x => .ret (0, [⟨(.int .i64), x⟩])) r

noncomputable def unicode_utf8_RuneLen_md : Mode U := ⟨unicode_utf8_RuneLen_sh, [], unicode_utf8_RuneLen_os, fun ls => match ls with | [⟨(.int .i32), a0⟩] => .get (unicode_utf8_RuneLen a0) unicode_utf8_RuneLen_tr | _ => .fail⟩

theorem unicode_utf8_RuneLen_E (a0 : Int) : (Kit.withModes kk (modesOf ms7)).fnEval unicode_utf8_RuneLen_L Tryz.f48 unicode_utf8_RuneLen_sh unicode_utf8_RuneLen_os [⟨(.int .i32), a0⟩] unicode_utf8_RuneLen_enc = unicode_utf8_RuneLen_f a0 := by kernel_rfl

theorem unicode_utf8_RuneLen_post : ∀ ls j rs, (unicode_utf8_RuneLen_md.sum ls).val = some (j, rs) → FnPost kk env0 48 unicode_utf8_RuneLen_sh unicode_utf8_RuneLen_os ls j rs := by
  have inner : LoopsOk (Kit.withModes kk (modesOf ms7)) env0 Tryz.f48.ntmps unicode_utf8_RuneLen_L (bodyOf Tryz.f48) := by
    exact loopsOk_of (bs := []) (by kernel_rfl) trivial
  intro ls j rs h
  simp only [unicode_utf8_RuneLen_md] at h
  split at h
  · obtain ⟨r, hr, h⟩ := Tr.get_val h
    rw [unicode_utf8_RuneLen, sealF_eq] at hr
    have hd : unicode_utf8_RuneLen_dec r = (j, rs) := by
      exact Option.some.inj h
    refine FnPost.modes.1 (fn_sound (kitOk_of eqOk mixed known7) (by kernel_rfl) inner ((unicode_utf8_RuneLen_E _).trans hr) ?_)
    intro i qs he
    unfold unicode_utf8_RuneLen_enc at he
    split at he <;> cases he <;> (cases hd; exact ⟨rfl, rfl⟩)
  · cases h

noncomputable def ms8 : List (FuncId × Mode U) := (48, unicode_utf8_RuneLen_md) :: ms7

theorem known8 : Known kk env0 (modesOf ms8) := known_cons (by kernel_rfl) unicode_utf8_RuneLen_post known7

noncomputable def scan_gone_sh4 : StSh := ⟨⟨[0, 3, 4, 5, 10], [3, 5, 10], [⟨.slot 4, 4, 41, (.st 41)⟩]⟩, [.t .str, .ptr 3 0, .oslc 4, .ptr 5 0, .ptr 10 0], [.blk [.t (.int .i64), .t (.int .i64), .t (.int .i64), .t (.int .i64)], .blk [.t (.int .i64), .t (.int .i64), .t (.int .i64), .t (.int .i64)], .sit, .row 41 (.st 41)]⟩

noncomputable def scan_gone_o4 : List Out := [⟨.ret, ⟨⟨[2, 3], [3], [⟨.slot 2, 2, 41, (.st 41)⟩]⟩, [.oslc 2, .ptr 3 0], [.blk [.t (.int .i64), .t (.int .i64), .t (.int .i64), .t (.int .i64)], .row 41 (.st 41)]⟩⟩, ⟨.exit 0, ⟨⟨[3, 4, 5], [3, 5], [⟨.slot 4, 4, 41, (.st 41)⟩]⟩, [.ptr 3 0, .oslc 4, .ptr 5 0], [.blk [.t (.int .i64), .t (.int .i64), .t (.int .i64), .t (.int .i64)], .blk [.t (.int .i64), .t (.int .i64), .t (.int .i64), .t (.int .i64)], .row 41 (.st 41)]⟩⟩]

noncomputable def scan_gone_b4 : Code := (nthLoop (bodyOf Tryz.f29) 0)

noncomputable def scan_gone_L4 : Nat → Option (Lift.Loop U) := fun n => none

noncomputable def scan_gone_rec4 (rec : List UInt8 → Int → Int → Int → Int → Int → Int → Int → Int → List UInt8 → Nat → List (Spot) → Option ((Int × Int × Int × Int × (List (Spot))) ⊕ (Int × Int × Int × Int × Int × Int × Int × Int × (List (Spot))))) : List (TV U) → Option ((Int × Int × Int × Int × (List (Spot))) ⊕ (Int × Int × Int × Int × Int × Int × Int × Int × (List (Spot))))
  | [⟨.str, a0⟩, ⟨(.int .i64), a1⟩, ⟨(.int .i64), a2⟩, ⟨(.int .i64), a3⟩, ⟨(.int .i64), a4⟩, ⟨(.int .i64), a5⟩, ⟨(.int .i64), a6⟩, ⟨(.int .i64), a7⟩, ⟨(.int .i64), a8⟩, ⟨.str, a9⟩, ⟨.fn, a10⟩, ⟨(.slc (.st 41)), a11⟩] => rec a0 a1 a2 a3 a4 a5 a6 a7 a8 a9 a10 a11
  | _ => none

noncomputable def scan_gone_enc4 : Nat → List (TV U) → Option ((Int × Int × Int × Int × (List (Spot))) ⊕ (Int × Int × Int × Int × Int × Int × Int × Int × (List (Spot))))
  | 0, [⟨(.int .i64), a0⟩, ⟨(.int .i64), a1⟩, ⟨(.int .i64), a2⟩, ⟨(.int .i64), a3⟩, ⟨(.slc (.st 41)), a4⟩] => some (.inl (a0, a1, a2, a3, a4))
  | 1, [⟨(.int .i64), a0⟩, ⟨(.int .i64), a1⟩, ⟨(.int .i64), a2⟩, ⟨(.int .i64), a3⟩, ⟨(.int .i64), a4⟩, ⟨(.int .i64), a5⟩, ⟨(.int .i64), a6⟩, ⟨(.int .i64), a7⟩, ⟨(.slc (.st 41)), a8⟩] => some (.inr (a0, a1, a2, a3, a4, a5, a6, a7, a8))
  | _, _ => none

noncomputable def scan_gone_dec4 : (Int × Int × Int × Int × (List (Spot))) ⊕ (Int × Int × Int × Int × Int × Int × Int × Int × (List (Spot))) → Nat × List (TV U) := fun r => match r with | (.inl x) => (0, [⟨(.int .i64), x.1⟩, ⟨(.int .i64), x.2.1⟩, ⟨(.int .i64), x.2.2.1⟩, ⟨(.int .i64), x.2.2.2.1⟩, ⟨(.slc (.st 41)), x.2.2.2.2⟩]) | (.inr x) => (1, [⟨(.int .i64), x.1⟩, ⟨(.int .i64), x.2.1⟩, ⟨(.int .i64), x.2.2.1⟩, ⟨(.int .i64), x.2.2.2.1⟩, ⟨(.int .i64), x.2.2.2.2.1⟩, ⟨(.int .i64), x.2.2.2.2.2.1⟩, ⟨(.int .i64), x.2.2.2.2.2.2.1⟩, ⟨(.int .i64), x.2.2.2.2.2.2.2.1⟩, ⟨(.slc (.st 41)), x.2.2.2.2.2.2.2.2⟩])

noncomputable def scan_gone_tr4 : (Int × Int × Int × Int × (List (Spot))) ⊕ (Int × Int × Int × Int × Int × Int × Int × Int × (List (Spot))) → Tr (Nat × List (TV U)) := fun r => .alt r (fun x => .ret (0, [⟨(.int .i64), x.1⟩, ⟨(.int .i64), x.2.1⟩, ⟨(.int .i64), x.2.2.1⟩, ⟨(.int .i64), x.2.2.2.1⟩, ⟨(.slc (.st 41)), x.2.2.2.2⟩])) (fun y => (fun x => .ret (1, [⟨(.int .i64), x.1⟩, ⟨(.int .i64), x.2.1⟩, ⟨(.int .i64), x.2.2.1⟩, ⟨(.int .i64), x.2.2.2.1⟩, ⟨(.int .i64), x.2.2.2.2.1⟩, ⟨(.int .i64), x.2.2.2.2.2.1⟩, ⟨(.int .i64), x.2.2.2.2.2.2.1⟩, ⟨(.int .i64), x.2.2.2.2.2.2.2.1⟩, ⟨(.slc (.st 41)), x.2.2.2.2.2.2.2.2⟩])) y)

noncomputable def scan_gone_lp4 : Lift.Loop U := ⟨scan_gone_sh4, scan_gone_o4, fun ls => match ls with | [⟨.str, a0⟩, ⟨(.int .i64), a1⟩, ⟨(.int .i64), a2⟩, ⟨(.int .i64), a3⟩, ⟨(.int .i64), a4⟩, ⟨(.int .i64), a5⟩, ⟨(.int .i64), a6⟩, ⟨(.int .i64), a7⟩, ⟨(.int .i64), a8⟩, ⟨.str, a9⟩, ⟨.fn, a10⟩, ⟨(.slc (.st 41)), a11⟩] => .get (scan_gone_l4 a0 a1 a2 a3 a4 a5 a6 a7 a8 a9 a10 a11) scan_gone_tr4 | _ => .fail⟩

theorem scan_gone_E4 (rec : List UInt8 → Int → Int → Int → Int → Int → Int → Int → Int → List UInt8 → Nat → List (Spot) → Option ((Int × Int × Int × Int × (List (Spot))) ⊕ (Int × Int × Int × Int × Int × Int × Int × Int × (List (Spot))))) (a0 : List UInt8) (a1 : Int) (a2 : Int) (a3 : Int) (a4 : Int) (a5 : Int) (a6 : Int) (a7 : Int) (a8 : Int) (a9 : List UInt8) (a10 : Nat) (a11 : List (Spot)) : (Kit.withModes kk (modesOf ms8)).turn Tryz.f29.ntmps scan_gone_L4 scan_gone_sh4 scan_gone_o4 scan_gone_b4 [⟨.str, a0⟩, ⟨(.int .i64), a1⟩, ⟨(.int .i64), a2⟩, ⟨(.int .i64), a3⟩, ⟨(.int .i64), a4⟩, ⟨(.int .i64), a5⟩, ⟨(.int .i64), a6⟩, ⟨(.int .i64), a7⟩, ⟨(.int .i64), a8⟩, ⟨.str, a9⟩, ⟨.fn, a10⟩, ⟨(.slc (.st 41)), a11⟩] (scan_gone_rec4 rec) scan_gone_enc4 = scan_gone_t4 rec a0 a1 a2 a3 a4 a5 a6 a7 a8 a9 a10 a11 := by kernel_rfl

theorem scan_gone_ok4 : ∀ ls j rs, (scan_gone_lp4.sum ls).val = some (j, rs) → RoundPost kk env0 Tryz.f29.ntmps scan_gone_b4 scan_gone_lp4.sh scan_gone_lp4.outs ls j rs := by
  have inner : LoopsOk (Kit.withModes kk (modesOf ms8)) env0 Tryz.f29.ntmps scan_gone_L4 scan_gone_b4 := by
    exact loopsOk_of (bs := []) (by kernel_rfl) trivial
  have key : ∀ n a0 a1 a2 a3 a4 a5 a6 a7 a8 a9 a10 a11 r j rs, scan_gone_i4 n a0 a1 a2 a3 a4 a5 a6 a7 a8 a9 a10 a11 = some r → scan_gone_dec4 r = (j, rs) → RoundPost kk env0 Tryz.f29.ntmps scan_gone_b4 scan_gone_sh4 scan_gone_o4 [⟨.str, a0⟩, ⟨(.int .i64), a1⟩, ⟨(.int .i64), a2⟩, ⟨(.int .i64), a3⟩, ⟨(.int .i64), a4⟩, ⟨(.int .i64), a5⟩, ⟨(.int .i64), a6⟩, ⟨(.int .i64), a7⟩, ⟨(.int .i64), a8⟩, ⟨.str, a9⟩, ⟨.fn, a10⟩, ⟨(.slc (.st 41)), a11⟩] j rs := by
    intro n
    induction n with
    | zero => intro a0 a1 a2 a3 a4 a5 a6 a7 a8 a9 a10 a11 r j rs h; cases h
    | succ n ih =>
      intro a0 a1 a2 a3 a4 a5 a6 a7 a8 a9 a10 a11 r j rs h hd
      refine RoundPost.modes.1 (turn_sound (kitOk_of eqOk mixed known8) inner ((scan_gone_E4 (scan_gone_i4 n) a0 a1 a2 a3 a4 a5 a6 a7 a8 a9 a10 a11).trans h) (fun q hq => RoundPost.modes.2 ?_) ?_)
      · unfold scan_gone_rec4 at hq
        split at hq
        · exact ih _ _ _ _ _ _ _ _ _ _ _ _ r j rs hq hd
        · cases hq
      · intro i qs he
        unfold scan_gone_enc4 at he
        split at he <;> cases he <;> (cases hd; exact ⟨rfl, rfl⟩)
  intro ls j rs h
  simp only [scan_gone_lp4] at h
  split at h
  · obtain ⟨r, hr, h⟩ := Tr.get_val h
    rw [scan_gone_l4, sealF_eq] at hr
    refine key fuel _ _ _ _ _ _ _ _ _ _ _ _ r j rs hr ?_
    rcases r with r | r <;> exact Option.some.inj h
  · cases h

noncomputable def scan_gone_sh : StSh := ⟨⟨[0], [], []⟩, [.t .str], []⟩

noncomputable def scan_gone_os : List StSh := [⟨⟨[0, 1], [], [⟨.slot 0, 100000, 41, (.st 41)⟩]⟩, [.oslc 100000, .t (.st 41)], [.row 41 (.st 41)]⟩]

noncomputable def scan_gone_L : Nat → Option (Lift.Loop U) := fun n => bif Nat.beq n 4 then some scan_gone_lp4 else none

noncomputable def scan_gone_enc : Nat → List (TV U) → Option (Spot × (List (Spot)))
  | 0, [⟨(.st 41), a0⟩, ⟨(.slc (.st 41)), a1⟩] => some (a0, a1)
  | _, _ => none

noncomputable def scan_gone_dec : Spot × (List (Spot)) → Nat × List (TV U) := fun x => (0, [⟨(.st 41), x.1⟩, ⟨(.slc (.st 41)), x.2⟩])

noncomputable def scan_gone_tr : Spot × (List (Spot)) → Tr (Nat × List (TV U)) := fun r => (fun x => .ret (0, [⟨(.st 41), x.1⟩, ⟨(.slc (.st 41)), x.2⟩])) r

noncomputable def scan_gone_md : Mode U := ⟨scan_gone_sh, [], scan_gone_os, fun ls => match ls with | [⟨.str, a0⟩] => .get (scan_gone a0) scan_gone_tr | _ => .fail⟩

theorem scan_gone_E (a0 : List UInt8) : (Kit.withModes kk (modesOf ms8)).fnEval scan_gone_L Tryz.f29 scan_gone_sh scan_gone_os [⟨.str, a0⟩] scan_gone_enc = scan_gone_f a0 := by kernel_rfl

theorem scan_gone_post : ∀ ls j rs, (scan_gone_md.sum ls).val = some (j, rs) → FnPost kk env0 29 scan_gone_sh scan_gone_os ls j rs := by
  have inner : LoopsOk (Kit.withModes kk (modesOf ms8)) env0 Tryz.f29.ntmps scan_gone_L (bodyOf Tryz.f29) := by
    exact loopsOk_of (bs := [scan_gone_b4]) (by kernel_rfl) ⟨.inr ⟨_, by kernel_rfl, LoopOk.of_round scan_gone_ok4⟩, trivial⟩
  intro ls j rs h
  simp only [scan_gone_md] at h
  split at h
  · obtain ⟨r, hr, h⟩ := Tr.get_val h
    rw [scan_gone, sealF_eq] at hr
    have hd : scan_gone_dec r = (j, rs) := by
      exact Option.some.inj h
    refine FnPost.modes.1 (fn_sound (kitOk_of eqOk mixed known8) (by kernel_rfl) inner ((scan_gone_E _).trans hr) ?_)
    intro i qs he
    unfold scan_gone_enc at he
    split at he <;> cases he <;> (cases hd; exact ⟨rfl, rfl⟩)
  · cases h

noncomputable def ms9 : List (FuncId × Mode U) := (29, scan_gone_md) :: ms8

theorem known9 : Known kk env0 (modesOf ms9) := known_cons (by kernel_rfl) scan_gone_post known8

noncomputable def scan_Runes_sh : StSh := ⟨⟨[0], [], []⟩, [.t .str], []⟩

noncomputable def scan_Runes_os : List StSh := [⟨⟨[0, 1], [], [⟨.slot 0, 100000, 41, (.st 41)⟩]⟩, [.oslc 100000, .t (.st 26)], [.row 41 (.st 41)]⟩]

noncomputable def scan_Runes_L : Nat → Option (Lift.Loop U) := fun n => none

noncomputable def scan_Runes_enc : Nat → List (TV U) → Option (Fault × (List (Spot)))
  | 0, [⟨(.st 26), a0⟩, ⟨(.slc (.st 41)), a1⟩] => some (a0, a1)
  | _, _ => none

noncomputable def scan_Runes_dec : Fault × (List (Spot)) → Nat × List (TV U) := fun x => (0, [⟨(.st 26), x.1⟩, ⟨(.slc (.st 41)), x.2⟩])

noncomputable def scan_Runes_tr : Fault × (List (Spot)) → Tr (Nat × List (TV U)) := fun r => (fun x => .ret (0, [⟨(.st 26), x.1⟩, ⟨(.slc (.st 41)), x.2⟩])) r

noncomputable def scan_Runes_md : Mode U := ⟨scan_Runes_sh, [], scan_Runes_os, fun ls => match ls with | [⟨.str, a0⟩] => .get (scan_Runes a0) scan_Runes_tr | _ => .fail⟩

theorem scan_Runes_E (a0 : List UInt8) : (Kit.withModes kk (modesOf ms9)).fnEval scan_Runes_L Tryz.f14 scan_Runes_sh scan_Runes_os [⟨.str, a0⟩] scan_Runes_enc = scan_Runes_f a0 := by kernel_rfl

theorem scan_Runes_post : ∀ ls j rs, (scan_Runes_md.sum ls).val = some (j, rs) → FnPost kk env0 14 scan_Runes_sh scan_Runes_os ls j rs := by
  have inner : LoopsOk (Kit.withModes kk (modesOf ms9)) env0 Tryz.f14.ntmps scan_Runes_L (bodyOf Tryz.f14) := by
    exact loopsOk_of (bs := []) (by kernel_rfl) trivial
  intro ls j rs h
  simp only [scan_Runes_md] at h
  split at h
  · obtain ⟨r, hr, h⟩ := Tr.get_val h
    rw [scan_Runes, sealF_eq] at hr
    have hd : scan_Runes_dec r = (j, rs) := by
      exact Option.some.inj h
    refine FnPost.modes.1 (fn_sound (kitOk_of eqOk mixed known9) (by kernel_rfl) inner ((scan_Runes_E _).trans hr) ?_)
    intro i qs he
    unfold scan_Runes_enc at he
    split at he <;> cases he <;> (cases hd; exact ⟨rfl, rfl⟩)
  · cases h

noncomputable def ms10 : List (FuncId × Mode U) := (14, scan_Runes_md) :: ms9

theorem known10 : Known kk env0 (modesOf ms10) := known_cons (by kernel_rfl) scan_Runes_post known9

noncomputable def scan_Blank_sh : StSh := ⟨⟨[0], [], []⟩, [.t (.int .i64)], []⟩

noncomputable def scan_Blank_os : List StSh := [⟨⟨[0], [], []⟩, [.t .bool], []⟩]

noncomputable def scan_Blank_L : Nat → Option (Lift.Loop U) := fun n => none

noncomputable def scan_Blank_enc : Nat → List (TV U) → Option (Bool)
  | 0, [⟨.bool, a0⟩] => some a0
  | _, _ => none

noncomputable def scan_Blank_dec : Bool → Nat × List (TV U) := fun x => (0, [⟨.bool, x⟩])

noncomputable def scan_Blank_tr : Bool → Tr (Nat × List (TV U)) := fun r => (fun x => .ret (0, [⟨.bool, x⟩])) r

noncomputable def scan_Blank_md : Mode U := ⟨scan_Blank_sh, [], scan_Blank_os, fun ls => match ls with | [⟨(.int .i64), a0⟩] => .get (scan_Blank a0) scan_Blank_tr | _ => .fail⟩

theorem scan_Blank_E (a0 : Int) : (Kit.withModes kk (modesOf ms10)).fnEval scan_Blank_L Tryz.f30 scan_Blank_sh scan_Blank_os [⟨(.int .i64), a0⟩] scan_Blank_enc = scan_Blank_f a0 := by kernel_rfl

theorem scan_Blank_post : ∀ ls j rs, (scan_Blank_md.sum ls).val = some (j, rs) → FnPost kk env0 30 scan_Blank_sh scan_Blank_os ls j rs := by
  have inner : LoopsOk (Kit.withModes kk (modesOf ms10)) env0 Tryz.f30.ntmps scan_Blank_L (bodyOf Tryz.f30) := by
    exact loopsOk_of (bs := []) (by kernel_rfl) trivial
  intro ls j rs h
  simp only [scan_Blank_md] at h
  split at h
  · obtain ⟨r, hr, h⟩ := Tr.get_val h
    rw [scan_Blank, sealF_eq] at hr
    have hd : scan_Blank_dec r = (j, rs) := by
      exact Option.some.inj h
    refine FnPost.modes.1 (fn_sound (kitOk_of eqOk mixed known10) (by kernel_rfl) inner ((scan_Blank_E _).trans hr) ?_)
    intro i qs he
    unfold scan_Blank_enc at he
    split at he <;> cases he <;> (cases hd; exact ⟨rfl, rfl⟩)
  · cases h

noncomputable def ms11 : List (FuncId × Mode U) := (30, scan_Blank_md) :: ms10

theorem known11 : Known kk env0 (modesOf ms11) := known_cons (by kernel_rfl) scan_Blank_post known10

noncomputable def lex_passed_sh3 : StSh := ⟨⟨[0, 3, 7], [7], []⟩, [.t .str, .t .bool, .ptr 7 0], [.sit]⟩

noncomputable def lex_passed_o3 : List Out := [⟨.ret, ⟨⟨[2], [], []⟩, [.t (.int .i64)], []⟩⟩, ⟨.exit 0, ⟨⟨[0], [], []⟩, [.t .str], []⟩⟩]

noncomputable def lex_passed_b3 : Code := (nthLoop (bodyOf Tryz.f15) 0)

noncomputable def lex_passed_L3 : Nat → Option (Lift.Loop U) := fun n => none

noncomputable def lex_passed_rec3 (rec : List UInt8 → Bool → List UInt8 → Nat → Option ((Int) ⊕ ((List UInt8)))) : List (TV U) → Option ((Int) ⊕ ((List UInt8)))
  | [⟨.str, a0⟩, ⟨.bool, a1⟩, ⟨.str, a2⟩, ⟨.fn, a3⟩] => rec a0 a1 a2 a3
  | _ => none

noncomputable def lex_passed_enc3 : Nat → List (TV U) → Option ((Int) ⊕ ((List UInt8)))
  | 0, [⟨(.int .i64), a0⟩] => some (.inl a0)
  | 1, [⟨.str, a0⟩] => some (.inr a0)
  | _, _ => none

noncomputable def lex_passed_dec3 : (Int) ⊕ ((List UInt8)) → Nat × List (TV U) := fun r => match r with | (.inl x) => (0, [⟨(.int .i64), x⟩]) | (.inr x) => (1, [⟨.str, x⟩])

noncomputable def lex_passed_tr3 : (Int) ⊕ ((List UInt8)) → Tr (Nat × List (TV U)) := fun r => .alt r (fun x => .ret (0, [⟨(.int .i64), x⟩])) (fun y => (fun x => .ret (1, [⟨.str, x⟩])) y)

noncomputable def lex_passed_lp3 : Lift.Loop U := ⟨lex_passed_sh3, lex_passed_o3, fun ls => match ls with | [⟨.str, a0⟩, ⟨.bool, a1⟩, ⟨.str, a2⟩, ⟨.fn, a3⟩] => .get (lex_passed_l3 a0 a1 a2 a3) lex_passed_tr3 | _ => .fail⟩

theorem lex_passed_E3 (rec : List UInt8 → Bool → List UInt8 → Nat → Option ((Int) ⊕ ((List UInt8)))) (a0 : List UInt8) (a1 : Bool) (a2 : List UInt8) (a3 : Nat) : (Kit.withModes kk (modesOf ms11)).turn Tryz.f15.ntmps lex_passed_L3 lex_passed_sh3 lex_passed_o3 lex_passed_b3 [⟨.str, a0⟩, ⟨.bool, a1⟩, ⟨.str, a2⟩, ⟨.fn, a3⟩] (lex_passed_rec3 rec) lex_passed_enc3 = lex_passed_t3 rec a0 a1 a2 a3 := by kernel_rfl

theorem lex_passed_ok3 : ∀ ls j rs, (lex_passed_lp3.sum ls).val = some (j, rs) → RoundPost kk env0 Tryz.f15.ntmps lex_passed_b3 lex_passed_lp3.sh lex_passed_lp3.outs ls j rs := by
  have inner : LoopsOk (Kit.withModes kk (modesOf ms11)) env0 Tryz.f15.ntmps lex_passed_L3 lex_passed_b3 := by
    exact loopsOk_of (bs := []) (by kernel_rfl) trivial
  have key : ∀ n a0 a1 a2 a3 r j rs, lex_passed_i3 n a0 a1 a2 a3 = some r → lex_passed_dec3 r = (j, rs) → RoundPost kk env0 Tryz.f15.ntmps lex_passed_b3 lex_passed_sh3 lex_passed_o3 [⟨.str, a0⟩, ⟨.bool, a1⟩, ⟨.str, a2⟩, ⟨.fn, a3⟩] j rs := by
    intro n
    induction n with
    | zero => intro a0 a1 a2 a3 r j rs h; cases h
    | succ n ih =>
      intro a0 a1 a2 a3 r j rs h hd
      refine RoundPost.modes.1 (turn_sound (kitOk_of eqOk mixed known11) inner ((lex_passed_E3 (lex_passed_i3 n) a0 a1 a2 a3).trans h) (fun q hq => RoundPost.modes.2 ?_) ?_)
      · unfold lex_passed_rec3 at hq
        split at hq
        · exact ih _ _ _ _ r j rs hq hd
        · cases hq
      · intro i qs he
        unfold lex_passed_enc3 at he
        split at he <;> cases he <;> (cases hd; exact ⟨rfl, rfl⟩)
  intro ls j rs h
  simp only [lex_passed_lp3] at h
  split at h
  · obtain ⟨r, hr, h⟩ := Tr.get_val h
    rw [lex_passed_l3, sealF_eq] at hr
    refine key fuel _ _ _ _ r j rs hr ?_
    rcases r with r | r <;> exact Option.some.inj h
  · cases h

noncomputable def lex_passed_sh : StSh := ⟨⟨[0], [], []⟩, [.t .str], []⟩

noncomputable def lex_passed_os : List StSh := [⟨⟨[0], [], []⟩, [.t (.int .i64)], []⟩]

noncomputable def lex_passed_L : Nat → Option (Lift.Loop U) := fun n => bif Nat.beq n 3 then some lex_passed_lp3 else none

noncomputable def lex_passed_enc : Nat → List (TV U) → Option (Int)
  | 0, [⟨(.int .i64), a0⟩] => some a0
  | _, _ => none

noncomputable def lex_passed_dec : Int → Nat × List (TV U) := fun x => (0, [⟨(.int .i64), x⟩])

noncomputable def lex_passed_tr : Int → Tr (Nat × List (TV U)) := fun r => (fun x => .ret (0, [⟨(.int .i64), x⟩])) r

noncomputable def lex_passed_md : Mode U := ⟨lex_passed_sh, [], lex_passed_os, fun ls => match ls with | [⟨.str, a0⟩] => .get (lex_passed a0) lex_passed_tr | _ => .fail⟩

theorem lex_passed_E (a0 : List UInt8) : (Kit.withModes kk (modesOf ms11)).fnEval lex_passed_L Tryz.f15 lex_passed_sh lex_passed_os [⟨.str, a0⟩] lex_passed_enc = lex_passed_f a0 := by kernel_rfl

theorem lex_passed_post : ∀ ls j rs, (lex_passed_md.sum ls).val = some (j, rs) → FnPost kk env0 15 lex_passed_sh lex_passed_os ls j rs := by
  have inner : LoopsOk (Kit.withModes kk (modesOf ms11)) env0 Tryz.f15.ntmps lex_passed_L (bodyOf Tryz.f15) := by
    exact loopsOk_of (bs := [lex_passed_b3]) (by kernel_rfl) ⟨.inr ⟨_, by kernel_rfl, LoopOk.of_round lex_passed_ok3⟩, trivial⟩
  intro ls j rs h
  simp only [lex_passed_md] at h
  split at h
  · obtain ⟨r, hr, h⟩ := Tr.get_val h
    rw [lex_passed, sealF_eq] at hr
    have hd : lex_passed_dec r = (j, rs) := by
      exact Option.some.inj h
    refine FnPost.modes.1 (fn_sound (kitOk_of eqOk mixed known11) (by kernel_rfl) inner ((lex_passed_E _).trans hr) ?_)
    intro i qs he
    unfold lex_passed_enc at he
    split at he <;> cases he <;> (cases hd; exact ⟨rfl, rfl⟩)
  · cases h

noncomputable def ms12 : List (FuncId × Mode U) := (15, lex_passed_md) :: ms11

theorem known12 : Known kk env0 (modesOf ms12) := known_cons (by kernel_rfl) lex_passed_post known11

noncomputable def unicode_utf8_ValidRune_sh : StSh := ⟨⟨[0], [], []⟩, [.t (.int .i32)], []⟩

noncomputable def unicode_utf8_ValidRune_os : List StSh := [⟨⟨[0], [], []⟩, [.t .bool], []⟩]

noncomputable def unicode_utf8_ValidRune_L : Nat → Option (Lift.Loop U) := fun n => none

noncomputable def unicode_utf8_ValidRune_enc : Nat → List (TV U) → Option (Bool)
  | 0, [⟨.bool, a0⟩] => some a0
  | _, _ => none

noncomputable def unicode_utf8_ValidRune_dec : Bool → Nat × List (TV U) := fun x => (0, [⟨.bool, x⟩])

noncomputable def unicode_utf8_ValidRune_tr : Bool → Tr (Nat × List (TV U)) := fun r => (fun x => .ret (0, [⟨.bool, x⟩])) r

noncomputable def unicode_utf8_ValidRune_md : Mode U := ⟨unicode_utf8_ValidRune_sh, [], unicode_utf8_ValidRune_os, fun ls => match ls with | [⟨(.int .i32), a0⟩] => .get (unicode_utf8_ValidRune a0) unicode_utf8_ValidRune_tr | _ => .fail⟩

theorem unicode_utf8_ValidRune_E (a0 : Int) : (Kit.withModes kk (modesOf ms12)).fnEval unicode_utf8_ValidRune_L Tryz.f72 unicode_utf8_ValidRune_sh unicode_utf8_ValidRune_os [⟨(.int .i32), a0⟩] unicode_utf8_ValidRune_enc = unicode_utf8_ValidRune_f a0 := by kernel_rfl

theorem unicode_utf8_ValidRune_post : ∀ ls j rs, (unicode_utf8_ValidRune_md.sum ls).val = some (j, rs) → FnPost kk env0 72 unicode_utf8_ValidRune_sh unicode_utf8_ValidRune_os ls j rs := by
  have inner : LoopsOk (Kit.withModes kk (modesOf ms12)) env0 Tryz.f72.ntmps unicode_utf8_ValidRune_L (bodyOf Tryz.f72) := by
    exact loopsOk_of (bs := []) (by kernel_rfl) trivial
  intro ls j rs h
  simp only [unicode_utf8_ValidRune_md] at h
  split at h
  · obtain ⟨r, hr, h⟩ := Tr.get_val h
    rw [unicode_utf8_ValidRune, sealF_eq] at hr
    have hd : unicode_utf8_ValidRune_dec r = (j, rs) := by
      exact Option.some.inj h
    refine FnPost.modes.1 (fn_sound (kitOk_of eqOk mixed known12) (by kernel_rfl) inner ((unicode_utf8_ValidRune_E _).trans hr) ?_)
    intro i qs he
    unfold unicode_utf8_ValidRune_enc at he
    split at he <;> cases he <;> (cases hd; exact ⟨rfl, rfl⟩)
  · cases h

noncomputable def ms13 : List (FuncId × Mode U) := (72, unicode_utf8_ValidRune_md) :: ms12

theorem known13 : Known kk env0 (modesOf ms13) := known_cons (by kernel_rfl) unicode_utf8_ValidRune_post known12

noncomputable def scan_whole_sh : StSh := ⟨⟨[0], [], []⟩, [.t (.int .i64)], []⟩

noncomputable def scan_whole_os : List StSh := [⟨⟨[0], [], []⟩, [.t .bool], []⟩]

noncomputable def scan_whole_L : Nat → Option (Lift.Loop U) := fun n => none

noncomputable def scan_whole_enc : Nat → List (TV U) → Option (Bool)
  | 0, [⟨.bool, a0⟩] => some a0
  | _, _ => none

noncomputable def scan_whole_dec : Bool → Nat × List (TV U) := fun x => (0, [⟨.bool, x⟩])

noncomputable def scan_whole_tr : Bool → Tr (Nat × List (TV U)) := fun r => (fun x => .ret (0, [⟨.bool, x⟩])) r

noncomputable def scan_whole_md : Mode U := ⟨scan_whole_sh, [], scan_whole_os, fun ls => match ls with | [⟨(.int .i64), a0⟩] => .get (scan_whole a0) scan_whole_tr | _ => .fail⟩

theorem scan_whole_E (a0 : Int) : (Kit.withModes kk (modesOf ms13)).fnEval scan_whole_L Tryz.f59 scan_whole_sh scan_whole_os [⟨(.int .i64), a0⟩] scan_whole_enc = scan_whole_f a0 := by kernel_rfl

theorem scan_whole_post : ∀ ls j rs, (scan_whole_md.sum ls).val = some (j, rs) → FnPost kk env0 59 scan_whole_sh scan_whole_os ls j rs := by
  have inner : LoopsOk (Kit.withModes kk (modesOf ms13)) env0 Tryz.f59.ntmps scan_whole_L (bodyOf Tryz.f59) := by
    exact loopsOk_of (bs := []) (by kernel_rfl) trivial
  intro ls j rs h
  simp only [scan_whole_md] at h
  split at h
  · obtain ⟨r, hr, h⟩ := Tr.get_val h
    rw [scan_whole, sealF_eq] at hr
    have hd : scan_whole_dec r = (j, rs) := by
      exact Option.some.inj h
    refine FnPost.modes.1 (fn_sound (kitOk_of eqOk mixed known13) (by kernel_rfl) inner ((scan_whole_E _).trans hr) ?_)
    intro i qs he
    unfold scan_whole_enc at he
    split at he <;> cases he <;> (cases hd; exact ⟨rfl, rfl⟩)
  · cases h

noncomputable def ms14 : List (FuncId × Mode U) := (59, scan_whole_md) :: ms13

theorem known14 : Known kk env0 (modesOf ms14) := known_cons (by kernel_rfl) scan_whole_post known13

noncomputable def scan_Letter_sh : StSh := ⟨⟨[0], [], []⟩, [.t (.int .i64)], []⟩

noncomputable def scan_Letter_os : List StSh := [⟨⟨[0], [], []⟩, [.t .bool], []⟩]

noncomputable def scan_Letter_L : Nat → Option (Lift.Loop U) := fun n => none

noncomputable def scan_Letter_enc : Nat → List (TV U) → Option (Bool)
  | 0, [⟨.bool, a0⟩] => some a0
  | _, _ => none

noncomputable def scan_Letter_dec : Bool → Nat × List (TV U) := fun x => (0, [⟨.bool, x⟩])

noncomputable def scan_Letter_tr : Bool → Tr (Nat × List (TV U)) := fun r => (fun x => .ret (0, [⟨.bool, x⟩])) r

noncomputable def scan_Letter_md : Mode U := ⟨scan_Letter_sh, [], scan_Letter_os, fun ls => match ls with | [⟨(.int .i64), a0⟩] => .get (scan_Letter a0) scan_Letter_tr | _ => .fail⟩

theorem scan_Letter_E (a0 : Int) : (Kit.withModes kk (modesOf ms14)).fnEval scan_Letter_L Tryz.f50 scan_Letter_sh scan_Letter_os [⟨(.int .i64), a0⟩] scan_Letter_enc = scan_Letter_f a0 := by kernel_rfl

theorem scan_Letter_post : ∀ ls j rs, (scan_Letter_md.sum ls).val = some (j, rs) → FnPost kk env0 50 scan_Letter_sh scan_Letter_os ls j rs := by
  have inner : LoopsOk (Kit.withModes kk (modesOf ms14)) env0 Tryz.f50.ntmps scan_Letter_L (bodyOf Tryz.f50) := by
    exact loopsOk_of (bs := []) (by kernel_rfl) trivial
  intro ls j rs h
  simp only [scan_Letter_md] at h
  split at h
  · obtain ⟨r, hr, h⟩ := Tr.get_val h
    rw [scan_Letter, sealF_eq] at hr
    have hd : scan_Letter_dec r = (j, rs) := by
      exact Option.some.inj h
    refine FnPost.modes.1 (fn_sound (kitOk_of eqOk mixed known14) (by kernel_rfl) inner ((scan_Letter_E _).trans hr) ?_)
    intro i qs he
    unfold scan_Letter_enc at he
    split at he <;> cases he <;> (cases hd; exact ⟨rfl, rfl⟩)
  · cases h

noncomputable def ms15 : List (FuncId × Mode U) := (50, scan_Letter_md) :: ms14

theorem known15 : Known kk env0 (modesOf ms15) := known_cons (by kernel_rfl) scan_Letter_post known14

noncomputable def scan_Digit_sh : StSh := ⟨⟨[0], [], []⟩, [.t (.int .i64)], []⟩

noncomputable def scan_Digit_os : List StSh := [⟨⟨[0], [], []⟩, [.t .bool], []⟩]

noncomputable def scan_Digit_L : Nat → Option (Lift.Loop U) := fun n => none

noncomputable def scan_Digit_enc : Nat → List (TV U) → Option (Bool)
  | 0, [⟨.bool, a0⟩] => some a0
  | _, _ => none

noncomputable def scan_Digit_dec : Bool → Nat × List (TV U) := fun x => (0, [⟨.bool, x⟩])

noncomputable def scan_Digit_tr : Bool → Tr (Nat × List (TV U)) := fun r => (fun x => .ret (0, [⟨.bool, x⟩])) r

noncomputable def scan_Digit_md : Mode U := ⟨scan_Digit_sh, [], scan_Digit_os, fun ls => match ls with | [⟨(.int .i64), a0⟩] => .get (scan_Digit a0) scan_Digit_tr | _ => .fail⟩

theorem scan_Digit_E (a0 : Int) : (Kit.withModes kk (modesOf ms15)).fnEval scan_Digit_L Tryz.f35 scan_Digit_sh scan_Digit_os [⟨(.int .i64), a0⟩] scan_Digit_enc = scan_Digit_f a0 := by kernel_rfl

theorem scan_Digit_post : ∀ ls j rs, (scan_Digit_md.sum ls).val = some (j, rs) → FnPost kk env0 35 scan_Digit_sh scan_Digit_os ls j rs := by
  have inner : LoopsOk (Kit.withModes kk (modesOf ms15)) env0 Tryz.f35.ntmps scan_Digit_L (bodyOf Tryz.f35) := by
    exact loopsOk_of (bs := []) (by kernel_rfl) trivial
  intro ls j rs h
  simp only [scan_Digit_md] at h
  split at h
  · obtain ⟨r, hr, h⟩ := Tr.get_val h
    rw [scan_Digit, sealF_eq] at hr
    have hd : scan_Digit_dec r = (j, rs) := by
      exact Option.some.inj h
    refine FnPost.modes.1 (fn_sound (kitOk_of eqOk mixed known15) (by kernel_rfl) inner ((scan_Digit_E _).trans hr) ?_)
    intro i qs he
    unfold scan_Digit_enc at he
    split at he <;> cases he <;> (cases hd; exact ⟨rfl, rfl⟩)
  · cases h

noncomputable def ms16 : List (FuncId × Mode U) := (35, scan_Digit_md) :: ms15

theorem known16 : Known kk env0 (modesOf ms16) := known_cons (by kernel_rfl) scan_Digit_post known15

noncomputable def lex_goes_sh : StSh := ⟨⟨[0], [], []⟩, [.t (.int .i32)], []⟩

noncomputable def lex_goes_os : List StSh := [⟨⟨[0], [], []⟩, [.t .bool], []⟩]

noncomputable def lex_goes_L : Nat → Option (Lift.Loop U) := fun n => none

noncomputable def lex_goes_enc : Nat → List (TV U) → Option (Bool)
  | 0, [⟨.bool, a0⟩] => some a0
  | _, _ => none

noncomputable def lex_goes_dec : Bool → Nat × List (TV U) := fun x => (0, [⟨.bool, x⟩])

noncomputable def lex_goes_tr : Bool → Tr (Nat × List (TV U)) := fun r => (fun x => .ret (0, [⟨.bool, x⟩])) r

noncomputable def lex_goes_md : Mode U := ⟨lex_goes_sh, [], lex_goes_os, fun ls => match ls with | [⟨(.int .i32), a0⟩] => .get (lex_goes a0) lex_goes_tr | _ => .fail⟩

theorem lex_goes_E (a0 : Int) : (Kit.withModes kk (modesOf ms16)).fnEval lex_goes_L Tryz.f32 lex_goes_sh lex_goes_os [⟨(.int .i32), a0⟩] lex_goes_enc = lex_goes_f a0 := by kernel_rfl

theorem lex_goes_post : ∀ ls j rs, (lex_goes_md.sum ls).val = some (j, rs) → FnPost kk env0 32 lex_goes_sh lex_goes_os ls j rs := by
  have inner : LoopsOk (Kit.withModes kk (modesOf ms16)) env0 Tryz.f32.ntmps lex_goes_L (bodyOf Tryz.f32) := by
    exact loopsOk_of (bs := []) (by kernel_rfl) trivial
  intro ls j rs h
  simp only [lex_goes_md] at h
  split at h
  · obtain ⟨r, hr, h⟩ := Tr.get_val h
    rw [lex_goes, sealF_eq] at hr
    have hd : lex_goes_dec r = (j, rs) := by
      exact Option.some.inj h
    refine FnPost.modes.1 (fn_sound (kitOk_of eqOk mixed known16) (by kernel_rfl) inner ((lex_goes_E _).trans hr) ?_)
    intro i qs he
    unfold lex_goes_enc at he
    split at he <;> cases he <;> (cases hd; exact ⟨rfl, rfl⟩)
  · cases h

noncomputable def ms17 : List (FuncId × Mode U) := (32, lex_goes_md) :: ms16

theorem known17 : Known kk env0 (modesOf ms17) := known_cons (by kernel_rfl) lex_goes_post known16

noncomputable def slices_Index_string_string_sh2 : StSh := ⟨⟨[0, 1, 7, 8], [], []⟩, [.t (.slc .str), .t .str, .t (.int .i64), .t (.int .i64)], []⟩

noncomputable def slices_Index_string_string_o2 : List Out := [⟨.ret, ⟨⟨[4], [], []⟩, [.t (.int .i64)], []⟩⟩, ⟨.exit 0, ⟨⟨[], [], []⟩, [], []⟩⟩]

noncomputable def slices_Index_string_string_b2 : Code := (nthLoop (bodyOf Tryz.f54) 0)

noncomputable def slices_Index_string_string_L2 : Nat → Option (Lift.Loop U) := fun n => none

noncomputable def slices_Index_string_string_rec2 (rec : List (List UInt8) → List UInt8 → Int → Int → Option ((Int) ⊕ (Unit))) : List (TV U) → Option ((Int) ⊕ (Unit))
  | [⟨(.slc .str), a0⟩, ⟨.str, a1⟩, ⟨(.int .i64), a2⟩, ⟨(.int .i64), a3⟩] => rec a0 a1 a2 a3
  | _ => none

noncomputable def slices_Index_string_string_enc2 : Nat → List (TV U) → Option ((Int) ⊕ (Unit))
  | 0, [⟨(.int .i64), a0⟩] => some (.inl a0)
  | 1, [] => some (.inr ())
  | _, _ => none

noncomputable def slices_Index_string_string_dec2 : (Int) ⊕ (Unit) → Nat × List (TV U) := fun r => match r with | (.inl x) => (0, [⟨(.int .i64), x⟩]) | (.inr x) => (1, [])

noncomputable def slices_Index_string_string_tr2 : (Int) ⊕ (Unit) → Tr (Nat × List (TV U)) := fun r => .alt r (fun x => .ret (0, [⟨(.int .i64), x⟩])) (fun y => (fun x => .ret (1, [])) y)

noncomputable def slices_Index_string_string_lp2 : Lift.Loop U := ⟨slices_Index_string_string_sh2, slices_Index_string_string_o2, fun ls => match ls with | [⟨(.slc .str), a0⟩, ⟨.str, a1⟩, ⟨(.int .i64), a2⟩, ⟨(.int .i64), a3⟩] => .get (slices_Index_string_string_l2 a0 a1 a2 a3) slices_Index_string_string_tr2 | _ => .fail⟩

theorem slices_Index_string_string_E2 (rec : List (List UInt8) → List UInt8 → Int → Int → Option ((Int) ⊕ (Unit))) (a0 : List (List UInt8)) (a1 : List UInt8) (a2 : Int) (a3 : Int) : (Kit.withModes kk (modesOf ms17)).turn Tryz.f54.ntmps slices_Index_string_string_L2 slices_Index_string_string_sh2 slices_Index_string_string_o2 slices_Index_string_string_b2 [⟨(.slc .str), a0⟩, ⟨.str, a1⟩, ⟨(.int .i64), a2⟩, ⟨(.int .i64), a3⟩] (slices_Index_string_string_rec2 rec) slices_Index_string_string_enc2 = slices_Index_string_string_t2 rec a0 a1 a2 a3 := by kernel_rfl

theorem slices_Index_string_string_ok2 : ∀ ls j rs, (slices_Index_string_string_lp2.sum ls).val = some (j, rs) → RoundPost kk env0 Tryz.f54.ntmps slices_Index_string_string_b2 slices_Index_string_string_lp2.sh slices_Index_string_string_lp2.outs ls j rs := by
  have inner : LoopsOk (Kit.withModes kk (modesOf ms17)) env0 Tryz.f54.ntmps slices_Index_string_string_L2 slices_Index_string_string_b2 := by
    exact loopsOk_of (bs := []) (by kernel_rfl) trivial
  have key : ∀ n a0 a1 a2 a3 r j rs, slices_Index_string_string_i2 n a0 a1 a2 a3 = some r → slices_Index_string_string_dec2 r = (j, rs) → RoundPost kk env0 Tryz.f54.ntmps slices_Index_string_string_b2 slices_Index_string_string_sh2 slices_Index_string_string_o2 [⟨(.slc .str), a0⟩, ⟨.str, a1⟩, ⟨(.int .i64), a2⟩, ⟨(.int .i64), a3⟩] j rs := by
    intro n
    induction n with
    | zero => intro a0 a1 a2 a3 r j rs h; cases h
    | succ n ih =>
      intro a0 a1 a2 a3 r j rs h hd
      refine RoundPost.modes.1 (turn_sound (kitOk_of eqOk mixed known17) inner ((slices_Index_string_string_E2 (slices_Index_string_string_i2 n) a0 a1 a2 a3).trans h) (fun q hq => RoundPost.modes.2 ?_) ?_)
      · unfold slices_Index_string_string_rec2 at hq
        split at hq
        · exact ih _ _ _ _ r j rs hq hd
        · cases hq
      · intro i qs he
        unfold slices_Index_string_string_enc2 at he
        split at he <;> cases he <;> (cases hd; exact ⟨rfl, rfl⟩)
  intro ls j rs h
  simp only [slices_Index_string_string_lp2] at h
  split at h
  · obtain ⟨r, hr, h⟩ := Tr.get_val h
    rw [slices_Index_string_string_l2, sealF_eq] at hr
    refine key fuel _ _ _ _ r j rs hr ?_
    rcases r with r | r <;> exact Option.some.inj h
  · cases h

noncomputable def slices_Index_string_string_sh : StSh := ⟨⟨[0, 1], [], []⟩, [.t (.slc .str), .t .str], []⟩

noncomputable def slices_Index_string_string_os : List StSh := [⟨⟨[0], [], []⟩, [.t (.int .i64)], []⟩]

noncomputable def slices_Index_string_string_L : Nat → Option (Lift.Loop U) := fun n => bif Nat.beq n 2 then some slices_Index_string_string_lp2 else none

noncomputable def slices_Index_string_string_enc : Nat → List (TV U) → Option (Int)
  | 0, [⟨(.int .i64), a0⟩] => some a0
  | _, _ => none

noncomputable def slices_Index_string_string_dec : Int → Nat × List (TV U) := fun x => (0, [⟨(.int .i64), x⟩])

noncomputable def slices_Index_string_string_tr : Int → Tr (Nat × List (TV U)) := fun r => (fun x => .ret (0, [⟨(.int .i64), x⟩])) r

noncomputable def slices_Index_string_string_md : Mode U := ⟨slices_Index_string_string_sh, [], slices_Index_string_string_os, fun ls => match ls with | [⟨(.slc .str), a0⟩, ⟨.str, a1⟩] => .get (slices_Index_string_string a0 a1) slices_Index_string_string_tr | _ => .fail⟩

theorem slices_Index_string_string_E (a0 : List (List UInt8)) (a1 : List UInt8) : (Kit.withModes kk (modesOf ms17)).fnEval slices_Index_string_string_L Tryz.f54 slices_Index_string_string_sh slices_Index_string_string_os [⟨(.slc .str), a0⟩, ⟨.str, a1⟩] slices_Index_string_string_enc = slices_Index_string_string_f a0 a1 := by kernel_rfl

theorem slices_Index_string_string_post : ∀ ls j rs, (slices_Index_string_string_md.sum ls).val = some (j, rs) → FnPost kk env0 54 slices_Index_string_string_sh slices_Index_string_string_os ls j rs := by
  have inner : LoopsOk (Kit.withModes kk (modesOf ms17)) env0 Tryz.f54.ntmps slices_Index_string_string_L (bodyOf Tryz.f54) := by
    exact loopsOk_of (bs := [slices_Index_string_string_b2]) (by kernel_rfl) ⟨.inr ⟨_, by kernel_rfl, LoopOk.of_round slices_Index_string_string_ok2⟩, trivial⟩
  intro ls j rs h
  simp only [slices_Index_string_string_md] at h
  split at h
  · obtain ⟨r, hr, h⟩ := Tr.get_val h
    rw [slices_Index_string_string, sealF_eq] at hr
    have hd : slices_Index_string_string_dec r = (j, rs) := by
      exact Option.some.inj h
    refine FnPost.modes.1 (fn_sound (kitOk_of eqOk mixed known17) (by kernel_rfl) inner ((slices_Index_string_string_E _ _).trans hr) ?_)
    intro i qs he
    unfold slices_Index_string_string_enc at he
    split at he <;> cases he <;> (cases hd; exact ⟨rfl, rfl⟩)
  · cases h

noncomputable def ms18 : List (FuncId × Mode U) := (54, slices_Index_string_string_md) :: ms17

theorem known18 : Known kk env0 (modesOf ms18) := known_cons (by kernel_rfl) slices_Index_string_string_post known17

noncomputable def slices_Contains_string_string_sh : StSh := ⟨⟨[0, 1], [], []⟩, [.t (.slc .str), .t .str], []⟩

noncomputable def slices_Contains_string_string_os : List StSh := [⟨⟨[0], [], []⟩, [.t .bool], []⟩]

noncomputable def slices_Contains_string_string_L : Nat → Option (Lift.Loop U) := fun n => none

noncomputable def slices_Contains_string_string_enc : Nat → List (TV U) → Option (Bool)
  | 0, [⟨.bool, a0⟩] => some a0
  | _, _ => none

noncomputable def slices_Contains_string_string_dec : Bool → Nat × List (TV U) := fun x => (0, [⟨.bool, x⟩])

noncomputable def slices_Contains_string_string_tr : Bool → Tr (Nat × List (TV U)) := fun r => (fun x => .ret (0, [⟨.bool, x⟩])) r

noncomputable def slices_Contains_string_string_md : Mode U := ⟨slices_Contains_string_string_sh, [], slices_Contains_string_string_os, fun ls => match ls with | [⟨(.slc .str), a0⟩, ⟨.str, a1⟩] => .get (slices_Contains_string_string a0 a1) slices_Contains_string_string_tr | _ => .fail⟩

theorem slices_Contains_string_string_E (a0 : List (List UInt8)) (a1 : List UInt8) : (Kit.withModes kk (modesOf ms18)).fnEval slices_Contains_string_string_L Tryz.f37 slices_Contains_string_string_sh slices_Contains_string_string_os [⟨(.slc .str), a0⟩, ⟨.str, a1⟩] slices_Contains_string_string_enc = slices_Contains_string_string_f a0 a1 := by kernel_rfl

theorem slices_Contains_string_string_post : ∀ ls j rs, (slices_Contains_string_string_md.sum ls).val = some (j, rs) → FnPost kk env0 37 slices_Contains_string_string_sh slices_Contains_string_string_os ls j rs := by
  have inner : LoopsOk (Kit.withModes kk (modesOf ms18)) env0 Tryz.f37.ntmps slices_Contains_string_string_L (bodyOf Tryz.f37) := by
    exact loopsOk_of (bs := []) (by kernel_rfl) trivial
  intro ls j rs h
  simp only [slices_Contains_string_string_md] at h
  split at h
  · obtain ⟨r, hr, h⟩ := Tr.get_val h
    rw [slices_Contains_string_string, sealF_eq] at hr
    have hd : slices_Contains_string_string_dec r = (j, rs) := by
      exact Option.some.inj h
    refine FnPost.modes.1 (fn_sound (kitOk_of eqOk mixed known18) (by kernel_rfl) inner ((slices_Contains_string_string_E _ _).trans hr) ?_)
    intro i qs he
    unfold slices_Contains_string_string_enc at he
    split at he <;> cases he <;> (cases hd; exact ⟨rfl, rfl⟩)
  · cases h

noncomputable def ms19 : List (FuncId × Mode U) := (37, slices_Contains_string_string_md) :: ms18

theorem known19 : Known kk env0 (modesOf ms19) := known_cons (by kernel_rfl) slices_Contains_string_string_post known18

noncomputable def lex_sign_sh : StSh := ⟨⟨[0], [], []⟩, [.t .str], []⟩

noncomputable def lex_sign_os : List StSh := [⟨⟨[0], [], []⟩, [.t .str], []⟩]

noncomputable def lex_sign_L : Nat → Option (Lift.Loop U) := fun n => none

noncomputable def lex_sign_enc : Nat → List (TV U) → Option ((List UInt8))
  | 0, [⟨.str, a0⟩] => some a0
  | _, _ => none

noncomputable def lex_sign_dec : (List UInt8) → Nat × List (TV U) := fun x => (0, [⟨.str, x⟩])

noncomputable def lex_sign_tr : (List UInt8) → Tr (Nat × List (TV U)) := fun r => (fun x => .ret (0, [⟨.str, x⟩])) r

noncomputable def lex_sign_md : Mode U := ⟨lex_sign_sh, [], lex_sign_os, fun ls => match ls with | [⟨.str, a0⟩] => .get (lex_sign a0) lex_sign_tr | _ => .fail⟩

theorem lex_sign_E (a0 : List UInt8) : (Kit.withModes kk (modesOf ms19)).fnEval lex_sign_L Tryz.f33 lex_sign_sh lex_sign_os [⟨.str, a0⟩] lex_sign_enc = lex_sign_f a0 := by kernel_rfl

theorem lex_sign_post : ∀ ls j rs, (lex_sign_md.sum ls).val = some (j, rs) → FnPost kk env0 33 lex_sign_sh lex_sign_os ls j rs := by
  have inner : LoopsOk (Kit.withModes kk (modesOf ms19)) env0 Tryz.f33.ntmps lex_sign_L (bodyOf Tryz.f33) := by
    exact loopsOk_of (bs := []) (by kernel_rfl) trivial
  intro ls j rs h
  simp only [lex_sign_md] at h
  split at h
  · obtain ⟨r, hr, h⟩ := Tr.get_val h
    rw [lex_sign, sealF_eq] at hr
    have hd : lex_sign_dec r = (j, rs) := by
      exact Option.some.inj h
    refine FnPost.modes.1 (fn_sound (kitOk_of eqOk mixed known19) (by kernel_rfl) inner ((lex_sign_E _).trans hr) ?_)
    intro i qs he
    unfold lex_sign_enc at he
    split at he <;> cases he <;> (cases hd; exact ⟨rfl, rfl⟩)
  · cases h

noncomputable def ms20 : List (FuncId × Mode U) := (33, lex_sign_md) :: ms19

theorem known20 : Known kk env0 (modesOf ms20) := known_cons (by kernel_rfl) lex_sign_post known19

noncomputable def lex_word_sh2 : StSh := ⟨⟨[0, 6], [6], []⟩, [.t .str, .ptr 6 0], [.sit]⟩

noncomputable def lex_word_o2 : List Out := [⟨.ret, ⟨⟨[2], [], []⟩, [.t .str], []⟩⟩, ⟨.exit 0, ⟨⟨[0], [], []⟩, [.t .str], []⟩⟩]

noncomputable def lex_word_b2 : Code := (nthLoop (bodyOf Tryz.f34) 0)

noncomputable def lex_word_L2 : Nat → Option (Lift.Loop U) := fun n => none

noncomputable def lex_word_rec2 (rec : List UInt8 → List UInt8 → Nat → Option (((List UInt8)) ⊕ ((List UInt8)))) : List (TV U) → Option (((List UInt8)) ⊕ ((List UInt8)))
  | [⟨.str, a0⟩, ⟨.str, a1⟩, ⟨.fn, a2⟩] => rec a0 a1 a2
  | _ => none

noncomputable def lex_word_enc2 : Nat → List (TV U) → Option (((List UInt8)) ⊕ ((List UInt8)))
  | 0, [⟨.str, a0⟩] => some (.inl a0)
  | 1, [⟨.str, a0⟩] => some (.inr a0)
  | _, _ => none

noncomputable def lex_word_dec2 : ((List UInt8)) ⊕ ((List UInt8)) → Nat × List (TV U) := fun r => match r with | (.inl x) => (0, [⟨.str, x⟩]) | (.inr x) => (1, [⟨.str, x⟩])

noncomputable def lex_word_tr2 : ((List UInt8)) ⊕ ((List UInt8)) → Tr (Nat × List (TV U)) := fun r => .alt r (fun x => .ret (0, [⟨.str, x⟩])) (fun y => (fun x => .ret (1, [⟨.str, x⟩])) y)

noncomputable def lex_word_lp2 : Lift.Loop U := ⟨lex_word_sh2, lex_word_o2, fun ls => match ls with | [⟨.str, a0⟩, ⟨.str, a1⟩, ⟨.fn, a2⟩] => .get (lex_word_l2 a0 a1 a2) lex_word_tr2 | _ => .fail⟩

theorem lex_word_E2 (rec : List UInt8 → List UInt8 → Nat → Option (((List UInt8)) ⊕ ((List UInt8)))) (a0 : List UInt8) (a1 : List UInt8) (a2 : Nat) : (Kit.withModes kk (modesOf ms20)).turn Tryz.f34.ntmps lex_word_L2 lex_word_sh2 lex_word_o2 lex_word_b2 [⟨.str, a0⟩, ⟨.str, a1⟩, ⟨.fn, a2⟩] (lex_word_rec2 rec) lex_word_enc2 = lex_word_t2 rec a0 a1 a2 := by kernel_rfl

theorem lex_word_ok2 : ∀ ls j rs, (lex_word_lp2.sum ls).val = some (j, rs) → RoundPost kk env0 Tryz.f34.ntmps lex_word_b2 lex_word_lp2.sh lex_word_lp2.outs ls j rs := by
  have inner : LoopsOk (Kit.withModes kk (modesOf ms20)) env0 Tryz.f34.ntmps lex_word_L2 lex_word_b2 := by
    exact loopsOk_of (bs := []) (by kernel_rfl) trivial
  have key : ∀ n a0 a1 a2 r j rs, lex_word_i2 n a0 a1 a2 = some r → lex_word_dec2 r = (j, rs) → RoundPost kk env0 Tryz.f34.ntmps lex_word_b2 lex_word_sh2 lex_word_o2 [⟨.str, a0⟩, ⟨.str, a1⟩, ⟨.fn, a2⟩] j rs := by
    intro n
    induction n with
    | zero => intro a0 a1 a2 r j rs h; cases h
    | succ n ih =>
      intro a0 a1 a2 r j rs h hd
      refine RoundPost.modes.1 (turn_sound (kitOk_of eqOk mixed known20) inner ((lex_word_E2 (lex_word_i2 n) a0 a1 a2).trans h) (fun q hq => RoundPost.modes.2 ?_) ?_)
      · unfold lex_word_rec2 at hq
        split at hq
        · exact ih _ _ _ r j rs hq hd
        · cases hq
      · intro i qs he
        unfold lex_word_enc2 at he
        split at he <;> cases he <;> (cases hd; exact ⟨rfl, rfl⟩)
  intro ls j rs h
  simp only [lex_word_lp2] at h
  split at h
  · obtain ⟨r, hr, h⟩ := Tr.get_val h
    rw [lex_word_l2, sealF_eq] at hr
    refine key fuel _ _ _ r j rs hr ?_
    rcases r with r | r <;> exact Option.some.inj h
  · cases h

noncomputable def lex_word_sh : StSh := ⟨⟨[0], [], []⟩, [.t .str], []⟩

noncomputable def lex_word_os : List StSh := [⟨⟨[0], [], []⟩, [.t .str], []⟩]

noncomputable def lex_word_L : Nat → Option (Lift.Loop U) := fun n => bif Nat.beq n 2 then some lex_word_lp2 else none

noncomputable def lex_word_enc : Nat → List (TV U) → Option ((List UInt8))
  | 0, [⟨.str, a0⟩] => some a0
  | _, _ => none

noncomputable def lex_word_dec : (List UInt8) → Nat × List (TV U) := fun x => (0, [⟨.str, x⟩])

noncomputable def lex_word_tr : (List UInt8) → Tr (Nat × List (TV U)) := fun r => (fun x => .ret (0, [⟨.str, x⟩])) r

noncomputable def lex_word_md : Mode U := ⟨lex_word_sh, [], lex_word_os, fun ls => match ls with | [⟨.str, a0⟩] => .get (lex_word a0) lex_word_tr | _ => .fail⟩

theorem lex_word_E (a0 : List UInt8) : (Kit.withModes kk (modesOf ms20)).fnEval lex_word_L Tryz.f34 lex_word_sh lex_word_os [⟨.str, a0⟩] lex_word_enc = lex_word_f a0 := by kernel_rfl

theorem lex_word_post : ∀ ls j rs, (lex_word_md.sum ls).val = some (j, rs) → FnPost kk env0 34 lex_word_sh lex_word_os ls j rs := by
  have inner : LoopsOk (Kit.withModes kk (modesOf ms20)) env0 Tryz.f34.ntmps lex_word_L (bodyOf Tryz.f34) := by
    exact loopsOk_of (bs := [lex_word_b2]) (by kernel_rfl) ⟨.inr ⟨_, by kernel_rfl, LoopOk.of_round lex_word_ok2⟩, trivial⟩
  intro ls j rs h
  simp only [lex_word_md] at h
  split at h
  · obtain ⟨r, hr, h⟩ := Tr.get_val h
    rw [lex_word, sealF_eq] at hr
    have hd : lex_word_dec r = (j, rs) := by
      exact Option.some.inj h
    refine FnPost.modes.1 (fn_sound (kitOk_of eqOk mixed known20) (by kernel_rfl) inner ((lex_word_E _).trans hr) ?_)
    intro i qs he
    unfold lex_word_enc at he
    split at he <;> cases he <;> (cases hd; exact ⟨rfl, rfl⟩)
  · cases h

noncomputable def ms21 : List (FuncId × Mode U) := (34, lex_word_md) :: ms20

theorem known21 : Known kk env0 (modesOf ms21) := known_cons (by kernel_rfl) lex_word_post known20

noncomputable def lex_number_sh : StSh := ⟨⟨[0], [], []⟩, [.t .str], []⟩

noncomputable def lex_number_os : List StSh := [⟨⟨[0, 1], [], []⟩, [.t (.int .i64), .t .bool], []⟩]

noncomputable def lex_number_L : Nat → Option (Lift.Loop U) := fun n => none

noncomputable def lex_number_enc : Nat → List (TV U) → Option (Int × Bool)
  | 0, [⟨(.int .i64), a0⟩, ⟨.bool, a1⟩] => some (a0, a1)
  | _, _ => none

noncomputable def lex_number_dec : Int × Bool → Nat × List (TV U) := fun x => (0, [⟨(.int .i64), x.1⟩, ⟨.bool, x.2⟩])

noncomputable def lex_number_tr : Int × Bool → Tr (Nat × List (TV U)) := fun r => (fun x => .ret (0, [⟨(.int .i64), x.1⟩, ⟨.bool, x.2⟩])) r

noncomputable def lex_number_md : Mode U := ⟨lex_number_sh, [], lex_number_os, fun ls => match ls with | [⟨.str, a0⟩] => .get (lex_number a0) lex_number_tr | _ => .fail⟩

theorem lex_number_E (a0 : List UInt8) : (Kit.withModes kk (modesOf ms21)).fnEval lex_number_L Tryz.f36 lex_number_sh lex_number_os [⟨.str, a0⟩] lex_number_enc = lex_number_f a0 := by kernel_rfl

theorem lex_number_post : ∀ ls j rs, (lex_number_md.sum ls).val = some (j, rs) → FnPost kk env0 36 lex_number_sh lex_number_os ls j rs := by
  have inner : LoopsOk (Kit.withModes kk (modesOf ms21)) env0 Tryz.f36.ntmps lex_number_L (bodyOf Tryz.f36) := by
    exact loopsOk_of (bs := []) (by kernel_rfl) trivial
  intro ls j rs h
  simp only [lex_number_md] at h
  split at h
  · obtain ⟨r, hr, h⟩ := Tr.get_val h
    rw [lex_number, sealF_eq] at hr
    have hd : lex_number_dec r = (j, rs) := by
      exact Option.some.inj h
    refine FnPost.modes.1 (fn_sound (kitOk_of eqOk mixed known21) (by kernel_rfl) inner ((lex_number_E _).trans hr) ?_)
    intro i qs he
    unfold lex_number_enc at he
    split at he <;> cases he <;> (cases hd; exact ⟨rfl, rfl⟩)
  · cases h

noncomputable def ms22 : List (FuncId × Mode U) := (36, lex_number_md) :: ms21

theorem known22 : Known kk env0 (modesOf ms22) := known_cons (by kernel_rfl) lex_number_post known21

noncomputable def lex_Words_sh : StSh := ⟨⟨[], [], []⟩, [], []⟩

noncomputable def lex_Words_os : List StSh := [⟨⟨[0], [], [⟨.slot 0, 100000, 9, .str⟩]⟩, [.oslc 100000], [.row 9 .str]⟩]

noncomputable def lex_Words_L : Nat → Option (Lift.Loop U) := fun n => none

noncomputable def lex_Words_enc : Nat → List (TV U) → Option ((List (List UInt8)))
  | 0, [⟨(.slc .str), a0⟩] => some a0
  | _, _ => none

noncomputable def lex_Words_dec : (List (List UInt8)) → Nat × List (TV U) := fun x => (0, [⟨(.slc .str), x⟩])

noncomputable def lex_Words_tr : (List (List UInt8)) → Tr (Nat × List (TV U)) := fun r => (fun x => .ret (0, [⟨(.slc .str), x⟩])) r

noncomputable def lex_Words_md : Mode U := ⟨lex_Words_sh, [], lex_Words_os, fun ls => match ls with | [] => .get (lex_Words) lex_Words_tr | _ => .fail⟩

theorem lex_Words_E : (Kit.withModes kk (modesOf ms22)).fnEval lex_Words_L Tryz.f38 lex_Words_sh lex_Words_os [] lex_Words_enc = lex_Words_f := by kernel_rfl

theorem lex_Words_post : ∀ ls j rs, (lex_Words_md.sum ls).val = some (j, rs) → FnPost kk env0 38 lex_Words_sh lex_Words_os ls j rs := by
  have inner : LoopsOk (Kit.withModes kk (modesOf ms22)) env0 Tryz.f38.ntmps lex_Words_L (bodyOf Tryz.f38) := by
    exact loopsOk_of (bs := []) (by kernel_rfl) trivial
  intro ls j rs h
  simp only [lex_Words_md] at h
  split at h
  · obtain ⟨r, hr, h⟩ := Tr.get_val h
    rw [lex_Words, sealF_eq] at hr
    have hd : lex_Words_dec r = (j, rs) := by
      exact Option.some.inj h
    refine FnPost.modes.1 (fn_sound (kitOk_of eqOk mixed known22) (by kernel_rfl) inner ((lex_Words_E).trans hr) ?_)
    intro i qs he
    unfold lex_Words_enc at he
    split at he <;> cases he <;> (cases hd; exact ⟨rfl, rfl⟩)
  · cases h

noncomputable def ms23 : List (FuncId × Mode U) := (38, lex_Words_md) :: ms22

theorem known23 : Known kk env0 (modesOf ms23) := known_cons (by kernel_rfl) lex_Words_post known22

noncomputable def lex_token_sh : StSh := ⟨⟨[0], [], []⟩, [.t .str], []⟩

noncomputable def lex_token_os : List StSh := [⟨⟨[0, 1], [], []⟩, [.t (.st 31), .t (.int .i64)], []⟩]

noncomputable def lex_token_L : Nat → Option (Lift.Loop U) := fun n => none

noncomputable def lex_token_enc : Nat → List (TV U) → Option (Token × Int)
  | 0, [⟨(.st 31), a0⟩, ⟨(.int .i64), a1⟩] => some (a0, a1)
  | _, _ => none

noncomputable def lex_token_dec : Token × Int → Nat × List (TV U) := fun x => (0, [⟨(.st 31), x.1⟩, ⟨(.int .i64), x.2⟩])

noncomputable def lex_token_tr : Token × Int → Tr (Nat × List (TV U)) := fun r => (fun x => .ret (0, [⟨(.st 31), x.1⟩, ⟨(.int .i64), x.2⟩])) r

noncomputable def lex_token_md : Mode U := ⟨lex_token_sh, [], lex_token_os, fun ls => match ls with | [⟨.str, a0⟩] => .get (lex_token a0) lex_token_tr | _ => .fail⟩

theorem lex_token_E (a0 : List UInt8) : (Kit.withModes kk (modesOf ms23)).fnEval lex_token_L Tryz.f16 lex_token_sh lex_token_os [⟨.str, a0⟩] lex_token_enc = lex_token_f a0 := by kernel_rfl

theorem lex_token_post : ∀ ls j rs, (lex_token_md.sum ls).val = some (j, rs) → FnPost kk env0 16 lex_token_sh lex_token_os ls j rs := by
  have inner : LoopsOk (Kit.withModes kk (modesOf ms23)) env0 Tryz.f16.ntmps lex_token_L (bodyOf Tryz.f16) := by
    exact loopsOk_of (bs := []) (by kernel_rfl) trivial
  intro ls j rs h
  simp only [lex_token_md] at h
  split at h
  · obtain ⟨r, hr, h⟩ := Tr.get_val h
    rw [lex_token, sealF_eq] at hr
    have hd : lex_token_dec r = (j, rs) := by
      exact Option.some.inj h
    refine FnPost.modes.1 (fn_sound (kitOk_of eqOk mixed known23) (by kernel_rfl) inner ((lex_token_E _).trans hr) ?_)
    intro i qs he
    unfold lex_token_enc at he
    split at he <;> cases he <;> (cases hd; exact ⟨rfl, rfl⟩)
  · cases h

noncomputable def ms24 : List (FuncId × Mode U) := (16, lex_token_md) :: ms23

theorem known24 : Known kk env0 (modesOf ms24) := known_cons (by kernel_rfl) lex_token_post known23

noncomputable def lex_Tokens_sh6 : StSh := ⟨⟨[0, 3, 6, 7], [3], [⟨.slot 6, 6, 31, (.st 31)⟩]⟩, [.t .str, .ptr 3 0, .oslc 6, .t (.int .i64)], [.blk [.t (.int .i64), .t (.int .i64), .t .str], .row 31 (.st 31)]⟩

noncomputable def lex_Tokens_o6 : List Out := [⟨.ret, ⟨⟨[2, 3], [3], []⟩, [.nil, .ptr 3 0], [.blk [.t (.int .i64), .t (.int .i64), .t .str]]⟩⟩, ⟨.exit 0, ⟨⟨[0, 3, 6], [3], [⟨.slot 6, 6, 31, (.st 31)⟩]⟩, [.t .str, .ptr 3 0, .oslc 6], [.blk [.t (.int .i64), .t (.int .i64), .t .str], .row 31 (.st 31)]⟩⟩]

noncomputable def lex_Tokens_b6 : Code := (nthLoop (bodyOf Tryz.f7) 0)

noncomputable def lex_Tokens_L6 : Nat → Option (Lift.Loop U) := fun n => none

noncomputable def lex_Tokens_rec6 (rec : List UInt8 → Int → Int → Int → List UInt8 → List (Token) → Option ((Int × Int × (List UInt8)) ⊕ ((List UInt8) × Int × Int × (List UInt8) × (List (Token))))) : List (TV U) → Option ((Int × Int × (List UInt8)) ⊕ ((List UInt8) × Int × Int × (List UInt8) × (List (Token))))
  | [⟨.str, a0⟩, ⟨(.int .i64), a1⟩, ⟨(.int .i64), a2⟩, ⟨(.int .i64), a3⟩, ⟨.str, a4⟩, ⟨(.slc (.st 31)), a5⟩] => rec a0 a1 a2 a3 a4 a5
  | _ => none

noncomputable def lex_Tokens_enc6 : Nat → List (TV U) → Option ((Int × Int × (List UInt8)) ⊕ ((List UInt8) × Int × Int × (List UInt8) × (List (Token))))
  | 0, [⟨(.int .i64), a0⟩, ⟨(.int .i64), a1⟩, ⟨.str, a2⟩] => some (.inl (a0, a1, a2))
  | 1, [⟨.str, a0⟩, ⟨(.int .i64), a1⟩, ⟨(.int .i64), a2⟩, ⟨.str, a3⟩, ⟨(.slc (.st 31)), a4⟩] => some (.inr (a0, a1, a2, a3, a4))
  | _, _ => none

noncomputable def lex_Tokens_dec6 : (Int × Int × (List UInt8)) ⊕ ((List UInt8) × Int × Int × (List UInt8) × (List (Token))) → Nat × List (TV U) := fun r => match r with | (.inl x) => (0, [⟨(.int .i64), x.1⟩, ⟨(.int .i64), x.2.1⟩, ⟨.str, x.2.2⟩]) | (.inr x) => (1, [⟨.str, x.1⟩, ⟨(.int .i64), x.2.1⟩, ⟨(.int .i64), x.2.2.1⟩, ⟨.str, x.2.2.2.1⟩, ⟨(.slc (.st 31)), x.2.2.2.2⟩])

noncomputable def lex_Tokens_tr6 : (Int × Int × (List UInt8)) ⊕ ((List UInt8) × Int × Int × (List UInt8) × (List (Token))) → Tr (Nat × List (TV U)) := fun r => .alt r (fun x => .ret (0, [⟨(.int .i64), x.1⟩, ⟨(.int .i64), x.2.1⟩, ⟨.str, x.2.2⟩])) (fun y => (fun x => .ret (1, [⟨.str, x.1⟩, ⟨(.int .i64), x.2.1⟩, ⟨(.int .i64), x.2.2.1⟩, ⟨.str, x.2.2.2.1⟩, ⟨(.slc (.st 31)), x.2.2.2.2⟩])) y)

noncomputable def lex_Tokens_lp6 : Lift.Loop U := ⟨lex_Tokens_sh6, lex_Tokens_o6, fun ls => match ls with | [⟨.str, a0⟩, ⟨(.int .i64), a1⟩, ⟨(.int .i64), a2⟩, ⟨(.int .i64), a3⟩, ⟨.str, a4⟩, ⟨(.slc (.st 31)), a5⟩] => .get (lex_Tokens_l6 a0 a1 a2 a3 a4 a5) lex_Tokens_tr6 | _ => .fail⟩

theorem lex_Tokens_E6 (rec : List UInt8 → Int → Int → Int → List UInt8 → List (Token) → Option ((Int × Int × (List UInt8)) ⊕ ((List UInt8) × Int × Int × (List UInt8) × (List (Token))))) (a0 : List UInt8) (a1 : Int) (a2 : Int) (a3 : Int) (a4 : List UInt8) (a5 : List (Token)) : (Kit.withModes kk (modesOf ms24)).turn Tryz.f7.ntmps lex_Tokens_L6 lex_Tokens_sh6 lex_Tokens_o6 lex_Tokens_b6 [⟨.str, a0⟩, ⟨(.int .i64), a1⟩, ⟨(.int .i64), a2⟩, ⟨(.int .i64), a3⟩, ⟨.str, a4⟩, ⟨(.slc (.st 31)), a5⟩] (lex_Tokens_rec6 rec) lex_Tokens_enc6 = lex_Tokens_t6 rec a0 a1 a2 a3 a4 a5 := by kernel_rfl

theorem lex_Tokens_ok6 : ∀ ls j rs, (lex_Tokens_lp6.sum ls).val = some (j, rs) → RoundPost kk env0 Tryz.f7.ntmps lex_Tokens_b6 lex_Tokens_lp6.sh lex_Tokens_lp6.outs ls j rs := by
  have inner : LoopsOk (Kit.withModes kk (modesOf ms24)) env0 Tryz.f7.ntmps lex_Tokens_L6 lex_Tokens_b6 := by
    exact loopsOk_of (bs := []) (by kernel_rfl) trivial
  have key : ∀ n a0 a1 a2 a3 a4 a5 r j rs, lex_Tokens_i6 n a0 a1 a2 a3 a4 a5 = some r → lex_Tokens_dec6 r = (j, rs) → RoundPost kk env0 Tryz.f7.ntmps lex_Tokens_b6 lex_Tokens_sh6 lex_Tokens_o6 [⟨.str, a0⟩, ⟨(.int .i64), a1⟩, ⟨(.int .i64), a2⟩, ⟨(.int .i64), a3⟩, ⟨.str, a4⟩, ⟨(.slc (.st 31)), a5⟩] j rs := by
    intro n
    induction n with
    | zero => intro a0 a1 a2 a3 a4 a5 r j rs h; cases h
    | succ n ih =>
      intro a0 a1 a2 a3 a4 a5 r j rs h hd
      refine RoundPost.modes.1 (turn_sound (kitOk_of eqOk mixed known24) inner ((lex_Tokens_E6 (lex_Tokens_i6 n) a0 a1 a2 a3 a4 a5).trans h) (fun q hq => RoundPost.modes.2 ?_) ?_)
      · unfold lex_Tokens_rec6 at hq
        split at hq
        · exact ih _ _ _ _ _ _ r j rs hq hd
        · cases hq
      · intro i qs he
        unfold lex_Tokens_enc6 at he
        split at he <;> cases he <;> (cases hd; exact ⟨rfl, rfl⟩)
  intro ls j rs h
  simp only [lex_Tokens_lp6] at h
  split at h
  · obtain ⟨r, hr, h⟩ := Tr.get_val h
    rw [lex_Tokens_l6, sealF_eq] at hr
    refine key fuel _ _ _ _ _ _ r j rs hr ?_
    rcases r with r | r <;> exact Option.some.inj h
  · cases h

noncomputable def lex_Tokens_sh : StSh := ⟨⟨[0], [], []⟩, [.t .str], []⟩

noncomputable def lex_Tokens_os : List StSh := [⟨⟨[0, 1], [], [⟨.slot 0, 100000, 31, (.st 31)⟩]⟩, [.oslc 100000, .t (.st 26)], [.row 31 (.st 31)]⟩]

noncomputable def lex_Tokens_L : Nat → Option (Lift.Loop U) := fun n => bif Nat.beq n 6 then some lex_Tokens_lp6 else none

noncomputable def lex_Tokens_enc : Nat → List (TV U) → Option (Fault × (List (Token)))
  | 0, [⟨(.st 26), a0⟩, ⟨(.slc (.st 31)), a1⟩] => some (a0, a1)
  | _, _ => none

noncomputable def lex_Tokens_dec : Fault × (List (Token)) → Nat × List (TV U) := fun x => (0, [⟨(.st 26), x.1⟩, ⟨(.slc (.st 31)), x.2⟩])

noncomputable def lex_Tokens_tr : Fault × (List (Token)) → Tr (Nat × List (TV U)) := fun r => (fun x => .ret (0, [⟨(.st 26), x.1⟩, ⟨(.slc (.st 31)), x.2⟩])) r

noncomputable def lex_Tokens_md : Mode U := ⟨lex_Tokens_sh, [], lex_Tokens_os, fun ls => match ls with | [⟨.str, a0⟩] => .get (lex_Tokens a0) lex_Tokens_tr | _ => .fail⟩

theorem lex_Tokens_E (a0 : List UInt8) : (Kit.withModes kk (modesOf ms24)).fnEval lex_Tokens_L Tryz.f7 lex_Tokens_sh lex_Tokens_os [⟨.str, a0⟩] lex_Tokens_enc = lex_Tokens_f a0 := by kernel_rfl

theorem lex_Tokens_post : ∀ ls j rs, (lex_Tokens_md.sum ls).val = some (j, rs) → FnPost kk env0 7 lex_Tokens_sh lex_Tokens_os ls j rs := by
  have inner : LoopsOk (Kit.withModes kk (modesOf ms24)) env0 Tryz.f7.ntmps lex_Tokens_L (bodyOf Tryz.f7) := by
    exact loopsOk_of (bs := [lex_Tokens_b6]) (by kernel_rfl) ⟨.inr ⟨_, by kernel_rfl, LoopOk.of_round lex_Tokens_ok6⟩, trivial⟩
  intro ls j rs h
  simp only [lex_Tokens_md] at h
  split at h
  · obtain ⟨r, hr, h⟩ := Tr.get_val h
    rw [lex_Tokens, sealF_eq] at hr
    have hd : lex_Tokens_dec r = (j, rs) := by
      exact Option.some.inj h
    refine FnPost.modes.1 (fn_sound (kitOk_of eqOk mixed known24) (by kernel_rfl) inner ((lex_Tokens_E _).trans hr) ?_)
    intro i qs he
    unfold lex_Tokens_enc at he
    split at he <;> cases he <;> (cases hd; exact ⟨rfl, rfl⟩)
  · cases h

noncomputable def ms25 : List (FuncId × Mode U) := (7, lex_Tokens_md) :: ms24

theorem known25 : Known kk env0 (modesOf ms25) := known_cons (by kernel_rfl) lex_Tokens_post known24

noncomputable def lex_fits_sh : StSh := ⟨⟨[0], [], []⟩, [.t (.st 31)], []⟩

noncomputable def lex_fits_os : List StSh := [⟨⟨[0], [], []⟩, [.t .bool], []⟩]

noncomputable def lex_fits_L : Nat → Option (Lift.Loop U) := fun n => none

noncomputable def lex_fits_enc : Nat → List (TV U) → Option (Bool)
  | 0, [⟨.bool, a0⟩] => some a0
  | _, _ => none

noncomputable def lex_fits_dec : Bool → Nat × List (TV U) := fun x => (0, [⟨.bool, x⟩])

noncomputable def lex_fits_tr : Bool → Tr (Nat × List (TV U)) := fun r => (fun x => .ret (0, [⟨.bool, x⟩])) r

noncomputable def lex_fits_md : Mode U := ⟨lex_fits_sh, [], lex_fits_os, fun ls => match ls with | [⟨(.st 31), a0⟩] => .get (lex_fits a0) lex_fits_tr | _ => .fail⟩

theorem lex_fits_E (a0 : Token) : (Kit.withModes kk (modesOf ms25)).fnEval lex_fits_L Tryz.f18 lex_fits_sh lex_fits_os [⟨(.st 31), a0⟩] lex_fits_enc = lex_fits_f a0 := by kernel_rfl

theorem lex_fits_post : ∀ ls j rs, (lex_fits_md.sum ls).val = some (j, rs) → FnPost kk env0 18 lex_fits_sh lex_fits_os ls j rs := by
  have inner : LoopsOk (Kit.withModes kk (modesOf ms25)) env0 Tryz.f18.ntmps lex_fits_L (bodyOf Tryz.f18) := by
    exact loopsOk_of (bs := []) (by kernel_rfl) trivial
  intro ls j rs h
  simp only [lex_fits_md] at h
  split at h
  · obtain ⟨r, hr, h⟩ := Tr.get_val h
    rw [lex_fits, sealF_eq] at hr
    have hd : lex_fits_dec r = (j, rs) := by
      exact Option.some.inj h
    refine FnPost.modes.1 (fn_sound (kitOk_of eqOk mixed known25) (by kernel_rfl) inner ((lex_fits_E _).trans hr) ?_)
    intro i qs he
    unfold lex_fits_enc at he
    split at he <;> cases he <;> (cases hd; exact ⟨rfl, rfl⟩)
  · cases h

noncomputable def ms26 : List (FuncId × Mode U) := (18, lex_fits_md) :: ms25

theorem known26 : Known kk env0 (modesOf ms26) := known_cons (by kernel_rfl) lex_fits_post known25

noncomputable def lex_Join_sh6 : StSh := ⟨⟨[5, 40, 41, 42], [], [⟨.slot 5, 5, 9, .str⟩]⟩, [.oslc 5, .t (.slc (.st 31)), .t (.int .i64), .t (.int .i64)], [.row 9 .str]⟩

noncomputable def lex_Join_o6 : List Out := [⟨.ret, ⟨⟨[2, 3], [], []⟩, [.t .str, .t (.int .i64)], []⟩⟩, ⟨.exit 0, ⟨⟨[5], [], [⟨.slot 5, 5, 9, .str⟩]⟩, [.oslc 5], [.row 9 .str]⟩⟩]

noncomputable def lex_Join_b6 : Code := (nthLoop (bodyOf Tryz.f10) 0)

noncomputable def lex_Join_L6 : Nat → Option (Lift.Loop U) := fun n => none

noncomputable def lex_Join_rec6 (rec : List (Token) → Int → Int → List (List UInt8) → Option (((List UInt8) × Int) ⊕ ((List (List UInt8))))) : List (TV U) → Option (((List UInt8) × Int) ⊕ ((List (List UInt8))))
  | [⟨(.slc (.st 31)), a0⟩, ⟨(.int .i64), a1⟩, ⟨(.int .i64), a2⟩, ⟨(.slc .str), a3⟩] => rec a0 a1 a2 a3
  | _ => none

noncomputable def lex_Join_enc6 : Nat → List (TV U) → Option (((List UInt8) × Int) ⊕ ((List (List UInt8))))
  | 0, [⟨.str, a0⟩, ⟨(.int .i64), a1⟩] => some (.inl (a0, a1))
  | 1, [⟨(.slc .str), a0⟩] => some (.inr a0)
  | _, _ => none

noncomputable def lex_Join_dec6 : ((List UInt8) × Int) ⊕ ((List (List UInt8))) → Nat × List (TV U) := fun r => match r with | (.inl x) => (0, [⟨.str, x.1⟩, ⟨(.int .i64), x.2⟩]) | (.inr x) => (1, [⟨(.slc .str), x⟩])

noncomputable def lex_Join_tr6 : ((List UInt8) × Int) ⊕ ((List (List UInt8))) → Tr (Nat × List (TV U)) := fun r => .alt r (fun x => .ret (0, [⟨.str, x.1⟩, ⟨(.int .i64), x.2⟩])) (fun y => (fun x => .ret (1, [⟨(.slc .str), x⟩])) y)

noncomputable def lex_Join_lp6 : Lift.Loop U := ⟨lex_Join_sh6, lex_Join_o6, fun ls => match ls with | [⟨(.slc (.st 31)), a0⟩, ⟨(.int .i64), a1⟩, ⟨(.int .i64), a2⟩, ⟨(.slc .str), a3⟩] => .get (lex_Join_l6 a0 a1 a2 a3) lex_Join_tr6 | _ => .fail⟩

theorem lex_Join_E6 (rec : List (Token) → Int → Int → List (List UInt8) → Option (((List UInt8) × Int) ⊕ ((List (List UInt8))))) (a0 : List (Token)) (a1 : Int) (a2 : Int) (a3 : List (List UInt8)) : (Kit.withModes kk (modesOf ms26)).turn Tryz.f10.ntmps lex_Join_L6 lex_Join_sh6 lex_Join_o6 lex_Join_b6 [⟨(.slc (.st 31)), a0⟩, ⟨(.int .i64), a1⟩, ⟨(.int .i64), a2⟩, ⟨(.slc .str), a3⟩] (lex_Join_rec6 rec) lex_Join_enc6 = lex_Join_t6 rec a0 a1 a2 a3 := by kernel_rfl

theorem lex_Join_ok6 : ∀ ls j rs, (lex_Join_lp6.sum ls).val = some (j, rs) → RoundPost kk env0 Tryz.f10.ntmps lex_Join_b6 lex_Join_lp6.sh lex_Join_lp6.outs ls j rs := by
  have inner : LoopsOk (Kit.withModes kk (modesOf ms26)) env0 Tryz.f10.ntmps lex_Join_L6 lex_Join_b6 := by
    exact loopsOk_of (bs := []) (by kernel_rfl) trivial
  have key : ∀ n a0 a1 a2 a3 r j rs, lex_Join_i6 n a0 a1 a2 a3 = some r → lex_Join_dec6 r = (j, rs) → RoundPost kk env0 Tryz.f10.ntmps lex_Join_b6 lex_Join_sh6 lex_Join_o6 [⟨(.slc (.st 31)), a0⟩, ⟨(.int .i64), a1⟩, ⟨(.int .i64), a2⟩, ⟨(.slc .str), a3⟩] j rs := by
    intro n
    induction n with
    | zero => intro a0 a1 a2 a3 r j rs h; cases h
    | succ n ih =>
      intro a0 a1 a2 a3 r j rs h hd
      refine RoundPost.modes.1 (turn_sound (kitOk_of eqOk mixed known26) inner ((lex_Join_E6 (lex_Join_i6 n) a0 a1 a2 a3).trans h) (fun q hq => RoundPost.modes.2 ?_) ?_)
      · unfold lex_Join_rec6 at hq
        split at hq
        · exact ih _ _ _ _ r j rs hq hd
        · cases hq
      · intro i qs he
        unfold lex_Join_enc6 at he
        split at he <;> cases he <;> (cases hd; exact ⟨rfl, rfl⟩)
  intro ls j rs h
  simp only [lex_Join_lp6] at h
  split at h
  · obtain ⟨r, hr, h⟩ := Tr.get_val h
    rw [lex_Join_l6, sealF_eq] at hr
    refine key fuel _ _ _ _ r j rs hr ?_
    rcases r with r | r <;> exact Option.some.inj h
  · cases h

noncomputable def lex_Join_sh : StSh := ⟨⟨[0], [], []⟩, [.t (.slc (.st 31))], []⟩

noncomputable def lex_Join_os : List StSh := [⟨⟨[0, 1], [], []⟩, [.t .str, .t (.int .i64)], []⟩]

noncomputable def lex_Join_L : Nat → Option (Lift.Loop U) := fun n => bif Nat.beq n 6 then some lex_Join_lp6 else none

noncomputable def lex_Join_enc : Nat → List (TV U) → Option ((List UInt8) × Int)
  | 0, [⟨.str, a0⟩, ⟨(.int .i64), a1⟩] => some (a0, a1)
  | _, _ => none

noncomputable def lex_Join_dec : (List UInt8) × Int → Nat × List (TV U) := fun x => (0, [⟨.str, x.1⟩, ⟨(.int .i64), x.2⟩])

noncomputable def lex_Join_tr : (List UInt8) × Int → Tr (Nat × List (TV U)) := fun r => (fun x => .ret (0, [⟨.str, x.1⟩, ⟨(.int .i64), x.2⟩])) r

noncomputable def lex_Join_md : Mode U := ⟨lex_Join_sh, [], lex_Join_os, fun ls => match ls with | [⟨(.slc (.st 31)), a0⟩] => .get (lex_Join a0) lex_Join_tr | _ => .fail⟩

theorem lex_Join_E (a0 : List (Token)) : (Kit.withModes kk (modesOf ms26)).fnEval lex_Join_L Tryz.f10 lex_Join_sh lex_Join_os [⟨(.slc (.st 31)), a0⟩] lex_Join_enc = lex_Join_f a0 := by kernel_rfl

theorem lex_Join_post : ∀ ls j rs, (lex_Join_md.sum ls).val = some (j, rs) → FnPost kk env0 10 lex_Join_sh lex_Join_os ls j rs := by
  have inner : LoopsOk (Kit.withModes kk (modesOf ms26)) env0 Tryz.f10.ntmps lex_Join_L (bodyOf Tryz.f10) := by
    exact loopsOk_of (bs := [lex_Join_b6]) (by kernel_rfl) ⟨.inr ⟨_, by kernel_rfl, LoopOk.of_round lex_Join_ok6⟩, trivial⟩
  intro ls j rs h
  simp only [lex_Join_md] at h
  split at h
  · obtain ⟨r, hr, h⟩ := Tr.get_val h
    rw [lex_Join, sealF_eq] at hr
    have hd : lex_Join_dec r = (j, rs) := by
      exact Option.some.inj h
    refine FnPost.modes.1 (fn_sound (kitOk_of eqOk mixed known26) (by kernel_rfl) inner ((lex_Join_E _).trans hr) ?_)
    intro i qs he
    unfold lex_Join_enc at he
    split at he <;> cases he <;> (cases hd; exact ⟨rfl, rfl⟩)
  · cases h

noncomputable def ms27 : List (FuncId × Mode U) := (10, lex_Join_md) :: ms26

theorem known27 : Known kk env0 (modesOf ms27) := known_cons (by kernel_rfl) lex_Join_post known26

noncomputable def racetreelaw02_shown_sh : StSh := ⟨⟨[], [], []⟩, [], []⟩

noncomputable def racetreelaw02_shown_os : List StSh := [⟨⟨[0], [], []⟩, [.t .bool], []⟩]

noncomputable def racetreelaw02_shown_L : Nat → Option (Lift.Loop U) := fun n => none

noncomputable def racetreelaw02_shown_enc : Nat → List (TV U) → Option (Bool)
  | 0, [⟨.bool, a0⟩] => some a0
  | _, _ => none

noncomputable def racetreelaw02_shown_dec : Bool → Nat × List (TV U) := fun x => (0, [⟨.bool, x⟩])

noncomputable def racetreelaw02_shown_tr : Bool → Tr (Nat × List (TV U)) := fun r => (fun x => .ret (0, [⟨.bool, x⟩])) r

noncomputable def racetreelaw02_shown_md : Mode U := ⟨racetreelaw02_shown_sh, [], racetreelaw02_shown_os, fun ls => match ls with | [] => .get (racetreelaw02_shown) racetreelaw02_shown_tr | _ => .fail⟩

theorem racetreelaw02_shown_E : (Kit.withModes kk (modesOf ms27)).fnEval racetreelaw02_shown_L Tryz.f5 racetreelaw02_shown_sh racetreelaw02_shown_os [] racetreelaw02_shown_enc = racetreelaw02_shown_f := by kernel_rfl

theorem racetreelaw02_shown_post : ∀ ls j rs, (racetreelaw02_shown_md.sum ls).val = some (j, rs) → FnPost kk env0 5 racetreelaw02_shown_sh racetreelaw02_shown_os ls j rs := by
  have inner : LoopsOk (Kit.withModes kk (modesOf ms27)) env0 Tryz.f5.ntmps racetreelaw02_shown_L (bodyOf Tryz.f5) := by
    exact loopsOk_of (bs := []) (by kernel_rfl) trivial
  intro ls j rs h
  simp only [racetreelaw02_shown_md] at h
  split at h
  · obtain ⟨r, hr, h⟩ := Tr.get_val h
    rw [racetreelaw02_shown, sealF_eq] at hr
    have hd : racetreelaw02_shown_dec r = (j, rs) := by
      exact Option.some.inj h
    refine FnPost.modes.1 (fn_sound (kitOk_of eqOk mixed known27) (by kernel_rfl) inner ((racetreelaw02_shown_E).trans hr) ?_)
    intro i qs he
    unfold racetreelaw02_shown_enc at he
    split at he <;> cases he <;> (cases hd; exact ⟨rfl, rfl⟩)
  · cases h

noncomputable def ms28 : List (FuncId × Mode U) := (5, racetreelaw02_shown_md) :: ms27

theorem known28 : Known kk env0 (modesOf ms28) := known_cons (by kernel_rfl) racetreelaw02_shown_post known27

noncomputable def racetreeref01_IsRune_sh : StSh := ⟨⟨[0], [], []⟩, [.t (.int .i64)], []⟩

noncomputable def racetreeref01_IsRune_os : List StSh := [⟨⟨[0], [], []⟩, [.t .bool], []⟩]

noncomputable def racetreeref01_IsRune_L : Nat → Option (Lift.Loop U) := fun n => none

noncomputable def racetreeref01_IsRune_enc : Nat → List (TV U) → Option (Bool)
  | 0, [⟨.bool, a0⟩] => some a0
  | _, _ => none

noncomputable def racetreeref01_IsRune_dec : Bool → Nat × List (TV U) := fun x => (0, [⟨.bool, x⟩])

noncomputable def racetreeref01_IsRune_tr : Bool → Tr (Nat × List (TV U)) := fun r => (fun x => .ret (0, [⟨.bool, x⟩])) r

noncomputable def racetreeref01_IsRune_md : Mode U := ⟨racetreeref01_IsRune_sh, [], racetreeref01_IsRune_os, fun ls => match ls with | [⟨(.int .i64), a0⟩] => .get (racetreeref01_IsRune a0) racetreeref01_IsRune_tr | _ => .fail⟩

theorem racetreeref01_IsRune_E (a0 : Int) : (Kit.withModes kk (modesOf ms28)).fnEval racetreeref01_IsRune_L Tryz.f46 racetreeref01_IsRune_sh racetreeref01_IsRune_os [⟨(.int .i64), a0⟩] racetreeref01_IsRune_enc = racetreeref01_IsRune_f a0 := by kernel_rfl

theorem racetreeref01_IsRune_post : ∀ ls j rs, (racetreeref01_IsRune_md.sum ls).val = some (j, rs) → FnPost kk env0 46 racetreeref01_IsRune_sh racetreeref01_IsRune_os ls j rs := by
  have inner : LoopsOk (Kit.withModes kk (modesOf ms28)) env0 Tryz.f46.ntmps racetreeref01_IsRune_L (bodyOf Tryz.f46) := by
    exact loopsOk_of (bs := []) (by kernel_rfl) trivial
  intro ls j rs h
  simp only [racetreeref01_IsRune_md] at h
  split at h
  · obtain ⟨r, hr, h⟩ := Tr.get_val h
    rw [racetreeref01_IsRune, sealF_eq] at hr
    have hd : racetreeref01_IsRune_dec r = (j, rs) := by
      exact Option.some.inj h
    refine FnPost.modes.1 (fn_sound (kitOk_of eqOk mixed known28) (by kernel_rfl) inner ((racetreeref01_IsRune_E _).trans hr) ?_)
    intro i qs he
    unfold racetreeref01_IsRune_enc at he
    split at he <;> cases he <;> (cases hd; exact ⟨rfl, rfl⟩)
  · cases h

noncomputable def ms29 : List (FuncId × Mode U) := (46, racetreeref01_IsRune_md) :: ms28

theorem known29 : Known kk env0 (modesOf ms29) := known_cons (by kernel_rfl) racetreeref01_IsRune_post known28

noncomputable def racetreeref01_long_sh : StSh := ⟨⟨[0], [], []⟩, [.t (.int .i64)], []⟩

noncomputable def racetreeref01_long_os : List StSh := [⟨⟨[0], [], []⟩, [.t (.int .i64)], []⟩]

noncomputable def racetreeref01_long_L : Nat → Option (Lift.Loop U) := fun n => none

noncomputable def racetreeref01_long_enc : Nat → List (TV U) → Option (Int)
  | 0, [⟨(.int .i64), a0⟩] => some a0
  | _, _ => none

noncomputable def racetreeref01_long_dec : Int → Nat × List (TV U) := fun x => (0, [⟨(.int .i64), x⟩])

noncomputable def racetreeref01_long_tr : Int → Tr (Nat × List (TV U)) := fun r => (fun x => .ret (0, [⟨(.int .i64), x⟩])) r

noncomputable def racetreeref01_long_md : Mode U := ⟨racetreeref01_long_sh, [], racetreeref01_long_os, fun ls => match ls with | [⟨(.int .i64), a0⟩] => .get (racetreeref01_long a0) racetreeref01_long_tr | _ => .fail⟩

theorem racetreeref01_long_E (a0 : Int) : (Kit.withModes kk (modesOf ms29)).fnEval racetreeref01_long_L Tryz.f58 racetreeref01_long_sh racetreeref01_long_os [⟨(.int .i64), a0⟩] racetreeref01_long_enc = racetreeref01_long_f a0 := by kernel_rfl

theorem racetreeref01_long_post : ∀ ls j rs, (racetreeref01_long_md.sum ls).val = some (j, rs) → FnPost kk env0 58 racetreeref01_long_sh racetreeref01_long_os ls j rs := by
  have inner : LoopsOk (Kit.withModes kk (modesOf ms29)) env0 Tryz.f58.ntmps racetreeref01_long_L (bodyOf Tryz.f58) := by
    exact loopsOk_of (bs := []) (by kernel_rfl) trivial
  intro ls j rs h
  simp only [racetreeref01_long_md] at h
  split at h
  · obtain ⟨r, hr, h⟩ := Tr.get_val h
    rw [racetreeref01_long, sealF_eq] at hr
    have hd : racetreeref01_long_dec r = (j, rs) := by
      exact Option.some.inj h
    refine FnPost.modes.1 (fn_sound (kitOk_of eqOk mixed known29) (by kernel_rfl) inner ((racetreeref01_long_E _).trans hr) ?_)
    intro i qs he
    unfold racetreeref01_long_enc at he
    split at he <;> cases he <;> (cases hd; exact ⟨rfl, rfl⟩)
  · cases h

noncomputable def ms30 : List (FuncId × Mode U) := (58, racetreeref01_long_md) :: ms29

theorem known30 : Known kk env0 (modesOf ms30) := known_cons (by kernel_rfl) racetreeref01_long_post known29

noncomputable def racetreeref01_At_sh18 : StSh := ⟨⟨[0, 1, 7, 8, 9], [], []⟩, [.t .str, .t (.int .i64), .t (.int .i64), .t (.int .i64), .t (.int .i64)], []⟩

noncomputable def racetreeref01_At_o18 : List Out := [⟨.ret, ⟨⟨[4, 5], [], []⟩, [.t (.int .i64), .t (.int .i64)], []⟩⟩, ⟨.exit 1, ⟨⟨[7, 8], [], []⟩, [.t (.int .i64), .t (.int .i64)], []⟩⟩]

noncomputable def racetreeref01_At_b18 : Code := (nthLoop (bodyOf Tryz.f44) 0)

noncomputable def racetreeref01_At_L18 : Nat → Option (Lift.Loop U) := fun n => none

noncomputable def racetreeref01_At_rec18 (rec : List UInt8 → Int → Int → Int → Int → Option ((Int × Int) ⊕ (Int × Int))) : List (TV U) → Option ((Int × Int) ⊕ (Int × Int))
  | [⟨.str, a0⟩, ⟨(.int .i64), a1⟩, ⟨(.int .i64), a2⟩, ⟨(.int .i64), a3⟩, ⟨(.int .i64), a4⟩] => rec a0 a1 a2 a3 a4
  | _ => none

noncomputable def racetreeref01_At_enc18 : Nat → List (TV U) → Option ((Int × Int) ⊕ (Int × Int))
  | 0, [⟨(.int .i64), a0⟩, ⟨(.int .i64), a1⟩] => some (.inl (a0, a1))
  | 1, [⟨(.int .i64), a0⟩, ⟨(.int .i64), a1⟩] => some (.inr (a0, a1))
  | _, _ => none

noncomputable def racetreeref01_At_dec18 : (Int × Int) ⊕ (Int × Int) → Nat × List (TV U) := fun r => match r with | (.inl x) => (0, [⟨(.int .i64), x.1⟩, ⟨(.int .i64), x.2⟩]) | (.inr x) => (1, [⟨(.int .i64), x.1⟩, ⟨(.int .i64), x.2⟩])

noncomputable def racetreeref01_At_tr18 : (Int × Int) ⊕ (Int × Int) → Tr (Nat × List (TV U)) := fun r => .alt r (fun x => .ret (0, [⟨(.int .i64), x.1⟩, ⟨(.int .i64), x.2⟩])) (fun y => (fun x => .ret (1, [⟨(.int .i64), x.1⟩, ⟨(.int .i64), x.2⟩])) y)

noncomputable def racetreeref01_At_lp18 : Lift.Loop U := ⟨racetreeref01_At_sh18, racetreeref01_At_o18, fun ls => match ls with | [⟨.str, a0⟩, ⟨(.int .i64), a1⟩, ⟨(.int .i64), a2⟩, ⟨(.int .i64), a3⟩, ⟨(.int .i64), a4⟩] => .get (racetreeref01_At_l18 a0 a1 a2 a3 a4) racetreeref01_At_tr18 | _ => .fail⟩

theorem racetreeref01_At_E18 (rec : List UInt8 → Int → Int → Int → Int → Option ((Int × Int) ⊕ (Int × Int))) (a0 : List UInt8) (a1 : Int) (a2 : Int) (a3 : Int) (a4 : Int) : (Kit.withModes kk (modesOf ms30)).turn Tryz.f44.ntmps racetreeref01_At_L18 racetreeref01_At_sh18 racetreeref01_At_o18 racetreeref01_At_b18 [⟨.str, a0⟩, ⟨(.int .i64), a1⟩, ⟨(.int .i64), a2⟩, ⟨(.int .i64), a3⟩, ⟨(.int .i64), a4⟩] (racetreeref01_At_rec18 rec) racetreeref01_At_enc18 = racetreeref01_At_t18 rec a0 a1 a2 a3 a4 := by kernel_rfl

theorem racetreeref01_At_ok18 : ∀ ls j rs, (racetreeref01_At_lp18.sum ls).val = some (j, rs) → RoundPost kk env0 Tryz.f44.ntmps racetreeref01_At_b18 racetreeref01_At_lp18.sh racetreeref01_At_lp18.outs ls j rs := by
  have inner : LoopsOk (Kit.withModes kk (modesOf ms30)) env0 Tryz.f44.ntmps racetreeref01_At_L18 racetreeref01_At_b18 := by
    exact loopsOk_of (bs := []) (by kernel_rfl) trivial
  have key : ∀ n a0 a1 a2 a3 a4 r j rs, racetreeref01_At_i18 n a0 a1 a2 a3 a4 = some r → racetreeref01_At_dec18 r = (j, rs) → RoundPost kk env0 Tryz.f44.ntmps racetreeref01_At_b18 racetreeref01_At_sh18 racetreeref01_At_o18 [⟨.str, a0⟩, ⟨(.int .i64), a1⟩, ⟨(.int .i64), a2⟩, ⟨(.int .i64), a3⟩, ⟨(.int .i64), a4⟩] j rs := by
    intro n
    induction n with
    | zero => intro a0 a1 a2 a3 a4 r j rs h; cases h
    | succ n ih =>
      intro a0 a1 a2 a3 a4 r j rs h hd
      refine RoundPost.modes.1 (turn_sound (kitOk_of eqOk mixed known30) inner ((racetreeref01_At_E18 (racetreeref01_At_i18 n) a0 a1 a2 a3 a4).trans h) (fun q hq => RoundPost.modes.2 ?_) ?_)
      · unfold racetreeref01_At_rec18 at hq
        split at hq
        · exact ih _ _ _ _ _ r j rs hq hd
        · cases hq
      · intro i qs he
        unfold racetreeref01_At_enc18 at he
        split at he <;> cases he <;> (cases hd; exact ⟨rfl, rfl⟩)
  intro ls j rs h
  simp only [racetreeref01_At_lp18] at h
  split at h
  · obtain ⟨r, hr, h⟩ := Tr.get_val h
    rw [racetreeref01_At_l18, sealF_eq] at hr
    refine key fuel _ _ _ _ _ r j rs hr ?_
    rcases r with r | r <;> exact Option.some.inj h
  · cases h

noncomputable def racetreeref01_At_sh : StSh := ⟨⟨[0, 1], [], []⟩, [.t .str, .t (.int .i64)], []⟩

noncomputable def racetreeref01_At_os : List StSh := [⟨⟨[0, 1], [], []⟩, [.t (.int .i64), .t (.int .i64)], []⟩]

noncomputable def racetreeref01_At_L : Nat → Option (Lift.Loop U) := fun n => bif Nat.beq n 18 then some racetreeref01_At_lp18 else none

noncomputable def racetreeref01_At_enc : Nat → List (TV U) → Option (Int × Int)
  | 0, [⟨(.int .i64), a0⟩, ⟨(.int .i64), a1⟩] => some (a0, a1)
  | _, _ => none

noncomputable def racetreeref01_At_dec : Int × Int → Nat × List (TV U) := fun x => (0, [⟨(.int .i64), x.1⟩, ⟨(.int .i64), x.2⟩])

noncomputable def racetreeref01_At_tr : Int × Int → Tr (Nat × List (TV U)) := fun r => (fun x => .ret (0, [⟨(.int .i64), x.1⟩, ⟨(.int .i64), x.2⟩])) r

noncomputable def racetreeref01_At_md : Mode U := ⟨racetreeref01_At_sh, [], racetreeref01_At_os, fun ls => match ls with | [⟨.str, a0⟩, ⟨(.int .i64), a1⟩] => .get (racetreeref01_At a0 a1) racetreeref01_At_tr | _ => .fail⟩

theorem racetreeref01_At_E (a0 : List UInt8) (a1 : Int) : (Kit.withModes kk (modesOf ms30)).fnEval racetreeref01_At_L Tryz.f44 racetreeref01_At_sh racetreeref01_At_os [⟨.str, a0⟩, ⟨(.int .i64), a1⟩] racetreeref01_At_enc = racetreeref01_At_f a0 a1 := by kernel_rfl

theorem racetreeref01_At_post : ∀ ls j rs, (racetreeref01_At_md.sum ls).val = some (j, rs) → FnPost kk env0 44 racetreeref01_At_sh racetreeref01_At_os ls j rs := by
  have inner : LoopsOk (Kit.withModes kk (modesOf ms30)) env0 Tryz.f44.ntmps racetreeref01_At_L (bodyOf Tryz.f44) := by
    exact loopsOk_of (bs := [racetreeref01_At_b18]) (by kernel_rfl) ⟨.inr ⟨_, by kernel_rfl, LoopOk.of_round racetreeref01_At_ok18⟩, trivial⟩
  intro ls j rs h
  simp only [racetreeref01_At_md] at h
  split at h
  · obtain ⟨r, hr, h⟩ := Tr.get_val h
    rw [racetreeref01_At, sealF_eq] at hr
    have hd : racetreeref01_At_dec r = (j, rs) := by
      exact Option.some.inj h
    refine FnPost.modes.1 (fn_sound (kitOk_of eqOk mixed known30) (by kernel_rfl) inner ((racetreeref01_At_E _ _).trans hr) ?_)
    intro i qs he
    unfold racetreeref01_At_enc at he
    split at he <;> cases he <;> (cases hd; exact ⟨rfl, rfl⟩)
  · cases h

noncomputable def ms31 : List (FuncId × Mode U) := (44, racetreeref01_At_md) :: ms30

theorem known31 : Known kk env0 (modesOf ms31) := known_cons (by kernel_rfl) racetreeref01_At_post known30

noncomputable def racetreeref01_on_sh : StSh := ⟨⟨[0, 1, 2], [], []⟩, [.t (.st 41), .t (.int .i64), .t (.int .i64)], []⟩

noncomputable def racetreeref01_on_os : List StSh := [⟨⟨[0], [], []⟩, [.t (.st 41)], []⟩]

noncomputable def racetreeref01_on_L : Nat → Option (Lift.Loop U) := fun n => none

noncomputable def racetreeref01_on_enc : Nat → List (TV U) → Option (Spot)
  | 0, [⟨(.st 41), a0⟩] => some a0
  | _, _ => none

noncomputable def racetreeref01_on_dec : Spot → Nat × List (TV U) := fun x => (0, [⟨(.st 41), x⟩])

noncomputable def racetreeref01_on_tr : Spot → Tr (Nat × List (TV U)) := fun r => (fun x => .ret (0, [⟨(.st 41), x⟩])) r

noncomputable def racetreeref01_on_md : Mode U := ⟨racetreeref01_on_sh, [], racetreeref01_on_os, fun ls => match ls with | [⟨(.st 41), a0⟩, ⟨(.int .i64), a1⟩, ⟨(.int .i64), a2⟩] => .get (racetreeref01_on a0 a1 a2) racetreeref01_on_tr | _ => .fail⟩

theorem racetreeref01_on_E (a0 : Spot) (a1 : Int) (a2 : Int) : (Kit.withModes kk (modesOf ms31)).fnEval racetreeref01_on_L Tryz.f45 racetreeref01_on_sh racetreeref01_on_os [⟨(.st 41), a0⟩, ⟨(.int .i64), a1⟩, ⟨(.int .i64), a2⟩] racetreeref01_on_enc = racetreeref01_on_f a0 a1 a2 := by kernel_rfl

theorem racetreeref01_on_post : ∀ ls j rs, (racetreeref01_on_md.sum ls).val = some (j, rs) → FnPost kk env0 45 racetreeref01_on_sh racetreeref01_on_os ls j rs := by
  have inner : LoopsOk (Kit.withModes kk (modesOf ms31)) env0 Tryz.f45.ntmps racetreeref01_on_L (bodyOf Tryz.f45) := by
    exact loopsOk_of (bs := []) (by kernel_rfl) trivial
  intro ls j rs h
  simp only [racetreeref01_on_md] at h
  split at h
  · obtain ⟨r, hr, h⟩ := Tr.get_val h
    rw [racetreeref01_on, sealF_eq] at hr
    have hd : racetreeref01_on_dec r = (j, rs) := by
      exact Option.some.inj h
    refine FnPost.modes.1 (fn_sound (kitOk_of eqOk mixed known31) (by kernel_rfl) inner ((racetreeref01_on_E _ _ _).trans hr) ?_)
    intro i qs he
    unfold racetreeref01_on_enc at he
    split at he <;> cases he <;> (cases hd; exact ⟨rfl, rfl⟩)
  · cases h

noncomputable def ms32 : List (FuncId × Mode U) := (45, racetreeref01_on_md) :: ms31

theorem known32 : Known kk env0 (modesOf ms32) := known_cons (by kernel_rfl) racetreeref01_on_post known31

noncomputable def racetreeref01_spots_sh3 : StSh := ⟨⟨[0, 3, 4, 5], [3, 5], [⟨.slot 4, 4, 41, (.st 41)⟩]⟩, [.t .str, .ptr 3 0, .oslc 4, .ptr 5 0], [.blk [.t (.int .i64), .t (.int .i64), .t (.int .i64), .t (.int .i64)], .blk [.t (.int .i64), .t (.int .i64), .t (.int .i64), .t (.int .i64)], .row 41 (.st 41)]⟩

noncomputable def racetreeref01_spots_o3 : List Out := [⟨.exit 0, ⟨⟨[3, 4, 5], [3, 5], [⟨.slot 4, 4, 41, (.st 41)⟩]⟩, [.ptr 3 0, .oslc 4, .ptr 5 0], [.blk [.t (.int .i64), .t (.int .i64), .t (.int .i64), .t (.int .i64)], .blk [.t (.int .i64), .t (.int .i64), .t (.int .i64), .t (.int .i64)], .row 41 (.st 41)]⟩⟩]

noncomputable def racetreeref01_spots_b3 : Code := (nthLoop (bodyOf Tryz.f20) 0)

noncomputable def racetreeref01_spots_L3 : Nat → Option (Lift.Loop U) := fun n => none

noncomputable def racetreeref01_spots_rec3 (rec : List UInt8 → Int → Int → Int → Int → Int → Int → Int → Int → List (Spot) → Option (Int × Int × Int × Int × Int × Int × Int × Int × (List (Spot)))) : List (TV U) → Option (Int × Int × Int × Int × Int × Int × Int × Int × (List (Spot)))
  | [⟨.str, a0⟩, ⟨(.int .i64), a1⟩, ⟨(.int .i64), a2⟩, ⟨(.int .i64), a3⟩, ⟨(.int .i64), a4⟩, ⟨(.int .i64), a5⟩, ⟨(.int .i64), a6⟩, ⟨(.int .i64), a7⟩, ⟨(.int .i64), a8⟩, ⟨(.slc (.st 41)), a9⟩] => rec a0 a1 a2 a3 a4 a5 a6 a7 a8 a9
  | _ => none

noncomputable def racetreeref01_spots_enc3 : Nat → List (TV U) → Option (Int × Int × Int × Int × Int × Int × Int × Int × (List (Spot)))
  | 0, [⟨(.int .i64), a0⟩, ⟨(.int .i64), a1⟩, ⟨(.int .i64), a2⟩, ⟨(.int .i64), a3⟩, ⟨(.int .i64), a4⟩, ⟨(.int .i64), a5⟩, ⟨(.int .i64), a6⟩, ⟨(.int .i64), a7⟩, ⟨(.slc (.st 41)), a8⟩] => some (a0, a1, a2, a3, a4, a5, a6, a7, a8)
  | _, _ => none

noncomputable def racetreeref01_spots_dec3 : Int × Int × Int × Int × Int × Int × Int × Int × (List (Spot)) → Nat × List (TV U) := fun x => (0, [⟨(.int .i64), x.1⟩, ⟨(.int .i64), x.2.1⟩, ⟨(.int .i64), x.2.2.1⟩, ⟨(.int .i64), x.2.2.2.1⟩, ⟨(.int .i64), x.2.2.2.2.1⟩, ⟨(.int .i64), x.2.2.2.2.2.1⟩, ⟨(.int .i64), x.2.2.2.2.2.2.1⟩, ⟨(.int .i64), x.2.2.2.2.2.2.2.1⟩, ⟨(.slc (.st 41)), x.2.2.2.2.2.2.2.2⟩])

noncomputable def racetreeref01_spots_tr3 : Int × Int × Int × Int × Int × Int × Int × Int × (List (Spot)) → Tr (Nat × List (TV U)) := fun r => (fun x => .ret (0, [⟨(.int .i64), x.1⟩, ⟨(.int .i64), x.2.1⟩, ⟨(.int .i64), x.2.2.1⟩, ⟨(.int .i64), x.2.2.2.1⟩, ⟨(.int .i64), x.2.2.2.2.1⟩, ⟨(.int .i64), x.2.2.2.2.2.1⟩, ⟨(.int .i64), x.2.2.2.2.2.2.1⟩, ⟨(.int .i64), x.2.2.2.2.2.2.2.1⟩, ⟨(.slc (.st 41)), x.2.2.2.2.2.2.2.2⟩])) r

noncomputable def racetreeref01_spots_lp3 : Lift.Loop U := ⟨racetreeref01_spots_sh3, racetreeref01_spots_o3, fun ls => match ls with | [⟨.str, a0⟩, ⟨(.int .i64), a1⟩, ⟨(.int .i64), a2⟩, ⟨(.int .i64), a3⟩, ⟨(.int .i64), a4⟩, ⟨(.int .i64), a5⟩, ⟨(.int .i64), a6⟩, ⟨(.int .i64), a7⟩, ⟨(.int .i64), a8⟩, ⟨(.slc (.st 41)), a9⟩] => .get (racetreeref01_spots_l3 a0 a1 a2 a3 a4 a5 a6 a7 a8 a9) racetreeref01_spots_tr3 | _ => .fail⟩

theorem racetreeref01_spots_E3 (rec : List UInt8 → Int → Int → Int → Int → Int → Int → Int → Int → List (Spot) → Option (Int × Int × Int × Int × Int × Int × Int × Int × (List (Spot)))) (a0 : List UInt8) (a1 : Int) (a2 : Int) (a3 : Int) (a4 : Int) (a5 : Int) (a6 : Int) (a7 : Int) (a8 : Int) (a9 : List (Spot)) : (Kit.withModes kk (modesOf ms32)).turn Tryz.f20.ntmps racetreeref01_spots_L3 racetreeref01_spots_sh3 racetreeref01_spots_o3 racetreeref01_spots_b3 [⟨.str, a0⟩, ⟨(.int .i64), a1⟩, ⟨(.int .i64), a2⟩, ⟨(.int .i64), a3⟩, ⟨(.int .i64), a4⟩, ⟨(.int .i64), a5⟩, ⟨(.int .i64), a6⟩, ⟨(.int .i64), a7⟩, ⟨(.int .i64), a8⟩, ⟨(.slc (.st 41)), a9⟩] (racetreeref01_spots_rec3 rec) racetreeref01_spots_enc3 = racetreeref01_spots_t3 rec a0 a1 a2 a3 a4 a5 a6 a7 a8 a9 := by kernel_rfl

theorem racetreeref01_spots_ok3 : ∀ ls j rs, (racetreeref01_spots_lp3.sum ls).val = some (j, rs) → RoundPost kk env0 Tryz.f20.ntmps racetreeref01_spots_b3 racetreeref01_spots_lp3.sh racetreeref01_spots_lp3.outs ls j rs := by
  have inner : LoopsOk (Kit.withModes kk (modesOf ms32)) env0 Tryz.f20.ntmps racetreeref01_spots_L3 racetreeref01_spots_b3 := by
    exact loopsOk_of (bs := []) (by kernel_rfl) trivial
  have key : ∀ n a0 a1 a2 a3 a4 a5 a6 a7 a8 a9 r j rs, racetreeref01_spots_i3 n a0 a1 a2 a3 a4 a5 a6 a7 a8 a9 = some r → racetreeref01_spots_dec3 r = (j, rs) → RoundPost kk env0 Tryz.f20.ntmps racetreeref01_spots_b3 racetreeref01_spots_sh3 racetreeref01_spots_o3 [⟨.str, a0⟩, ⟨(.int .i64), a1⟩, ⟨(.int .i64), a2⟩, ⟨(.int .i64), a3⟩, ⟨(.int .i64), a4⟩, ⟨(.int .i64), a5⟩, ⟨(.int .i64), a6⟩, ⟨(.int .i64), a7⟩, ⟨(.int .i64), a8⟩, ⟨(.slc (.st 41)), a9⟩] j rs := by
    intro n
    induction n with
    | zero => intro a0 a1 a2 a3 a4 a5 a6 a7 a8 a9 r j rs h; cases h
    | succ n ih =>
      intro a0 a1 a2 a3 a4 a5 a6 a7 a8 a9 r j rs h hd
      refine RoundPost.modes.1 (turn_sound (kitOk_of eqOk mixed known32) inner ((racetreeref01_spots_E3 (racetreeref01_spots_i3 n) a0 a1 a2 a3 a4 a5 a6 a7 a8 a9).trans h) (fun q hq => RoundPost.modes.2 ?_) ?_)
      · unfold racetreeref01_spots_rec3 at hq
        split at hq
        · exact ih _ _ _ _ _ _ _ _ _ _ r j rs hq hd
        · cases hq
      · intro i qs he
        unfold racetreeref01_spots_enc3 at he
        split at he <;> cases he <;> (cases hd; exact ⟨rfl, rfl⟩)
  intro ls j rs h
  simp only [racetreeref01_spots_lp3] at h
  split at h
  · obtain ⟨r, hr, h⟩ := Tr.get_val h
    rw [racetreeref01_spots_l3, sealF_eq] at hr
    refine key fuel _ _ _ _ _ _ _ _ _ _ r j rs hr ?_
    exact Option.some.inj h
  · cases h

noncomputable def racetreeref01_spots_sh : StSh := ⟨⟨[0], [], []⟩, [.t .str], []⟩

noncomputable def racetreeref01_spots_os : List StSh := [⟨⟨[0, 1], [], [⟨.slot 0, 100000, 41, (.st 41)⟩]⟩, [.oslc 100000, .t (.st 41)], [.row 41 (.st 41)]⟩]

noncomputable def racetreeref01_spots_L : Nat → Option (Lift.Loop U) := fun n => bif Nat.beq n 3 then some racetreeref01_spots_lp3 else none

noncomputable def racetreeref01_spots_enc : Nat → List (TV U) → Option (Spot × (List (Spot)))
  | 0, [⟨(.st 41), a0⟩, ⟨(.slc (.st 41)), a1⟩] => some (a0, a1)
  | _, _ => none

noncomputable def racetreeref01_spots_dec : Spot × (List (Spot)) → Nat × List (TV U) := fun x => (0, [⟨(.st 41), x.1⟩, ⟨(.slc (.st 41)), x.2⟩])

noncomputable def racetreeref01_spots_tr : Spot × (List (Spot)) → Tr (Nat × List (TV U)) := fun r => (fun x => .ret (0, [⟨(.st 41), x.1⟩, ⟨(.slc (.st 41)), x.2⟩])) r

noncomputable def racetreeref01_spots_md : Mode U := ⟨racetreeref01_spots_sh, [], racetreeref01_spots_os, fun ls => match ls with | [⟨.str, a0⟩] => .get (racetreeref01_spots a0) racetreeref01_spots_tr | _ => .fail⟩

theorem racetreeref01_spots_E (a0 : List UInt8) : (Kit.withModes kk (modesOf ms32)).fnEval racetreeref01_spots_L Tryz.f20 racetreeref01_spots_sh racetreeref01_spots_os [⟨.str, a0⟩] racetreeref01_spots_enc = racetreeref01_spots_f a0 := by kernel_rfl

theorem racetreeref01_spots_post : ∀ ls j rs, (racetreeref01_spots_md.sum ls).val = some (j, rs) → FnPost kk env0 20 racetreeref01_spots_sh racetreeref01_spots_os ls j rs := by
  have inner : LoopsOk (Kit.withModes kk (modesOf ms32)) env0 Tryz.f20.ntmps racetreeref01_spots_L (bodyOf Tryz.f20) := by
    exact loopsOk_of (bs := [racetreeref01_spots_b3]) (by kernel_rfl) ⟨.inr ⟨_, by kernel_rfl, LoopOk.of_round racetreeref01_spots_ok3⟩, trivial⟩
  intro ls j rs h
  simp only [racetreeref01_spots_md] at h
  split at h
  · obtain ⟨r, hr, h⟩ := Tr.get_val h
    rw [racetreeref01_spots, sealF_eq] at hr
    have hd : racetreeref01_spots_dec r = (j, rs) := by
      exact Option.some.inj h
    refine FnPost.modes.1 (fn_sound (kitOk_of eqOk mixed known32) (by kernel_rfl) inner ((racetreeref01_spots_E _).trans hr) ?_)
    intro i qs he
    unfold racetreeref01_spots_enc at he
    split at he <;> cases he <;> (cases hd; exact ⟨rfl, rfl⟩)
  · cases h

noncomputable def ms33 : List (FuncId × Mode U) := (20, racetreeref01_spots_md) :: ms32

theorem known33 : Known kk env0 (modesOf ms33) := known_cons (by kernel_rfl) racetreeref01_spots_post known32

noncomputable def racetreeref01_Runes_sh : StSh := ⟨⟨[0], [], []⟩, [.t .str], []⟩

noncomputable def racetreeref01_Runes_os : List StSh := [⟨⟨[0, 1], [], [⟨.slot 0, 100000, 41, (.st 41)⟩]⟩, [.oslc 100000, .t (.st 26)], [.row 41 (.st 41)]⟩]

noncomputable def racetreeref01_Runes_L : Nat → Option (Lift.Loop U) := fun n => none

noncomputable def racetreeref01_Runes_enc : Nat → List (TV U) → Option (Fault × (List (Spot)))
  | 0, [⟨(.st 26), a0⟩, ⟨(.slc (.st 41)), a1⟩] => some (a0, a1)
  | _, _ => none

noncomputable def racetreeref01_Runes_dec : Fault × (List (Spot)) → Nat × List (TV U) := fun x => (0, [⟨(.st 26), x.1⟩, ⟨(.slc (.st 41)), x.2⟩])

noncomputable def racetreeref01_Runes_tr : Fault × (List (Spot)) → Tr (Nat × List (TV U)) := fun r => (fun x => .ret (0, [⟨(.st 26), x.1⟩, ⟨(.slc (.st 41)), x.2⟩])) r

noncomputable def racetreeref01_Runes_md : Mode U := ⟨racetreeref01_Runes_sh, [], racetreeref01_Runes_os, fun ls => match ls with | [⟨.str, a0⟩] => .get (racetreeref01_Runes a0) racetreeref01_Runes_tr | _ => .fail⟩

theorem racetreeref01_Runes_E (a0 : List UInt8) : (Kit.withModes kk (modesOf ms33)).fnEval racetreeref01_Runes_L Tryz.f11 racetreeref01_Runes_sh racetreeref01_Runes_os [⟨.str, a0⟩] racetreeref01_Runes_enc = racetreeref01_Runes_f a0 := by kernel_rfl

theorem racetreeref01_Runes_post : ∀ ls j rs, (racetreeref01_Runes_md.sum ls).val = some (j, rs) → FnPost kk env0 11 racetreeref01_Runes_sh racetreeref01_Runes_os ls j rs := by
  have inner : LoopsOk (Kit.withModes kk (modesOf ms33)) env0 Tryz.f11.ntmps racetreeref01_Runes_L (bodyOf Tryz.f11) := by
    exact loopsOk_of (bs := []) (by kernel_rfl) trivial
  intro ls j rs h
  simp only [racetreeref01_Runes_md] at h
  split at h
  · obtain ⟨r, hr, h⟩ := Tr.get_val h
    rw [racetreeref01_Runes, sealF_eq] at hr
    have hd : racetreeref01_Runes_dec r = (j, rs) := by
      exact Option.some.inj h
    refine FnPost.modes.1 (fn_sound (kitOk_of eqOk mixed known33) (by kernel_rfl) inner ((racetreeref01_Runes_E _).trans hr) ?_)
    intro i qs he
    unfold racetreeref01_Runes_enc at he
    split at he <;> cases he <;> (cases hd; exact ⟨rfl, rfl⟩)
  · cases h

noncomputable def ms34 : List (FuncId × Mode U) := (11, racetreeref01_Runes_md) :: ms33

theorem known34 : Known kk env0 (modesOf ms34) := known_cons (by kernel_rfl) racetreeref01_Runes_post known33

noncomputable def racetreeref01_Blank_sh : StSh := ⟨⟨[0], [], []⟩, [.t (.int .i64)], []⟩

noncomputable def racetreeref01_Blank_os : List StSh := [⟨⟨[0], [], []⟩, [.t .bool], []⟩]

noncomputable def racetreeref01_Blank_L : Nat → Option (Lift.Loop U) := fun n => none

noncomputable def racetreeref01_Blank_enc : Nat → List (TV U) → Option (Bool)
  | 0, [⟨.bool, a0⟩] => some a0
  | _, _ => none

noncomputable def racetreeref01_Blank_dec : Bool → Nat × List (TV U) := fun x => (0, [⟨.bool, x⟩])

noncomputable def racetreeref01_Blank_tr : Bool → Tr (Nat × List (TV U)) := fun r => (fun x => .ret (0, [⟨.bool, x⟩])) r

noncomputable def racetreeref01_Blank_md : Mode U := ⟨racetreeref01_Blank_sh, [], racetreeref01_Blank_os, fun ls => match ls with | [⟨(.int .i64), a0⟩] => .get (racetreeref01_Blank a0) racetreeref01_Blank_tr | _ => .fail⟩

theorem racetreeref01_Blank_E (a0 : Int) : (Kit.withModes kk (modesOf ms34)).fnEval racetreeref01_Blank_L Tryz.f12 racetreeref01_Blank_sh racetreeref01_Blank_os [⟨(.int .i64), a0⟩] racetreeref01_Blank_enc = racetreeref01_Blank_f a0 := by kernel_rfl

theorem racetreeref01_Blank_post : ∀ ls j rs, (racetreeref01_Blank_md.sum ls).val = some (j, rs) → FnPost kk env0 12 racetreeref01_Blank_sh racetreeref01_Blank_os ls j rs := by
  have inner : LoopsOk (Kit.withModes kk (modesOf ms34)) env0 Tryz.f12.ntmps racetreeref01_Blank_L (bodyOf Tryz.f12) := by
    exact loopsOk_of (bs := []) (by kernel_rfl) trivial
  intro ls j rs h
  simp only [racetreeref01_Blank_md] at h
  split at h
  · obtain ⟨r, hr, h⟩ := Tr.get_val h
    rw [racetreeref01_Blank, sealF_eq] at hr
    have hd : racetreeref01_Blank_dec r = (j, rs) := by
      exact Option.some.inj h
    refine FnPost.modes.1 (fn_sound (kitOk_of eqOk mixed known34) (by kernel_rfl) inner ((racetreeref01_Blank_E _).trans hr) ?_)
    intro i qs he
    unfold racetreeref01_Blank_enc at he
    split at he <;> cases he <;> (cases hd; exact ⟨rfl, rfl⟩)
  · cases h

noncomputable def ms35 : List (FuncId × Mode U) := (12, racetreeref01_Blank_md) :: ms34

theorem known35 : Known kk env0 (modesOf ms35) := known_cons (by kernel_rfl) racetreeref01_Blank_post known34

noncomputable def racetreeref01_Letter_sh : StSh := ⟨⟨[0], [], []⟩, [.t (.int .i64)], []⟩

noncomputable def racetreeref01_Letter_os : List StSh := [⟨⟨[0], [], []⟩, [.t .bool], []⟩]

noncomputable def racetreeref01_Letter_L : Nat → Option (Lift.Loop U) := fun n => none

noncomputable def racetreeref01_Letter_enc : Nat → List (TV U) → Option (Bool)
  | 0, [⟨.bool, a0⟩] => some a0
  | _, _ => none

noncomputable def racetreeref01_Letter_dec : Bool → Nat × List (TV U) := fun x => (0, [⟨.bool, x⟩])

noncomputable def racetreeref01_Letter_tr : Bool → Tr (Nat × List (TV U)) := fun r => (fun x => .ret (0, [⟨.bool, x⟩])) r

noncomputable def racetreeref01_Letter_md : Mode U := ⟨racetreeref01_Letter_sh, [], racetreeref01_Letter_os, fun ls => match ls with | [⟨(.int .i64), a0⟩] => .get (racetreeref01_Letter a0) racetreeref01_Letter_tr | _ => .fail⟩

theorem racetreeref01_Letter_E (a0 : Int) : (Kit.withModes kk (modesOf ms35)).fnEval racetreeref01_Letter_L Tryz.f21 racetreeref01_Letter_sh racetreeref01_Letter_os [⟨(.int .i64), a0⟩] racetreeref01_Letter_enc = racetreeref01_Letter_f a0 := by kernel_rfl

theorem racetreeref01_Letter_post : ∀ ls j rs, (racetreeref01_Letter_md.sum ls).val = some (j, rs) → FnPost kk env0 21 racetreeref01_Letter_sh racetreeref01_Letter_os ls j rs := by
  have inner : LoopsOk (Kit.withModes kk (modesOf ms35)) env0 Tryz.f21.ntmps racetreeref01_Letter_L (bodyOf Tryz.f21) := by
    exact loopsOk_of (bs := []) (by kernel_rfl) trivial
  intro ls j rs h
  simp only [racetreeref01_Letter_md] at h
  split at h
  · obtain ⟨r, hr, h⟩ := Tr.get_val h
    rw [racetreeref01_Letter, sealF_eq] at hr
    have hd : racetreeref01_Letter_dec r = (j, rs) := by
      exact Option.some.inj h
    refine FnPost.modes.1 (fn_sound (kitOk_of eqOk mixed known35) (by kernel_rfl) inner ((racetreeref01_Letter_E _).trans hr) ?_)
    intro i qs he
    unfold racetreeref01_Letter_enc at he
    split at he <;> cases he <;> (cases hd; exact ⟨rfl, rfl⟩)
  · cases h

noncomputable def ms36 : List (FuncId × Mode U) := (21, racetreeref01_Letter_md) :: ms35

theorem known36 : Known kk env0 (modesOf ms36) := known_cons (by kernel_rfl) racetreeref01_Letter_post known35

noncomputable def racetreeref01_Digit_sh : StSh := ⟨⟨[0], [], []⟩, [.t (.int .i64)], []⟩

noncomputable def racetreeref01_Digit_os : List StSh := [⟨⟨[0], [], []⟩, [.t .bool], []⟩]

noncomputable def racetreeref01_Digit_L : Nat → Option (Lift.Loop U) := fun n => none

noncomputable def racetreeref01_Digit_enc : Nat → List (TV U) → Option (Bool)
  | 0, [⟨.bool, a0⟩] => some a0
  | _, _ => none

noncomputable def racetreeref01_Digit_dec : Bool → Nat × List (TV U) := fun x => (0, [⟨.bool, x⟩])

noncomputable def racetreeref01_Digit_tr : Bool → Tr (Nat × List (TV U)) := fun r => (fun x => .ret (0, [⟨.bool, x⟩])) r

noncomputable def racetreeref01_Digit_md : Mode U := ⟨racetreeref01_Digit_sh, [], racetreeref01_Digit_os, fun ls => match ls with | [⟨(.int .i64), a0⟩] => .get (racetreeref01_Digit a0) racetreeref01_Digit_tr | _ => .fail⟩

theorem racetreeref01_Digit_E (a0 : Int) : (Kit.withModes kk (modesOf ms36)).fnEval racetreeref01_Digit_L Tryz.f22 racetreeref01_Digit_sh racetreeref01_Digit_os [⟨(.int .i64), a0⟩] racetreeref01_Digit_enc = racetreeref01_Digit_f a0 := by kernel_rfl

theorem racetreeref01_Digit_post : ∀ ls j rs, (racetreeref01_Digit_md.sum ls).val = some (j, rs) → FnPost kk env0 22 racetreeref01_Digit_sh racetreeref01_Digit_os ls j rs := by
  have inner : LoopsOk (Kit.withModes kk (modesOf ms36)) env0 Tryz.f22.ntmps racetreeref01_Digit_L (bodyOf Tryz.f22) := by
    exact loopsOk_of (bs := []) (by kernel_rfl) trivial
  intro ls j rs h
  simp only [racetreeref01_Digit_md] at h
  split at h
  · obtain ⟨r, hr, h⟩ := Tr.get_val h
    rw [racetreeref01_Digit, sealF_eq] at hr
    have hd : racetreeref01_Digit_dec r = (j, rs) := by
      exact Option.some.inj h
    refine FnPost.modes.1 (fn_sound (kitOk_of eqOk mixed known36) (by kernel_rfl) inner ((racetreeref01_Digit_E _).trans hr) ?_)
    intro i qs he
    unfold racetreeref01_Digit_enc at he
    split at he <;> cases he <;> (cases hd; exact ⟨rfl, rfl⟩)
  · cases h

noncomputable def ms37 : List (FuncId × Mode U) := (22, racetreeref01_Digit_md) :: ms36

theorem known37 : Known kk env0 (modesOf ms37) := known_cons (by kernel_rfl) racetreeref01_Digit_post known36

noncomputable def racetreeref02_run_sh2 : StSh := ⟨⟨[0, 5], [], []⟩, [.t (.slc (.st 41)), .t (.int .i64)], []⟩

noncomputable def racetreeref02_run_o2 : List Out := [⟨.exit 0, ⟨⟨[5], [], []⟩, [.t (.int .i64)], []⟩⟩]

noncomputable def racetreeref02_run_b2 : Code := (nthLoop (bodyOf Tryz.f23) 0)

noncomputable def racetreeref02_run_L2 : Nat → Option (Lift.Loop U) := fun n => none

noncomputable def racetreeref02_run_rec2 (rec : List (Spot) → Int → Option (Int)) : List (TV U) → Option (Int)
  | [⟨(.slc (.st 41)), a0⟩, ⟨(.int .i64), a1⟩] => rec a0 a1
  | _ => none

noncomputable def racetreeref02_run_enc2 : Nat → List (TV U) → Option (Int)
  | 0, [⟨(.int .i64), a0⟩] => some a0
  | _, _ => none

noncomputable def racetreeref02_run_dec2 : Int → Nat × List (TV U) := fun x => (0, [⟨(.int .i64), x⟩])

noncomputable def racetreeref02_run_tr2 : Int → Tr (Nat × List (TV U)) := fun r => (fun x => .ret (0, [⟨(.int .i64), x⟩])) r

noncomputable def racetreeref02_run_lp2 : Lift.Loop U := ⟨racetreeref02_run_sh2, racetreeref02_run_o2, fun ls => match ls with | [⟨(.slc (.st 41)), a0⟩, ⟨(.int .i64), a1⟩] => .get (racetreeref02_run_l2 a0 a1) racetreeref02_run_tr2 | _ => .fail⟩

theorem racetreeref02_run_E2 (rec : List (Spot) → Int → Option (Int)) (a0 : List (Spot)) (a1 : Int) : (Kit.withModes kk (modesOf ms37)).turn Tryz.f23.ntmps racetreeref02_run_L2 racetreeref02_run_sh2 racetreeref02_run_o2 racetreeref02_run_b2 [⟨(.slc (.st 41)), a0⟩, ⟨(.int .i64), a1⟩] (racetreeref02_run_rec2 rec) racetreeref02_run_enc2 = racetreeref02_run_t2 rec a0 a1 := by kernel_rfl

theorem racetreeref02_run_ok2 : ∀ ls j rs, (racetreeref02_run_lp2.sum ls).val = some (j, rs) → RoundPost kk env0 Tryz.f23.ntmps racetreeref02_run_b2 racetreeref02_run_lp2.sh racetreeref02_run_lp2.outs ls j rs := by
  have inner : LoopsOk (Kit.withModes kk (modesOf ms37)) env0 Tryz.f23.ntmps racetreeref02_run_L2 racetreeref02_run_b2 := by
    exact loopsOk_of (bs := []) (by kernel_rfl) trivial
  have key : ∀ n a0 a1 r j rs, racetreeref02_run_i2 n a0 a1 = some r → racetreeref02_run_dec2 r = (j, rs) → RoundPost kk env0 Tryz.f23.ntmps racetreeref02_run_b2 racetreeref02_run_sh2 racetreeref02_run_o2 [⟨(.slc (.st 41)), a0⟩, ⟨(.int .i64), a1⟩] j rs := by
    intro n
    induction n with
    | zero => intro a0 a1 r j rs h; cases h
    | succ n ih =>
      intro a0 a1 r j rs h hd
      refine RoundPost.modes.1 (turn_sound (kitOk_of eqOk mixed known37) inner ((racetreeref02_run_E2 (racetreeref02_run_i2 n) a0 a1).trans h) (fun q hq => RoundPost.modes.2 ?_) ?_)
      · unfold racetreeref02_run_rec2 at hq
        split at hq
        · exact ih _ _ r j rs hq hd
        · cases hq
      · intro i qs he
        unfold racetreeref02_run_enc2 at he
        split at he <;> cases he <;> (cases hd; exact ⟨rfl, rfl⟩)
  intro ls j rs h
  simp only [racetreeref02_run_lp2] at h
  split at h
  · obtain ⟨r, hr, h⟩ := Tr.get_val h
    rw [racetreeref02_run_l2, sealF_eq] at hr
    refine key fuel _ _ r j rs hr ?_
    exact Option.some.inj h
  · cases h

noncomputable def racetreeref02_run_sh : StSh := ⟨⟨[0, 1], [], []⟩, [.t (.slc (.st 41)), .t (.int .i64)], []⟩

noncomputable def racetreeref02_run_os : List StSh := [⟨⟨[0], [], []⟩, [.t (.int .i64)], []⟩]

noncomputable def racetreeref02_run_L : Nat → Option (Lift.Loop U) := fun n => bif Nat.beq n 2 then some racetreeref02_run_lp2 else none

noncomputable def racetreeref02_run_enc : Nat → List (TV U) → Option (Int)
  | 0, [⟨(.int .i64), a0⟩] => some a0
  | _, _ => none

noncomputable def racetreeref02_run_dec : Int → Nat × List (TV U) := fun x => (0, [⟨(.int .i64), x⟩])

noncomputable def racetreeref02_run_tr : Int → Tr (Nat × List (TV U)) := fun r => (fun x => .ret (0, [⟨(.int .i64), x⟩])) r

noncomputable def racetreeref02_run_md : Mode U := ⟨racetreeref02_run_sh, [], racetreeref02_run_os, fun ls => match ls with | [⟨(.slc (.st 41)), a0⟩, ⟨(.int .i64), a1⟩] => .get (racetreeref02_run a0 a1) racetreeref02_run_tr | _ => .fail⟩

theorem racetreeref02_run_E (a0 : List (Spot)) (a1 : Int) : (Kit.withModes kk (modesOf ms37)).fnEval racetreeref02_run_L Tryz.f23 racetreeref02_run_sh racetreeref02_run_os [⟨(.slc (.st 41)), a0⟩, ⟨(.int .i64), a1⟩] racetreeref02_run_enc = racetreeref02_run_f a0 a1 := by kernel_rfl

theorem racetreeref02_run_post : ∀ ls j rs, (racetreeref02_run_md.sum ls).val = some (j, rs) → FnPost kk env0 23 racetreeref02_run_sh racetreeref02_run_os ls j rs := by
  have inner : LoopsOk (Kit.withModes kk (modesOf ms37)) env0 Tryz.f23.ntmps racetreeref02_run_L (bodyOf Tryz.f23) := by
    exact loopsOk_of (bs := [racetreeref02_run_b2]) (by kernel_rfl) ⟨.inr ⟨_, by kernel_rfl, LoopOk.of_round racetreeref02_run_ok2⟩, trivial⟩
  intro ls j rs h
  simp only [racetreeref02_run_md] at h
  split at h
  · obtain ⟨r, hr, h⟩ := Tr.get_val h
    rw [racetreeref02_run, sealF_eq] at hr
    have hd : racetreeref02_run_dec r = (j, rs) := by
      exact Option.some.inj h
    refine FnPost.modes.1 (fn_sound (kitOk_of eqOk mixed known37) (by kernel_rfl) inner ((racetreeref02_run_E _ _).trans hr) ?_)
    intro i qs he
    unfold racetreeref02_run_enc at he
    split at he <;> cases he <;> (cases hd; exact ⟨rfl, rfl⟩)
  · cases h

noncomputable def ms38 : List (FuncId × Mode U) := (23, racetreeref02_run_md) :: ms37

theorem known38 : Known kk env0 (modesOf ms38) := known_cons (by kernel_rfl) racetreeref02_run_post known37

noncomputable def racetreeref02_part_sh : StSh := ⟨⟨[0, 1, 2, 3], [], []⟩, [.t (.slc (.st 41)), .t .str, .t (.int .i64), .t (.int .i64)], []⟩

noncomputable def racetreeref02_part_os : List StSh := [⟨⟨[0], [], []⟩, [.t .str], []⟩]

noncomputable def racetreeref02_part_L : Nat → Option (Lift.Loop U) := fun n => none

noncomputable def racetreeref02_part_enc : Nat → List (TV U) → Option ((List UInt8))
  | 0, [⟨.str, a0⟩] => some a0
  | _, _ => none

noncomputable def racetreeref02_part_dec : (List UInt8) → Nat × List (TV U) := fun x => (0, [⟨.str, x⟩])

noncomputable def racetreeref02_part_tr : (List UInt8) → Tr (Nat × List (TV U)) := fun r => (fun x => .ret (0, [⟨.str, x⟩])) r

noncomputable def racetreeref02_part_md : Mode U := ⟨racetreeref02_part_sh, [], racetreeref02_part_os, fun ls => match ls with | [⟨(.slc (.st 41)), a0⟩, ⟨.str, a1⟩, ⟨(.int .i64), a2⟩, ⟨(.int .i64), a3⟩] => .get (racetreeref02_part a0 a1 a2 a3) racetreeref02_part_tr | _ => .fail⟩

theorem racetreeref02_part_E (a0 : List (Spot)) (a1 : List UInt8) (a2 : Int) (a3 : Int) : (Kit.withModes kk (modesOf ms38)).fnEval racetreeref02_part_L Tryz.f24 racetreeref02_part_sh racetreeref02_part_os [⟨(.slc (.st 41)), a0⟩, ⟨.str, a1⟩, ⟨(.int .i64), a2⟩, ⟨(.int .i64), a3⟩] racetreeref02_part_enc = racetreeref02_part_f a0 a1 a2 a3 := by kernel_rfl

theorem racetreeref02_part_post : ∀ ls j rs, (racetreeref02_part_md.sum ls).val = some (j, rs) → FnPost kk env0 24 racetreeref02_part_sh racetreeref02_part_os ls j rs := by
  have inner : LoopsOk (Kit.withModes kk (modesOf ms38)) env0 Tryz.f24.ntmps racetreeref02_part_L (bodyOf Tryz.f24) := by
    exact loopsOk_of (bs := []) (by kernel_rfl) trivial
  intro ls j rs h
  simp only [racetreeref02_part_md] at h
  split at h
  · obtain ⟨r, hr, h⟩ := Tr.get_val h
    rw [racetreeref02_part, sealF_eq] at hr
    have hd : racetreeref02_part_dec r = (j, rs) := by
      exact Option.some.inj h
    refine FnPost.modes.1 (fn_sound (kitOk_of eqOk mixed known38) (by kernel_rfl) inner ((racetreeref02_part_E _ _ _ _).trans hr) ?_)
    intro i qs he
    unfold racetreeref02_part_enc at he
    split at he <;> cases he <;> (cases hd; exact ⟨rfl, rfl⟩)
  · cases h

noncomputable def ms39 : List (FuncId × Mode U) := (24, racetreeref02_part_md) :: ms38

theorem known39 : Known kk env0 (modesOf ms39) := known_cons (by kernel_rfl) racetreeref02_part_post known38

noncomputable def racetreeref02_Words_sh : StSh := ⟨⟨[], [], []⟩, [], []⟩

noncomputable def racetreeref02_Words_os : List StSh := [⟨⟨[0], [], [⟨.slot 0, 100000, 9, .str⟩]⟩, [.oslc 100000], [.row 9 .str]⟩]

noncomputable def racetreeref02_Words_L : Nat → Option (Lift.Loop U) := fun n => none

noncomputable def racetreeref02_Words_enc : Nat → List (TV U) → Option ((List (List UInt8)))
  | 0, [⟨(.slc .str), a0⟩] => some a0
  | _, _ => none

noncomputable def racetreeref02_Words_dec : (List (List UInt8)) → Nat × List (TV U) := fun x => (0, [⟨(.slc .str), x⟩])

noncomputable def racetreeref02_Words_tr : (List (List UInt8)) → Tr (Nat × List (TV U)) := fun r => (fun x => .ret (0, [⟨(.slc .str), x⟩])) r

noncomputable def racetreeref02_Words_md : Mode U := ⟨racetreeref02_Words_sh, [], racetreeref02_Words_os, fun ls => match ls with | [] => .get (racetreeref02_Words) racetreeref02_Words_tr | _ => .fail⟩

theorem racetreeref02_Words_E : (Kit.withModes kk (modesOf ms39)).fnEval racetreeref02_Words_L Tryz.f26 racetreeref02_Words_sh racetreeref02_Words_os [] racetreeref02_Words_enc = racetreeref02_Words_f := by kernel_rfl

theorem racetreeref02_Words_post : ∀ ls j rs, (racetreeref02_Words_md.sum ls).val = some (j, rs) → FnPost kk env0 26 racetreeref02_Words_sh racetreeref02_Words_os ls j rs := by
  have inner : LoopsOk (Kit.withModes kk (modesOf ms39)) env0 Tryz.f26.ntmps racetreeref02_Words_L (bodyOf Tryz.f26) := by
    exact loopsOk_of (bs := []) (by kernel_rfl) trivial
  intro ls j rs h
  simp only [racetreeref02_Words_md] at h
  split at h
  · obtain ⟨r, hr, h⟩ := Tr.get_val h
    rw [racetreeref02_Words, sealF_eq] at hr
    have hd : racetreeref02_Words_dec r = (j, rs) := by
      exact Option.some.inj h
    refine FnPost.modes.1 (fn_sound (kitOk_of eqOk mixed known39) (by kernel_rfl) inner ((racetreeref02_Words_E).trans hr) ?_)
    intro i qs he
    unfold racetreeref02_Words_enc at he
    split at he <;> cases he <;> (cases hd; exact ⟨rfl, rfl⟩)
  · cases h

noncomputable def ms40 : List (FuncId × Mode U) := (26, racetreeref02_Words_md) :: ms39

theorem known40 : Known kk env0 (modesOf ms40) := known_cons (by kernel_rfl) racetreeref02_Words_post known39

noncomputable def racetreeref02_In_sh2 : StSh := ⟨⟨[0, 1, 5], [], []⟩, [.t (.slc .str), .t .str, .t (.int .i64)], []⟩

noncomputable def racetreeref02_In_o2 : List Out := [⟨.ret, ⟨⟨[4], [], []⟩, [.t .bool], []⟩⟩, ⟨.exit 0, ⟨⟨[], [], []⟩, [], []⟩⟩]

noncomputable def racetreeref02_In_b2 : Code := (nthLoop (bodyOf Tryz.f25) 0)

noncomputable def racetreeref02_In_L2 : Nat → Option (Lift.Loop U) := fun n => none

noncomputable def racetreeref02_In_rec2 (rec : List (List UInt8) → List UInt8 → Int → Option ((Bool) ⊕ (Unit))) : List (TV U) → Option ((Bool) ⊕ (Unit))
  | [⟨(.slc .str), a0⟩, ⟨.str, a1⟩, ⟨(.int .i64), a2⟩] => rec a0 a1 a2
  | _ => none

noncomputable def racetreeref02_In_enc2 : Nat → List (TV U) → Option ((Bool) ⊕ (Unit))
  | 0, [⟨.bool, a0⟩] => some (.inl a0)
  | 1, [] => some (.inr ())
  | _, _ => none

noncomputable def racetreeref02_In_dec2 : (Bool) ⊕ (Unit) → Nat × List (TV U) := fun r => match r with | (.inl x) => (0, [⟨.bool, x⟩]) | (.inr x) => (1, [])

noncomputable def racetreeref02_In_tr2 : (Bool) ⊕ (Unit) → Tr (Nat × List (TV U)) := fun r => .alt r (fun x => .ret (0, [⟨.bool, x⟩])) (fun y => (fun x => .ret (1, [])) y)

noncomputable def racetreeref02_In_lp2 : Lift.Loop U := ⟨racetreeref02_In_sh2, racetreeref02_In_o2, fun ls => match ls with | [⟨(.slc .str), a0⟩, ⟨.str, a1⟩, ⟨(.int .i64), a2⟩] => .get (racetreeref02_In_l2 a0 a1 a2) racetreeref02_In_tr2 | _ => .fail⟩

theorem racetreeref02_In_E2 (rec : List (List UInt8) → List UInt8 → Int → Option ((Bool) ⊕ (Unit))) (a0 : List (List UInt8)) (a1 : List UInt8) (a2 : Int) : (Kit.withModes kk (modesOf ms40)).turn Tryz.f25.ntmps racetreeref02_In_L2 racetreeref02_In_sh2 racetreeref02_In_o2 racetreeref02_In_b2 [⟨(.slc .str), a0⟩, ⟨.str, a1⟩, ⟨(.int .i64), a2⟩] (racetreeref02_In_rec2 rec) racetreeref02_In_enc2 = racetreeref02_In_t2 rec a0 a1 a2 := by kernel_rfl

theorem racetreeref02_In_ok2 : ∀ ls j rs, (racetreeref02_In_lp2.sum ls).val = some (j, rs) → RoundPost kk env0 Tryz.f25.ntmps racetreeref02_In_b2 racetreeref02_In_lp2.sh racetreeref02_In_lp2.outs ls j rs := by
  have inner : LoopsOk (Kit.withModes kk (modesOf ms40)) env0 Tryz.f25.ntmps racetreeref02_In_L2 racetreeref02_In_b2 := by
    exact loopsOk_of (bs := []) (by kernel_rfl) trivial
  have key : ∀ n a0 a1 a2 r j rs, racetreeref02_In_i2 n a0 a1 a2 = some r → racetreeref02_In_dec2 r = (j, rs) → RoundPost kk env0 Tryz.f25.ntmps racetreeref02_In_b2 racetreeref02_In_sh2 racetreeref02_In_o2 [⟨(.slc .str), a0⟩, ⟨.str, a1⟩, ⟨(.int .i64), a2⟩] j rs := by
    intro n
    induction n with
    | zero => intro a0 a1 a2 r j rs h; cases h
    | succ n ih =>
      intro a0 a1 a2 r j rs h hd
      refine RoundPost.modes.1 (turn_sound (kitOk_of eqOk mixed known40) inner ((racetreeref02_In_E2 (racetreeref02_In_i2 n) a0 a1 a2).trans h) (fun q hq => RoundPost.modes.2 ?_) ?_)
      · unfold racetreeref02_In_rec2 at hq
        split at hq
        · exact ih _ _ _ r j rs hq hd
        · cases hq
      · intro i qs he
        unfold racetreeref02_In_enc2 at he
        split at he <;> cases he <;> (cases hd; exact ⟨rfl, rfl⟩)
  intro ls j rs h
  simp only [racetreeref02_In_lp2] at h
  split at h
  · obtain ⟨r, hr, h⟩ := Tr.get_val h
    rw [racetreeref02_In_l2, sealF_eq] at hr
    refine key fuel _ _ _ r j rs hr ?_
    rcases r with r | r <;> exact Option.some.inj h
  · cases h

noncomputable def racetreeref02_In_sh : StSh := ⟨⟨[0, 1], [], []⟩, [.t (.slc .str), .t .str], []⟩

noncomputable def racetreeref02_In_os : List StSh := [⟨⟨[0], [], []⟩, [.t .bool], []⟩]

noncomputable def racetreeref02_In_L : Nat → Option (Lift.Loop U) := fun n => bif Nat.beq n 2 then some racetreeref02_In_lp2 else none

noncomputable def racetreeref02_In_enc : Nat → List (TV U) → Option (Bool)
  | 0, [⟨.bool, a0⟩] => some a0
  | _, _ => none

noncomputable def racetreeref02_In_dec : Bool → Nat × List (TV U) := fun x => (0, [⟨.bool, x⟩])

noncomputable def racetreeref02_In_tr : Bool → Tr (Nat × List (TV U)) := fun r => (fun x => .ret (0, [⟨.bool, x⟩])) r

noncomputable def racetreeref02_In_md : Mode U := ⟨racetreeref02_In_sh, [], racetreeref02_In_os, fun ls => match ls with | [⟨(.slc .str), a0⟩, ⟨.str, a1⟩] => .get (racetreeref02_In a0 a1) racetreeref02_In_tr | _ => .fail⟩

theorem racetreeref02_In_E (a0 : List (List UInt8)) (a1 : List UInt8) : (Kit.withModes kk (modesOf ms40)).fnEval racetreeref02_In_L Tryz.f25 racetreeref02_In_sh racetreeref02_In_os [⟨(.slc .str), a0⟩, ⟨.str, a1⟩] racetreeref02_In_enc = racetreeref02_In_f a0 a1 := by kernel_rfl

theorem racetreeref02_In_post : ∀ ls j rs, (racetreeref02_In_md.sum ls).val = some (j, rs) → FnPost kk env0 25 racetreeref02_In_sh racetreeref02_In_os ls j rs := by
  have inner : LoopsOk (Kit.withModes kk (modesOf ms40)) env0 Tryz.f25.ntmps racetreeref02_In_L (bodyOf Tryz.f25) := by
    exact loopsOk_of (bs := [racetreeref02_In_b2]) (by kernel_rfl) ⟨.inr ⟨_, by kernel_rfl, LoopOk.of_round racetreeref02_In_ok2⟩, trivial⟩
  intro ls j rs h
  simp only [racetreeref02_In_md] at h
  split at h
  · obtain ⟨r, hr, h⟩ := Tr.get_val h
    rw [racetreeref02_In, sealF_eq] at hr
    have hd : racetreeref02_In_dec r = (j, rs) := by
      exact Option.some.inj h
    refine FnPost.modes.1 (fn_sound (kitOk_of eqOk mixed known40) (by kernel_rfl) inner ((racetreeref02_In_E _ _).trans hr) ?_)
    intro i qs he
    unfold racetreeref02_In_enc at he
    split at he <;> cases he <;> (cases hd; exact ⟨rfl, rfl⟩)
  · cases h

noncomputable def ms41 : List (FuncId × Mode U) := (25, racetreeref02_In_md) :: ms40

theorem known41 : Known kk env0 (modesOf ms41) := known_cons (by kernel_rfl) racetreeref02_In_post known40

noncomputable def racetreeref02_number_sh5 : StSh := ⟨⟨[0, 4, 5], [], []⟩, [.t .str, .t (.int .i64), .t (.int .i64)], []⟩

noncomputable def racetreeref02_number_o5 : List Out := [⟨.ret, ⟨⟨[2, 3], [], []⟩, [.t (.int .i64), .t .bool], []⟩⟩, ⟨.exit 0, ⟨⟨[4], [], []⟩, [.t (.int .i64)], []⟩⟩]

noncomputable def racetreeref02_number_b5 : Code := (nthLoop (bodyOf Tryz.f27) 0)

noncomputable def racetreeref02_number_L5 : Nat → Option (Lift.Loop U) := fun n => none

noncomputable def racetreeref02_number_rec5 (rec : List UInt8 → Int → Int → Option ((Int × Bool) ⊕ (Int))) : List (TV U) → Option ((Int × Bool) ⊕ (Int))
  | [⟨.str, a0⟩, ⟨(.int .i64), a1⟩, ⟨(.int .i64), a2⟩] => rec a0 a1 a2
  | _ => none

noncomputable def racetreeref02_number_enc5 : Nat → List (TV U) → Option ((Int × Bool) ⊕ (Int))
  | 0, [⟨(.int .i64), a0⟩, ⟨.bool, a1⟩] => some (.inl (a0, a1))
  | 1, [⟨(.int .i64), a0⟩] => some (.inr a0)
  | _, _ => none

noncomputable def racetreeref02_number_dec5 : (Int × Bool) ⊕ (Int) → Nat × List (TV U) := fun r => match r with | (.inl x) => (0, [⟨(.int .i64), x.1⟩, ⟨.bool, x.2⟩]) | (.inr x) => (1, [⟨(.int .i64), x⟩])

noncomputable def racetreeref02_number_tr5 : (Int × Bool) ⊕ (Int) → Tr (Nat × List (TV U)) := fun r => .alt r (fun x => .ret (0, [⟨(.int .i64), x.1⟩, ⟨.bool, x.2⟩])) (fun y => (fun x => .ret (1, [⟨(.int .i64), x⟩])) y)

noncomputable def racetreeref02_number_lp5 : Lift.Loop U := ⟨racetreeref02_number_sh5, racetreeref02_number_o5, fun ls => match ls with | [⟨.str, a0⟩, ⟨(.int .i64), a1⟩, ⟨(.int .i64), a2⟩] => .get (racetreeref02_number_l5 a0 a1 a2) racetreeref02_number_tr5 | _ => .fail⟩

theorem racetreeref02_number_E5 (rec : List UInt8 → Int → Int → Option ((Int × Bool) ⊕ (Int))) (a0 : List UInt8) (a1 : Int) (a2 : Int) : (Kit.withModes kk (modesOf ms41)).turn Tryz.f27.ntmps racetreeref02_number_L5 racetreeref02_number_sh5 racetreeref02_number_o5 racetreeref02_number_b5 [⟨.str, a0⟩, ⟨(.int .i64), a1⟩, ⟨(.int .i64), a2⟩] (racetreeref02_number_rec5 rec) racetreeref02_number_enc5 = racetreeref02_number_t5 rec a0 a1 a2 := by kernel_rfl

theorem racetreeref02_number_ok5 : ∀ ls j rs, (racetreeref02_number_lp5.sum ls).val = some (j, rs) → RoundPost kk env0 Tryz.f27.ntmps racetreeref02_number_b5 racetreeref02_number_lp5.sh racetreeref02_number_lp5.outs ls j rs := by
  have inner : LoopsOk (Kit.withModes kk (modesOf ms41)) env0 Tryz.f27.ntmps racetreeref02_number_L5 racetreeref02_number_b5 := by
    exact loopsOk_of (bs := []) (by kernel_rfl) trivial
  have key : ∀ n a0 a1 a2 r j rs, racetreeref02_number_i5 n a0 a1 a2 = some r → racetreeref02_number_dec5 r = (j, rs) → RoundPost kk env0 Tryz.f27.ntmps racetreeref02_number_b5 racetreeref02_number_sh5 racetreeref02_number_o5 [⟨.str, a0⟩, ⟨(.int .i64), a1⟩, ⟨(.int .i64), a2⟩] j rs := by
    intro n
    induction n with
    | zero => intro a0 a1 a2 r j rs h; cases h
    | succ n ih =>
      intro a0 a1 a2 r j rs h hd
      refine RoundPost.modes.1 (turn_sound (kitOk_of eqOk mixed known41) inner ((racetreeref02_number_E5 (racetreeref02_number_i5 n) a0 a1 a2).trans h) (fun q hq => RoundPost.modes.2 ?_) ?_)
      · unfold racetreeref02_number_rec5 at hq
        split at hq
        · exact ih _ _ _ r j rs hq hd
        · cases hq
      · intro i qs he
        unfold racetreeref02_number_enc5 at he
        split at he <;> cases he <;> (cases hd; exact ⟨rfl, rfl⟩)
  intro ls j rs h
  simp only [racetreeref02_number_lp5] at h
  split at h
  · obtain ⟨r, hr, h⟩ := Tr.get_val h
    rw [racetreeref02_number_l5, sealF_eq] at hr
    refine key fuel _ _ _ r j rs hr ?_
    rcases r with r | r <;> exact Option.some.inj h
  · cases h

noncomputable def racetreeref02_number_sh : StSh := ⟨⟨[0], [], []⟩, [.t .str], []⟩

noncomputable def racetreeref02_number_os : List StSh := [⟨⟨[0, 1], [], []⟩, [.t (.int .i64), .t .bool], []⟩]

noncomputable def racetreeref02_number_L : Nat → Option (Lift.Loop U) := fun n => bif Nat.beq n 5 then some racetreeref02_number_lp5 else none

noncomputable def racetreeref02_number_enc : Nat → List (TV U) → Option (Int × Bool)
  | 0, [⟨(.int .i64), a0⟩, ⟨.bool, a1⟩] => some (a0, a1)
  | _, _ => none

noncomputable def racetreeref02_number_dec : Int × Bool → Nat × List (TV U) := fun x => (0, [⟨(.int .i64), x.1⟩, ⟨.bool, x.2⟩])

noncomputable def racetreeref02_number_tr : Int × Bool → Tr (Nat × List (TV U)) := fun r => (fun x => .ret (0, [⟨(.int .i64), x.1⟩, ⟨.bool, x.2⟩])) r

noncomputable def racetreeref02_number_md : Mode U := ⟨racetreeref02_number_sh, [], racetreeref02_number_os, fun ls => match ls with | [⟨.str, a0⟩] => .get (racetreeref02_number a0) racetreeref02_number_tr | _ => .fail⟩

theorem racetreeref02_number_E (a0 : List UInt8) : (Kit.withModes kk (modesOf ms41)).fnEval racetreeref02_number_L Tryz.f27 racetreeref02_number_sh racetreeref02_number_os [⟨.str, a0⟩] racetreeref02_number_enc = racetreeref02_number_f a0 := by kernel_rfl

theorem racetreeref02_number_post : ∀ ls j rs, (racetreeref02_number_md.sum ls).val = some (j, rs) → FnPost kk env0 27 racetreeref02_number_sh racetreeref02_number_os ls j rs := by
  have inner : LoopsOk (Kit.withModes kk (modesOf ms41)) env0 Tryz.f27.ntmps racetreeref02_number_L (bodyOf Tryz.f27) := by
    exact loopsOk_of (bs := [racetreeref02_number_b5]) (by kernel_rfl) ⟨.inr ⟨_, by kernel_rfl, LoopOk.of_round racetreeref02_number_ok5⟩, trivial⟩
  intro ls j rs h
  simp only [racetreeref02_number_md] at h
  split at h
  · obtain ⟨r, hr, h⟩ := Tr.get_val h
    rw [racetreeref02_number, sealF_eq] at hr
    have hd : racetreeref02_number_dec r = (j, rs) := by
      exact Option.some.inj h
    refine FnPost.modes.1 (fn_sound (kitOk_of eqOk mixed known41) (by kernel_rfl) inner ((racetreeref02_number_E _).trans hr) ?_)
    intro i qs he
    unfold racetreeref02_number_enc at he
    split at he <;> cases he <;> (cases hd; exact ⟨rfl, rfl⟩)
  · cases h

noncomputable def ms42 : List (FuncId × Mode U) := (27, racetreeref02_number_md) :: ms41

theorem known42 : Known kk env0 (modesOf ms42) := known_cons (by kernel_rfl) racetreeref02_number_post known41

noncomputable def racetreeref02_signs_sh : StSh := ⟨⟨[], [], []⟩, [], []⟩

noncomputable def racetreeref02_signs_os : List StSh := [⟨⟨[0], [], [⟨.slot 0, 100000, 9, .str⟩]⟩, [.oslc 100000], [.row 9 .str]⟩]

noncomputable def racetreeref02_signs_L : Nat → Option (Lift.Loop U) := fun n => none

noncomputable def racetreeref02_signs_enc : Nat → List (TV U) → Option ((List (List UInt8)))
  | 0, [⟨(.slc .str), a0⟩] => some a0
  | _, _ => none

noncomputable def racetreeref02_signs_dec : (List (List UInt8)) → Nat × List (TV U) := fun x => (0, [⟨(.slc .str), x⟩])

noncomputable def racetreeref02_signs_tr : (List (List UInt8)) → Tr (Nat × List (TV U)) := fun r => (fun x => .ret (0, [⟨(.slc .str), x⟩])) r

noncomputable def racetreeref02_signs_md : Mode U := ⟨racetreeref02_signs_sh, [], racetreeref02_signs_os, fun ls => match ls with | [] => .get (racetreeref02_signs) racetreeref02_signs_tr | _ => .fail⟩

theorem racetreeref02_signs_E : (Kit.withModes kk (modesOf ms42)).fnEval racetreeref02_signs_L Tryz.f47 racetreeref02_signs_sh racetreeref02_signs_os [] racetreeref02_signs_enc = racetreeref02_signs_f := by kernel_rfl

theorem racetreeref02_signs_post : ∀ ls j rs, (racetreeref02_signs_md.sum ls).val = some (j, rs) → FnPost kk env0 47 racetreeref02_signs_sh racetreeref02_signs_os ls j rs := by
  have inner : LoopsOk (Kit.withModes kk (modesOf ms42)) env0 Tryz.f47.ntmps racetreeref02_signs_L (bodyOf Tryz.f47) := by
    exact loopsOk_of (bs := []) (by kernel_rfl) trivial
  intro ls j rs h
  simp only [racetreeref02_signs_md] at h
  split at h
  · obtain ⟨r, hr, h⟩ := Tr.get_val h
    rw [racetreeref02_signs, sealF_eq] at hr
    have hd : racetreeref02_signs_dec r = (j, rs) := by
      exact Option.some.inj h
    refine FnPost.modes.1 (fn_sound (kitOk_of eqOk mixed known42) (by kernel_rfl) inner ((racetreeref02_signs_E).trans hr) ?_)
    intro i qs he
    unfold racetreeref02_signs_enc at he
    split at he <;> cases he <;> (cases hd; exact ⟨rfl, rfl⟩)
  · cases h

noncomputable def ms43 : List (FuncId × Mode U) := (47, racetreeref02_signs_md) :: ms42

theorem known43 : Known kk env0 (modesOf ms43) := known_cons (by kernel_rfl) racetreeref02_signs_post known42

noncomputable def racetreeref02_sign_sh3 : StSh := ⟨⟨[0, 1, 5, 6], [], [⟨.slot 5, 5, 9, .str⟩]⟩, [.t .str, .t (.int .i64), .oslc 5, .t (.int .i64)], [.row 9 .str]⟩

noncomputable def racetreeref02_sign_o3 : List Out := [⟨.ret, ⟨⟨[4], [], []⟩, [.t .str], []⟩⟩, ⟨.exit 0, ⟨⟨[], [], []⟩, [], []⟩⟩]

noncomputable def racetreeref02_sign_b3 : Code := (nthLoop (bodyOf Tryz.f28) 0)

noncomputable def racetreeref02_sign_L3 : Nat → Option (Lift.Loop U) := fun n => none

noncomputable def racetreeref02_sign_rec3 (rec : List UInt8 → Int → Int → List (List UInt8) → Option (((List UInt8)) ⊕ (Unit))) : List (TV U) → Option (((List UInt8)) ⊕ (Unit))
  | [⟨.str, a0⟩, ⟨(.int .i64), a1⟩, ⟨(.int .i64), a2⟩, ⟨(.slc .str), a3⟩] => rec a0 a1 a2 a3
  | _ => none

noncomputable def racetreeref02_sign_enc3 : Nat → List (TV U) → Option (((List UInt8)) ⊕ (Unit))
  | 0, [⟨.str, a0⟩] => some (.inl a0)
  | 1, [] => some (.inr ())
  | _, _ => none

noncomputable def racetreeref02_sign_dec3 : ((List UInt8)) ⊕ (Unit) → Nat × List (TV U) := fun r => match r with | (.inl x) => (0, [⟨.str, x⟩]) | (.inr x) => (1, [])

noncomputable def racetreeref02_sign_tr3 : ((List UInt8)) ⊕ (Unit) → Tr (Nat × List (TV U)) := fun r => .alt r (fun x => .ret (0, [⟨.str, x⟩])) (fun y => (fun x => .ret (1, [])) y)

noncomputable def racetreeref02_sign_lp3 : Lift.Loop U := ⟨racetreeref02_sign_sh3, racetreeref02_sign_o3, fun ls => match ls with | [⟨.str, a0⟩, ⟨(.int .i64), a1⟩, ⟨(.int .i64), a2⟩, ⟨(.slc .str), a3⟩] => .get (racetreeref02_sign_l3 a0 a1 a2 a3) racetreeref02_sign_tr3 | _ => .fail⟩

theorem racetreeref02_sign_E3 (rec : List UInt8 → Int → Int → List (List UInt8) → Option (((List UInt8)) ⊕ (Unit))) (a0 : List UInt8) (a1 : Int) (a2 : Int) (a3 : List (List UInt8)) : (Kit.withModes kk (modesOf ms43)).turn Tryz.f28.ntmps racetreeref02_sign_L3 racetreeref02_sign_sh3 racetreeref02_sign_o3 racetreeref02_sign_b3 [⟨.str, a0⟩, ⟨(.int .i64), a1⟩, ⟨(.int .i64), a2⟩, ⟨(.slc .str), a3⟩] (racetreeref02_sign_rec3 rec) racetreeref02_sign_enc3 = racetreeref02_sign_t3 rec a0 a1 a2 a3 := by kernel_rfl

theorem racetreeref02_sign_ok3 : ∀ ls j rs, (racetreeref02_sign_lp3.sum ls).val = some (j, rs) → RoundPost kk env0 Tryz.f28.ntmps racetreeref02_sign_b3 racetreeref02_sign_lp3.sh racetreeref02_sign_lp3.outs ls j rs := by
  have inner : LoopsOk (Kit.withModes kk (modesOf ms43)) env0 Tryz.f28.ntmps racetreeref02_sign_L3 racetreeref02_sign_b3 := by
    exact loopsOk_of (bs := []) (by kernel_rfl) trivial
  have key : ∀ n a0 a1 a2 a3 r j rs, racetreeref02_sign_i3 n a0 a1 a2 a3 = some r → racetreeref02_sign_dec3 r = (j, rs) → RoundPost kk env0 Tryz.f28.ntmps racetreeref02_sign_b3 racetreeref02_sign_sh3 racetreeref02_sign_o3 [⟨.str, a0⟩, ⟨(.int .i64), a1⟩, ⟨(.int .i64), a2⟩, ⟨(.slc .str), a3⟩] j rs := by
    intro n
    induction n with
    | zero => intro a0 a1 a2 a3 r j rs h; cases h
    | succ n ih =>
      intro a0 a1 a2 a3 r j rs h hd
      refine RoundPost.modes.1 (turn_sound (kitOk_of eqOk mixed known43) inner ((racetreeref02_sign_E3 (racetreeref02_sign_i3 n) a0 a1 a2 a3).trans h) (fun q hq => RoundPost.modes.2 ?_) ?_)
      · unfold racetreeref02_sign_rec3 at hq
        split at hq
        · exact ih _ _ _ _ r j rs hq hd
        · cases hq
      · intro i qs he
        unfold racetreeref02_sign_enc3 at he
        split at he <;> cases he <;> (cases hd; exact ⟨rfl, rfl⟩)
  intro ls j rs h
  simp only [racetreeref02_sign_lp3] at h
  split at h
  · obtain ⟨r, hr, h⟩ := Tr.get_val h
    rw [racetreeref02_sign_l3, sealF_eq] at hr
    refine key fuel _ _ _ _ r j rs hr ?_
    rcases r with r | r <;> exact Option.some.inj h
  · cases h

noncomputable def racetreeref02_sign_sh : StSh := ⟨⟨[0, 1], [], []⟩, [.t .str, .t (.int .i64)], []⟩

noncomputable def racetreeref02_sign_os : List StSh := [⟨⟨[0], [], []⟩, [.t .str], []⟩]

noncomputable def racetreeref02_sign_L : Nat → Option (Lift.Loop U) := fun n => bif Nat.beq n 3 then some racetreeref02_sign_lp3 else none

noncomputable def racetreeref02_sign_enc : Nat → List (TV U) → Option ((List UInt8))
  | 0, [⟨.str, a0⟩] => some a0
  | _, _ => none

noncomputable def racetreeref02_sign_dec : (List UInt8) → Nat × List (TV U) := fun x => (0, [⟨.str, x⟩])

noncomputable def racetreeref02_sign_tr : (List UInt8) → Tr (Nat × List (TV U)) := fun r => (fun x => .ret (0, [⟨.str, x⟩])) r

noncomputable def racetreeref02_sign_md : Mode U := ⟨racetreeref02_sign_sh, [], racetreeref02_sign_os, fun ls => match ls with | [⟨.str, a0⟩, ⟨(.int .i64), a1⟩] => .get (racetreeref02_sign a0 a1) racetreeref02_sign_tr | _ => .fail⟩

theorem racetreeref02_sign_E (a0 : List UInt8) (a1 : Int) : (Kit.withModes kk (modesOf ms43)).fnEval racetreeref02_sign_L Tryz.f28 racetreeref02_sign_sh racetreeref02_sign_os [⟨.str, a0⟩, ⟨(.int .i64), a1⟩] racetreeref02_sign_enc = racetreeref02_sign_f a0 a1 := by kernel_rfl

theorem racetreeref02_sign_post : ∀ ls j rs, (racetreeref02_sign_md.sum ls).val = some (j, rs) → FnPost kk env0 28 racetreeref02_sign_sh racetreeref02_sign_os ls j rs := by
  have inner : LoopsOk (Kit.withModes kk (modesOf ms43)) env0 Tryz.f28.ntmps racetreeref02_sign_L (bodyOf Tryz.f28) := by
    exact loopsOk_of (bs := [racetreeref02_sign_b3]) (by kernel_rfl) ⟨.inr ⟨_, by kernel_rfl, LoopOk.of_round racetreeref02_sign_ok3⟩, trivial⟩
  intro ls j rs h
  simp only [racetreeref02_sign_md] at h
  split at h
  · obtain ⟨r, hr, h⟩ := Tr.get_val h
    rw [racetreeref02_sign, sealF_eq] at hr
    have hd : racetreeref02_sign_dec r = (j, rs) := by
      exact Option.some.inj h
    refine FnPost.modes.1 (fn_sound (kitOk_of eqOk mixed known43) (by kernel_rfl) inner ((racetreeref02_sign_E _ _).trans hr) ?_)
    intro i qs he
    unfold racetreeref02_sign_enc at he
    split at he <;> cases he <;> (cases hd; exact ⟨rfl, rfl⟩)
  · cases h

noncomputable def ms44 : List (FuncId × Mode U) := (28, racetreeref02_sign_md) :: ms43

theorem known44 : Known kk env0 (modesOf ms44) := known_cons (by kernel_rfl) racetreeref02_sign_post known43

noncomputable def racetreeref02_token_sh : StSh := ⟨⟨[0, 1, 2], [], []⟩, [.t (.slc (.st 41)), .t .str, .t (.int .i64)], []⟩

noncomputable def racetreeref02_token_os : List StSh := [⟨⟨[0, 1, 2], [], []⟩, [.t (.st 31), .t (.int .i64), .t (.int .i64)], []⟩]

noncomputable def racetreeref02_token_L : Nat → Option (Lift.Loop U) := fun n => none

noncomputable def racetreeref02_token_enc : Nat → List (TV U) → Option (Token × Int × Int)
  | 0, [⟨(.st 31), a0⟩, ⟨(.int .i64), a1⟩, ⟨(.int .i64), a2⟩] => some (a0, a1, a2)
  | _, _ => none

noncomputable def racetreeref02_token_dec : Token × Int × Int → Nat × List (TV U) := fun x => (0, [⟨(.st 31), x.1⟩, ⟨(.int .i64), x.2.1⟩, ⟨(.int .i64), x.2.2⟩])

noncomputable def racetreeref02_token_tr : Token × Int × Int → Tr (Nat × List (TV U)) := fun r => (fun x => .ret (0, [⟨(.st 31), x.1⟩, ⟨(.int .i64), x.2.1⟩, ⟨(.int .i64), x.2.2⟩])) r

noncomputable def racetreeref02_token_md : Mode U := ⟨racetreeref02_token_sh, [], racetreeref02_token_os, fun ls => match ls with | [⟨(.slc (.st 41)), a0⟩, ⟨.str, a1⟩, ⟨(.int .i64), a2⟩] => .get (racetreeref02_token a0 a1 a2) racetreeref02_token_tr | _ => .fail⟩

theorem racetreeref02_token_E (a0 : List (Spot)) (a1 : List UInt8) (a2 : Int) : (Kit.withModes kk (modesOf ms44)).fnEval racetreeref02_token_L Tryz.f13 racetreeref02_token_sh racetreeref02_token_os [⟨(.slc (.st 41)), a0⟩, ⟨.str, a1⟩, ⟨(.int .i64), a2⟩] racetreeref02_token_enc = racetreeref02_token_f a0 a1 a2 := by kernel_rfl

theorem racetreeref02_token_post : ∀ ls j rs, (racetreeref02_token_md.sum ls).val = some (j, rs) → FnPost kk env0 13 racetreeref02_token_sh racetreeref02_token_os ls j rs := by
  have inner : LoopsOk (Kit.withModes kk (modesOf ms44)) env0 Tryz.f13.ntmps racetreeref02_token_L (bodyOf Tryz.f13) := by
    exact loopsOk_of (bs := []) (by kernel_rfl) trivial
  intro ls j rs h
  simp only [racetreeref02_token_md] at h
  split at h
  · obtain ⟨r, hr, h⟩ := Tr.get_val h
    rw [racetreeref02_token, sealF_eq] at hr
    have hd : racetreeref02_token_dec r = (j, rs) := by
      exact Option.some.inj h
    refine FnPost.modes.1 (fn_sound (kitOk_of eqOk mixed known44) (by kernel_rfl) inner ((racetreeref02_token_E _ _ _).trans hr) ?_)
    intro i qs he
    unfold racetreeref02_token_enc at he
    split at he <;> cases he <;> (cases hd; exact ⟨rfl, rfl⟩)
  · cases h

noncomputable def ms45 : List (FuncId × Mode U) := (13, racetreeref02_token_md) :: ms44

theorem known45 : Known kk env0 (modesOf ms45) := known_cons (by kernel_rfl) racetreeref02_token_post known44

noncomputable def racetreeref02_Tokens_sh11 : StSh := ⟨⟨[0, 3, 4, 6, 7], [3], [⟨.slot 6, 6, 31, (.st 31)⟩]⟩, [.t .str, .ptr 3 0, .t (.slc (.st 41)), .oslc 6, .t (.int .i64)], [.blk [.t (.int .i64), .t (.int .i64), .t .str], .row 31 (.st 31)]⟩

noncomputable def racetreeref02_Tokens_o11 : List Out := [⟨.exit 2, ⟨⟨[0, 3, 4, 6, 7], [3], [⟨.slot 6, 6, 31, (.st 31)⟩]⟩, [.t .str, .ptr 3 0, .t (.slc (.st 41)), .oslc 6, .t (.int .i64)], [.blk [.t (.int .i64), .t (.int .i64), .t .str], .row 31 (.st 31)]⟩⟩]

noncomputable def racetreeref02_Tokens_b11 : Code := (nthLoop (nthLoop (bodyOf Tryz.f6) 0) 0)

noncomputable def racetreeref02_Tokens_L11 : Nat → Option (Lift.Loop U) := fun n => none

noncomputable def racetreeref02_Tokens_rec11 (rec : List UInt8 → List (Spot) → Int → Int → Int → List UInt8 → List (Token) → Option ((List UInt8) × (List (Spot)) × Int × Int × Int × (List UInt8) × (List (Token)))) : List (TV U) → Option ((List UInt8) × (List (Spot)) × Int × Int × Int × (List UInt8) × (List (Token)))
  | [⟨.str, a0⟩, ⟨(.slc (.st 41)), a1⟩, ⟨(.int .i64), a2⟩, ⟨(.int .i64), a3⟩, ⟨(.int .i64), a4⟩, ⟨.str, a5⟩, ⟨(.slc (.st 31)), a6⟩] => rec a0 a1 a2 a3 a4 a5 a6
  | _ => none

noncomputable def racetreeref02_Tokens_enc11 : Nat → List (TV U) → Option ((List UInt8) × (List (Spot)) × Int × Int × Int × (List UInt8) × (List (Token)))
  | 0, [⟨.str, a0⟩, ⟨(.slc (.st 41)), a1⟩, ⟨(.int .i64), a2⟩, ⟨(.int .i64), a3⟩, ⟨(.int .i64), a4⟩, ⟨.str, a5⟩, ⟨(.slc (.st 31)), a6⟩] => some (a0, a1, a2, a3, a4, a5, a6)
  | _, _ => none

noncomputable def racetreeref02_Tokens_dec11 : (List UInt8) × (List (Spot)) × Int × Int × Int × (List UInt8) × (List (Token)) → Nat × List (TV U) := fun x => (0, [⟨.str, x.1⟩, ⟨(.slc (.st 41)), x.2.1⟩, ⟨(.int .i64), x.2.2.1⟩, ⟨(.int .i64), x.2.2.2.1⟩, ⟨(.int .i64), x.2.2.2.2.1⟩, ⟨.str, x.2.2.2.2.2.1⟩, ⟨(.slc (.st 31)), x.2.2.2.2.2.2⟩])

noncomputable def racetreeref02_Tokens_tr11 : (List UInt8) × (List (Spot)) × Int × Int × Int × (List UInt8) × (List (Token)) → Tr (Nat × List (TV U)) := fun r => (fun x => .ret (0, [⟨.str, x.1⟩, ⟨(.slc (.st 41)), x.2.1⟩, ⟨(.int .i64), x.2.2.1⟩, ⟨(.int .i64), x.2.2.2.1⟩, ⟨(.int .i64), x.2.2.2.2.1⟩, ⟨.str, x.2.2.2.2.2.1⟩, ⟨(.slc (.st 31)), x.2.2.2.2.2.2⟩])) r

noncomputable def racetreeref02_Tokens_lp11 : Lift.Loop U := ⟨racetreeref02_Tokens_sh11, racetreeref02_Tokens_o11, fun ls => match ls with | [⟨.str, a0⟩, ⟨(.slc (.st 41)), a1⟩, ⟨(.int .i64), a2⟩, ⟨(.int .i64), a3⟩, ⟨(.int .i64), a4⟩, ⟨.str, a5⟩, ⟨(.slc (.st 31)), a6⟩] => .get (racetreeref02_Tokens_l11 a0 a1 a2 a3 a4 a5 a6) racetreeref02_Tokens_tr11 | _ => .fail⟩

theorem racetreeref02_Tokens_E11 (rec : List UInt8 → List (Spot) → Int → Int → Int → List UInt8 → List (Token) → Option ((List UInt8) × (List (Spot)) × Int × Int × Int × (List UInt8) × (List (Token)))) (a0 : List UInt8) (a1 : List (Spot)) (a2 : Int) (a3 : Int) (a4 : Int) (a5 : List UInt8) (a6 : List (Token)) : (Kit.withModes kk (modesOf ms45)).turn Tryz.f6.ntmps racetreeref02_Tokens_L11 racetreeref02_Tokens_sh11 racetreeref02_Tokens_o11 racetreeref02_Tokens_b11 [⟨.str, a0⟩, ⟨(.slc (.st 41)), a1⟩, ⟨(.int .i64), a2⟩, ⟨(.int .i64), a3⟩, ⟨(.int .i64), a4⟩, ⟨.str, a5⟩, ⟨(.slc (.st 31)), a6⟩] (racetreeref02_Tokens_rec11 rec) racetreeref02_Tokens_enc11 = racetreeref02_Tokens_t11 rec a0 a1 a2 a3 a4 a5 a6 := by kernel_rfl

theorem racetreeref02_Tokens_ok11 : ∀ ls j rs, (racetreeref02_Tokens_lp11.sum ls).val = some (j, rs) → RoundPost kk env0 Tryz.f6.ntmps racetreeref02_Tokens_b11 racetreeref02_Tokens_lp11.sh racetreeref02_Tokens_lp11.outs ls j rs := by
  have inner : LoopsOk (Kit.withModes kk (modesOf ms45)) env0 Tryz.f6.ntmps racetreeref02_Tokens_L11 racetreeref02_Tokens_b11 := by
    exact loopsOk_of (bs := []) (by kernel_rfl) trivial
  have key : ∀ n a0 a1 a2 a3 a4 a5 a6 r j rs, racetreeref02_Tokens_i11 n a0 a1 a2 a3 a4 a5 a6 = some r → racetreeref02_Tokens_dec11 r = (j, rs) → RoundPost kk env0 Tryz.f6.ntmps racetreeref02_Tokens_b11 racetreeref02_Tokens_sh11 racetreeref02_Tokens_o11 [⟨.str, a0⟩, ⟨(.slc (.st 41)), a1⟩, ⟨(.int .i64), a2⟩, ⟨(.int .i64), a3⟩, ⟨(.int .i64), a4⟩, ⟨.str, a5⟩, ⟨(.slc (.st 31)), a6⟩] j rs := by
    intro n
    induction n with
    | zero => intro a0 a1 a2 a3 a4 a5 a6 r j rs h; cases h
    | succ n ih =>
      intro a0 a1 a2 a3 a4 a5 a6 r j rs h hd
      refine RoundPost.modes.1 (turn_sound (kitOk_of eqOk mixed known45) inner ((racetreeref02_Tokens_E11 (racetreeref02_Tokens_i11 n) a0 a1 a2 a3 a4 a5 a6).trans h) (fun q hq => RoundPost.modes.2 ?_) ?_)
      · unfold racetreeref02_Tokens_rec11 at hq
        split at hq
        · exact ih _ _ _ _ _ _ _ r j rs hq hd
        · cases hq
      · intro i qs he
        unfold racetreeref02_Tokens_enc11 at he
        split at he <;> cases he <;> (cases hd; exact ⟨rfl, rfl⟩)
  intro ls j rs h
  simp only [racetreeref02_Tokens_lp11] at h
  split at h
  · obtain ⟨r, hr, h⟩ := Tr.get_val h
    rw [racetreeref02_Tokens_l11, sealF_eq] at hr
    refine key fuel _ _ _ _ _ _ _ r j rs hr ?_
    exact Option.some.inj h
  · cases h

noncomputable def racetreeref02_Tokens_sh6 : StSh := ⟨⟨[0, 3, 4, 6, 7], [3], [⟨.slot 6, 6, 31, (.st 31)⟩]⟩, [.t .str, .ptr 3 0, .t (.slc (.st 41)), .oslc 6, .t (.int .i64)], [.blk [.t (.int .i64), .t (.int .i64), .t .str], .row 31 (.st 31)]⟩

noncomputable def racetreeref02_Tokens_o6 : List Out := [⟨.ret, ⟨⟨[2, 3], [3], []⟩, [.nil, .ptr 3 0], [.blk [.t (.int .i64), .t (.int .i64), .t .str]]⟩⟩, ⟨.exit 0, ⟨⟨[0, 3, 6], [3], [⟨.slot 6, 6, 31, (.st 31)⟩]⟩, [.t .str, .ptr 3 0, .oslc 6], [.blk [.t (.int .i64), .t (.int .i64), .t .str], .row 31 (.st 31)]⟩⟩]

noncomputable def racetreeref02_Tokens_b6 : Code := (nthLoop (bodyOf Tryz.f6) 0)

noncomputable def racetreeref02_Tokens_L6 : Nat → Option (Lift.Loop U) := fun n => bif Nat.beq n 11 then some racetreeref02_Tokens_lp11 else none

noncomputable def racetreeref02_Tokens_rec6 (rec : List UInt8 → List (Spot) → Int → Int → Int → List UInt8 → List (Token) → Option ((Int × Int × (List UInt8)) ⊕ ((List UInt8) × Int × Int × (List UInt8) × (List (Token))))) : List (TV U) → Option ((Int × Int × (List UInt8)) ⊕ ((List UInt8) × Int × Int × (List UInt8) × (List (Token))))
  | [⟨.str, a0⟩, ⟨(.slc (.st 41)), a1⟩, ⟨(.int .i64), a2⟩, ⟨(.int .i64), a3⟩, ⟨(.int .i64), a4⟩, ⟨.str, a5⟩, ⟨(.slc (.st 31)), a6⟩] => rec a0 a1 a2 a3 a4 a5 a6
  | _ => none

noncomputable def racetreeref02_Tokens_enc6 : Nat → List (TV U) → Option ((Int × Int × (List UInt8)) ⊕ ((List UInt8) × Int × Int × (List UInt8) × (List (Token))))
  | 0, [⟨(.int .i64), a0⟩, ⟨(.int .i64), a1⟩, ⟨.str, a2⟩] => some (.inl (a0, a1, a2))
  | 1, [⟨.str, a0⟩, ⟨(.int .i64), a1⟩, ⟨(.int .i64), a2⟩, ⟨.str, a3⟩, ⟨(.slc (.st 31)), a4⟩] => some (.inr (a0, a1, a2, a3, a4))
  | _, _ => none

noncomputable def racetreeref02_Tokens_dec6 : (Int × Int × (List UInt8)) ⊕ ((List UInt8) × Int × Int × (List UInt8) × (List (Token))) → Nat × List (TV U) := fun r => match r with | (.inl x) => (0, [⟨(.int .i64), x.1⟩, ⟨(.int .i64), x.2.1⟩, ⟨.str, x.2.2⟩]) | (.inr x) => (1, [⟨.str, x.1⟩, ⟨(.int .i64), x.2.1⟩, ⟨(.int .i64), x.2.2.1⟩, ⟨.str, x.2.2.2.1⟩, ⟨(.slc (.st 31)), x.2.2.2.2⟩])

noncomputable def racetreeref02_Tokens_tr6 : (Int × Int × (List UInt8)) ⊕ ((List UInt8) × Int × Int × (List UInt8) × (List (Token))) → Tr (Nat × List (TV U)) := fun r => .alt r (fun x => .ret (0, [⟨(.int .i64), x.1⟩, ⟨(.int .i64), x.2.1⟩, ⟨.str, x.2.2⟩])) (fun y => (fun x => .ret (1, [⟨.str, x.1⟩, ⟨(.int .i64), x.2.1⟩, ⟨(.int .i64), x.2.2.1⟩, ⟨.str, x.2.2.2.1⟩, ⟨(.slc (.st 31)), x.2.2.2.2⟩])) y)

noncomputable def racetreeref02_Tokens_lp6 : Lift.Loop U := ⟨racetreeref02_Tokens_sh6, racetreeref02_Tokens_o6, fun ls => match ls with | [⟨.str, a0⟩, ⟨(.slc (.st 41)), a1⟩, ⟨(.int .i64), a2⟩, ⟨(.int .i64), a3⟩, ⟨(.int .i64), a4⟩, ⟨.str, a5⟩, ⟨(.slc (.st 31)), a6⟩] => .get (racetreeref02_Tokens_l6 a0 a1 a2 a3 a4 a5 a6) racetreeref02_Tokens_tr6 | _ => .fail⟩

theorem racetreeref02_Tokens_E6 (rec : List UInt8 → List (Spot) → Int → Int → Int → List UInt8 → List (Token) → Option ((Int × Int × (List UInt8)) ⊕ ((List UInt8) × Int × Int × (List UInt8) × (List (Token))))) (a0 : List UInt8) (a1 : List (Spot)) (a2 : Int) (a3 : Int) (a4 : Int) (a5 : List UInt8) (a6 : List (Token)) : (Kit.withModes kk (modesOf ms45)).turn Tryz.f6.ntmps racetreeref02_Tokens_L6 racetreeref02_Tokens_sh6 racetreeref02_Tokens_o6 racetreeref02_Tokens_b6 [⟨.str, a0⟩, ⟨(.slc (.st 41)), a1⟩, ⟨(.int .i64), a2⟩, ⟨(.int .i64), a3⟩, ⟨(.int .i64), a4⟩, ⟨.str, a5⟩, ⟨(.slc (.st 31)), a6⟩] (racetreeref02_Tokens_rec6 rec) racetreeref02_Tokens_enc6 = racetreeref02_Tokens_t6 rec a0 a1 a2 a3 a4 a5 a6 := by kernel_rfl

theorem racetreeref02_Tokens_ok6 : ∀ ls j rs, (racetreeref02_Tokens_lp6.sum ls).val = some (j, rs) → RoundPost kk env0 Tryz.f6.ntmps racetreeref02_Tokens_b6 racetreeref02_Tokens_lp6.sh racetreeref02_Tokens_lp6.outs ls j rs := by
  have inner : LoopsOk (Kit.withModes kk (modesOf ms45)) env0 Tryz.f6.ntmps racetreeref02_Tokens_L6 racetreeref02_Tokens_b6 := by
    exact loopsOk_of (bs := [racetreeref02_Tokens_b11]) (by kernel_rfl) ⟨.inr ⟨_, by kernel_rfl, LoopOk.of_round racetreeref02_Tokens_ok11⟩, trivial⟩
  have key : ∀ n a0 a1 a2 a3 a4 a5 a6 r j rs, racetreeref02_Tokens_i6 n a0 a1 a2 a3 a4 a5 a6 = some r → racetreeref02_Tokens_dec6 r = (j, rs) → RoundPost kk env0 Tryz.f6.ntmps racetreeref02_Tokens_b6 racetreeref02_Tokens_sh6 racetreeref02_Tokens_o6 [⟨.str, a0⟩, ⟨(.slc (.st 41)), a1⟩, ⟨(.int .i64), a2⟩, ⟨(.int .i64), a3⟩, ⟨(.int .i64), a4⟩, ⟨.str, a5⟩, ⟨(.slc (.st 31)), a6⟩] j rs := by
    intro n
    induction n with
    | zero => intro a0 a1 a2 a3 a4 a5 a6 r j rs h; cases h
    | succ n ih =>
      intro a0 a1 a2 a3 a4 a5 a6 r j rs h hd
      refine RoundPost.modes.1 (turn_sound (kitOk_of eqOk mixed known45) inner ((racetreeref02_Tokens_E6 (racetreeref02_Tokens_i6 n) a0 a1 a2 a3 a4 a5 a6).trans h) (fun q hq => RoundPost.modes.2 ?_) ?_)
      · unfold racetreeref02_Tokens_rec6 at hq
        split at hq
        · exact ih _ _ _ _ _ _ _ r j rs hq hd
        · cases hq
      · intro i qs he
        unfold racetreeref02_Tokens_enc6 at he
        split at he <;> cases he <;> (cases hd; exact ⟨rfl, rfl⟩)
  intro ls j rs h
  simp only [racetreeref02_Tokens_lp6] at h
  split at h
  · obtain ⟨r, hr, h⟩ := Tr.get_val h
    rw [racetreeref02_Tokens_l6, sealF_eq] at hr
    refine key fuel _ _ _ _ _ _ _ r j rs hr ?_
    rcases r with r | r <;> exact Option.some.inj h
  · cases h

noncomputable def racetreeref02_Tokens_sh : StSh := ⟨⟨[0], [], []⟩, [.t .str], []⟩

noncomputable def racetreeref02_Tokens_os : List StSh := [⟨⟨[0, 1], [], [⟨.slot 0, 100000, 31, (.st 31)⟩]⟩, [.oslc 100000, .t (.st 26)], [.row 31 (.st 31)]⟩]

noncomputable def racetreeref02_Tokens_L : Nat → Option (Lift.Loop U) := fun n => bif Nat.beq n 6 then some racetreeref02_Tokens_lp6 else none

noncomputable def racetreeref02_Tokens_enc : Nat → List (TV U) → Option (Fault × (List (Token)))
  | 0, [⟨(.st 26), a0⟩, ⟨(.slc (.st 31)), a1⟩] => some (a0, a1)
  | _, _ => none

noncomputable def racetreeref02_Tokens_dec : Fault × (List (Token)) → Nat × List (TV U) := fun x => (0, [⟨(.st 26), x.1⟩, ⟨(.slc (.st 31)), x.2⟩])

noncomputable def racetreeref02_Tokens_tr : Fault × (List (Token)) → Tr (Nat × List (TV U)) := fun r => (fun x => .ret (0, [⟨(.st 26), x.1⟩, ⟨(.slc (.st 31)), x.2⟩])) r

noncomputable def racetreeref02_Tokens_md : Mode U := ⟨racetreeref02_Tokens_sh, [], racetreeref02_Tokens_os, fun ls => match ls with | [⟨.str, a0⟩] => .get (racetreeref02_Tokens a0) racetreeref02_Tokens_tr | _ => .fail⟩

theorem racetreeref02_Tokens_E (a0 : List UInt8) : (Kit.withModes kk (modesOf ms45)).fnEval racetreeref02_Tokens_L Tryz.f6 racetreeref02_Tokens_sh racetreeref02_Tokens_os [⟨.str, a0⟩] racetreeref02_Tokens_enc = racetreeref02_Tokens_f a0 := by kernel_rfl

theorem racetreeref02_Tokens_post : ∀ ls j rs, (racetreeref02_Tokens_md.sum ls).val = some (j, rs) → FnPost kk env0 6 racetreeref02_Tokens_sh racetreeref02_Tokens_os ls j rs := by
  have inner : LoopsOk (Kit.withModes kk (modesOf ms45)) env0 Tryz.f6.ntmps racetreeref02_Tokens_L (bodyOf Tryz.f6) := by
    exact loopsOk_of (bs := [racetreeref02_Tokens_b6]) (by kernel_rfl) ⟨.inr ⟨_, by kernel_rfl, LoopOk.of_round racetreeref02_Tokens_ok6⟩, trivial⟩
  intro ls j rs h
  simp only [racetreeref02_Tokens_md] at h
  split at h
  · obtain ⟨r, hr, h⟩ := Tr.get_val h
    rw [racetreeref02_Tokens, sealF_eq] at hr
    have hd : racetreeref02_Tokens_dec r = (j, rs) := by
      exact Option.some.inj h
    refine FnPost.modes.1 (fn_sound (kitOk_of eqOk mixed known45) (by kernel_rfl) inner ((racetreeref02_Tokens_E _).trans hr) ?_)
    intro i qs he
    unfold racetreeref02_Tokens_enc at he
    split at he <;> cases he <;> (cases hd; exact ⟨rfl, rfl⟩)
  · cases h

noncomputable def ms46 : List (FuncId × Mode U) := (6, racetreeref02_Tokens_md) :: ms45

theorem known46 : Known kk env0 (modesOf ms46) := known_cons (by kernel_rfl) racetreeref02_Tokens_post known45

noncomputable def racetreelaw02_same_sh4 : StSh := ⟨⟨[0, 1, 2, 7], [], []⟩, [.t (.slc (.st 31)), .t (.slc (.st 31)), .t .bool, .t (.int .i64)], []⟩

noncomputable def racetreelaw02_same_o4 : List Out := [⟨.ret, ⟨⟨[6], [], []⟩, [.t .bool], []⟩⟩, ⟨.exit 0, ⟨⟨[], [], []⟩, [], []⟩⟩]

noncomputable def racetreelaw02_same_b4 : Code := (nthLoop (bodyOf Tryz.f8) 0)

noncomputable def racetreelaw02_same_L4 : Nat → Option (Lift.Loop U) := fun n => none

noncomputable def racetreelaw02_same_rec4 (rec : List (Token) → List (Token) → Bool → Int → Option ((Bool) ⊕ (Unit))) : List (TV U) → Option ((Bool) ⊕ (Unit))
  | [⟨(.slc (.st 31)), a0⟩, ⟨(.slc (.st 31)), a1⟩, ⟨.bool, a2⟩, ⟨(.int .i64), a3⟩] => rec a0 a1 a2 a3
  | _ => none

noncomputable def racetreelaw02_same_enc4 : Nat → List (TV U) → Option ((Bool) ⊕ (Unit))
  | 0, [⟨.bool, a0⟩] => some (.inl a0)
  | 1, [] => some (.inr ())
  | _, _ => none

noncomputable def racetreelaw02_same_dec4 : (Bool) ⊕ (Unit) → Nat × List (TV U) := fun r => match r with | (.inl x) => (0, [⟨.bool, x⟩]) | (.inr x) => (1, [])

noncomputable def racetreelaw02_same_tr4 : (Bool) ⊕ (Unit) → Tr (Nat × List (TV U)) := fun r => .alt r (fun x => .ret (0, [⟨.bool, x⟩])) (fun y => (fun x => .ret (1, [])) y)

noncomputable def racetreelaw02_same_lp4 : Lift.Loop U := ⟨racetreelaw02_same_sh4, racetreelaw02_same_o4, fun ls => match ls with | [⟨(.slc (.st 31)), a0⟩, ⟨(.slc (.st 31)), a1⟩, ⟨.bool, a2⟩, ⟨(.int .i64), a3⟩] => .get (racetreelaw02_same_l4 a0 a1 a2 a3) racetreelaw02_same_tr4 | _ => .fail⟩

theorem racetreelaw02_same_E4 (rec : List (Token) → List (Token) → Bool → Int → Option ((Bool) ⊕ (Unit))) (a0 : List (Token)) (a1 : List (Token)) (a2 : Bool) (a3 : Int) : (Kit.withModes kk (modesOf ms46)).turn Tryz.f8.ntmps racetreelaw02_same_L4 racetreelaw02_same_sh4 racetreelaw02_same_o4 racetreelaw02_same_b4 [⟨(.slc (.st 31)), a0⟩, ⟨(.slc (.st 31)), a1⟩, ⟨.bool, a2⟩, ⟨(.int .i64), a3⟩] (racetreelaw02_same_rec4 rec) racetreelaw02_same_enc4 = racetreelaw02_same_t4 rec a0 a1 a2 a3 := by kernel_rfl

theorem racetreelaw02_same_ok4 : ∀ ls j rs, (racetreelaw02_same_lp4.sum ls).val = some (j, rs) → RoundPost kk env0 Tryz.f8.ntmps racetreelaw02_same_b4 racetreelaw02_same_lp4.sh racetreelaw02_same_lp4.outs ls j rs := by
  have inner : LoopsOk (Kit.withModes kk (modesOf ms46)) env0 Tryz.f8.ntmps racetreelaw02_same_L4 racetreelaw02_same_b4 := by
    exact loopsOk_of (bs := []) (by kernel_rfl) trivial
  have key : ∀ n a0 a1 a2 a3 r j rs, racetreelaw02_same_i4 n a0 a1 a2 a3 = some r → racetreelaw02_same_dec4 r = (j, rs) → RoundPost kk env0 Tryz.f8.ntmps racetreelaw02_same_b4 racetreelaw02_same_sh4 racetreelaw02_same_o4 [⟨(.slc (.st 31)), a0⟩, ⟨(.slc (.st 31)), a1⟩, ⟨.bool, a2⟩, ⟨(.int .i64), a3⟩] j rs := by
    intro n
    induction n with
    | zero => intro a0 a1 a2 a3 r j rs h; cases h
    | succ n ih =>
      intro a0 a1 a2 a3 r j rs h hd
      refine RoundPost.modes.1 (turn_sound (kitOk_of eqOk mixed known46) inner ((racetreelaw02_same_E4 (racetreelaw02_same_i4 n) a0 a1 a2 a3).trans h) (fun q hq => RoundPost.modes.2 ?_) ?_)
      · unfold racetreelaw02_same_rec4 at hq
        split at hq
        · exact ih _ _ _ _ r j rs hq hd
        · cases hq
      · intro i qs he
        unfold racetreelaw02_same_enc4 at he
        split at he <;> cases he <;> (cases hd; exact ⟨rfl, rfl⟩)
  intro ls j rs h
  simp only [racetreelaw02_same_lp4] at h
  split at h
  · obtain ⟨r, hr, h⟩ := Tr.get_val h
    rw [racetreelaw02_same_l4, sealF_eq] at hr
    refine key fuel _ _ _ _ r j rs hr ?_
    rcases r with r | r <;> exact Option.some.inj h
  · cases h

noncomputable def racetreelaw02_same_sh : StSh := ⟨⟨[0, 1, 2], [], []⟩, [.t (.slc (.st 31)), .t (.slc (.st 31)), .t .bool], []⟩

noncomputable def racetreelaw02_same_os : List StSh := [⟨⟨[0], [], []⟩, [.t .bool], []⟩]

noncomputable def racetreelaw02_same_L : Nat → Option (Lift.Loop U) := fun n => bif Nat.beq n 4 then some racetreelaw02_same_lp4 else none

noncomputable def racetreelaw02_same_enc : Nat → List (TV U) → Option (Bool)
  | 0, [⟨.bool, a0⟩] => some a0
  | _, _ => none

noncomputable def racetreelaw02_same_dec : Bool → Nat × List (TV U) := fun x => (0, [⟨.bool, x⟩])

noncomputable def racetreelaw02_same_tr : Bool → Tr (Nat × List (TV U)) := fun r => (fun x => .ret (0, [⟨.bool, x⟩])) r

noncomputable def racetreelaw02_same_md : Mode U := ⟨racetreelaw02_same_sh, [], racetreelaw02_same_os, fun ls => match ls with | [⟨(.slc (.st 31)), a0⟩, ⟨(.slc (.st 31)), a1⟩, ⟨.bool, a2⟩] => .get (racetreelaw02_same a0 a1 a2) racetreelaw02_same_tr | _ => .fail⟩

theorem racetreelaw02_same_E (a0 : List (Token)) (a1 : List (Token)) (a2 : Bool) : (Kit.withModes kk (modesOf ms46)).fnEval racetreelaw02_same_L Tryz.f8 racetreelaw02_same_sh racetreelaw02_same_os [⟨(.slc (.st 31)), a0⟩, ⟨(.slc (.st 31)), a1⟩, ⟨.bool, a2⟩] racetreelaw02_same_enc = racetreelaw02_same_f a0 a1 a2 := by kernel_rfl

theorem racetreelaw02_same_post : ∀ ls j rs, (racetreelaw02_same_md.sum ls).val = some (j, rs) → FnPost kk env0 8 racetreelaw02_same_sh racetreelaw02_same_os ls j rs := by
  have inner : LoopsOk (Kit.withModes kk (modesOf ms46)) env0 Tryz.f8.ntmps racetreelaw02_same_L (bodyOf Tryz.f8) := by
    exact loopsOk_of (bs := [racetreelaw02_same_b4]) (by kernel_rfl) ⟨.inr ⟨_, by kernel_rfl, LoopOk.of_round racetreelaw02_same_ok4⟩, trivial⟩
  intro ls j rs h
  simp only [racetreelaw02_same_md] at h
  split at h
  · obtain ⟨r, hr, h⟩ := Tr.get_val h
    rw [racetreelaw02_same, sealF_eq] at hr
    have hd : racetreelaw02_same_dec r = (j, rs) := by
      exact Option.some.inj h
    refine FnPost.modes.1 (fn_sound (kitOk_of eqOk mixed known46) (by kernel_rfl) inner ((racetreelaw02_same_E _ _ _).trans hr) ?_)
    intro i qs he
    unfold racetreelaw02_same_enc at he
    split at he <;> cases he <;> (cases hd; exact ⟨rfl, rfl⟩)
  · cases h

noncomputable def ms47 : List (FuncId × Mode U) := (8, racetreelaw02_same_md) :: ms46

theorem known47 : Known kk env0 (modesOf ms47) := known_cons (by kernel_rfl) racetreelaw02_same_post known46

noncomputable def racetreelaw02_LexTokens_sh6 : StSh := ⟨⟨[0, 3, 4, 5, 6, 7, 8, 9], [5, 7], [⟨.slot 4, 4, 31, (.st 31)⟩, ⟨.slot 6, 6, 31, (.st 31)⟩]⟩, [.t .str, .t .bool, .oslc 4, .ptr 5 0, .oslc 6, .ptr 7 0, .t .bool, .t (.int .i64)], [.blk [.t (.int .i64), .t (.int .i64), .t .str], .blk [.t (.int .i64), .t (.int .i64), .t .str], .row 31 (.st 31), .row 31 (.st 31)]⟩

noncomputable def racetreelaw02_LexTokens_o6 : List Out := [⟨.exit 0, ⟨⟨[0, 3, 4, 5, 6, 7, 8], [5, 7], [⟨.slot 4, 4, 31, (.st 31)⟩, ⟨.slot 6, 6, 31, (.st 31)⟩]⟩, [.t .str, .t .bool, .oslc 4, .ptr 5 0, .oslc 6, .ptr 7 0, .t .bool], [.blk [.t (.int .i64), .t (.int .i64), .t .str], .blk [.t (.int .i64), .t (.int .i64), .t .str], .row 31 (.st 31), .row 31 (.st 31)]⟩⟩]

noncomputable def racetreelaw02_LexTokens_b6 : Code := (nthLoop (bodyOf Tryz.f3) 0)

noncomputable def racetreelaw02_LexTokens_L6 : Nat → Option (Lift.Loop U) := fun n => none

noncomputable def racetreelaw02_LexTokens_rec6 (rec : List UInt8 → Bool → Bool → Int → Int → Int → List UInt8 → Int → Int → List UInt8 → List (Token) → List (Token) → Option ((List UInt8) × Bool × Bool × Int × Int × (List UInt8) × Int × Int × (List UInt8) × (List (Token)) × (List (Token)))) : List (TV U) → Option ((List UInt8) × Bool × Bool × Int × Int × (List UInt8) × Int × Int × (List UInt8) × (List (Token)) × (List (Token)))
  | [⟨.str, a0⟩, ⟨.bool, a1⟩, ⟨.bool, a2⟩, ⟨(.int .i64), a3⟩, ⟨(.int .i64), a4⟩, ⟨(.int .i64), a5⟩, ⟨.str, a6⟩, ⟨(.int .i64), a7⟩, ⟨(.int .i64), a8⟩, ⟨.str, a9⟩, ⟨(.slc (.st 31)), a10⟩, ⟨(.slc (.st 31)), a11⟩] => rec a0 a1 a2 a3 a4 a5 a6 a7 a8 a9 a10 a11
  | _ => none

noncomputable def racetreelaw02_LexTokens_enc6 : Nat → List (TV U) → Option ((List UInt8) × Bool × Bool × Int × Int × (List UInt8) × Int × Int × (List UInt8) × (List (Token)) × (List (Token)))
  | 0, [⟨.str, a0⟩, ⟨.bool, a1⟩, ⟨.bool, a2⟩, ⟨(.int .i64), a3⟩, ⟨(.int .i64), a4⟩, ⟨.str, a5⟩, ⟨(.int .i64), a6⟩, ⟨(.int .i64), a7⟩, ⟨.str, a8⟩, ⟨(.slc (.st 31)), a9⟩, ⟨(.slc (.st 31)), a10⟩] => some (a0, a1, a2, a3, a4, a5, a6, a7, a8, a9, a10)
  | _, _ => none

noncomputable def racetreelaw02_LexTokens_dec6 : (List UInt8) × Bool × Bool × Int × Int × (List UInt8) × Int × Int × (List UInt8) × (List (Token)) × (List (Token)) → Nat × List (TV U) := fun x => (0, [⟨.str, x.1⟩, ⟨.bool, x.2.1⟩, ⟨.bool, x.2.2.1⟩, ⟨(.int .i64), x.2.2.2.1⟩, ⟨(.int .i64), x.2.2.2.2.1⟩, ⟨.str, x.2.2.2.2.2.1⟩, ⟨(.int .i64), x.2.2.2.2.2.2.1⟩, ⟨(.int .i64), x.2.2.2.2.2.2.2.1⟩, ⟨.str, x.2.2.2.2.2.2.2.2.1⟩, ⟨(.slc (.st 31)), x.2.2.2.2.2.2.2.2.2.1⟩, ⟨(.slc (.st 31)), x.2.2.2.2.2.2.2.2.2.2⟩])

noncomputable def racetreelaw02_LexTokens_tr6 : (List UInt8) × Bool × Bool × Int × Int × (List UInt8) × Int × Int × (List UInt8) × (List (Token)) × (List (Token)) → Tr (Nat × List (TV U)) := fun r => (fun x => .ret (0, [⟨.str, x.1⟩, ⟨.bool, x.2.1⟩, ⟨.bool, x.2.2.1⟩, ⟨(.int .i64), x.2.2.2.1⟩, ⟨(.int .i64), x.2.2.2.2.1⟩, ⟨.str, x.2.2.2.2.2.1⟩, ⟨(.int .i64), x.2.2.2.2.2.2.1⟩, ⟨(.int .i64), x.2.2.2.2.2.2.2.1⟩, ⟨.str, x.2.2.2.2.2.2.2.2.1⟩, ⟨(.slc (.st 31)), x.2.2.2.2.2.2.2.2.2.1⟩, ⟨(.slc (.st 31)), x.2.2.2.2.2.2.2.2.2.2⟩])) r

noncomputable def racetreelaw02_LexTokens_lp6 : Lift.Loop U := ⟨racetreelaw02_LexTokens_sh6, racetreelaw02_LexTokens_o6, fun ls => match ls with | [⟨.str, a0⟩, ⟨.bool, a1⟩, ⟨.bool, a2⟩, ⟨(.int .i64), a3⟩, ⟨(.int .i64), a4⟩, ⟨(.int .i64), a5⟩, ⟨.str, a6⟩, ⟨(.int .i64), a7⟩, ⟨(.int .i64), a8⟩, ⟨.str, a9⟩, ⟨(.slc (.st 31)), a10⟩, ⟨(.slc (.st 31)), a11⟩] => .get (racetreelaw02_LexTokens_l6 a0 a1 a2 a3 a4 a5 a6 a7 a8 a9 a10 a11) racetreelaw02_LexTokens_tr6 | _ => .fail⟩

theorem racetreelaw02_LexTokens_E6 (rec : List UInt8 → Bool → Bool → Int → Int → Int → List UInt8 → Int → Int → List UInt8 → List (Token) → List (Token) → Option ((List UInt8) × Bool × Bool × Int × Int × (List UInt8) × Int × Int × (List UInt8) × (List (Token)) × (List (Token)))) (a0 : List UInt8) (a1 : Bool) (a2 : Bool) (a3 : Int) (a4 : Int) (a5 : Int) (a6 : List UInt8) (a7 : Int) (a8 : Int) (a9 : List UInt8) (a10 : List (Token)) (a11 : List (Token)) : (Kit.withModes kk (modesOf ms47)).turn Tryz.f3.ntmps racetreelaw02_LexTokens_L6 racetreelaw02_LexTokens_sh6 racetreelaw02_LexTokens_o6 racetreelaw02_LexTokens_b6 [⟨.str, a0⟩, ⟨.bool, a1⟩, ⟨.bool, a2⟩, ⟨(.int .i64), a3⟩, ⟨(.int .i64), a4⟩, ⟨(.int .i64), a5⟩, ⟨.str, a6⟩, ⟨(.int .i64), a7⟩, ⟨(.int .i64), a8⟩, ⟨.str, a9⟩, ⟨(.slc (.st 31)), a10⟩, ⟨(.slc (.st 31)), a11⟩] (racetreelaw02_LexTokens_rec6 rec) racetreelaw02_LexTokens_enc6 = racetreelaw02_LexTokens_t6 rec a0 a1 a2 a3 a4 a5 a6 a7 a8 a9 a10 a11 := by kernel_rfl

theorem racetreelaw02_LexTokens_ok6 : ∀ ls j rs, (racetreelaw02_LexTokens_lp6.sum ls).val = some (j, rs) → RoundPost kk env0 Tryz.f3.ntmps racetreelaw02_LexTokens_b6 racetreelaw02_LexTokens_lp6.sh racetreelaw02_LexTokens_lp6.outs ls j rs := by
  have inner : LoopsOk (Kit.withModes kk (modesOf ms47)) env0 Tryz.f3.ntmps racetreelaw02_LexTokens_L6 racetreelaw02_LexTokens_b6 := by
    exact loopsOk_of (bs := []) (by kernel_rfl) trivial
  have key : ∀ n a0 a1 a2 a3 a4 a5 a6 a7 a8 a9 a10 a11 r j rs, racetreelaw02_LexTokens_i6 n a0 a1 a2 a3 a4 a5 a6 a7 a8 a9 a10 a11 = some r → racetreelaw02_LexTokens_dec6 r = (j, rs) → RoundPost kk env0 Tryz.f3.ntmps racetreelaw02_LexTokens_b6 racetreelaw02_LexTokens_sh6 racetreelaw02_LexTokens_o6 [⟨.str, a0⟩, ⟨.bool, a1⟩, ⟨.bool, a2⟩, ⟨(.int .i64), a3⟩, ⟨(.int .i64), a4⟩, ⟨(.int .i64), a5⟩, ⟨.str, a6⟩, ⟨(.int .i64), a7⟩, ⟨(.int .i64), a8⟩, ⟨.str, a9⟩, ⟨(.slc (.st 31)), a10⟩, ⟨(.slc (.st 31)), a11⟩] j rs := by
    intro n
    induction n with
    | zero => intro a0 a1 a2 a3 a4 a5 a6 a7 a8 a9 a10 a11 r j rs h; cases h
    | succ n ih =>
      intro a0 a1 a2 a3 a4 a5 a6 a7 a8 a9 a10 a11 r j rs h hd
      refine RoundPost.modes.1 (turn_sound (kitOk_of eqOk mixed known47) inner ((racetreelaw02_LexTokens_E6 (racetreelaw02_LexTokens_i6 n) a0 a1 a2 a3 a4 a5 a6 a7 a8 a9 a10 a11).trans h) (fun q hq => RoundPost.modes.2 ?_) ?_)
      · unfold racetreelaw02_LexTokens_rec6 at hq
        split at hq
        · exact ih _ _ _ _ _ _ _ _ _ _ _ _ r j rs hq hd
        · cases hq
      · intro i qs he
        unfold racetreelaw02_LexTokens_enc6 at he
        split at he <;> cases he <;> (cases hd; exact ⟨rfl, rfl⟩)
  intro ls j rs h
  simp only [racetreelaw02_LexTokens_lp6] at h
  split at h
  · obtain ⟨r, hr, h⟩ := Tr.get_val h
    rw [racetreelaw02_LexTokens_l6, sealF_eq] at hr
    refine key fuel _ _ _ _ _ _ _ _ _ _ _ _ r j rs hr ?_
    exact Option.some.inj h
  · cases h

noncomputable def racetreelaw02_LexTokens_sh : StSh := ⟨⟨[0], [], []⟩, [.t .str], []⟩

noncomputable def racetreelaw02_LexTokens_os : List StSh := [⟨⟨[0], [], []⟩, [.t .bool], []⟩]

noncomputable def racetreelaw02_LexTokens_L : Nat → Option (Lift.Loop U) := fun n => bif Nat.beq n 6 then some racetreelaw02_LexTokens_lp6 else none

noncomputable def racetreelaw02_LexTokens_enc : Nat → List (TV U) → Option (Bool)
  | 0, [⟨.bool, a0⟩] => some a0
  | _, _ => none

noncomputable def racetreelaw02_LexTokens_dec : Bool → Nat × List (TV U) := fun x => (0, [⟨.bool, x⟩])

noncomputable def racetreelaw02_LexTokens_tr : Bool → Tr (Nat × List (TV U)) := fun r => (fun x => .ret (0, [⟨.bool, x⟩])) r

noncomputable def racetreelaw02_LexTokens_md : Mode U := ⟨racetreelaw02_LexTokens_sh, [], racetreelaw02_LexTokens_os, fun ls => match ls with | [⟨.str, a0⟩] => .get (racetreelaw02_LexTokens a0) racetreelaw02_LexTokens_tr | _ => .fail⟩

theorem racetreelaw02_LexTokens_E (a0 : List UInt8) : (Kit.withModes kk (modesOf ms47)).fnEval racetreelaw02_LexTokens_L Tryz.f3 racetreelaw02_LexTokens_sh racetreelaw02_LexTokens_os [⟨.str, a0⟩] racetreelaw02_LexTokens_enc = racetreelaw02_LexTokens_f a0 := by kernel_rfl

theorem racetreelaw02_LexTokens_post : ∀ ls j rs, (racetreelaw02_LexTokens_md.sum ls).val = some (j, rs) → FnPost kk env0 3 racetreelaw02_LexTokens_sh racetreelaw02_LexTokens_os ls j rs := by
  have inner : LoopsOk (Kit.withModes kk (modesOf ms47)) env0 Tryz.f3.ntmps racetreelaw02_LexTokens_L (bodyOf Tryz.f3) := by
    exact loopsOk_of (bs := [racetreelaw02_LexTokens_b6]) (by kernel_rfl) ⟨.inr ⟨_, by kernel_rfl, LoopOk.of_round racetreelaw02_LexTokens_ok6⟩, trivial⟩
  intro ls j rs h
  simp only [racetreelaw02_LexTokens_md] at h
  split at h
  · obtain ⟨r, hr, h⟩ := Tr.get_val h
    rw [racetreelaw02_LexTokens, sealF_eq] at hr
    have hd : racetreelaw02_LexTokens_dec r = (j, rs) := by
      exact Option.some.inj h
    refine FnPost.modes.1 (fn_sound (kitOk_of eqOk mixed known47) (by kernel_rfl) inner ((racetreelaw02_LexTokens_E _).trans hr) ?_)
    intro i qs he
    unfold racetreelaw02_LexTokens_enc at he
    split at he <;> cases he <;> (cases hd; exact ⟨rfl, rfl⟩)
  · cases h

noncomputable def ms48 : List (FuncId × Mode U) := (3, racetreelaw02_LexTokens_md) :: ms47

theorem known48 : Known kk env0 (modesOf ms48) := known_cons (by kernel_rfl) racetreelaw02_LexTokens_post known47

noncomputable def racetreeref02_may_sh2 : StSh := ⟨⟨[0, 3], [], []⟩, [.t (.slc (.st 31)), .t (.int .i64)], []⟩

noncomputable def racetreeref02_may_o2 : List Out := [⟨.ret, ⟨⟨[2], [], []⟩, [.t .bool], []⟩⟩, ⟨.exit 0, ⟨⟨[], [], []⟩, [], []⟩⟩]

noncomputable def racetreeref02_may_b2 : Code := (nthLoop (bodyOf Tryz.f17) 0)

noncomputable def racetreeref02_may_L2 : Nat → Option (Lift.Loop U) := fun n => none

noncomputable def racetreeref02_may_rec2 (rec : List (Token) → Int → Option ((Bool) ⊕ (Unit))) : List (TV U) → Option ((Bool) ⊕ (Unit))
  | [⟨(.slc (.st 31)), a0⟩, ⟨(.int .i64), a1⟩] => rec a0 a1
  | _ => none

noncomputable def racetreeref02_may_enc2 : Nat → List (TV U) → Option ((Bool) ⊕ (Unit))
  | 0, [⟨.bool, a0⟩] => some (.inl a0)
  | 1, [] => some (.inr ())
  | _, _ => none

noncomputable def racetreeref02_may_dec2 : (Bool) ⊕ (Unit) → Nat × List (TV U) := fun r => match r with | (.inl x) => (0, [⟨.bool, x⟩]) | (.inr x) => (1, [])

noncomputable def racetreeref02_may_tr2 : (Bool) ⊕ (Unit) → Tr (Nat × List (TV U)) := fun r => .alt r (fun x => .ret (0, [⟨.bool, x⟩])) (fun y => (fun x => .ret (1, [])) y)

noncomputable def racetreeref02_may_lp2 : Lift.Loop U := ⟨racetreeref02_may_sh2, racetreeref02_may_o2, fun ls => match ls with | [⟨(.slc (.st 31)), a0⟩, ⟨(.int .i64), a1⟩] => .get (racetreeref02_may_l2 a0 a1) racetreeref02_may_tr2 | _ => .fail⟩

theorem racetreeref02_may_E2 (rec : List (Token) → Int → Option ((Bool) ⊕ (Unit))) (a0 : List (Token)) (a1 : Int) : (Kit.withModes kk (modesOf ms48)).turn Tryz.f17.ntmps racetreeref02_may_L2 racetreeref02_may_sh2 racetreeref02_may_o2 racetreeref02_may_b2 [⟨(.slc (.st 31)), a0⟩, ⟨(.int .i64), a1⟩] (racetreeref02_may_rec2 rec) racetreeref02_may_enc2 = racetreeref02_may_t2 rec a0 a1 := by kernel_rfl

theorem racetreeref02_may_ok2 : ∀ ls j rs, (racetreeref02_may_lp2.sum ls).val = some (j, rs) → RoundPost kk env0 Tryz.f17.ntmps racetreeref02_may_b2 racetreeref02_may_lp2.sh racetreeref02_may_lp2.outs ls j rs := by
  have inner : LoopsOk (Kit.withModes kk (modesOf ms48)) env0 Tryz.f17.ntmps racetreeref02_may_L2 racetreeref02_may_b2 := by
    exact loopsOk_of (bs := []) (by kernel_rfl) trivial
  have key : ∀ n a0 a1 r j rs, racetreeref02_may_i2 n a0 a1 = some r → racetreeref02_may_dec2 r = (j, rs) → RoundPost kk env0 Tryz.f17.ntmps racetreeref02_may_b2 racetreeref02_may_sh2 racetreeref02_may_o2 [⟨(.slc (.st 31)), a0⟩, ⟨(.int .i64), a1⟩] j rs := by
    intro n
    induction n with
    | zero => intro a0 a1 r j rs h; cases h
    | succ n ih =>
      intro a0 a1 r j rs h hd
      refine RoundPost.modes.1 (turn_sound (kitOk_of eqOk mixed known48) inner ((racetreeref02_may_E2 (racetreeref02_may_i2 n) a0 a1).trans h) (fun q hq => RoundPost.modes.2 ?_) ?_)
      · unfold racetreeref02_may_rec2 at hq
        split at hq
        · exact ih _ _ r j rs hq hd
        · cases hq
      · intro i qs he
        unfold racetreeref02_may_enc2 at he
        split at he <;> cases he <;> (cases hd; exact ⟨rfl, rfl⟩)
  intro ls j rs h
  simp only [racetreeref02_may_lp2] at h
  split at h
  · obtain ⟨r, hr, h⟩ := Tr.get_val h
    rw [racetreeref02_may_l2, sealF_eq] at hr
    refine key fuel _ _ r j rs hr ?_
    rcases r with r | r <;> exact Option.some.inj h
  · cases h

noncomputable def racetreeref02_may_sh : StSh := ⟨⟨[0], [], []⟩, [.t (.slc (.st 31))], []⟩

noncomputable def racetreeref02_may_os : List StSh := [⟨⟨[0], [], []⟩, [.t .bool], []⟩]

noncomputable def racetreeref02_may_L : Nat → Option (Lift.Loop U) := fun n => bif Nat.beq n 2 then some racetreeref02_may_lp2 else none

noncomputable def racetreeref02_may_enc : Nat → List (TV U) → Option (Bool)
  | 0, [⟨.bool, a0⟩] => some a0
  | _, _ => none

noncomputable def racetreeref02_may_dec : Bool → Nat × List (TV U) := fun x => (0, [⟨.bool, x⟩])

noncomputable def racetreeref02_may_tr : Bool → Tr (Nat × List (TV U)) := fun r => (fun x => .ret (0, [⟨.bool, x⟩])) r

noncomputable def racetreeref02_may_md : Mode U := ⟨racetreeref02_may_sh, [], racetreeref02_may_os, fun ls => match ls with | [⟨(.slc (.st 31)), a0⟩] => .get (racetreeref02_may a0) racetreeref02_may_tr | _ => .fail⟩

theorem racetreeref02_may_E (a0 : List (Token)) : (Kit.withModes kk (modesOf ms48)).fnEval racetreeref02_may_L Tryz.f17 racetreeref02_may_sh racetreeref02_may_os [⟨(.slc (.st 31)), a0⟩] racetreeref02_may_enc = racetreeref02_may_f a0 := by kernel_rfl

theorem racetreeref02_may_post : ∀ ls j rs, (racetreeref02_may_md.sum ls).val = some (j, rs) → FnPost kk env0 17 racetreeref02_may_sh racetreeref02_may_os ls j rs := by
  have inner : LoopsOk (Kit.withModes kk (modesOf ms48)) env0 Tryz.f17.ntmps racetreeref02_may_L (bodyOf Tryz.f17) := by
    exact loopsOk_of (bs := [racetreeref02_may_b2]) (by kernel_rfl) ⟨.inr ⟨_, by kernel_rfl, LoopOk.of_round racetreeref02_may_ok2⟩, trivial⟩
  intro ls j rs h
  simp only [racetreeref02_may_md] at h
  split at h
  · obtain ⟨r, hr, h⟩ := Tr.get_val h
    rw [racetreeref02_may, sealF_eq] at hr
    have hd : racetreeref02_may_dec r = (j, rs) := by
      exact Option.some.inj h
    refine FnPost.modes.1 (fn_sound (kitOk_of eqOk mixed known48) (by kernel_rfl) inner ((racetreeref02_may_E _).trans hr) ?_)
    intro i qs he
    unfold racetreeref02_may_enc at he
    split at he <;> cases he <;> (cases hd; exact ⟨rfl, rfl⟩)
  · cases h

noncomputable def ms49 : List (FuncId × Mode U) := (17, racetreeref02_may_md) :: ms48

theorem known49 : Known kk env0 (modesOf ms49) := known_cons (by kernel_rfl) racetreeref02_may_post known48

noncomputable def racetreeref02_Join_sh6 : StSh := ⟨⟨[0, 5, 6], [], []⟩, [.t (.slc (.st 31)), .t (.int .i64), .t (.int .i64)], []⟩

noncomputable def racetreeref02_Join_o6 : List Out := [⟨.ret, ⟨⟨[2, 3], [], []⟩, [.t .str, .t (.int .i64)], []⟩⟩, ⟨.exit 0, ⟨⟨[0], [], []⟩, [.t (.slc (.st 31))], []⟩⟩]

noncomputable def racetreeref02_Join_b6 : Code := (nthLoop (bodyOf Tryz.f9) 0)

noncomputable def racetreeref02_Join_L6 : Nat → Option (Lift.Loop U) := fun n => none

noncomputable def racetreeref02_Join_rec6 (rec : List (Token) → Int → Int → Option (((List UInt8) × Int) ⊕ ((List (Token))))) : List (TV U) → Option (((List UInt8) × Int) ⊕ ((List (Token))))
  | [⟨(.slc (.st 31)), a0⟩, ⟨(.int .i64), a1⟩, ⟨(.int .i64), a2⟩] => rec a0 a1 a2
  | _ => none

noncomputable def racetreeref02_Join_enc6 : Nat → List (TV U) → Option (((List UInt8) × Int) ⊕ ((List (Token))))
  | 0, [⟨.str, a0⟩, ⟨(.int .i64), a1⟩] => some (.inl (a0, a1))
  | 1, [⟨(.slc (.st 31)), a0⟩] => some (.inr a0)
  | _, _ => none

noncomputable def racetreeref02_Join_dec6 : ((List UInt8) × Int) ⊕ ((List (Token))) → Nat × List (TV U) := fun r => match r with | (.inl x) => (0, [⟨.str, x.1⟩, ⟨(.int .i64), x.2⟩]) | (.inr x) => (1, [⟨(.slc (.st 31)), x⟩])

noncomputable def racetreeref02_Join_tr6 : ((List UInt8) × Int) ⊕ ((List (Token))) → Tr (Nat × List (TV U)) := fun r => .alt r (fun x => .ret (0, [⟨.str, x.1⟩, ⟨(.int .i64), x.2⟩])) (fun y => (fun x => .ret (1, [⟨(.slc (.st 31)), x⟩])) y)

noncomputable def racetreeref02_Join_lp6 : Lift.Loop U := ⟨racetreeref02_Join_sh6, racetreeref02_Join_o6, fun ls => match ls with | [⟨(.slc (.st 31)), a0⟩, ⟨(.int .i64), a1⟩, ⟨(.int .i64), a2⟩] => .get (racetreeref02_Join_l6 a0 a1 a2) racetreeref02_Join_tr6 | _ => .fail⟩

theorem racetreeref02_Join_E6 (rec : List (Token) → Int → Int → Option (((List UInt8) × Int) ⊕ ((List (Token))))) (a0 : List (Token)) (a1 : Int) (a2 : Int) : (Kit.withModes kk (modesOf ms49)).turn Tryz.f9.ntmps racetreeref02_Join_L6 racetreeref02_Join_sh6 racetreeref02_Join_o6 racetreeref02_Join_b6 [⟨(.slc (.st 31)), a0⟩, ⟨(.int .i64), a1⟩, ⟨(.int .i64), a2⟩] (racetreeref02_Join_rec6 rec) racetreeref02_Join_enc6 = racetreeref02_Join_t6 rec a0 a1 a2 := by kernel_rfl

theorem racetreeref02_Join_ok6 : ∀ ls j rs, (racetreeref02_Join_lp6.sum ls).val = some (j, rs) → RoundPost kk env0 Tryz.f9.ntmps racetreeref02_Join_b6 racetreeref02_Join_lp6.sh racetreeref02_Join_lp6.outs ls j rs := by
  have inner : LoopsOk (Kit.withModes kk (modesOf ms49)) env0 Tryz.f9.ntmps racetreeref02_Join_L6 racetreeref02_Join_b6 := by
    exact loopsOk_of (bs := []) (by kernel_rfl) trivial
  have key : ∀ n a0 a1 a2 r j rs, racetreeref02_Join_i6 n a0 a1 a2 = some r → racetreeref02_Join_dec6 r = (j, rs) → RoundPost kk env0 Tryz.f9.ntmps racetreeref02_Join_b6 racetreeref02_Join_sh6 racetreeref02_Join_o6 [⟨(.slc (.st 31)), a0⟩, ⟨(.int .i64), a1⟩, ⟨(.int .i64), a2⟩] j rs := by
    intro n
    induction n with
    | zero => intro a0 a1 a2 r j rs h; cases h
    | succ n ih =>
      intro a0 a1 a2 r j rs h hd
      refine RoundPost.modes.1 (turn_sound (kitOk_of eqOk mixed known49) inner ((racetreeref02_Join_E6 (racetreeref02_Join_i6 n) a0 a1 a2).trans h) (fun q hq => RoundPost.modes.2 ?_) ?_)
      · unfold racetreeref02_Join_rec6 at hq
        split at hq
        · exact ih _ _ _ r j rs hq hd
        · cases hq
      · intro i qs he
        unfold racetreeref02_Join_enc6 at he
        split at he <;> cases he <;> (cases hd; exact ⟨rfl, rfl⟩)
  intro ls j rs h
  simp only [racetreeref02_Join_lp6] at h
  split at h
  · obtain ⟨r, hr, h⟩ := Tr.get_val h
    rw [racetreeref02_Join_l6, sealF_eq] at hr
    refine key fuel _ _ _ r j rs hr ?_
    rcases r with r | r <;> exact Option.some.inj h
  · cases h

noncomputable def racetreeref02_Join_sh15 : StSh := ⟨⟨[0, 7, 8], [], [⟨.slot 7, 7, 5, (.int .u8)⟩]⟩, [.t (.slc (.st 31)), .oslc 7, .t (.int .i64)], [.row 5 (.int .u8)]⟩

noncomputable def racetreeref02_Join_o15 : List Out := [⟨.exit 2, ⟨⟨[7], [], [⟨.slot 7, 7, 5, (.int .u8)⟩]⟩, [.oslc 7], [.row 5 (.int .u8)]⟩⟩]

noncomputable def racetreeref02_Join_b15 : Code := (nthLoop (bodyOf Tryz.f9) 1)

noncomputable def racetreeref02_Join_L15 : Nat → Option (Lift.Loop U) := fun n => none

noncomputable def racetreeref02_Join_rec15 (rec : List (Token) → Int → List (Int) → Option ((List (Int)))) : List (TV U) → Option ((List (Int)))
  | [⟨(.slc (.st 31)), a0⟩, ⟨(.int .i64), a1⟩, ⟨(.slc (.int .u8)), a2⟩] => rec a0 a1 a2
  | _ => none

noncomputable def racetreeref02_Join_enc15 : Nat → List (TV U) → Option ((List (Int)))
  | 0, [⟨(.slc (.int .u8)), a0⟩] => some a0
  | _, _ => none

noncomputable def racetreeref02_Join_dec15 : (List (Int)) → Nat × List (TV U) := fun x => (0, [⟨(.slc (.int .u8)), x⟩])

noncomputable def racetreeref02_Join_tr15 : (List (Int)) → Tr (Nat × List (TV U)) := fun r => (fun x => .ret (0, [⟨(.slc (.int .u8)), x⟩])) r

noncomputable def racetreeref02_Join_lp15 : Lift.Loop U := ⟨racetreeref02_Join_sh15, racetreeref02_Join_o15, fun ls => match ls with | [⟨(.slc (.st 31)), a0⟩, ⟨(.int .i64), a1⟩, ⟨(.slc (.int .u8)), a2⟩] => .get (racetreeref02_Join_l15 a0 a1 a2) racetreeref02_Join_tr15 | _ => .fail⟩

theorem racetreeref02_Join_E15 (rec : List (Token) → Int → List (Int) → Option ((List (Int)))) (a0 : List (Token)) (a1 : Int) (a2 : List (Int)) : (Kit.withModes kk (modesOf ms49)).turn Tryz.f9.ntmps racetreeref02_Join_L15 racetreeref02_Join_sh15 racetreeref02_Join_o15 racetreeref02_Join_b15 [⟨(.slc (.st 31)), a0⟩, ⟨(.int .i64), a1⟩, ⟨(.slc (.int .u8)), a2⟩] (racetreeref02_Join_rec15 rec) racetreeref02_Join_enc15 = racetreeref02_Join_t15 rec a0 a1 a2 := by kernel_rfl

theorem racetreeref02_Join_ok15 : ∀ ls j rs, (racetreeref02_Join_lp15.sum ls).val = some (j, rs) → RoundPost kk env0 Tryz.f9.ntmps racetreeref02_Join_b15 racetreeref02_Join_lp15.sh racetreeref02_Join_lp15.outs ls j rs := by
  have inner : LoopsOk (Kit.withModes kk (modesOf ms49)) env0 Tryz.f9.ntmps racetreeref02_Join_L15 racetreeref02_Join_b15 := by
    exact loopsOk_of (bs := []) (by kernel_rfl) trivial
  have key : ∀ n a0 a1 a2 r j rs, racetreeref02_Join_i15 n a0 a1 a2 = some r → racetreeref02_Join_dec15 r = (j, rs) → RoundPost kk env0 Tryz.f9.ntmps racetreeref02_Join_b15 racetreeref02_Join_sh15 racetreeref02_Join_o15 [⟨(.slc (.st 31)), a0⟩, ⟨(.int .i64), a1⟩, ⟨(.slc (.int .u8)), a2⟩] j rs := by
    intro n
    induction n with
    | zero => intro a0 a1 a2 r j rs h; cases h
    | succ n ih =>
      intro a0 a1 a2 r j rs h hd
      refine RoundPost.modes.1 (turn_sound (kitOk_of eqOk mixed known49) inner ((racetreeref02_Join_E15 (racetreeref02_Join_i15 n) a0 a1 a2).trans h) (fun q hq => RoundPost.modes.2 ?_) ?_)
      · unfold racetreeref02_Join_rec15 at hq
        split at hq
        · exact ih _ _ _ r j rs hq hd
        · cases hq
      · intro i qs he
        unfold racetreeref02_Join_enc15 at he
        split at he <;> cases he <;> (cases hd; exact ⟨rfl, rfl⟩)
  intro ls j rs h
  simp only [racetreeref02_Join_lp15] at h
  split at h
  · obtain ⟨r, hr, h⟩ := Tr.get_val h
    rw [racetreeref02_Join_l15, sealF_eq] at hr
    refine key fuel _ _ _ r j rs hr ?_
    exact Option.some.inj h
  · cases h

noncomputable def racetreeref02_Join_sh : StSh := ⟨⟨[0], [], []⟩, [.t (.slc (.st 31))], []⟩

noncomputable def racetreeref02_Join_os : List StSh := [⟨⟨[0, 1], [], []⟩, [.t .str, .t (.int .i64)], []⟩]

noncomputable def racetreeref02_Join_L : Nat → Option (Lift.Loop U) := fun n => bif Nat.beq n 6 then some racetreeref02_Join_lp6 else bif Nat.beq n 15 then some racetreeref02_Join_lp15 else none

noncomputable def racetreeref02_Join_enc : Nat → List (TV U) → Option ((List UInt8) × Int)
  | 0, [⟨.str, a0⟩, ⟨(.int .i64), a1⟩] => some (a0, a1)
  | _, _ => none

noncomputable def racetreeref02_Join_dec : (List UInt8) × Int → Nat × List (TV U) := fun x => (0, [⟨.str, x.1⟩, ⟨(.int .i64), x.2⟩])

noncomputable def racetreeref02_Join_tr : (List UInt8) × Int → Tr (Nat × List (TV U)) := fun r => (fun x => .ret (0, [⟨.str, x.1⟩, ⟨(.int .i64), x.2⟩])) r

noncomputable def racetreeref02_Join_md : Mode U := ⟨racetreeref02_Join_sh, [], racetreeref02_Join_os, fun ls => match ls with | [⟨(.slc (.st 31)), a0⟩] => .get (racetreeref02_Join a0) racetreeref02_Join_tr | _ => .fail⟩

theorem racetreeref02_Join_E (a0 : List (Token)) : (Kit.withModes kk (modesOf ms49)).fnEval racetreeref02_Join_L Tryz.f9 racetreeref02_Join_sh racetreeref02_Join_os [⟨(.slc (.st 31)), a0⟩] racetreeref02_Join_enc = racetreeref02_Join_f a0 := by kernel_rfl

theorem racetreeref02_Join_post : ∀ ls j rs, (racetreeref02_Join_md.sum ls).val = some (j, rs) → FnPost kk env0 9 racetreeref02_Join_sh racetreeref02_Join_os ls j rs := by
  have inner : LoopsOk (Kit.withModes kk (modesOf ms49)) env0 Tryz.f9.ntmps racetreeref02_Join_L (bodyOf Tryz.f9) := by
    exact loopsOk_of (bs := [racetreeref02_Join_b6, racetreeref02_Join_b15]) (by kernel_rfl) ⟨.inr ⟨_, by kernel_rfl, LoopOk.of_round racetreeref02_Join_ok6⟩, .inr ⟨_, by kernel_rfl, LoopOk.of_round racetreeref02_Join_ok15⟩, trivial⟩
  intro ls j rs h
  simp only [racetreeref02_Join_md] at h
  split at h
  · obtain ⟨r, hr, h⟩ := Tr.get_val h
    rw [racetreeref02_Join, sealF_eq] at hr
    have hd : racetreeref02_Join_dec r = (j, rs) := by
      exact Option.some.inj h
    refine FnPost.modes.1 (fn_sound (kitOk_of eqOk mixed known49) (by kernel_rfl) inner ((racetreeref02_Join_E _).trans hr) ?_)
    intro i qs he
    unfold racetreeref02_Join_enc at he
    split at he <;> cases he <;> (cases hd; exact ⟨rfl, rfl⟩)
  · cases h

noncomputable def ms50 : List (FuncId × Mode U) := (9, racetreeref02_Join_md) :: ms49

theorem known50 : Known kk env0 (modesOf ms50) := known_cons (by kernel_rfl) racetreeref02_Join_post known49

noncomputable def racetreelaw02_LexJoins_sh10 : StSh := ⟨⟨[0, 3, 4, 5, 6, 7, 8, 9, 10], [], []⟩, [.t (.slc (.st 31)), .t .bool, .t (.slc (.st 31)), .t .str, .t (.int .i64), .t .str, .t (.int .i64), .t .bool, .t (.int .i64)], []⟩

noncomputable def racetreelaw02_LexJoins_o10 : List Out := [⟨.exit 0, ⟨⟨[3, 5, 6, 7, 8, 9], [], []⟩, [.t .bool, .t .str, .t (.int .i64), .t .str, .t (.int .i64), .t .bool], []⟩⟩]

noncomputable def racetreelaw02_LexJoins_b10 : Code := (nthLoop (bodyOf Tryz.f4) 0)

noncomputable def racetreelaw02_LexJoins_L10 : Nat → Option (Lift.Loop U) := fun n => none

noncomputable def racetreelaw02_LexJoins_rec10 (rec : List (Token) → Bool → List (Token) → List UInt8 → Int → List UInt8 → Int → Bool → Int → Option (Bool × (List UInt8) × Int × (List UInt8) × Int × Bool)) : List (TV U) → Option (Bool × (List UInt8) × Int × (List UInt8) × Int × Bool)
  | [⟨(.slc (.st 31)), a0⟩, ⟨.bool, a1⟩, ⟨(.slc (.st 31)), a2⟩, ⟨.str, a3⟩, ⟨(.int .i64), a4⟩, ⟨.str, a5⟩, ⟨(.int .i64), a6⟩, ⟨.bool, a7⟩, ⟨(.int .i64), a8⟩] => rec a0 a1 a2 a3 a4 a5 a6 a7 a8
  | _ => none

noncomputable def racetreelaw02_LexJoins_enc10 : Nat → List (TV U) → Option (Bool × (List UInt8) × Int × (List UInt8) × Int × Bool)
  | 0, [⟨.bool, a0⟩, ⟨.str, a1⟩, ⟨(.int .i64), a2⟩, ⟨.str, a3⟩, ⟨(.int .i64), a4⟩, ⟨.bool, a5⟩] => some (a0, a1, a2, a3, a4, a5)
  | _, _ => none

noncomputable def racetreelaw02_LexJoins_dec10 : Bool × (List UInt8) × Int × (List UInt8) × Int × Bool → Nat × List (TV U) := fun x => (0, [⟨.bool, x.1⟩, ⟨.str, x.2.1⟩, ⟨(.int .i64), x.2.2.1⟩, ⟨.str, x.2.2.2.1⟩, ⟨(.int .i64), x.2.2.2.2.1⟩, ⟨.bool, x.2.2.2.2.2⟩])

noncomputable def racetreelaw02_LexJoins_tr10 : Bool × (List UInt8) × Int × (List UInt8) × Int × Bool → Tr (Nat × List (TV U)) := fun r => (fun x => .ret (0, [⟨.bool, x.1⟩, ⟨.str, x.2.1⟩, ⟨(.int .i64), x.2.2.1⟩, ⟨.str, x.2.2.2.1⟩, ⟨(.int .i64), x.2.2.2.2.1⟩, ⟨.bool, x.2.2.2.2.2⟩])) r

noncomputable def racetreelaw02_LexJoins_lp10 : Lift.Loop U := ⟨racetreelaw02_LexJoins_sh10, racetreelaw02_LexJoins_o10, fun ls => match ls with | [⟨(.slc (.st 31)), a0⟩, ⟨.bool, a1⟩, ⟨(.slc (.st 31)), a2⟩, ⟨.str, a3⟩, ⟨(.int .i64), a4⟩, ⟨.str, a5⟩, ⟨(.int .i64), a6⟩, ⟨.bool, a7⟩, ⟨(.int .i64), a8⟩] => .get (racetreelaw02_LexJoins_l10 a0 a1 a2 a3 a4 a5 a6 a7 a8) racetreelaw02_LexJoins_tr10 | _ => .fail⟩

theorem racetreelaw02_LexJoins_E10 (rec : List (Token) → Bool → List (Token) → List UInt8 → Int → List UInt8 → Int → Bool → Int → Option (Bool × (List UInt8) × Int × (List UInt8) × Int × Bool)) (a0 : List (Token)) (a1 : Bool) (a2 : List (Token)) (a3 : List UInt8) (a4 : Int) (a5 : List UInt8) (a6 : Int) (a7 : Bool) (a8 : Int) : (Kit.withModes kk (modesOf ms50)).turn Tryz.f4.ntmps racetreelaw02_LexJoins_L10 racetreelaw02_LexJoins_sh10 racetreelaw02_LexJoins_o10 racetreelaw02_LexJoins_b10 [⟨(.slc (.st 31)), a0⟩, ⟨.bool, a1⟩, ⟨(.slc (.st 31)), a2⟩, ⟨.str, a3⟩, ⟨(.int .i64), a4⟩, ⟨.str, a5⟩, ⟨(.int .i64), a6⟩, ⟨.bool, a7⟩, ⟨(.int .i64), a8⟩] (racetreelaw02_LexJoins_rec10 rec) racetreelaw02_LexJoins_enc10 = racetreelaw02_LexJoins_t10 rec a0 a1 a2 a3 a4 a5 a6 a7 a8 := by kernel_rfl

theorem racetreelaw02_LexJoins_ok10 : ∀ ls j rs, (racetreelaw02_LexJoins_lp10.sum ls).val = some (j, rs) → RoundPost kk env0 Tryz.f4.ntmps racetreelaw02_LexJoins_b10 racetreelaw02_LexJoins_lp10.sh racetreelaw02_LexJoins_lp10.outs ls j rs := by
  have inner : LoopsOk (Kit.withModes kk (modesOf ms50)) env0 Tryz.f4.ntmps racetreelaw02_LexJoins_L10 racetreelaw02_LexJoins_b10 := by
    exact loopsOk_of (bs := []) (by kernel_rfl) trivial
  have key : ∀ n a0 a1 a2 a3 a4 a5 a6 a7 a8 r j rs, racetreelaw02_LexJoins_i10 n a0 a1 a2 a3 a4 a5 a6 a7 a8 = some r → racetreelaw02_LexJoins_dec10 r = (j, rs) → RoundPost kk env0 Tryz.f4.ntmps racetreelaw02_LexJoins_b10 racetreelaw02_LexJoins_sh10 racetreelaw02_LexJoins_o10 [⟨(.slc (.st 31)), a0⟩, ⟨.bool, a1⟩, ⟨(.slc (.st 31)), a2⟩, ⟨.str, a3⟩, ⟨(.int .i64), a4⟩, ⟨.str, a5⟩, ⟨(.int .i64), a6⟩, ⟨.bool, a7⟩, ⟨(.int .i64), a8⟩] j rs := by
    intro n
    induction n with
    | zero => intro a0 a1 a2 a3 a4 a5 a6 a7 a8 r j rs h; cases h
    | succ n ih =>
      intro a0 a1 a2 a3 a4 a5 a6 a7 a8 r j rs h hd
      refine RoundPost.modes.1 (turn_sound (kitOk_of eqOk mixed known50) inner ((racetreelaw02_LexJoins_E10 (racetreelaw02_LexJoins_i10 n) a0 a1 a2 a3 a4 a5 a6 a7 a8).trans h) (fun q hq => RoundPost.modes.2 ?_) ?_)
      · unfold racetreelaw02_LexJoins_rec10 at hq
        split at hq
        · exact ih _ _ _ _ _ _ _ _ _ r j rs hq hd
        · cases hq
      · intro i qs he
        unfold racetreelaw02_LexJoins_enc10 at he
        split at he <;> cases he <;> (cases hd; exact ⟨rfl, rfl⟩)
  intro ls j rs h
  simp only [racetreelaw02_LexJoins_lp10] at h
  split at h
  · obtain ⟨r, hr, h⟩ := Tr.get_val h
    rw [racetreelaw02_LexJoins_l10, sealF_eq] at hr
    refine key fuel _ _ _ _ _ _ _ _ _ r j rs hr ?_
    exact Option.some.inj h
  · cases h

noncomputable def racetreelaw02_LexJoins_sh : StSh := ⟨⟨[0], [], []⟩, [.t (.slc (.st 31))], []⟩

noncomputable def racetreelaw02_LexJoins_os : List StSh := [⟨⟨[0], [], []⟩, [.t .bool], []⟩]

noncomputable def racetreelaw02_LexJoins_L : Nat → Option (Lift.Loop U) := fun n => bif Nat.beq n 10 then some racetreelaw02_LexJoins_lp10 else none

noncomputable def racetreelaw02_LexJoins_enc : Nat → List (TV U) → Option (Bool)
  | 0, [⟨.bool, a0⟩] => some a0
  | _, _ => none

noncomputable def racetreelaw02_LexJoins_dec : Bool → Nat × List (TV U) := fun x => (0, [⟨.bool, x⟩])

noncomputable def racetreelaw02_LexJoins_tr : Bool → Tr (Nat × List (TV U)) := fun r => (fun x => .ret (0, [⟨.bool, x⟩])) r

noncomputable def racetreelaw02_LexJoins_md : Mode U := ⟨racetreelaw02_LexJoins_sh, [], racetreelaw02_LexJoins_os, fun ls => match ls with | [⟨(.slc (.st 31)), a0⟩] => .get (racetreelaw02_LexJoins a0) racetreelaw02_LexJoins_tr | _ => .fail⟩

theorem racetreelaw02_LexJoins_E (a0 : List (Token)) : (Kit.withModes kk (modesOf ms50)).fnEval racetreelaw02_LexJoins_L Tryz.f4 racetreelaw02_LexJoins_sh racetreelaw02_LexJoins_os [⟨(.slc (.st 31)), a0⟩] racetreelaw02_LexJoins_enc = racetreelaw02_LexJoins_f a0 := by kernel_rfl

theorem racetreelaw02_LexJoins_post : ∀ ls j rs, (racetreelaw02_LexJoins_md.sum ls).val = some (j, rs) → FnPost kk env0 4 racetreelaw02_LexJoins_sh racetreelaw02_LexJoins_os ls j rs := by
  have inner : LoopsOk (Kit.withModes kk (modesOf ms50)) env0 Tryz.f4.ntmps racetreelaw02_LexJoins_L (bodyOf Tryz.f4) := by
    exact loopsOk_of (bs := [racetreelaw02_LexJoins_b10]) (by kernel_rfl) ⟨.inr ⟨_, by kernel_rfl, LoopOk.of_round racetreelaw02_LexJoins_ok10⟩, trivial⟩
  intro ls j rs h
  simp only [racetreelaw02_LexJoins_md] at h
  split at h
  · obtain ⟨r, hr, h⟩ := Tr.get_val h
    rw [racetreelaw02_LexJoins, sealF_eq] at hr
    have hd : racetreelaw02_LexJoins_dec r = (j, rs) := by
      exact Option.some.inj h
    refine FnPost.modes.1 (fn_sound (kitOk_of eqOk mixed known50) (by kernel_rfl) inner ((racetreelaw02_LexJoins_E _).trans hr) ?_)
    intro i qs he
    unfold racetreelaw02_LexJoins_enc at he
    split at he <;> cases he <;> (cases hd; exact ⟨rfl, rfl⟩)
  · cases h

noncomputable def ms51 : List (FuncId × Mode U) := (4, racetreelaw02_LexJoins_md) :: ms50

theorem known51 : Known kk env0 (modesOf ms51) := known_cons (by kernel_rfl) racetreelaw02_LexJoins_post known50

end Lift.C2

