/-
  DERIVED. Each function of this seat computes its Lean function. Conditions: as each theorem says.
-/
import Derived.Test.YthbhphfmnlchoaaGreatDoorDefs
set_option linter.unusedVariables false
set_option linter.unusedSimpArgs false
set_option linter.unusedSectionVars false
namespace Lift.F3
noncomputable section
open Go Go.RowKit Go.Proofs Lift Lift.Fn
def qbZ_sh : StSh := ⟨⟨[0], [], []⟩, [.t (.int .i32)], []⟩
def qbZ_os : List StSh := [⟨⟨[0], [], []⟩, [.t (.int .i64)], []⟩]
def qbZ_tr : Int → Tr (Nat × List (TV U)) := fun x => .ret (0, [⟨(.int .i64), x⟩])
def qbZ_enc : Nat → List (TV U) → Option (Int)
  | 0, [⟨(.int .i64), a0⟩] => some a0
  | _, _ => none
def qbZ_dec : Int → Nat × List (TV U) := fun x => (0, [⟨(.int .i64), x⟩])
def qbZ_in : List (TV U) → Option (Int)
  | [⟨(.int .i32), a0⟩] => qbZ a0
  | _ => none
def qbZ_md : Mode U := ⟨qbZ_sh, [], qbZ_os, fun ls => .get (qbZ_in ls) qbZ_tr⟩
theorem qbZ_post : ModeOk kk env0 117 qbZ_md :=
  fn_of (fn := Tryz.f117) qbZ_enc qbZ_dec (kitOk_of eqOk mixed known5) (by kernel_rfl) (L := noL) (loopsOk_of (bs := []) (by kernel_rfl) trivial) (fun _ => rfl) (by intro i qs r h; unfold qbZ_enc at h; split at h <;> cases h <;> rfl)
    (by intro ls r h; unfold qbZ_in at h; split at h; rw [qbZ, sealF_eq] at h; exact Eq.trans (by kernel_rfl) h; cases h)
def ms6 : List (FuncId × Mode U) := (117, qbZ_md) :: ms5
theorem known6 : Known kk env0 (modesOf ms6) := known_cons (by kernel_rfl) qbZ_post known5
def qbd_sh4 : StSh := ⟨⟨[0, 3, 4, 5, 10], [3, 5, 10], [⟨.slot 4, 4, 108, (.st 108)⟩]⟩, [.t .str, .ptr 3 0, .oslc 4, .ptr 5 0, .ptr 10 0], [.blk 108 [.t (.int .i64), .t (.int .i64), .t (.int .i64), .t (.int .i64)], .blk 108 [.t (.int .i64), .t (.int .i64), .t (.int .i64), .t (.int .i64)], .sit, .row 108 (.st 108)]⟩
def qbd_o4 : List Out := [⟨.ret, ⟨⟨[2, 3], [3], [⟨.slot 2, 2, 108, (.st 108)⟩]⟩, [.oslc 2, .ptr 3 0], [.blk 108 [.t (.int .i64), .t (.int .i64), .t (.int .i64), .t (.int .i64)], .row 108 (.st 108)]⟩⟩, ⟨.exit 0, ⟨⟨[3, 4, 5], [3, 5], [⟨.slot 4, 4, 108, (.st 108)⟩]⟩, [.ptr 3 0, .oslc 4, .ptr 5 0], [.blk 108 [.t (.int .i64), .t (.int .i64), .t (.int .i64), .t (.int .i64)], .blk 108 [.t (.int .i64), .t (.int .i64), .t (.int .i64), .t (.int .i64)], .row 108 (.st 108)]⟩⟩]
def qbd_b4 : Code := (nthLoop (bodyOf Tryz.f102) 0)
def qbd_rec4 (rec : List UInt8 → Int → Int → Int → Int → Int → Int → Int → Int → List UInt8 → Nat → List (Spot) → Option ((Int × Int × Int × Int × (List (Spot))) ⊕ (Int × Int × Int × Int × Int × Int × Int × Int × (List (Spot))))) : List (TV U) → Option ((Int × Int × Int × Int × (List (Spot))) ⊕ (Int × Int × Int × Int × Int × Int × Int × Int × (List (Spot))))
  | [⟨.str, a0⟩, ⟨(.int .i64), a1⟩, ⟨(.int .i64), a2⟩, ⟨(.int .i64), a3⟩, ⟨(.int .i64), a4⟩, ⟨(.int .i64), a5⟩, ⟨(.int .i64), a6⟩, ⟨(.int .i64), a7⟩, ⟨(.int .i64), a8⟩, ⟨.str, a9⟩, ⟨.fn, a10⟩, ⟨(.slc (.st 108)), a11⟩] => rec a0 a1 a2 a3 a4 a5 a6 a7 a8 a9 a10 a11
  | _ => none
def qbd_enc4 : Nat → List (TV U) → Option ((Int × Int × Int × Int × (List (Spot))) ⊕ (Int × Int × Int × Int × Int × Int × Int × Int × (List (Spot))))
  | 0, [⟨(.int .i64), a0⟩, ⟨(.int .i64), a1⟩, ⟨(.int .i64), a2⟩, ⟨(.int .i64), a3⟩, ⟨(.slc (.st 108)), a4⟩] => some (.inl (a0, a1, a2, a3, a4))
  | 1, [⟨(.int .i64), a0⟩, ⟨(.int .i64), a1⟩, ⟨(.int .i64), a2⟩, ⟨(.int .i64), a3⟩, ⟨(.int .i64), a4⟩, ⟨(.int .i64), a5⟩, ⟨(.int .i64), a6⟩, ⟨(.int .i64), a7⟩, ⟨(.slc (.st 108)), a8⟩] => some (.inr (a0, a1, a2, a3, a4, a5, a6, a7, a8))
  | _, _ => none
def qbd_dec4 : (Int × Int × Int × Int × (List (Spot))) ⊕ (Int × Int × Int × Int × Int × Int × Int × Int × (List (Spot))) → Nat × List (TV U) := fun r => match r with | (.inl x) => (0, [⟨(.int .i64), x.1⟩, ⟨(.int .i64), x.2.1⟩, ⟨(.int .i64), x.2.2.1⟩, ⟨(.int .i64), x.2.2.2.1⟩, ⟨(.slc (.st 108)), x.2.2.2.2⟩]) | (.inr x) => (1, [⟨(.int .i64), x.1⟩, ⟨(.int .i64), x.2.1⟩, ⟨(.int .i64), x.2.2.1⟩, ⟨(.int .i64), x.2.2.2.1⟩, ⟨(.int .i64), x.2.2.2.2.1⟩, ⟨(.int .i64), x.2.2.2.2.2.1⟩, ⟨(.int .i64), x.2.2.2.2.2.2.1⟩, ⟨(.int .i64), x.2.2.2.2.2.2.2.1⟩, ⟨(.slc (.st 108)), x.2.2.2.2.2.2.2.2⟩])
def qbd_tr4 : (Int × Int × Int × Int × (List (Spot))) ⊕ (Int × Int × Int × Int × Int × Int × Int × Int × (List (Spot))) → Tr (Nat × List (TV U)) := fun r => .alt r (fun x => .ret (0, [⟨(.int .i64), x.1⟩, ⟨(.int .i64), x.2.1⟩, ⟨(.int .i64), x.2.2.1⟩, ⟨(.int .i64), x.2.2.2.1⟩, ⟨(.slc (.st 108)), x.2.2.2.2⟩])) (fun y => (fun x => .ret (1, [⟨(.int .i64), x.1⟩, ⟨(.int .i64), x.2.1⟩, ⟨(.int .i64), x.2.2.1⟩, ⟨(.int .i64), x.2.2.2.1⟩, ⟨(.int .i64), x.2.2.2.2.1⟩, ⟨(.int .i64), x.2.2.2.2.2.1⟩, ⟨(.int .i64), x.2.2.2.2.2.2.1⟩, ⟨(.int .i64), x.2.2.2.2.2.2.2.1⟩, ⟨(.slc (.st 108)), x.2.2.2.2.2.2.2.2⟩])) y)
def qbd_lp4 : Lift.Loop U := ⟨qbd_sh4, qbd_o4, fun ls => .get (qbd_rec4 qbd_l4 ls) qbd_tr4⟩
theorem qbd_ok4 : LoopR kk env0 Tryz.f102.ntmps qbd_b4 qbd_lp4 :=
  loop_of qbd_enc4 qbd_dec4 (fun n => qbd_rec4 (qbd_i4 n)) (kitOk_of eqOk mixed known6) (L := noL) (loopsOk_of (bs := []) (by kernel_rfl) trivial) (by intro r; rcases r with r | r <;> rfl) (by intro i qs r h; unfold qbd_enc4 at h; split at h <;> cases h <;> rfl)
    (by intro ls r h; unfold qbd_rec4 at h; split at h <;> cases h)
    (by intro n ls r h; unfold qbd_rec4 at h; split at h; exact (show _ = qbd_t4 (qbd_i4 n) _ _ _ _ _ _ _ _ _ _ _ _ from by kernel_rfl).trans h; cases h) (by rw [qbd_l4, sealF_eq])
def qbd_sh : StSh := ⟨⟨[0], [], []⟩, [.t .str], []⟩
def qbd_os : List StSh := [⟨⟨[0, 1], [], [⟨.slot 0, 100000, 108, (.st 108)⟩]⟩, [.oslc 100000, .t (.st 108)], [.row 108 (.st 108)]⟩]
def qbd_tr : Spot × (List (Spot)) → Tr (Nat × List (TV U)) := fun x => .ret (0, [⟨(.st 108), x.1⟩, ⟨(.slc (.st 108)), x.2⟩])
def qbd_L : Nat → Option (Lift.Loop U) := fun n => bif Nat.beq n 4 then some qbd_lp4 else none
def qbd_enc : Nat → List (TV U) → Option (Spot × (List (Spot)))
  | 0, [⟨(.st 108), a0⟩, ⟨(.slc (.st 108)), a1⟩] => some (a0, a1)
  | _, _ => none
def qbd_dec : Spot × (List (Spot)) → Nat × List (TV U) := fun x => (0, [⟨(.st 108), x.1⟩, ⟨(.slc (.st 108)), x.2⟩])
def qbd_in : List (TV U) → Option (Spot × (List (Spot)))
  | [⟨.str, a0⟩] => qbd a0
  | _ => none
def qbd_md : Mode U := ⟨qbd_sh, [], qbd_os, fun ls => .get (qbd_in ls) qbd_tr⟩
theorem qbd_post : ModeOk kk env0 102 qbd_md :=
  fn_of (fn := Tryz.f102) qbd_enc qbd_dec (kitOk_of eqOk mixed known6) (by kernel_rfl) (L := qbd_L) (loopsOk_of (bs := [qbd_b4]) (by kernel_rfl) ⟨.inr ⟨_, by kernel_rfl, LoopOk.of_round (qbd_ok4)⟩, trivial⟩) (fun _ => rfl) (by intro i qs r h; unfold qbd_enc at h; split at h <;> cases h <;> rfl)
    (by intro ls r h; unfold qbd_in at h; split at h; rw [qbd, sealF_eq] at h; exact Eq.trans (by kernel_rfl) h; cases h)
def ms7 : List (FuncId × Mode U) := (102, qbd_md) :: ms6
theorem known7 : Known kk env0 (modesOf ms7) := known_cons (by kernel_rfl) qbd_post known6
def qbc_sh : StSh := ⟨⟨[0], [], []⟩, [.t .str], []⟩
def qbc_os : List StSh := [⟨⟨[0, 1], [], [⟨.slot 0, 100000, 108, (.st 108)⟩]⟩, [.oslc 100000, .t (.st 90)], [.row 108 (.st 108)]⟩]
def qbc_tr : Fault × (List (Spot)) → Tr (Nat × List (TV U)) := fun x => .ret (0, [⟨(.st 90), x.1⟩, ⟨(.slc (.st 108)), x.2⟩])
def qbc_enc : Nat → List (TV U) → Option (Fault × (List (Spot)))
  | 0, [⟨(.st 90), a0⟩, ⟨(.slc (.st 108)), a1⟩] => some (a0, a1)
  | _, _ => none
def qbc_dec : Fault × (List (Spot)) → Nat × List (TV U) := fun x => (0, [⟨(.st 90), x.1⟩, ⟨(.slc (.st 108)), x.2⟩])
def qbc_in : List (TV U) → Option (Fault × (List (Spot)))
  | [⟨.str, a0⟩] => qbc a0
  | _ => none
def qbc_md : Mode U := ⟨qbc_sh, [], qbc_os, fun ls => .get (qbc_in ls) qbc_tr⟩
theorem qbc_post : ModeOk kk env0 90 qbc_md :=
  fn_of (fn := Tryz.f90) qbc_enc qbc_dec (kitOk_of eqOk mixed known7) (by kernel_rfl) (L := noL) (loopsOk_of (bs := []) (by kernel_rfl) trivial) (fun _ => rfl) (by intro i qs r h; unfold qbc_enc at h; split at h <;> cases h <;> rfl)
    (by intro ls r h; unfold qbc_in at h; split at h; rw [qbc, sealF_eq] at h; exact Eq.trans (by kernel_rfl) h; cases h)
def ms8 : List (FuncId × Mode U) := (90, qbc_md) :: ms7
theorem known8 : Known kk env0 (modesOf ms8) := known_cons (by kernel_rfl) qbc_post known7
def qa9_sh : StSh := ⟨⟨[0], [], []⟩, [.t (.int .i64)], []⟩
def qa9_os : List StSh := [⟨⟨[0], [], []⟩, [.t .bool], []⟩]
def qa9_tr : Bool → Tr (Nat × List (TV U)) := fun x => .ret (0, [⟨.bool, x⟩])
def qa9_enc : Nat → List (TV U) → Option (Bool)
  | 0, [⟨.bool, a0⟩] => some a0
  | _, _ => none
def qa9_dec : Bool → Nat × List (TV U) := fun x => (0, [⟨.bool, x⟩])
def qa9_in : List (TV U) → Option (Bool)
  | [⟨(.int .i64), a0⟩] => qa9 a0
  | _ => none
def qa9_md : Mode U := ⟨qa9_sh, [], qa9_os, fun ls => .get (qa9_in ls) qa9_tr⟩
theorem qa9_post : ModeOk kk env0 103 qa9_md :=
  fn_of (fn := Tryz.f103) qa9_enc qa9_dec (kitOk_of eqOk mixed known8) (by kernel_rfl) (L := noL) (loopsOk_of (bs := []) (by kernel_rfl) trivial) (fun _ => rfl) (by intro i qs r h; unfold qa9_enc at h; split at h <;> cases h <;> rfl)
    (by intro ls r h; unfold qa9_in at h; split at h; rw [qa9, sealF_eq] at h; exact Eq.trans (by kernel_rfl) h; cases h)
def ms9 : List (FuncId × Mode U) := (103, qa9_md) :: ms8
theorem known9 : Known kk env0 (modesOf ms9) := known_cons (by kernel_rfl) qa9_post known8
def qaq_sh3 : StSh := ⟨⟨[0, 3, 7], [7], []⟩, [.t .str, .t .bool, .ptr 7 0], [.sit]⟩
def qaq_o3 : List Out := [⟨.ret, ⟨⟨[2], [], []⟩, [.t (.int .i64)], []⟩⟩, ⟨.exit 0, ⟨⟨[0], [], []⟩, [.t .str], []⟩⟩]
def qaq_b3 : Code := (nthLoop (bodyOf Tryz.f91) 0)
def qaq_rec3 (rec : List UInt8 → Bool → List UInt8 → Nat → Option ((Int) ⊕ ((List UInt8)))) : List (TV U) → Option ((Int) ⊕ ((List UInt8)))
  | [⟨.str, a0⟩, ⟨.bool, a1⟩, ⟨.str, a2⟩, ⟨.fn, a3⟩] => rec a0 a1 a2 a3
  | _ => none
def qaq_enc3 : Nat → List (TV U) → Option ((Int) ⊕ ((List UInt8)))
  | 0, [⟨(.int .i64), a0⟩] => some (.inl a0)
  | 1, [⟨.str, a0⟩] => some (.inr a0)
  | _, _ => none
def qaq_dec3 : (Int) ⊕ ((List UInt8)) → Nat × List (TV U) := fun r => match r with | (.inl x) => (0, [⟨(.int .i64), x⟩]) | (.inr x) => (1, [⟨.str, x⟩])
def qaq_tr3 : (Int) ⊕ ((List UInt8)) → Tr (Nat × List (TV U)) := fun r => .alt r (fun x => .ret (0, [⟨(.int .i64), x⟩])) (fun y => (fun x => .ret (1, [⟨.str, x⟩])) y)
def qaq_lp3 : Lift.Loop U := ⟨qaq_sh3, qaq_o3, fun ls => .get (qaq_rec3 qaq_l3 ls) qaq_tr3⟩
theorem qaq_ok3 : LoopR kk env0 Tryz.f91.ntmps qaq_b3 qaq_lp3 :=
  loop_of qaq_enc3 qaq_dec3 (fun n => qaq_rec3 (qaq_i3 n)) (kitOk_of eqOk mixed known9) (L := noL) (loopsOk_of (bs := []) (by kernel_rfl) trivial) (by intro r; rcases r with r | r <;> rfl) (by intro i qs r h; unfold qaq_enc3 at h; split at h <;> cases h <;> rfl)
    (by intro ls r h; unfold qaq_rec3 at h; split at h <;> cases h)
    (by intro n ls r h; unfold qaq_rec3 at h; split at h; exact (show _ = qaq_t3 (qaq_i3 n) _ _ _ _ from by kernel_rfl).trans h; cases h) (by rw [qaq_l3, sealF_eq])
def qaq_sh : StSh := ⟨⟨[0], [], []⟩, [.t .str], []⟩
def qaq_os : List StSh := [⟨⟨[0], [], []⟩, [.t (.int .i64)], []⟩]
def qaq_tr : Int → Tr (Nat × List (TV U)) := fun x => .ret (0, [⟨(.int .i64), x⟩])
def qaq_L : Nat → Option (Lift.Loop U) := fun n => bif Nat.beq n 3 then some qaq_lp3 else none
def qaq_enc : Nat → List (TV U) → Option (Int)
  | 0, [⟨(.int .i64), a0⟩] => some a0
  | _, _ => none
def qaq_dec : Int → Nat × List (TV U) := fun x => (0, [⟨(.int .i64), x⟩])
def qaq_in : List (TV U) → Option (Int)
  | [⟨.str, a0⟩] => qaq a0
  | _ => none
def qaq_md : Mode U := ⟨qaq_sh, [], qaq_os, fun ls => .get (qaq_in ls) qaq_tr⟩
theorem qaq_post : ModeOk kk env0 91 qaq_md :=
  fn_of (fn := Tryz.f91) qaq_enc qaq_dec (kitOk_of eqOk mixed known9) (by kernel_rfl) (L := qaq_L) (loopsOk_of (bs := [qaq_b3]) (by kernel_rfl) ⟨.inr ⟨_, by kernel_rfl, LoopOk.of_round (qaq_ok3)⟩, trivial⟩) (fun _ => rfl) (by intro i qs r h; unfold qaq_enc at h; split at h <;> cases h <;> rfl)
    (by intro ls r h; unfold qaq_in at h; split at h; rw [qaq, sealF_eq] at h; exact Eq.trans (by kernel_rfl) h; cases h)
def ms10 : List (FuncId × Mode U) := (91, qaq_md) :: ms9
theorem known10 : Known kk env0 (modesOf ms10) := known_cons (by kernel_rfl) qaq_post known9
def qb0_sh : StSh := ⟨⟨[0], [], []⟩, [.t (.int .i32)], []⟩
def qb0_os : List StSh := [⟨⟨[0], [], []⟩, [.t .bool], []⟩]
def qb0_tr : Bool → Tr (Nat × List (TV U)) := fun x => .ret (0, [⟨.bool, x⟩])
def qb0_enc : Nat → List (TV U) → Option (Bool)
  | 0, [⟨.bool, a0⟩] => some a0
  | _, _ => none
def qb0_dec : Bool → Nat × List (TV U) := fun x => (0, [⟨.bool, x⟩])
def qb0_in : List (TV U) → Option (Bool)
  | [⟨(.int .i32), a0⟩] => qb0 a0
  | _ => none
def qb0_md : Mode U := ⟨qb0_sh, [], qb0_os, fun ls => .get (qb0_in ls) qb0_tr⟩
theorem qb0_post : ModeOk kk env0 136 qb0_md :=
  fn_of (fn := Tryz.f136) qb0_enc qb0_dec (kitOk_of eqOk mixed known10) (by kernel_rfl) (L := noL) (loopsOk_of (bs := []) (by kernel_rfl) trivial) (fun _ => rfl) (by intro i qs r h; unfold qb0_enc at h; split at h <;> cases h <;> rfl)
    (by intro ls r h; unfold qb0_in at h; split at h; rw [qb0, sealF_eq] at h; exact Eq.trans (by kernel_rfl) h; cases h)
def ms11 : List (FuncId × Mode U) := (136, qb0_md) :: ms10
theorem known11 : Known kk env0 (modesOf ms11) := known_cons (by kernel_rfl) qb0_post known10
def qbe_sh : StSh := ⟨⟨[0], [], []⟩, [.t (.int .i64)], []⟩
def qbe_os : List StSh := [⟨⟨[0], [], []⟩, [.t .bool], []⟩]
def qbe_tr : Bool → Tr (Nat × List (TV U)) := fun x => .ret (0, [⟨.bool, x⟩])
def qbe_enc : Nat → List (TV U) → Option (Bool)
  | 0, [⟨.bool, a0⟩] => some a0
  | _, _ => none
def qbe_dec : Bool → Nat × List (TV U) := fun x => (0, [⟨.bool, x⟩])
def qbe_in : List (TV U) → Option (Bool)
  | [⟨(.int .i64), a0⟩] => qbe a0
  | _ => none
def qbe_md : Mode U := ⟨qbe_sh, [], qbe_os, fun ls => .get (qbe_in ls) qbe_tr⟩
theorem qbe_post : ModeOk kk env0 125 qbe_md :=
  fn_of (fn := Tryz.f125) qbe_enc qbe_dec (kitOk_of eqOk mixed known11) (by kernel_rfl) (L := noL) (loopsOk_of (bs := []) (by kernel_rfl) trivial) (fun _ => rfl) (by intro i qs r h; unfold qbe_enc at h; split at h <;> cases h <;> rfl)
    (by intro ls r h; unfold qbe_in at h; split at h; rw [qbe, sealF_eq] at h; exact Eq.trans (by kernel_rfl) h; cases h)
def ms12 : List (FuncId × Mode U) := (125, qbe_md) :: ms11
theorem known12 : Known kk env0 (modesOf ms12) := known_cons (by kernel_rfl) qbe_post known11
def qbb_sh : StSh := ⟨⟨[0], [], []⟩, [.t (.int .i64)], []⟩
def qbb_os : List StSh := [⟨⟨[0], [], []⟩, [.t .bool], []⟩]
def qbb_tr : Bool → Tr (Nat × List (TV U)) := fun x => .ret (0, [⟨.bool, x⟩])
def qbb_enc : Nat → List (TV U) → Option (Bool)
  | 0, [⟨.bool, a0⟩] => some a0
  | _, _ => none
def qbb_dec : Bool → Nat × List (TV U) := fun x => (0, [⟨.bool, x⟩])
def qbb_in : List (TV U) → Option (Bool)
  | [⟨(.int .i64), a0⟩] => qbb a0
  | _ => none
def qbb_md : Mode U := ⟨qbb_sh, [], qbb_os, fun ls => .get (qbb_in ls) qbb_tr⟩
theorem qbb_post : ModeOk kk env0 119 qbb_md :=
  fn_of (fn := Tryz.f119) qbb_enc qbb_dec (kitOk_of eqOk mixed known12) (by kernel_rfl) (L := noL) (loopsOk_of (bs := []) (by kernel_rfl) trivial) (fun _ => rfl) (by intro i qs r h; unfold qbb_enc at h; split at h <;> cases h <;> rfl)
    (by intro ls r h; unfold qbb_in at h; split at h; rw [qbb, sealF_eq] at h; exact Eq.trans (by kernel_rfl) h; cases h)
def ms13 : List (FuncId × Mode U) := (119, qbb_md) :: ms12
theorem known13 : Known kk env0 (modesOf ms13) := known_cons (by kernel_rfl) qbb_post known12
def qba_sh : StSh := ⟨⟨[0], [], []⟩, [.t (.int .i64)], []⟩
def qba_os : List StSh := [⟨⟨[0], [], []⟩, [.t .bool], []⟩]
def qba_tr : Bool → Tr (Nat × List (TV U)) := fun x => .ret (0, [⟨.bool, x⟩])
def qba_enc : Nat → List (TV U) → Option (Bool)
  | 0, [⟨.bool, a0⟩] => some a0
  | _, _ => none
def qba_dec : Bool → Nat × List (TV U) := fun x => (0, [⟨.bool, x⟩])
def qba_in : List (TV U) → Option (Bool)
  | [⟨(.int .i64), a0⟩] => qba a0
  | _ => none
def qba_md : Mode U := ⟨qba_sh, [], qba_os, fun ls => .get (qba_in ls) qba_tr⟩
theorem qba_post : ModeOk kk env0 108 qba_md :=
  fn_of (fn := Tryz.f108) qba_enc qba_dec (kitOk_of eqOk mixed known13) (by kernel_rfl) (L := noL) (loopsOk_of (bs := []) (by kernel_rfl) trivial) (fun _ => rfl) (by intro i qs r h; unfold qba_enc at h; split at h <;> cases h <;> rfl)
    (by intro ls r h; unfold qba_in at h; split at h; rw [qba, sealF_eq] at h; exact Eq.trans (by kernel_rfl) h; cases h)
def ms14 : List (FuncId × Mode U) := (108, qba_md) :: ms13
theorem known14 : Known kk env0 (modesOf ms14) := known_cons (by kernel_rfl) qba_post known13
def qao_sh : StSh := ⟨⟨[0], [], []⟩, [.t (.int .i32)], []⟩
def qao_os : List StSh := [⟨⟨[0], [], []⟩, [.t .bool], []⟩]
def qao_tr : Bool → Tr (Nat × List (TV U)) := fun x => .ret (0, [⟨.bool, x⟩])
def qao_enc : Nat → List (TV U) → Option (Bool)
  | 0, [⟨.bool, a0⟩] => some a0
  | _, _ => none
def qao_dec : Bool → Nat × List (TV U) := fun x => (0, [⟨.bool, x⟩])
def qao_in : List (TV U) → Option (Bool)
  | [⟨(.int .i32), a0⟩] => qao a0
  | _ => none
def qao_md : Mode U := ⟨qao_sh, [], qao_os, fun ls => .get (qao_in ls) qao_tr⟩
theorem qao_post : ModeOk kk env0 105 qao_md :=
  fn_of (fn := Tryz.f105) qao_enc qao_dec (kitOk_of eqOk mixed known14) (by kernel_rfl) (L := noL) (loopsOk_of (bs := []) (by kernel_rfl) trivial) (fun _ => rfl) (by intro i qs r h; unfold qao_enc at h; split at h <;> cases h <;> rfl)
    (by intro ls r h; unfold qao_in at h; split at h; rw [qao, sealF_eq] at h; exact Eq.trans (by kernel_rfl) h; cases h)
def ms15 : List (FuncId × Mode U) := (105, qao_md) :: ms14
theorem known15 : Known kk env0 (modesOf ms15) := known_cons (by kernel_rfl) qao_post known14
def qbq_sh2 : StSh := ⟨⟨[0, 1, 7, 8], [], []⟩, [.t (.slc .str), .t .str, .t (.int .i64), .t (.int .i64)], []⟩
def qbq_o2 : List Out := [⟨.ret, ⟨⟨[4], [], []⟩, [.t (.int .i64)], []⟩⟩, ⟨.exit 0, ⟨⟨[], [], []⟩, [], []⟩⟩]
def qbq_b2 : Code := (nthLoop (bodyOf Tryz.f123) 0)
def qbq_rec2 (rec : List (List UInt8) → List UInt8 → Int → Int → Option ((Int) ⊕ (Unit))) : List (TV U) → Option ((Int) ⊕ (Unit))
  | [⟨(.slc .str), a0⟩, ⟨.str, a1⟩, ⟨(.int .i64), a2⟩, ⟨(.int .i64), a3⟩] => rec a0 a1 a2 a3
  | _ => none
def qbq_enc2 : Nat → List (TV U) → Option ((Int) ⊕ (Unit))
  | 0, [⟨(.int .i64), a0⟩] => some (.inl a0)
  | 1, [] => some (.inr ())
  | _, _ => none
def qbq_dec2 : (Int) ⊕ (Unit) → Nat × List (TV U) := fun r => match r with | (.inl x) => (0, [⟨(.int .i64), x⟩]) | (.inr x) => (1, [])
def qbq_tr2 : (Int) ⊕ (Unit) → Tr (Nat × List (TV U)) := fun r => .alt r (fun x => .ret (0, [⟨(.int .i64), x⟩])) (fun y => (fun x => .ret (1, [])) y)
def qbq_lp2 : Lift.Loop U := ⟨qbq_sh2, qbq_o2, fun ls => .get (qbq_rec2 qbq_l2 ls) qbq_tr2⟩
theorem qbq_ok2 : LoopR kk env0 Tryz.f123.ntmps qbq_b2 qbq_lp2 :=
  loop_of qbq_enc2 qbq_dec2 (fun n => qbq_rec2 (qbq_i2 n)) (kitOk_of eqOk mixed known15) (L := noL) (loopsOk_of (bs := []) (by kernel_rfl) trivial) (by intro r; rcases r with r | r <;> rfl) (by intro i qs r h; unfold qbq_enc2 at h; split at h <;> cases h <;> rfl)
    (by intro ls r h; unfold qbq_rec2 at h; split at h <;> cases h)
    (by intro n ls r h; unfold qbq_rec2 at h; split at h; exact (show _ = qbq_t2 (qbq_i2 n) _ _ _ _ from by kernel_rfl).trans h; cases h) (by rw [qbq_l2, sealF_eq])
def qbq_sh : StSh := ⟨⟨[0, 1], [], []⟩, [.t (.slc .str), .t .str], []⟩
def qbq_os : List StSh := [⟨⟨[0], [], []⟩, [.t (.int .i64)], []⟩]
def qbq_tr : Int → Tr (Nat × List (TV U)) := fun x => .ret (0, [⟨(.int .i64), x⟩])
def qbq_L : Nat → Option (Lift.Loop U) := fun n => bif Nat.beq n 2 then some qbq_lp2 else none
def qbq_enc : Nat → List (TV U) → Option (Int)
  | 0, [⟨(.int .i64), a0⟩] => some a0
  | _, _ => none
def qbq_dec : Int → Nat × List (TV U) := fun x => (0, [⟨(.int .i64), x⟩])
def qbq_in : List (TV U) → Option (Int)
  | [⟨(.slc .str), a0⟩, ⟨.str, a1⟩] => qbq a0 a1
  | _ => none
def qbq_md : Mode U := ⟨qbq_sh, [], qbq_os, fun ls => .get (qbq_in ls) qbq_tr⟩
theorem qbq_post : ModeOk kk env0 123 qbq_md :=
  fn_of (fn := Tryz.f123) qbq_enc qbq_dec (kitOk_of eqOk mixed known15) (by kernel_rfl) (L := qbq_L) (loopsOk_of (bs := [qbq_b2]) (by kernel_rfl) ⟨.inr ⟨_, by kernel_rfl, LoopOk.of_round (qbq_ok2)⟩, trivial⟩) (fun _ => rfl) (by intro i qs r h; unfold qbq_enc at h; split at h <;> cases h <;> rfl)
    (by intro ls r h; unfold qbq_in at h; split at h; rw [qbq, sealF_eq] at h; exact Eq.trans (by kernel_rfl) h; cases h)
def ms16 : List (FuncId × Mode U) := (123, qbq_md) :: ms15
theorem known16 : Known kk env0 (modesOf ms16) := known_cons (by kernel_rfl) qbq_post known15
def qbk_sh : StSh := ⟨⟨[0, 1], [], []⟩, [.t (.slc .str), .t .str], []⟩
def qbk_os : List StSh := [⟨⟨[0], [], []⟩, [.t .bool], []⟩]
def qbk_tr : Bool → Tr (Nat × List (TV U)) := fun x => .ret (0, [⟨.bool, x⟩])
def qbk_enc : Nat → List (TV U) → Option (Bool)
  | 0, [⟨.bool, a0⟩] => some a0
  | _, _ => none
def qbk_dec : Bool → Nat × List (TV U) := fun x => (0, [⟨.bool, x⟩])
def qbk_in : List (TV U) → Option (Bool)
  | [⟨(.slc .str), a0⟩, ⟨.str, a1⟩] => qbk a0 a1
  | _ => none
def qbk_md : Mode U := ⟨qbk_sh, [], qbk_os, fun ls => .get (qbk_in ls) qbk_tr⟩
theorem qbk_post : ModeOk kk env0 110 qbk_md :=
  fn_of (fn := Tryz.f110) qbk_enc qbk_dec (kitOk_of eqOk mixed known16) (by kernel_rfl) (L := noL) (loopsOk_of (bs := []) (by kernel_rfl) trivial) (fun _ => rfl) (by intro i qs r h; unfold qbk_enc at h; split at h <;> cases h <;> rfl)
    (by intro ls r h; unfold qbk_in at h; split at h; rw [qbk, sealF_eq] at h; exact Eq.trans (by kernel_rfl) h; cases h)
def ms17 : List (FuncId × Mode U) := (110, qbk_md) :: ms16
theorem known17 : Known kk env0 (modesOf ms17) := known_cons (by kernel_rfl) qbk_post known16
def qar_sh : StSh := ⟨⟨[0], [], []⟩, [.t .str], []⟩
def qar_os : List StSh := [⟨⟨[0], [], []⟩, [.t .str], []⟩]
def qar_tr : (List UInt8) → Tr (Nat × List (TV U)) := fun x => .ret (0, [⟨.str, x⟩])
def qar_enc : Nat → List (TV U) → Option ((List UInt8))
  | 0, [⟨.str, a0⟩] => some a0
  | _, _ => none
def qar_dec : (List UInt8) → Nat × List (TV U) := fun x => (0, [⟨.str, x⟩])
def qar_in : List (TV U) → Option ((List UInt8))
  | [⟨.str, a0⟩] => qar a0
  | _ => none
def qar_md : Mode U := ⟨qar_sh, [], qar_os, fun ls => .get (qar_in ls) qar_tr⟩
theorem qar_post : ModeOk kk env0 106 qar_md :=
  fn_of (fn := Tryz.f106) qar_enc qar_dec (kitOk_of eqOk mixed known17) (by kernel_rfl) (L := noL) (loopsOk_of (bs := []) (by kernel_rfl) trivial) (fun _ => rfl) (by intro i qs r h; unfold qar_enc at h; split at h <;> cases h <;> rfl)
    (by intro ls r h; unfold qar_in at h; split at h; rw [qar, sealF_eq] at h; exact Eq.trans (by kernel_rfl) h; cases h)
def ms18 : List (FuncId × Mode U) := (106, qar_md) :: ms17
theorem known18 : Known kk env0 (modesOf ms18) := known_cons (by kernel_rfl) qar_post known17
def qat_sh2 : StSh := ⟨⟨[0, 6], [6], []⟩, [.t .str, .ptr 6 0], [.sit]⟩
def qat_o2 : List Out := [⟨.ret, ⟨⟨[2], [], []⟩, [.t .str], []⟩⟩, ⟨.exit 0, ⟨⟨[0], [], []⟩, [.t .str], []⟩⟩]
def qat_b2 : Code := (nthLoop (bodyOf Tryz.f107) 0)
def qat_rec2 (rec : List UInt8 → List UInt8 → Nat → Option (((List UInt8)) ⊕ ((List UInt8)))) : List (TV U) → Option (((List UInt8)) ⊕ ((List UInt8)))
  | [⟨.str, a0⟩, ⟨.str, a1⟩, ⟨.fn, a2⟩] => rec a0 a1 a2
  | _ => none
def qat_enc2 : Nat → List (TV U) → Option (((List UInt8)) ⊕ ((List UInt8)))
  | 0, [⟨.str, a0⟩] => some (.inl a0)
  | 1, [⟨.str, a0⟩] => some (.inr a0)
  | _, _ => none
def qat_dec2 : ((List UInt8)) ⊕ ((List UInt8)) → Nat × List (TV U) := fun r => match r with | (.inl x) => (0, [⟨.str, x⟩]) | (.inr x) => (1, [⟨.str, x⟩])
def qat_tr2 : ((List UInt8)) ⊕ ((List UInt8)) → Tr (Nat × List (TV U)) := fun r => .alt r (fun x => .ret (0, [⟨.str, x⟩])) (fun y => (fun x => .ret (1, [⟨.str, x⟩])) y)
def qat_lp2 : Lift.Loop U := ⟨qat_sh2, qat_o2, fun ls => .get (qat_rec2 qat_l2 ls) qat_tr2⟩
theorem qat_ok2 : LoopR kk env0 Tryz.f107.ntmps qat_b2 qat_lp2 :=
  loop_of qat_enc2 qat_dec2 (fun n => qat_rec2 (qat_i2 n)) (kitOk_of eqOk mixed known18) (L := noL) (loopsOk_of (bs := []) (by kernel_rfl) trivial) (by intro r; rcases r with r | r <;> rfl) (by intro i qs r h; unfold qat_enc2 at h; split at h <;> cases h <;> rfl)
    (by intro ls r h; unfold qat_rec2 at h; split at h <;> cases h)
    (by intro n ls r h; unfold qat_rec2 at h; split at h; exact (show _ = qat_t2 (qat_i2 n) _ _ _ from by kernel_rfl).trans h; cases h) (by rw [qat_l2, sealF_eq])
def qat_sh : StSh := ⟨⟨[0], [], []⟩, [.t .str], []⟩
def qat_os : List StSh := [⟨⟨[0], [], []⟩, [.t .str], []⟩]
def qat_tr : (List UInt8) → Tr (Nat × List (TV U)) := fun x => .ret (0, [⟨.str, x⟩])
def qat_L : Nat → Option (Lift.Loop U) := fun n => bif Nat.beq n 2 then some qat_lp2 else none
def qat_enc : Nat → List (TV U) → Option ((List UInt8))
  | 0, [⟨.str, a0⟩] => some a0
  | _, _ => none
def qat_dec : (List UInt8) → Nat × List (TV U) := fun x => (0, [⟨.str, x⟩])
def qat_in : List (TV U) → Option ((List UInt8))
  | [⟨.str, a0⟩] => qat a0
  | _ => none
def qat_md : Mode U := ⟨qat_sh, [], qat_os, fun ls => .get (qat_in ls) qat_tr⟩
theorem qat_post : ModeOk kk env0 107 qat_md :=
  fn_of (fn := Tryz.f107) qat_enc qat_dec (kitOk_of eqOk mixed known18) (by kernel_rfl) (L := qat_L) (loopsOk_of (bs := [qat_b2]) (by kernel_rfl) ⟨.inr ⟨_, by kernel_rfl, LoopOk.of_round (qat_ok2)⟩, trivial⟩) (fun _ => rfl) (by intro i qs r h; unfold qat_enc at h; split at h <;> cases h <;> rfl)
    (by intro ls r h; unfold qat_in at h; split at h; rw [qat, sealF_eq] at h; exact Eq.trans (by kernel_rfl) h; cases h)
def ms19 : List (FuncId × Mode U) := (107, qat_md) :: ms18
theorem known19 : Known kk env0 (modesOf ms19) := known_cons (by kernel_rfl) qat_post known18
def qap_sh : StSh := ⟨⟨[0], [], []⟩, [.t .str], []⟩
def qap_os : List StSh := [⟨⟨[0, 1], [], []⟩, [.t (.int .i64), .t .bool], []⟩]
def qap_tr : Int × Bool → Tr (Nat × List (TV U)) := fun x => .ret (0, [⟨(.int .i64), x.1⟩, ⟨.bool, x.2⟩])
def qap_enc : Nat → List (TV U) → Option (Int × Bool)
  | 0, [⟨(.int .i64), a0⟩, ⟨.bool, a1⟩] => some (a0, a1)
  | _, _ => none
def qap_dec : Int × Bool → Nat × List (TV U) := fun x => (0, [⟨(.int .i64), x.1⟩, ⟨.bool, x.2⟩])
def qap_in : List (TV U) → Option (Int × Bool)
  | [⟨.str, a0⟩] => qap a0
  | _ => none
def qap_md : Mode U := ⟨qap_sh, [], qap_os, fun ls => .get (qap_in ls) qap_tr⟩
theorem qap_post : ModeOk kk env0 109 qap_md :=
  fn_of (fn := Tryz.f109) qap_enc qap_dec (kitOk_of eqOk mixed known19) (by kernel_rfl) (L := noL) (loopsOk_of (bs := []) (by kernel_rfl) trivial) (fun _ => rfl) (by intro i qs r h; unfold qap_enc at h; split at h <;> cases h <;> rfl)
    (by intro ls r h; unfold qap_in at h; split at h; rw [qap, sealF_eq] at h; exact Eq.trans (by kernel_rfl) h; cases h)
def ms20 : List (FuncId × Mode U) := (109, qap_md) :: ms19
theorem known20 : Known kk env0 (modesOf ms20) := known_cons (by kernel_rfl) qap_post known19
def qan_sh : StSh := ⟨⟨[], [], []⟩, [], []⟩
def qan_os : List StSh := [⟨⟨[0], [], [⟨.slot 0, 100000, 9, .str⟩]⟩, [.oslc 100000], [.row 9 .str]⟩]
def qan_tr : (List (List UInt8)) → Tr (Nat × List (TV U)) := fun x => .ret (0, [⟨(.slc .str), x⟩])
def qan_enc : Nat → List (TV U) → Option ((List (List UInt8)))
  | 0, [⟨(.slc .str), a0⟩] => some a0
  | _, _ => none
def qan_dec : (List (List UInt8)) → Nat × List (TV U) := fun x => (0, [⟨(.slc .str), x⟩])
def qan_in : List (TV U) → Option ((List (List UInt8)))
  | [] => qan
  | _ => none
def qan_md : Mode U := ⟨qan_sh, [], qan_os, fun ls => .get (qan_in ls) qan_tr⟩
theorem qan_post : ModeOk kk env0 111 qan_md :=
  fn_of (fn := Tryz.f111) qan_enc qan_dec (kitOk_of eqOk mixed known20) (by kernel_rfl) (L := noL) (loopsOk_of (bs := []) (by kernel_rfl) trivial) (fun _ => rfl) (by intro i qs r h; unfold qan_enc at h; split at h <;> cases h <;> rfl)
    (by intro ls r h; unfold qan_in at h; split at h; rw [qan, sealF_eq] at h; exact Eq.trans (by kernel_rfl) h; cases h)
def ms21 : List (FuncId × Mode U) := (111, qan_md) :: ms20
theorem known21 : Known kk env0 (modesOf ms21) := known_cons (by kernel_rfl) qan_post known20
def qas_sh : StSh := ⟨⟨[0], [], []⟩, [.t .str], []⟩
def qas_os : List StSh := [⟨⟨[0, 1], [], []⟩, [.t (.st 94), .t (.int .i64)], []⟩]
def qas_tr : Token × Int → Tr (Nat × List (TV U)) := fun x => .ret (0, [⟨(.st 94), x.1⟩, ⟨(.int .i64), x.2⟩])
def qas_enc : Nat → List (TV U) → Option (Token × Int)
  | 0, [⟨(.st 94), a0⟩, ⟨(.int .i64), a1⟩] => some (a0, a1)
  | _, _ => none
def qas_dec : Token × Int → Nat × List (TV U) := fun x => (0, [⟨(.st 94), x.1⟩, ⟨(.int .i64), x.2⟩])
def qas_in : List (TV U) → Option (Token × Int)
  | [⟨.str, a0⟩] => qas a0
  | _ => none
def qas_md : Mode U := ⟨qas_sh, [], qas_os, fun ls => .get (qas_in ls) qas_tr⟩
theorem qas_post : ModeOk kk env0 92 qas_md :=
  fn_of (fn := Tryz.f92) qas_enc qas_dec (kitOk_of eqOk mixed known21) (by kernel_rfl) (L := noL) (loopsOk_of (bs := []) (by kernel_rfl) trivial) (fun _ => rfl) (by intro i qs r h; unfold qas_enc at h; split at h <;> cases h <;> rfl)
    (by intro ls r h; unfold qas_in at h; split at h; rw [qas, sealF_eq] at h; exact Eq.trans (by kernel_rfl) h; cases h)
def ms22 : List (FuncId × Mode U) := (92, qas_md) :: ms21
theorem known22 : Known kk env0 (modesOf ms22) := known_cons (by kernel_rfl) qas_post known21
def qam_sh6 : StSh := ⟨⟨[0, 3, 6, 7], [3], [⟨.slot 6, 6, 94, (.st 94)⟩]⟩, [.t .str, .ptr 3 0, .oslc 6, .t (.int .i64)], [.blk 90 [.t (.int .i64), .t (.int .i64), .t .str], .row 94 (.st 94)]⟩
def qam_o6 : List Out := [⟨.ret, ⟨⟨[2, 3], [3], []⟩, [.nil, .ptr 3 0], [.blk 90 [.t (.int .i64), .t (.int .i64), .t .str]]⟩⟩, ⟨.exit 0, ⟨⟨[0, 3, 6], [3], [⟨.slot 6, 6, 94, (.st 94)⟩]⟩, [.t .str, .ptr 3 0, .oslc 6], [.blk 90 [.t (.int .i64), .t (.int .i64), .t .str], .row 94 (.st 94)]⟩⟩]
def qam_b6 : Code := (nthLoop (bodyOf Tryz.f78) 0)
def qam_rec6 (rec : List UInt8 → Int → Int → Int → List UInt8 → List (Token) → Option ((Int × Int × (List UInt8)) ⊕ ((List UInt8) × Int × Int × (List UInt8) × (List (Token))))) : List (TV U) → Option ((Int × Int × (List UInt8)) ⊕ ((List UInt8) × Int × Int × (List UInt8) × (List (Token))))
  | [⟨.str, a0⟩, ⟨(.int .i64), a1⟩, ⟨(.int .i64), a2⟩, ⟨(.int .i64), a3⟩, ⟨.str, a4⟩, ⟨(.slc (.st 94)), a5⟩] => rec a0 a1 a2 a3 a4 a5
  | _ => none
def qam_enc6 : Nat → List (TV U) → Option ((Int × Int × (List UInt8)) ⊕ ((List UInt8) × Int × Int × (List UInt8) × (List (Token))))
  | 0, [⟨(.int .i64), a0⟩, ⟨(.int .i64), a1⟩, ⟨.str, a2⟩] => some (.inl (a0, a1, a2))
  | 1, [⟨.str, a0⟩, ⟨(.int .i64), a1⟩, ⟨(.int .i64), a2⟩, ⟨.str, a3⟩, ⟨(.slc (.st 94)), a4⟩] => some (.inr (a0, a1, a2, a3, a4))
  | _, _ => none
def qam_dec6 : (Int × Int × (List UInt8)) ⊕ ((List UInt8) × Int × Int × (List UInt8) × (List (Token))) → Nat × List (TV U) := fun r => match r with | (.inl x) => (0, [⟨(.int .i64), x.1⟩, ⟨(.int .i64), x.2.1⟩, ⟨.str, x.2.2⟩]) | (.inr x) => (1, [⟨.str, x.1⟩, ⟨(.int .i64), x.2.1⟩, ⟨(.int .i64), x.2.2.1⟩, ⟨.str, x.2.2.2.1⟩, ⟨(.slc (.st 94)), x.2.2.2.2⟩])
def qam_tr6 : (Int × Int × (List UInt8)) ⊕ ((List UInt8) × Int × Int × (List UInt8) × (List (Token))) → Tr (Nat × List (TV U)) := fun r => .alt r (fun x => .ret (0, [⟨(.int .i64), x.1⟩, ⟨(.int .i64), x.2.1⟩, ⟨.str, x.2.2⟩])) (fun y => (fun x => .ret (1, [⟨.str, x.1⟩, ⟨(.int .i64), x.2.1⟩, ⟨(.int .i64), x.2.2.1⟩, ⟨.str, x.2.2.2.1⟩, ⟨(.slc (.st 94)), x.2.2.2.2⟩])) y)
def qam_lp6 : Lift.Loop U := ⟨qam_sh6, qam_o6, fun ls => .get (qam_rec6 qam_l6 ls) qam_tr6⟩
theorem qam_ok6 : LoopR kk env0 Tryz.f78.ntmps qam_b6 qam_lp6 :=
  loop_of qam_enc6 qam_dec6 (fun n => qam_rec6 (qam_i6 n)) (kitOk_of eqOk mixed known22) (L := noL) (loopsOk_of (bs := []) (by kernel_rfl) trivial) (by intro r; rcases r with r | r <;> rfl) (by intro i qs r h; unfold qam_enc6 at h; split at h <;> cases h <;> rfl)
    (by intro ls r h; unfold qam_rec6 at h; split at h <;> cases h)
    (by intro n ls r h; unfold qam_rec6 at h; split at h; exact (show _ = qam_t6 (qam_i6 n) _ _ _ _ _ _ from by kernel_rfl).trans h; cases h) (by rw [qam_l6, sealF_eq])
def qam_sh : StSh := ⟨⟨[0], [], []⟩, [.t .str], []⟩
def qam_os : List StSh := [⟨⟨[0, 1], [], [⟨.slot 0, 100000, 94, (.st 94)⟩]⟩, [.oslc 100000, .t (.st 90)], [.row 94 (.st 94)]⟩]
def qam_tr : Fault × (List (Token)) → Tr (Nat × List (TV U)) := fun x => .ret (0, [⟨(.st 90), x.1⟩, ⟨(.slc (.st 94)), x.2⟩])
def qam_L : Nat → Option (Lift.Loop U) := fun n => bif Nat.beq n 6 then some qam_lp6 else none
def qam_enc : Nat → List (TV U) → Option (Fault × (List (Token)))
  | 0, [⟨(.st 90), a0⟩, ⟨(.slc (.st 94)), a1⟩] => some (a0, a1)
  | _, _ => none
def qam_dec : Fault × (List (Token)) → Nat × List (TV U) := fun x => (0, [⟨(.st 90), x.1⟩, ⟨(.slc (.st 94)), x.2⟩])
def qam_in : List (TV U) → Option (Fault × (List (Token)))
  | [⟨.str, a0⟩] => qam a0
  | _ => none
def qam_md : Mode U := ⟨qam_sh, [], qam_os, fun ls => .get (qam_in ls) qam_tr⟩
theorem qam_post : ModeOk kk env0 78 qam_md :=
  fn_of (fn := Tryz.f78) qam_enc qam_dec (kitOk_of eqOk mixed known22) (by kernel_rfl) (L := qam_L) (loopsOk_of (bs := [qam_b6]) (by kernel_rfl) ⟨.inr ⟨_, by kernel_rfl, LoopOk.of_round (qam_ok6)⟩, trivial⟩) (fun _ => rfl) (by intro i qs r h; unfold qam_enc at h; split at h <;> cases h <;> rfl)
    (by intro ls r h; unfold qam_in at h; split at h; rw [qam, sealF_eq] at h; exact Eq.trans (by kernel_rfl) h; cases h)
def ms23 : List (FuncId × Mode U) := (78, qam_md) :: ms22
theorem known23 : Known kk env0 (modesOf ms23) := known_cons (by kernel_rfl) qam_post known22
def qbP_sh : StSh := ⟨⟨[0], [], []⟩, [.t .str], []⟩
def qbP_os : List StSh := [⟨⟨[0], [], []⟩, [.t .bool], []⟩]
def qbP_tr : Bool → Tr (Nat × List (TV U)) := fun x => .ret (0, [⟨.bool, x⟩])
def qbP_enc : Nat → List (TV U) → Option (Bool)
  | 0, [⟨.bool, a0⟩] => some a0
  | _, _ => none
def qbP_dec : Bool → Nat × List (TV U) := fun x => (0, [⟨.bool, x⟩])
def qbP_in : List (TV U) → Option (Bool)
  | [⟨.str, a0⟩] => qbP a0
  | _ => none
def qbP_md : Mode U := ⟨qbP_sh, [], qbP_os, fun ls => .get (qbP_in ls) qbP_tr⟩
theorem qbP_post : ModeOk kk env0 58 qbP_md :=
  fn_of (fn := Tryz.f58) qbP_enc qbP_dec (kitOk_of eqOk mixed known23) (by kernel_rfl) (L := jnL) (loopsOk_of (bs := []) (by kernel_rfl) trivial) (fun _ => rfl) (by intro i qs r h; unfold qbP_enc at h; split at h <;> cases h <;> rfl)
    (by intro ls r h; unfold qbP_in at h; split at h; rw [qbP, sealF_eq] at h; exact Eq.trans (by kernel_rfl) h; cases h)
def ms24 : List (FuncId × Mode U) := (58, qbP_md) :: ms23
theorem known24 : Known kk env0 (modesOf ms24) := known_cons (by kernel_rfl) qbP_post known23
def qbX_sh : StSh := ⟨⟨[], [], []⟩, [], []⟩
def qbX_os : List StSh := [⟨⟨[0], [], []⟩, [.t (.map (.int .i64) (.st 96))], []⟩]
def qbX_tr : (List ((Int) × (Shape))) → Tr (Nat × List (TV U)) := fun x => .ret (0, [⟨(.map (.int .i64) (.st 96)), x⟩])
def qbX_enc : Nat → List (TV U) → Option ((List ((Int) × (Shape))))
  | 0, [⟨(.map (.int .i64) (.st 96)), a0⟩] => some a0
  | _, _ => none
def qbX_dec : (List ((Int) × (Shape))) → Nat × List (TV U) := fun x => (0, [⟨(.map (.int .i64) (.st 96)), x⟩])
def qbX_in : List (TV U) → Option ((List ((Int) × (Shape))))
  | [] => qbX
  | _ => none
def qbX_md : Mode U := ⟨qbX_sh, [], qbX_os, fun ls => .get (qbX_in ls) qbX_tr⟩
theorem qbX_post : ModeOk kk env0 79 qbX_md :=
  fn_of (fn := Tryz.f79) qbX_enc qbX_dec (kitOk_of eqOk mixed known24) (by kernel_rfl) (L := jnL) (loopsOk_of (bs := []) (by kernel_rfl) trivial) (fun _ => rfl) (by intro i qs r h; unfold qbX_enc at h; split at h <;> cases h <;> rfl)
    (by intro ls r h; unfold qbX_in at h; split at h; rw [qbX, sealF_eq] at h; exact Eq.trans (by kernel_rfl) h; cases h)
def ms25 : List (FuncId × Mode U) := (79, qbX_md) :: ms24
theorem known25 : Known kk env0 (modesOf ms25) := known_cons (by kernel_rfl) qbX_post known24
def qbO_sh : StSh := ⟨⟨[0, 1], [], []⟩, [.t .str, .t .bool], []⟩
def qbO_os : List StSh := [⟨⟨[0], [], []⟩, [.t .bool], []⟩]
def qbO_tr : Bool → Tr (Nat × List (TV U)) := fun x => .ret (0, [⟨.bool, x⟩])
def qbO_enc : Nat → List (TV U) → Option (Bool)
  | 0, [⟨.bool, a0⟩] => some a0
  | _, _ => none
def qbO_dec : Bool → Nat × List (TV U) := fun x => (0, [⟨.bool, x⟩])
def qbO_in : List (TV U) → Option (Bool)
  | [⟨.str, a0⟩, ⟨.bool, a1⟩] => qbO a0 a1
  | _ => none
def qbO_md : Mode U := ⟨qbO_sh, [], qbO_os, fun ls => .get (qbO_in ls) qbO_tr⟩
theorem qbO_post : ModeOk kk env0 80 qbO_md :=
  fn_of (fn := Tryz.f80) qbO_enc qbO_dec (kitOk_of eqOk mixed known25) (by kernel_rfl) (L := jnL) (loopsOk_of (bs := []) (by kernel_rfl) trivial) (fun _ => rfl) (by intro i qs r h; unfold qbO_enc at h; split at h <;> cases h <;> rfl)
    (by intro ls r h; unfold qbO_in at h; split at h; rw [qbO, sealF_eq] at h; exact Eq.trans (by kernel_rfl) h; cases h)
def ms26 : List (FuncId × Mode U) := (80, qbO_md) :: ms25
theorem known26 : Known kk env0 (modesOf ms26) := known_cons (by kernel_rfl) qbO_post known25
def qbY_sh : StSh := ⟨⟨[0], [], []⟩, [.t (.st 43)], []⟩
def qbY_os : List StSh := [⟨⟨[0], [], []⟩, [.t .bool], []⟩]
def qbY_tr : Bool → Tr (Nat × List (TV U)) := fun x => .ret (0, [⟨.bool, x⟩])
def qbY_enc : Nat → List (TV U) → Option (Bool)
  | 0, [⟨.bool, a0⟩] => some a0
  | _, _ => none
def qbY_dec : Bool → Nat × List (TV U) := fun x => (0, [⟨.bool, x⟩])
def qbY_in : List (TV U) → Option (Bool)
  | [⟨(.st 43), a0⟩] => qbY a0
  | _ => none
def qbY_md : Mode U := ⟨qbY_sh, [], qbY_os, fun ls => .get (qbY_in ls) qbY_tr⟩
theorem qbY_post : ModeOk kk env0 60 qbY_md :=
  fn_of (fn := Tryz.f60) qbY_enc qbY_dec (kitOk_of eqOk mixed known26) (by kernel_rfl) (L := jnL) (loopsOk_of (bs := []) (by kernel_rfl) trivial) (fun _ => rfl) (by intro i qs r h; unfold qbY_enc at h; split at h <;> cases h <;> rfl)
    (by intro ls r h; unfold qbY_in at h; split at h; rw [qbY, sealF_eq] at h; exact Eq.trans (by kernel_rfl) h; cases h)
def ms27 : List (FuncId × Mode U) := (60, qbY_md) :: ms26
theorem known27 : Known kk env0 (modesOf ms27) := known_cons (by kernel_rfl) qbY_post known26
def qbM_sh : StSh := ⟨⟨[0, 1, 2], [100000], []⟩, [.t (.st 43), .t (.int .i64), .ptr 100000 0], [.blk 4 [.t .bool]]⟩
def qbM_os : List StSh := [⟨⟨[], [100000], []⟩, [], [.blk 4 [.t .bool]]⟩]
def qbM_tr : Bool → Tr (Nat × List (TV U)) := fun x => .ret (0, [⟨.bool, x⟩])
def qbM_enc : Nat → List (TV U) → Option (Bool)
  | 0, [⟨.bool, a0⟩] => some a0
  | _, _ => none
def qbM_dec : Bool → Nat × List (TV U) := fun x => (0, [⟨.bool, x⟩])
def qbM_in : List (TV U) → Option (Bool)
  | [⟨(.st 43), a0⟩, ⟨(.int .i64), a1⟩, ⟨.bool, a2⟩] => qbM a0 a1 a2
  | _ => none
def qbM_md : Mode U := ⟨qbM_sh, [⟨100000, .slot 2, []⟩], qbM_os, fun ls => .get (qbM_in ls) qbM_tr⟩
theorem qbM_post : ModeOk kk env0 59 qbM_md :=
  fn_of (fn := Tryz.f59) qbM_enc qbM_dec (kitOk_of eqOk mixed known27) (by kernel_rfl) (L := jnL) (loopsOk_of (bs := []) (by kernel_rfl) trivial) (fun _ => rfl) (by intro i qs r h; unfold qbM_enc at h; split at h <;> cases h <;> rfl)
    (by intro ls r h; unfold qbM_in at h; split at h; rw [qbM, sealF_eq] at h; exact Eq.trans (by kernel_rfl) h; cases h)
def ms28 : List (FuncId × Mode U) := (59, qbM_md) :: ms27
theorem known28 : Known kk env0 (modesOf ms28) := known_cons (by kernel_rfl) qbM_post known27
def qbK_sh : StSh := ⟨⟨[0], [], []⟩, [.t (.st 41)], []⟩
def qbK_os : List StSh := [⟨⟨[0], [], []⟩, [.t .bool], []⟩]
def qbK_tr : Bool → Tr (Nat × List (TV U)) := fun x => .ret (0, [⟨.bool, x⟩])
def qbK_enc : Nat → List (TV U) → Option (Bool)
  | 0, [⟨.bool, a0⟩] => some a0
  | _, _ => none
def qbK_dec : Bool → Nat × List (TV U) := fun x => (0, [⟨.bool, x⟩])
def qbK_in : List (TV U) → Option (Bool)
  | [⟨(.st 41), a0⟩] => qbK a0
  | _ => none
def qbK_md : Mode U := ⟨qbK_sh, [], qbK_os, fun ls => .get (qbK_in ls) qbK_tr⟩
theorem qbK_post : ModeOk kk env0 62 qbK_md :=
  fn_of (fn := Tryz.f62) qbK_enc qbK_dec (kitOk_of eqOk mixed known28) (by kernel_rfl) (L := jnL) (loopsOk_of (bs := []) (by kernel_rfl) trivial) (fun _ => rfl) (by intro i qs r h; unfold qbK_enc at h; split at h <;> cases h <;> rfl)
    (by intro ls r h; unfold qbK_in at h; split at h; rw [qbK, sealF_eq] at h; exact Eq.trans (by kernel_rfl) h; cases h)
def ms29 : List (FuncId × Mode U) := (62, qbK_md) :: ms28
theorem known29 : Known kk env0 (modesOf ms29) := known_cons (by kernel_rfl) qbK_post known28
def qbN_sh : StSh := ⟨⟨[0, 1, 2], [100000], []⟩, [.t (.st 41), .t (.int .i64), .ptr 100000 0], [.blk 4 [.t .bool]]⟩
def qbN_os : List StSh := [⟨⟨[], [100000], []⟩, [], [.blk 4 [.t .bool]]⟩]
def qbN_tr : Bool → Tr (Nat × List (TV U)) := fun x => .ret (0, [⟨.bool, x⟩])
def qbN_enc : Nat → List (TV U) → Option (Bool)
  | 0, [⟨.bool, a0⟩] => some a0
  | _, _ => none
def qbN_dec : Bool → Nat × List (TV U) := fun x => (0, [⟨.bool, x⟩])
def qbN_in : List (TV U) → Option (Bool)
  | [⟨(.st 41), a0⟩, ⟨(.int .i64), a1⟩, ⟨.bool, a2⟩] => qbN a0 a1 a2
  | _ => none
def qbN_md : Mode U := ⟨qbN_sh, [⟨100000, .slot 2, []⟩], qbN_os, fun ls => .get (qbN_in ls) qbN_tr⟩
theorem qbN_post : ModeOk kk env0 61 qbN_md :=
  fn_of (fn := Tryz.f61) qbN_enc qbN_dec (kitOk_of eqOk mixed known29) (by kernel_rfl) (L := jnL) (loopsOk_of (bs := []) (by kernel_rfl) trivial) (fun _ => rfl) (by intro i qs r h; unfold qbN_enc at h; split at h <;> cases h <;> rfl)
    (by intro ls r h; unfold qbN_in at h; split at h; rw [qbN, sealF_eq] at h; exact Eq.trans (by kernel_rfl) h; cases h)
def ms30 : List (FuncId × Mode U) := (61, qbN_md) :: ms29
theorem known30 : Known kk env0 (modesOf ms30) := known_cons (by kernel_rfl) qbN_post known29
def qaa_sh : StSh := ⟨⟨[0, 1, 2], [100000], []⟩, [.agg [.clo 59 [.ptr 100000 0], .clo 61 [.ptr 100000 0]], .t (.st 41), .t (.int .i64)], [.blk 4 [.t .bool]]⟩
def qaa_os : List StSh := [⟨⟨[], [100000], []⟩, [], [.blk 4 [.t .bool]]⟩]
def qaa_tr : Bool → Tr (Nat × List (TV U)) := fun x => .ret (0, [⟨.bool, x⟩])
def qaa_in (rec_qaa : TExpr → Int → Bool → Option (Bool)) : List (TV U) → Option (Bool)
  | [⟨(.st 41), a0⟩, ⟨(.int .i64), a1⟩, ⟨.bool, a2⟩] => rec_qaa a0 a1 a2
  | _ => none
def qaa_rmd (rec_qaa : TExpr → Int → Bool → Option (Bool)) : Mode U := ⟨qaa_sh, [⟨100000, .slot 0, [0, 0]⟩], qaa_os, fun ls => .get (qaa_in rec_qaa ls) qaa_tr⟩
def ms31 (rec_qaa : TExpr → Int → Bool → Option (Bool)) : List (FuncId × Mode U) := (81, (qaa_rmd rec_qaa)) :: ms30
theorem known31 (rec_qaa : TExpr → Int → Bool → Option (Bool)) (hrec_qaa : ModeOk kk env0 81 (qaa_rmd rec_qaa)) : Known kk env0 (modesOf (ms31 rec_qaa)) := known_cons (by kernel_rfl) hrec_qaa known30
def qaa_sh3 : StSh := ⟨⟨[2, 3, 14, 15, 16], [100000, 3], []⟩, [.t (.int .i64), .ptr 3 0, .t (.slc (.st 41)), .t (.int .i64), .t (.int .i64)], [.blk 4 [.t .bool], .blk 52 [.clo 59 [.ptr 100000 0], .clo 61 [.ptr 100000 0]]]⟩
def qaa_o3 : List Out := [⟨.exit 0, ⟨⟨[], [100000], []⟩, [], [.blk 4 [.t .bool]]⟩⟩]
def qaa_b3 : Code := (nthLoop (bodyOf Tryz.f81) 0)
def qaa_rec3 (rec : Int → List (TExpr) → Int → Int → Bool → Option (Bool)) : List (TV U) → Option (Bool)
  | [⟨(.int .i64), a0⟩, ⟨(.slc (.st 41)), a1⟩, ⟨(.int .i64), a2⟩, ⟨(.int .i64), a3⟩, ⟨.bool, a4⟩] => rec a0 a1 a2 a3 a4
  | _ => none
def qaa_enc3 : Nat → List (TV U) → Option (Bool)
  | 0, [⟨.bool, a0⟩] => some a0
  | _, _ => none
def qaa_dec3 : Bool → Nat × List (TV U) := fun x => (0, [⟨.bool, x⟩])
def qaa_tr3 : Bool → Tr (Nat × List (TV U)) := fun x => .ret (0, [⟨.bool, x⟩])
def qaa_lp3 (rec_qaa : TExpr → Int → Bool → Option (Bool)) : Lift.Loop U := ⟨qaa_sh3, qaa_o3, fun ls => .get (qaa_rec3 (qaa_l3 rec_qaa) ls) qaa_tr3⟩
theorem qaa_ok3 (rec_qaa : TExpr → Int → Bool → Option (Bool)) (hrec_qaa : ModeOk kk env0 81 (qaa_rmd rec_qaa)) : LoopR kk env0 Tryz.f81.ntmps qaa_b3 (qaa_lp3 rec_qaa) :=
  loop_of qaa_enc3 qaa_dec3 (fun n => qaa_rec3 (qaa_i3 rec_qaa n)) (kitOk_of eqOk mixed (known31 rec_qaa hrec_qaa)) (L := jnL) (loopsOk_of (bs := []) (by kernel_rfl) trivial) (fun _ => rfl) (by intro i qs r h; unfold qaa_enc3 at h; split at h <;> cases h <;> rfl)
    (by intro ls r h; unfold qaa_rec3 at h; split at h <;> cases h)
    (by intro n ls r h; unfold qaa_rec3 at h; split at h; exact (show _ = qaa_t3 rec_qaa (qaa_i3 rec_qaa n) _ _ _ _ _ from by kernel_rfl).trans h; cases h) (by rw [qaa_l3, sealF_eq])
def qaa_L (rec_qaa : TExpr → Int → Bool → Option (Bool)) : Nat → Option (Lift.Loop U) := fun n => bif Nat.beq n joinKey then some joinMark else bif Nat.beq n 3 then some (qaa_lp3 rec_qaa) else none
def qaa_enc : Nat → List (TV U) → Option (Bool)
  | 0, [⟨.bool, a0⟩] => some a0
  | _, _ => none
def qaa_dec : Bool → Nat × List (TV U) := fun x => (0, [⟨.bool, x⟩])
def qaa_md : Mode U := qaa_rmd qaa
theorem qaa_step (rec_qaa : TExpr → Int → Bool → Option (Bool)) (hrec_qaa : ModeOk kk env0 81 (qaa_rmd rec_qaa)) : LoopsOk (Kit.withModes kk (modesOf (ms31 rec_qaa))) env0 Tryz.f81.ntmps (qaa_L rec_qaa) (bodyOf Tryz.f81) := loopsOk_of (bs := [qaa_b3]) (by kernel_rfl) ⟨.inr ⟨_, by kernel_rfl, LoopOk.of_round (qaa_ok3 rec_qaa hrec_qaa)⟩, trivial⟩
theorem qaa_post : ModeOk kk env0 81 (qaa_rmd qaa) :=
  rec_of (K := kk) (F := qaa) qaa_rmd qaa_i (by rw [qaa, sealF_eq]) (rec_zero (by intro ls r h; unfold qaa_in at h; split at h <;> cases h)) (fun n ih => fn_of (fn := Tryz.f81) qaa_enc qaa_dec (kitOk_of eqOk mixed (known31 (qaa_i n) ih)) (by kernel_rfl) (qaa_step (qaa_i n) ih) (fun _ => rfl) (by intro i qs r h; unfold qaa_enc at h; split at h <;> cases h <;> rfl)
    (by intro ls r h; unfold qaa_in at h; split at h; exact (show _ = qaa_f (qaa_i n) _ _ _ from by kernel_rfl).trans h; cases h))
def ms32 : List (FuncId × Mode U) := (81, qaa_md) :: ms30
theorem known32 : Known kk env0 (modesOf ms32) := known_cons (by kernel_rfl) qaa_post known30
def qai_sh : StSh := ⟨⟨[0, 1, 2], [100000], []⟩, [.agg [.clo 59 [.ptr 100000 0], .clo 61 [.ptr 100000 0]], .t (.slc (.st 43)), .t (.int .i64)], [.blk 4 [.t .bool]]⟩
def qai_os : List StSh := [⟨⟨[], [100000], []⟩, [], [.blk 4 [.t .bool]]⟩]
def qai_tr : Bool → Tr (Nat × List (TV U)) := fun x => .ret (0, [⟨.bool, x⟩])
def qai_in (rec_qai : List (TStmt) → Int → Bool → Option (Bool)) : List (TV U) → Option (Bool)
  | [⟨(.slc (.st 43)), a0⟩, ⟨(.int .i64), a1⟩, ⟨.bool, a2⟩] => rec_qai a0 a1 a2
  | _ => none
def qai_rmd (rec_qai : List (TStmt) → Int → Bool → Option (Bool)) : Mode U := ⟨qai_sh, [⟨100000, .slot 0, [0, 0]⟩], qai_os, fun ls => .get (qai_in rec_qai ls) qai_tr⟩
def ms33 (rec_qai : List (TStmt) → Int → Bool → Option (Bool)) : List (FuncId × Mode U) := (64, (qai_rmd rec_qai)) :: ms32
theorem known33 (rec_qai : List (TStmt) → Int → Bool → Option (Bool)) (hrec_qai : ModeOk kk env0 64 (qai_rmd rec_qai)) : Known kk env0 (modesOf (ms33 rec_qai)) := known_cons (by kernel_rfl) hrec_qai known32
def qai_sh2 : StSh := ⟨⟨[2, 3, 8, 9, 10], [100000, 3], []⟩, [.t (.int .i64), .ptr 3 0, .t (.slc (.st 43)), .t (.int .i64), .t (.int .i64)], [.blk 4 [.t .bool], .blk 52 [.clo 59 [.ptr 100000 0], .clo 61 [.ptr 100000 0]]]⟩
def qai_o2 : List Out := [⟨.exit 0, ⟨⟨[], [100000], []⟩, [], [.blk 4 [.t .bool]]⟩⟩]
def qai_b2 : Code := (nthLoop (bodyOf Tryz.f64) 0)
def qai_rec2 (rec : Int → List (TStmt) → Int → Int → Bool → Option (Bool)) : List (TV U) → Option (Bool)
  | [⟨(.int .i64), a0⟩, ⟨(.slc (.st 43)), a1⟩, ⟨(.int .i64), a2⟩, ⟨(.int .i64), a3⟩, ⟨.bool, a4⟩] => rec a0 a1 a2 a3 a4
  | _ => none
def qai_enc2 : Nat → List (TV U) → Option (Bool)
  | 0, [⟨.bool, a0⟩] => some a0
  | _, _ => none
def qai_dec2 : Bool → Nat × List (TV U) := fun x => (0, [⟨.bool, x⟩])
def qai_tr2 : Bool → Tr (Nat × List (TV U)) := fun x => .ret (0, [⟨.bool, x⟩])
def qai_lp2 (rec_qai : List (TStmt) → Int → Bool → Option (Bool)) : Lift.Loop U := ⟨qai_sh2, qai_o2, fun ls => .get (qai_rec2 (qai_l2 rec_qai) ls) qai_tr2⟩
theorem qai_ok2 (rec_qai : List (TStmt) → Int → Bool → Option (Bool)) (hrec_qai : ModeOk kk env0 64 (qai_rmd rec_qai)) : LoopR kk env0 Tryz.f64.ntmps qai_b2 (qai_lp2 rec_qai) :=
  loop_of qai_enc2 qai_dec2 (fun n => qai_rec2 (qai_i2 rec_qai n)) (kitOk_of eqOk mixed (known33 rec_qai hrec_qai)) (L := jnL) (loopsOk_of (bs := []) (by kernel_rfl) trivial) (fun _ => rfl) (by intro i qs r h; unfold qai_enc2 at h; split at h <;> cases h <;> rfl)
    (by intro ls r h; unfold qai_rec2 at h; split at h <;> cases h)
    (by intro n ls r h; unfold qai_rec2 at h; split at h; exact (show _ = qai_t2 rec_qai (qai_i2 rec_qai n) _ _ _ _ _ from by kernel_rfl).trans h; cases h) (by rw [qai_l2, sealF_eq])
def qai_L (rec_qai : List (TStmt) → Int → Bool → Option (Bool)) : Nat → Option (Lift.Loop U) := fun n => bif Nat.beq n joinKey then some joinMark else bif Nat.beq n 2 then some (qai_lp2 rec_qai) else none
def qai_enc : Nat → List (TV U) → Option (Bool)
  | 0, [⟨.bool, a0⟩] => some a0
  | _, _ => none
def qai_dec : Bool → Nat × List (TV U) := fun x => (0, [⟨.bool, x⟩])
def qai_md : Mode U := qai_rmd qai
theorem qai_step (rec_qai : List (TStmt) → Int → Bool → Option (Bool)) (hrec_qai : ModeOk kk env0 64 (qai_rmd rec_qai)) : LoopsOk (Kit.withModes kk (modesOf (ms33 rec_qai))) env0 Tryz.f64.ntmps (qai_L rec_qai) (bodyOf Tryz.f64) := loopsOk_of (bs := [qai_b2]) (by kernel_rfl) ⟨.inr ⟨_, by kernel_rfl, LoopOk.of_round (qai_ok2 rec_qai hrec_qai)⟩, trivial⟩
theorem qai_post : ModeOk kk env0 64 (qai_rmd qai) :=
  rec_of (K := kk) (F := qai) qai_rmd qai_i (by rw [qai, sealF_eq]) (rec_zero (by intro ls r h; unfold qai_in at h; split at h <;> cases h)) (fun n ih => fn_of (fn := Tryz.f64) qai_enc qai_dec (kitOk_of eqOk mixed (known33 (qai_i n) ih)) (by kernel_rfl) (qai_step (qai_i n) ih) (fun _ => rfl) (by intro i qs r h; unfold qai_enc at h; split at h <;> cases h <;> rfl)
    (by intro ls r h; unfold qai_in at h; split at h; exact (show _ = qai_f (qai_i n) _ _ _ from by kernel_rfl).trans h; cases h))
def ms34 : List (FuncId × Mode U) := (64, qai_md) :: ms32
theorem known34 : Known kk env0 (modesOf ms34) := known_cons (by kernel_rfl) qai_post known32
def qae_sh2 : StSh := ⟨⟨[2, 7, 8, 9], [100000, 2], []⟩, [.ptr 2 0, .t (.slc (.st 38)), .t (.int .i64), .t (.int .i64)], [.blk 4 [.t .bool], .blk 52 [.clo 59 [.ptr 100000 0], .clo 61 [.ptr 100000 0]]]⟩
def qae_o2 : List Out := [⟨.exit 0, ⟨⟨[], [100000], []⟩, [], [.blk 4 [.t .bool]]⟩⟩]
def qae_b2 : Code := (nthLoop (bodyOf Tryz.f29) 0)
def qae_rec2 (rec : List (TThread) → Int → Int → Bool → Option (Bool)) : List (TV U) → Option (Bool)
  | [⟨(.slc (.st 38)), a0⟩, ⟨(.int .i64), a1⟩, ⟨(.int .i64), a2⟩, ⟨.bool, a3⟩] => rec a0 a1 a2 a3
  | _ => none
def qae_enc2 : Nat → List (TV U) → Option (Bool)
  | 0, [⟨.bool, a0⟩] => some a0
  | _, _ => none
def qae_dec2 : Bool → Nat × List (TV U) := fun x => (0, [⟨.bool, x⟩])
def qae_tr2 : Bool → Tr (Nat × List (TV U)) := fun x => .ret (0, [⟨.bool, x⟩])
def qae_lp2 : Lift.Loop U := ⟨qae_sh2, qae_o2, fun ls => .get (qae_rec2 qae_l2 ls) qae_tr2⟩
theorem qae_ok2 : LoopR kk env0 Tryz.f29.ntmps qae_b2 qae_lp2 :=
  loop_of qae_enc2 qae_dec2 (fun n => qae_rec2 (qae_i2 n)) (kitOk_of eqOk mixed known34) (L := jnL) (loopsOk_of (bs := []) (by kernel_rfl) trivial) (fun _ => rfl) (by intro i qs r h; unfold qae_enc2 at h; split at h <;> cases h <;> rfl)
    (by intro ls r h; unfold qae_rec2 at h; split at h <;> cases h)
    (by intro n ls r h; unfold qae_rec2 at h; split at h; exact (show _ = qae_t2 (qae_i2 n) _ _ _ _ from by kernel_rfl).trans h; cases h) (by rw [qae_l2, sealF_eq])
def qae_sh : StSh := ⟨⟨[0, 1], [100000], []⟩, [.agg [.clo 59 [.ptr 100000 0], .clo 61 [.ptr 100000 0]], .t (.st 26)], [.blk 4 [.t .bool]]⟩
def qae_os : List StSh := [⟨⟨[], [100000], []⟩, [], [.blk 4 [.t .bool]]⟩]
def qae_tr : Bool → Tr (Nat × List (TV U)) := fun x => .ret (0, [⟨.bool, x⟩])
def qae_L : Nat → Option (Lift.Loop U) := fun n => bif Nat.beq n joinKey then some joinMark else bif Nat.beq n 2 then some qae_lp2 else none
def qae_enc : Nat → List (TV U) → Option (Bool)
  | 0, [⟨.bool, a0⟩] => some a0
  | _, _ => none
def qae_dec : Bool → Nat × List (TV U) := fun x => (0, [⟨.bool, x⟩])
def qae_in : List (TV U) → Option (Bool)
  | [⟨(.st 26), a0⟩, ⟨.bool, a1⟩] => qae a0 a1
  | _ => none
def qae_md : Mode U := ⟨qae_sh, [⟨100000, .slot 0, [0, 0]⟩], qae_os, fun ls => .get (qae_in ls) qae_tr⟩
theorem qae_post : ModeOk kk env0 29 qae_md :=
  fn_of (fn := Tryz.f29) qae_enc qae_dec (kitOk_of eqOk mixed known34) (by kernel_rfl) (L := qae_L) (loopsOk_of (bs := [qae_b2]) (by kernel_rfl) ⟨.inr ⟨_, by kernel_rfl, LoopOk.of_round (qae_ok2)⟩, trivial⟩) (fun _ => rfl) (by intro i qs r h; unfold qae_enc at h; split at h <;> cases h <;> rfl)
    (by intro ls r h; unfold qae_in at h; split at h; rw [qae, sealF_eq] at h; exact Eq.trans (by kernel_rfl) h; cases h)
def ms35 : List (FuncId × Mode U) := (29, qae_md) :: ms34
theorem known35 : Known kk env0 (modesOf ms35) := known_cons (by kernel_rfl) qae_post known34
def qbL_sh3 : StSh := ⟨⟨[1, 3, 11, 12, 13], [1, 3], []⟩, [.ptr 1 0, .ptr 3 0, .t (.slc (.st 46)), .t (.int .i64), .t (.int .i64)], [.blk 26 [.t (.slc (.st 46)), .t (.slc .str), .t (.slc (.st 38))], .blk 4 [.t .bool]]⟩
def qbL_o3 : List Out := [⟨.exit 0, ⟨⟨[1, 3], [1, 3], []⟩, [.ptr 1 0, .ptr 3 0], [.blk 26 [.t (.slc (.st 46)), .t (.slc .str), .t (.slc (.st 38))], .blk 4 [.t .bool]]⟩⟩]
def qbL_b3 : Code := (nthLoop (bodyOf Tryz.f25) 0)
def qbL_rec3 (rec : List (TCell) → Int → Int → List (TCell) → List (List UInt8) → List (TThread) → Bool → Option ((List (TCell)) × (List (List UInt8)) × (List (TThread)) × Bool)) : List (TV U) → Option ((List (TCell)) × (List (List UInt8)) × (List (TThread)) × Bool)
  | [⟨(.slc (.st 46)), a0⟩, ⟨(.int .i64), a1⟩, ⟨(.int .i64), a2⟩, ⟨(.slc (.st 46)), a3⟩, ⟨(.slc .str), a4⟩, ⟨(.slc (.st 38)), a5⟩, ⟨.bool, a6⟩] => rec a0 a1 a2 a3 a4 a5 a6
  | _ => none
def qbL_enc3 : Nat → List (TV U) → Option ((List (TCell)) × (List (List UInt8)) × (List (TThread)) × Bool)
  | 0, [⟨(.slc (.st 46)), a0⟩, ⟨(.slc .str), a1⟩, ⟨(.slc (.st 38)), a2⟩, ⟨.bool, a3⟩] => some (a0, a1, a2, a3)
  | _, _ => none
def qbL_dec3 : (List (TCell)) × (List (List UInt8)) × (List (TThread)) × Bool → Nat × List (TV U) := fun x => (0, [⟨(.slc (.st 46)), x.1⟩, ⟨(.slc .str), x.2.1⟩, ⟨(.slc (.st 38)), x.2.2.1⟩, ⟨.bool, x.2.2.2⟩])
def qbL_tr3 : (List (TCell)) × (List (List UInt8)) × (List (TThread)) × Bool → Tr (Nat × List (TV U)) := fun x => .ret (0, [⟨(.slc (.st 46)), x.1⟩, ⟨(.slc .str), x.2.1⟩, ⟨(.slc (.st 38)), x.2.2.1⟩, ⟨.bool, x.2.2.2⟩])
def qbL_lp3 : Lift.Loop U := ⟨qbL_sh3, qbL_o3, fun ls => .get (qbL_rec3 qbL_l3 ls) qbL_tr3⟩
theorem qbL_ok3 : LoopR kk env0 Tryz.f25.ntmps qbL_b3 qbL_lp3 :=
  loop_of qbL_enc3 qbL_dec3 (fun n => qbL_rec3 (qbL_i3 n)) (kitOk_of eqOk mixed known35) (L := jnL) (loopsOk_of (bs := []) (by kernel_rfl) trivial) (fun _ => rfl) (by intro i qs r h; unfold qbL_enc3 at h; split at h <;> cases h <;> rfl)
    (by intro ls r h; unfold qbL_rec3 at h; split at h <;> cases h)
    (by intro n ls r h; unfold qbL_rec3 at h; split at h; exact (show _ = qbL_t3 (qbL_i3 n) _ _ _ _ _ _ _ from by kernel_rfl).trans h; cases h) (by rw [qbL_l3, sealF_eq])
def qbL_sh8 : StSh := ⟨⟨[1, 3, 35, 36, 37], [1, 3], []⟩, [.ptr 1 0, .ptr 3 0, .t (.slc .str), .t (.int .i64), .t (.int .i64)], [.blk 26 [.t (.slc (.st 46)), .t (.slc .str), .t (.slc (.st 38))], .blk 4 [.t .bool]]⟩
def qbL_o8 : List Out := [⟨.exit 2, ⟨⟨[1, 3], [1, 3], []⟩, [.ptr 1 0, .ptr 3 0], [.blk 26 [.t (.slc (.st 46)), .t (.slc .str), .t (.slc (.st 38))], .blk 4 [.t .bool]]⟩⟩]
def qbL_b8 : Code := (nthLoop (bodyOf Tryz.f25) 1)
def qbL_rec8 (rec : List (List UInt8) → Int → Int → List (TCell) → List (List UInt8) → List (TThread) → Bool → Option ((List (TCell)) × (List (List UInt8)) × (List (TThread)) × Bool)) : List (TV U) → Option ((List (TCell)) × (List (List UInt8)) × (List (TThread)) × Bool)
  | [⟨(.slc .str), a0⟩, ⟨(.int .i64), a1⟩, ⟨(.int .i64), a2⟩, ⟨(.slc (.st 46)), a3⟩, ⟨(.slc .str), a4⟩, ⟨(.slc (.st 38)), a5⟩, ⟨.bool, a6⟩] => rec a0 a1 a2 a3 a4 a5 a6
  | _ => none
def qbL_enc8 : Nat → List (TV U) → Option ((List (TCell)) × (List (List UInt8)) × (List (TThread)) × Bool)
  | 0, [⟨(.slc (.st 46)), a0⟩, ⟨(.slc .str), a1⟩, ⟨(.slc (.st 38)), a2⟩, ⟨.bool, a3⟩] => some (a0, a1, a2, a3)
  | _, _ => none
def qbL_dec8 : (List (TCell)) × (List (List UInt8)) × (List (TThread)) × Bool → Nat × List (TV U) := fun x => (0, [⟨(.slc (.st 46)), x.1⟩, ⟨(.slc .str), x.2.1⟩, ⟨(.slc (.st 38)), x.2.2.1⟩, ⟨.bool, x.2.2.2⟩])
def qbL_tr8 : (List (TCell)) × (List (List UInt8)) × (List (TThread)) × Bool → Tr (Nat × List (TV U)) := fun x => .ret (0, [⟨(.slc (.st 46)), x.1⟩, ⟨(.slc .str), x.2.1⟩, ⟨(.slc (.st 38)), x.2.2.1⟩, ⟨.bool, x.2.2.2⟩])
def qbL_lp8 : Lift.Loop U := ⟨qbL_sh8, qbL_o8, fun ls => .get (qbL_rec8 qbL_l8 ls) qbL_tr8⟩
theorem qbL_ok8 : LoopR kk env0 Tryz.f25.ntmps qbL_b8 qbL_lp8 :=
  loop_of qbL_enc8 qbL_dec8 (fun n => qbL_rec8 (qbL_i8 n)) (kitOk_of eqOk mixed known35) (L := jnL) (loopsOk_of (bs := []) (by kernel_rfl) trivial) (fun _ => rfl) (by intro i qs r h; unfold qbL_enc8 at h; split at h <;> cases h <;> rfl)
    (by intro ls r h; unfold qbL_rec8 at h; split at h <;> cases h)
    (by intro n ls r h; unfold qbL_rec8 at h; split at h; exact (show _ = qbL_t8 (qbL_i8 n) _ _ _ _ _ _ _ from by kernel_rfl).trans h; cases h) (by rw [qbL_l8, sealF_eq])
def qbL_sh13 : StSh := ⟨⟨[1, 3, 48, 49, 50], [1, 3], []⟩, [.ptr 1 0, .ptr 3 0, .t (.slc (.st 38)), .t (.int .i64), .t (.int .i64)], [.blk 26 [.t (.slc (.st 46)), .t (.slc .str), .t (.slc (.st 38))], .blk 4 [.t .bool]]⟩
def qbL_o13 : List Out := [⟨.exit 4, ⟨⟨[1, 3], [1, 3], []⟩, [.ptr 1 0, .ptr 3 0], [.blk 26 [.t (.slc (.st 46)), .t (.slc .str), .t (.slc (.st 38))], .blk 4 [.t .bool]]⟩⟩]
def qbL_b13 : Code := (nthLoop (bodyOf Tryz.f25) 2)
def qbL_rec13 (rec : List (TThread) → Int → Int → List (TCell) → List (List UInt8) → List (TThread) → Bool → Option ((List (TCell)) × (List (List UInt8)) × (List (TThread)) × Bool)) : List (TV U) → Option ((List (TCell)) × (List (List UInt8)) × (List (TThread)) × Bool)
  | [⟨(.slc (.st 38)), a0⟩, ⟨(.int .i64), a1⟩, ⟨(.int .i64), a2⟩, ⟨(.slc (.st 46)), a3⟩, ⟨(.slc .str), a4⟩, ⟨(.slc (.st 38)), a5⟩, ⟨.bool, a6⟩] => rec a0 a1 a2 a3 a4 a5 a6
  | _ => none
def qbL_enc13 : Nat → List (TV U) → Option ((List (TCell)) × (List (List UInt8)) × (List (TThread)) × Bool)
  | 0, [⟨(.slc (.st 46)), a0⟩, ⟨(.slc .str), a1⟩, ⟨(.slc (.st 38)), a2⟩, ⟨.bool, a3⟩] => some (a0, a1, a2, a3)
  | _, _ => none
def qbL_dec13 : (List (TCell)) × (List (List UInt8)) × (List (TThread)) × Bool → Nat × List (TV U) := fun x => (0, [⟨(.slc (.st 46)), x.1⟩, ⟨(.slc .str), x.2.1⟩, ⟨(.slc (.st 38)), x.2.2.1⟩, ⟨.bool, x.2.2.2⟩])
def qbL_tr13 : (List (TCell)) × (List (List UInt8)) × (List (TThread)) × Bool → Tr (Nat × List (TV U)) := fun x => .ret (0, [⟨(.slc (.st 46)), x.1⟩, ⟨(.slc .str), x.2.1⟩, ⟨(.slc (.st 38)), x.2.2.1⟩, ⟨.bool, x.2.2.2⟩])
def qbL_lp13 : Lift.Loop U := ⟨qbL_sh13, qbL_o13, fun ls => .get (qbL_rec13 qbL_l13 ls) qbL_tr13⟩
theorem qbL_ok13 : LoopR kk env0 Tryz.f25.ntmps qbL_b13 qbL_lp13 :=
  loop_of qbL_enc13 qbL_dec13 (fun n => qbL_rec13 (qbL_i13 n)) (kitOk_of eqOk mixed known35) (L := jnL) (loopsOk_of (bs := []) (by kernel_rfl) trivial) (fun _ => rfl) (by intro i qs r h; unfold qbL_enc13 at h; split at h <;> cases h <;> rfl)
    (by intro ls r h; unfold qbL_rec13 at h; split at h <;> cases h)
    (by intro n ls r h; unfold qbL_rec13 at h; split at h; exact (show _ = qbL_t13 (qbL_i13 n) _ _ _ _ _ _ _ from by kernel_rfl).trans h; cases h) (by rw [qbL_l13, sealF_eq])
def qbL_sh : StSh := ⟨⟨[0], [], []⟩, [.t (.st 26)], []⟩
def qbL_os : List StSh := [⟨⟨[0], [], []⟩, [.t .bool], []⟩]
def qbL_tr : Bool → Tr (Nat × List (TV U)) := fun x => .ret (0, [⟨.bool, x⟩])
def qbL_L : Nat → Option (Lift.Loop U) := fun n => bif Nat.beq n joinKey then some joinMark else bif Nat.beq n 3 then some qbL_lp3 else bif Nat.beq n 8 then some qbL_lp8 else bif Nat.beq n 13 then some qbL_lp13 else none
def qbL_enc : Nat → List (TV U) → Option (Bool)
  | 0, [⟨.bool, a0⟩] => some a0
  | _, _ => none
def qbL_dec : Bool → Nat × List (TV U) := fun x => (0, [⟨.bool, x⟩])
def qbL_in : List (TV U) → Option (Bool)
  | [⟨(.st 26), a0⟩] => qbL a0
  | _ => none
def qbL_md : Mode U := ⟨qbL_sh, [], qbL_os, fun ls => .get (qbL_in ls) qbL_tr⟩
theorem qbL_post : ModeOk kk env0 25 qbL_md :=
  fn_of (fn := Tryz.f25) qbL_enc qbL_dec (kitOk_of eqOk mixed known35) (by kernel_rfl) (L := qbL_L) (loopsOk_of (bs := [qbL_b3, qbL_b8, qbL_b13]) (by kernel_rfl) ⟨.inr ⟨_, by kernel_rfl, LoopOk.of_round (qbL_ok3)⟩, .inr ⟨_, by kernel_rfl, LoopOk.of_round (qbL_ok8)⟩, .inr ⟨_, by kernel_rfl, LoopOk.of_round (qbL_ok13)⟩, trivial⟩) (fun _ => rfl) (by intro i qs r h; unfold qbL_enc at h; split at h <;> cases h <;> rfl)
    (by intro ls r h; unfold qbL_in at h; split at h; rw [qbL, sealF_eq] at h; exact Eq.trans (by kernel_rfl) h; cases h)
def ms36 : List (FuncId × Mode U) := (25, qbL_md) :: ms35
theorem known36 : Known kk env0 (modesOf ms36) := known_cons (by kernel_rfl) qbL_post known35
def qbz_sh : StSh := ⟨⟨[0, 1, 2], [100000], []⟩, [.t (.st 43), .t (.int .i64), .ptr 100000 0], [.blk 3 [.t (.int .i64)]]⟩
def qbz_os : List StSh := [⟨⟨[], [100000], []⟩, [], [.blk 3 [.t (.int .i64)]]⟩]
def qbz_tr : Int → Tr (Nat × List (TV U)) := fun x => .ret (0, [⟨(.int .i64), x⟩])
def qbz_enc : Nat → List (TV U) → Option (Int)
  | 0, [⟨(.int .i64), a0⟩] => some a0
  | _, _ => none
def qbz_dec : Int → Nat × List (TV U) := fun x => (0, [⟨(.int .i64), x⟩])
def qbz_in : List (TV U) → Option (Int)
  | [⟨(.st 43), a0⟩, ⟨(.int .i64), a1⟩, ⟨(.int .i64), a2⟩] => qbz a0 a1 a2
  | _ => none
def qbz_md : Mode U := ⟨qbz_sh, [⟨100000, .slot 2, []⟩], qbz_os, fun ls => .get (qbz_in ls) qbz_tr⟩
theorem qbz_post : ModeOk kk env0 30 qbz_md :=
  fn_of (fn := Tryz.f30) qbz_enc qbz_dec (kitOk_of eqOk mixed known36) (by kernel_rfl) (L := jnL) (loopsOk_of (bs := []) (by kernel_rfl) trivial) (fun _ => rfl) (by intro i qs r h; unfold qbz_enc at h; split at h <;> cases h <;> rfl)
    (by intro ls r h; unfold qbz_in at h; split at h; rw [qbz, sealF_eq] at h; exact Eq.trans (by kernel_rfl) h; cases h)
def ms37 : List (FuncId × Mode U) := (30, qbz_md) :: ms36
theorem known37 : Known kk env0 (modesOf ms37) := known_cons (by kernel_rfl) qbz_post known36
def qbA_sh : StSh := ⟨⟨[0, 1, 2], [100000], []⟩, [.t (.st 41), .t (.int .i64), .ptr 100000 0], [.blk 3 [.t (.int .i64)]]⟩
def qbA_os : List StSh := [⟨⟨[], [100000], []⟩, [], [.blk 3 [.t (.int .i64)]]⟩]
def qbA_tr : Int → Tr (Nat × List (TV U)) := fun x => .ret (0, [⟨(.int .i64), x⟩])
def qbA_enc : Nat → List (TV U) → Option (Int)
  | 0, [⟨(.int .i64), a0⟩] => some a0
  | _, _ => none
def qbA_dec : Int → Nat × List (TV U) := fun x => (0, [⟨(.int .i64), x⟩])
def qbA_in : List (TV U) → Option (Int)
  | [⟨(.st 41), a0⟩, ⟨(.int .i64), a1⟩, ⟨(.int .i64), a2⟩] => qbA a0 a1 a2
  | _ => none
def qbA_md : Mode U := ⟨qbA_sh, [⟨100000, .slot 2, []⟩], qbA_os, fun ls => .get (qbA_in ls) qbA_tr⟩
theorem qbA_post : ModeOk kk env0 31 qbA_md :=
  fn_of (fn := Tryz.f31) qbA_enc qbA_dec (kitOk_of eqOk mixed known37) (by kernel_rfl) (L := jnL) (loopsOk_of (bs := []) (by kernel_rfl) trivial) (fun _ => rfl) (by intro i qs r h; unfold qbA_enc at h; split at h <;> cases h <;> rfl)
    (by intro ls r h; unfold qbA_in at h; split at h; rw [qbA, sealF_eq] at h; exact Eq.trans (by kernel_rfl) h; cases h)
def ms38 : List (FuncId × Mode U) := (31, qbA_md) :: ms37
theorem known38 : Known kk env0 (modesOf ms38) := known_cons (by kernel_rfl) qbA_post known37
def qab_sh : StSh := ⟨⟨[0, 1, 2], [100000], []⟩, [.agg [.clo 30 [.ptr 100000 0], .clo 31 [.ptr 100000 0]], .t (.st 41), .t (.int .i64)], [.blk 3 [.t (.int .i64)]]⟩
def qab_os : List StSh := [⟨⟨[], [100000], []⟩, [], [.blk 3 [.t (.int .i64)]]⟩]
def qab_tr : Int → Tr (Nat × List (TV U)) := fun x => .ret (0, [⟨(.int .i64), x⟩])
def qab_in (rec_qab : TExpr → Int → Int → Option (Int)) : List (TV U) → Option (Int)
  | [⟨(.st 41), a0⟩, ⟨(.int .i64), a1⟩, ⟨(.int .i64), a2⟩] => rec_qab a0 a1 a2
  | _ => none
def qab_rmd (rec_qab : TExpr → Int → Int → Option (Int)) : Mode U := ⟨qab_sh, [⟨100000, .slot 0, [0, 0]⟩], qab_os, fun ls => .get (qab_in rec_qab ls) qab_tr⟩
def ms39 (rec_qab : TExpr → Int → Int → Option (Int)) : List (FuncId × Mode U) := (81, (qab_rmd rec_qab)) :: ms38
theorem known39 (rec_qab : TExpr → Int → Int → Option (Int)) (hrec_qab : ModeOk kk env0 81 (qab_rmd rec_qab)) : Known kk env0 (modesOf (ms39 rec_qab)) := known_cons (by kernel_rfl) hrec_qab known38
def qab_sh3 : StSh := ⟨⟨[2, 3, 14, 15, 16], [100000, 3], []⟩, [.t (.int .i64), .ptr 3 0, .t (.slc (.st 41)), .t (.int .i64), .t (.int .i64)], [.blk 3 [.t (.int .i64)], .blk 52 [.clo 30 [.ptr 100000 0], .clo 31 [.ptr 100000 0]]]⟩
def qab_o3 : List Out := [⟨.exit 0, ⟨⟨[], [100000], []⟩, [], [.blk 3 [.t (.int .i64)]]⟩⟩]
def qab_b3 : Code := (nthLoop (bodyOf Tryz.f81) 0)
def qab_rec3 (rec : Int → List (TExpr) → Int → Int → Int → Option (Int)) : List (TV U) → Option (Int)
  | [⟨(.int .i64), a0⟩, ⟨(.slc (.st 41)), a1⟩, ⟨(.int .i64), a2⟩, ⟨(.int .i64), a3⟩, ⟨(.int .i64), a4⟩] => rec a0 a1 a2 a3 a4
  | _ => none
def qab_enc3 : Nat → List (TV U) → Option (Int)
  | 0, [⟨(.int .i64), a0⟩] => some a0
  | _, _ => none
def qab_dec3 : Int → Nat × List (TV U) := fun x => (0, [⟨(.int .i64), x⟩])
def qab_tr3 : Int → Tr (Nat × List (TV U)) := fun x => .ret (0, [⟨(.int .i64), x⟩])
def qab_lp3 (rec_qab : TExpr → Int → Int → Option (Int)) : Lift.Loop U := ⟨qab_sh3, qab_o3, fun ls => .get (qab_rec3 (qab_l3 rec_qab) ls) qab_tr3⟩
theorem qab_ok3 (rec_qab : TExpr → Int → Int → Option (Int)) (hrec_qab : ModeOk kk env0 81 (qab_rmd rec_qab)) : LoopR kk env0 Tryz.f81.ntmps qab_b3 (qab_lp3 rec_qab) :=
  loop_of qab_enc3 qab_dec3 (fun n => qab_rec3 (qab_i3 rec_qab n)) (kitOk_of eqOk mixed (known39 rec_qab hrec_qab)) (L := jnL) (loopsOk_of (bs := []) (by kernel_rfl) trivial) (fun _ => rfl) (by intro i qs r h; unfold qab_enc3 at h; split at h <;> cases h <;> rfl)
    (by intro ls r h; unfold qab_rec3 at h; split at h <;> cases h)
    (by intro n ls r h; unfold qab_rec3 at h; split at h; exact (show _ = qab_t3 rec_qab (qab_i3 rec_qab n) _ _ _ _ _ from by kernel_rfl).trans h; cases h) (by rw [qab_l3, sealF_eq])
def qab_L (rec_qab : TExpr → Int → Int → Option (Int)) : Nat → Option (Lift.Loop U) := fun n => bif Nat.beq n joinKey then some joinMark else bif Nat.beq n 3 then some (qab_lp3 rec_qab) else none
def qab_enc : Nat → List (TV U) → Option (Int)
  | 0, [⟨(.int .i64), a0⟩] => some a0
  | _, _ => none
def qab_dec : Int → Nat × List (TV U) := fun x => (0, [⟨(.int .i64), x⟩])
def qab_md : Mode U := qab_rmd qab
theorem qab_step (rec_qab : TExpr → Int → Int → Option (Int)) (hrec_qab : ModeOk kk env0 81 (qab_rmd rec_qab)) : LoopsOk (Kit.withModes kk (modesOf (ms39 rec_qab))) env0 Tryz.f81.ntmps (qab_L rec_qab) (bodyOf Tryz.f81) := loopsOk_of (bs := [qab_b3]) (by kernel_rfl) ⟨.inr ⟨_, by kernel_rfl, LoopOk.of_round (qab_ok3 rec_qab hrec_qab)⟩, trivial⟩
theorem qab_post : ModeOk kk env0 81 (qab_rmd qab) :=
  rec_of (K := kk) (F := qab) qab_rmd qab_i (by rw [qab, sealF_eq]) (rec_zero (by intro ls r h; unfold qab_in at h; split at h <;> cases h)) (fun n ih => fn_of (fn := Tryz.f81) qab_enc qab_dec (kitOk_of eqOk mixed (known39 (qab_i n) ih)) (by kernel_rfl) (qab_step (qab_i n) ih) (fun _ => rfl) (by intro i qs r h; unfold qab_enc at h; split at h <;> cases h <;> rfl)
    (by intro ls r h; unfold qab_in at h; split at h; exact (show _ = qab_f (qab_i n) _ _ _ from by kernel_rfl).trans h; cases h))
def ms40 : List (FuncId × Mode U) := (81, qab_md) :: ms38
theorem known40 : Known kk env0 (modesOf ms40) := known_cons (by kernel_rfl) qab_post known38
def qaj_sh : StSh := ⟨⟨[0, 1, 2], [100000], []⟩, [.agg [.clo 30 [.ptr 100000 0], .clo 31 [.ptr 100000 0]], .t (.slc (.st 43)), .t (.int .i64)], [.blk 3 [.t (.int .i64)]]⟩
def qaj_os : List StSh := [⟨⟨[], [100000], []⟩, [], [.blk 3 [.t (.int .i64)]]⟩]
def qaj_tr : Int → Tr (Nat × List (TV U)) := fun x => .ret (0, [⟨(.int .i64), x⟩])
def qaj_in (rec_qaj : List (TStmt) → Int → Int → Option (Int)) : List (TV U) → Option (Int)
  | [⟨(.slc (.st 43)), a0⟩, ⟨(.int .i64), a1⟩, ⟨(.int .i64), a2⟩] => rec_qaj a0 a1 a2
  | _ => none
def qaj_rmd (rec_qaj : List (TStmt) → Int → Int → Option (Int)) : Mode U := ⟨qaj_sh, [⟨100000, .slot 0, [0, 0]⟩], qaj_os, fun ls => .get (qaj_in rec_qaj ls) qaj_tr⟩
def ms41 (rec_qaj : List (TStmt) → Int → Int → Option (Int)) : List (FuncId × Mode U) := (64, (qaj_rmd rec_qaj)) :: ms40
theorem known41 (rec_qaj : List (TStmt) → Int → Int → Option (Int)) (hrec_qaj : ModeOk kk env0 64 (qaj_rmd rec_qaj)) : Known kk env0 (modesOf (ms41 rec_qaj)) := known_cons (by kernel_rfl) hrec_qaj known40
def qaj_sh2 : StSh := ⟨⟨[2, 3, 8, 9, 10], [100000, 3], []⟩, [.t (.int .i64), .ptr 3 0, .t (.slc (.st 43)), .t (.int .i64), .t (.int .i64)], [.blk 3 [.t (.int .i64)], .blk 52 [.clo 30 [.ptr 100000 0], .clo 31 [.ptr 100000 0]]]⟩
def qaj_o2 : List Out := [⟨.exit 0, ⟨⟨[], [100000], []⟩, [], [.blk 3 [.t (.int .i64)]]⟩⟩]
def qaj_b2 : Code := (nthLoop (bodyOf Tryz.f64) 0)
def qaj_rec2 (rec : Int → List (TStmt) → Int → Int → Int → Option (Int)) : List (TV U) → Option (Int)
  | [⟨(.int .i64), a0⟩, ⟨(.slc (.st 43)), a1⟩, ⟨(.int .i64), a2⟩, ⟨(.int .i64), a3⟩, ⟨(.int .i64), a4⟩] => rec a0 a1 a2 a3 a4
  | _ => none
def qaj_enc2 : Nat → List (TV U) → Option (Int)
  | 0, [⟨(.int .i64), a0⟩] => some a0
  | _, _ => none
def qaj_dec2 : Int → Nat × List (TV U) := fun x => (0, [⟨(.int .i64), x⟩])
def qaj_tr2 : Int → Tr (Nat × List (TV U)) := fun x => .ret (0, [⟨(.int .i64), x⟩])
def qaj_lp2 (rec_qaj : List (TStmt) → Int → Int → Option (Int)) : Lift.Loop U := ⟨qaj_sh2, qaj_o2, fun ls => .get (qaj_rec2 (qaj_l2 rec_qaj) ls) qaj_tr2⟩
theorem qaj_ok2 (rec_qaj : List (TStmt) → Int → Int → Option (Int)) (hrec_qaj : ModeOk kk env0 64 (qaj_rmd rec_qaj)) : LoopR kk env0 Tryz.f64.ntmps qaj_b2 (qaj_lp2 rec_qaj) :=
  loop_of qaj_enc2 qaj_dec2 (fun n => qaj_rec2 (qaj_i2 rec_qaj n)) (kitOk_of eqOk mixed (known41 rec_qaj hrec_qaj)) (L := jnL) (loopsOk_of (bs := []) (by kernel_rfl) trivial) (fun _ => rfl) (by intro i qs r h; unfold qaj_enc2 at h; split at h <;> cases h <;> rfl)
    (by intro ls r h; unfold qaj_rec2 at h; split at h <;> cases h)
    (by intro n ls r h; unfold qaj_rec2 at h; split at h; exact (show _ = qaj_t2 rec_qaj (qaj_i2 rec_qaj n) _ _ _ _ _ from by kernel_rfl).trans h; cases h) (by rw [qaj_l2, sealF_eq])
def qaj_L (rec_qaj : List (TStmt) → Int → Int → Option (Int)) : Nat → Option (Lift.Loop U) := fun n => bif Nat.beq n joinKey then some joinMark else bif Nat.beq n 2 then some (qaj_lp2 rec_qaj) else none
def qaj_enc : Nat → List (TV U) → Option (Int)
  | 0, [⟨(.int .i64), a0⟩] => some a0
  | _, _ => none
def qaj_dec : Int → Nat × List (TV U) := fun x => (0, [⟨(.int .i64), x⟩])
def qaj_md : Mode U := qaj_rmd qaj
theorem qaj_step (rec_qaj : List (TStmt) → Int → Int → Option (Int)) (hrec_qaj : ModeOk kk env0 64 (qaj_rmd rec_qaj)) : LoopsOk (Kit.withModes kk (modesOf (ms41 rec_qaj))) env0 Tryz.f64.ntmps (qaj_L rec_qaj) (bodyOf Tryz.f64) := loopsOk_of (bs := [qaj_b2]) (by kernel_rfl) ⟨.inr ⟨_, by kernel_rfl, LoopOk.of_round (qaj_ok2 rec_qaj hrec_qaj)⟩, trivial⟩
theorem qaj_post : ModeOk kk env0 64 (qaj_rmd qaj) :=
  rec_of (K := kk) (F := qaj) qaj_rmd qaj_i (by rw [qaj, sealF_eq]) (rec_zero (by intro ls r h; unfold qaj_in at h; split at h <;> cases h)) (fun n ih => fn_of (fn := Tryz.f64) qaj_enc qaj_dec (kitOk_of eqOk mixed (known41 (qaj_i n) ih)) (by kernel_rfl) (qaj_step (qaj_i n) ih) (fun _ => rfl) (by intro i qs r h; unfold qaj_enc at h; split at h <;> cases h <;> rfl)
    (by intro ls r h; unfold qaj_in at h; split at h; exact (show _ = qaj_f (qaj_i n) _ _ _ from by kernel_rfl).trans h; cases h))
def ms42 : List (FuncId × Mode U) := (64, qaj_md) :: ms40
theorem known42 : Known kk env0 (modesOf ms42) := known_cons (by kernel_rfl) qaj_post known40
def qaf_sh2 : StSh := ⟨⟨[2, 7, 8, 9], [100000, 2], []⟩, [.ptr 2 0, .t (.slc (.st 38)), .t (.int .i64), .t (.int .i64)], [.blk 3 [.t (.int .i64)], .blk 52 [.clo 30 [.ptr 100000 0], .clo 31 [.ptr 100000 0]]]⟩
def qaf_o2 : List Out := [⟨.exit 0, ⟨⟨[], [100000], []⟩, [], [.blk 3 [.t (.int .i64)]]⟩⟩]
def qaf_b2 : Code := (nthLoop (bodyOf Tryz.f29) 0)
def qaf_rec2 (rec : List (TThread) → Int → Int → Int → Option (Int)) : List (TV U) → Option (Int)
  | [⟨(.slc (.st 38)), a0⟩, ⟨(.int .i64), a1⟩, ⟨(.int .i64), a2⟩, ⟨(.int .i64), a3⟩] => rec a0 a1 a2 a3
  | _ => none
def qaf_enc2 : Nat → List (TV U) → Option (Int)
  | 0, [⟨(.int .i64), a0⟩] => some a0
  | _, _ => none
def qaf_dec2 : Int → Nat × List (TV U) := fun x => (0, [⟨(.int .i64), x⟩])
def qaf_tr2 : Int → Tr (Nat × List (TV U)) := fun x => .ret (0, [⟨(.int .i64), x⟩])
def qaf_lp2 : Lift.Loop U := ⟨qaf_sh2, qaf_o2, fun ls => .get (qaf_rec2 qaf_l2 ls) qaf_tr2⟩
theorem qaf_ok2 : LoopR kk env0 Tryz.f29.ntmps qaf_b2 qaf_lp2 :=
  loop_of qaf_enc2 qaf_dec2 (fun n => qaf_rec2 (qaf_i2 n)) (kitOk_of eqOk mixed known42) (L := jnL) (loopsOk_of (bs := []) (by kernel_rfl) trivial) (fun _ => rfl) (by intro i qs r h; unfold qaf_enc2 at h; split at h <;> cases h <;> rfl)
    (by intro ls r h; unfold qaf_rec2 at h; split at h <;> cases h)
    (by intro n ls r h; unfold qaf_rec2 at h; split at h; exact (show _ = qaf_t2 (qaf_i2 n) _ _ _ _ from by kernel_rfl).trans h; cases h) (by rw [qaf_l2, sealF_eq])
def qaf_sh : StSh := ⟨⟨[0, 1], [100000], []⟩, [.agg [.clo 30 [.ptr 100000 0], .clo 31 [.ptr 100000 0]], .t (.st 26)], [.blk 3 [.t (.int .i64)]]⟩
def qaf_os : List StSh := [⟨⟨[], [100000], []⟩, [], [.blk 3 [.t (.int .i64)]]⟩]
def qaf_tr : Int → Tr (Nat × List (TV U)) := fun x => .ret (0, [⟨(.int .i64), x⟩])
def qaf_L : Nat → Option (Lift.Loop U) := fun n => bif Nat.beq n joinKey then some joinMark else bif Nat.beq n 2 then some qaf_lp2 else none
def qaf_enc : Nat → List (TV U) → Option (Int)
  | 0, [⟨(.int .i64), a0⟩] => some a0
  | _, _ => none
def qaf_dec : Int → Nat × List (TV U) := fun x => (0, [⟨(.int .i64), x⟩])
def qaf_in : List (TV U) → Option (Int)
  | [⟨(.st 26), a0⟩, ⟨(.int .i64), a1⟩] => qaf a0 a1
  | _ => none
def qaf_md : Mode U := ⟨qaf_sh, [⟨100000, .slot 0, [0, 0]⟩], qaf_os, fun ls => .get (qaf_in ls) qaf_tr⟩
theorem qaf_post : ModeOk kk env0 29 qaf_md :=
  fn_of (fn := Tryz.f29) qaf_enc qaf_dec (kitOk_of eqOk mixed known42) (by kernel_rfl) (L := qaf_L) (loopsOk_of (bs := [qaf_b2]) (by kernel_rfl) ⟨.inr ⟨_, by kernel_rfl, LoopOk.of_round (qaf_ok2)⟩, trivial⟩) (fun _ => rfl) (by intro i qs r h; unfold qaf_enc at h; split at h <;> cases h <;> rfl)
    (by intro ls r h; unfold qaf_in at h; split at h; rw [qaf, sealF_eq] at h; exact Eq.trans (by kernel_rfl) h; cases h)
def ms43 : List (FuncId × Mode U) := (29, qaf_md) :: ms42
theorem known43 : Known kk env0 (modesOf ms43) := known_cons (by kernel_rfl) qaf_post known42
def qby_sh : StSh := ⟨⟨[0], [], []⟩, [.t (.st 26)], []⟩
def qby_os : List StSh := [⟨⟨[0], [], []⟩, [.t (.int .i64)], []⟩]
def qby_tr : Int → Tr (Nat × List (TV U)) := fun x => .ret (0, [⟨(.int .i64), x⟩])
def qby_enc : Nat → List (TV U) → Option (Int)
  | 0, [⟨(.int .i64), a0⟩] => some a0
  | _, _ => none
def qby_dec : Int → Nat × List (TV U) := fun x => (0, [⟨(.int .i64), x⟩])
def qby_in : List (TV U) → Option (Int)
  | [⟨(.st 26), a0⟩] => qby a0
  | _ => none
def qby_md : Mode U := ⟨qby_sh, [], qby_os, fun ls => .get (qby_in ls) qby_tr⟩
theorem qby_post : ModeOk kk env0 15 qby_md :=
  fn_of (fn := Tryz.f15) qby_enc qby_dec (kitOk_of eqOk mixed known43) (by kernel_rfl) (L := jnL) (loopsOk_of (bs := []) (by kernel_rfl) trivial) (fun _ => rfl) (by intro i qs r h; unfold qby_enc at h; split at h <;> cases h <;> rfl)
    (by intro ls r h; unfold qby_in at h; split at h; rw [qby, sealF_eq] at h; exact Eq.trans (by kernel_rfl) h; cases h)
def ms44 : List (FuncId × Mode U) := (15, qby_md) :: ms43
theorem known44 : Known kk env0 (modesOf ms44) := known_cons (by kernel_rfl) qby_post known43
def qbw_sh : StSh := ⟨⟨[0, 1, 2], [100000], []⟩, [.t (.st 43), .t (.int .i64), .ptr 100000 0], [.blk 3 [.t (.int .i64)]]⟩
def qbw_os : List StSh := [⟨⟨[], [100000], []⟩, [], [.blk 3 [.t (.int .i64)]]⟩]
def qbw_tr : Int → Tr (Nat × List (TV U)) := fun x => .ret (0, [⟨(.int .i64), x⟩])
def qbw_enc : Nat → List (TV U) → Option (Int)
  | 0, [⟨(.int .i64), a0⟩] => some a0
  | _, _ => none
def qbw_dec : Int → Nat × List (TV U) := fun x => (0, [⟨(.int .i64), x⟩])
def qbw_in : List (TV U) → Option (Int)
  | [⟨(.st 43), a0⟩, ⟨(.int .i64), a1⟩, ⟨(.int .i64), a2⟩] => qbw a0 a1 a2
  | _ => none
def qbw_md : Mode U := ⟨qbw_sh, [⟨100000, .slot 2, []⟩], qbw_os, fun ls => .get (qbw_in ls) qbw_tr⟩
theorem qbw_post : ModeOk kk env0 27 qbw_md :=
  fn_of (fn := Tryz.f27) qbw_enc qbw_dec (kitOk_of eqOk mixed known44) (by kernel_rfl) (L := jnL) (loopsOk_of (bs := []) (by kernel_rfl) trivial) (fun _ => rfl) (by intro i qs r h; unfold qbw_enc at h; split at h <;> cases h <;> rfl)
    (by intro ls r h; unfold qbw_in at h; split at h; rw [qbw, sealF_eq] at h; exact Eq.trans (by kernel_rfl) h; cases h)
def ms45 : List (FuncId × Mode U) := (27, qbw_md) :: ms44
theorem known45 : Known kk env0 (modesOf ms45) := known_cons (by kernel_rfl) qbw_post known44
def qbx_sh : StSh := ⟨⟨[0, 1, 2], [100000], []⟩, [.t (.st 41), .t (.int .i64), .ptr 100000 0], [.blk 3 [.t (.int .i64)]]⟩
def qbx_os : List StSh := [⟨⟨[], [100000], []⟩, [], [.blk 3 [.t (.int .i64)]]⟩]
def qbx_tr : Int → Tr (Nat × List (TV U)) := fun x => .ret (0, [⟨(.int .i64), x⟩])
def qbx_enc : Nat → List (TV U) → Option (Int)
  | 0, [⟨(.int .i64), a0⟩] => some a0
  | _, _ => none
def qbx_dec : Int → Nat × List (TV U) := fun x => (0, [⟨(.int .i64), x⟩])
def qbx_in : List (TV U) → Option (Int)
  | [⟨(.st 41), a0⟩, ⟨(.int .i64), a1⟩, ⟨(.int .i64), a2⟩] => qbx a0 a1 a2
  | _ => none
def qbx_md : Mode U := ⟨qbx_sh, [⟨100000, .slot 2, []⟩], qbx_os, fun ls => .get (qbx_in ls) qbx_tr⟩
theorem qbx_post : ModeOk kk env0 28 qbx_md :=
  fn_of (fn := Tryz.f28) qbx_enc qbx_dec (kitOk_of eqOk mixed known45) (by kernel_rfl) (L := jnL) (loopsOk_of (bs := []) (by kernel_rfl) trivial) (fun _ => rfl) (by intro i qs r h; unfold qbx_enc at h; split at h <;> cases h <;> rfl)
    (by intro ls r h; unfold qbx_in at h; split at h; rw [qbx, sealF_eq] at h; exact Eq.trans (by kernel_rfl) h; cases h)
def ms46 : List (FuncId × Mode U) := (28, qbx_md) :: ms45
theorem known46 : Known kk env0 (modesOf ms46) := known_cons (by kernel_rfl) qbx_post known45
def qac_sh : StSh := ⟨⟨[0, 1, 2], [100000], []⟩, [.agg [.clo 27 [.ptr 100000 0], .clo 28 [.ptr 100000 0]], .t (.st 41), .t (.int .i64)], [.blk 3 [.t (.int .i64)]]⟩
def qac_os : List StSh := [⟨⟨[], [100000], []⟩, [], [.blk 3 [.t (.int .i64)]]⟩]
def qac_tr : Int → Tr (Nat × List (TV U)) := fun x => .ret (0, [⟨(.int .i64), x⟩])
def qac_in (rec_qac : TExpr → Int → Int → Option (Int)) : List (TV U) → Option (Int)
  | [⟨(.st 41), a0⟩, ⟨(.int .i64), a1⟩, ⟨(.int .i64), a2⟩] => rec_qac a0 a1 a2
  | _ => none
def qac_rmd (rec_qac : TExpr → Int → Int → Option (Int)) : Mode U := ⟨qac_sh, [⟨100000, .slot 0, [0, 0]⟩], qac_os, fun ls => .get (qac_in rec_qac ls) qac_tr⟩
def ms47 (rec_qac : TExpr → Int → Int → Option (Int)) : List (FuncId × Mode U) := (81, (qac_rmd rec_qac)) :: ms46
theorem known47 (rec_qac : TExpr → Int → Int → Option (Int)) (hrec_qac : ModeOk kk env0 81 (qac_rmd rec_qac)) : Known kk env0 (modesOf (ms47 rec_qac)) := known_cons (by kernel_rfl) hrec_qac known46
def qac_sh3 : StSh := ⟨⟨[2, 3, 14, 15, 16], [100000, 3], []⟩, [.t (.int .i64), .ptr 3 0, .t (.slc (.st 41)), .t (.int .i64), .t (.int .i64)], [.blk 3 [.t (.int .i64)], .blk 52 [.clo 27 [.ptr 100000 0], .clo 28 [.ptr 100000 0]]]⟩
def qac_o3 : List Out := [⟨.exit 0, ⟨⟨[], [100000], []⟩, [], [.blk 3 [.t (.int .i64)]]⟩⟩]
def qac_b3 : Code := (nthLoop (bodyOf Tryz.f81) 0)
def qac_rec3 (rec : Int → List (TExpr) → Int → Int → Int → Option (Int)) : List (TV U) → Option (Int)
  | [⟨(.int .i64), a0⟩, ⟨(.slc (.st 41)), a1⟩, ⟨(.int .i64), a2⟩, ⟨(.int .i64), a3⟩, ⟨(.int .i64), a4⟩] => rec a0 a1 a2 a3 a4
  | _ => none
def qac_enc3 : Nat → List (TV U) → Option (Int)
  | 0, [⟨(.int .i64), a0⟩] => some a0
  | _, _ => none
def qac_dec3 : Int → Nat × List (TV U) := fun x => (0, [⟨(.int .i64), x⟩])
def qac_tr3 : Int → Tr (Nat × List (TV U)) := fun x => .ret (0, [⟨(.int .i64), x⟩])
def qac_lp3 (rec_qac : TExpr → Int → Int → Option (Int)) : Lift.Loop U := ⟨qac_sh3, qac_o3, fun ls => .get (qac_rec3 (qac_l3 rec_qac) ls) qac_tr3⟩
theorem qac_ok3 (rec_qac : TExpr → Int → Int → Option (Int)) (hrec_qac : ModeOk kk env0 81 (qac_rmd rec_qac)) : LoopR kk env0 Tryz.f81.ntmps qac_b3 (qac_lp3 rec_qac) :=
  loop_of qac_enc3 qac_dec3 (fun n => qac_rec3 (qac_i3 rec_qac n)) (kitOk_of eqOk mixed (known47 rec_qac hrec_qac)) (L := jnL) (loopsOk_of (bs := []) (by kernel_rfl) trivial) (fun _ => rfl) (by intro i qs r h; unfold qac_enc3 at h; split at h <;> cases h <;> rfl)
    (by intro ls r h; unfold qac_rec3 at h; split at h <;> cases h)
    (by intro n ls r h; unfold qac_rec3 at h; split at h; exact (show _ = qac_t3 rec_qac (qac_i3 rec_qac n) _ _ _ _ _ from by kernel_rfl).trans h; cases h) (by rw [qac_l3, sealF_eq])
def qac_L (rec_qac : TExpr → Int → Int → Option (Int)) : Nat → Option (Lift.Loop U) := fun n => bif Nat.beq n joinKey then some joinMark else bif Nat.beq n 3 then some (qac_lp3 rec_qac) else none
def qac_enc : Nat → List (TV U) → Option (Int)
  | 0, [⟨(.int .i64), a0⟩] => some a0
  | _, _ => none
def qac_dec : Int → Nat × List (TV U) := fun x => (0, [⟨(.int .i64), x⟩])
def qac_md : Mode U := qac_rmd qac
theorem qac_step (rec_qac : TExpr → Int → Int → Option (Int)) (hrec_qac : ModeOk kk env0 81 (qac_rmd rec_qac)) : LoopsOk (Kit.withModes kk (modesOf (ms47 rec_qac))) env0 Tryz.f81.ntmps (qac_L rec_qac) (bodyOf Tryz.f81) := loopsOk_of (bs := [qac_b3]) (by kernel_rfl) ⟨.inr ⟨_, by kernel_rfl, LoopOk.of_round (qac_ok3 rec_qac hrec_qac)⟩, trivial⟩
theorem qac_post : ModeOk kk env0 81 (qac_rmd qac) :=
  rec_of (K := kk) (F := qac) qac_rmd qac_i (by rw [qac, sealF_eq]) (rec_zero (by intro ls r h; unfold qac_in at h; split at h <;> cases h)) (fun n ih => fn_of (fn := Tryz.f81) qac_enc qac_dec (kitOk_of eqOk mixed (known47 (qac_i n) ih)) (by kernel_rfl) (qac_step (qac_i n) ih) (fun _ => rfl) (by intro i qs r h; unfold qac_enc at h; split at h <;> cases h <;> rfl)
    (by intro ls r h; unfold qac_in at h; split at h; exact (show _ = qac_f (qac_i n) _ _ _ from by kernel_rfl).trans h; cases h))
def ms48 : List (FuncId × Mode U) := (81, qac_md) :: ms46
theorem known48 : Known kk env0 (modesOf ms48) := known_cons (by kernel_rfl) qac_post known46
def qak_sh : StSh := ⟨⟨[0, 1, 2], [100000], []⟩, [.agg [.clo 27 [.ptr 100000 0], .clo 28 [.ptr 100000 0]], .t (.slc (.st 43)), .t (.int .i64)], [.blk 3 [.t (.int .i64)]]⟩
def qak_os : List StSh := [⟨⟨[], [100000], []⟩, [], [.blk 3 [.t (.int .i64)]]⟩]
def qak_tr : Int → Tr (Nat × List (TV U)) := fun x => .ret (0, [⟨(.int .i64), x⟩])
def qak_in (rec_qak : List (TStmt) → Int → Int → Option (Int)) : List (TV U) → Option (Int)
  | [⟨(.slc (.st 43)), a0⟩, ⟨(.int .i64), a1⟩, ⟨(.int .i64), a2⟩] => rec_qak a0 a1 a2
  | _ => none
def qak_rmd (rec_qak : List (TStmt) → Int → Int → Option (Int)) : Mode U := ⟨qak_sh, [⟨100000, .slot 0, [0, 0]⟩], qak_os, fun ls => .get (qak_in rec_qak ls) qak_tr⟩
def ms49 (rec_qak : List (TStmt) → Int → Int → Option (Int)) : List (FuncId × Mode U) := (64, (qak_rmd rec_qak)) :: ms48
theorem known49 (rec_qak : List (TStmt) → Int → Int → Option (Int)) (hrec_qak : ModeOk kk env0 64 (qak_rmd rec_qak)) : Known kk env0 (modesOf (ms49 rec_qak)) := known_cons (by kernel_rfl) hrec_qak known48
def qak_sh2 : StSh := ⟨⟨[2, 3, 8, 9, 10], [100000, 3], []⟩, [.t (.int .i64), .ptr 3 0, .t (.slc (.st 43)), .t (.int .i64), .t (.int .i64)], [.blk 3 [.t (.int .i64)], .blk 52 [.clo 27 [.ptr 100000 0], .clo 28 [.ptr 100000 0]]]⟩
def qak_o2 : List Out := [⟨.exit 0, ⟨⟨[], [100000], []⟩, [], [.blk 3 [.t (.int .i64)]]⟩⟩]
def qak_b2 : Code := (nthLoop (bodyOf Tryz.f64) 0)
def qak_rec2 (rec : Int → List (TStmt) → Int → Int → Int → Option (Int)) : List (TV U) → Option (Int)
  | [⟨(.int .i64), a0⟩, ⟨(.slc (.st 43)), a1⟩, ⟨(.int .i64), a2⟩, ⟨(.int .i64), a3⟩, ⟨(.int .i64), a4⟩] => rec a0 a1 a2 a3 a4
  | _ => none
def qak_enc2 : Nat → List (TV U) → Option (Int)
  | 0, [⟨(.int .i64), a0⟩] => some a0
  | _, _ => none
def qak_dec2 : Int → Nat × List (TV U) := fun x => (0, [⟨(.int .i64), x⟩])
def qak_tr2 : Int → Tr (Nat × List (TV U)) := fun x => .ret (0, [⟨(.int .i64), x⟩])
def qak_lp2 (rec_qak : List (TStmt) → Int → Int → Option (Int)) : Lift.Loop U := ⟨qak_sh2, qak_o2, fun ls => .get (qak_rec2 (qak_l2 rec_qak) ls) qak_tr2⟩
theorem qak_ok2 (rec_qak : List (TStmt) → Int → Int → Option (Int)) (hrec_qak : ModeOk kk env0 64 (qak_rmd rec_qak)) : LoopR kk env0 Tryz.f64.ntmps qak_b2 (qak_lp2 rec_qak) :=
  loop_of qak_enc2 qak_dec2 (fun n => qak_rec2 (qak_i2 rec_qak n)) (kitOk_of eqOk mixed (known49 rec_qak hrec_qak)) (L := jnL) (loopsOk_of (bs := []) (by kernel_rfl) trivial) (fun _ => rfl) (by intro i qs r h; unfold qak_enc2 at h; split at h <;> cases h <;> rfl)
    (by intro ls r h; unfold qak_rec2 at h; split at h <;> cases h)
    (by intro n ls r h; unfold qak_rec2 at h; split at h; exact (show _ = qak_t2 rec_qak (qak_i2 rec_qak n) _ _ _ _ _ from by kernel_rfl).trans h; cases h) (by rw [qak_l2, sealF_eq])
def qak_L (rec_qak : List (TStmt) → Int → Int → Option (Int)) : Nat → Option (Lift.Loop U) := fun n => bif Nat.beq n joinKey then some joinMark else bif Nat.beq n 2 then some (qak_lp2 rec_qak) else none
def qak_enc : Nat → List (TV U) → Option (Int)
  | 0, [⟨(.int .i64), a0⟩] => some a0
  | _, _ => none
def qak_dec : Int → Nat × List (TV U) := fun x => (0, [⟨(.int .i64), x⟩])
def qak_md : Mode U := qak_rmd qak
theorem qak_step (rec_qak : List (TStmt) → Int → Int → Option (Int)) (hrec_qak : ModeOk kk env0 64 (qak_rmd rec_qak)) : LoopsOk (Kit.withModes kk (modesOf (ms49 rec_qak))) env0 Tryz.f64.ntmps (qak_L rec_qak) (bodyOf Tryz.f64) := loopsOk_of (bs := [qak_b2]) (by kernel_rfl) ⟨.inr ⟨_, by kernel_rfl, LoopOk.of_round (qak_ok2 rec_qak hrec_qak)⟩, trivial⟩
theorem qak_post : ModeOk kk env0 64 (qak_rmd qak) :=
  rec_of (K := kk) (F := qak) qak_rmd qak_i (by rw [qak, sealF_eq]) (rec_zero (by intro ls r h; unfold qak_in at h; split at h <;> cases h)) (fun n ih => fn_of (fn := Tryz.f64) qak_enc qak_dec (kitOk_of eqOk mixed (known49 (qak_i n) ih)) (by kernel_rfl) (qak_step (qak_i n) ih) (fun _ => rfl) (by intro i qs r h; unfold qak_enc at h; split at h <;> cases h <;> rfl)
    (by intro ls r h; unfold qak_in at h; split at h; exact (show _ = qak_f (qak_i n) _ _ _ from by kernel_rfl).trans h; cases h))
def ms50 : List (FuncId × Mode U) := (64, qak_md) :: ms48
theorem known50 : Known kk env0 (modesOf ms50) := known_cons (by kernel_rfl) qak_post known48
def qag_sh2 : StSh := ⟨⟨[2, 7, 8, 9], [100000, 2], []⟩, [.ptr 2 0, .t (.slc (.st 38)), .t (.int .i64), .t (.int .i64)], [.blk 3 [.t (.int .i64)], .blk 52 [.clo 27 [.ptr 100000 0], .clo 28 [.ptr 100000 0]]]⟩
def qag_o2 : List Out := [⟨.exit 0, ⟨⟨[], [100000], []⟩, [], [.blk 3 [.t (.int .i64)]]⟩⟩]
def qag_b2 : Code := (nthLoop (bodyOf Tryz.f29) 0)
def qag_rec2 (rec : List (TThread) → Int → Int → Int → Option (Int)) : List (TV U) → Option (Int)
  | [⟨(.slc (.st 38)), a0⟩, ⟨(.int .i64), a1⟩, ⟨(.int .i64), a2⟩, ⟨(.int .i64), a3⟩] => rec a0 a1 a2 a3
  | _ => none
def qag_enc2 : Nat → List (TV U) → Option (Int)
  | 0, [⟨(.int .i64), a0⟩] => some a0
  | _, _ => none
def qag_dec2 : Int → Nat × List (TV U) := fun x => (0, [⟨(.int .i64), x⟩])
def qag_tr2 : Int → Tr (Nat × List (TV U)) := fun x => .ret (0, [⟨(.int .i64), x⟩])
def qag_lp2 : Lift.Loop U := ⟨qag_sh2, qag_o2, fun ls => .get (qag_rec2 qag_l2 ls) qag_tr2⟩
theorem qag_ok2 : LoopR kk env0 Tryz.f29.ntmps qag_b2 qag_lp2 :=
  loop_of qag_enc2 qag_dec2 (fun n => qag_rec2 (qag_i2 n)) (kitOk_of eqOk mixed known50) (L := jnL) (loopsOk_of (bs := []) (by kernel_rfl) trivial) (fun _ => rfl) (by intro i qs r h; unfold qag_enc2 at h; split at h <;> cases h <;> rfl)
    (by intro ls r h; unfold qag_rec2 at h; split at h <;> cases h)
    (by intro n ls r h; unfold qag_rec2 at h; split at h; exact (show _ = qag_t2 (qag_i2 n) _ _ _ _ from by kernel_rfl).trans h; cases h) (by rw [qag_l2, sealF_eq])
def qag_sh : StSh := ⟨⟨[0, 1], [100000], []⟩, [.agg [.clo 27 [.ptr 100000 0], .clo 28 [.ptr 100000 0]], .t (.st 26)], [.blk 3 [.t (.int .i64)]]⟩
def qag_os : List StSh := [⟨⟨[], [100000], []⟩, [], [.blk 3 [.t (.int .i64)]]⟩]
def qag_tr : Int → Tr (Nat × List (TV U)) := fun x => .ret (0, [⟨(.int .i64), x⟩])
def qag_L : Nat → Option (Lift.Loop U) := fun n => bif Nat.beq n joinKey then some joinMark else bif Nat.beq n 2 then some qag_lp2 else none
def qag_enc : Nat → List (TV U) → Option (Int)
  | 0, [⟨(.int .i64), a0⟩] => some a0
  | _, _ => none
def qag_dec : Int → Nat × List (TV U) := fun x => (0, [⟨(.int .i64), x⟩])
def qag_in : List (TV U) → Option (Int)
  | [⟨(.st 26), a0⟩, ⟨(.int .i64), a1⟩] => qag a0 a1
  | _ => none
def qag_md : Mode U := ⟨qag_sh, [⟨100000, .slot 0, [0, 0]⟩], qag_os, fun ls => .get (qag_in ls) qag_tr⟩
theorem qag_post : ModeOk kk env0 29 qag_md :=
  fn_of (fn := Tryz.f29) qag_enc qag_dec (kitOk_of eqOk mixed known50) (by kernel_rfl) (L := qag_L) (loopsOk_of (bs := [qag_b2]) (by kernel_rfl) ⟨.inr ⟨_, by kernel_rfl, LoopOk.of_round (qag_ok2)⟩, trivial⟩) (fun _ => rfl) (by intro i qs r h; unfold qag_enc at h; split at h <;> cases h <;> rfl)
    (by intro ls r h; unfold qag_in at h; split at h; rw [qag, sealF_eq] at h; exact Eq.trans (by kernel_rfl) h; cases h)
def ms51 : List (FuncId × Mode U) := (29, qag_md) :: ms50
theorem known51 : Known kk env0 (modesOf ms51) := known_cons (by kernel_rfl) qag_post known50
def qbv_sh : StSh := ⟨⟨[0], [], []⟩, [.t (.st 26)], []⟩
def qbv_os : List StSh := [⟨⟨[0], [], []⟩, [.t (.int .i64)], []⟩]
def qbv_tr : Int → Tr (Nat × List (TV U)) := fun x => .ret (0, [⟨(.int .i64), x⟩])
def qbv_enc : Nat → List (TV U) → Option (Int)
  | 0, [⟨(.int .i64), a0⟩] => some a0
  | _, _ => none
def qbv_dec : Int → Nat × List (TV U) := fun x => (0, [⟨(.int .i64), x⟩])
def qbv_in : List (TV U) → Option (Int)
  | [⟨(.st 26), a0⟩] => qbv a0
  | _ => none
def qbv_md : Mode U := ⟨qbv_sh, [], qbv_os, fun ls => .get (qbv_in ls) qbv_tr⟩
theorem qbv_post : ModeOk kk env0 14 qbv_md :=
  fn_of (fn := Tryz.f14) qbv_enc qbv_dec (kitOk_of eqOk mixed known51) (by kernel_rfl) (L := jnL) (loopsOk_of (bs := []) (by kernel_rfl) trivial) (fun _ => rfl) (by intro i qs r h; unfold qbv_enc at h; split at h <;> cases h <;> rfl)
    (by intro ls r h; unfold qbv_in at h; split at h; rw [qbv, sealF_eq] at h; exact Eq.trans (by kernel_rfl) h; cases h)
def ms52 : List (FuncId × Mode U) := (14, qbv_md) :: ms51
theorem known52 : Known kk env0 (modesOf ms52) := known_cons (by kernel_rfl) qbv_post known51
def qbF_sh : StSh := ⟨⟨[0], [], []⟩, [.t (.st 26)], []⟩
def qbF_os : List StSh := [⟨⟨[0], [], []⟩, [.t (.int .i64)], []⟩]
def qbF_tr : Int → Tr (Nat × List (TV U)) := fun x => .ret (0, [⟨(.int .i64), x⟩])
def qbF_enc : Nat → List (TV U) → Option (Int)
  | 0, [⟨(.int .i64), a0⟩] => some a0
  | _, _ => none
def qbF_dec : Int → Nat × List (TV U) := fun x => (0, [⟨(.int .i64), x⟩])
def qbF_in : List (TV U) → Option (Int)
  | [⟨(.st 26), a0⟩] => qbF a0
  | _ => none
def qbF_md : Mode U := ⟨qbF_sh, [], qbF_os, fun ls => .get (qbF_in ls) qbF_tr⟩
theorem qbF_post : ModeOk kk env0 12 qbF_md :=
  fn_of (fn := Tryz.f12) qbF_enc qbF_dec (kitOk_of eqOk mixed known52) (by kernel_rfl) (L := jnL) (loopsOk_of (bs := []) (by kernel_rfl) trivial) (fun _ => rfl) (by intro i qs r h; unfold qbF_enc at h; split at h <;> cases h <;> rfl)
    (by intro ls r h; unfold qbF_in at h; split at h; rw [qbF, sealF_eq] at h; exact Eq.trans (by kernel_rfl) h; cases h)
def ms53 : List (FuncId × Mode U) := (12, qbF_md) :: ms52
theorem known53 : Known kk env0 (modesOf ms53) := known_cons (by kernel_rfl) qbF_post known52
def qbC_sh : StSh := ⟨⟨[0, 1, 2], [100000, 100001, 100002], [⟨.cell 100002 0, 200200, 9, .str⟩]⟩, [.t .str, .ptr 100000 0, .ptr 100002 0], [.blk 72 [.ptr 100001 0], .mp .str (.int .i64), .blk 23 [.oslc 200200], .row 9 .str]⟩
def qbC_os : List StSh := [⟨⟨[], [100000, 100001, 100002], [⟨.cell 100002 0, 200200, 9, .str⟩]⟩, [], [.blk 72 [.ptr 100001 0], .mp .str (.int .i64), .blk 23 [.oslc 200200], .row 9 .str]⟩]
def qbC_tr : (List ((List UInt8) × (Int))) × (List (List UInt8)) → Tr (Nat × List (TV U)) := fun x => .ret (0, [⟨(.map .str (.int .i64)), x.1⟩, ⟨(.slc .str), x.2⟩])
def qbC_enc : Nat → List (TV U) → Option ((List ((List UInt8) × (Int))) × (List (List UInt8)))
  | 0, [⟨(.map .str (.int .i64)), a0⟩, ⟨(.slc .str), a1⟩] => some (a0, a1)
  | _, _ => none
def qbC_dec : (List ((List UInt8) × (Int))) × (List (List UInt8)) → Nat × List (TV U) := fun x => (0, [⟨(.map .str (.int .i64)), x.1⟩, ⟨(.slc .str), x.2⟩])
def qbC_in : List (TV U) → Option ((List ((List UInt8) × (Int))) × (List (List UInt8)))
  | [⟨.str, a0⟩, ⟨(.map .str (.int .i64)), a1⟩, ⟨(.slc .str), a2⟩] => qbC a0 a1 a2
  | _ => none
def qbC_md : Mode U := ⟨qbC_sh, [⟨100000, .slot 1, []⟩, ⟨100001, .cell 100000 0, []⟩, ⟨100002, .slot 2, []⟩], qbC_os, fun ls => .get (qbC_in ls) qbC_tr⟩
theorem qbC_post : ModeOk kk env0 51 qbC_md :=
  fn_of (fn := Tryz.f51) qbC_enc qbC_dec (kitOk_of eqOk mixed known53) (by kernel_rfl) (L := jnL) (loopsOk_of (bs := []) (by kernel_rfl) trivial) (fun _ => rfl) (by intro i qs r h; unfold qbC_enc at h; split at h <;> cases h <;> rfl)
    (by intro ls r h; unfold qbC_in at h; split at h; rw [qbC, sealF_eq] at h; exact Eq.trans (by kernel_rfl) h; cases h)
def ms54 : List (FuncId × Mode U) := (51, qbC_md) :: ms53
theorem known54 : Known kk env0 (modesOf ms54) := known_cons (by kernel_rfl) qbC_post known53
def qbD_sh : StSh := ⟨⟨[0, 1, 2], [100000, 100001, 100002, 100003], [⟨.cell 100003 0, 200300, 9, .str⟩]⟩, [.t (.st 43), .t (.int .i64), .ptr 100000 0], [.blk 74 [.clo 51 [.ptr 100001 0, .ptr 100003 0]], .blk 72 [.ptr 100002 0], .mp .str (.int .i64), .blk 23 [.oslc 200300], .row 9 .str]⟩
def qbD_os : List StSh := [⟨⟨[], [100000, 100001, 100002, 100003], [⟨.cell 100003 0, 200300, 9, .str⟩]⟩, [], [.blk 74 [.clo 51 [.ptr 100001 0, .ptr 100003 0]], .blk 72 [.ptr 100002 0], .mp .str (.int .i64), .blk 23 [.oslc 200300], .row 9 .str]⟩]
def qbD_tr : (List ((List UInt8) × (Int))) × (List (List UInt8)) → Tr (Nat × List (TV U)) := fun x => .ret (0, [⟨(.map .str (.int .i64)), x.1⟩, ⟨(.slc .str), x.2⟩])
def qbD_enc : Nat → List (TV U) → Option ((List ((List UInt8) × (Int))) × (List (List UInt8)))
  | 0, [⟨(.map .str (.int .i64)), a0⟩, ⟨(.slc .str), a1⟩] => some (a0, a1)
  | _, _ => none
def qbD_dec : (List ((List UInt8) × (Int))) × (List (List UInt8)) → Nat × List (TV U) := fun x => (0, [⟨(.map .str (.int .i64)), x.1⟩, ⟨(.slc .str), x.2⟩])
def qbD_in : List (TV U) → Option ((List ((List UInt8) × (Int))) × (List (List UInt8)))
  | [⟨(.st 43), a0⟩, ⟨(.int .i64), a1⟩, ⟨(.map .str (.int .i64)), a2⟩, ⟨(.slc .str), a3⟩] => qbD a0 a1 a2 a3
  | _ => none
def qbD_md : Mode U := ⟨qbD_sh, [⟨100000, .slot 2, []⟩, ⟨100001, .cell 100000 0, [0]⟩, ⟨100002, .cell 100001 0, []⟩, ⟨100003, .cell 100000 0, [1]⟩], qbD_os, fun ls => .get (qbD_in ls) qbD_tr⟩
theorem qbD_post : ModeOk kk env0 52 qbD_md :=
  fn_of (fn := Tryz.f52) qbD_enc qbD_dec (kitOk_of eqOk mixed known54) (by kernel_rfl) (L := jnL) (loopsOk_of (bs := []) (by kernel_rfl) trivial) (fun _ => rfl) (by intro i qs r h; unfold qbD_enc at h; split at h <;> cases h <;> rfl)
    (by intro ls r h; unfold qbD_in at h; split at h; rw [qbD, sealF_eq] at h; exact Eq.trans (by kernel_rfl) h; cases h)
def ms55 : List (FuncId × Mode U) := (52, qbD_md) :: ms54
theorem known55 : Known kk env0 (modesOf ms55) := known_cons (by kernel_rfl) qbD_post known54
def qbE_sh : StSh := ⟨⟨[0, 1, 2], [100000, 100001, 100002, 100003], [⟨.cell 100003 0, 200300, 9, .str⟩]⟩, [.t (.st 41), .t (.int .i64), .ptr 100000 0], [.blk 74 [.clo 51 [.ptr 100001 0, .ptr 100003 0]], .blk 72 [.ptr 100002 0], .mp .str (.int .i64), .blk 23 [.oslc 200300], .row 9 .str]⟩
def qbE_os : List StSh := [⟨⟨[], [100000, 100001, 100002, 100003], [⟨.cell 100003 0, 200300, 9, .str⟩]⟩, [], [.blk 74 [.clo 51 [.ptr 100001 0, .ptr 100003 0]], .blk 72 [.ptr 100002 0], .mp .str (.int .i64), .blk 23 [.oslc 200300], .row 9 .str]⟩]
def qbE_tr : (List ((List UInt8) × (Int))) × (List (List UInt8)) → Tr (Nat × List (TV U)) := fun x => .ret (0, [⟨(.map .str (.int .i64)), x.1⟩, ⟨(.slc .str), x.2⟩])
def qbE_enc : Nat → List (TV U) → Option ((List ((List UInt8) × (Int))) × (List (List UInt8)))
  | 0, [⟨(.map .str (.int .i64)), a0⟩, ⟨(.slc .str), a1⟩] => some (a0, a1)
  | _, _ => none
def qbE_dec : (List ((List UInt8) × (Int))) × (List (List UInt8)) → Nat × List (TV U) := fun x => (0, [⟨(.map .str (.int .i64)), x.1⟩, ⟨(.slc .str), x.2⟩])
def qbE_in : List (TV U) → Option ((List ((List UInt8) × (Int))) × (List (List UInt8)))
  | [⟨(.st 41), a0⟩, ⟨(.int .i64), a1⟩, ⟨(.map .str (.int .i64)), a2⟩, ⟨(.slc .str), a3⟩] => qbE a0 a1 a2 a3
  | _ => none
def qbE_md : Mode U := ⟨qbE_sh, [⟨100000, .slot 2, []⟩, ⟨100001, .cell 100000 0, [0]⟩, ⟨100002, .cell 100001 0, []⟩, ⟨100003, .cell 100000 0, [1]⟩], qbE_os, fun ls => .get (qbE_in ls) qbE_tr⟩
theorem qbE_post : ModeOk kk env0 53 qbE_md :=
  fn_of (fn := Tryz.f53) qbE_enc qbE_dec (kitOk_of eqOk mixed known55) (by kernel_rfl) (L := jnL) (loopsOk_of (bs := []) (by kernel_rfl) trivial) (fun _ => rfl) (by intro i qs r h; unfold qbE_enc at h; split at h <;> cases h <;> rfl)
    (by intro ls r h; unfold qbE_in at h; split at h; rw [qbE, sealF_eq] at h; exact Eq.trans (by kernel_rfl) h; cases h)
def ms56 : List (FuncId × Mode U) := (53, qbE_md) :: ms55
theorem known56 : Known kk env0 (modesOf ms56) := known_cons (by kernel_rfl) qbE_post known55
def qad_sh : StSh := ⟨⟨[0, 1, 2], [100000, 100001, 100002, 100003], [⟨.cell 100003 0, 200300, 9, .str⟩]⟩, [.agg [.clo 52 [.ptr 100000 0], .clo 53 [.ptr 100000 0]], .t (.st 41), .t (.int .i64)], [.blk 74 [.clo 51 [.ptr 100001 0, .ptr 100003 0]], .blk 72 [.ptr 100002 0], .mp .str (.int .i64), .blk 23 [.oslc 200300], .row 9 .str]⟩
def qad_os : List StSh := [⟨⟨[], [100000, 100001, 100002, 100003], [⟨.cell 100003 0, 200300, 9, .str⟩]⟩, [], [.blk 74 [.clo 51 [.ptr 100001 0, .ptr 100003 0]], .blk 72 [.ptr 100002 0], .mp .str (.int .i64), .blk 23 [.oslc 200300], .row 9 .str]⟩]
def qad_tr : (List ((List UInt8) × (Int))) × (List (List UInt8)) → Tr (Nat × List (TV U)) := fun x => .ret (0, [⟨(.map .str (.int .i64)), x.1⟩, ⟨(.slc .str), x.2⟩])
def qad_in (rec_qad : TExpr → Int → List ((List UInt8) × (Int)) → List (List UInt8) → Option ((List ((List UInt8) × (Int))) × (List (List UInt8)))) : List (TV U) → Option ((List ((List UInt8) × (Int))) × (List (List UInt8)))
  | [⟨(.st 41), a0⟩, ⟨(.int .i64), a1⟩, ⟨(.map .str (.int .i64)), a2⟩, ⟨(.slc .str), a3⟩] => rec_qad a0 a1 a2 a3
  | _ => none
def qad_rmd (rec_qad : TExpr → Int → List ((List UInt8) × (Int)) → List (List UInt8) → Option ((List ((List UInt8) × (Int))) × (List (List UInt8)))) : Mode U := ⟨qad_sh, [⟨100000, .slot 0, [0, 0]⟩, ⟨100001, .cell 100000 0, [0]⟩, ⟨100002, .cell 100001 0, []⟩, ⟨100003, .cell 100000 0, [1]⟩], qad_os, fun ls => .get (qad_in rec_qad ls) qad_tr⟩
def ms57 (rec_qad : TExpr → Int → List ((List UInt8) × (Int)) → List (List UInt8) → Option ((List ((List UInt8) × (Int))) × (List (List UInt8)))) : List (FuncId × Mode U) := (81, (qad_rmd rec_qad)) :: ms56
theorem known57 (rec_qad : TExpr → Int → List ((List UInt8) × (Int)) → List (List UInt8) → Option ((List ((List UInt8) × (Int))) × (List (List UInt8)))) (hrec_qad : ModeOk kk env0 81 (qad_rmd rec_qad)) : Known kk env0 (modesOf (ms57 rec_qad)) := known_cons (by kernel_rfl) hrec_qad known56
def qad_sh3 : StSh := ⟨⟨[2, 3, 14, 15, 16], [100000, 100001, 100002, 100003, 3], [⟨.cell 100003 0, 200300, 9, .str⟩]⟩, [.t (.int .i64), .ptr 3 0, .t (.slc (.st 41)), .t (.int .i64), .t (.int .i64)], [.blk 74 [.clo 51 [.ptr 100001 0, .ptr 100003 0]], .blk 72 [.ptr 100002 0], .mp .str (.int .i64), .blk 23 [.oslc 200300], .blk 52 [.clo 52 [.ptr 100000 0], .clo 53 [.ptr 100000 0]], .row 9 .str]⟩
def qad_o3 : List Out := [⟨.exit 0, ⟨⟨[], [100000, 100001, 100002, 100003], [⟨.cell 100003 0, 200300, 9, .str⟩]⟩, [], [.blk 74 [.clo 51 [.ptr 100001 0, .ptr 100003 0]], .blk 72 [.ptr 100002 0], .mp .str (.int .i64), .blk 23 [.oslc 200300], .row 9 .str]⟩⟩]
def qad_b3 : Code := (nthLoop (bodyOf Tryz.f81) 0)
def qad_rec3 (rec : Int → List (TExpr) → Int → Int → List ((List UInt8) × (Int)) → List (List UInt8) → Option ((List ((List UInt8) × (Int))) × (List (List UInt8)))) : List (TV U) → Option ((List ((List UInt8) × (Int))) × (List (List UInt8)))
  | [⟨(.int .i64), a0⟩, ⟨(.slc (.st 41)), a1⟩, ⟨(.int .i64), a2⟩, ⟨(.int .i64), a3⟩, ⟨(.map .str (.int .i64)), a4⟩, ⟨(.slc .str), a5⟩] => rec a0 a1 a2 a3 a4 a5
  | _ => none
def qad_enc3 : Nat → List (TV U) → Option ((List ((List UInt8) × (Int))) × (List (List UInt8)))
  | 0, [⟨(.map .str (.int .i64)), a0⟩, ⟨(.slc .str), a1⟩] => some (a0, a1)
  | _, _ => none
def qad_dec3 : (List ((List UInt8) × (Int))) × (List (List UInt8)) → Nat × List (TV U) := fun x => (0, [⟨(.map .str (.int .i64)), x.1⟩, ⟨(.slc .str), x.2⟩])
def qad_tr3 : (List ((List UInt8) × (Int))) × (List (List UInt8)) → Tr (Nat × List (TV U)) := fun x => .ret (0, [⟨(.map .str (.int .i64)), x.1⟩, ⟨(.slc .str), x.2⟩])
def qad_lp3 (rec_qad : TExpr → Int → List ((List UInt8) × (Int)) → List (List UInt8) → Option ((List ((List UInt8) × (Int))) × (List (List UInt8)))) : Lift.Loop U := ⟨qad_sh3, qad_o3, fun ls => .get (qad_rec3 (qad_l3 rec_qad) ls) qad_tr3⟩
theorem qad_ok3 (rec_qad : TExpr → Int → List ((List UInt8) × (Int)) → List (List UInt8) → Option ((List ((List UInt8) × (Int))) × (List (List UInt8)))) (hrec_qad : ModeOk kk env0 81 (qad_rmd rec_qad)) : LoopR kk env0 Tryz.f81.ntmps qad_b3 (qad_lp3 rec_qad) :=
  loop_of qad_enc3 qad_dec3 (fun n => qad_rec3 (qad_i3 rec_qad n)) (kitOk_of eqOk mixed (known57 rec_qad hrec_qad)) (L := jnL) (loopsOk_of (bs := []) (by kernel_rfl) trivial) (fun _ => rfl) (by intro i qs r h; unfold qad_enc3 at h; split at h <;> cases h <;> rfl)
    (by intro ls r h; unfold qad_rec3 at h; split at h <;> cases h)
    (by intro n ls r h; unfold qad_rec3 at h; split at h; exact (show _ = qad_t3 rec_qad (qad_i3 rec_qad n) _ _ _ _ _ _ from by kernel_rfl).trans h; cases h) (by rw [qad_l3, sealF_eq])
def qad_L (rec_qad : TExpr → Int → List ((List UInt8) × (Int)) → List (List UInt8) → Option ((List ((List UInt8) × (Int))) × (List (List UInt8)))) : Nat → Option (Lift.Loop U) := fun n => bif Nat.beq n joinKey then some joinMark else bif Nat.beq n 3 then some (qad_lp3 rec_qad) else none
def qad_enc : Nat → List (TV U) → Option ((List ((List UInt8) × (Int))) × (List (List UInt8)))
  | 0, [⟨(.map .str (.int .i64)), a0⟩, ⟨(.slc .str), a1⟩] => some (a0, a1)
  | _, _ => none
def qad_dec : (List ((List UInt8) × (Int))) × (List (List UInt8)) → Nat × List (TV U) := fun x => (0, [⟨(.map .str (.int .i64)), x.1⟩, ⟨(.slc .str), x.2⟩])
def qad_md : Mode U := qad_rmd qad
theorem qad_step (rec_qad : TExpr → Int → List ((List UInt8) × (Int)) → List (List UInt8) → Option ((List ((List UInt8) × (Int))) × (List (List UInt8)))) (hrec_qad : ModeOk kk env0 81 (qad_rmd rec_qad)) : LoopsOk (Kit.withModes kk (modesOf (ms57 rec_qad))) env0 Tryz.f81.ntmps (qad_L rec_qad) (bodyOf Tryz.f81) := loopsOk_of (bs := [qad_b3]) (by kernel_rfl) ⟨.inr ⟨_, by kernel_rfl, LoopOk.of_round (qad_ok3 rec_qad hrec_qad)⟩, trivial⟩
theorem qad_post : ModeOk kk env0 81 (qad_rmd qad) :=
  rec_of (K := kk) (F := qad) qad_rmd qad_i (by rw [qad, sealF_eq]) (rec_zero (by intro ls r h; unfold qad_in at h; split at h <;> cases h)) (fun n ih => fn_of (fn := Tryz.f81) qad_enc qad_dec (kitOk_of eqOk mixed (known57 (qad_i n) ih)) (by kernel_rfl) (qad_step (qad_i n) ih) (fun _ => rfl) (by intro i qs r h; unfold qad_enc at h; split at h <;> cases h <;> rfl)
    (by intro ls r h; unfold qad_in at h; split at h; exact (show _ = qad_f (qad_i n) _ _ _ _ from by kernel_rfl).trans h; cases h))
def ms58 : List (FuncId × Mode U) := (81, qad_md) :: ms56
theorem known58 : Known kk env0 (modesOf ms58) := known_cons (by kernel_rfl) qad_post known56
def qal_sh : StSh := ⟨⟨[0, 1, 2], [100000, 100001, 100002, 100003], [⟨.cell 100003 0, 200300, 9, .str⟩]⟩, [.agg [.clo 52 [.ptr 100000 0], .clo 53 [.ptr 100000 0]], .t (.slc (.st 43)), .t (.int .i64)], [.blk 74 [.clo 51 [.ptr 100001 0, .ptr 100003 0]], .blk 72 [.ptr 100002 0], .mp .str (.int .i64), .blk 23 [.oslc 200300], .row 9 .str]⟩
def qal_os : List StSh := [⟨⟨[], [100000, 100001, 100002, 100003], [⟨.cell 100003 0, 200300, 9, .str⟩]⟩, [], [.blk 74 [.clo 51 [.ptr 100001 0, .ptr 100003 0]], .blk 72 [.ptr 100002 0], .mp .str (.int .i64), .blk 23 [.oslc 200300], .row 9 .str]⟩]
def qal_tr : (List ((List UInt8) × (Int))) × (List (List UInt8)) → Tr (Nat × List (TV U)) := fun x => .ret (0, [⟨(.map .str (.int .i64)), x.1⟩, ⟨(.slc .str), x.2⟩])
def qal_in (rec_qal : List (TStmt) → Int → List ((List UInt8) × (Int)) → List (List UInt8) → Option ((List ((List UInt8) × (Int))) × (List (List UInt8)))) : List (TV U) → Option ((List ((List UInt8) × (Int))) × (List (List UInt8)))
  | [⟨(.slc (.st 43)), a0⟩, ⟨(.int .i64), a1⟩, ⟨(.map .str (.int .i64)), a2⟩, ⟨(.slc .str), a3⟩] => rec_qal a0 a1 a2 a3
  | _ => none
def qal_rmd (rec_qal : List (TStmt) → Int → List ((List UInt8) × (Int)) → List (List UInt8) → Option ((List ((List UInt8) × (Int))) × (List (List UInt8)))) : Mode U := ⟨qal_sh, [⟨100000, .slot 0, [0, 0]⟩, ⟨100001, .cell 100000 0, [0]⟩, ⟨100002, .cell 100001 0, []⟩, ⟨100003, .cell 100000 0, [1]⟩], qal_os, fun ls => .get (qal_in rec_qal ls) qal_tr⟩
def ms59 (rec_qal : List (TStmt) → Int → List ((List UInt8) × (Int)) → List (List UInt8) → Option ((List ((List UInt8) × (Int))) × (List (List UInt8)))) : List (FuncId × Mode U) := (64, (qal_rmd rec_qal)) :: ms58
theorem known59 (rec_qal : List (TStmt) → Int → List ((List UInt8) × (Int)) → List (List UInt8) → Option ((List ((List UInt8) × (Int))) × (List (List UInt8)))) (hrec_qal : ModeOk kk env0 64 (qal_rmd rec_qal)) : Known kk env0 (modesOf (ms59 rec_qal)) := known_cons (by kernel_rfl) hrec_qal known58
def qal_sh2 : StSh := ⟨⟨[2, 3, 8, 9, 10], [100000, 100001, 100002, 100003, 3], [⟨.cell 100003 0, 200300, 9, .str⟩]⟩, [.t (.int .i64), .ptr 3 0, .t (.slc (.st 43)), .t (.int .i64), .t (.int .i64)], [.blk 74 [.clo 51 [.ptr 100001 0, .ptr 100003 0]], .blk 72 [.ptr 100002 0], .mp .str (.int .i64), .blk 23 [.oslc 200300], .blk 52 [.clo 52 [.ptr 100000 0], .clo 53 [.ptr 100000 0]], .row 9 .str]⟩
def qal_o2 : List Out := [⟨.exit 0, ⟨⟨[], [100000, 100001, 100002, 100003], [⟨.cell 100003 0, 200300, 9, .str⟩]⟩, [], [.blk 74 [.clo 51 [.ptr 100001 0, .ptr 100003 0]], .blk 72 [.ptr 100002 0], .mp .str (.int .i64), .blk 23 [.oslc 200300], .row 9 .str]⟩⟩]
def qal_b2 : Code := (nthLoop (bodyOf Tryz.f64) 0)
def qal_rec2 (rec : Int → List (TStmt) → Int → Int → List ((List UInt8) × (Int)) → List (List UInt8) → Option ((List ((List UInt8) × (Int))) × (List (List UInt8)))) : List (TV U) → Option ((List ((List UInt8) × (Int))) × (List (List UInt8)))
  | [⟨(.int .i64), a0⟩, ⟨(.slc (.st 43)), a1⟩, ⟨(.int .i64), a2⟩, ⟨(.int .i64), a3⟩, ⟨(.map .str (.int .i64)), a4⟩, ⟨(.slc .str), a5⟩] => rec a0 a1 a2 a3 a4 a5
  | _ => none
def qal_enc2 : Nat → List (TV U) → Option ((List ((List UInt8) × (Int))) × (List (List UInt8)))
  | 0, [⟨(.map .str (.int .i64)), a0⟩, ⟨(.slc .str), a1⟩] => some (a0, a1)
  | _, _ => none
def qal_dec2 : (List ((List UInt8) × (Int))) × (List (List UInt8)) → Nat × List (TV U) := fun x => (0, [⟨(.map .str (.int .i64)), x.1⟩, ⟨(.slc .str), x.2⟩])
def qal_tr2 : (List ((List UInt8) × (Int))) × (List (List UInt8)) → Tr (Nat × List (TV U)) := fun x => .ret (0, [⟨(.map .str (.int .i64)), x.1⟩, ⟨(.slc .str), x.2⟩])
def qal_lp2 (rec_qal : List (TStmt) → Int → List ((List UInt8) × (Int)) → List (List UInt8) → Option ((List ((List UInt8) × (Int))) × (List (List UInt8)))) : Lift.Loop U := ⟨qal_sh2, qal_o2, fun ls => .get (qal_rec2 (qal_l2 rec_qal) ls) qal_tr2⟩
theorem qal_ok2 (rec_qal : List (TStmt) → Int → List ((List UInt8) × (Int)) → List (List UInt8) → Option ((List ((List UInt8) × (Int))) × (List (List UInt8)))) (hrec_qal : ModeOk kk env0 64 (qal_rmd rec_qal)) : LoopR kk env0 Tryz.f64.ntmps qal_b2 (qal_lp2 rec_qal) :=
  loop_of qal_enc2 qal_dec2 (fun n => qal_rec2 (qal_i2 rec_qal n)) (kitOk_of eqOk mixed (known59 rec_qal hrec_qal)) (L := jnL) (loopsOk_of (bs := []) (by kernel_rfl) trivial) (fun _ => rfl) (by intro i qs r h; unfold qal_enc2 at h; split at h <;> cases h <;> rfl)
    (by intro ls r h; unfold qal_rec2 at h; split at h <;> cases h)
    (by intro n ls r h; unfold qal_rec2 at h; split at h; exact (show _ = qal_t2 rec_qal (qal_i2 rec_qal n) _ _ _ _ _ _ from by kernel_rfl).trans h; cases h) (by rw [qal_l2, sealF_eq])
def qal_L (rec_qal : List (TStmt) → Int → List ((List UInt8) × (Int)) → List (List UInt8) → Option ((List ((List UInt8) × (Int))) × (List (List UInt8)))) : Nat → Option (Lift.Loop U) := fun n => bif Nat.beq n joinKey then some joinMark else bif Nat.beq n 2 then some (qal_lp2 rec_qal) else none
def qal_enc : Nat → List (TV U) → Option ((List ((List UInt8) × (Int))) × (List (List UInt8)))
  | 0, [⟨(.map .str (.int .i64)), a0⟩, ⟨(.slc .str), a1⟩] => some (a0, a1)
  | _, _ => none
def qal_dec : (List ((List UInt8) × (Int))) × (List (List UInt8)) → Nat × List (TV U) := fun x => (0, [⟨(.map .str (.int .i64)), x.1⟩, ⟨(.slc .str), x.2⟩])
def qal_md : Mode U := qal_rmd qal
theorem qal_step (rec_qal : List (TStmt) → Int → List ((List UInt8) × (Int)) → List (List UInt8) → Option ((List ((List UInt8) × (Int))) × (List (List UInt8)))) (hrec_qal : ModeOk kk env0 64 (qal_rmd rec_qal)) : LoopsOk (Kit.withModes kk (modesOf (ms59 rec_qal))) env0 Tryz.f64.ntmps (qal_L rec_qal) (bodyOf Tryz.f64) := loopsOk_of (bs := [qal_b2]) (by kernel_rfl) ⟨.inr ⟨_, by kernel_rfl, LoopOk.of_round (qal_ok2 rec_qal hrec_qal)⟩, trivial⟩
theorem qal_post : ModeOk kk env0 64 (qal_rmd qal) :=
  rec_of (K := kk) (F := qal) qal_rmd qal_i (by rw [qal, sealF_eq]) (rec_zero (by intro ls r h; unfold qal_in at h; split at h <;> cases h)) (fun n ih => fn_of (fn := Tryz.f64) qal_enc qal_dec (kitOk_of eqOk mixed (known59 (qal_i n) ih)) (by kernel_rfl) (qal_step (qal_i n) ih) (fun _ => rfl) (by intro i qs r h; unfold qal_enc at h; split at h <;> cases h <;> rfl)
    (by intro ls r h; unfold qal_in at h; split at h; exact (show _ = qal_f (qal_i n) _ _ _ _ from by kernel_rfl).trans h; cases h))
def ms60 : List (FuncId × Mode U) := (64, qal_md) :: ms58
theorem known60 : Known kk env0 (modesOf ms60) := known_cons (by kernel_rfl) qal_post known58
def qah_sh2 : StSh := ⟨⟨[2, 7, 8, 9], [100000, 100001, 100002, 100003, 2], [⟨.cell 100003 0, 200300, 9, .str⟩]⟩, [.ptr 2 0, .t (.slc (.st 38)), .t (.int .i64), .t (.int .i64)], [.blk 74 [.clo 51 [.ptr 100001 0, .ptr 100003 0]], .blk 72 [.ptr 100002 0], .mp .str (.int .i64), .blk 23 [.oslc 200300], .blk 52 [.clo 52 [.ptr 100000 0], .clo 53 [.ptr 100000 0]], .row 9 .str]⟩
def qah_o2 : List Out := [⟨.exit 0, ⟨⟨[], [100000, 100001, 100002, 100003], [⟨.cell 100003 0, 200300, 9, .str⟩]⟩, [], [.blk 74 [.clo 51 [.ptr 100001 0, .ptr 100003 0]], .blk 72 [.ptr 100002 0], .mp .str (.int .i64), .blk 23 [.oslc 200300], .row 9 .str]⟩⟩]
def qah_b2 : Code := (nthLoop (bodyOf Tryz.f29) 0)
def qah_rec2 (rec : List (TThread) → Int → Int → List ((List UInt8) × (Int)) → List (List UInt8) → Option ((List ((List UInt8) × (Int))) × (List (List UInt8)))) : List (TV U) → Option ((List ((List UInt8) × (Int))) × (List (List UInt8)))
  | [⟨(.slc (.st 38)), a0⟩, ⟨(.int .i64), a1⟩, ⟨(.int .i64), a2⟩, ⟨(.map .str (.int .i64)), a3⟩, ⟨(.slc .str), a4⟩] => rec a0 a1 a2 a3 a4
  | _ => none
def qah_enc2 : Nat → List (TV U) → Option ((List ((List UInt8) × (Int))) × (List (List UInt8)))
  | 0, [⟨(.map .str (.int .i64)), a0⟩, ⟨(.slc .str), a1⟩] => some (a0, a1)
  | _, _ => none
def qah_dec2 : (List ((List UInt8) × (Int))) × (List (List UInt8)) → Nat × List (TV U) := fun x => (0, [⟨(.map .str (.int .i64)), x.1⟩, ⟨(.slc .str), x.2⟩])
def qah_tr2 : (List ((List UInt8) × (Int))) × (List (List UInt8)) → Tr (Nat × List (TV U)) := fun x => .ret (0, [⟨(.map .str (.int .i64)), x.1⟩, ⟨(.slc .str), x.2⟩])
def qah_lp2 : Lift.Loop U := ⟨qah_sh2, qah_o2, fun ls => .get (qah_rec2 qah_l2 ls) qah_tr2⟩
theorem qah_ok2 : LoopR kk env0 Tryz.f29.ntmps qah_b2 qah_lp2 :=
  loop_of qah_enc2 qah_dec2 (fun n => qah_rec2 (qah_i2 n)) (kitOk_of eqOk mixed known60) (L := jnL) (loopsOk_of (bs := []) (by kernel_rfl) trivial) (fun _ => rfl) (by intro i qs r h; unfold qah_enc2 at h; split at h <;> cases h <;> rfl)
    (by intro ls r h; unfold qah_rec2 at h; split at h <;> cases h)
    (by intro n ls r h; unfold qah_rec2 at h; split at h; exact (show _ = qah_t2 (qah_i2 n) _ _ _ _ _ from by kernel_rfl).trans h; cases h) (by rw [qah_l2, sealF_eq])
def qah_sh : StSh := ⟨⟨[0, 1], [100000, 100001, 100002, 100003], [⟨.cell 100003 0, 200300, 9, .str⟩]⟩, [.agg [.clo 52 [.ptr 100000 0], .clo 53 [.ptr 100000 0]], .t (.st 26)], [.blk 74 [.clo 51 [.ptr 100001 0, .ptr 100003 0]], .blk 72 [.ptr 100002 0], .mp .str (.int .i64), .blk 23 [.oslc 200300], .row 9 .str]⟩
def qah_os : List StSh := [⟨⟨[], [100000, 100001, 100002, 100003], [⟨.cell 100003 0, 200300, 9, .str⟩]⟩, [], [.blk 74 [.clo 51 [.ptr 100001 0, .ptr 100003 0]], .blk 72 [.ptr 100002 0], .mp .str (.int .i64), .blk 23 [.oslc 200300], .row 9 .str]⟩]
def qah_tr : (List ((List UInt8) × (Int))) × (List (List UInt8)) → Tr (Nat × List (TV U)) := fun x => .ret (0, [⟨(.map .str (.int .i64)), x.1⟩, ⟨(.slc .str), x.2⟩])
def qah_L : Nat → Option (Lift.Loop U) := fun n => bif Nat.beq n joinKey then some joinMark else bif Nat.beq n 2 then some qah_lp2 else none
def qah_enc : Nat → List (TV U) → Option ((List ((List UInt8) × (Int))) × (List (List UInt8)))
  | 0, [⟨(.map .str (.int .i64)), a0⟩, ⟨(.slc .str), a1⟩] => some (a0, a1)
  | _, _ => none
def qah_dec : (List ((List UInt8) × (Int))) × (List (List UInt8)) → Nat × List (TV U) := fun x => (0, [⟨(.map .str (.int .i64)), x.1⟩, ⟨(.slc .str), x.2⟩])
def qah_in : List (TV U) → Option ((List ((List UInt8) × (Int))) × (List (List UInt8)))
  | [⟨(.st 26), a0⟩, ⟨(.map .str (.int .i64)), a1⟩, ⟨(.slc .str), a2⟩] => qah a0 a1 a2
  | _ => none
def qah_md : Mode U := ⟨qah_sh, [⟨100000, .slot 0, [0, 0]⟩, ⟨100001, .cell 100000 0, [0]⟩, ⟨100002, .cell 100001 0, []⟩, ⟨100003, .cell 100000 0, [1]⟩], qah_os, fun ls => .get (qah_in ls) qah_tr⟩
theorem qah_post : ModeOk kk env0 29 qah_md :=
  fn_of (fn := Tryz.f29) qah_enc qah_dec (kitOk_of eqOk mixed known60) (by kernel_rfl) (L := qah_L) (loopsOk_of (bs := [qah_b2]) (by kernel_rfl) ⟨.inr ⟨_, by kernel_rfl, LoopOk.of_round (qah_ok2)⟩, trivial⟩) (fun _ => rfl) (by intro i qs r h; unfold qah_enc at h; split at h <;> cases h <;> rfl)
    (by intro ls r h; unfold qah_in at h; split at h; rw [qah, sealF_eq] at h; exact Eq.trans (by kernel_rfl) h; cases h)
def ms61 : List (FuncId × Mode U) := (29, qah_md) :: ms60
theorem known61 : Known kk env0 (modesOf ms61) := known_cons (by kernel_rfl) qah_post known60
def qbj_sh : StSh := ⟨⟨[0], [], [⟨.slot 0, 0, 9, .str⟩]⟩, [.oslc 0], [.row 9 .str]⟩
def qbj_os : List StSh := [⟨⟨[0], [], [⟨.slot 0, 100000, 9, .str⟩]⟩, [.oslc 100000], [.row 9 .str]⟩]
def qbj_tr : (List (List UInt8)) → Tr (Nat × List (TV U)) := fun x => .ret (0, [⟨(.slc .str), x⟩])
def qbj_enc : Nat → List (TV U) → Option ((List (List UInt8)))
  | 0, [⟨(.slc .str), a0⟩] => some a0
  | _, _ => none
def qbj_dec : (List (List UInt8)) → Nat × List (TV U) := fun x => (0, [⟨(.slc .str), x⟩])
def qbj_in : List (TV U) → Option ((List (List UInt8)))
  | [⟨(.slc .str), a0⟩] => qbj a0
  | _ => none
def qbj_md : Mode U := ⟨qbj_sh, [], qbj_os, fun ls => .get (qbj_in ls) qbj_tr⟩
theorem qbj_post : ModeOk kk env0 54 qbj_md :=
  fn_of (fn := Tryz.f54) qbj_enc qbj_dec (kitOk_of eqOk mixed known61) (by kernel_rfl) (L := jnL) (loopsOk_of (bs := []) (by kernel_rfl) trivial) (fun _ => rfl) (by intro i qs r h; unfold qbj_enc at h; split at h <;> cases h <;> rfl)
    (by intro ls r h; unfold qbj_in at h; split at h; rw [qbj, sealF_eq] at h; exact Eq.trans (by kernel_rfl) h; cases h)
def ms62 : List (FuncId × Mode U) := (54, qbj_md) :: ms61
theorem known62 : Known kk env0 (modesOf ms62) := known_cons (by kernel_rfl) qbj_post known61
def qbB_sh5 : StSh := ⟨⟨[1, 3, 5, 16, 17, 18], [1, 3, 5, 4, 12], [⟨.cell 3 0, 20150, 9, .str⟩]⟩, [.ptr 1 0, .ptr 3 0, .ptr 5 0, .t (.slc (.st 46)), .t (.int .i64), .t (.int .i64)], [.blk 26 [.t (.slc (.st 46)), .t (.slc .str), .t (.slc (.st 38))], .blk 23 [.oslc 20150], .blk 74 [.clo 51 [.ptr 4 0, .ptr 3 0]], .blk 72 [.ptr 12 0], .mp .str (.int .i64), .row 9 .str]⟩
def qbB_o5 : List Out := [⟨.exit 0, ⟨⟨[1, 3, 5], [1, 3, 5, 4, 12], [⟨.cell 3 0, 20150, 9, .str⟩]⟩, [.ptr 1 0, .ptr 3 0, .ptr 5 0], [.blk 26 [.t (.slc (.st 46)), .t (.slc .str), .t (.slc (.st 38))], .blk 23 [.oslc 20150], .blk 74 [.clo 51 [.ptr 4 0, .ptr 3 0]], .blk 72 [.ptr 12 0], .mp .str (.int .i64), .row 9 .str]⟩⟩]
def qbB_b5 : Code := (nthLoop (bodyOf Tryz.f22) 0)
def qbB_rec5 (rec : List (TCell) → Int → Int → List (TCell) → List (List UInt8) → List (TThread) → List ((List UInt8) × (Int)) → List (List UInt8) → Option ((List (TCell)) × (List (List UInt8)) × (List (TThread)) × (List ((List UInt8) × (Int))) × (List (List UInt8)))) : List (TV U) → Option ((List (TCell)) × (List (List UInt8)) × (List (TThread)) × (List ((List UInt8) × (Int))) × (List (List UInt8)))
  | [⟨(.slc (.st 46)), a0⟩, ⟨(.int .i64), a1⟩, ⟨(.int .i64), a2⟩, ⟨(.slc (.st 46)), a3⟩, ⟨(.slc .str), a4⟩, ⟨(.slc (.st 38)), a5⟩, ⟨(.map .str (.int .i64)), a6⟩, ⟨(.slc .str), a7⟩] => rec a0 a1 a2 a3 a4 a5 a6 a7
  | _ => none
def qbB_enc5 : Nat → List (TV U) → Option ((List (TCell)) × (List (List UInt8)) × (List (TThread)) × (List ((List UInt8) × (Int))) × (List (List UInt8)))
  | 0, [⟨(.slc (.st 46)), a0⟩, ⟨(.slc .str), a1⟩, ⟨(.slc (.st 38)), a2⟩, ⟨(.map .str (.int .i64)), a3⟩, ⟨(.slc .str), a4⟩] => some (a0, a1, a2, a3, a4)
  | _, _ => none
def qbB_dec5 : (List (TCell)) × (List (List UInt8)) × (List (TThread)) × (List ((List UInt8) × (Int))) × (List (List UInt8)) → Nat × List (TV U) := fun x => (0, [⟨(.slc (.st 46)), x.1⟩, ⟨(.slc .str), x.2.1⟩, ⟨(.slc (.st 38)), x.2.2.1⟩, ⟨(.map .str (.int .i64)), x.2.2.2.1⟩, ⟨(.slc .str), x.2.2.2.2⟩])
def qbB_tr5 : (List (TCell)) × (List (List UInt8)) × (List (TThread)) × (List ((List UInt8) × (Int))) × (List (List UInt8)) → Tr (Nat × List (TV U)) := fun x => .ret (0, [⟨(.slc (.st 46)), x.1⟩, ⟨(.slc .str), x.2.1⟩, ⟨(.slc (.st 38)), x.2.2.1⟩, ⟨(.map .str (.int .i64)), x.2.2.2.1⟩, ⟨(.slc .str), x.2.2.2.2⟩])
def qbB_lp5 : Lift.Loop U := ⟨qbB_sh5, qbB_o5, fun ls => .get (qbB_rec5 qbB_l5 ls) qbB_tr5⟩
theorem qbB_ok5 : LoopR kk env0 Tryz.f22.ntmps qbB_b5 qbB_lp5 :=
  loop_of qbB_enc5 qbB_dec5 (fun n => qbB_rec5 (qbB_i5 n)) (kitOk_of eqOk mixed known62) (L := jnL) (loopsOk_of (bs := []) (by kernel_rfl) trivial) (fun _ => rfl) (by intro i qs r h; unfold qbB_enc5 at h; split at h <;> cases h <;> rfl)
    (by intro ls r h; unfold qbB_rec5 at h; split at h <;> cases h)
    (by intro n ls r h; unfold qbB_rec5 at h; split at h; exact (show _ = qbB_t5 (qbB_i5 n) _ _ _ _ _ _ _ _ from by kernel_rfl).trans h; cases h) (by rw [qbB_l5, sealF_eq])
def qbB_sh10 : StSh := ⟨⟨[1, 3, 5, 28, 29, 30], [1, 3, 5, 4, 12], [⟨.cell 3 0, 20150, 9, .str⟩]⟩, [.ptr 1 0, .ptr 3 0, .ptr 5 0, .t (.slc .str), .t (.int .i64), .t (.int .i64)], [.blk 26 [.t (.slc (.st 46)), .t (.slc .str), .t (.slc (.st 38))], .blk 23 [.oslc 20150], .blk 74 [.clo 51 [.ptr 4 0, .ptr 3 0]], .blk 72 [.ptr 12 0], .mp .str (.int .i64), .row 9 .str]⟩
def qbB_o10 : List Out := [⟨.exit 2, ⟨⟨[1, 3, 5], [1, 3, 5, 4, 12], [⟨.cell 3 0, 20150, 9, .str⟩]⟩, [.ptr 1 0, .ptr 3 0, .ptr 5 0], [.blk 26 [.t (.slc (.st 46)), .t (.slc .str), .t (.slc (.st 38))], .blk 23 [.oslc 20150], .blk 74 [.clo 51 [.ptr 4 0, .ptr 3 0]], .blk 72 [.ptr 12 0], .mp .str (.int .i64), .row 9 .str]⟩⟩]
def qbB_b10 : Code := (nthLoop (bodyOf Tryz.f22) 1)
def qbB_rec10 (rec : List (List UInt8) → Int → Int → List (TCell) → List (List UInt8) → List (TThread) → List ((List UInt8) × (Int)) → List (List UInt8) → Option ((List (TCell)) × (List (List UInt8)) × (List (TThread)) × (List ((List UInt8) × (Int))) × (List (List UInt8)))) : List (TV U) → Option ((List (TCell)) × (List (List UInt8)) × (List (TThread)) × (List ((List UInt8) × (Int))) × (List (List UInt8)))
  | [⟨(.slc .str), a0⟩, ⟨(.int .i64), a1⟩, ⟨(.int .i64), a2⟩, ⟨(.slc (.st 46)), a3⟩, ⟨(.slc .str), a4⟩, ⟨(.slc (.st 38)), a5⟩, ⟨(.map .str (.int .i64)), a6⟩, ⟨(.slc .str), a7⟩] => rec a0 a1 a2 a3 a4 a5 a6 a7
  | _ => none
def qbB_enc10 : Nat → List (TV U) → Option ((List (TCell)) × (List (List UInt8)) × (List (TThread)) × (List ((List UInt8) × (Int))) × (List (List UInt8)))
  | 0, [⟨(.slc (.st 46)), a0⟩, ⟨(.slc .str), a1⟩, ⟨(.slc (.st 38)), a2⟩, ⟨(.map .str (.int .i64)), a3⟩, ⟨(.slc .str), a4⟩] => some (a0, a1, a2, a3, a4)
  | _, _ => none
def qbB_dec10 : (List (TCell)) × (List (List UInt8)) × (List (TThread)) × (List ((List UInt8) × (Int))) × (List (List UInt8)) → Nat × List (TV U) := fun x => (0, [⟨(.slc (.st 46)), x.1⟩, ⟨(.slc .str), x.2.1⟩, ⟨(.slc (.st 38)), x.2.2.1⟩, ⟨(.map .str (.int .i64)), x.2.2.2.1⟩, ⟨(.slc .str), x.2.2.2.2⟩])
def qbB_tr10 : (List (TCell)) × (List (List UInt8)) × (List (TThread)) × (List ((List UInt8) × (Int))) × (List (List UInt8)) → Tr (Nat × List (TV U)) := fun x => .ret (0, [⟨(.slc (.st 46)), x.1⟩, ⟨(.slc .str), x.2.1⟩, ⟨(.slc (.st 38)), x.2.2.1⟩, ⟨(.map .str (.int .i64)), x.2.2.2.1⟩, ⟨(.slc .str), x.2.2.2.2⟩])
def qbB_lp10 : Lift.Loop U := ⟨qbB_sh10, qbB_o10, fun ls => .get (qbB_rec10 qbB_l10 ls) qbB_tr10⟩
theorem qbB_ok10 : LoopR kk env0 Tryz.f22.ntmps qbB_b10 qbB_lp10 :=
  loop_of qbB_enc10 qbB_dec10 (fun n => qbB_rec10 (qbB_i10 n)) (kitOk_of eqOk mixed known62) (L := jnL) (loopsOk_of (bs := []) (by kernel_rfl) trivial) (fun _ => rfl) (by intro i qs r h; unfold qbB_enc10 at h; split at h <;> cases h <;> rfl)
    (by intro ls r h; unfold qbB_rec10 at h; split at h <;> cases h)
    (by intro n ls r h; unfold qbB_rec10 at h; split at h; exact (show _ = qbB_t10 (qbB_i10 n) _ _ _ _ _ _ _ _ from by kernel_rfl).trans h; cases h) (by rw [qbB_l10, sealF_eq])
def qbB_sh15 : StSh := ⟨⟨[1, 3, 5, 39, 40, 41], [1, 3, 5, 4, 12], [⟨.cell 3 0, 20150, 9, .str⟩]⟩, [.ptr 1 0, .ptr 3 0, .ptr 5 0, .t (.slc (.st 38)), .t (.int .i64), .t (.int .i64)], [.blk 26 [.t (.slc (.st 46)), .t (.slc .str), .t (.slc (.st 38))], .blk 23 [.oslc 20150], .blk 74 [.clo 51 [.ptr 4 0, .ptr 3 0]], .blk 72 [.ptr 12 0], .mp .str (.int .i64), .row 9 .str]⟩
def qbB_o15 : List Out := [⟨.exit 4, ⟨⟨[1, 3, 5], [1, 3, 5, 4, 12], [⟨.cell 3 0, 20150, 9, .str⟩]⟩, [.ptr 1 0, .ptr 3 0, .ptr 5 0], [.blk 26 [.t (.slc (.st 46)), .t (.slc .str), .t (.slc (.st 38))], .blk 23 [.oslc 20150], .blk 74 [.clo 51 [.ptr 4 0, .ptr 3 0]], .blk 72 [.ptr 12 0], .mp .str (.int .i64), .row 9 .str]⟩⟩]
def qbB_b15 : Code := (nthLoop (bodyOf Tryz.f22) 2)
def qbB_rec15 (rec : List (TThread) → Int → Int → List (TCell) → List (List UInt8) → List (TThread) → List ((List UInt8) × (Int)) → List (List UInt8) → Option ((List (TCell)) × (List (List UInt8)) × (List (TThread)) × (List ((List UInt8) × (Int))) × (List (List UInt8)))) : List (TV U) → Option ((List (TCell)) × (List (List UInt8)) × (List (TThread)) × (List ((List UInt8) × (Int))) × (List (List UInt8)))
  | [⟨(.slc (.st 38)), a0⟩, ⟨(.int .i64), a1⟩, ⟨(.int .i64), a2⟩, ⟨(.slc (.st 46)), a3⟩, ⟨(.slc .str), a4⟩, ⟨(.slc (.st 38)), a5⟩, ⟨(.map .str (.int .i64)), a6⟩, ⟨(.slc .str), a7⟩] => rec a0 a1 a2 a3 a4 a5 a6 a7
  | _ => none
def qbB_enc15 : Nat → List (TV U) → Option ((List (TCell)) × (List (List UInt8)) × (List (TThread)) × (List ((List UInt8) × (Int))) × (List (List UInt8)))
  | 0, [⟨(.slc (.st 46)), a0⟩, ⟨(.slc .str), a1⟩, ⟨(.slc (.st 38)), a2⟩, ⟨(.map .str (.int .i64)), a3⟩, ⟨(.slc .str), a4⟩] => some (a0, a1, a2, a3, a4)
  | _, _ => none
def qbB_dec15 : (List (TCell)) × (List (List UInt8)) × (List (TThread)) × (List ((List UInt8) × (Int))) × (List (List UInt8)) → Nat × List (TV U) := fun x => (0, [⟨(.slc (.st 46)), x.1⟩, ⟨(.slc .str), x.2.1⟩, ⟨(.slc (.st 38)), x.2.2.1⟩, ⟨(.map .str (.int .i64)), x.2.2.2.1⟩, ⟨(.slc .str), x.2.2.2.2⟩])
def qbB_tr15 : (List (TCell)) × (List (List UInt8)) × (List (TThread)) × (List ((List UInt8) × (Int))) × (List (List UInt8)) → Tr (Nat × List (TV U)) := fun x => .ret (0, [⟨(.slc (.st 46)), x.1⟩, ⟨(.slc .str), x.2.1⟩, ⟨(.slc (.st 38)), x.2.2.1⟩, ⟨(.map .str (.int .i64)), x.2.2.2.1⟩, ⟨(.slc .str), x.2.2.2.2⟩])
def qbB_lp15 : Lift.Loop U := ⟨qbB_sh15, qbB_o15, fun ls => .get (qbB_rec15 qbB_l15 ls) qbB_tr15⟩
theorem qbB_ok15 : LoopR kk env0 Tryz.f22.ntmps qbB_b15 qbB_lp15 :=
  loop_of qbB_enc15 qbB_dec15 (fun n => qbB_rec15 (qbB_i15 n)) (kitOk_of eqOk mixed known62) (L := jnL) (loopsOk_of (bs := []) (by kernel_rfl) trivial) (fun _ => rfl) (by intro i qs r h; unfold qbB_enc15 at h; split at h <;> cases h <;> rfl)
    (by intro ls r h; unfold qbB_rec15 at h; split at h <;> cases h)
    (by intro n ls r h; unfold qbB_rec15 at h; split at h; exact (show _ = qbB_t15 (qbB_i15 n) _ _ _ _ _ _ _ _ from by kernel_rfl).trans h; cases h) (by rw [qbB_l15, sealF_eq])
def qbB_sh : StSh := ⟨⟨[0], [], []⟩, [.t (.st 26)], []⟩
def qbB_os : List StSh := [⟨⟨[0], [], [⟨.slot 0, 100000, 9, .str⟩]⟩, [.oslc 100000], [.row 9 .str]⟩]
def qbB_tr : (List (List UInt8)) → Tr (Nat × List (TV U)) := fun x => .ret (0, [⟨(.slc .str), x⟩])
def qbB_L : Nat → Option (Lift.Loop U) := fun n => bif Nat.beq n joinKey then some joinMark else bif Nat.beq n 5 then some qbB_lp5 else bif Nat.beq n 10 then some qbB_lp10 else bif Nat.beq n 15 then some qbB_lp15 else none
def qbB_enc : Nat → List (TV U) → Option ((List (List UInt8)))
  | 0, [⟨(.slc .str), a0⟩] => some a0
  | _, _ => none
def qbB_dec : (List (List UInt8)) → Nat × List (TV U) := fun x => (0, [⟨(.slc .str), x⟩])
def qbB_in : List (TV U) → Option ((List (List UInt8)))
  | [⟨(.st 26), a0⟩] => qbB a0
  | _ => none
def qbB_md : Mode U := ⟨qbB_sh, [], qbB_os, fun ls => .get (qbB_in ls) qbB_tr⟩
theorem qbB_post : ModeOk kk env0 22 qbB_md :=
  fn_of (fn := Tryz.f22) qbB_enc qbB_dec (kitOk_of eqOk mixed known62) (by kernel_rfl) (L := qbB_L) (loopsOk_of (bs := [qbB_b5, qbB_b10, qbB_b15]) (by kernel_rfl) ⟨.inr ⟨_, by kernel_rfl, LoopOk.of_round (qbB_ok5)⟩, .inr ⟨_, by kernel_rfl, LoopOk.of_round (qbB_ok10)⟩, .inr ⟨_, by kernel_rfl, LoopOk.of_round (qbB_ok15)⟩, trivial⟩) (fun _ => rfl) (by intro i qs r h; unfold qbB_enc at h; split at h <;> cases h <;> rfl)
    (by intro ls r h; unfold qbB_in at h; split at h; rw [qbB, sealF_eq] at h; exact Eq.trans (by kernel_rfl) h; cases h)
def ms63 : List (FuncId × Mode U) := (22, qbB_md) :: ms62
theorem known63 : Known kk env0 (modesOf ms63) := known_cons (by kernel_rfl) qbB_post known62
def qbs_sh : StSh := ⟨⟨[0], [], []⟩, [.t (.st 46)], []⟩
def qbs_os : List StSh := [⟨⟨[0], [], []⟩, [.t (.st 46)], []⟩]
def qbs_tr : TCell → Tr (Nat × List (TV U)) := fun x => .ret (0, [⟨(.st 46), x⟩])
def qbs_enc : Nat → List (TV U) → Option (TCell)
  | 0, [⟨(.st 46), a0⟩] => some a0
  | _, _ => none
def qbs_dec : TCell → Nat × List (TV U) := fun x => (0, [⟨(.st 46), x⟩])
def qbs_in : List (TV U) → Option (TCell)
  | [⟨(.st 46), a0⟩] => qbs a0
  | _ => none
def qbs_md : Mode U := ⟨qbs_sh, [], qbs_os, fun ls => .get (qbs_in ls) qbs_tr⟩
theorem qbs_post : ModeOk kk env0 41 qbs_md :=
  fn_of (fn := Tryz.f41) qbs_enc qbs_dec (kitOk_of eqOk mixed known63) (by kernel_rfl) (L := jnL) (loopsOk_of (bs := []) (by kernel_rfl) trivial) (fun _ => rfl) (by intro i qs r h; unfold qbs_enc at h; split at h <;> cases h <;> rfl)
    (by intro ls r h; unfold qbs_in at h; split at h; rw [qbs, sealF_eq] at h; exact Eq.trans (by kernel_rfl) h; cases h)
def ms64 : List (FuncId × Mode U) := (41, qbs_md) :: ms63
theorem known64 : Known kk env0 (modesOf ms64) := known_cons (by kernel_rfl) qbs_post known63
def qbf_sh : StSh := ⟨⟨[0], [], [⟨.slot 0, 0, 46, (.st 46)⟩]⟩, [.oslc 0], [.row 46 (.st 46)]⟩
def qbf_os : List StSh := [⟨⟨[0], [], [⟨.slot 0, 100000, 46, (.st 46)⟩]⟩, [.oslc 100000], [.row 46 (.st 46)]⟩]
def qbf_tr : (List (TCell)) → Tr (Nat × List (TV U)) := fun x => .ret (0, [⟨(.slc (.st 46)), x⟩])
def qbf_enc : Nat → List (TV U) → Option ((List (TCell)))
  | 0, [⟨(.slc (.st 46)), a0⟩] => some a0
  | _, _ => none
def qbf_dec : (List (TCell)) → Nat × List (TV U) := fun x => (0, [⟨(.slc (.st 46)), x⟩])
def qbf_in : List (TV U) → Option ((List (TCell)))
  | [⟨(.slc (.st 46)), a0⟩] => qbf a0
  | _ => none
def qbf_md : Mode U := ⟨qbf_sh, [], qbf_os, fun ls => .get (qbf_in ls) qbf_tr⟩
theorem qbf_post : ModeOk kk env0 69 qbf_md :=
  fn_of (fn := Tryz.f69) qbf_enc qbf_dec (kitOk_of eqOk mixed known64) (by kernel_rfl) (L := jnL) (loopsOk_of (bs := []) (by kernel_rfl) trivial) (fun _ => rfl) (by intro i qs r h; unfold qbf_enc at h; split at h <;> cases h <;> rfl)
    (by intro ls r h; unfold qbf_in at h; split at h; rw [qbf, sealF_eq] at h; exact Eq.trans (by kernel_rfl) h; cases h)
def ms65 : List (FuncId × Mode U) := (69, qbf_md) :: ms64
theorem known65 : Known kk env0 (modesOf ms65) := known_cons (by kernel_rfl) qbf_post known64
def qbQ_sh3 : StSh := ⟨⟨[1, 5, 8, 9, 10], [], [⟨.slot 5, 5, 46, (.st 46)⟩]⟩, [.fnc 41, .oslc 5, .t (.slc (.st 46)), .t (.int .i64), .t (.int .i64)], [.row 46 (.st 46)]⟩
def qbQ_o3 : List Out := [⟨.exit 0, ⟨⟨[5], [], [⟨.slot 5, 5, 46, (.st 46)⟩]⟩, [.oslc 5], [.row 46 (.st 46)]⟩⟩]
def qbQ_b3 : Code := (nthLoop (bodyOf Tryz.f40) 0)
def qbQ_rec3 (rec : List (TCell) → Int → Int → List (TCell) → Option ((List (TCell)))) : List (TV U) → Option ((List (TCell)))
  | [⟨(.slc (.st 46)), a0⟩, ⟨(.int .i64), a1⟩, ⟨(.int .i64), a2⟩, ⟨(.slc (.st 46)), a3⟩] => rec a0 a1 a2 a3
  | _ => none
def qbQ_enc3 : Nat → List (TV U) → Option ((List (TCell)))
  | 0, [⟨(.slc (.st 46)), a0⟩] => some a0
  | _, _ => none
def qbQ_dec3 : (List (TCell)) → Nat × List (TV U) := fun x => (0, [⟨(.slc (.st 46)), x⟩])
def qbQ_tr3 : (List (TCell)) → Tr (Nat × List (TV U)) := fun x => .ret (0, [⟨(.slc (.st 46)), x⟩])
def qbQ_lp3 : Lift.Loop U := ⟨qbQ_sh3, qbQ_o3, fun ls => .get (qbQ_rec3 qbQ_l3 ls) qbQ_tr3⟩
theorem qbQ_ok3 : LoopR kk env0 Tryz.f40.ntmps qbQ_b3 qbQ_lp3 :=
  loop_of qbQ_enc3 qbQ_dec3 (fun n => qbQ_rec3 (qbQ_i3 n)) (kitOk_of eqOk mixed known65) (L := jnL) (loopsOk_of (bs := []) (by kernel_rfl) trivial) (fun _ => rfl) (by intro i qs r h; unfold qbQ_enc3 at h; split at h <;> cases h <;> rfl)
    (by intro ls r h; unfold qbQ_rec3 at h; split at h <;> cases h)
    (by intro n ls r h; unfold qbQ_rec3 at h; split at h; exact (show _ = qbQ_t3 (qbQ_i3 n) _ _ _ _ from by kernel_rfl).trans h; cases h) (by rw [qbQ_l3, sealF_eq])
def qbQ_sh : StSh := ⟨⟨[0, 1], [], []⟩, [.t (.slc (.st 46)), .fnc 41], []⟩
def qbQ_os : List StSh := [⟨⟨[0], [], [⟨.slot 0, 100000, 46, (.st 46)⟩]⟩, [.oslc 100000], [.row 46 (.st 46)]⟩]
def qbQ_tr : (List (TCell)) → Tr (Nat × List (TV U)) := fun x => .ret (0, [⟨(.slc (.st 46)), x⟩])
def qbQ_L : Nat → Option (Lift.Loop U) := fun n => bif Nat.beq n joinKey then some joinMark else bif Nat.beq n 3 then some qbQ_lp3 else none
def qbQ_enc : Nat → List (TV U) → Option ((List (TCell)))
  | 0, [⟨(.slc (.st 46)), a0⟩] => some a0
  | _, _ => none
def qbQ_dec : (List (TCell)) → Nat × List (TV U) := fun x => (0, [⟨(.slc (.st 46)), x⟩])
def qbQ_in : List (TV U) → Option ((List (TCell)))
  | [⟨(.slc (.st 46)), a0⟩] => qbQ a0
  | _ => none
def qbQ_md : Mode U := ⟨qbQ_sh, [], qbQ_os, fun ls => .get (qbQ_in ls) qbQ_tr⟩
theorem qbQ_post : ModeOk kk env0 40 qbQ_md :=
  fn_of (fn := Tryz.f40) qbQ_enc qbQ_dec (kitOk_of eqOk mixed known65) (by kernel_rfl) (L := qbQ_L) (loopsOk_of (bs := [qbQ_b3]) (by kernel_rfl) ⟨.inr ⟨_, by kernel_rfl, LoopOk.of_round (qbQ_ok3)⟩, trivial⟩) (fun _ => rfl) (by intro i qs r h; unfold qbQ_enc at h; split at h <;> cases h <;> rfl)
    (by intro ls r h; unfold qbQ_in at h; split at h; rw [qbQ, sealF_eq] at h; exact Eq.trans (by kernel_rfl) h; cases h)
def ms66 : List (FuncId × Mode U) := (40, qbQ_md) :: ms65
theorem known66 : Known kk env0 (modesOf ms66) := known_cons (by kernel_rfl) qbQ_post known65
def qbt_sh : StSh := ⟨⟨[0], [], []⟩, [.t .str], []⟩
def qbt_os : List StSh := [⟨⟨[0], [], []⟩, [.t .str], []⟩]
def qbt_tr : (List UInt8) → Tr (Nat × List (TV U)) := fun x => .ret (0, [⟨.str, x⟩])
def qbt_enc : Nat → List (TV U) → Option ((List UInt8))
  | 0, [⟨.str, a0⟩] => some a0
  | _, _ => none
def qbt_dec : (List UInt8) → Nat × List (TV U) := fun x => (0, [⟨.str, x⟩])
def qbt_in : List (TV U) → Option ((List UInt8))
  | [⟨.str, a0⟩] => qbt a0
  | _ => none
def qbt_md : Mode U := ⟨qbt_sh, [], qbt_os, fun ls => .get (qbt_in ls) qbt_tr⟩
theorem qbt_post : ModeOk kk env0 43 qbt_md :=
  fn_of (fn := Tryz.f43) qbt_enc qbt_dec (kitOk_of eqOk mixed known66) (by kernel_rfl) (L := jnL) (loopsOk_of (bs := []) (by kernel_rfl) trivial) (fun _ => rfl) (by intro i qs r h; unfold qbt_enc at h; split at h <;> cases h <;> rfl)
    (by intro ls r h; unfold qbt_in at h; split at h; rw [qbt, sealF_eq] at h; exact Eq.trans (by kernel_rfl) h; cases h)
def ms67 : List (FuncId × Mode U) := (43, qbt_md) :: ms66
theorem known67 : Known kk env0 (modesOf ms67) := known_cons (by kernel_rfl) qbt_post known66
def qbU_sh3 : StSh := ⟨⟨[1, 5, 8, 9, 10], [], [⟨.slot 5, 5, 9, .str⟩]⟩, [.fnc 43, .oslc 5, .t (.slc .str), .t (.int .i64), .t (.int .i64)], [.row 9 .str]⟩
def qbU_o3 : List Out := [⟨.exit 0, ⟨⟨[5], [], [⟨.slot 5, 5, 9, .str⟩]⟩, [.oslc 5], [.row 9 .str]⟩⟩]
def qbU_b3 : Code := (nthLoop (bodyOf Tryz.f42) 0)
def qbU_rec3 (rec : List (List UInt8) → Int → Int → List (List UInt8) → Option ((List (List UInt8)))) : List (TV U) → Option ((List (List UInt8)))
  | [⟨(.slc .str), a0⟩, ⟨(.int .i64), a1⟩, ⟨(.int .i64), a2⟩, ⟨(.slc .str), a3⟩] => rec a0 a1 a2 a3
  | _ => none
def qbU_enc3 : Nat → List (TV U) → Option ((List (List UInt8)))
  | 0, [⟨(.slc .str), a0⟩] => some a0
  | _, _ => none
def qbU_dec3 : (List (List UInt8)) → Nat × List (TV U) := fun x => (0, [⟨(.slc .str), x⟩])
def qbU_tr3 : (List (List UInt8)) → Tr (Nat × List (TV U)) := fun x => .ret (0, [⟨(.slc .str), x⟩])
def qbU_lp3 : Lift.Loop U := ⟨qbU_sh3, qbU_o3, fun ls => .get (qbU_rec3 qbU_l3 ls) qbU_tr3⟩
theorem qbU_ok3 : LoopR kk env0 Tryz.f42.ntmps qbU_b3 qbU_lp3 :=
  loop_of qbU_enc3 qbU_dec3 (fun n => qbU_rec3 (qbU_i3 n)) (kitOk_of eqOk mixed known67) (L := jnL) (loopsOk_of (bs := []) (by kernel_rfl) trivial) (fun _ => rfl) (by intro i qs r h; unfold qbU_enc3 at h; split at h <;> cases h <;> rfl)
    (by intro ls r h; unfold qbU_rec3 at h; split at h <;> cases h)
    (by intro n ls r h; unfold qbU_rec3 at h; split at h; exact (show _ = qbU_t3 (qbU_i3 n) _ _ _ _ from by kernel_rfl).trans h; cases h) (by rw [qbU_l3, sealF_eq])
def qbU_sh : StSh := ⟨⟨[0, 1], [], []⟩, [.t (.slc .str), .fnc 43], []⟩
def qbU_os : List StSh := [⟨⟨[0], [], [⟨.slot 0, 100000, 9, .str⟩]⟩, [.oslc 100000], [.row 9 .str]⟩]
def qbU_tr : (List (List UInt8)) → Tr (Nat × List (TV U)) := fun x => .ret (0, [⟨(.slc .str), x⟩])
def qbU_L : Nat → Option (Lift.Loop U) := fun n => bif Nat.beq n joinKey then some joinMark else bif Nat.beq n 3 then some qbU_lp3 else none
def qbU_enc : Nat → List (TV U) → Option ((List (List UInt8)))
  | 0, [⟨(.slc .str), a0⟩] => some a0
  | _, _ => none
def qbU_dec : (List (List UInt8)) → Nat × List (TV U) := fun x => (0, [⟨(.slc .str), x⟩])
def qbU_in : List (TV U) → Option ((List (List UInt8)))
  | [⟨(.slc .str), a0⟩] => qbU a0
  | _ => none
def qbU_md : Mode U := ⟨qbU_sh, [], qbU_os, fun ls => .get (qbU_in ls) qbU_tr⟩
theorem qbU_post : ModeOk kk env0 42 qbU_md :=
  fn_of (fn := Tryz.f42) qbU_enc qbU_dec (kitOk_of eqOk mixed known67) (by kernel_rfl) (L := qbU_L) (loopsOk_of (bs := [qbU_b3]) (by kernel_rfl) ⟨.inr ⟨_, by kernel_rfl, LoopOk.of_round (qbU_ok3)⟩, trivial⟩) (fun _ => rfl) (by intro i qs r h; unfold qbU_enc at h; split at h <;> cases h <;> rfl)
    (by intro ls r h; unfold qbU_in at h; split at h; rw [qbU, sealF_eq] at h; exact Eq.trans (by kernel_rfl) h; cases h)
def ms68 : List (FuncId × Mode U) := (42, qbU_md) :: ms67
theorem known68 : Known kk env0 (modesOf ms68) := known_cons (by kernel_rfl) qbU_post known67
def qbI_sh : StSh := ⟨⟨[0], [], []⟩, [.t (.st 41)], []⟩
def qbI_os : List StSh := [⟨⟨[0], [], [⟨.sub 0 3, 100400, 41, (.st 1041)⟩]⟩, [.agg [.t (.int .i64), .t (.int .i64), .t .str, .oslc 100400]], [.row 41 (.st 1041)]⟩]
def qbI_tr : Int × Int × (List UInt8) × (List (TExpr)) → Tr (Nat × List (TV U)) := fun x => .ret (0, [⟨(.int .i64), x.1⟩, ⟨(.int .i64), x.2.1⟩, ⟨.str, x.2.2.1⟩, ⟨(.slc (.st 1041)), x.2.2.2⟩])
def qbI_in (rec_qbI : TExpr → Option (Int × Int × (List UInt8) × (List (TExpr)))) : List (TV U) → Option (Int × Int × (List UInt8) × (List (TExpr)))
  | [⟨(.st 41), a0⟩] => rec_qbI a0
  | _ => none
def qbI_rmd (rec_qbI : TExpr → Option (Int × Int × (List UInt8) × (List (TExpr)))) : Mode U := ⟨qbI_sh, [], qbI_os, fun ls => .get (qbI_in rec_qbI ls) qbI_tr⟩
def ms69 (rec_qbI : TExpr → Option (Int × Int × (List UInt8) × (List (TExpr)))) : List (FuncId × Mode U) := (72, (qbI_rmd rec_qbI)) :: ms68
theorem known69 (rec_qbI : TExpr → Option (Int × Int × (List UInt8) × (List (TExpr)))) (hrec_qbI : ModeOk kk env0 72 (qbI_rmd rec_qbI)) : Known kk env0 (modesOf (ms69 rec_qbI)) := known_cons (by kernel_rfl) hrec_qbI known68
def qbg_sh : StSh := ⟨⟨[0], [], [⟨.slot 0, 0, 41, (.st 1041)⟩]⟩, [.oslc 0], [.row 41 (.st 1041)]⟩
def qbg_os : List StSh := [⟨⟨[0], [], [⟨.slot 0, 100000, 41, (.st 1041)⟩]⟩, [.oslc 100000], [.row 41 (.st 1041)]⟩]
def qbg_tr : (List (TExpr)) → Tr (Nat × List (TV U)) := fun x => .ret (0, [⟨(.slc (.st 1041)), x⟩])
def qbg_enc : Nat → List (TV U) → Option ((List (TExpr)))
  | 0, [⟨(.slc (.st 1041)), a0⟩] => some a0
  | _, _ => none
def qbg_dec : (List (TExpr)) → Nat × List (TV U) := fun x => (0, [⟨(.slc (.st 1041)), x⟩])
def qbg_in (rec_qbI : TExpr → Option (Int × Int × (List UInt8) × (List (TExpr)))) : List (TV U) → Option ((List (TExpr)))
  | [⟨(.slc (.st 1041)), a0⟩] => qbg rec_qbI a0
  | _ => none
def qbg_md (rec_qbI : TExpr → Option (Int × Int × (List UInt8) × (List (TExpr)))) : Mode U := ⟨qbg_sh, [], qbg_os, fun ls => .get (qbg_in rec_qbI ls) qbg_tr⟩
theorem qbg_post (rec_qbI : TExpr → Option (Int × Int × (List UInt8) × (List (TExpr)))) (hrec_qbI : ModeOk kk env0 72 (qbI_rmd rec_qbI)) : ModeOk kk env0 93 (qbg_md rec_qbI) :=
  fn_of (fn := Tryz.f93) qbg_enc qbg_dec (kitOk_of eqOk mixed (known69 rec_qbI hrec_qbI)) (by kernel_rfl) (L := jnL) (loopsOk_of (bs := []) (by kernel_rfl) trivial) (fun _ => rfl) (by intro i qs r h; unfold qbg_enc at h; split at h <;> cases h <;> rfl)
    (by intro ls r h; unfold qbg_in at h; split at h; rw [qbg, sealF_eq] at h; exact Eq.trans (by kernel_rfl) h; cases h)
def ms70 (rec_qbI : TExpr → Option (Int × Int × (List UInt8) × (List (TExpr)))) : List (FuncId × Mode U) := (93, (qbg_md rec_qbI)) :: (ms69 rec_qbI)
theorem known70 (rec_qbI : TExpr → Option (Int × Int × (List UInt8) × (List (TExpr)))) (hrec_qbI : ModeOk kk env0 72 (qbI_rmd rec_qbI)) : Known kk env0 (modesOf (ms70 rec_qbI)) := known_cons (by kernel_rfl) (qbg_post rec_qbI hrec_qbI) (known69 rec_qbI hrec_qbI)
def qbR_sh3 : StSh := ⟨⟨[1, 5, 8, 9, 10], [], [⟨.slot 5, 5, 41, (.st 1041)⟩]⟩, [.fnc 72, .oslc 5, .t (.slc (.st 41)), .t (.int .i64), .t (.int .i64)], [.row 41 (.st 1041)]⟩
def qbR_o3 : List Out := [⟨.exit 0, ⟨⟨[5], [], [⟨.slot 5, 5, 41, (.st 1041)⟩]⟩, [.oslc 5], [.row 41 (.st 1041)]⟩⟩]
def qbR_b3 : Code := (nthLoop (bodyOf Tryz.f83) 0)
def qbR_rec3 (rec : List (TExpr) → Int → Int → List (TExpr) → Option ((List (TExpr)))) : List (TV U) → Option ((List (TExpr)))
  | [⟨(.slc (.st 41)), a0⟩, ⟨(.int .i64), a1⟩, ⟨(.int .i64), a2⟩, ⟨(.slc (.st 1041)), a3⟩] => rec a0 a1 a2 a3
  | _ => none
def qbR_enc3 : Nat → List (TV U) → Option ((List (TExpr)))
  | 0, [⟨(.slc (.st 1041)), a0⟩] => some a0
  | _, _ => none
def qbR_dec3 : (List (TExpr)) → Nat × List (TV U) := fun x => (0, [⟨(.slc (.st 1041)), x⟩])
def qbR_tr3 : (List (TExpr)) → Tr (Nat × List (TV U)) := fun x => .ret (0, [⟨(.slc (.st 1041)), x⟩])
def qbR_lp3 (rec_qbI : TExpr → Option (Int × Int × (List UInt8) × (List (TExpr)))) : Lift.Loop U := ⟨qbR_sh3, qbR_o3, fun ls => .get (qbR_rec3 (qbR_l3 rec_qbI) ls) qbR_tr3⟩
theorem qbR_ok3 (rec_qbI : TExpr → Option (Int × Int × (List UInt8) × (List (TExpr)))) (hrec_qbI : ModeOk kk env0 72 (qbI_rmd rec_qbI)) : LoopR kk env0 Tryz.f83.ntmps qbR_b3 (qbR_lp3 rec_qbI) :=
  loop_of qbR_enc3 qbR_dec3 (fun n => qbR_rec3 (qbR_i3 rec_qbI n)) (kitOk_of eqOk mixed (known70 rec_qbI hrec_qbI)) (L := jnL) (loopsOk_of (bs := []) (by kernel_rfl) trivial) (fun _ => rfl) (by intro i qs r h; unfold qbR_enc3 at h; split at h <;> cases h <;> rfl)
    (by intro ls r h; unfold qbR_rec3 at h; split at h <;> cases h)
    (by intro n ls r h; unfold qbR_rec3 at h; split at h; exact (show _ = qbR_t3 rec_qbI (qbR_i3 rec_qbI n) _ _ _ _ from by kernel_rfl).trans h; cases h) (by rw [qbR_l3, sealF_eq])
def qbR_sh : StSh := ⟨⟨[0, 1], [], []⟩, [.t (.slc (.st 41)), .fnc 72], []⟩
def qbR_os : List StSh := [⟨⟨[0], [], [⟨.slot 0, 100000, 41, (.st 1041)⟩]⟩, [.oslc 100000], [.row 41 (.st 1041)]⟩]
def qbR_tr : (List (TExpr)) → Tr (Nat × List (TV U)) := fun x => .ret (0, [⟨(.slc (.st 1041)), x⟩])
def qbR_L (rec_qbI : TExpr → Option (Int × Int × (List UInt8) × (List (TExpr)))) : Nat → Option (Lift.Loop U) := fun n => bif Nat.beq n joinKey then some joinMark else bif Nat.beq n 3 then some (qbR_lp3 rec_qbI) else none
def qbR_enc : Nat → List (TV U) → Option ((List (TExpr)))
  | 0, [⟨(.slc (.st 1041)), a0⟩] => some a0
  | _, _ => none
def qbR_dec : (List (TExpr)) → Nat × List (TV U) := fun x => (0, [⟨(.slc (.st 1041)), x⟩])
def qbR_in (rec_qbI : TExpr → Option (Int × Int × (List UInt8) × (List (TExpr)))) : List (TV U) → Option ((List (TExpr)))
  | [⟨(.slc (.st 41)), a0⟩] => qbR rec_qbI a0
  | _ => none
def qbR_md (rec_qbI : TExpr → Option (Int × Int × (List UInt8) × (List (TExpr)))) : Mode U := ⟨qbR_sh, [], qbR_os, fun ls => .get (qbR_in rec_qbI ls) qbR_tr⟩
theorem qbR_post (rec_qbI : TExpr → Option (Int × Int × (List UInt8) × (List (TExpr)))) (hrec_qbI : ModeOk kk env0 72 (qbI_rmd rec_qbI)) : ModeOk kk env0 83 (qbR_md rec_qbI) :=
  fn_of (fn := Tryz.f83) qbR_enc qbR_dec (kitOk_of eqOk mixed (known70 rec_qbI hrec_qbI)) (by kernel_rfl) (L := (qbR_L rec_qbI)) (loopsOk_of (bs := [qbR_b3]) (by kernel_rfl) ⟨.inr ⟨_, by kernel_rfl, LoopOk.of_round (qbR_ok3 rec_qbI hrec_qbI)⟩, trivial⟩) (fun _ => rfl) (by intro i qs r h; unfold qbR_enc at h; split at h <;> cases h <;> rfl)
    (by intro ls r h; unfold qbR_in at h; split at h; rw [qbR, sealF_eq] at h; exact Eq.trans (by kernel_rfl) h; cases h)
def ms71 (rec_qbI : TExpr → Option (Int × Int × (List UInt8) × (List (TExpr)))) : List (FuncId × Mode U) := (83, (qbR_md rec_qbI)) :: (ms70 rec_qbI)
theorem known71 (rec_qbI : TExpr → Option (Int × Int × (List UInt8) × (List (TExpr)))) (hrec_qbI : ModeOk kk env0 72 (qbI_rmd rec_qbI)) : Known kk env0 (modesOf (ms71 rec_qbI)) := known_cons (by kernel_rfl) (qbR_post rec_qbI hrec_qbI) (known70 rec_qbI hrec_qbI)
def qbI_enc : Nat → List (TV U) → Option (Int × Int × (List UInt8) × (List (TExpr)))
  | 0, [⟨(.int .i64), a0⟩, ⟨(.int .i64), a1⟩, ⟨.str, a2⟩, ⟨(.slc (.st 1041)), a3⟩] => some (a0, a1, a2, a3)
  | _, _ => none
def qbI_dec : Int × Int × (List UInt8) × (List (TExpr)) → Nat × List (TV U) := fun x => (0, [⟨(.int .i64), x.1⟩, ⟨(.int .i64), x.2.1⟩, ⟨.str, x.2.2.1⟩, ⟨(.slc (.st 1041)), x.2.2.2⟩])
def qbI_md : Mode U := qbI_rmd qbI
theorem qbI_step (rec_qbI : TExpr → Option (Int × Int × (List UInt8) × (List (TExpr)))) (hrec_qbI : ModeOk kk env0 72 (qbI_rmd rec_qbI)) : LoopsOk (Kit.withModes kk (modesOf (ms71 rec_qbI))) env0 Tryz.f72.ntmps jnL (bodyOf Tryz.f72) := loopsOk_of (bs := []) (by kernel_rfl) trivial
theorem qbI_post : ModeOk kk env0 72 (qbI_rmd qbI) :=
  rec_of (K := kk) (F := qbI) qbI_rmd qbI_i (by rw [qbI, sealF_eq]) (rec_zero (by intro ls r h; unfold qbI_in at h; split at h <;> cases h)) (fun n ih => fn_of (fn := Tryz.f72) qbI_enc qbI_dec (kitOk_of eqOk mixed (known71 (qbI_i n) ih)) (by kernel_rfl) (qbI_step (qbI_i n) ih) (fun _ => rfl) (by intro i qs r h; unfold qbI_enc at h; split at h <;> cases h <;> rfl)
    (by intro ls r h; unfold qbI_in at h; split at h; exact (show _ = qbI_f (qbI_i n) _ from by kernel_rfl).trans h; cases h))
def ms72 : List (FuncId × Mode U) := (72, qbI_md) :: ms68
theorem known72 : Known kk env0 (modesOf ms72) := known_cons (by kernel_rfl) qbI_post known68
def qbS_sh : StSh := ⟨⟨[0, 1], [], []⟩, [.t (.slc (.st 43)), .fnc 47], []⟩
def qbS_os : List StSh := [⟨⟨[0], [], [⟨.slot 0, 100000, 43, (.st 1043)⟩]⟩, [.oslc 100000], [.row 43 (.st 1043)]⟩]
def qbS_tr : (List (TStmt)) → Tr (Nat × List (TV U)) := fun x => .ret (0, [⟨(.slc (.st 1043)), x⟩])
def qbS_in (rec_qbS : List (TStmt) → Option ((List (TStmt)))) : List (TV U) → Option ((List (TStmt)))
  | [⟨(.slc (.st 43)), a0⟩] => rec_qbS a0
  | _ => none
def qbS_rmd (rec_qbS : List (TStmt) → Option ((List (TStmt)))) : Mode U := ⟨qbS_sh, [], qbS_os, fun ls => .get (qbS_in rec_qbS ls) qbS_tr⟩
def ms73 (rec_qbS : List (TStmt) → Option ((List (TStmt)))) : List (FuncId × Mode U) := (46, (qbS_rmd rec_qbS)) :: ms72
theorem known73 (rec_qbS : List (TStmt) → Option ((List (TStmt)))) (hrec_qbS : ModeOk kk env0 46 (qbS_rmd rec_qbS)) : Known kk env0 (modesOf (ms73 rec_qbS)) := known_cons (by kernel_rfl) hrec_qbS known72
def qbJ_sh : StSh := ⟨⟨[0], [], []⟩, [.t (.st 43)], []⟩
def qbJ_os : List StSh := [⟨⟨[0], [], [⟨.sub 0 6, 100700, 41, (.st 1041)⟩, ⟨.sub 0 8, 100900, 43, (.st 1043)⟩, ⟨.sub 0 9, 101000, 43, (.st 1043)⟩]⟩, [.agg [.t (.int .i64), .t .str, .t .str, .t (.int .i64), .t (.int .i64), .t .str, .oslc 100700, .t (.int .i64), .oslc 100900, .oslc 101000]], [.row 41 (.st 1041), .row 43 (.st 1043), .row 43 (.st 1043)]⟩]
def qbJ_tr : Int × (List UInt8) × (List UInt8) × Int × Int × (List UInt8) × Int × (List (TExpr)) × (List (TStmt)) × (List (TStmt)) → Tr (Nat × List (TV U)) := fun x => .ret (0, [⟨(.int .i64), x.1⟩, ⟨.str, x.2.1⟩, ⟨.str, x.2.2.1⟩, ⟨(.int .i64), x.2.2.2.1⟩, ⟨(.int .i64), x.2.2.2.2.1⟩, ⟨.str, x.2.2.2.2.2.1⟩, ⟨(.int .i64), x.2.2.2.2.2.2.1⟩, ⟨(.slc (.st 1041)), x.2.2.2.2.2.2.2.1⟩, ⟨(.slc (.st 1043)), x.2.2.2.2.2.2.2.2.1⟩, ⟨(.slc (.st 1043)), x.2.2.2.2.2.2.2.2.2⟩])
def qbJ_enc : Nat → List (TV U) → Option (Int × (List UInt8) × (List UInt8) × Int × Int × (List UInt8) × Int × (List (TExpr)) × (List (TStmt)) × (List (TStmt)))
  | 0, [⟨(.int .i64), a0⟩, ⟨.str, a1⟩, ⟨.str, a2⟩, ⟨(.int .i64), a3⟩, ⟨(.int .i64), a4⟩, ⟨.str, a5⟩, ⟨(.int .i64), a6⟩, ⟨(.slc (.st 1041)), a7⟩, ⟨(.slc (.st 1043)), a8⟩, ⟨(.slc (.st 1043)), a9⟩] => some (a0, a1, a2, a3, a4, a5, a6, a7, a8, a9)
  | _, _ => none
def qbJ_dec : Int × (List UInt8) × (List UInt8) × Int × Int × (List UInt8) × Int × (List (TExpr)) × (List (TStmt)) × (List (TStmt)) → Nat × List (TV U) := fun x => (0, [⟨(.int .i64), x.1⟩, ⟨.str, x.2.1⟩, ⟨.str, x.2.2.1⟩, ⟨(.int .i64), x.2.2.2.1⟩, ⟨(.int .i64), x.2.2.2.2.1⟩, ⟨.str, x.2.2.2.2.2.1⟩, ⟨(.int .i64), x.2.2.2.2.2.2.1⟩, ⟨(.slc (.st 1041)), x.2.2.2.2.2.2.2.1⟩, ⟨(.slc (.st 1043)), x.2.2.2.2.2.2.2.2.1⟩, ⟨(.slc (.st 1043)), x.2.2.2.2.2.2.2.2.2⟩])
def qbJ_in (rec_qbS : List (TStmt) → Option ((List (TStmt)))) : List (TV U) → Option (Int × (List UInt8) × (List UInt8) × Int × Int × (List UInt8) × Int × (List (TExpr)) × (List (TStmt)) × (List (TStmt)))
  | [⟨(.st 43), a0⟩] => qbJ rec_qbS a0
  | _ => none
def qbJ_md (rec_qbS : List (TStmt) → Option ((List (TStmt)))) : Mode U := ⟨qbJ_sh, [], qbJ_os, fun ls => .get (qbJ_in rec_qbS ls) qbJ_tr⟩
theorem qbJ_post (rec_qbS : List (TStmt) → Option ((List (TStmt)))) (hrec_qbS : ModeOk kk env0 46 (qbS_rmd rec_qbS)) : ModeOk kk env0 47 (qbJ_md rec_qbS) :=
  fn_of (fn := Tryz.f47) qbJ_enc qbJ_dec (kitOk_of eqOk mixed (known73 rec_qbS hrec_qbS)) (by kernel_rfl) (L := jnL) (loopsOk_of (bs := []) (by kernel_rfl) trivial) (fun _ => rfl) (by intro i qs r h; unfold qbJ_enc at h; split at h <;> cases h <;> rfl)
    (by intro ls r h; unfold qbJ_in at h; split at h; rw [qbJ, sealF_eq] at h; exact Eq.trans (by kernel_rfl) h; cases h)
def ms74 (rec_qbS : List (TStmt) → Option ((List (TStmt)))) : List (FuncId × Mode U) := (47, (qbJ_md rec_qbS)) :: (ms73 rec_qbS)
theorem known74 (rec_qbS : List (TStmt) → Option ((List (TStmt)))) (hrec_qbS : ModeOk kk env0 46 (qbS_rmd rec_qbS)) : Known kk env0 (modesOf (ms74 rec_qbS)) := known_cons (by kernel_rfl) (qbJ_post rec_qbS hrec_qbS) (known73 rec_qbS hrec_qbS)
def qbh_sh : StSh := ⟨⟨[0], [], [⟨.slot 0, 0, 43, (.st 1043)⟩]⟩, [.oslc 0], [.row 43 (.st 1043)]⟩
def qbh_os : List StSh := [⟨⟨[0], [], [⟨.slot 0, 100000, 43, (.st 1043)⟩]⟩, [.oslc 100000], [.row 43 (.st 1043)]⟩]
def qbh_tr : (List (TStmt)) → Tr (Nat × List (TV U)) := fun x => .ret (0, [⟨(.slc (.st 1043)), x⟩])
def qbh_enc : Nat → List (TV U) → Option ((List (TStmt)))
  | 0, [⟨(.slc (.st 1043)), a0⟩] => some a0
  | _, _ => none
def qbh_dec : (List (TStmt)) → Nat × List (TV U) := fun x => (0, [⟨(.slc (.st 1043)), x⟩])
def qbh_in (rec_qbS : List (TStmt) → Option ((List (TStmt)))) : List (TV U) → Option ((List (TStmt)))
  | [⟨(.slc (.st 1043)), a0⟩] => qbh rec_qbS a0
  | _ => none
def qbh_md (rec_qbS : List (TStmt) → Option ((List (TStmt)))) : Mode U := ⟨qbh_sh, [], qbh_os, fun ls => .get (qbh_in rec_qbS ls) qbh_tr⟩
theorem qbh_post (rec_qbS : List (TStmt) → Option ((List (TStmt)))) (hrec_qbS : ModeOk kk env0 46 (qbS_rmd rec_qbS)) : ModeOk kk env0 71 (qbh_md rec_qbS) :=
  fn_of (fn := Tryz.f71) qbh_enc qbh_dec (kitOk_of eqOk mixed (known74 rec_qbS hrec_qbS)) (by kernel_rfl) (L := jnL) (loopsOk_of (bs := []) (by kernel_rfl) trivial) (fun _ => rfl) (by intro i qs r h; unfold qbh_enc at h; split at h <;> cases h <;> rfl)
    (by intro ls r h; unfold qbh_in at h; split at h; rw [qbh, sealF_eq] at h; exact Eq.trans (by kernel_rfl) h; cases h)
def ms75 (rec_qbS : List (TStmt) → Option ((List (TStmt)))) : List (FuncId × Mode U) := (71, (qbh_md rec_qbS)) :: (ms74 rec_qbS)
theorem known75 (rec_qbS : List (TStmt) → Option ((List (TStmt)))) (hrec_qbS : ModeOk kk env0 46 (qbS_rmd rec_qbS)) : Known kk env0 (modesOf (ms75 rec_qbS)) := known_cons (by kernel_rfl) (qbh_post rec_qbS hrec_qbS) (known74 rec_qbS hrec_qbS)
def qbS_sh3 : StSh := ⟨⟨[1, 5, 8, 9, 10], [], [⟨.slot 5, 5, 43, (.st 1043)⟩]⟩, [.fnc 47, .oslc 5, .t (.slc (.st 43)), .t (.int .i64), .t (.int .i64)], [.row 43 (.st 1043)]⟩
def qbS_o3 : List Out := [⟨.exit 0, ⟨⟨[5], [], [⟨.slot 5, 5, 43, (.st 1043)⟩]⟩, [.oslc 5], [.row 43 (.st 1043)]⟩⟩]
def qbS_b3 : Code := (nthLoop (bodyOf Tryz.f46) 0)
def qbS_rec3 (rec : List (TStmt) → Int → Int → List (TStmt) → Option ((List (TStmt)))) : List (TV U) → Option ((List (TStmt)))
  | [⟨(.slc (.st 43)), a0⟩, ⟨(.int .i64), a1⟩, ⟨(.int .i64), a2⟩, ⟨(.slc (.st 1043)), a3⟩] => rec a0 a1 a2 a3
  | _ => none
def qbS_enc3 : Nat → List (TV U) → Option ((List (TStmt)))
  | 0, [⟨(.slc (.st 1043)), a0⟩] => some a0
  | _, _ => none
def qbS_dec3 : (List (TStmt)) → Nat × List (TV U) := fun x => (0, [⟨(.slc (.st 1043)), x⟩])
def qbS_tr3 : (List (TStmt)) → Tr (Nat × List (TV U)) := fun x => .ret (0, [⟨(.slc (.st 1043)), x⟩])
def qbS_lp3 (rec_qbS : List (TStmt) → Option ((List (TStmt)))) : Lift.Loop U := ⟨qbS_sh3, qbS_o3, fun ls => .get (qbS_rec3 (qbS_l3 rec_qbS) ls) qbS_tr3⟩
theorem qbS_ok3 (rec_qbS : List (TStmt) → Option ((List (TStmt)))) (hrec_qbS : ModeOk kk env0 46 (qbS_rmd rec_qbS)) : LoopR kk env0 Tryz.f46.ntmps qbS_b3 (qbS_lp3 rec_qbS) :=
  loop_of qbS_enc3 qbS_dec3 (fun n => qbS_rec3 (qbS_i3 rec_qbS n)) (kitOk_of eqOk mixed (known75 rec_qbS hrec_qbS)) (L := jnL) (loopsOk_of (bs := []) (by kernel_rfl) trivial) (fun _ => rfl) (by intro i qs r h; unfold qbS_enc3 at h; split at h <;> cases h <;> rfl)
    (by intro ls r h; unfold qbS_rec3 at h; split at h <;> cases h)
    (by intro n ls r h; unfold qbS_rec3 at h; split at h; exact (show _ = qbS_t3 rec_qbS (qbS_i3 rec_qbS n) _ _ _ _ from by kernel_rfl).trans h; cases h) (by rw [qbS_l3, sealF_eq])
def qbS_L (rec_qbS : List (TStmt) → Option ((List (TStmt)))) : Nat → Option (Lift.Loop U) := fun n => bif Nat.beq n joinKey then some joinMark else bif Nat.beq n 3 then some (qbS_lp3 rec_qbS) else none
def qbS_enc : Nat → List (TV U) → Option ((List (TStmt)))
  | 0, [⟨(.slc (.st 1043)), a0⟩] => some a0
  | _, _ => none
def qbS_dec : (List (TStmt)) → Nat × List (TV U) := fun x => (0, [⟨(.slc (.st 1043)), x⟩])
def qbS_md : Mode U := qbS_rmd qbS
end
end Lift.F3
