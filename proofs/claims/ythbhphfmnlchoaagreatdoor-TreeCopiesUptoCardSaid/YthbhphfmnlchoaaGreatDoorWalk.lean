/-
  DERIVED. Each function of this seat computes its Lean function. Conditions: as each theorem says.
-/
import Derived.Test.YthbhphfmnlchoaaGreatDoorDefs
set_option linter.unusedVariables false
set_option linter.unusedSimpArgs false
set_option linter.unusedSectionVars false
namespace Lift.F3
noncomputable section
open Go Go.RowKit Go.Proofs Lift Lift.Fn
def qbv_sh : StSh := ⟨⟨[0], [], []⟩, [.t (.int .i32)], []⟩
def qbv_os : List StSh := [⟨⟨[0], [], []⟩, [.t (.int .i64)], []⟩]
def qbv_tr : Int → Tr (Nat × List (TV U)) := fun x => .ret (0, [⟨(.int .i64), x⟩])
def qbv_enc : Nat → List (TV U) → Option (Int)
  | 0, [⟨(.int .i64), a0⟩] => some a0
  | _, _ => none
def qbv_dec : Int → Nat × List (TV U) := fun x => (0, [⟨(.int .i64), x⟩])
def qbv_in : List (TV U) → Option (Int)
  | [⟨(.int .i32), a0⟩] => qbv a0
  | _ => none
def qbv_md : Mode U := ⟨qbv_sh, [], qbv_os, fun ls => .get (qbv_in ls) qbv_tr⟩
theorem qbv_post : ModeOk kk env0 117 qbv_md :=
  fn_of (fn := Tryz.f117) qbv_enc qbv_dec (kitOk_of eqOk mixed known5) (by kernel_rfl) (L := noL) (loopsOk_of (bs := []) (by kernel_rfl) trivial) (fun _ => rfl) (by intro i qs r h; unfold qbv_enc at h; split at h <;> cases h <;> rfl)
    (by intro ls r h; unfold qbv_in at h; split at h; rw [qbv, sealF_eq] at h; exact Eq.trans (by kernel_rfl) h; cases h)
def ms6 : List (FuncId × Mode U) := (117, qbv_md) :: ms5
theorem known6 : Known kk env0 (modesOf ms6) := known_cons (by kernel_rfl) qbv_post known5
def qaJ_sh4 : StSh := ⟨⟨[0, 3, 4, 5, 10], [3, 5, 10], [⟨.slot 4, 4, 108, (.st 108)⟩]⟩, [.t .str, .ptr 3 0, .oslc 4, .ptr 5 0, .ptr 10 0], [.blk 108 [.t (.int .i64), .t (.int .i64), .t (.int .i64), .t (.int .i64)], .blk 108 [.t (.int .i64), .t (.int .i64), .t (.int .i64), .t (.int .i64)], .sit, .row 108 (.st 108)]⟩
def qaJ_o4 : List Out := [⟨.ret, ⟨⟨[2, 3], [3], [⟨.slot 2, 2, 108, (.st 108)⟩]⟩, [.oslc 2, .ptr 3 0], [.blk 108 [.t (.int .i64), .t (.int .i64), .t (.int .i64), .t (.int .i64)], .row 108 (.st 108)]⟩⟩, ⟨.exit 0, ⟨⟨[3, 4, 5], [3, 5], [⟨.slot 4, 4, 108, (.st 108)⟩]⟩, [.ptr 3 0, .oslc 4, .ptr 5 0], [.blk 108 [.t (.int .i64), .t (.int .i64), .t (.int .i64), .t (.int .i64)], .blk 108 [.t (.int .i64), .t (.int .i64), .t (.int .i64), .t (.int .i64)], .row 108 (.st 108)]⟩⟩]
def qaJ_b4 : Code := (nthLoop (bodyOf Tryz.f102) 0)
def qaJ_rec4 (rec : List UInt8 → Int → Int → Int → Int → Int → Int → Int → Int → List UInt8 → Nat → List (Spot) → Option ((Int × Int × Int × Int × (List (Spot))) ⊕ (Int × Int × Int × Int × Int × Int × Int × Int × (List (Spot))))) : List (TV U) → Option ((Int × Int × Int × Int × (List (Spot))) ⊕ (Int × Int × Int × Int × Int × Int × Int × Int × (List (Spot))))
  | [⟨.str, a0⟩, ⟨(.int .i64), a1⟩, ⟨(.int .i64), a2⟩, ⟨(.int .i64), a3⟩, ⟨(.int .i64), a4⟩, ⟨(.int .i64), a5⟩, ⟨(.int .i64), a6⟩, ⟨(.int .i64), a7⟩, ⟨(.int .i64), a8⟩, ⟨.str, a9⟩, ⟨.fn, a10⟩, ⟨(.slc (.st 108)), a11⟩] => rec a0 a1 a2 a3 a4 a5 a6 a7 a8 a9 a10 a11
  | _ => none
def qaJ_enc4 : Nat → List (TV U) → Option ((Int × Int × Int × Int × (List (Spot))) ⊕ (Int × Int × Int × Int × Int × Int × Int × Int × (List (Spot))))
  | 0, [⟨(.int .i64), a0⟩, ⟨(.int .i64), a1⟩, ⟨(.int .i64), a2⟩, ⟨(.int .i64), a3⟩, ⟨(.slc (.st 108)), a4⟩] => some (.inl (a0, a1, a2, a3, a4))
  | 1, [⟨(.int .i64), a0⟩, ⟨(.int .i64), a1⟩, ⟨(.int .i64), a2⟩, ⟨(.int .i64), a3⟩, ⟨(.int .i64), a4⟩, ⟨(.int .i64), a5⟩, ⟨(.int .i64), a6⟩, ⟨(.int .i64), a7⟩, ⟨(.slc (.st 108)), a8⟩] => some (.inr (a0, a1, a2, a3, a4, a5, a6, a7, a8))
  | _, _ => none
def qaJ_dec4 : (Int × Int × Int × Int × (List (Spot))) ⊕ (Int × Int × Int × Int × Int × Int × Int × Int × (List (Spot))) → Nat × List (TV U) := fun r => match r with | (.inl x) => (0, [⟨(.int .i64), x.1⟩, ⟨(.int .i64), x.2.1⟩, ⟨(.int .i64), x.2.2.1⟩, ⟨(.int .i64), x.2.2.2.1⟩, ⟨(.slc (.st 108)), x.2.2.2.2⟩]) | (.inr x) => (1, [⟨(.int .i64), x.1⟩, ⟨(.int .i64), x.2.1⟩, ⟨(.int .i64), x.2.2.1⟩, ⟨(.int .i64), x.2.2.2.1⟩, ⟨(.int .i64), x.2.2.2.2.1⟩, ⟨(.int .i64), x.2.2.2.2.2.1⟩, ⟨(.int .i64), x.2.2.2.2.2.2.1⟩, ⟨(.int .i64), x.2.2.2.2.2.2.2.1⟩, ⟨(.slc (.st 108)), x.2.2.2.2.2.2.2.2⟩])
def qaJ_tr4 : (Int × Int × Int × Int × (List (Spot))) ⊕ (Int × Int × Int × Int × Int × Int × Int × Int × (List (Spot))) → Tr (Nat × List (TV U)) := fun r => .alt r (fun x => .ret (0, [⟨(.int .i64), x.1⟩, ⟨(.int .i64), x.2.1⟩, ⟨(.int .i64), x.2.2.1⟩, ⟨(.int .i64), x.2.2.2.1⟩, ⟨(.slc (.st 108)), x.2.2.2.2⟩])) (fun y => (fun x => .ret (1, [⟨(.int .i64), x.1⟩, ⟨(.int .i64), x.2.1⟩, ⟨(.int .i64), x.2.2.1⟩, ⟨(.int .i64), x.2.2.2.1⟩, ⟨(.int .i64), x.2.2.2.2.1⟩, ⟨(.int .i64), x.2.2.2.2.2.1⟩, ⟨(.int .i64), x.2.2.2.2.2.2.1⟩, ⟨(.int .i64), x.2.2.2.2.2.2.2.1⟩, ⟨(.slc (.st 108)), x.2.2.2.2.2.2.2.2⟩])) y)
def qaJ_lp4 : Lift.Loop U := ⟨qaJ_sh4, qaJ_o4, fun ls => .get (qaJ_rec4 qaJ_l4 ls) qaJ_tr4⟩
theorem qaJ_ok4 : LoopR kk env0 Tryz.f102.ntmps qaJ_b4 qaJ_lp4 :=
  loop_of qaJ_enc4 qaJ_dec4 (fun n => qaJ_rec4 (qaJ_i4 n)) (kitOk_of eqOk mixed known6) (L := noL) (loopsOk_of (bs := []) (by kernel_rfl) trivial) (by intro r; rcases r with r | r <;> rfl) (by intro i qs r h; unfold qaJ_enc4 at h; split at h <;> cases h <;> rfl)
    (by intro ls r h; unfold qaJ_rec4 at h; split at h <;> cases h)
    (by intro n ls r h; unfold qaJ_rec4 at h; split at h; exact (show _ = qaJ_t4 (qaJ_i4 n) _ _ _ _ _ _ _ _ _ _ _ _ from by kernel_rfl).trans h; cases h) (by rw [qaJ_l4, sealF_eq])
def qaJ_sh : StSh := ⟨⟨[0], [], []⟩, [.t .str], []⟩
def qaJ_os : List StSh := [⟨⟨[0, 1], [], [⟨.slot 0, 100000, 108, (.st 108)⟩]⟩, [.oslc 100000, .t (.st 108)], [.row 108 (.st 108)]⟩]
def qaJ_tr : Spot × (List (Spot)) → Tr (Nat × List (TV U)) := fun x => .ret (0, [⟨(.st 108), x.1⟩, ⟨(.slc (.st 108)), x.2⟩])
def qaJ_L : Nat → Option (Lift.Loop U) := fun n => bif Nat.beq n 4 then some qaJ_lp4 else none
def qaJ_enc : Nat → List (TV U) → Option (Spot × (List (Spot)))
  | 0, [⟨(.st 108), a0⟩, ⟨(.slc (.st 108)), a1⟩] => some (a0, a1)
  | _, _ => none
def qaJ_dec : Spot × (List (Spot)) → Nat × List (TV U) := fun x => (0, [⟨(.st 108), x.1⟩, ⟨(.slc (.st 108)), x.2⟩])
def qaJ_in : List (TV U) → Option (Spot × (List (Spot)))
  | [⟨.str, a0⟩] => qaJ a0
  | _ => none
def qaJ_md : Mode U := ⟨qaJ_sh, [], qaJ_os, fun ls => .get (qaJ_in ls) qaJ_tr⟩
theorem qaJ_post : ModeOk kk env0 102 qaJ_md :=
  fn_of (fn := Tryz.f102) qaJ_enc qaJ_dec (kitOk_of eqOk mixed known6) (by kernel_rfl) (L := qaJ_L) (loopsOk_of (bs := [qaJ_b4]) (by kernel_rfl) ⟨.inr ⟨_, by kernel_rfl, LoopOk.of_round (qaJ_ok4)⟩, trivial⟩) (fun _ => rfl) (by intro i qs r h; unfold qaJ_enc at h; split at h <;> cases h <;> rfl)
    (by intro ls r h; unfold qaJ_in at h; split at h; rw [qaJ, sealF_eq] at h; exact Eq.trans (by kernel_rfl) h; cases h)
def ms7 : List (FuncId × Mode U) := (102, qaJ_md) :: ms6
theorem known7 : Known kk env0 (modesOf ms7) := known_cons (by kernel_rfl) qaJ_post known6
def qaI_sh : StSh := ⟨⟨[0], [], []⟩, [.t .str], []⟩
def qaI_os : List StSh := [⟨⟨[0, 1], [], [⟨.slot 0, 100000, 108, (.st 108)⟩]⟩, [.oslc 100000, .t (.st 90)], [.row 108 (.st 108)]⟩]
def qaI_tr : Fault × (List (Spot)) → Tr (Nat × List (TV U)) := fun x => .ret (0, [⟨(.st 90), x.1⟩, ⟨(.slc (.st 108)), x.2⟩])
def qaI_enc : Nat → List (TV U) → Option (Fault × (List (Spot)))
  | 0, [⟨(.st 90), a0⟩, ⟨(.slc (.st 108)), a1⟩] => some (a0, a1)
  | _, _ => none
def qaI_dec : Fault × (List (Spot)) → Nat × List (TV U) := fun x => (0, [⟨(.st 90), x.1⟩, ⟨(.slc (.st 108)), x.2⟩])
def qaI_in : List (TV U) → Option (Fault × (List (Spot)))
  | [⟨.str, a0⟩] => qaI a0
  | _ => none
def qaI_md : Mode U := ⟨qaI_sh, [], qaI_os, fun ls => .get (qaI_in ls) qaI_tr⟩
theorem qaI_post : ModeOk kk env0 90 qaI_md :=
  fn_of (fn := Tryz.f90) qaI_enc qaI_dec (kitOk_of eqOk mixed known7) (by kernel_rfl) (L := noL) (loopsOk_of (bs := []) (by kernel_rfl) trivial) (fun _ => rfl) (by intro i qs r h; unfold qaI_enc at h; split at h <;> cases h <;> rfl)
    (by intro ls r h; unfold qaI_in at h; split at h; rw [qaI, sealF_eq] at h; exact Eq.trans (by kernel_rfl) h; cases h)
def ms8 : List (FuncId × Mode U) := (90, qaI_md) :: ms7
theorem known8 : Known kk env0 (modesOf ms8) := known_cons (by kernel_rfl) qaI_post known7
def qaF_sh : StSh := ⟨⟨[0], [], []⟩, [.t (.int .i64)], []⟩
def qaF_os : List StSh := [⟨⟨[0], [], []⟩, [.t .bool], []⟩]
def qaF_tr : Bool → Tr (Nat × List (TV U)) := fun x => .ret (0, [⟨.bool, x⟩])
def qaF_enc : Nat → List (TV U) → Option (Bool)
  | 0, [⟨.bool, a0⟩] => some a0
  | _, _ => none
def qaF_dec : Bool → Nat × List (TV U) := fun x => (0, [⟨.bool, x⟩])
def qaF_in : List (TV U) → Option (Bool)
  | [⟨(.int .i64), a0⟩] => qaF a0
  | _ => none
def qaF_md : Mode U := ⟨qaF_sh, [], qaF_os, fun ls => .get (qaF_in ls) qaF_tr⟩
theorem qaF_post : ModeOk kk env0 103 qaF_md :=
  fn_of (fn := Tryz.f103) qaF_enc qaF_dec (kitOk_of eqOk mixed known8) (by kernel_rfl) (L := noL) (loopsOk_of (bs := []) (by kernel_rfl) trivial) (fun _ => rfl) (by intro i qs r h; unfold qaF_enc at h; split at h <;> cases h <;> rfl)
    (by intro ls r h; unfold qaF_in at h; split at h; rw [qaF, sealF_eq] at h; exact Eq.trans (by kernel_rfl) h; cases h)
def ms9 : List (FuncId × Mode U) := (103, qaF_md) :: ms8
theorem known9 : Known kk env0 (modesOf ms9) := known_cons (by kernel_rfl) qaF_post known8
def qaq_sh3 : StSh := ⟨⟨[0, 3, 7], [7], []⟩, [.t .str, .t .bool, .ptr 7 0], [.sit]⟩
def qaq_o3 : List Out := [⟨.ret, ⟨⟨[2], [], []⟩, [.t (.int .i64)], []⟩⟩, ⟨.exit 0, ⟨⟨[0], [], []⟩, [.t .str], []⟩⟩]
def qaq_b3 : Code := (nthLoop (bodyOf Tryz.f91) 0)
def qaq_rec3 (rec : List UInt8 → Bool → List UInt8 → Nat → Option ((Int) ⊕ ((List UInt8)))) : List (TV U) → Option ((Int) ⊕ ((List UInt8)))
  | [⟨.str, a0⟩, ⟨.bool, a1⟩, ⟨.str, a2⟩, ⟨.fn, a3⟩] => rec a0 a1 a2 a3
  | _ => none
def qaq_enc3 : Nat → List (TV U) → Option ((Int) ⊕ ((List UInt8)))
  | 0, [⟨(.int .i64), a0⟩] => some (.inl a0)
  | 1, [⟨.str, a0⟩] => some (.inr a0)
  | _, _ => none
def qaq_dec3 : (Int) ⊕ ((List UInt8)) → Nat × List (TV U) := fun r => match r with | (.inl x) => (0, [⟨(.int .i64), x⟩]) | (.inr x) => (1, [⟨.str, x⟩])
def qaq_tr3 : (Int) ⊕ ((List UInt8)) → Tr (Nat × List (TV U)) := fun r => .alt r (fun x => .ret (0, [⟨(.int .i64), x⟩])) (fun y => (fun x => .ret (1, [⟨.str, x⟩])) y)
def qaq_lp3 : Lift.Loop U := ⟨qaq_sh3, qaq_o3, fun ls => .get (qaq_rec3 qaq_l3 ls) qaq_tr3⟩
theorem qaq_ok3 : LoopR kk env0 Tryz.f91.ntmps qaq_b3 qaq_lp3 :=
  loop_of qaq_enc3 qaq_dec3 (fun n => qaq_rec3 (qaq_i3 n)) (kitOk_of eqOk mixed known9) (L := noL) (loopsOk_of (bs := []) (by kernel_rfl) trivial) (by intro r; rcases r with r | r <;> rfl) (by intro i qs r h; unfold qaq_enc3 at h; split at h <;> cases h <;> rfl)
    (by intro ls r h; unfold qaq_rec3 at h; split at h <;> cases h)
    (by intro n ls r h; unfold qaq_rec3 at h; split at h; exact (show _ = qaq_t3 (qaq_i3 n) _ _ _ _ from by kernel_rfl).trans h; cases h) (by rw [qaq_l3, sealF_eq])
def qaq_sh : StSh := ⟨⟨[0], [], []⟩, [.t .str], []⟩
def qaq_os : List StSh := [⟨⟨[0], [], []⟩, [.t (.int .i64)], []⟩]
def qaq_tr : Int → Tr (Nat × List (TV U)) := fun x => .ret (0, [⟨(.int .i64), x⟩])
def qaq_L : Nat → Option (Lift.Loop U) := fun n => bif Nat.beq n 3 then some qaq_lp3 else none
def qaq_enc : Nat → List (TV U) → Option (Int)
  | 0, [⟨(.int .i64), a0⟩] => some a0
  | _, _ => none
def qaq_dec : Int → Nat × List (TV U) := fun x => (0, [⟨(.int .i64), x⟩])
def qaq_in : List (TV U) → Option (Int)
  | [⟨.str, a0⟩] => qaq a0
  | _ => none
def qaq_md : Mode U := ⟨qaq_sh, [], qaq_os, fun ls => .get (qaq_in ls) qaq_tr⟩
theorem qaq_post : ModeOk kk env0 91 qaq_md :=
  fn_of (fn := Tryz.f91) qaq_enc qaq_dec (kitOk_of eqOk mixed known9) (by kernel_rfl) (L := qaq_L) (loopsOk_of (bs := [qaq_b3]) (by kernel_rfl) ⟨.inr ⟨_, by kernel_rfl, LoopOk.of_round (qaq_ok3)⟩, trivial⟩) (fun _ => rfl) (by intro i qs r h; unfold qaq_enc at h; split at h <;> cases h <;> rfl)
    (by intro ls r h; unfold qaq_in at h; split at h; rw [qaq, sealF_eq] at h; exact Eq.trans (by kernel_rfl) h; cases h)
def ms10 : List (FuncId × Mode U) := (91, qaq_md) :: ms9
theorem known10 : Known kk env0 (modesOf ms10) := known_cons (by kernel_rfl) qaq_post known9
def qbw_sh : StSh := ⟨⟨[0], [], []⟩, [.t (.int .i32)], []⟩
def qbw_os : List StSh := [⟨⟨[0], [], []⟩, [.t .bool], []⟩]
def qbw_tr : Bool → Tr (Nat × List (TV U)) := fun x => .ret (0, [⟨.bool, x⟩])
def qbw_enc : Nat → List (TV U) → Option (Bool)
  | 0, [⟨.bool, a0⟩] => some a0
  | _, _ => none
def qbw_dec : Bool → Nat × List (TV U) := fun x => (0, [⟨.bool, x⟩])
def qbw_in : List (TV U) → Option (Bool)
  | [⟨(.int .i32), a0⟩] => qbw a0
  | _ => none
def qbw_md : Mode U := ⟨qbw_sh, [], qbw_os, fun ls => .get (qbw_in ls) qbw_tr⟩
theorem qbw_post : ModeOk kk env0 136 qbw_md :=
  fn_of (fn := Tryz.f136) qbw_enc qbw_dec (kitOk_of eqOk mixed known10) (by kernel_rfl) (L := noL) (loopsOk_of (bs := []) (by kernel_rfl) trivial) (fun _ => rfl) (by intro i qs r h; unfold qbw_enc at h; split at h <;> cases h <;> rfl)
    (by intro ls r h; unfold qbw_in at h; split at h; rw [qbw, sealF_eq] at h; exact Eq.trans (by kernel_rfl) h; cases h)
def ms11 : List (FuncId × Mode U) := (136, qbw_md) :: ms10
theorem known11 : Known kk env0 (modesOf ms11) := known_cons (by kernel_rfl) qbw_post known10
def qaK_sh : StSh := ⟨⟨[0], [], []⟩, [.t (.int .i64)], []⟩
def qaK_os : List StSh := [⟨⟨[0], [], []⟩, [.t .bool], []⟩]
def qaK_tr : Bool → Tr (Nat × List (TV U)) := fun x => .ret (0, [⟨.bool, x⟩])
def qaK_enc : Nat → List (TV U) → Option (Bool)
  | 0, [⟨.bool, a0⟩] => some a0
  | _, _ => none
def qaK_dec : Bool → Nat × List (TV U) := fun x => (0, [⟨.bool, x⟩])
def qaK_in : List (TV U) → Option (Bool)
  | [⟨(.int .i64), a0⟩] => qaK a0
  | _ => none
def qaK_md : Mode U := ⟨qaK_sh, [], qaK_os, fun ls => .get (qaK_in ls) qaK_tr⟩
theorem qaK_post : ModeOk kk env0 125 qaK_md :=
  fn_of (fn := Tryz.f125) qaK_enc qaK_dec (kitOk_of eqOk mixed known11) (by kernel_rfl) (L := noL) (loopsOk_of (bs := []) (by kernel_rfl) trivial) (fun _ => rfl) (by intro i qs r h; unfold qaK_enc at h; split at h <;> cases h <;> rfl)
    (by intro ls r h; unfold qaK_in at h; split at h; rw [qaK, sealF_eq] at h; exact Eq.trans (by kernel_rfl) h; cases h)
def ms12 : List (FuncId × Mode U) := (125, qaK_md) :: ms11
theorem known12 : Known kk env0 (modesOf ms12) := known_cons (by kernel_rfl) qaK_post known11
def qaH_sh : StSh := ⟨⟨[0], [], []⟩, [.t (.int .i64)], []⟩
def qaH_os : List StSh := [⟨⟨[0], [], []⟩, [.t .bool], []⟩]
def qaH_tr : Bool → Tr (Nat × List (TV U)) := fun x => .ret (0, [⟨.bool, x⟩])
def qaH_enc : Nat → List (TV U) → Option (Bool)
  | 0, [⟨.bool, a0⟩] => some a0
  | _, _ => none
def qaH_dec : Bool → Nat × List (TV U) := fun x => (0, [⟨.bool, x⟩])
def qaH_in : List (TV U) → Option (Bool)
  | [⟨(.int .i64), a0⟩] => qaH a0
  | _ => none
def qaH_md : Mode U := ⟨qaH_sh, [], qaH_os, fun ls => .get (qaH_in ls) qaH_tr⟩
theorem qaH_post : ModeOk kk env0 119 qaH_md :=
  fn_of (fn := Tryz.f119) qaH_enc qaH_dec (kitOk_of eqOk mixed known12) (by kernel_rfl) (L := noL) (loopsOk_of (bs := []) (by kernel_rfl) trivial) (fun _ => rfl) (by intro i qs r h; unfold qaH_enc at h; split at h <;> cases h <;> rfl)
    (by intro ls r h; unfold qaH_in at h; split at h; rw [qaH, sealF_eq] at h; exact Eq.trans (by kernel_rfl) h; cases h)
def ms13 : List (FuncId × Mode U) := (119, qaH_md) :: ms12
theorem known13 : Known kk env0 (modesOf ms13) := known_cons (by kernel_rfl) qaH_post known12
def qaG_sh : StSh := ⟨⟨[0], [], []⟩, [.t (.int .i64)], []⟩
def qaG_os : List StSh := [⟨⟨[0], [], []⟩, [.t .bool], []⟩]
def qaG_tr : Bool → Tr (Nat × List (TV U)) := fun x => .ret (0, [⟨.bool, x⟩])
def qaG_enc : Nat → List (TV U) → Option (Bool)
  | 0, [⟨.bool, a0⟩] => some a0
  | _, _ => none
def qaG_dec : Bool → Nat × List (TV U) := fun x => (0, [⟨.bool, x⟩])
def qaG_in : List (TV U) → Option (Bool)
  | [⟨(.int .i64), a0⟩] => qaG a0
  | _ => none
def qaG_md : Mode U := ⟨qaG_sh, [], qaG_os, fun ls => .get (qaG_in ls) qaG_tr⟩
theorem qaG_post : ModeOk kk env0 108 qaG_md :=
  fn_of (fn := Tryz.f108) qaG_enc qaG_dec (kitOk_of eqOk mixed known13) (by kernel_rfl) (L := noL) (loopsOk_of (bs := []) (by kernel_rfl) trivial) (fun _ => rfl) (by intro i qs r h; unfold qaG_enc at h; split at h <;> cases h <;> rfl)
    (by intro ls r h; unfold qaG_in at h; split at h; rw [qaG, sealF_eq] at h; exact Eq.trans (by kernel_rfl) h; cases h)
def ms14 : List (FuncId × Mode U) := (108, qaG_md) :: ms13
theorem known14 : Known kk env0 (modesOf ms14) := known_cons (by kernel_rfl) qaG_post known13
def qao_sh : StSh := ⟨⟨[0], [], []⟩, [.t (.int .i32)], []⟩
def qao_os : List StSh := [⟨⟨[0], [], []⟩, [.t .bool], []⟩]
def qao_tr : Bool → Tr (Nat × List (TV U)) := fun x => .ret (0, [⟨.bool, x⟩])
def qao_enc : Nat → List (TV U) → Option (Bool)
  | 0, [⟨.bool, a0⟩] => some a0
  | _, _ => none
def qao_dec : Bool → Nat × List (TV U) := fun x => (0, [⟨.bool, x⟩])
def qao_in : List (TV U) → Option (Bool)
  | [⟨(.int .i32), a0⟩] => qao a0
  | _ => none
def qao_md : Mode U := ⟨qao_sh, [], qao_os, fun ls => .get (qao_in ls) qao_tr⟩
theorem qao_post : ModeOk kk env0 105 qao_md :=
  fn_of (fn := Tryz.f105) qao_enc qao_dec (kitOk_of eqOk mixed known14) (by kernel_rfl) (L := noL) (loopsOk_of (bs := []) (by kernel_rfl) trivial) (fun _ => rfl) (by intro i qs r h; unfold qao_enc at h; split at h <;> cases h <;> rfl)
    (by intro ls r h; unfold qao_in at h; split at h; rw [qao, sealF_eq] at h; exact Eq.trans (by kernel_rfl) h; cases h)
def ms15 : List (FuncId × Mode U) := (105, qao_md) :: ms14
theorem known15 : Known kk env0 (modesOf ms15) := known_cons (by kernel_rfl) qao_post known14
def qaW_sh2 : StSh := ⟨⟨[0, 1, 7, 8], [], []⟩, [.t (.slc .str), .t .str, .t (.int .i64), .t (.int .i64)], []⟩
def qaW_o2 : List Out := [⟨.ret, ⟨⟨[4], [], []⟩, [.t (.int .i64)], []⟩⟩, ⟨.exit 0, ⟨⟨[], [], []⟩, [], []⟩⟩]
def qaW_b2 : Code := (nthLoop (bodyOf Tryz.f123) 0)
def qaW_rec2 (rec : List (List UInt8) → List UInt8 → Int → Int → Option ((Int) ⊕ (Unit))) : List (TV U) → Option ((Int) ⊕ (Unit))
  | [⟨(.slc .str), a0⟩, ⟨.str, a1⟩, ⟨(.int .i64), a2⟩, ⟨(.int .i64), a3⟩] => rec a0 a1 a2 a3
  | _ => none
def qaW_enc2 : Nat → List (TV U) → Option ((Int) ⊕ (Unit))
  | 0, [⟨(.int .i64), a0⟩] => some (.inl a0)
  | 1, [] => some (.inr ())
  | _, _ => none
def qaW_dec2 : (Int) ⊕ (Unit) → Nat × List (TV U) := fun r => match r with | (.inl x) => (0, [⟨(.int .i64), x⟩]) | (.inr x) => (1, [])
def qaW_tr2 : (Int) ⊕ (Unit) → Tr (Nat × List (TV U)) := fun r => .alt r (fun x => .ret (0, [⟨(.int .i64), x⟩])) (fun y => (fun x => .ret (1, [])) y)
def qaW_lp2 : Lift.Loop U := ⟨qaW_sh2, qaW_o2, fun ls => .get (qaW_rec2 qaW_l2 ls) qaW_tr2⟩
theorem qaW_ok2 : LoopR kk env0 Tryz.f123.ntmps qaW_b2 qaW_lp2 :=
  loop_of qaW_enc2 qaW_dec2 (fun n => qaW_rec2 (qaW_i2 n)) (kitOk_of eqOk mixed known15) (L := noL) (loopsOk_of (bs := []) (by kernel_rfl) trivial) (by intro r; rcases r with r | r <;> rfl) (by intro i qs r h; unfold qaW_enc2 at h; split at h <;> cases h <;> rfl)
    (by intro ls r h; unfold qaW_rec2 at h; split at h <;> cases h)
    (by intro n ls r h; unfold qaW_rec2 at h; split at h; exact (show _ = qaW_t2 (qaW_i2 n) _ _ _ _ from by kernel_rfl).trans h; cases h) (by rw [qaW_l2, sealF_eq])
def qaW_sh : StSh := ⟨⟨[0, 1], [], []⟩, [.t (.slc .str), .t .str], []⟩
def qaW_os : List StSh := [⟨⟨[0], [], []⟩, [.t (.int .i64)], []⟩]
def qaW_tr : Int → Tr (Nat × List (TV U)) := fun x => .ret (0, [⟨(.int .i64), x⟩])
def qaW_L : Nat → Option (Lift.Loop U) := fun n => bif Nat.beq n 2 then some qaW_lp2 else none
def qaW_enc : Nat → List (TV U) → Option (Int)
  | 0, [⟨(.int .i64), a0⟩] => some a0
  | _, _ => none
def qaW_dec : Int → Nat × List (TV U) := fun x => (0, [⟨(.int .i64), x⟩])
def qaW_in : List (TV U) → Option (Int)
  | [⟨(.slc .str), a0⟩, ⟨.str, a1⟩] => qaW a0 a1
  | _ => none
def qaW_md : Mode U := ⟨qaW_sh, [], qaW_os, fun ls => .get (qaW_in ls) qaW_tr⟩
theorem qaW_post : ModeOk kk env0 123 qaW_md :=
  fn_of (fn := Tryz.f123) qaW_enc qaW_dec (kitOk_of eqOk mixed known15) (by kernel_rfl) (L := qaW_L) (loopsOk_of (bs := [qaW_b2]) (by kernel_rfl) ⟨.inr ⟨_, by kernel_rfl, LoopOk.of_round (qaW_ok2)⟩, trivial⟩) (fun _ => rfl) (by intro i qs r h; unfold qaW_enc at h; split at h <;> cases h <;> rfl)
    (by intro ls r h; unfold qaW_in at h; split at h; rw [qaW, sealF_eq] at h; exact Eq.trans (by kernel_rfl) h; cases h)
def ms16 : List (FuncId × Mode U) := (123, qaW_md) :: ms15
theorem known16 : Known kk env0 (modesOf ms16) := known_cons (by kernel_rfl) qaW_post known15
def qaQ_sh : StSh := ⟨⟨[0, 1], [], []⟩, [.t (.slc .str), .t .str], []⟩
def qaQ_os : List StSh := [⟨⟨[0], [], []⟩, [.t .bool], []⟩]
def qaQ_tr : Bool → Tr (Nat × List (TV U)) := fun x => .ret (0, [⟨.bool, x⟩])
def qaQ_enc : Nat → List (TV U) → Option (Bool)
  | 0, [⟨.bool, a0⟩] => some a0
  | _, _ => none
def qaQ_dec : Bool → Nat × List (TV U) := fun x => (0, [⟨.bool, x⟩])
def qaQ_in : List (TV U) → Option (Bool)
  | [⟨(.slc .str), a0⟩, ⟨.str, a1⟩] => qaQ a0 a1
  | _ => none
def qaQ_md : Mode U := ⟨qaQ_sh, [], qaQ_os, fun ls => .get (qaQ_in ls) qaQ_tr⟩
theorem qaQ_post : ModeOk kk env0 110 qaQ_md :=
  fn_of (fn := Tryz.f110) qaQ_enc qaQ_dec (kitOk_of eqOk mixed known16) (by kernel_rfl) (L := noL) (loopsOk_of (bs := []) (by kernel_rfl) trivial) (fun _ => rfl) (by intro i qs r h; unfold qaQ_enc at h; split at h <;> cases h <;> rfl)
    (by intro ls r h; unfold qaQ_in at h; split at h; rw [qaQ, sealF_eq] at h; exact Eq.trans (by kernel_rfl) h; cases h)
def ms17 : List (FuncId × Mode U) := (110, qaQ_md) :: ms16
theorem known17 : Known kk env0 (modesOf ms17) := known_cons (by kernel_rfl) qaQ_post known16
def qar_sh : StSh := ⟨⟨[0], [], []⟩, [.t .str], []⟩
def qar_os : List StSh := [⟨⟨[0], [], []⟩, [.t .str], []⟩]
def qar_tr : (List UInt8) → Tr (Nat × List (TV U)) := fun x => .ret (0, [⟨.str, x⟩])
def qar_enc : Nat → List (TV U) → Option ((List UInt8))
  | 0, [⟨.str, a0⟩] => some a0
  | _, _ => none
def qar_dec : (List UInt8) → Nat × List (TV U) := fun x => (0, [⟨.str, x⟩])
def qar_in : List (TV U) → Option ((List UInt8))
  | [⟨.str, a0⟩] => qar a0
  | _ => none
def qar_md : Mode U := ⟨qar_sh, [], qar_os, fun ls => .get (qar_in ls) qar_tr⟩
theorem qar_post : ModeOk kk env0 106 qar_md :=
  fn_of (fn := Tryz.f106) qar_enc qar_dec (kitOk_of eqOk mixed known17) (by kernel_rfl) (L := noL) (loopsOk_of (bs := []) (by kernel_rfl) trivial) (fun _ => rfl) (by intro i qs r h; unfold qar_enc at h; split at h <;> cases h <;> rfl)
    (by intro ls r h; unfold qar_in at h; split at h; rw [qar, sealF_eq] at h; exact Eq.trans (by kernel_rfl) h; cases h)
def ms18 : List (FuncId × Mode U) := (106, qar_md) :: ms17
theorem known18 : Known kk env0 (modesOf ms18) := known_cons (by kernel_rfl) qar_post known17
def qat_sh2 : StSh := ⟨⟨[0, 6], [6], []⟩, [.t .str, .ptr 6 0], [.sit]⟩
def qat_o2 : List Out := [⟨.ret, ⟨⟨[2], [], []⟩, [.t .str], []⟩⟩, ⟨.exit 0, ⟨⟨[0], [], []⟩, [.t .str], []⟩⟩]
def qat_b2 : Code := (nthLoop (bodyOf Tryz.f107) 0)
def qat_rec2 (rec : List UInt8 → List UInt8 → Nat → Option (((List UInt8)) ⊕ ((List UInt8)))) : List (TV U) → Option (((List UInt8)) ⊕ ((List UInt8)))
  | [⟨.str, a0⟩, ⟨.str, a1⟩, ⟨.fn, a2⟩] => rec a0 a1 a2
  | _ => none
def qat_enc2 : Nat → List (TV U) → Option (((List UInt8)) ⊕ ((List UInt8)))
  | 0, [⟨.str, a0⟩] => some (.inl a0)
  | 1, [⟨.str, a0⟩] => some (.inr a0)
  | _, _ => none
def qat_dec2 : ((List UInt8)) ⊕ ((List UInt8)) → Nat × List (TV U) := fun r => match r with | (.inl x) => (0, [⟨.str, x⟩]) | (.inr x) => (1, [⟨.str, x⟩])
def qat_tr2 : ((List UInt8)) ⊕ ((List UInt8)) → Tr (Nat × List (TV U)) := fun r => .alt r (fun x => .ret (0, [⟨.str, x⟩])) (fun y => (fun x => .ret (1, [⟨.str, x⟩])) y)
def qat_lp2 : Lift.Loop U := ⟨qat_sh2, qat_o2, fun ls => .get (qat_rec2 qat_l2 ls) qat_tr2⟩
theorem qat_ok2 : LoopR kk env0 Tryz.f107.ntmps qat_b2 qat_lp2 :=
  loop_of qat_enc2 qat_dec2 (fun n => qat_rec2 (qat_i2 n)) (kitOk_of eqOk mixed known18) (L := noL) (loopsOk_of (bs := []) (by kernel_rfl) trivial) (by intro r; rcases r with r | r <;> rfl) (by intro i qs r h; unfold qat_enc2 at h; split at h <;> cases h <;> rfl)
    (by intro ls r h; unfold qat_rec2 at h; split at h <;> cases h)
    (by intro n ls r h; unfold qat_rec2 at h; split at h; exact (show _ = qat_t2 (qat_i2 n) _ _ _ from by kernel_rfl).trans h; cases h) (by rw [qat_l2, sealF_eq])
def qat_sh : StSh := ⟨⟨[0], [], []⟩, [.t .str], []⟩
def qat_os : List StSh := [⟨⟨[0], [], []⟩, [.t .str], []⟩]
def qat_tr : (List UInt8) → Tr (Nat × List (TV U)) := fun x => .ret (0, [⟨.str, x⟩])
def qat_L : Nat → Option (Lift.Loop U) := fun n => bif Nat.beq n 2 then some qat_lp2 else none
def qat_enc : Nat → List (TV U) → Option ((List UInt8))
  | 0, [⟨.str, a0⟩] => some a0
  | _, _ => none
def qat_dec : (List UInt8) → Nat × List (TV U) := fun x => (0, [⟨.str, x⟩])
def qat_in : List (TV U) → Option ((List UInt8))
  | [⟨.str, a0⟩] => qat a0
  | _ => none
def qat_md : Mode U := ⟨qat_sh, [], qat_os, fun ls => .get (qat_in ls) qat_tr⟩
theorem qat_post : ModeOk kk env0 107 qat_md :=
  fn_of (fn := Tryz.f107) qat_enc qat_dec (kitOk_of eqOk mixed known18) (by kernel_rfl) (L := qat_L) (loopsOk_of (bs := [qat_b2]) (by kernel_rfl) ⟨.inr ⟨_, by kernel_rfl, LoopOk.of_round (qat_ok2)⟩, trivial⟩) (fun _ => rfl) (by intro i qs r h; unfold qat_enc at h; split at h <;> cases h <;> rfl)
    (by intro ls r h; unfold qat_in at h; split at h; rw [qat, sealF_eq] at h; exact Eq.trans (by kernel_rfl) h; cases h)
def ms19 : List (FuncId × Mode U) := (107, qat_md) :: ms18
theorem known19 : Known kk env0 (modesOf ms19) := known_cons (by kernel_rfl) qat_post known18
def qap_sh : StSh := ⟨⟨[0], [], []⟩, [.t .str], []⟩
def qap_os : List StSh := [⟨⟨[0, 1], [], []⟩, [.t (.int .i64), .t .bool], []⟩]
def qap_tr : Int × Bool → Tr (Nat × List (TV U)) := fun x => .ret (0, [⟨(.int .i64), x.1⟩, ⟨.bool, x.2⟩])
def qap_enc : Nat → List (TV U) → Option (Int × Bool)
  | 0, [⟨(.int .i64), a0⟩, ⟨.bool, a1⟩] => some (a0, a1)
  | _, _ => none
def qap_dec : Int × Bool → Nat × List (TV U) := fun x => (0, [⟨(.int .i64), x.1⟩, ⟨.bool, x.2⟩])
def qap_in : List (TV U) → Option (Int × Bool)
  | [⟨.str, a0⟩] => qap a0
  | _ => none
def qap_md : Mode U := ⟨qap_sh, [], qap_os, fun ls => .get (qap_in ls) qap_tr⟩
theorem qap_post : ModeOk kk env0 109 qap_md :=
  fn_of (fn := Tryz.f109) qap_enc qap_dec (kitOk_of eqOk mixed known19) (by kernel_rfl) (L := noL) (loopsOk_of (bs := []) (by kernel_rfl) trivial) (fun _ => rfl) (by intro i qs r h; unfold qap_enc at h; split at h <;> cases h <;> rfl)
    (by intro ls r h; unfold qap_in at h; split at h; rw [qap, sealF_eq] at h; exact Eq.trans (by kernel_rfl) h; cases h)
def ms20 : List (FuncId × Mode U) := (109, qap_md) :: ms19
theorem known20 : Known kk env0 (modesOf ms20) := known_cons (by kernel_rfl) qap_post known19
def qan_sh : StSh := ⟨⟨[], [], []⟩, [], []⟩
def qan_os : List StSh := [⟨⟨[0], [], [⟨.slot 0, 100000, 9, .str⟩]⟩, [.oslc 100000], [.row 9 .str]⟩]
def qan_tr : (List (List UInt8)) → Tr (Nat × List (TV U)) := fun x => .ret (0, [⟨(.slc .str), x⟩])
def qan_enc : Nat → List (TV U) → Option ((List (List UInt8)))
  | 0, [⟨(.slc .str), a0⟩] => some a0
  | _, _ => none
def qan_dec : (List (List UInt8)) → Nat × List (TV U) := fun x => (0, [⟨(.slc .str), x⟩])
def qan_in : List (TV U) → Option ((List (List UInt8)))
  | [] => qan
  | _ => none
def qan_md : Mode U := ⟨qan_sh, [], qan_os, fun ls => .get (qan_in ls) qan_tr⟩
theorem qan_post : ModeOk kk env0 111 qan_md :=
  fn_of (fn := Tryz.f111) qan_enc qan_dec (kitOk_of eqOk mixed known20) (by kernel_rfl) (L := noL) (loopsOk_of (bs := []) (by kernel_rfl) trivial) (fun _ => rfl) (by intro i qs r h; unfold qan_enc at h; split at h <;> cases h <;> rfl)
    (by intro ls r h; unfold qan_in at h; split at h; rw [qan, sealF_eq] at h; exact Eq.trans (by kernel_rfl) h; cases h)
def ms21 : List (FuncId × Mode U) := (111, qan_md) :: ms20
theorem known21 : Known kk env0 (modesOf ms21) := known_cons (by kernel_rfl) qan_post known20
def qas_sh : StSh := ⟨⟨[0], [], []⟩, [.t .str], []⟩
def qas_os : List StSh := [⟨⟨[0, 1], [], []⟩, [.t (.st 94), .t (.int .i64)], []⟩]
def qas_tr : Token × Int → Tr (Nat × List (TV U)) := fun x => .ret (0, [⟨(.st 94), x.1⟩, ⟨(.int .i64), x.2⟩])
def qas_enc : Nat → List (TV U) → Option (Token × Int)
  | 0, [⟨(.st 94), a0⟩, ⟨(.int .i64), a1⟩] => some (a0, a1)
  | _, _ => none
def qas_dec : Token × Int → Nat × List (TV U) := fun x => (0, [⟨(.st 94), x.1⟩, ⟨(.int .i64), x.2⟩])
def qas_in : List (TV U) → Option (Token × Int)
  | [⟨.str, a0⟩] => qas a0
  | _ => none
def qas_md : Mode U := ⟨qas_sh, [], qas_os, fun ls => .get (qas_in ls) qas_tr⟩
theorem qas_post : ModeOk kk env0 92 qas_md :=
  fn_of (fn := Tryz.f92) qas_enc qas_dec (kitOk_of eqOk mixed known21) (by kernel_rfl) (L := noL) (loopsOk_of (bs := []) (by kernel_rfl) trivial) (fun _ => rfl) (by intro i qs r h; unfold qas_enc at h; split at h <;> cases h <;> rfl)
    (by intro ls r h; unfold qas_in at h; split at h; rw [qas, sealF_eq] at h; exact Eq.trans (by kernel_rfl) h; cases h)
def ms22 : List (FuncId × Mode U) := (92, qas_md) :: ms21
theorem known22 : Known kk env0 (modesOf ms22) := known_cons (by kernel_rfl) qas_post known21
def qam_sh6 : StSh := ⟨⟨[0, 3, 6, 7], [3], [⟨.slot 6, 6, 94, (.st 94)⟩]⟩, [.t .str, .ptr 3 0, .oslc 6, .t (.int .i64)], [.blk 90 [.t (.int .i64), .t (.int .i64), .t .str], .row 94 (.st 94)]⟩
def qam_o6 : List Out := [⟨.ret, ⟨⟨[2, 3], [3], []⟩, [.nil, .ptr 3 0], [.blk 90 [.t (.int .i64), .t (.int .i64), .t .str]]⟩⟩, ⟨.exit 0, ⟨⟨[0, 3, 6], [3], [⟨.slot 6, 6, 94, (.st 94)⟩]⟩, [.t .str, .ptr 3 0, .oslc 6], [.blk 90 [.t (.int .i64), .t (.int .i64), .t .str], .row 94 (.st 94)]⟩⟩]
def qam_b6 : Code := (nthLoop (bodyOf Tryz.f78) 0)
def qam_rec6 (rec : List UInt8 → Int → Int → Int → List UInt8 → List (Token) → Option ((Int × Int × (List UInt8)) ⊕ ((List UInt8) × Int × Int × (List UInt8) × (List (Token))))) : List (TV U) → Option ((Int × Int × (List UInt8)) ⊕ ((List UInt8) × Int × Int × (List UInt8) × (List (Token))))
  | [⟨.str, a0⟩, ⟨(.int .i64), a1⟩, ⟨(.int .i64), a2⟩, ⟨(.int .i64), a3⟩, ⟨.str, a4⟩, ⟨(.slc (.st 94)), a5⟩] => rec a0 a1 a2 a3 a4 a5
  | _ => none
def qam_enc6 : Nat → List (TV U) → Option ((Int × Int × (List UInt8)) ⊕ ((List UInt8) × Int × Int × (List UInt8) × (List (Token))))
  | 0, [⟨(.int .i64), a0⟩, ⟨(.int .i64), a1⟩, ⟨.str, a2⟩] => some (.inl (a0, a1, a2))
  | 1, [⟨.str, a0⟩, ⟨(.int .i64), a1⟩, ⟨(.int .i64), a2⟩, ⟨.str, a3⟩, ⟨(.slc (.st 94)), a4⟩] => some (.inr (a0, a1, a2, a3, a4))
  | _, _ => none
def qam_dec6 : (Int × Int × (List UInt8)) ⊕ ((List UInt8) × Int × Int × (List UInt8) × (List (Token))) → Nat × List (TV U) := fun r => match r with | (.inl x) => (0, [⟨(.int .i64), x.1⟩, ⟨(.int .i64), x.2.1⟩, ⟨.str, x.2.2⟩]) | (.inr x) => (1, [⟨.str, x.1⟩, ⟨(.int .i64), x.2.1⟩, ⟨(.int .i64), x.2.2.1⟩, ⟨.str, x.2.2.2.1⟩, ⟨(.slc (.st 94)), x.2.2.2.2⟩])
def qam_tr6 : (Int × Int × (List UInt8)) ⊕ ((List UInt8) × Int × Int × (List UInt8) × (List (Token))) → Tr (Nat × List (TV U)) := fun r => .alt r (fun x => .ret (0, [⟨(.int .i64), x.1⟩, ⟨(.int .i64), x.2.1⟩, ⟨.str, x.2.2⟩])) (fun y => (fun x => .ret (1, [⟨.str, x.1⟩, ⟨(.int .i64), x.2.1⟩, ⟨(.int .i64), x.2.2.1⟩, ⟨.str, x.2.2.2.1⟩, ⟨(.slc (.st 94)), x.2.2.2.2⟩])) y)
def qam_lp6 : Lift.Loop U := ⟨qam_sh6, qam_o6, fun ls => .get (qam_rec6 qam_l6 ls) qam_tr6⟩
theorem qam_ok6 : LoopR kk env0 Tryz.f78.ntmps qam_b6 qam_lp6 :=
  loop_of qam_enc6 qam_dec6 (fun n => qam_rec6 (qam_i6 n)) (kitOk_of eqOk mixed known22) (L := noL) (loopsOk_of (bs := []) (by kernel_rfl) trivial) (by intro r; rcases r with r | r <;> rfl) (by intro i qs r h; unfold qam_enc6 at h; split at h <;> cases h <;> rfl)
    (by intro ls r h; unfold qam_rec6 at h; split at h <;> cases h)
    (by intro n ls r h; unfold qam_rec6 at h; split at h; exact (show _ = qam_t6 (qam_i6 n) _ _ _ _ _ _ from by kernel_rfl).trans h; cases h) (by rw [qam_l6, sealF_eq])
def qam_sh : StSh := ⟨⟨[0], [], []⟩, [.t .str], []⟩
def qam_os : List StSh := [⟨⟨[0, 1], [], [⟨.slot 0, 100000, 94, (.st 94)⟩]⟩, [.oslc 100000, .t (.st 90)], [.row 94 (.st 94)]⟩]
def qam_tr : Fault × (List (Token)) → Tr (Nat × List (TV U)) := fun x => .ret (0, [⟨(.st 90), x.1⟩, ⟨(.slc (.st 94)), x.2⟩])
def qam_L : Nat → Option (Lift.Loop U) := fun n => bif Nat.beq n 6 then some qam_lp6 else none
def qam_enc : Nat → List (TV U) → Option (Fault × (List (Token)))
  | 0, [⟨(.st 90), a0⟩, ⟨(.slc (.st 94)), a1⟩] => some (a0, a1)
  | _, _ => none
def qam_dec : Fault × (List (Token)) → Nat × List (TV U) := fun x => (0, [⟨(.st 90), x.1⟩, ⟨(.slc (.st 94)), x.2⟩])
def qam_in : List (TV U) → Option (Fault × (List (Token)))
  | [⟨.str, a0⟩] => qam a0
  | _ => none
def qam_md : Mode U := ⟨qam_sh, [], qam_os, fun ls => .get (qam_in ls) qam_tr⟩
theorem qam_post : ModeOk kk env0 78 qam_md :=
  fn_of (fn := Tryz.f78) qam_enc qam_dec (kitOk_of eqOk mixed known22) (by kernel_rfl) (L := qam_L) (loopsOk_of (bs := [qam_b6]) (by kernel_rfl) ⟨.inr ⟨_, by kernel_rfl, LoopOk.of_round (qam_ok6)⟩, trivial⟩) (fun _ => rfl) (by intro i qs r h; unfold qam_enc at h; split at h <;> cases h <;> rfl)
    (by intro ls r h; unfold qam_in at h; split at h; rw [qam, sealF_eq] at h; exact Eq.trans (by kernel_rfl) h; cases h)
def ms23 : List (FuncId × Mode U) := (78, qam_md) :: ms22
theorem known23 : Known kk env0 (modesOf ms23) := known_cons (by kernel_rfl) qam_post known22
def qbl_sh : StSh := ⟨⟨[0], [], []⟩, [.t .str], []⟩
def qbl_os : List StSh := [⟨⟨[0], [], []⟩, [.t .bool], []⟩]
def qbl_tr : Bool → Tr (Nat × List (TV U)) := fun x => .ret (0, [⟨.bool, x⟩])
def qbl_enc : Nat → List (TV U) → Option (Bool)
  | 0, [⟨.bool, a0⟩] => some a0
  | _, _ => none
def qbl_dec : Bool → Nat × List (TV U) := fun x => (0, [⟨.bool, x⟩])
def qbl_in : List (TV U) → Option (Bool)
  | [⟨.str, a0⟩] => qbl a0
  | _ => none
def qbl_md : Mode U := ⟨qbl_sh, [], qbl_os, fun ls => .get (qbl_in ls) qbl_tr⟩
theorem qbl_post : ModeOk kk env0 58 qbl_md :=
  fn_of (fn := Tryz.f58) qbl_enc qbl_dec (kitOk_of eqOk mixed known23) (by kernel_rfl) (L := jnL) (loopsOk_of (bs := []) (by kernel_rfl) trivial) (fun _ => rfl) (by intro i qs r h; unfold qbl_enc at h; split at h <;> cases h <;> rfl)
    (by intro ls r h; unfold qbl_in at h; split at h; rw [qbl, sealF_eq] at h; exact Eq.trans (by kernel_rfl) h; cases h)
def ms24 : List (FuncId × Mode U) := (58, qbl_md) :: ms23
theorem known24 : Known kk env0 (modesOf ms24) := known_cons (by kernel_rfl) qbl_post known23
def qbt_sh : StSh := ⟨⟨[], [], []⟩, [], []⟩
def qbt_os : List StSh := [⟨⟨[0], [], []⟩, [.t (.map (.int .i64) (.st 96))], []⟩]
def qbt_tr : (List ((Int) × (Shape))) → Tr (Nat × List (TV U)) := fun x => .ret (0, [⟨(.map (.int .i64) (.st 96)), x⟩])
def qbt_enc : Nat → List (TV U) → Option ((List ((Int) × (Shape))))
  | 0, [⟨(.map (.int .i64) (.st 96)), a0⟩] => some a0
  | _, _ => none
def qbt_dec : (List ((Int) × (Shape))) → Nat × List (TV U) := fun x => (0, [⟨(.map (.int .i64) (.st 96)), x⟩])
def qbt_in : List (TV U) → Option ((List ((Int) × (Shape))))
  | [] => qbt
  | _ => none
def qbt_md : Mode U := ⟨qbt_sh, [], qbt_os, fun ls => .get (qbt_in ls) qbt_tr⟩
theorem qbt_post : ModeOk kk env0 79 qbt_md :=
  fn_of (fn := Tryz.f79) qbt_enc qbt_dec (kitOk_of eqOk mixed known24) (by kernel_rfl) (L := jnL) (loopsOk_of (bs := []) (by kernel_rfl) trivial) (fun _ => rfl) (by intro i qs r h; unfold qbt_enc at h; split at h <;> cases h <;> rfl)
    (by intro ls r h; unfold qbt_in at h; split at h; rw [qbt, sealF_eq] at h; exact Eq.trans (by kernel_rfl) h; cases h)
def ms25 : List (FuncId × Mode U) := (79, qbt_md) :: ms24
theorem known25 : Known kk env0 (modesOf ms25) := known_cons (by kernel_rfl) qbt_post known24
def qbk_sh : StSh := ⟨⟨[0, 1], [], []⟩, [.t .str, .t .bool], []⟩
def qbk_os : List StSh := [⟨⟨[0], [], []⟩, [.t .bool], []⟩]
def qbk_tr : Bool → Tr (Nat × List (TV U)) := fun x => .ret (0, [⟨.bool, x⟩])
def qbk_enc : Nat → List (TV U) → Option (Bool)
  | 0, [⟨.bool, a0⟩] => some a0
  | _, _ => none
def qbk_dec : Bool → Nat × List (TV U) := fun x => (0, [⟨.bool, x⟩])
def qbk_in : List (TV U) → Option (Bool)
  | [⟨.str, a0⟩, ⟨.bool, a1⟩] => qbk a0 a1
  | _ => none
def qbk_md : Mode U := ⟨qbk_sh, [], qbk_os, fun ls => .get (qbk_in ls) qbk_tr⟩
theorem qbk_post : ModeOk kk env0 80 qbk_md :=
  fn_of (fn := Tryz.f80) qbk_enc qbk_dec (kitOk_of eqOk mixed known25) (by kernel_rfl) (L := jnL) (loopsOk_of (bs := []) (by kernel_rfl) trivial) (fun _ => rfl) (by intro i qs r h; unfold qbk_enc at h; split at h <;> cases h <;> rfl)
    (by intro ls r h; unfold qbk_in at h; split at h; rw [qbk, sealF_eq] at h; exact Eq.trans (by kernel_rfl) h; cases h)
def ms26 : List (FuncId × Mode U) := (80, qbk_md) :: ms25
theorem known26 : Known kk env0 (modesOf ms26) := known_cons (by kernel_rfl) qbk_post known25
def qbu_sh : StSh := ⟨⟨[0], [], []⟩, [.t (.st 43)], []⟩
def qbu_os : List StSh := [⟨⟨[0], [], []⟩, [.t .bool], []⟩]
def qbu_tr : Bool → Tr (Nat × List (TV U)) := fun x => .ret (0, [⟨.bool, x⟩])
def qbu_enc : Nat → List (TV U) → Option (Bool)
  | 0, [⟨.bool, a0⟩] => some a0
  | _, _ => none
def qbu_dec : Bool → Nat × List (TV U) := fun x => (0, [⟨.bool, x⟩])
def qbu_in : List (TV U) → Option (Bool)
  | [⟨(.st 43), a0⟩] => qbu a0
  | _ => none
def qbu_md : Mode U := ⟨qbu_sh, [], qbu_os, fun ls => .get (qbu_in ls) qbu_tr⟩
theorem qbu_post : ModeOk kk env0 60 qbu_md :=
  fn_of (fn := Tryz.f60) qbu_enc qbu_dec (kitOk_of eqOk mixed known26) (by kernel_rfl) (L := jnL) (loopsOk_of (bs := []) (by kernel_rfl) trivial) (fun _ => rfl) (by intro i qs r h; unfold qbu_enc at h; split at h <;> cases h <;> rfl)
    (by intro ls r h; unfold qbu_in at h; split at h; rw [qbu, sealF_eq] at h; exact Eq.trans (by kernel_rfl) h; cases h)
def ms27 : List (FuncId × Mode U) := (60, qbu_md) :: ms26
theorem known27 : Known kk env0 (modesOf ms27) := known_cons (by kernel_rfl) qbu_post known26
def qbi_sh : StSh := ⟨⟨[0, 1, 2], [100000], []⟩, [.t (.st 43), .t (.int .i64), .ptr 100000 0], [.blk 4 [.t .bool]]⟩
def qbi_os : List StSh := [⟨⟨[], [100000], []⟩, [], [.blk 4 [.t .bool]]⟩]
def qbi_tr : Bool → Tr (Nat × List (TV U)) := fun x => .ret (0, [⟨.bool, x⟩])
def qbi_enc : Nat → List (TV U) → Option (Bool)
  | 0, [⟨.bool, a0⟩] => some a0
  | _, _ => none
def qbi_dec : Bool → Nat × List (TV U) := fun x => (0, [⟨.bool, x⟩])
def qbi_in : List (TV U) → Option (Bool)
  | [⟨(.st 43), a0⟩, ⟨(.int .i64), a1⟩, ⟨.bool, a2⟩] => qbi a0 a1 a2
  | _ => none
def qbi_md : Mode U := ⟨qbi_sh, [⟨100000, .slot 2, []⟩], qbi_os, fun ls => .get (qbi_in ls) qbi_tr⟩
theorem qbi_post : ModeOk kk env0 59 qbi_md :=
  fn_of (fn := Tryz.f59) qbi_enc qbi_dec (kitOk_of eqOk mixed known27) (by kernel_rfl) (L := jnL) (loopsOk_of (bs := []) (by kernel_rfl) trivial) (fun _ => rfl) (by intro i qs r h; unfold qbi_enc at h; split at h <;> cases h <;> rfl)
    (by intro ls r h; unfold qbi_in at h; split at h; rw [qbi, sealF_eq] at h; exact Eq.trans (by kernel_rfl) h; cases h)
def ms28 : List (FuncId × Mode U) := (59, qbi_md) :: ms27
theorem known28 : Known kk env0 (modesOf ms28) := known_cons (by kernel_rfl) qbi_post known27
def qbg_sh : StSh := ⟨⟨[0], [], []⟩, [.t (.st 41)], []⟩
def qbg_os : List StSh := [⟨⟨[0], [], []⟩, [.t .bool], []⟩]
def qbg_tr : Bool → Tr (Nat × List (TV U)) := fun x => .ret (0, [⟨.bool, x⟩])
def qbg_enc : Nat → List (TV U) → Option (Bool)
  | 0, [⟨.bool, a0⟩] => some a0
  | _, _ => none
def qbg_dec : Bool → Nat × List (TV U) := fun x => (0, [⟨.bool, x⟩])
def qbg_in : List (TV U) → Option (Bool)
  | [⟨(.st 41), a0⟩] => qbg a0
  | _ => none
def qbg_md : Mode U := ⟨qbg_sh, [], qbg_os, fun ls => .get (qbg_in ls) qbg_tr⟩
theorem qbg_post : ModeOk kk env0 62 qbg_md :=
  fn_of (fn := Tryz.f62) qbg_enc qbg_dec (kitOk_of eqOk mixed known28) (by kernel_rfl) (L := jnL) (loopsOk_of (bs := []) (by kernel_rfl) trivial) (fun _ => rfl) (by intro i qs r h; unfold qbg_enc at h; split at h <;> cases h <;> rfl)
    (by intro ls r h; unfold qbg_in at h; split at h; rw [qbg, sealF_eq] at h; exact Eq.trans (by kernel_rfl) h; cases h)
def ms29 : List (FuncId × Mode U) := (62, qbg_md) :: ms28
theorem known29 : Known kk env0 (modesOf ms29) := known_cons (by kernel_rfl) qbg_post known28
def qbj_sh : StSh := ⟨⟨[0, 1, 2], [100000], []⟩, [.t (.st 41), .t (.int .i64), .ptr 100000 0], [.blk 4 [.t .bool]]⟩
def qbj_os : List StSh := [⟨⟨[], [100000], []⟩, [], [.blk 4 [.t .bool]]⟩]
def qbj_tr : Bool → Tr (Nat × List (TV U)) := fun x => .ret (0, [⟨.bool, x⟩])
def qbj_enc : Nat → List (TV U) → Option (Bool)
  | 0, [⟨.bool, a0⟩] => some a0
  | _, _ => none
def qbj_dec : Bool → Nat × List (TV U) := fun x => (0, [⟨.bool, x⟩])
def qbj_in : List (TV U) → Option (Bool)
  | [⟨(.st 41), a0⟩, ⟨(.int .i64), a1⟩, ⟨.bool, a2⟩] => qbj a0 a1 a2
  | _ => none
def qbj_md : Mode U := ⟨qbj_sh, [⟨100000, .slot 2, []⟩], qbj_os, fun ls => .get (qbj_in ls) qbj_tr⟩
theorem qbj_post : ModeOk kk env0 61 qbj_md :=
  fn_of (fn := Tryz.f61) qbj_enc qbj_dec (kitOk_of eqOk mixed known29) (by kernel_rfl) (L := jnL) (loopsOk_of (bs := []) (by kernel_rfl) trivial) (fun _ => rfl) (by intro i qs r h; unfold qbj_enc at h; split at h <;> cases h <;> rfl)
    (by intro ls r h; unfold qbj_in at h; split at h; rw [qbj, sealF_eq] at h; exact Eq.trans (by kernel_rfl) h; cases h)
def ms30 : List (FuncId × Mode U) := (61, qbj_md) :: ms29
theorem known30 : Known kk env0 (modesOf ms30) := known_cons (by kernel_rfl) qbj_post known29
def qaa_sh : StSh := ⟨⟨[0, 1, 2], [100000], []⟩, [.agg [.clo 59 [.ptr 100000 0], .clo 61 [.ptr 100000 0]], .t (.st 41), .t (.int .i64)], [.blk 4 [.t .bool]]⟩
def qaa_os : List StSh := [⟨⟨[], [100000], []⟩, [], [.blk 4 [.t .bool]]⟩]
def qaa_tr : Bool → Tr (Nat × List (TV U)) := fun x => .ret (0, [⟨.bool, x⟩])
def qaa_in (rec_qaa : TExpr → Int → Bool → Option (Bool)) : List (TV U) → Option (Bool)
  | [⟨(.st 41), a0⟩, ⟨(.int .i64), a1⟩, ⟨.bool, a2⟩] => rec_qaa a0 a1 a2
  | _ => none
def qaa_rmd (rec_qaa : TExpr → Int → Bool → Option (Bool)) : Mode U := ⟨qaa_sh, [⟨100000, .slot 0, [0, 0]⟩], qaa_os, fun ls => .get (qaa_in rec_qaa ls) qaa_tr⟩
def ms31 (rec_qaa : TExpr → Int → Bool → Option (Bool)) : List (FuncId × Mode U) := (81, (qaa_rmd rec_qaa)) :: ms30
theorem known31 (rec_qaa : TExpr → Int → Bool → Option (Bool)) (hrec_qaa : ModeOk kk env0 81 (qaa_rmd rec_qaa)) : Known kk env0 (modesOf (ms31 rec_qaa)) := known_cons (by kernel_rfl) hrec_qaa known30
def qaa_sh3 : StSh := ⟨⟨[2, 3, 14, 15, 16], [100000, 3], []⟩, [.t (.int .i64), .ptr 3 0, .t (.slc (.st 41)), .t (.int .i64), .t (.int .i64)], [.blk 4 [.t .bool], .blk 52 [.clo 59 [.ptr 100000 0], .clo 61 [.ptr 100000 0]]]⟩
def qaa_o3 : List Out := [⟨.exit 0, ⟨⟨[], [100000], []⟩, [], [.blk 4 [.t .bool]]⟩⟩]
def qaa_b3 : Code := (nthLoop (bodyOf Tryz.f81) 0)
def qaa_rec3 (rec : Int → List (TExpr) → Int → Int → Bool → Option (Bool)) : List (TV U) → Option (Bool)
  | [⟨(.int .i64), a0⟩, ⟨(.slc (.st 41)), a1⟩, ⟨(.int .i64), a2⟩, ⟨(.int .i64), a3⟩, ⟨.bool, a4⟩] => rec a0 a1 a2 a3 a4
  | _ => none
def qaa_enc3 : Nat → List (TV U) → Option (Bool)
  | 0, [⟨.bool, a0⟩] => some a0
  | _, _ => none
def qaa_dec3 : Bool → Nat × List (TV U) := fun x => (0, [⟨.bool, x⟩])
def qaa_tr3 : Bool → Tr (Nat × List (TV U)) := fun x => .ret (0, [⟨.bool, x⟩])
def qaa_lp3 (rec_qaa : TExpr → Int → Bool → Option (Bool)) : Lift.Loop U := ⟨qaa_sh3, qaa_o3, fun ls => .get (qaa_rec3 (qaa_l3 rec_qaa) ls) qaa_tr3⟩
theorem qaa_ok3 (rec_qaa : TExpr → Int → Bool → Option (Bool)) (hrec_qaa : ModeOk kk env0 81 (qaa_rmd rec_qaa)) : LoopR kk env0 Tryz.f81.ntmps qaa_b3 (qaa_lp3 rec_qaa) :=
  loop_of qaa_enc3 qaa_dec3 (fun n => qaa_rec3 (qaa_i3 rec_qaa n)) (kitOk_of eqOk mixed (known31 rec_qaa hrec_qaa)) (L := jnL) (loopsOk_of (bs := []) (by kernel_rfl) trivial) (fun _ => rfl) (by intro i qs r h; unfold qaa_enc3 at h; split at h <;> cases h <;> rfl)
    (by intro ls r h; unfold qaa_rec3 at h; split at h <;> cases h)
    (by intro n ls r h; unfold qaa_rec3 at h; split at h; exact (show _ = qaa_t3 rec_qaa (qaa_i3 rec_qaa n) _ _ _ _ _ from by kernel_rfl).trans h; cases h) (by rw [qaa_l3, sealF_eq])
def qaa_L (rec_qaa : TExpr → Int → Bool → Option (Bool)) : Nat → Option (Lift.Loop U) := fun n => bif Nat.beq n joinKey then some joinMark else bif Nat.beq n 3 then some (qaa_lp3 rec_qaa) else none
def qaa_enc : Nat → List (TV U) → Option (Bool)
  | 0, [⟨.bool, a0⟩] => some a0
  | _, _ => none
def qaa_dec : Bool → Nat × List (TV U) := fun x => (0, [⟨.bool, x⟩])
def qaa_md : Mode U := qaa_rmd qaa
theorem qaa_step (rec_qaa : TExpr → Int → Bool → Option (Bool)) (hrec_qaa : ModeOk kk env0 81 (qaa_rmd rec_qaa)) : LoopsOk (Kit.withModes kk (modesOf (ms31 rec_qaa))) env0 Tryz.f81.ntmps (qaa_L rec_qaa) (bodyOf Tryz.f81) := loopsOk_of (bs := [qaa_b3]) (by kernel_rfl) ⟨.inr ⟨_, by kernel_rfl, LoopOk.of_round (qaa_ok3 rec_qaa hrec_qaa)⟩, trivial⟩
theorem qaa_post : ModeOk kk env0 81 (qaa_rmd qaa) :=
  rec_of (K := kk) (F := qaa) qaa_rmd qaa_i (by rw [qaa, sealF_eq]) (rec_zero (by intro ls r h; unfold qaa_in at h; split at h <;> cases h)) (fun n ih => fn_of (fn := Tryz.f81) qaa_enc qaa_dec (kitOk_of eqOk mixed (known31 (qaa_i n) ih)) (by kernel_rfl) (qaa_step (qaa_i n) ih) (fun _ => rfl) (by intro i qs r h; unfold qaa_enc at h; split at h <;> cases h <;> rfl)
    (by intro ls r h; unfold qaa_in at h; split at h; exact (show _ = qaa_f (qaa_i n) _ _ _ from by kernel_rfl).trans h; cases h))
def ms32 : List (FuncId × Mode U) := (81, qaa_md) :: ms30
theorem known32 : Known kk env0 (modesOf ms32) := known_cons (by kernel_rfl) qaa_post known30
def qai_sh : StSh := ⟨⟨[0, 1, 2], [100000], []⟩, [.agg [.clo 59 [.ptr 100000 0], .clo 61 [.ptr 100000 0]], .t (.slc (.st 43)), .t (.int .i64)], [.blk 4 [.t .bool]]⟩
def qai_os : List StSh := [⟨⟨[], [100000], []⟩, [], [.blk 4 [.t .bool]]⟩]
def qai_tr : Bool → Tr (Nat × List (TV U)) := fun x => .ret (0, [⟨.bool, x⟩])
def qai_in (rec_qai : List (TStmt) → Int → Bool → Option (Bool)) : List (TV U) → Option (Bool)
  | [⟨(.slc (.st 43)), a0⟩, ⟨(.int .i64), a1⟩, ⟨.bool, a2⟩] => rec_qai a0 a1 a2
  | _ => none
def qai_rmd (rec_qai : List (TStmt) → Int → Bool → Option (Bool)) : Mode U := ⟨qai_sh, [⟨100000, .slot 0, [0, 0]⟩], qai_os, fun ls => .get (qai_in rec_qai ls) qai_tr⟩
def ms33 (rec_qai : List (TStmt) → Int → Bool → Option (Bool)) : List (FuncId × Mode U) := (64, (qai_rmd rec_qai)) :: ms32
theorem known33 (rec_qai : List (TStmt) → Int → Bool → Option (Bool)) (hrec_qai : ModeOk kk env0 64 (qai_rmd rec_qai)) : Known kk env0 (modesOf (ms33 rec_qai)) := known_cons (by kernel_rfl) hrec_qai known32
def qai_sh2 : StSh := ⟨⟨[2, 3, 8, 9, 10], [100000, 3], []⟩, [.t (.int .i64), .ptr 3 0, .t (.slc (.st 43)), .t (.int .i64), .t (.int .i64)], [.blk 4 [.t .bool], .blk 52 [.clo 59 [.ptr 100000 0], .clo 61 [.ptr 100000 0]]]⟩
def qai_o2 : List Out := [⟨.exit 0, ⟨⟨[], [100000], []⟩, [], [.blk 4 [.t .bool]]⟩⟩]
def qai_b2 : Code := (nthLoop (bodyOf Tryz.f64) 0)
def qai_rec2 (rec : Int → List (TStmt) → Int → Int → Bool → Option (Bool)) : List (TV U) → Option (Bool)
  | [⟨(.int .i64), a0⟩, ⟨(.slc (.st 43)), a1⟩, ⟨(.int .i64), a2⟩, ⟨(.int .i64), a3⟩, ⟨.bool, a4⟩] => rec a0 a1 a2 a3 a4
  | _ => none
def qai_enc2 : Nat → List (TV U) → Option (Bool)
  | 0, [⟨.bool, a0⟩] => some a0
  | _, _ => none
def qai_dec2 : Bool → Nat × List (TV U) := fun x => (0, [⟨.bool, x⟩])
def qai_tr2 : Bool → Tr (Nat × List (TV U)) := fun x => .ret (0, [⟨.bool, x⟩])
def qai_lp2 (rec_qai : List (TStmt) → Int → Bool → Option (Bool)) : Lift.Loop U := ⟨qai_sh2, qai_o2, fun ls => .get (qai_rec2 (qai_l2 rec_qai) ls) qai_tr2⟩
theorem qai_ok2 (rec_qai : List (TStmt) → Int → Bool → Option (Bool)) (hrec_qai : ModeOk kk env0 64 (qai_rmd rec_qai)) : LoopR kk env0 Tryz.f64.ntmps qai_b2 (qai_lp2 rec_qai) :=
  loop_of qai_enc2 qai_dec2 (fun n => qai_rec2 (qai_i2 rec_qai n)) (kitOk_of eqOk mixed (known33 rec_qai hrec_qai)) (L := jnL) (loopsOk_of (bs := []) (by kernel_rfl) trivial) (fun _ => rfl) (by intro i qs r h; unfold qai_enc2 at h; split at h <;> cases h <;> rfl)
    (by intro ls r h; unfold qai_rec2 at h; split at h <;> cases h)
    (by intro n ls r h; unfold qai_rec2 at h; split at h; exact (show _ = qai_t2 rec_qai (qai_i2 rec_qai n) _ _ _ _ _ from by kernel_rfl).trans h; cases h) (by rw [qai_l2, sealF_eq])
def qai_L (rec_qai : List (TStmt) → Int → Bool → Option (Bool)) : Nat → Option (Lift.Loop U) := fun n => bif Nat.beq n joinKey then some joinMark else bif Nat.beq n 2 then some (qai_lp2 rec_qai) else none
def qai_enc : Nat → List (TV U) → Option (Bool)
  | 0, [⟨.bool, a0⟩] => some a0
  | _, _ => none
def qai_dec : Bool → Nat × List (TV U) := fun x => (0, [⟨.bool, x⟩])
def qai_md : Mode U := qai_rmd qai
theorem qai_step (rec_qai : List (TStmt) → Int → Bool → Option (Bool)) (hrec_qai : ModeOk kk env0 64 (qai_rmd rec_qai)) : LoopsOk (Kit.withModes kk (modesOf (ms33 rec_qai))) env0 Tryz.f64.ntmps (qai_L rec_qai) (bodyOf Tryz.f64) := loopsOk_of (bs := [qai_b2]) (by kernel_rfl) ⟨.inr ⟨_, by kernel_rfl, LoopOk.of_round (qai_ok2 rec_qai hrec_qai)⟩, trivial⟩
theorem qai_post : ModeOk kk env0 64 (qai_rmd qai) :=
  rec_of (K := kk) (F := qai) qai_rmd qai_i (by rw [qai, sealF_eq]) (rec_zero (by intro ls r h; unfold qai_in at h; split at h <;> cases h)) (fun n ih => fn_of (fn := Tryz.f64) qai_enc qai_dec (kitOk_of eqOk mixed (known33 (qai_i n) ih)) (by kernel_rfl) (qai_step (qai_i n) ih) (fun _ => rfl) (by intro i qs r h; unfold qai_enc at h; split at h <;> cases h <;> rfl)
    (by intro ls r h; unfold qai_in at h; split at h; exact (show _ = qai_f (qai_i n) _ _ _ from by kernel_rfl).trans h; cases h))
def ms34 : List (FuncId × Mode U) := (64, qai_md) :: ms32
theorem known34 : Known kk env0 (modesOf ms34) := known_cons (by kernel_rfl) qai_post known32
def qae_sh2 : StSh := ⟨⟨[2, 7, 8, 9], [100000, 2], []⟩, [.ptr 2 0, .t (.slc (.st 38)), .t (.int .i64), .t (.int .i64)], [.blk 4 [.t .bool], .blk 52 [.clo 59 [.ptr 100000 0], .clo 61 [.ptr 100000 0]]]⟩
def qae_o2 : List Out := [⟨.exit 0, ⟨⟨[], [100000], []⟩, [], [.blk 4 [.t .bool]]⟩⟩]
def qae_b2 : Code := (nthLoop (bodyOf Tryz.f29) 0)
def qae_rec2 (rec : List (TThread) → Int → Int → Bool → Option (Bool)) : List (TV U) → Option (Bool)
  | [⟨(.slc (.st 38)), a0⟩, ⟨(.int .i64), a1⟩, ⟨(.int .i64), a2⟩, ⟨.bool, a3⟩] => rec a0 a1 a2 a3
  | _ => none
def qae_enc2 : Nat → List (TV U) → Option (Bool)
  | 0, [⟨.bool, a0⟩] => some a0
  | _, _ => none
def qae_dec2 : Bool → Nat × List (TV U) := fun x => (0, [⟨.bool, x⟩])
def qae_tr2 : Bool → Tr (Nat × List (TV U)) := fun x => .ret (0, [⟨.bool, x⟩])
def qae_lp2 : Lift.Loop U := ⟨qae_sh2, qae_o2, fun ls => .get (qae_rec2 qae_l2 ls) qae_tr2⟩
theorem qae_ok2 : LoopR kk env0 Tryz.f29.ntmps qae_b2 qae_lp2 :=
  loop_of qae_enc2 qae_dec2 (fun n => qae_rec2 (qae_i2 n)) (kitOk_of eqOk mixed known34) (L := jnL) (loopsOk_of (bs := []) (by kernel_rfl) trivial) (fun _ => rfl) (by intro i qs r h; unfold qae_enc2 at h; split at h <;> cases h <;> rfl)
    (by intro ls r h; unfold qae_rec2 at h; split at h <;> cases h)
    (by intro n ls r h; unfold qae_rec2 at h; split at h; exact (show _ = qae_t2 (qae_i2 n) _ _ _ _ from by kernel_rfl).trans h; cases h) (by rw [qae_l2, sealF_eq])
def qae_sh : StSh := ⟨⟨[0, 1], [100000], []⟩, [.agg [.clo 59 [.ptr 100000 0], .clo 61 [.ptr 100000 0]], .t (.st 26)], [.blk 4 [.t .bool]]⟩
def qae_os : List StSh := [⟨⟨[], [100000], []⟩, [], [.blk 4 [.t .bool]]⟩]
def qae_tr : Bool → Tr (Nat × List (TV U)) := fun x => .ret (0, [⟨.bool, x⟩])
def qae_L : Nat → Option (Lift.Loop U) := fun n => bif Nat.beq n joinKey then some joinMark else bif Nat.beq n 2 then some qae_lp2 else none
def qae_enc : Nat → List (TV U) → Option (Bool)
  | 0, [⟨.bool, a0⟩] => some a0
  | _, _ => none
def qae_dec : Bool → Nat × List (TV U) := fun x => (0, [⟨.bool, x⟩])
def qae_in : List (TV U) → Option (Bool)
  | [⟨(.st 26), a0⟩, ⟨.bool, a1⟩] => qae a0 a1
  | _ => none
def qae_md : Mode U := ⟨qae_sh, [⟨100000, .slot 0, [0, 0]⟩], qae_os, fun ls => .get (qae_in ls) qae_tr⟩
theorem qae_post : ModeOk kk env0 29 qae_md :=
  fn_of (fn := Tryz.f29) qae_enc qae_dec (kitOk_of eqOk mixed known34) (by kernel_rfl) (L := qae_L) (loopsOk_of (bs := [qae_b2]) (by kernel_rfl) ⟨.inr ⟨_, by kernel_rfl, LoopOk.of_round (qae_ok2)⟩, trivial⟩) (fun _ => rfl) (by intro i qs r h; unfold qae_enc at h; split at h <;> cases h <;> rfl)
    (by intro ls r h; unfold qae_in at h; split at h; rw [qae, sealF_eq] at h; exact Eq.trans (by kernel_rfl) h; cases h)
def ms35 : List (FuncId × Mode U) := (29, qae_md) :: ms34
theorem known35 : Known kk env0 (modesOf ms35) := known_cons (by kernel_rfl) qae_post known34
def qbh_sh3 : StSh := ⟨⟨[1, 3, 11, 12, 13], [1, 3], []⟩, [.ptr 1 0, .ptr 3 0, .t (.slc (.st 46)), .t (.int .i64), .t (.int .i64)], [.blk 26 [.t (.slc (.st 46)), .t (.slc .str), .t (.slc (.st 38))], .blk 4 [.t .bool]]⟩
def qbh_o3 : List Out := [⟨.exit 0, ⟨⟨[1, 3], [1, 3], []⟩, [.ptr 1 0, .ptr 3 0], [.blk 26 [.t (.slc (.st 46)), .t (.slc .str), .t (.slc (.st 38))], .blk 4 [.t .bool]]⟩⟩]
def qbh_b3 : Code := (nthLoop (bodyOf Tryz.f25) 0)
def qbh_rec3 (rec : List (TCell) → Int → Int → List (TCell) → List (List UInt8) → List (TThread) → Bool → Option ((List (TCell)) × (List (List UInt8)) × (List (TThread)) × Bool)) : List (TV U) → Option ((List (TCell)) × (List (List UInt8)) × (List (TThread)) × Bool)
  | [⟨(.slc (.st 46)), a0⟩, ⟨(.int .i64), a1⟩, ⟨(.int .i64), a2⟩, ⟨(.slc (.st 46)), a3⟩, ⟨(.slc .str), a4⟩, ⟨(.slc (.st 38)), a5⟩, ⟨.bool, a6⟩] => rec a0 a1 a2 a3 a4 a5 a6
  | _ => none
def qbh_enc3 : Nat → List (TV U) → Option ((List (TCell)) × (List (List UInt8)) × (List (TThread)) × Bool)
  | 0, [⟨(.slc (.st 46)), a0⟩, ⟨(.slc .str), a1⟩, ⟨(.slc (.st 38)), a2⟩, ⟨.bool, a3⟩] => some (a0, a1, a2, a3)
  | _, _ => none
def qbh_dec3 : (List (TCell)) × (List (List UInt8)) × (List (TThread)) × Bool → Nat × List (TV U) := fun x => (0, [⟨(.slc (.st 46)), x.1⟩, ⟨(.slc .str), x.2.1⟩, ⟨(.slc (.st 38)), x.2.2.1⟩, ⟨.bool, x.2.2.2⟩])
def qbh_tr3 : (List (TCell)) × (List (List UInt8)) × (List (TThread)) × Bool → Tr (Nat × List (TV U)) := fun x => .ret (0, [⟨(.slc (.st 46)), x.1⟩, ⟨(.slc .str), x.2.1⟩, ⟨(.slc (.st 38)), x.2.2.1⟩, ⟨.bool, x.2.2.2⟩])
def qbh_lp3 : Lift.Loop U := ⟨qbh_sh3, qbh_o3, fun ls => .get (qbh_rec3 qbh_l3 ls) qbh_tr3⟩
theorem qbh_ok3 : LoopR kk env0 Tryz.f25.ntmps qbh_b3 qbh_lp3 :=
  loop_of qbh_enc3 qbh_dec3 (fun n => qbh_rec3 (qbh_i3 n)) (kitOk_of eqOk mixed known35) (L := jnL) (loopsOk_of (bs := []) (by kernel_rfl) trivial) (fun _ => rfl) (by intro i qs r h; unfold qbh_enc3 at h; split at h <;> cases h <;> rfl)
    (by intro ls r h; unfold qbh_rec3 at h; split at h <;> cases h)
    (by intro n ls r h; unfold qbh_rec3 at h; split at h; exact (show _ = qbh_t3 (qbh_i3 n) _ _ _ _ _ _ _ from by kernel_rfl).trans h; cases h) (by rw [qbh_l3, sealF_eq])
def qbh_sh8 : StSh := ⟨⟨[1, 3, 35, 36, 37], [1, 3], []⟩, [.ptr 1 0, .ptr 3 0, .t (.slc .str), .t (.int .i64), .t (.int .i64)], [.blk 26 [.t (.slc (.st 46)), .t (.slc .str), .t (.slc (.st 38))], .blk 4 [.t .bool]]⟩
def qbh_o8 : List Out := [⟨.exit 2, ⟨⟨[1, 3], [1, 3], []⟩, [.ptr 1 0, .ptr 3 0], [.blk 26 [.t (.slc (.st 46)), .t (.slc .str), .t (.slc (.st 38))], .blk 4 [.t .bool]]⟩⟩]
def qbh_b8 : Code := (nthLoop (bodyOf Tryz.f25) 1)
def qbh_rec8 (rec : List (List UInt8) → Int → Int → List (TCell) → List (List UInt8) → List (TThread) → Bool → Option ((List (TCell)) × (List (List UInt8)) × (List (TThread)) × Bool)) : List (TV U) → Option ((List (TCell)) × (List (List UInt8)) × (List (TThread)) × Bool)
  | [⟨(.slc .str), a0⟩, ⟨(.int .i64), a1⟩, ⟨(.int .i64), a2⟩, ⟨(.slc (.st 46)), a3⟩, ⟨(.slc .str), a4⟩, ⟨(.slc (.st 38)), a5⟩, ⟨.bool, a6⟩] => rec a0 a1 a2 a3 a4 a5 a6
  | _ => none
def qbh_enc8 : Nat → List (TV U) → Option ((List (TCell)) × (List (List UInt8)) × (List (TThread)) × Bool)
  | 0, [⟨(.slc (.st 46)), a0⟩, ⟨(.slc .str), a1⟩, ⟨(.slc (.st 38)), a2⟩, ⟨.bool, a3⟩] => some (a0, a1, a2, a3)
  | _, _ => none
def qbh_dec8 : (List (TCell)) × (List (List UInt8)) × (List (TThread)) × Bool → Nat × List (TV U) := fun x => (0, [⟨(.slc (.st 46)), x.1⟩, ⟨(.slc .str), x.2.1⟩, ⟨(.slc (.st 38)), x.2.2.1⟩, ⟨.bool, x.2.2.2⟩])
def qbh_tr8 : (List (TCell)) × (List (List UInt8)) × (List (TThread)) × Bool → Tr (Nat × List (TV U)) := fun x => .ret (0, [⟨(.slc (.st 46)), x.1⟩, ⟨(.slc .str), x.2.1⟩, ⟨(.slc (.st 38)), x.2.2.1⟩, ⟨.bool, x.2.2.2⟩])
def qbh_lp8 : Lift.Loop U := ⟨qbh_sh8, qbh_o8, fun ls => .get (qbh_rec8 qbh_l8 ls) qbh_tr8⟩
theorem qbh_ok8 : LoopR kk env0 Tryz.f25.ntmps qbh_b8 qbh_lp8 :=
  loop_of qbh_enc8 qbh_dec8 (fun n => qbh_rec8 (qbh_i8 n)) (kitOk_of eqOk mixed known35) (L := jnL) (loopsOk_of (bs := []) (by kernel_rfl) trivial) (fun _ => rfl) (by intro i qs r h; unfold qbh_enc8 at h; split at h <;> cases h <;> rfl)
    (by intro ls r h; unfold qbh_rec8 at h; split at h <;> cases h)
    (by intro n ls r h; unfold qbh_rec8 at h; split at h; exact (show _ = qbh_t8 (qbh_i8 n) _ _ _ _ _ _ _ from by kernel_rfl).trans h; cases h) (by rw [qbh_l8, sealF_eq])
def qbh_sh13 : StSh := ⟨⟨[1, 3, 48, 49, 50], [1, 3], []⟩, [.ptr 1 0, .ptr 3 0, .t (.slc (.st 38)), .t (.int .i64), .t (.int .i64)], [.blk 26 [.t (.slc (.st 46)), .t (.slc .str), .t (.slc (.st 38))], .blk 4 [.t .bool]]⟩
def qbh_o13 : List Out := [⟨.exit 4, ⟨⟨[1, 3], [1, 3], []⟩, [.ptr 1 0, .ptr 3 0], [.blk 26 [.t (.slc (.st 46)), .t (.slc .str), .t (.slc (.st 38))], .blk 4 [.t .bool]]⟩⟩]
def qbh_b13 : Code := (nthLoop (bodyOf Tryz.f25) 2)
def qbh_rec13 (rec : List (TThread) → Int → Int → List (TCell) → List (List UInt8) → List (TThread) → Bool → Option ((List (TCell)) × (List (List UInt8)) × (List (TThread)) × Bool)) : List (TV U) → Option ((List (TCell)) × (List (List UInt8)) × (List (TThread)) × Bool)
  | [⟨(.slc (.st 38)), a0⟩, ⟨(.int .i64), a1⟩, ⟨(.int .i64), a2⟩, ⟨(.slc (.st 46)), a3⟩, ⟨(.slc .str), a4⟩, ⟨(.slc (.st 38)), a5⟩, ⟨.bool, a6⟩] => rec a0 a1 a2 a3 a4 a5 a6
  | _ => none
def qbh_enc13 : Nat → List (TV U) → Option ((List (TCell)) × (List (List UInt8)) × (List (TThread)) × Bool)
  | 0, [⟨(.slc (.st 46)), a0⟩, ⟨(.slc .str), a1⟩, ⟨(.slc (.st 38)), a2⟩, ⟨.bool, a3⟩] => some (a0, a1, a2, a3)
  | _, _ => none
def qbh_dec13 : (List (TCell)) × (List (List UInt8)) × (List (TThread)) × Bool → Nat × List (TV U) := fun x => (0, [⟨(.slc (.st 46)), x.1⟩, ⟨(.slc .str), x.2.1⟩, ⟨(.slc (.st 38)), x.2.2.1⟩, ⟨.bool, x.2.2.2⟩])
def qbh_tr13 : (List (TCell)) × (List (List UInt8)) × (List (TThread)) × Bool → Tr (Nat × List (TV U)) := fun x => .ret (0, [⟨(.slc (.st 46)), x.1⟩, ⟨(.slc .str), x.2.1⟩, ⟨(.slc (.st 38)), x.2.2.1⟩, ⟨.bool, x.2.2.2⟩])
def qbh_lp13 : Lift.Loop U := ⟨qbh_sh13, qbh_o13, fun ls => .get (qbh_rec13 qbh_l13 ls) qbh_tr13⟩
theorem qbh_ok13 : LoopR kk env0 Tryz.f25.ntmps qbh_b13 qbh_lp13 :=
  loop_of qbh_enc13 qbh_dec13 (fun n => qbh_rec13 (qbh_i13 n)) (kitOk_of eqOk mixed known35) (L := jnL) (loopsOk_of (bs := []) (by kernel_rfl) trivial) (fun _ => rfl) (by intro i qs r h; unfold qbh_enc13 at h; split at h <;> cases h <;> rfl)
    (by intro ls r h; unfold qbh_rec13 at h; split at h <;> cases h)
    (by intro n ls r h; unfold qbh_rec13 at h; split at h; exact (show _ = qbh_t13 (qbh_i13 n) _ _ _ _ _ _ _ from by kernel_rfl).trans h; cases h) (by rw [qbh_l13, sealF_eq])
def qbh_sh : StSh := ⟨⟨[0], [], []⟩, [.t (.st 26)], []⟩
def qbh_os : List StSh := [⟨⟨[0], [], []⟩, [.t .bool], []⟩]
def qbh_tr : Bool → Tr (Nat × List (TV U)) := fun x => .ret (0, [⟨.bool, x⟩])
def qbh_L : Nat → Option (Lift.Loop U) := fun n => bif Nat.beq n joinKey then some joinMark else bif Nat.beq n 3 then some qbh_lp3 else bif Nat.beq n 8 then some qbh_lp8 else bif Nat.beq n 13 then some qbh_lp13 else none
def qbh_enc : Nat → List (TV U) → Option (Bool)
  | 0, [⟨.bool, a0⟩] => some a0
  | _, _ => none
def qbh_dec : Bool → Nat × List (TV U) := fun x => (0, [⟨.bool, x⟩])
def qbh_in : List (TV U) → Option (Bool)
  | [⟨(.st 26), a0⟩] => qbh a0
  | _ => none
def qbh_md : Mode U := ⟨qbh_sh, [], qbh_os, fun ls => .get (qbh_in ls) qbh_tr⟩
theorem qbh_post : ModeOk kk env0 25 qbh_md :=
  fn_of (fn := Tryz.f25) qbh_enc qbh_dec (kitOk_of eqOk mixed known35) (by kernel_rfl) (L := qbh_L) (loopsOk_of (bs := [qbh_b3, qbh_b8, qbh_b13]) (by kernel_rfl) ⟨.inr ⟨_, by kernel_rfl, LoopOk.of_round (qbh_ok3)⟩, .inr ⟨_, by kernel_rfl, LoopOk.of_round (qbh_ok8)⟩, .inr ⟨_, by kernel_rfl, LoopOk.of_round (qbh_ok13)⟩, trivial⟩) (fun _ => rfl) (by intro i qs r h; unfold qbh_enc at h; split at h <;> cases h <;> rfl)
    (by intro ls r h; unfold qbh_in at h; split at h; rw [qbh, sealF_eq] at h; exact Eq.trans (by kernel_rfl) h; cases h)
def ms36 : List (FuncId × Mode U) := (25, qbh_md) :: ms35
theorem known36 : Known kk env0 (modesOf ms36) := known_cons (by kernel_rfl) qbh_post known35
def qa5_sh : StSh := ⟨⟨[0, 1, 2], [100000], []⟩, [.t (.st 43), .t (.int .i64), .ptr 100000 0], [.blk 3 [.t (.int .i64)]]⟩
def qa5_os : List StSh := [⟨⟨[], [100000], []⟩, [], [.blk 3 [.t (.int .i64)]]⟩]
def qa5_tr : Int → Tr (Nat × List (TV U)) := fun x => .ret (0, [⟨(.int .i64), x⟩])
def qa5_enc : Nat → List (TV U) → Option (Int)
  | 0, [⟨(.int .i64), a0⟩] => some a0
  | _, _ => none
def qa5_dec : Int → Nat × List (TV U) := fun x => (0, [⟨(.int .i64), x⟩])
def qa5_in : List (TV U) → Option (Int)
  | [⟨(.st 43), a0⟩, ⟨(.int .i64), a1⟩, ⟨(.int .i64), a2⟩] => qa5 a0 a1 a2
  | _ => none
def qa5_md : Mode U := ⟨qa5_sh, [⟨100000, .slot 2, []⟩], qa5_os, fun ls => .get (qa5_in ls) qa5_tr⟩
theorem qa5_post : ModeOk kk env0 30 qa5_md :=
  fn_of (fn := Tryz.f30) qa5_enc qa5_dec (kitOk_of eqOk mixed known36) (by kernel_rfl) (L := jnL) (loopsOk_of (bs := []) (by kernel_rfl) trivial) (fun _ => rfl) (by intro i qs r h; unfold qa5_enc at h; split at h <;> cases h <;> rfl)
    (by intro ls r h; unfold qa5_in at h; split at h; rw [qa5, sealF_eq] at h; exact Eq.trans (by kernel_rfl) h; cases h)
def ms37 : List (FuncId × Mode U) := (30, qa5_md) :: ms36
theorem known37 : Known kk env0 (modesOf ms37) := known_cons (by kernel_rfl) qa5_post known36
def qa6_sh : StSh := ⟨⟨[0, 1, 2], [100000], []⟩, [.t (.st 41), .t (.int .i64), .ptr 100000 0], [.blk 3 [.t (.int .i64)]]⟩
def qa6_os : List StSh := [⟨⟨[], [100000], []⟩, [], [.blk 3 [.t (.int .i64)]]⟩]
def qa6_tr : Int → Tr (Nat × List (TV U)) := fun x => .ret (0, [⟨(.int .i64), x⟩])
def qa6_enc : Nat → List (TV U) → Option (Int)
  | 0, [⟨(.int .i64), a0⟩] => some a0
  | _, _ => none
def qa6_dec : Int → Nat × List (TV U) := fun x => (0, [⟨(.int .i64), x⟩])
def qa6_in : List (TV U) → Option (Int)
  | [⟨(.st 41), a0⟩, ⟨(.int .i64), a1⟩, ⟨(.int .i64), a2⟩] => qa6 a0 a1 a2
  | _ => none
def qa6_md : Mode U := ⟨qa6_sh, [⟨100000, .slot 2, []⟩], qa6_os, fun ls => .get (qa6_in ls) qa6_tr⟩
theorem qa6_post : ModeOk kk env0 31 qa6_md :=
  fn_of (fn := Tryz.f31) qa6_enc qa6_dec (kitOk_of eqOk mixed known37) (by kernel_rfl) (L := jnL) (loopsOk_of (bs := []) (by kernel_rfl) trivial) (fun _ => rfl) (by intro i qs r h; unfold qa6_enc at h; split at h <;> cases h <;> rfl)
    (by intro ls r h; unfold qa6_in at h; split at h; rw [qa6, sealF_eq] at h; exact Eq.trans (by kernel_rfl) h; cases h)
def ms38 : List (FuncId × Mode U) := (31, qa6_md) :: ms37
theorem known38 : Known kk env0 (modesOf ms38) := known_cons (by kernel_rfl) qa6_post known37
def qab_sh : StSh := ⟨⟨[0, 1, 2], [100000], []⟩, [.agg [.clo 30 [.ptr 100000 0], .clo 31 [.ptr 100000 0]], .t (.st 41), .t (.int .i64)], [.blk 3 [.t (.int .i64)]]⟩
def qab_os : List StSh := [⟨⟨[], [100000], []⟩, [], [.blk 3 [.t (.int .i64)]]⟩]
def qab_tr : Int → Tr (Nat × List (TV U)) := fun x => .ret (0, [⟨(.int .i64), x⟩])
def qab_in (rec_qab : TExpr → Int → Int → Option (Int)) : List (TV U) → Option (Int)
  | [⟨(.st 41), a0⟩, ⟨(.int .i64), a1⟩, ⟨(.int .i64), a2⟩] => rec_qab a0 a1 a2
  | _ => none
def qab_rmd (rec_qab : TExpr → Int → Int → Option (Int)) : Mode U := ⟨qab_sh, [⟨100000, .slot 0, [0, 0]⟩], qab_os, fun ls => .get (qab_in rec_qab ls) qab_tr⟩
def ms39 (rec_qab : TExpr → Int → Int → Option (Int)) : List (FuncId × Mode U) := (81, (qab_rmd rec_qab)) :: ms38
theorem known39 (rec_qab : TExpr → Int → Int → Option (Int)) (hrec_qab : ModeOk kk env0 81 (qab_rmd rec_qab)) : Known kk env0 (modesOf (ms39 rec_qab)) := known_cons (by kernel_rfl) hrec_qab known38
def qab_sh3 : StSh := ⟨⟨[2, 3, 14, 15, 16], [100000, 3], []⟩, [.t (.int .i64), .ptr 3 0, .t (.slc (.st 41)), .t (.int .i64), .t (.int .i64)], [.blk 3 [.t (.int .i64)], .blk 52 [.clo 30 [.ptr 100000 0], .clo 31 [.ptr 100000 0]]]⟩
def qab_o3 : List Out := [⟨.exit 0, ⟨⟨[], [100000], []⟩, [], [.blk 3 [.t (.int .i64)]]⟩⟩]
def qab_b3 : Code := (nthLoop (bodyOf Tryz.f81) 0)
def qab_rec3 (rec : Int → List (TExpr) → Int → Int → Int → Option (Int)) : List (TV U) → Option (Int)
  | [⟨(.int .i64), a0⟩, ⟨(.slc (.st 41)), a1⟩, ⟨(.int .i64), a2⟩, ⟨(.int .i64), a3⟩, ⟨(.int .i64), a4⟩] => rec a0 a1 a2 a3 a4
  | _ => none
def qab_enc3 : Nat → List (TV U) → Option (Int)
  | 0, [⟨(.int .i64), a0⟩] => some a0
  | _, _ => none
def qab_dec3 : Int → Nat × List (TV U) := fun x => (0, [⟨(.int .i64), x⟩])
def qab_tr3 : Int → Tr (Nat × List (TV U)) := fun x => .ret (0, [⟨(.int .i64), x⟩])
def qab_lp3 (rec_qab : TExpr → Int → Int → Option (Int)) : Lift.Loop U := ⟨qab_sh3, qab_o3, fun ls => .get (qab_rec3 (qab_l3 rec_qab) ls) qab_tr3⟩
theorem qab_ok3 (rec_qab : TExpr → Int → Int → Option (Int)) (hrec_qab : ModeOk kk env0 81 (qab_rmd rec_qab)) : LoopR kk env0 Tryz.f81.ntmps qab_b3 (qab_lp3 rec_qab) :=
  loop_of qab_enc3 qab_dec3 (fun n => qab_rec3 (qab_i3 rec_qab n)) (kitOk_of eqOk mixed (known39 rec_qab hrec_qab)) (L := jnL) (loopsOk_of (bs := []) (by kernel_rfl) trivial) (fun _ => rfl) (by intro i qs r h; unfold qab_enc3 at h; split at h <;> cases h <;> rfl)
    (by intro ls r h; unfold qab_rec3 at h; split at h <;> cases h)
    (by intro n ls r h; unfold qab_rec3 at h; split at h; exact (show _ = qab_t3 rec_qab (qab_i3 rec_qab n) _ _ _ _ _ from by kernel_rfl).trans h; cases h) (by rw [qab_l3, sealF_eq])
def qab_L (rec_qab : TExpr → Int → Int → Option (Int)) : Nat → Option (Lift.Loop U) := fun n => bif Nat.beq n joinKey then some joinMark else bif Nat.beq n 3 then some (qab_lp3 rec_qab) else none
def qab_enc : Nat → List (TV U) → Option (Int)
  | 0, [⟨(.int .i64), a0⟩] => some a0
  | _, _ => none
def qab_dec : Int → Nat × List (TV U) := fun x => (0, [⟨(.int .i64), x⟩])
def qab_md : Mode U := qab_rmd qab
theorem qab_step (rec_qab : TExpr → Int → Int → Option (Int)) (hrec_qab : ModeOk kk env0 81 (qab_rmd rec_qab)) : LoopsOk (Kit.withModes kk (modesOf (ms39 rec_qab))) env0 Tryz.f81.ntmps (qab_L rec_qab) (bodyOf Tryz.f81) := loopsOk_of (bs := [qab_b3]) (by kernel_rfl) ⟨.inr ⟨_, by kernel_rfl, LoopOk.of_round (qab_ok3 rec_qab hrec_qab)⟩, trivial⟩
theorem qab_post : ModeOk kk env0 81 (qab_rmd qab) :=
  rec_of (K := kk) (F := qab) qab_rmd qab_i (by rw [qab, sealF_eq]) (rec_zero (by intro ls r h; unfold qab_in at h; split at h <;> cases h)) (fun n ih => fn_of (fn := Tryz.f81) qab_enc qab_dec (kitOk_of eqOk mixed (known39 (qab_i n) ih)) (by kernel_rfl) (qab_step (qab_i n) ih) (fun _ => rfl) (by intro i qs r h; unfold qab_enc at h; split at h <;> cases h <;> rfl)
    (by intro ls r h; unfold qab_in at h; split at h; exact (show _ = qab_f (qab_i n) _ _ _ from by kernel_rfl).trans h; cases h))
def ms40 : List (FuncId × Mode U) := (81, qab_md) :: ms38
theorem known40 : Known kk env0 (modesOf ms40) := known_cons (by kernel_rfl) qab_post known38
def qaj_sh : StSh := ⟨⟨[0, 1, 2], [100000], []⟩, [.agg [.clo 30 [.ptr 100000 0], .clo 31 [.ptr 100000 0]], .t (.slc (.st 43)), .t (.int .i64)], [.blk 3 [.t (.int .i64)]]⟩
def qaj_os : List StSh := [⟨⟨[], [100000], []⟩, [], [.blk 3 [.t (.int .i64)]]⟩]
def qaj_tr : Int → Tr (Nat × List (TV U)) := fun x => .ret (0, [⟨(.int .i64), x⟩])
def qaj_in (rec_qaj : List (TStmt) → Int → Int → Option (Int)) : List (TV U) → Option (Int)
  | [⟨(.slc (.st 43)), a0⟩, ⟨(.int .i64), a1⟩, ⟨(.int .i64), a2⟩] => rec_qaj a0 a1 a2
  | _ => none
def qaj_rmd (rec_qaj : List (TStmt) → Int → Int → Option (Int)) : Mode U := ⟨qaj_sh, [⟨100000, .slot 0, [0, 0]⟩], qaj_os, fun ls => .get (qaj_in rec_qaj ls) qaj_tr⟩
def ms41 (rec_qaj : List (TStmt) → Int → Int → Option (Int)) : List (FuncId × Mode U) := (64, (qaj_rmd rec_qaj)) :: ms40
theorem known41 (rec_qaj : List (TStmt) → Int → Int → Option (Int)) (hrec_qaj : ModeOk kk env0 64 (qaj_rmd rec_qaj)) : Known kk env0 (modesOf (ms41 rec_qaj)) := known_cons (by kernel_rfl) hrec_qaj known40
def qaj_sh2 : StSh := ⟨⟨[2, 3, 8, 9, 10], [100000, 3], []⟩, [.t (.int .i64), .ptr 3 0, .t (.slc (.st 43)), .t (.int .i64), .t (.int .i64)], [.blk 3 [.t (.int .i64)], .blk 52 [.clo 30 [.ptr 100000 0], .clo 31 [.ptr 100000 0]]]⟩
def qaj_o2 : List Out := [⟨.exit 0, ⟨⟨[], [100000], []⟩, [], [.blk 3 [.t (.int .i64)]]⟩⟩]
def qaj_b2 : Code := (nthLoop (bodyOf Tryz.f64) 0)
def qaj_rec2 (rec : Int → List (TStmt) → Int → Int → Int → Option (Int)) : List (TV U) → Option (Int)
  | [⟨(.int .i64), a0⟩, ⟨(.slc (.st 43)), a1⟩, ⟨(.int .i64), a2⟩, ⟨(.int .i64), a3⟩, ⟨(.int .i64), a4⟩] => rec a0 a1 a2 a3 a4
  | _ => none
def qaj_enc2 : Nat → List (TV U) → Option (Int)
  | 0, [⟨(.int .i64), a0⟩] => some a0
  | _, _ => none
def qaj_dec2 : Int → Nat × List (TV U) := fun x => (0, [⟨(.int .i64), x⟩])
def qaj_tr2 : Int → Tr (Nat × List (TV U)) := fun x => .ret (0, [⟨(.int .i64), x⟩])
def qaj_lp2 (rec_qaj : List (TStmt) → Int → Int → Option (Int)) : Lift.Loop U := ⟨qaj_sh2, qaj_o2, fun ls => .get (qaj_rec2 (qaj_l2 rec_qaj) ls) qaj_tr2⟩
theorem qaj_ok2 (rec_qaj : List (TStmt) → Int → Int → Option (Int)) (hrec_qaj : ModeOk kk env0 64 (qaj_rmd rec_qaj)) : LoopR kk env0 Tryz.f64.ntmps qaj_b2 (qaj_lp2 rec_qaj) :=
  loop_of qaj_enc2 qaj_dec2 (fun n => qaj_rec2 (qaj_i2 rec_qaj n)) (kitOk_of eqOk mixed (known41 rec_qaj hrec_qaj)) (L := jnL) (loopsOk_of (bs := []) (by kernel_rfl) trivial) (fun _ => rfl) (by intro i qs r h; unfold qaj_enc2 at h; split at h <;> cases h <;> rfl)
    (by intro ls r h; unfold qaj_rec2 at h; split at h <;> cases h)
    (by intro n ls r h; unfold qaj_rec2 at h; split at h; exact (show _ = qaj_t2 rec_qaj (qaj_i2 rec_qaj n) _ _ _ _ _ from by kernel_rfl).trans h; cases h) (by rw [qaj_l2, sealF_eq])
def qaj_L (rec_qaj : List (TStmt) → Int → Int → Option (Int)) : Nat → Option (Lift.Loop U) := fun n => bif Nat.beq n joinKey then some joinMark else bif Nat.beq n 2 then some (qaj_lp2 rec_qaj) else none
def qaj_enc : Nat → List (TV U) → Option (Int)
  | 0, [⟨(.int .i64), a0⟩] => some a0
  | _, _ => none
def qaj_dec : Int → Nat × List (TV U) := fun x => (0, [⟨(.int .i64), x⟩])
def qaj_md : Mode U := qaj_rmd qaj
theorem qaj_step (rec_qaj : List (TStmt) → Int → Int → Option (Int)) (hrec_qaj : ModeOk kk env0 64 (qaj_rmd rec_qaj)) : LoopsOk (Kit.withModes kk (modesOf (ms41 rec_qaj))) env0 Tryz.f64.ntmps (qaj_L rec_qaj) (bodyOf Tryz.f64) := loopsOk_of (bs := [qaj_b2]) (by kernel_rfl) ⟨.inr ⟨_, by kernel_rfl, LoopOk.of_round (qaj_ok2 rec_qaj hrec_qaj)⟩, trivial⟩
theorem qaj_post : ModeOk kk env0 64 (qaj_rmd qaj) :=
  rec_of (K := kk) (F := qaj) qaj_rmd qaj_i (by rw [qaj, sealF_eq]) (rec_zero (by intro ls r h; unfold qaj_in at h; split at h <;> cases h)) (fun n ih => fn_of (fn := Tryz.f64) qaj_enc qaj_dec (kitOk_of eqOk mixed (known41 (qaj_i n) ih)) (by kernel_rfl) (qaj_step (qaj_i n) ih) (fun _ => rfl) (by intro i qs r h; unfold qaj_enc at h; split at h <;> cases h <;> rfl)
    (by intro ls r h; unfold qaj_in at h; split at h; exact (show _ = qaj_f (qaj_i n) _ _ _ from by kernel_rfl).trans h; cases h))
def ms42 : List (FuncId × Mode U) := (64, qaj_md) :: ms40
theorem known42 : Known kk env0 (modesOf ms42) := known_cons (by kernel_rfl) qaj_post known40
def qaf_sh2 : StSh := ⟨⟨[2, 7, 8, 9], [100000, 2], []⟩, [.ptr 2 0, .t (.slc (.st 38)), .t (.int .i64), .t (.int .i64)], [.blk 3 [.t (.int .i64)], .blk 52 [.clo 30 [.ptr 100000 0], .clo 31 [.ptr 100000 0]]]⟩
def qaf_o2 : List Out := [⟨.exit 0, ⟨⟨[], [100000], []⟩, [], [.blk 3 [.t (.int .i64)]]⟩⟩]
def qaf_b2 : Code := (nthLoop (bodyOf Tryz.f29) 0)
def qaf_rec2 (rec : List (TThread) → Int → Int → Int → Option (Int)) : List (TV U) → Option (Int)
  | [⟨(.slc (.st 38)), a0⟩, ⟨(.int .i64), a1⟩, ⟨(.int .i64), a2⟩, ⟨(.int .i64), a3⟩] => rec a0 a1 a2 a3
  | _ => none
def qaf_enc2 : Nat → List (TV U) → Option (Int)
  | 0, [⟨(.int .i64), a0⟩] => some a0
  | _, _ => none
def qaf_dec2 : Int → Nat × List (TV U) := fun x => (0, [⟨(.int .i64), x⟩])
def qaf_tr2 : Int → Tr (Nat × List (TV U)) := fun x => .ret (0, [⟨(.int .i64), x⟩])
def qaf_lp2 : Lift.Loop U := ⟨qaf_sh2, qaf_o2, fun ls => .get (qaf_rec2 qaf_l2 ls) qaf_tr2⟩
theorem qaf_ok2 : LoopR kk env0 Tryz.f29.ntmps qaf_b2 qaf_lp2 :=
  loop_of qaf_enc2 qaf_dec2 (fun n => qaf_rec2 (qaf_i2 n)) (kitOk_of eqOk mixed known42) (L := jnL) (loopsOk_of (bs := []) (by kernel_rfl) trivial) (fun _ => rfl) (by intro i qs r h; unfold qaf_enc2 at h; split at h <;> cases h <;> rfl)
    (by intro ls r h; unfold qaf_rec2 at h; split at h <;> cases h)
    (by intro n ls r h; unfold qaf_rec2 at h; split at h; exact (show _ = qaf_t2 (qaf_i2 n) _ _ _ _ from by kernel_rfl).trans h; cases h) (by rw [qaf_l2, sealF_eq])
def qaf_sh : StSh := ⟨⟨[0, 1], [100000], []⟩, [.agg [.clo 30 [.ptr 100000 0], .clo 31 [.ptr 100000 0]], .t (.st 26)], [.blk 3 [.t (.int .i64)]]⟩
def qaf_os : List StSh := [⟨⟨[], [100000], []⟩, [], [.blk 3 [.t (.int .i64)]]⟩]
def qaf_tr : Int → Tr (Nat × List (TV U)) := fun x => .ret (0, [⟨(.int .i64), x⟩])
def qaf_L : Nat → Option (Lift.Loop U) := fun n => bif Nat.beq n joinKey then some joinMark else bif Nat.beq n 2 then some qaf_lp2 else none
def qaf_enc : Nat → List (TV U) → Option (Int)
  | 0, [⟨(.int .i64), a0⟩] => some a0
  | _, _ => none
def qaf_dec : Int → Nat × List (TV U) := fun x => (0, [⟨(.int .i64), x⟩])
def qaf_in : List (TV U) → Option (Int)
  | [⟨(.st 26), a0⟩, ⟨(.int .i64), a1⟩] => qaf a0 a1
  | _ => none
def qaf_md : Mode U := ⟨qaf_sh, [⟨100000, .slot 0, [0, 0]⟩], qaf_os, fun ls => .get (qaf_in ls) qaf_tr⟩
theorem qaf_post : ModeOk kk env0 29 qaf_md :=
  fn_of (fn := Tryz.f29) qaf_enc qaf_dec (kitOk_of eqOk mixed known42) (by kernel_rfl) (L := qaf_L) (loopsOk_of (bs := [qaf_b2]) (by kernel_rfl) ⟨.inr ⟨_, by kernel_rfl, LoopOk.of_round (qaf_ok2)⟩, trivial⟩) (fun _ => rfl) (by intro i qs r h; unfold qaf_enc at h; split at h <;> cases h <;> rfl)
    (by intro ls r h; unfold qaf_in at h; split at h; rw [qaf, sealF_eq] at h; exact Eq.trans (by kernel_rfl) h; cases h)
def ms43 : List (FuncId × Mode U) := (29, qaf_md) :: ms42
theorem known43 : Known kk env0 (modesOf ms43) := known_cons (by kernel_rfl) qaf_post known42
def qa4_sh : StSh := ⟨⟨[0], [], []⟩, [.t (.st 26)], []⟩
def qa4_os : List StSh := [⟨⟨[0], [], []⟩, [.t (.int .i64)], []⟩]
def qa4_tr : Int → Tr (Nat × List (TV U)) := fun x => .ret (0, [⟨(.int .i64), x⟩])
def qa4_enc : Nat → List (TV U) → Option (Int)
  | 0, [⟨(.int .i64), a0⟩] => some a0
  | _, _ => none
def qa4_dec : Int → Nat × List (TV U) := fun x => (0, [⟨(.int .i64), x⟩])
def qa4_in : List (TV U) → Option (Int)
  | [⟨(.st 26), a0⟩] => qa4 a0
  | _ => none
def qa4_md : Mode U := ⟨qa4_sh, [], qa4_os, fun ls => .get (qa4_in ls) qa4_tr⟩
theorem qa4_post : ModeOk kk env0 15 qa4_md :=
  fn_of (fn := Tryz.f15) qa4_enc qa4_dec (kitOk_of eqOk mixed known43) (by kernel_rfl) (L := jnL) (loopsOk_of (bs := []) (by kernel_rfl) trivial) (fun _ => rfl) (by intro i qs r h; unfold qa4_enc at h; split at h <;> cases h <;> rfl)
    (by intro ls r h; unfold qa4_in at h; split at h; rw [qa4, sealF_eq] at h; exact Eq.trans (by kernel_rfl) h; cases h)
def ms44 : List (FuncId × Mode U) := (15, qa4_md) :: ms43
theorem known44 : Known kk env0 (modesOf ms44) := known_cons (by kernel_rfl) qa4_post known43
def qa2_sh : StSh := ⟨⟨[0, 1, 2], [100000], []⟩, [.t (.st 43), .t (.int .i64), .ptr 100000 0], [.blk 3 [.t (.int .i64)]]⟩
def qa2_os : List StSh := [⟨⟨[], [100000], []⟩, [], [.blk 3 [.t (.int .i64)]]⟩]
def qa2_tr : Int → Tr (Nat × List (TV U)) := fun x => .ret (0, [⟨(.int .i64), x⟩])
def qa2_enc : Nat → List (TV U) → Option (Int)
  | 0, [⟨(.int .i64), a0⟩] => some a0
  | _, _ => none
def qa2_dec : Int → Nat × List (TV U) := fun x => (0, [⟨(.int .i64), x⟩])
def qa2_in : List (TV U) → Option (Int)
  | [⟨(.st 43), a0⟩, ⟨(.int .i64), a1⟩, ⟨(.int .i64), a2⟩] => qa2 a0 a1 a2
  | _ => none
def qa2_md : Mode U := ⟨qa2_sh, [⟨100000, .slot 2, []⟩], qa2_os, fun ls => .get (qa2_in ls) qa2_tr⟩
theorem qa2_post : ModeOk kk env0 27 qa2_md :=
  fn_of (fn := Tryz.f27) qa2_enc qa2_dec (kitOk_of eqOk mixed known44) (by kernel_rfl) (L := jnL) (loopsOk_of (bs := []) (by kernel_rfl) trivial) (fun _ => rfl) (by intro i qs r h; unfold qa2_enc at h; split at h <;> cases h <;> rfl)
    (by intro ls r h; unfold qa2_in at h; split at h; rw [qa2, sealF_eq] at h; exact Eq.trans (by kernel_rfl) h; cases h)
def ms45 : List (FuncId × Mode U) := (27, qa2_md) :: ms44
theorem known45 : Known kk env0 (modesOf ms45) := known_cons (by kernel_rfl) qa2_post known44
def qa3_sh : StSh := ⟨⟨[0, 1, 2], [100000], []⟩, [.t (.st 41), .t (.int .i64), .ptr 100000 0], [.blk 3 [.t (.int .i64)]]⟩
def qa3_os : List StSh := [⟨⟨[], [100000], []⟩, [], [.blk 3 [.t (.int .i64)]]⟩]
def qa3_tr : Int → Tr (Nat × List (TV U)) := fun x => .ret (0, [⟨(.int .i64), x⟩])
def qa3_enc : Nat → List (TV U) → Option (Int)
  | 0, [⟨(.int .i64), a0⟩] => some a0
  | _, _ => none
def qa3_dec : Int → Nat × List (TV U) := fun x => (0, [⟨(.int .i64), x⟩])
def qa3_in : List (TV U) → Option (Int)
  | [⟨(.st 41), a0⟩, ⟨(.int .i64), a1⟩, ⟨(.int .i64), a2⟩] => qa3 a0 a1 a2
  | _ => none
def qa3_md : Mode U := ⟨qa3_sh, [⟨100000, .slot 2, []⟩], qa3_os, fun ls => .get (qa3_in ls) qa3_tr⟩
theorem qa3_post : ModeOk kk env0 28 qa3_md :=
  fn_of (fn := Tryz.f28) qa3_enc qa3_dec (kitOk_of eqOk mixed known45) (by kernel_rfl) (L := jnL) (loopsOk_of (bs := []) (by kernel_rfl) trivial) (fun _ => rfl) (by intro i qs r h; unfold qa3_enc at h; split at h <;> cases h <;> rfl)
    (by intro ls r h; unfold qa3_in at h; split at h; rw [qa3, sealF_eq] at h; exact Eq.trans (by kernel_rfl) h; cases h)
def ms46 : List (FuncId × Mode U) := (28, qa3_md) :: ms45
theorem known46 : Known kk env0 (modesOf ms46) := known_cons (by kernel_rfl) qa3_post known45
def qac_sh : StSh := ⟨⟨[0, 1, 2], [100000], []⟩, [.agg [.clo 27 [.ptr 100000 0], .clo 28 [.ptr 100000 0]], .t (.st 41), .t (.int .i64)], [.blk 3 [.t (.int .i64)]]⟩
def qac_os : List StSh := [⟨⟨[], [100000], []⟩, [], [.blk 3 [.t (.int .i64)]]⟩]
def qac_tr : Int → Tr (Nat × List (TV U)) := fun x => .ret (0, [⟨(.int .i64), x⟩])
def qac_in (rec_qac : TExpr → Int → Int → Option (Int)) : List (TV U) → Option (Int)
  | [⟨(.st 41), a0⟩, ⟨(.int .i64), a1⟩, ⟨(.int .i64), a2⟩] => rec_qac a0 a1 a2
  | _ => none
def qac_rmd (rec_qac : TExpr → Int → Int → Option (Int)) : Mode U := ⟨qac_sh, [⟨100000, .slot 0, [0, 0]⟩], qac_os, fun ls => .get (qac_in rec_qac ls) qac_tr⟩
def ms47 (rec_qac : TExpr → Int → Int → Option (Int)) : List (FuncId × Mode U) := (81, (qac_rmd rec_qac)) :: ms46
theorem known47 (rec_qac : TExpr → Int → Int → Option (Int)) (hrec_qac : ModeOk kk env0 81 (qac_rmd rec_qac)) : Known kk env0 (modesOf (ms47 rec_qac)) := known_cons (by kernel_rfl) hrec_qac known46
def qac_sh3 : StSh := ⟨⟨[2, 3, 14, 15, 16], [100000, 3], []⟩, [.t (.int .i64), .ptr 3 0, .t (.slc (.st 41)), .t (.int .i64), .t (.int .i64)], [.blk 3 [.t (.int .i64)], .blk 52 [.clo 27 [.ptr 100000 0], .clo 28 [.ptr 100000 0]]]⟩
def qac_o3 : List Out := [⟨.exit 0, ⟨⟨[], [100000], []⟩, [], [.blk 3 [.t (.int .i64)]]⟩⟩]
def qac_b3 : Code := (nthLoop (bodyOf Tryz.f81) 0)
def qac_rec3 (rec : Int → List (TExpr) → Int → Int → Int → Option (Int)) : List (TV U) → Option (Int)
  | [⟨(.int .i64), a0⟩, ⟨(.slc (.st 41)), a1⟩, ⟨(.int .i64), a2⟩, ⟨(.int .i64), a3⟩, ⟨(.int .i64), a4⟩] => rec a0 a1 a2 a3 a4
  | _ => none
def qac_enc3 : Nat → List (TV U) → Option (Int)
  | 0, [⟨(.int .i64), a0⟩] => some a0
  | _, _ => none
def qac_dec3 : Int → Nat × List (TV U) := fun x => (0, [⟨(.int .i64), x⟩])
def qac_tr3 : Int → Tr (Nat × List (TV U)) := fun x => .ret (0, [⟨(.int .i64), x⟩])
def qac_lp3 (rec_qac : TExpr → Int → Int → Option (Int)) : Lift.Loop U := ⟨qac_sh3, qac_o3, fun ls => .get (qac_rec3 (qac_l3 rec_qac) ls) qac_tr3⟩
theorem qac_ok3 (rec_qac : TExpr → Int → Int → Option (Int)) (hrec_qac : ModeOk kk env0 81 (qac_rmd rec_qac)) : LoopR kk env0 Tryz.f81.ntmps qac_b3 (qac_lp3 rec_qac) :=
  loop_of qac_enc3 qac_dec3 (fun n => qac_rec3 (qac_i3 rec_qac n)) (kitOk_of eqOk mixed (known47 rec_qac hrec_qac)) (L := jnL) (loopsOk_of (bs := []) (by kernel_rfl) trivial) (fun _ => rfl) (by intro i qs r h; unfold qac_enc3 at h; split at h <;> cases h <;> rfl)
    (by intro ls r h; unfold qac_rec3 at h; split at h <;> cases h)
    (by intro n ls r h; unfold qac_rec3 at h; split at h; exact (show _ = qac_t3 rec_qac (qac_i3 rec_qac n) _ _ _ _ _ from by kernel_rfl).trans h; cases h) (by rw [qac_l3, sealF_eq])
def qac_L (rec_qac : TExpr → Int → Int → Option (Int)) : Nat → Option (Lift.Loop U) := fun n => bif Nat.beq n joinKey then some joinMark else bif Nat.beq n 3 then some (qac_lp3 rec_qac) else none
def qac_enc : Nat → List (TV U) → Option (Int)
  | 0, [⟨(.int .i64), a0⟩] => some a0
  | _, _ => none
def qac_dec : Int → Nat × List (TV U) := fun x => (0, [⟨(.int .i64), x⟩])
def qac_md : Mode U := qac_rmd qac
theorem qac_step (rec_qac : TExpr → Int → Int → Option (Int)) (hrec_qac : ModeOk kk env0 81 (qac_rmd rec_qac)) : LoopsOk (Kit.withModes kk (modesOf (ms47 rec_qac))) env0 Tryz.f81.ntmps (qac_L rec_qac) (bodyOf Tryz.f81) := loopsOk_of (bs := [qac_b3]) (by kernel_rfl) ⟨.inr ⟨_, by kernel_rfl, LoopOk.of_round (qac_ok3 rec_qac hrec_qac)⟩, trivial⟩
theorem qac_post : ModeOk kk env0 81 (qac_rmd qac) :=
  rec_of (K := kk) (F := qac) qac_rmd qac_i (by rw [qac, sealF_eq]) (rec_zero (by intro ls r h; unfold qac_in at h; split at h <;> cases h)) (fun n ih => fn_of (fn := Tryz.f81) qac_enc qac_dec (kitOk_of eqOk mixed (known47 (qac_i n) ih)) (by kernel_rfl) (qac_step (qac_i n) ih) (fun _ => rfl) (by intro i qs r h; unfold qac_enc at h; split at h <;> cases h <;> rfl)
    (by intro ls r h; unfold qac_in at h; split at h; exact (show _ = qac_f (qac_i n) _ _ _ from by kernel_rfl).trans h; cases h))
def ms48 : List (FuncId × Mode U) := (81, qac_md) :: ms46
theorem known48 : Known kk env0 (modesOf ms48) := known_cons (by kernel_rfl) qac_post known46
def qak_sh : StSh := ⟨⟨[0, 1, 2], [100000], []⟩, [.agg [.clo 27 [.ptr 100000 0], .clo 28 [.ptr 100000 0]], .t (.slc (.st 43)), .t (.int .i64)], [.blk 3 [.t (.int .i64)]]⟩
def qak_os : List StSh := [⟨⟨[], [100000], []⟩, [], [.blk 3 [.t (.int .i64)]]⟩]
def qak_tr : Int → Tr (Nat × List (TV U)) := fun x => .ret (0, [⟨(.int .i64), x⟩])
def qak_in (rec_qak : List (TStmt) → Int → Int → Option (Int)) : List (TV U) → Option (Int)
  | [⟨(.slc (.st 43)), a0⟩, ⟨(.int .i64), a1⟩, ⟨(.int .i64), a2⟩] => rec_qak a0 a1 a2
  | _ => none
def qak_rmd (rec_qak : List (TStmt) → Int → Int → Option (Int)) : Mode U := ⟨qak_sh, [⟨100000, .slot 0, [0, 0]⟩], qak_os, fun ls => .get (qak_in rec_qak ls) qak_tr⟩
def ms49 (rec_qak : List (TStmt) → Int → Int → Option (Int)) : List (FuncId × Mode U) := (64, (qak_rmd rec_qak)) :: ms48
theorem known49 (rec_qak : List (TStmt) → Int → Int → Option (Int)) (hrec_qak : ModeOk kk env0 64 (qak_rmd rec_qak)) : Known kk env0 (modesOf (ms49 rec_qak)) := known_cons (by kernel_rfl) hrec_qak known48
def qak_sh2 : StSh := ⟨⟨[2, 3, 8, 9, 10], [100000, 3], []⟩, [.t (.int .i64), .ptr 3 0, .t (.slc (.st 43)), .t (.int .i64), .t (.int .i64)], [.blk 3 [.t (.int .i64)], .blk 52 [.clo 27 [.ptr 100000 0], .clo 28 [.ptr 100000 0]]]⟩
def qak_o2 : List Out := [⟨.exit 0, ⟨⟨[], [100000], []⟩, [], [.blk 3 [.t (.int .i64)]]⟩⟩]
def qak_b2 : Code := (nthLoop (bodyOf Tryz.f64) 0)
def qak_rec2 (rec : Int → List (TStmt) → Int → Int → Int → Option (Int)) : List (TV U) → Option (Int)
  | [⟨(.int .i64), a0⟩, ⟨(.slc (.st 43)), a1⟩, ⟨(.int .i64), a2⟩, ⟨(.int .i64), a3⟩, ⟨(.int .i64), a4⟩] => rec a0 a1 a2 a3 a4
  | _ => none
def qak_enc2 : Nat → List (TV U) → Option (Int)
  | 0, [⟨(.int .i64), a0⟩] => some a0
  | _, _ => none
def qak_dec2 : Int → Nat × List (TV U) := fun x => (0, [⟨(.int .i64), x⟩])
def qak_tr2 : Int → Tr (Nat × List (TV U)) := fun x => .ret (0, [⟨(.int .i64), x⟩])
def qak_lp2 (rec_qak : List (TStmt) → Int → Int → Option (Int)) : Lift.Loop U := ⟨qak_sh2, qak_o2, fun ls => .get (qak_rec2 (qak_l2 rec_qak) ls) qak_tr2⟩
theorem qak_ok2 (rec_qak : List (TStmt) → Int → Int → Option (Int)) (hrec_qak : ModeOk kk env0 64 (qak_rmd rec_qak)) : LoopR kk env0 Tryz.f64.ntmps qak_b2 (qak_lp2 rec_qak) :=
  loop_of qak_enc2 qak_dec2 (fun n => qak_rec2 (qak_i2 rec_qak n)) (kitOk_of eqOk mixed (known49 rec_qak hrec_qak)) (L := jnL) (loopsOk_of (bs := []) (by kernel_rfl) trivial) (fun _ => rfl) (by intro i qs r h; unfold qak_enc2 at h; split at h <;> cases h <;> rfl)
    (by intro ls r h; unfold qak_rec2 at h; split at h <;> cases h)
    (by intro n ls r h; unfold qak_rec2 at h; split at h; exact (show _ = qak_t2 rec_qak (qak_i2 rec_qak n) _ _ _ _ _ from by kernel_rfl).trans h; cases h) (by rw [qak_l2, sealF_eq])
def qak_L (rec_qak : List (TStmt) → Int → Int → Option (Int)) : Nat → Option (Lift.Loop U) := fun n => bif Nat.beq n joinKey then some joinMark else bif Nat.beq n 2 then some (qak_lp2 rec_qak) else none
def qak_enc : Nat → List (TV U) → Option (Int)
  | 0, [⟨(.int .i64), a0⟩] => some a0
  | _, _ => none
def qak_dec : Int → Nat × List (TV U) := fun x => (0, [⟨(.int .i64), x⟩])
def qak_md : Mode U := qak_rmd qak
theorem qak_step (rec_qak : List (TStmt) → Int → Int → Option (Int)) (hrec_qak : ModeOk kk env0 64 (qak_rmd rec_qak)) : LoopsOk (Kit.withModes kk (modesOf (ms49 rec_qak))) env0 Tryz.f64.ntmps (qak_L rec_qak) (bodyOf Tryz.f64) := loopsOk_of (bs := [qak_b2]) (by kernel_rfl) ⟨.inr ⟨_, by kernel_rfl, LoopOk.of_round (qak_ok2 rec_qak hrec_qak)⟩, trivial⟩
theorem qak_post : ModeOk kk env0 64 (qak_rmd qak) :=
  rec_of (K := kk) (F := qak) qak_rmd qak_i (by rw [qak, sealF_eq]) (rec_zero (by intro ls r h; unfold qak_in at h; split at h <;> cases h)) (fun n ih => fn_of (fn := Tryz.f64) qak_enc qak_dec (kitOk_of eqOk mixed (known49 (qak_i n) ih)) (by kernel_rfl) (qak_step (qak_i n) ih) (fun _ => rfl) (by intro i qs r h; unfold qak_enc at h; split at h <;> cases h <;> rfl)
    (by intro ls r h; unfold qak_in at h; split at h; exact (show _ = qak_f (qak_i n) _ _ _ from by kernel_rfl).trans h; cases h))
def ms50 : List (FuncId × Mode U) := (64, qak_md) :: ms48
theorem known50 : Known kk env0 (modesOf ms50) := known_cons (by kernel_rfl) qak_post known48
def qag_sh2 : StSh := ⟨⟨[2, 7, 8, 9], [100000, 2], []⟩, [.ptr 2 0, .t (.slc (.st 38)), .t (.int .i64), .t (.int .i64)], [.blk 3 [.t (.int .i64)], .blk 52 [.clo 27 [.ptr 100000 0], .clo 28 [.ptr 100000 0]]]⟩
def qag_o2 : List Out := [⟨.exit 0, ⟨⟨[], [100000], []⟩, [], [.blk 3 [.t (.int .i64)]]⟩⟩]
def qag_b2 : Code := (nthLoop (bodyOf Tryz.f29) 0)
def qag_rec2 (rec : List (TThread) → Int → Int → Int → Option (Int)) : List (TV U) → Option (Int)
  | [⟨(.slc (.st 38)), a0⟩, ⟨(.int .i64), a1⟩, ⟨(.int .i64), a2⟩, ⟨(.int .i64), a3⟩] => rec a0 a1 a2 a3
  | _ => none
def qag_enc2 : Nat → List (TV U) → Option (Int)
  | 0, [⟨(.int .i64), a0⟩] => some a0
  | _, _ => none
def qag_dec2 : Int → Nat × List (TV U) := fun x => (0, [⟨(.int .i64), x⟩])
def qag_tr2 : Int → Tr (Nat × List (TV U)) := fun x => .ret (0, [⟨(.int .i64), x⟩])
def qag_lp2 : Lift.Loop U := ⟨qag_sh2, qag_o2, fun ls => .get (qag_rec2 qag_l2 ls) qag_tr2⟩
theorem qag_ok2 : LoopR kk env0 Tryz.f29.ntmps qag_b2 qag_lp2 :=
  loop_of qag_enc2 qag_dec2 (fun n => qag_rec2 (qag_i2 n)) (kitOk_of eqOk mixed known50) (L := jnL) (loopsOk_of (bs := []) (by kernel_rfl) trivial) (fun _ => rfl) (by intro i qs r h; unfold qag_enc2 at h; split at h <;> cases h <;> rfl)
    (by intro ls r h; unfold qag_rec2 at h; split at h <;> cases h)
    (by intro n ls r h; unfold qag_rec2 at h; split at h; exact (show _ = qag_t2 (qag_i2 n) _ _ _ _ from by kernel_rfl).trans h; cases h) (by rw [qag_l2, sealF_eq])
def qag_sh : StSh := ⟨⟨[0, 1], [100000], []⟩, [.agg [.clo 27 [.ptr 100000 0], .clo 28 [.ptr 100000 0]], .t (.st 26)], [.blk 3 [.t (.int .i64)]]⟩
def qag_os : List StSh := [⟨⟨[], [100000], []⟩, [], [.blk 3 [.t (.int .i64)]]⟩]
def qag_tr : Int → Tr (Nat × List (TV U)) := fun x => .ret (0, [⟨(.int .i64), x⟩])
def qag_L : Nat → Option (Lift.Loop U) := fun n => bif Nat.beq n joinKey then some joinMark else bif Nat.beq n 2 then some qag_lp2 else none
def qag_enc : Nat → List (TV U) → Option (Int)
  | 0, [⟨(.int .i64), a0⟩] => some a0
  | _, _ => none
def qag_dec : Int → Nat × List (TV U) := fun x => (0, [⟨(.int .i64), x⟩])
def qag_in : List (TV U) → Option (Int)
  | [⟨(.st 26), a0⟩, ⟨(.int .i64), a1⟩] => qag a0 a1
  | _ => none
def qag_md : Mode U := ⟨qag_sh, [⟨100000, .slot 0, [0, 0]⟩], qag_os, fun ls => .get (qag_in ls) qag_tr⟩
theorem qag_post : ModeOk kk env0 29 qag_md :=
  fn_of (fn := Tryz.f29) qag_enc qag_dec (kitOk_of eqOk mixed known50) (by kernel_rfl) (L := qag_L) (loopsOk_of (bs := [qag_b2]) (by kernel_rfl) ⟨.inr ⟨_, by kernel_rfl, LoopOk.of_round (qag_ok2)⟩, trivial⟩) (fun _ => rfl) (by intro i qs r h; unfold qag_enc at h; split at h <;> cases h <;> rfl)
    (by intro ls r h; unfold qag_in at h; split at h; rw [qag, sealF_eq] at h; exact Eq.trans (by kernel_rfl) h; cases h)
def ms51 : List (FuncId × Mode U) := (29, qag_md) :: ms50
theorem known51 : Known kk env0 (modesOf ms51) := known_cons (by kernel_rfl) qag_post known50
def qa1_sh : StSh := ⟨⟨[0], [], []⟩, [.t (.st 26)], []⟩
def qa1_os : List StSh := [⟨⟨[0], [], []⟩, [.t (.int .i64)], []⟩]
def qa1_tr : Int → Tr (Nat × List (TV U)) := fun x => .ret (0, [⟨(.int .i64), x⟩])
def qa1_enc : Nat → List (TV U) → Option (Int)
  | 0, [⟨(.int .i64), a0⟩] => some a0
  | _, _ => none
def qa1_dec : Int → Nat × List (TV U) := fun x => (0, [⟨(.int .i64), x⟩])
def qa1_in : List (TV U) → Option (Int)
  | [⟨(.st 26), a0⟩] => qa1 a0
  | _ => none
def qa1_md : Mode U := ⟨qa1_sh, [], qa1_os, fun ls => .get (qa1_in ls) qa1_tr⟩
theorem qa1_post : ModeOk kk env0 14 qa1_md :=
  fn_of (fn := Tryz.f14) qa1_enc qa1_dec (kitOk_of eqOk mixed known51) (by kernel_rfl) (L := jnL) (loopsOk_of (bs := []) (by kernel_rfl) trivial) (fun _ => rfl) (by intro i qs r h; unfold qa1_enc at h; split at h <;> cases h <;> rfl)
    (by intro ls r h; unfold qa1_in at h; split at h; rw [qa1, sealF_eq] at h; exact Eq.trans (by kernel_rfl) h; cases h)
def ms52 : List (FuncId × Mode U) := (14, qa1_md) :: ms51
theorem known52 : Known kk env0 (modesOf ms52) := known_cons (by kernel_rfl) qa1_post known51
def qbb_sh : StSh := ⟨⟨[0], [], []⟩, [.t (.st 26)], []⟩
def qbb_os : List StSh := [⟨⟨[0], [], []⟩, [.t (.int .i64)], []⟩]
def qbb_tr : Int → Tr (Nat × List (TV U)) := fun x => .ret (0, [⟨(.int .i64), x⟩])
def qbb_enc : Nat → List (TV U) → Option (Int)
  | 0, [⟨(.int .i64), a0⟩] => some a0
  | _, _ => none
def qbb_dec : Int → Nat × List (TV U) := fun x => (0, [⟨(.int .i64), x⟩])
def qbb_in : List (TV U) → Option (Int)
  | [⟨(.st 26), a0⟩] => qbb a0
  | _ => none
def qbb_md : Mode U := ⟨qbb_sh, [], qbb_os, fun ls => .get (qbb_in ls) qbb_tr⟩
theorem qbb_post : ModeOk kk env0 12 qbb_md :=
  fn_of (fn := Tryz.f12) qbb_enc qbb_dec (kitOk_of eqOk mixed known52) (by kernel_rfl) (L := jnL) (loopsOk_of (bs := []) (by kernel_rfl) trivial) (fun _ => rfl) (by intro i qs r h; unfold qbb_enc at h; split at h <;> cases h <;> rfl)
    (by intro ls r h; unfold qbb_in at h; split at h; rw [qbb, sealF_eq] at h; exact Eq.trans (by kernel_rfl) h; cases h)
def ms53 : List (FuncId × Mode U) := (12, qbb_md) :: ms52
theorem known53 : Known kk env0 (modesOf ms53) := known_cons (by kernel_rfl) qbb_post known52
def qa8_sh : StSh := ⟨⟨[0, 1, 2], [100000, 100001, 100002], [⟨.cell 100002 0, 200200, 9, .str⟩]⟩, [.t .str, .ptr 100000 0, .ptr 100002 0], [.blk 72 [.ptr 100001 0], .mp .str (.int .i64), .blk 23 [.oslc 200200], .row 9 .str]⟩
def qa8_os : List StSh := [⟨⟨[], [100000, 100001, 100002], [⟨.cell 100002 0, 200200, 9, .str⟩]⟩, [], [.blk 72 [.ptr 100001 0], .mp .str (.int .i64), .blk 23 [.oslc 200200], .row 9 .str]⟩]
def qa8_tr : (List ((List UInt8) × (Int))) × (List (List UInt8)) → Tr (Nat × List (TV U)) := fun x => .ret (0, [⟨(.map .str (.int .i64)), x.1⟩, ⟨(.slc .str), x.2⟩])
def qa8_enc : Nat → List (TV U) → Option ((List ((List UInt8) × (Int))) × (List (List UInt8)))
  | 0, [⟨(.map .str (.int .i64)), a0⟩, ⟨(.slc .str), a1⟩] => some (a0, a1)
  | _, _ => none
def qa8_dec : (List ((List UInt8) × (Int))) × (List (List UInt8)) → Nat × List (TV U) := fun x => (0, [⟨(.map .str (.int .i64)), x.1⟩, ⟨(.slc .str), x.2⟩])
def qa8_in : List (TV U) → Option ((List ((List UInt8) × (Int))) × (List (List UInt8)))
  | [⟨.str, a0⟩, ⟨(.map .str (.int .i64)), a1⟩, ⟨(.slc .str), a2⟩] => qa8 a0 a1 a2
  | _ => none
def qa8_md : Mode U := ⟨qa8_sh, [⟨100000, .slot 1, []⟩, ⟨100001, .cell 100000 0, []⟩, ⟨100002, .slot 2, []⟩], qa8_os, fun ls => .get (qa8_in ls) qa8_tr⟩
theorem qa8_post : ModeOk kk env0 51 qa8_md :=
  fn_of (fn := Tryz.f51) qa8_enc qa8_dec (kitOk_of eqOk mixed known53) (by kernel_rfl) (L := jnL) (loopsOk_of (bs := []) (by kernel_rfl) trivial) (fun _ => rfl) (by intro i qs r h; unfold qa8_enc at h; split at h <;> cases h <;> rfl)
    (by intro ls r h; unfold qa8_in at h; split at h; rw [qa8, sealF_eq] at h; exact Eq.trans (by kernel_rfl) h; cases h)
def ms54 : List (FuncId × Mode U) := (51, qa8_md) :: ms53
theorem known54 : Known kk env0 (modesOf ms54) := known_cons (by kernel_rfl) qa8_post known53
def qa9_sh : StSh := ⟨⟨[0, 1, 2], [100000, 100001, 100002, 100003], [⟨.cell 100003 0, 200300, 9, .str⟩]⟩, [.t (.st 43), .t (.int .i64), .ptr 100000 0], [.blk 74 [.clo 51 [.ptr 100001 0, .ptr 100003 0]], .blk 72 [.ptr 100002 0], .mp .str (.int .i64), .blk 23 [.oslc 200300], .row 9 .str]⟩
def qa9_os : List StSh := [⟨⟨[], [100000, 100001, 100002, 100003], [⟨.cell 100003 0, 200300, 9, .str⟩]⟩, [], [.blk 74 [.clo 51 [.ptr 100001 0, .ptr 100003 0]], .blk 72 [.ptr 100002 0], .mp .str (.int .i64), .blk 23 [.oslc 200300], .row 9 .str]⟩]
def qa9_tr : (List ((List UInt8) × (Int))) × (List (List UInt8)) → Tr (Nat × List (TV U)) := fun x => .ret (0, [⟨(.map .str (.int .i64)), x.1⟩, ⟨(.slc .str), x.2⟩])
def qa9_enc : Nat → List (TV U) → Option ((List ((List UInt8) × (Int))) × (List (List UInt8)))
  | 0, [⟨(.map .str (.int .i64)), a0⟩, ⟨(.slc .str), a1⟩] => some (a0, a1)
  | _, _ => none
def qa9_dec : (List ((List UInt8) × (Int))) × (List (List UInt8)) → Nat × List (TV U) := fun x => (0, [⟨(.map .str (.int .i64)), x.1⟩, ⟨(.slc .str), x.2⟩])
def qa9_in : List (TV U) → Option ((List ((List UInt8) × (Int))) × (List (List UInt8)))
  | [⟨(.st 43), a0⟩, ⟨(.int .i64), a1⟩, ⟨(.map .str (.int .i64)), a2⟩, ⟨(.slc .str), a3⟩] => qa9 a0 a1 a2 a3
  | _ => none
def qa9_md : Mode U := ⟨qa9_sh, [⟨100000, .slot 2, []⟩, ⟨100001, .cell 100000 0, [0]⟩, ⟨100002, .cell 100001 0, []⟩, ⟨100003, .cell 100000 0, [1]⟩], qa9_os, fun ls => .get (qa9_in ls) qa9_tr⟩
theorem qa9_post : ModeOk kk env0 52 qa9_md :=
  fn_of (fn := Tryz.f52) qa9_enc qa9_dec (kitOk_of eqOk mixed known54) (by kernel_rfl) (L := jnL) (loopsOk_of (bs := []) (by kernel_rfl) trivial) (fun _ => rfl) (by intro i qs r h; unfold qa9_enc at h; split at h <;> cases h <;> rfl)
    (by intro ls r h; unfold qa9_in at h; split at h; rw [qa9, sealF_eq] at h; exact Eq.trans (by kernel_rfl) h; cases h)
def ms55 : List (FuncId × Mode U) := (52, qa9_md) :: ms54
theorem known55 : Known kk env0 (modesOf ms55) := known_cons (by kernel_rfl) qa9_post known54
def qba_sh : StSh := ⟨⟨[0, 1, 2], [100000, 100001, 100002, 100003], [⟨.cell 100003 0, 200300, 9, .str⟩]⟩, [.t (.st 41), .t (.int .i64), .ptr 100000 0], [.blk 74 [.clo 51 [.ptr 100001 0, .ptr 100003 0]], .blk 72 [.ptr 100002 0], .mp .str (.int .i64), .blk 23 [.oslc 200300], .row 9 .str]⟩
def qba_os : List StSh := [⟨⟨[], [100000, 100001, 100002, 100003], [⟨.cell 100003 0, 200300, 9, .str⟩]⟩, [], [.blk 74 [.clo 51 [.ptr 100001 0, .ptr 100003 0]], .blk 72 [.ptr 100002 0], .mp .str (.int .i64), .blk 23 [.oslc 200300], .row 9 .str]⟩]
def qba_tr : (List ((List UInt8) × (Int))) × (List (List UInt8)) → Tr (Nat × List (TV U)) := fun x => .ret (0, [⟨(.map .str (.int .i64)), x.1⟩, ⟨(.slc .str), x.2⟩])
def qba_enc : Nat → List (TV U) → Option ((List ((List UInt8) × (Int))) × (List (List UInt8)))
  | 0, [⟨(.map .str (.int .i64)), a0⟩, ⟨(.slc .str), a1⟩] => some (a0, a1)
  | _, _ => none
def qba_dec : (List ((List UInt8) × (Int))) × (List (List UInt8)) → Nat × List (TV U) := fun x => (0, [⟨(.map .str (.int .i64)), x.1⟩, ⟨(.slc .str), x.2⟩])
def qba_in : List (TV U) → Option ((List ((List UInt8) × (Int))) × (List (List UInt8)))
  | [⟨(.st 41), a0⟩, ⟨(.int .i64), a1⟩, ⟨(.map .str (.int .i64)), a2⟩, ⟨(.slc .str), a3⟩] => qba a0 a1 a2 a3
  | _ => none
def qba_md : Mode U := ⟨qba_sh, [⟨100000, .slot 2, []⟩, ⟨100001, .cell 100000 0, [0]⟩, ⟨100002, .cell 100001 0, []⟩, ⟨100003, .cell 100000 0, [1]⟩], qba_os, fun ls => .get (qba_in ls) qba_tr⟩
theorem qba_post : ModeOk kk env0 53 qba_md :=
  fn_of (fn := Tryz.f53) qba_enc qba_dec (kitOk_of eqOk mixed known55) (by kernel_rfl) (L := jnL) (loopsOk_of (bs := []) (by kernel_rfl) trivial) (fun _ => rfl) (by intro i qs r h; unfold qba_enc at h; split at h <;> cases h <;> rfl)
    (by intro ls r h; unfold qba_in at h; split at h; rw [qba, sealF_eq] at h; exact Eq.trans (by kernel_rfl) h; cases h)
def ms56 : List (FuncId × Mode U) := (53, qba_md) :: ms55
theorem known56 : Known kk env0 (modesOf ms56) := known_cons (by kernel_rfl) qba_post known55
def qad_sh : StSh := ⟨⟨[0, 1, 2], [100000, 100001, 100002, 100003], [⟨.cell 100003 0, 200300, 9, .str⟩]⟩, [.agg [.clo 52 [.ptr 100000 0], .clo 53 [.ptr 100000 0]], .t (.st 41), .t (.int .i64)], [.blk 74 [.clo 51 [.ptr 100001 0, .ptr 100003 0]], .blk 72 [.ptr 100002 0], .mp .str (.int .i64), .blk 23 [.oslc 200300], .row 9 .str]⟩
def qad_os : List StSh := [⟨⟨[], [100000, 100001, 100002, 100003], [⟨.cell 100003 0, 200300, 9, .str⟩]⟩, [], [.blk 74 [.clo 51 [.ptr 100001 0, .ptr 100003 0]], .blk 72 [.ptr 100002 0], .mp .str (.int .i64), .blk 23 [.oslc 200300], .row 9 .str]⟩]
def qad_tr : (List ((List UInt8) × (Int))) × (List (List UInt8)) → Tr (Nat × List (TV U)) := fun x => .ret (0, [⟨(.map .str (.int .i64)), x.1⟩, ⟨(.slc .str), x.2⟩])
def qad_in (rec_qad : TExpr → Int → List ((List UInt8) × (Int)) → List (List UInt8) → Option ((List ((List UInt8) × (Int))) × (List (List UInt8)))) : List (TV U) → Option ((List ((List UInt8) × (Int))) × (List (List UInt8)))
  | [⟨(.st 41), a0⟩, ⟨(.int .i64), a1⟩, ⟨(.map .str (.int .i64)), a2⟩, ⟨(.slc .str), a3⟩] => rec_qad a0 a1 a2 a3
  | _ => none
def qad_rmd (rec_qad : TExpr → Int → List ((List UInt8) × (Int)) → List (List UInt8) → Option ((List ((List UInt8) × (Int))) × (List (List UInt8)))) : Mode U := ⟨qad_sh, [⟨100000, .slot 0, [0, 0]⟩, ⟨100001, .cell 100000 0, [0]⟩, ⟨100002, .cell 100001 0, []⟩, ⟨100003, .cell 100000 0, [1]⟩], qad_os, fun ls => .get (qad_in rec_qad ls) qad_tr⟩
def ms57 (rec_qad : TExpr → Int → List ((List UInt8) × (Int)) → List (List UInt8) → Option ((List ((List UInt8) × (Int))) × (List (List UInt8)))) : List (FuncId × Mode U) := (81, (qad_rmd rec_qad)) :: ms56
theorem known57 (rec_qad : TExpr → Int → List ((List UInt8) × (Int)) → List (List UInt8) → Option ((List ((List UInt8) × (Int))) × (List (List UInt8)))) (hrec_qad : ModeOk kk env0 81 (qad_rmd rec_qad)) : Known kk env0 (modesOf (ms57 rec_qad)) := known_cons (by kernel_rfl) hrec_qad known56
def qad_sh3 : StSh := ⟨⟨[2, 3, 14, 15, 16], [100000, 100001, 100002, 100003, 3], [⟨.cell 100003 0, 200300, 9, .str⟩]⟩, [.t (.int .i64), .ptr 3 0, .t (.slc (.st 41)), .t (.int .i64), .t (.int .i64)], [.blk 74 [.clo 51 [.ptr 100001 0, .ptr 100003 0]], .blk 72 [.ptr 100002 0], .mp .str (.int .i64), .blk 23 [.oslc 200300], .blk 52 [.clo 52 [.ptr 100000 0], .clo 53 [.ptr 100000 0]], .row 9 .str]⟩
def qad_o3 : List Out := [⟨.exit 0, ⟨⟨[], [100000, 100001, 100002, 100003], [⟨.cell 100003 0, 200300, 9, .str⟩]⟩, [], [.blk 74 [.clo 51 [.ptr 100001 0, .ptr 100003 0]], .blk 72 [.ptr 100002 0], .mp .str (.int .i64), .blk 23 [.oslc 200300], .row 9 .str]⟩⟩]
def qad_b3 : Code := (nthLoop (bodyOf Tryz.f81) 0)
def qad_rec3 (rec : Int → List (TExpr) → Int → Int → List ((List UInt8) × (Int)) → List (List UInt8) → Option ((List ((List UInt8) × (Int))) × (List (List UInt8)))) : List (TV U) → Option ((List ((List UInt8) × (Int))) × (List (List UInt8)))
  | [⟨(.int .i64), a0⟩, ⟨(.slc (.st 41)), a1⟩, ⟨(.int .i64), a2⟩, ⟨(.int .i64), a3⟩, ⟨(.map .str (.int .i64)), a4⟩, ⟨(.slc .str), a5⟩] => rec a0 a1 a2 a3 a4 a5
  | _ => none
def qad_enc3 : Nat → List (TV U) → Option ((List ((List UInt8) × (Int))) × (List (List UInt8)))
  | 0, [⟨(.map .str (.int .i64)), a0⟩, ⟨(.slc .str), a1⟩] => some (a0, a1)
  | _, _ => none
def qad_dec3 : (List ((List UInt8) × (Int))) × (List (List UInt8)) → Nat × List (TV U) := fun x => (0, [⟨(.map .str (.int .i64)), x.1⟩, ⟨(.slc .str), x.2⟩])
def qad_tr3 : (List ((List UInt8) × (Int))) × (List (List UInt8)) → Tr (Nat × List (TV U)) := fun x => .ret (0, [⟨(.map .str (.int .i64)), x.1⟩, ⟨(.slc .str), x.2⟩])
def qad_lp3 (rec_qad : TExpr → Int → List ((List UInt8) × (Int)) → List (List UInt8) → Option ((List ((List UInt8) × (Int))) × (List (List UInt8)))) : Lift.Loop U := ⟨qad_sh3, qad_o3, fun ls => .get (qad_rec3 (qad_l3 rec_qad) ls) qad_tr3⟩
theorem qad_ok3 (rec_qad : TExpr → Int → List ((List UInt8) × (Int)) → List (List UInt8) → Option ((List ((List UInt8) × (Int))) × (List (List UInt8)))) (hrec_qad : ModeOk kk env0 81 (qad_rmd rec_qad)) : LoopR kk env0 Tryz.f81.ntmps qad_b3 (qad_lp3 rec_qad) :=
  loop_of qad_enc3 qad_dec3 (fun n => qad_rec3 (qad_i3 rec_qad n)) (kitOk_of eqOk mixed (known57 rec_qad hrec_qad)) (L := jnL) (loopsOk_of (bs := []) (by kernel_rfl) trivial) (fun _ => rfl) (by intro i qs r h; unfold qad_enc3 at h; split at h <;> cases h <;> rfl)
    (by intro ls r h; unfold qad_rec3 at h; split at h <;> cases h)
    (by intro n ls r h; unfold qad_rec3 at h; split at h; exact (show _ = qad_t3 rec_qad (qad_i3 rec_qad n) _ _ _ _ _ _ from by kernel_rfl).trans h; cases h) (by rw [qad_l3, sealF_eq])
def qad_L (rec_qad : TExpr → Int → List ((List UInt8) × (Int)) → List (List UInt8) → Option ((List ((List UInt8) × (Int))) × (List (List UInt8)))) : Nat → Option (Lift.Loop U) := fun n => bif Nat.beq n joinKey then some joinMark else bif Nat.beq n 3 then some (qad_lp3 rec_qad) else none
def qad_enc : Nat → List (TV U) → Option ((List ((List UInt8) × (Int))) × (List (List UInt8)))
  | 0, [⟨(.map .str (.int .i64)), a0⟩, ⟨(.slc .str), a1⟩] => some (a0, a1)
  | _, _ => none
def qad_dec : (List ((List UInt8) × (Int))) × (List (List UInt8)) → Nat × List (TV U) := fun x => (0, [⟨(.map .str (.int .i64)), x.1⟩, ⟨(.slc .str), x.2⟩])
def qad_md : Mode U := qad_rmd qad
theorem qad_step (rec_qad : TExpr → Int → List ((List UInt8) × (Int)) → List (List UInt8) → Option ((List ((List UInt8) × (Int))) × (List (List UInt8)))) (hrec_qad : ModeOk kk env0 81 (qad_rmd rec_qad)) : LoopsOk (Kit.withModes kk (modesOf (ms57 rec_qad))) env0 Tryz.f81.ntmps (qad_L rec_qad) (bodyOf Tryz.f81) := loopsOk_of (bs := [qad_b3]) (by kernel_rfl) ⟨.inr ⟨_, by kernel_rfl, LoopOk.of_round (qad_ok3 rec_qad hrec_qad)⟩, trivial⟩
theorem qad_post : ModeOk kk env0 81 (qad_rmd qad) :=
  rec_of (K := kk) (F := qad) qad_rmd qad_i (by rw [qad, sealF_eq]) (rec_zero (by intro ls r h; unfold qad_in at h; split at h <;> cases h)) (fun n ih => fn_of (fn := Tryz.f81) qad_enc qad_dec (kitOk_of eqOk mixed (known57 (qad_i n) ih)) (by kernel_rfl) (qad_step (qad_i n) ih) (fun _ => rfl) (by intro i qs r h; unfold qad_enc at h; split at h <;> cases h <;> rfl)
    (by intro ls r h; unfold qad_in at h; split at h; exact (show _ = qad_f (qad_i n) _ _ _ _ from by kernel_rfl).trans h; cases h))
def ms58 : List (FuncId × Mode U) := (81, qad_md) :: ms56
theorem known58 : Known kk env0 (modesOf ms58) := known_cons (by kernel_rfl) qad_post known56
def qal_sh : StSh := ⟨⟨[0, 1, 2], [100000, 100001, 100002, 100003], [⟨.cell 100003 0, 200300, 9, .str⟩]⟩, [.agg [.clo 52 [.ptr 100000 0], .clo 53 [.ptr 100000 0]], .t (.slc (.st 43)), .t (.int .i64)], [.blk 74 [.clo 51 [.ptr 100001 0, .ptr 100003 0]], .blk 72 [.ptr 100002 0], .mp .str (.int .i64), .blk 23 [.oslc 200300], .row 9 .str]⟩
def qal_os : List StSh := [⟨⟨[], [100000, 100001, 100002, 100003], [⟨.cell 100003 0, 200300, 9, .str⟩]⟩, [], [.blk 74 [.clo 51 [.ptr 100001 0, .ptr 100003 0]], .blk 72 [.ptr 100002 0], .mp .str (.int .i64), .blk 23 [.oslc 200300], .row 9 .str]⟩]
def qal_tr : (List ((List UInt8) × (Int))) × (List (List UInt8)) → Tr (Nat × List (TV U)) := fun x => .ret (0, [⟨(.map .str (.int .i64)), x.1⟩, ⟨(.slc .str), x.2⟩])
def qal_in (rec_qal : List (TStmt) → Int → List ((List UInt8) × (Int)) → List (List UInt8) → Option ((List ((List UInt8) × (Int))) × (List (List UInt8)))) : List (TV U) → Option ((List ((List UInt8) × (Int))) × (List (List UInt8)))
  | [⟨(.slc (.st 43)), a0⟩, ⟨(.int .i64), a1⟩, ⟨(.map .str (.int .i64)), a2⟩, ⟨(.slc .str), a3⟩] => rec_qal a0 a1 a2 a3
  | _ => none
def qal_rmd (rec_qal : List (TStmt) → Int → List ((List UInt8) × (Int)) → List (List UInt8) → Option ((List ((List UInt8) × (Int))) × (List (List UInt8)))) : Mode U := ⟨qal_sh, [⟨100000, .slot 0, [0, 0]⟩, ⟨100001, .cell 100000 0, [0]⟩, ⟨100002, .cell 100001 0, []⟩, ⟨100003, .cell 100000 0, [1]⟩], qal_os, fun ls => .get (qal_in rec_qal ls) qal_tr⟩
def ms59 (rec_qal : List (TStmt) → Int → List ((List UInt8) × (Int)) → List (List UInt8) → Option ((List ((List UInt8) × (Int))) × (List (List UInt8)))) : List (FuncId × Mode U) := (64, (qal_rmd rec_qal)) :: ms58
theorem known59 (rec_qal : List (TStmt) → Int → List ((List UInt8) × (Int)) → List (List UInt8) → Option ((List ((List UInt8) × (Int))) × (List (List UInt8)))) (hrec_qal : ModeOk kk env0 64 (qal_rmd rec_qal)) : Known kk env0 (modesOf (ms59 rec_qal)) := known_cons (by kernel_rfl) hrec_qal known58
def qal_sh2 : StSh := ⟨⟨[2, 3, 8, 9, 10], [100000, 100001, 100002, 100003, 3], [⟨.cell 100003 0, 200300, 9, .str⟩]⟩, [.t (.int .i64), .ptr 3 0, .t (.slc (.st 43)), .t (.int .i64), .t (.int .i64)], [.blk 74 [.clo 51 [.ptr 100001 0, .ptr 100003 0]], .blk 72 [.ptr 100002 0], .mp .str (.int .i64), .blk 23 [.oslc 200300], .blk 52 [.clo 52 [.ptr 100000 0], .clo 53 [.ptr 100000 0]], .row 9 .str]⟩
def qal_o2 : List Out := [⟨.exit 0, ⟨⟨[], [100000, 100001, 100002, 100003], [⟨.cell 100003 0, 200300, 9, .str⟩]⟩, [], [.blk 74 [.clo 51 [.ptr 100001 0, .ptr 100003 0]], .blk 72 [.ptr 100002 0], .mp .str (.int .i64), .blk 23 [.oslc 200300], .row 9 .str]⟩⟩]
def qal_b2 : Code := (nthLoop (bodyOf Tryz.f64) 0)
def qal_rec2 (rec : Int → List (TStmt) → Int → Int → List ((List UInt8) × (Int)) → List (List UInt8) → Option ((List ((List UInt8) × (Int))) × (List (List UInt8)))) : List (TV U) → Option ((List ((List UInt8) × (Int))) × (List (List UInt8)))
  | [⟨(.int .i64), a0⟩, ⟨(.slc (.st 43)), a1⟩, ⟨(.int .i64), a2⟩, ⟨(.int .i64), a3⟩, ⟨(.map .str (.int .i64)), a4⟩, ⟨(.slc .str), a5⟩] => rec a0 a1 a2 a3 a4 a5
  | _ => none
def qal_enc2 : Nat → List (TV U) → Option ((List ((List UInt8) × (Int))) × (List (List UInt8)))
  | 0, [⟨(.map .str (.int .i64)), a0⟩, ⟨(.slc .str), a1⟩] => some (a0, a1)
  | _, _ => none
def qal_dec2 : (List ((List UInt8) × (Int))) × (List (List UInt8)) → Nat × List (TV U) := fun x => (0, [⟨(.map .str (.int .i64)), x.1⟩, ⟨(.slc .str), x.2⟩])
def qal_tr2 : (List ((List UInt8) × (Int))) × (List (List UInt8)) → Tr (Nat × List (TV U)) := fun x => .ret (0, [⟨(.map .str (.int .i64)), x.1⟩, ⟨(.slc .str), x.2⟩])
def qal_lp2 (rec_qal : List (TStmt) → Int → List ((List UInt8) × (Int)) → List (List UInt8) → Option ((List ((List UInt8) × (Int))) × (List (List UInt8)))) : Lift.Loop U := ⟨qal_sh2, qal_o2, fun ls => .get (qal_rec2 (qal_l2 rec_qal) ls) qal_tr2⟩
theorem qal_ok2 (rec_qal : List (TStmt) → Int → List ((List UInt8) × (Int)) → List (List UInt8) → Option ((List ((List UInt8) × (Int))) × (List (List UInt8)))) (hrec_qal : ModeOk kk env0 64 (qal_rmd rec_qal)) : LoopR kk env0 Tryz.f64.ntmps qal_b2 (qal_lp2 rec_qal) :=
  loop_of qal_enc2 qal_dec2 (fun n => qal_rec2 (qal_i2 rec_qal n)) (kitOk_of eqOk mixed (known59 rec_qal hrec_qal)) (L := jnL) (loopsOk_of (bs := []) (by kernel_rfl) trivial) (fun _ => rfl) (by intro i qs r h; unfold qal_enc2 at h; split at h <;> cases h <;> rfl)
    (by intro ls r h; unfold qal_rec2 at h; split at h <;> cases h)
    (by intro n ls r h; unfold qal_rec2 at h; split at h; exact (show _ = qal_t2 rec_qal (qal_i2 rec_qal n) _ _ _ _ _ _ from by kernel_rfl).trans h; cases h) (by rw [qal_l2, sealF_eq])
def qal_L (rec_qal : List (TStmt) → Int → List ((List UInt8) × (Int)) → List (List UInt8) → Option ((List ((List UInt8) × (Int))) × (List (List UInt8)))) : Nat → Option (Lift.Loop U) := fun n => bif Nat.beq n joinKey then some joinMark else bif Nat.beq n 2 then some (qal_lp2 rec_qal) else none
def qal_enc : Nat → List (TV U) → Option ((List ((List UInt8) × (Int))) × (List (List UInt8)))
  | 0, [⟨(.map .str (.int .i64)), a0⟩, ⟨(.slc .str), a1⟩] => some (a0, a1)
  | _, _ => none
def qal_dec : (List ((List UInt8) × (Int))) × (List (List UInt8)) → Nat × List (TV U) := fun x => (0, [⟨(.map .str (.int .i64)), x.1⟩, ⟨(.slc .str), x.2⟩])
def qal_md : Mode U := qal_rmd qal
theorem qal_step (rec_qal : List (TStmt) → Int → List ((List UInt8) × (Int)) → List (List UInt8) → Option ((List ((List UInt8) × (Int))) × (List (List UInt8)))) (hrec_qal : ModeOk kk env0 64 (qal_rmd rec_qal)) : LoopsOk (Kit.withModes kk (modesOf (ms59 rec_qal))) env0 Tryz.f64.ntmps (qal_L rec_qal) (bodyOf Tryz.f64) := loopsOk_of (bs := [qal_b2]) (by kernel_rfl) ⟨.inr ⟨_, by kernel_rfl, LoopOk.of_round (qal_ok2 rec_qal hrec_qal)⟩, trivial⟩
theorem qal_post : ModeOk kk env0 64 (qal_rmd qal) :=
  rec_of (K := kk) (F := qal) qal_rmd qal_i (by rw [qal, sealF_eq]) (rec_zero (by intro ls r h; unfold qal_in at h; split at h <;> cases h)) (fun n ih => fn_of (fn := Tryz.f64) qal_enc qal_dec (kitOk_of eqOk mixed (known59 (qal_i n) ih)) (by kernel_rfl) (qal_step (qal_i n) ih) (fun _ => rfl) (by intro i qs r h; unfold qal_enc at h; split at h <;> cases h <;> rfl)
    (by intro ls r h; unfold qal_in at h; split at h; exact (show _ = qal_f (qal_i n) _ _ _ _ from by kernel_rfl).trans h; cases h))
def ms60 : List (FuncId × Mode U) := (64, qal_md) :: ms58
theorem known60 : Known kk env0 (modesOf ms60) := known_cons (by kernel_rfl) qal_post known58
def qah_sh2 : StSh := ⟨⟨[2, 7, 8, 9], [100000, 100001, 100002, 100003, 2], [⟨.cell 100003 0, 200300, 9, .str⟩]⟩, [.ptr 2 0, .t (.slc (.st 38)), .t (.int .i64), .t (.int .i64)], [.blk 74 [.clo 51 [.ptr 100001 0, .ptr 100003 0]], .blk 72 [.ptr 100002 0], .mp .str (.int .i64), .blk 23 [.oslc 200300], .blk 52 [.clo 52 [.ptr 100000 0], .clo 53 [.ptr 100000 0]], .row 9 .str]⟩
def qah_o2 : List Out := [⟨.exit 0, ⟨⟨[], [100000, 100001, 100002, 100003], [⟨.cell 100003 0, 200300, 9, .str⟩]⟩, [], [.blk 74 [.clo 51 [.ptr 100001 0, .ptr 100003 0]], .blk 72 [.ptr 100002 0], .mp .str (.int .i64), .blk 23 [.oslc 200300], .row 9 .str]⟩⟩]
def qah_b2 : Code := (nthLoop (bodyOf Tryz.f29) 0)
def qah_rec2 (rec : List (TThread) → Int → Int → List ((List UInt8) × (Int)) → List (List UInt8) → Option ((List ((List UInt8) × (Int))) × (List (List UInt8)))) : List (TV U) → Option ((List ((List UInt8) × (Int))) × (List (List UInt8)))
  | [⟨(.slc (.st 38)), a0⟩, ⟨(.int .i64), a1⟩, ⟨(.int .i64), a2⟩, ⟨(.map .str (.int .i64)), a3⟩, ⟨(.slc .str), a4⟩] => rec a0 a1 a2 a3 a4
  | _ => none
def qah_enc2 : Nat → List (TV U) → Option ((List ((List UInt8) × (Int))) × (List (List UInt8)))
  | 0, [⟨(.map .str (.int .i64)), a0⟩, ⟨(.slc .str), a1⟩] => some (a0, a1)
  | _, _ => none
def qah_dec2 : (List ((List UInt8) × (Int))) × (List (List UInt8)) → Nat × List (TV U) := fun x => (0, [⟨(.map .str (.int .i64)), x.1⟩, ⟨(.slc .str), x.2⟩])
def qah_tr2 : (List ((List UInt8) × (Int))) × (List (List UInt8)) → Tr (Nat × List (TV U)) := fun x => .ret (0, [⟨(.map .str (.int .i64)), x.1⟩, ⟨(.slc .str), x.2⟩])
def qah_lp2 : Lift.Loop U := ⟨qah_sh2, qah_o2, fun ls => .get (qah_rec2 qah_l2 ls) qah_tr2⟩
theorem qah_ok2 : LoopR kk env0 Tryz.f29.ntmps qah_b2 qah_lp2 :=
  loop_of qah_enc2 qah_dec2 (fun n => qah_rec2 (qah_i2 n)) (kitOk_of eqOk mixed known60) (L := jnL) (loopsOk_of (bs := []) (by kernel_rfl) trivial) (fun _ => rfl) (by intro i qs r h; unfold qah_enc2 at h; split at h <;> cases h <;> rfl)
    (by intro ls r h; unfold qah_rec2 at h; split at h <;> cases h)
    (by intro n ls r h; unfold qah_rec2 at h; split at h; exact (show _ = qah_t2 (qah_i2 n) _ _ _ _ _ from by kernel_rfl).trans h; cases h) (by rw [qah_l2, sealF_eq])
def qah_sh : StSh := ⟨⟨[0, 1], [100000, 100001, 100002, 100003], [⟨.cell 100003 0, 200300, 9, .str⟩]⟩, [.agg [.clo 52 [.ptr 100000 0], .clo 53 [.ptr 100000 0]], .t (.st 26)], [.blk 74 [.clo 51 [.ptr 100001 0, .ptr 100003 0]], .blk 72 [.ptr 100002 0], .mp .str (.int .i64), .blk 23 [.oslc 200300], .row 9 .str]⟩
def qah_os : List StSh := [⟨⟨[], [100000, 100001, 100002, 100003], [⟨.cell 100003 0, 200300, 9, .str⟩]⟩, [], [.blk 74 [.clo 51 [.ptr 100001 0, .ptr 100003 0]], .blk 72 [.ptr 100002 0], .mp .str (.int .i64), .blk 23 [.oslc 200300], .row 9 .str]⟩]
def qah_tr : (List ((List UInt8) × (Int))) × (List (List UInt8)) → Tr (Nat × List (TV U)) := fun x => .ret (0, [⟨(.map .str (.int .i64)), x.1⟩, ⟨(.slc .str), x.2⟩])
def qah_L : Nat → Option (Lift.Loop U) := fun n => bif Nat.beq n joinKey then some joinMark else bif Nat.beq n 2 then some qah_lp2 else none
def qah_enc : Nat → List (TV U) → Option ((List ((List UInt8) × (Int))) × (List (List UInt8)))
  | 0, [⟨(.map .str (.int .i64)), a0⟩, ⟨(.slc .str), a1⟩] => some (a0, a1)
  | _, _ => none
def qah_dec : (List ((List UInt8) × (Int))) × (List (List UInt8)) → Nat × List (TV U) := fun x => (0, [⟨(.map .str (.int .i64)), x.1⟩, ⟨(.slc .str), x.2⟩])
def qah_in : List (TV U) → Option ((List ((List UInt8) × (Int))) × (List (List UInt8)))
  | [⟨(.st 26), a0⟩, ⟨(.map .str (.int .i64)), a1⟩, ⟨(.slc .str), a2⟩] => qah a0 a1 a2
  | _ => none
def qah_md : Mode U := ⟨qah_sh, [⟨100000, .slot 0, [0, 0]⟩, ⟨100001, .cell 100000 0, [0]⟩, ⟨100002, .cell 100001 0, []⟩, ⟨100003, .cell 100000 0, [1]⟩], qah_os, fun ls => .get (qah_in ls) qah_tr⟩
theorem qah_post : ModeOk kk env0 29 qah_md :=
  fn_of (fn := Tryz.f29) qah_enc qah_dec (kitOk_of eqOk mixed known60) (by kernel_rfl) (L := qah_L) (loopsOk_of (bs := [qah_b2]) (by kernel_rfl) ⟨.inr ⟨_, by kernel_rfl, LoopOk.of_round (qah_ok2)⟩, trivial⟩) (fun _ => rfl) (by intro i qs r h; unfold qah_enc at h; split at h <;> cases h <;> rfl)
    (by intro ls r h; unfold qah_in at h; split at h; rw [qah, sealF_eq] at h; exact Eq.trans (by kernel_rfl) h; cases h)
def ms61 : List (FuncId × Mode U) := (29, qah_md) :: ms60
theorem known61 : Known kk env0 (modesOf ms61) := known_cons (by kernel_rfl) qah_post known60
def qaP_sh : StSh := ⟨⟨[0], [], [⟨.slot 0, 0, 9, .str⟩]⟩, [.oslc 0], [.row 9 .str]⟩
def qaP_os : List StSh := [⟨⟨[0], [], [⟨.slot 0, 100000, 9, .str⟩]⟩, [.oslc 100000], [.row 9 .str]⟩]
def qaP_tr : (List (List UInt8)) → Tr (Nat × List (TV U)) := fun x => .ret (0, [⟨(.slc .str), x⟩])
def qaP_enc : Nat → List (TV U) → Option ((List (List UInt8)))
  | 0, [⟨(.slc .str), a0⟩] => some a0
  | _, _ => none
def qaP_dec : (List (List UInt8)) → Nat × List (TV U) := fun x => (0, [⟨(.slc .str), x⟩])
def qaP_in : List (TV U) → Option ((List (List UInt8)))
  | [⟨(.slc .str), a0⟩] => qaP a0
  | _ => none
def qaP_md : Mode U := ⟨qaP_sh, [], qaP_os, fun ls => .get (qaP_in ls) qaP_tr⟩
theorem qaP_post : ModeOk kk env0 54 qaP_md :=
  fn_of (fn := Tryz.f54) qaP_enc qaP_dec (kitOk_of eqOk mixed known61) (by kernel_rfl) (L := jnL) (loopsOk_of (bs := []) (by kernel_rfl) trivial) (fun _ => rfl) (by intro i qs r h; unfold qaP_enc at h; split at h <;> cases h <;> rfl)
    (by intro ls r h; unfold qaP_in at h; split at h; rw [qaP, sealF_eq] at h; exact Eq.trans (by kernel_rfl) h; cases h)
def ms62 : List (FuncId × Mode U) := (54, qaP_md) :: ms61
theorem known62 : Known kk env0 (modesOf ms62) := known_cons (by kernel_rfl) qaP_post known61
def qa7_sh5 : StSh := ⟨⟨[1, 3, 5, 16, 17, 18], [1, 3, 5, 4, 12], [⟨.cell 3 0, 20150, 9, .str⟩]⟩, [.ptr 1 0, .ptr 3 0, .ptr 5 0, .t (.slc (.st 46)), .t (.int .i64), .t (.int .i64)], [.blk 26 [.t (.slc (.st 46)), .t (.slc .str), .t (.slc (.st 38))], .blk 23 [.oslc 20150], .blk 74 [.clo 51 [.ptr 4 0, .ptr 3 0]], .blk 72 [.ptr 12 0], .mp .str (.int .i64), .row 9 .str]⟩
def qa7_o5 : List Out := [⟨.exit 0, ⟨⟨[1, 3, 5], [1, 3, 5, 4, 12], [⟨.cell 3 0, 20150, 9, .str⟩]⟩, [.ptr 1 0, .ptr 3 0, .ptr 5 0], [.blk 26 [.t (.slc (.st 46)), .t (.slc .str), .t (.slc (.st 38))], .blk 23 [.oslc 20150], .blk 74 [.clo 51 [.ptr 4 0, .ptr 3 0]], .blk 72 [.ptr 12 0], .mp .str (.int .i64), .row 9 .str]⟩⟩]
def qa7_b5 : Code := (nthLoop (bodyOf Tryz.f22) 0)
def qa7_rec5 (rec : List (TCell) → Int → Int → List (TCell) → List (List UInt8) → List (TThread) → List ((List UInt8) × (Int)) → List (List UInt8) → Option ((List (TCell)) × (List (List UInt8)) × (List (TThread)) × (List ((List UInt8) × (Int))) × (List (List UInt8)))) : List (TV U) → Option ((List (TCell)) × (List (List UInt8)) × (List (TThread)) × (List ((List UInt8) × (Int))) × (List (List UInt8)))
  | [⟨(.slc (.st 46)), a0⟩, ⟨(.int .i64), a1⟩, ⟨(.int .i64), a2⟩, ⟨(.slc (.st 46)), a3⟩, ⟨(.slc .str), a4⟩, ⟨(.slc (.st 38)), a5⟩, ⟨(.map .str (.int .i64)), a6⟩, ⟨(.slc .str), a7⟩] => rec a0 a1 a2 a3 a4 a5 a6 a7
  | _ => none
def qa7_enc5 : Nat → List (TV U) → Option ((List (TCell)) × (List (List UInt8)) × (List (TThread)) × (List ((List UInt8) × (Int))) × (List (List UInt8)))
  | 0, [⟨(.slc (.st 46)), a0⟩, ⟨(.slc .str), a1⟩, ⟨(.slc (.st 38)), a2⟩, ⟨(.map .str (.int .i64)), a3⟩, ⟨(.slc .str), a4⟩] => some (a0, a1, a2, a3, a4)
  | _, _ => none
def qa7_dec5 : (List (TCell)) × (List (List UInt8)) × (List (TThread)) × (List ((List UInt8) × (Int))) × (List (List UInt8)) → Nat × List (TV U) := fun x => (0, [⟨(.slc (.st 46)), x.1⟩, ⟨(.slc .str), x.2.1⟩, ⟨(.slc (.st 38)), x.2.2.1⟩, ⟨(.map .str (.int .i64)), x.2.2.2.1⟩, ⟨(.slc .str), x.2.2.2.2⟩])
def qa7_tr5 : (List (TCell)) × (List (List UInt8)) × (List (TThread)) × (List ((List UInt8) × (Int))) × (List (List UInt8)) → Tr (Nat × List (TV U)) := fun x => .ret (0, [⟨(.slc (.st 46)), x.1⟩, ⟨(.slc .str), x.2.1⟩, ⟨(.slc (.st 38)), x.2.2.1⟩, ⟨(.map .str (.int .i64)), x.2.2.2.1⟩, ⟨(.slc .str), x.2.2.2.2⟩])
def qa7_lp5 : Lift.Loop U := ⟨qa7_sh5, qa7_o5, fun ls => .get (qa7_rec5 qa7_l5 ls) qa7_tr5⟩
theorem qa7_ok5 : LoopR kk env0 Tryz.f22.ntmps qa7_b5 qa7_lp5 :=
  loop_of qa7_enc5 qa7_dec5 (fun n => qa7_rec5 (qa7_i5 n)) (kitOk_of eqOk mixed known62) (L := jnL) (loopsOk_of (bs := []) (by kernel_rfl) trivial) (fun _ => rfl) (by intro i qs r h; unfold qa7_enc5 at h; split at h <;> cases h <;> rfl)
    (by intro ls r h; unfold qa7_rec5 at h; split at h <;> cases h)
    (by intro n ls r h; unfold qa7_rec5 at h; split at h; exact (show _ = qa7_t5 (qa7_i5 n) _ _ _ _ _ _ _ _ from by kernel_rfl).trans h; cases h) (by rw [qa7_l5, sealF_eq])
def qa7_sh10 : StSh := ⟨⟨[1, 3, 5, 28, 29, 30], [1, 3, 5, 4, 12], [⟨.cell 3 0, 20150, 9, .str⟩]⟩, [.ptr 1 0, .ptr 3 0, .ptr 5 0, .t (.slc .str), .t (.int .i64), .t (.int .i64)], [.blk 26 [.t (.slc (.st 46)), .t (.slc .str), .t (.slc (.st 38))], .blk 23 [.oslc 20150], .blk 74 [.clo 51 [.ptr 4 0, .ptr 3 0]], .blk 72 [.ptr 12 0], .mp .str (.int .i64), .row 9 .str]⟩
def qa7_o10 : List Out := [⟨.exit 2, ⟨⟨[1, 3, 5], [1, 3, 5, 4, 12], [⟨.cell 3 0, 20150, 9, .str⟩]⟩, [.ptr 1 0, .ptr 3 0, .ptr 5 0], [.blk 26 [.t (.slc (.st 46)), .t (.slc .str), .t (.slc (.st 38))], .blk 23 [.oslc 20150], .blk 74 [.clo 51 [.ptr 4 0, .ptr 3 0]], .blk 72 [.ptr 12 0], .mp .str (.int .i64), .row 9 .str]⟩⟩]
def qa7_b10 : Code := (nthLoop (bodyOf Tryz.f22) 1)
def qa7_rec10 (rec : List (List UInt8) → Int → Int → List (TCell) → List (List UInt8) → List (TThread) → List ((List UInt8) × (Int)) → List (List UInt8) → Option ((List (TCell)) × (List (List UInt8)) × (List (TThread)) × (List ((List UInt8) × (Int))) × (List (List UInt8)))) : List (TV U) → Option ((List (TCell)) × (List (List UInt8)) × (List (TThread)) × (List ((List UInt8) × (Int))) × (List (List UInt8)))
  | [⟨(.slc .str), a0⟩, ⟨(.int .i64), a1⟩, ⟨(.int .i64), a2⟩, ⟨(.slc (.st 46)), a3⟩, ⟨(.slc .str), a4⟩, ⟨(.slc (.st 38)), a5⟩, ⟨(.map .str (.int .i64)), a6⟩, ⟨(.slc .str), a7⟩] => rec a0 a1 a2 a3 a4 a5 a6 a7
  | _ => none
def qa7_enc10 : Nat → List (TV U) → Option ((List (TCell)) × (List (List UInt8)) × (List (TThread)) × (List ((List UInt8) × (Int))) × (List (List UInt8)))
  | 0, [⟨(.slc (.st 46)), a0⟩, ⟨(.slc .str), a1⟩, ⟨(.slc (.st 38)), a2⟩, ⟨(.map .str (.int .i64)), a3⟩, ⟨(.slc .str), a4⟩] => some (a0, a1, a2, a3, a4)
  | _, _ => none
def qa7_dec10 : (List (TCell)) × (List (List UInt8)) × (List (TThread)) × (List ((List UInt8) × (Int))) × (List (List UInt8)) → Nat × List (TV U) := fun x => (0, [⟨(.slc (.st 46)), x.1⟩, ⟨(.slc .str), x.2.1⟩, ⟨(.slc (.st 38)), x.2.2.1⟩, ⟨(.map .str (.int .i64)), x.2.2.2.1⟩, ⟨(.slc .str), x.2.2.2.2⟩])
def qa7_tr10 : (List (TCell)) × (List (List UInt8)) × (List (TThread)) × (List ((List UInt8) × (Int))) × (List (List UInt8)) → Tr (Nat × List (TV U)) := fun x => .ret (0, [⟨(.slc (.st 46)), x.1⟩, ⟨(.slc .str), x.2.1⟩, ⟨(.slc (.st 38)), x.2.2.1⟩, ⟨(.map .str (.int .i64)), x.2.2.2.1⟩, ⟨(.slc .str), x.2.2.2.2⟩])
def qa7_lp10 : Lift.Loop U := ⟨qa7_sh10, qa7_o10, fun ls => .get (qa7_rec10 qa7_l10 ls) qa7_tr10⟩
theorem qa7_ok10 : LoopR kk env0 Tryz.f22.ntmps qa7_b10 qa7_lp10 :=
  loop_of qa7_enc10 qa7_dec10 (fun n => qa7_rec10 (qa7_i10 n)) (kitOk_of eqOk mixed known62) (L := jnL) (loopsOk_of (bs := []) (by kernel_rfl) trivial) (fun _ => rfl) (by intro i qs r h; unfold qa7_enc10 at h; split at h <;> cases h <;> rfl)
    (by intro ls r h; unfold qa7_rec10 at h; split at h <;> cases h)
    (by intro n ls r h; unfold qa7_rec10 at h; split at h; exact (show _ = qa7_t10 (qa7_i10 n) _ _ _ _ _ _ _ _ from by kernel_rfl).trans h; cases h) (by rw [qa7_l10, sealF_eq])
def qa7_sh15 : StSh := ⟨⟨[1, 3, 5, 39, 40, 41], [1, 3, 5, 4, 12], [⟨.cell 3 0, 20150, 9, .str⟩]⟩, [.ptr 1 0, .ptr 3 0, .ptr 5 0, .t (.slc (.st 38)), .t (.int .i64), .t (.int .i64)], [.blk 26 [.t (.slc (.st 46)), .t (.slc .str), .t (.slc (.st 38))], .blk 23 [.oslc 20150], .blk 74 [.clo 51 [.ptr 4 0, .ptr 3 0]], .blk 72 [.ptr 12 0], .mp .str (.int .i64), .row 9 .str]⟩
def qa7_o15 : List Out := [⟨.exit 4, ⟨⟨[1, 3, 5], [1, 3, 5, 4, 12], [⟨.cell 3 0, 20150, 9, .str⟩]⟩, [.ptr 1 0, .ptr 3 0, .ptr 5 0], [.blk 26 [.t (.slc (.st 46)), .t (.slc .str), .t (.slc (.st 38))], .blk 23 [.oslc 20150], .blk 74 [.clo 51 [.ptr 4 0, .ptr 3 0]], .blk 72 [.ptr 12 0], .mp .str (.int .i64), .row 9 .str]⟩⟩]
def qa7_b15 : Code := (nthLoop (bodyOf Tryz.f22) 2)
def qa7_rec15 (rec : List (TThread) → Int → Int → List (TCell) → List (List UInt8) → List (TThread) → List ((List UInt8) × (Int)) → List (List UInt8) → Option ((List (TCell)) × (List (List UInt8)) × (List (TThread)) × (List ((List UInt8) × (Int))) × (List (List UInt8)))) : List (TV U) → Option ((List (TCell)) × (List (List UInt8)) × (List (TThread)) × (List ((List UInt8) × (Int))) × (List (List UInt8)))
  | [⟨(.slc (.st 38)), a0⟩, ⟨(.int .i64), a1⟩, ⟨(.int .i64), a2⟩, ⟨(.slc (.st 46)), a3⟩, ⟨(.slc .str), a4⟩, ⟨(.slc (.st 38)), a5⟩, ⟨(.map .str (.int .i64)), a6⟩, ⟨(.slc .str), a7⟩] => rec a0 a1 a2 a3 a4 a5 a6 a7
  | _ => none
def qa7_enc15 : Nat → List (TV U) → Option ((List (TCell)) × (List (List UInt8)) × (List (TThread)) × (List ((List UInt8) × (Int))) × (List (List UInt8)))
  | 0, [⟨(.slc (.st 46)), a0⟩, ⟨(.slc .str), a1⟩, ⟨(.slc (.st 38)), a2⟩, ⟨(.map .str (.int .i64)), a3⟩, ⟨(.slc .str), a4⟩] => some (a0, a1, a2, a3, a4)
  | _, _ => none
def qa7_dec15 : (List (TCell)) × (List (List UInt8)) × (List (TThread)) × (List ((List UInt8) × (Int))) × (List (List UInt8)) → Nat × List (TV U) := fun x => (0, [⟨(.slc (.st 46)), x.1⟩, ⟨(.slc .str), x.2.1⟩, ⟨(.slc (.st 38)), x.2.2.1⟩, ⟨(.map .str (.int .i64)), x.2.2.2.1⟩, ⟨(.slc .str), x.2.2.2.2⟩])
def qa7_tr15 : (List (TCell)) × (List (List UInt8)) × (List (TThread)) × (List ((List UInt8) × (Int))) × (List (List UInt8)) → Tr (Nat × List (TV U)) := fun x => .ret (0, [⟨(.slc (.st 46)), x.1⟩, ⟨(.slc .str), x.2.1⟩, ⟨(.slc (.st 38)), x.2.2.1⟩, ⟨(.map .str (.int .i64)), x.2.2.2.1⟩, ⟨(.slc .str), x.2.2.2.2⟩])
def qa7_lp15 : Lift.Loop U := ⟨qa7_sh15, qa7_o15, fun ls => .get (qa7_rec15 qa7_l15 ls) qa7_tr15⟩
theorem qa7_ok15 : LoopR kk env0 Tryz.f22.ntmps qa7_b15 qa7_lp15 :=
  loop_of qa7_enc15 qa7_dec15 (fun n => qa7_rec15 (qa7_i15 n)) (kitOk_of eqOk mixed known62) (L := jnL) (loopsOk_of (bs := []) (by kernel_rfl) trivial) (fun _ => rfl) (by intro i qs r h; unfold qa7_enc15 at h; split at h <;> cases h <;> rfl)
    (by intro ls r h; unfold qa7_rec15 at h; split at h <;> cases h)
    (by intro n ls r h; unfold qa7_rec15 at h; split at h; exact (show _ = qa7_t15 (qa7_i15 n) _ _ _ _ _ _ _ _ from by kernel_rfl).trans h; cases h) (by rw [qa7_l15, sealF_eq])
def qa7_sh : StSh := ⟨⟨[0], [], []⟩, [.t (.st 26)], []⟩
def qa7_os : List StSh := [⟨⟨[0], [], [⟨.slot 0, 100000, 9, .str⟩]⟩, [.oslc 100000], [.row 9 .str]⟩]
def qa7_tr : (List (List UInt8)) → Tr (Nat × List (TV U)) := fun x => .ret (0, [⟨(.slc .str), x⟩])
def qa7_L : Nat → Option (Lift.Loop U) := fun n => bif Nat.beq n joinKey then some joinMark else bif Nat.beq n 5 then some qa7_lp5 else bif Nat.beq n 10 then some qa7_lp10 else bif Nat.beq n 15 then some qa7_lp15 else none
def qa7_enc : Nat → List (TV U) → Option ((List (List UInt8)))
  | 0, [⟨(.slc .str), a0⟩] => some a0
  | _, _ => none
def qa7_dec : (List (List UInt8)) → Nat × List (TV U) := fun x => (0, [⟨(.slc .str), x⟩])
def qa7_in : List (TV U) → Option ((List (List UInt8)))
  | [⟨(.st 26), a0⟩] => qa7 a0
  | _ => none
def qa7_md : Mode U := ⟨qa7_sh, [], qa7_os, fun ls => .get (qa7_in ls) qa7_tr⟩
theorem qa7_post : ModeOk kk env0 22 qa7_md :=
  fn_of (fn := Tryz.f22) qa7_enc qa7_dec (kitOk_of eqOk mixed known62) (by kernel_rfl) (L := qa7_L) (loopsOk_of (bs := [qa7_b5, qa7_b10, qa7_b15]) (by kernel_rfl) ⟨.inr ⟨_, by kernel_rfl, LoopOk.of_round (qa7_ok5)⟩, .inr ⟨_, by kernel_rfl, LoopOk.of_round (qa7_ok10)⟩, .inr ⟨_, by kernel_rfl, LoopOk.of_round (qa7_ok15)⟩, trivial⟩) (fun _ => rfl) (by intro i qs r h; unfold qa7_enc at h; split at h <;> cases h <;> rfl)
    (by intro ls r h; unfold qa7_in at h; split at h; rw [qa7, sealF_eq] at h; exact Eq.trans (by kernel_rfl) h; cases h)
def ms63 : List (FuncId × Mode U) := (22, qa7_md) :: ms62
theorem known63 : Known kk env0 (modesOf ms63) := known_cons (by kernel_rfl) qa7_post known62
def qaY_sh : StSh := ⟨⟨[0], [], []⟩, [.t (.st 46)], []⟩
def qaY_os : List StSh := [⟨⟨[0], [], []⟩, [.t (.st 46)], []⟩]
def qaY_tr : TCell → Tr (Nat × List (TV U)) := fun x => .ret (0, [⟨(.st 46), x⟩])
def qaY_enc : Nat → List (TV U) → Option (TCell)
  | 0, [⟨(.st 46), a0⟩] => some a0
  | _, _ => none
def qaY_dec : TCell → Nat × List (TV U) := fun x => (0, [⟨(.st 46), x⟩])
def qaY_in : List (TV U) → Option (TCell)
  | [⟨(.st 46), a0⟩] => qaY a0
  | _ => none
def qaY_md : Mode U := ⟨qaY_sh, [], qaY_os, fun ls => .get (qaY_in ls) qaY_tr⟩
theorem qaY_post : ModeOk kk env0 41 qaY_md :=
  fn_of (fn := Tryz.f41) qaY_enc qaY_dec (kitOk_of eqOk mixed known63) (by kernel_rfl) (L := jnL) (loopsOk_of (bs := []) (by kernel_rfl) trivial) (fun _ => rfl) (by intro i qs r h; unfold qaY_enc at h; split at h <;> cases h <;> rfl)
    (by intro ls r h; unfold qaY_in at h; split at h; rw [qaY, sealF_eq] at h; exact Eq.trans (by kernel_rfl) h; cases h)
def ms64 : List (FuncId × Mode U) := (41, qaY_md) :: ms63
theorem known64 : Known kk env0 (modesOf ms64) := known_cons (by kernel_rfl) qaY_post known63
def qaL_sh : StSh := ⟨⟨[0], [], [⟨.slot 0, 0, 46, (.st 46)⟩]⟩, [.oslc 0], [.row 46 (.st 46)]⟩
def qaL_os : List StSh := [⟨⟨[0], [], [⟨.slot 0, 100000, 46, (.st 46)⟩]⟩, [.oslc 100000], [.row 46 (.st 46)]⟩]
def qaL_tr : (List (TCell)) → Tr (Nat × List (TV U)) := fun x => .ret (0, [⟨(.slc (.st 46)), x⟩])
def qaL_enc : Nat → List (TV U) → Option ((List (TCell)))
  | 0, [⟨(.slc (.st 46)), a0⟩] => some a0
  | _, _ => none
def qaL_dec : (List (TCell)) → Nat × List (TV U) := fun x => (0, [⟨(.slc (.st 46)), x⟩])
def qaL_in : List (TV U) → Option ((List (TCell)))
  | [⟨(.slc (.st 46)), a0⟩] => qaL a0
  | _ => none
def qaL_md : Mode U := ⟨qaL_sh, [], qaL_os, fun ls => .get (qaL_in ls) qaL_tr⟩
theorem qaL_post : ModeOk kk env0 69 qaL_md :=
  fn_of (fn := Tryz.f69) qaL_enc qaL_dec (kitOk_of eqOk mixed known64) (by kernel_rfl) (L := jnL) (loopsOk_of (bs := []) (by kernel_rfl) trivial) (fun _ => rfl) (by intro i qs r h; unfold qaL_enc at h; split at h <;> cases h <;> rfl)
    (by intro ls r h; unfold qaL_in at h; split at h; rw [qaL, sealF_eq] at h; exact Eq.trans (by kernel_rfl) h; cases h)
def ms65 : List (FuncId × Mode U) := (69, qaL_md) :: ms64
theorem known65 : Known kk env0 (modesOf ms65) := known_cons (by kernel_rfl) qaL_post known64
def qbm_sh3 : StSh := ⟨⟨[1, 5, 8, 9, 10], [], [⟨.slot 5, 5, 46, (.st 46)⟩]⟩, [.fnc 41, .oslc 5, .t (.slc (.st 46)), .t (.int .i64), .t (.int .i64)], [.row 46 (.st 46)]⟩
def qbm_o3 : List Out := [⟨.exit 0, ⟨⟨[5], [], [⟨.slot 5, 5, 46, (.st 46)⟩]⟩, [.oslc 5], [.row 46 (.st 46)]⟩⟩]
def qbm_b3 : Code := (nthLoop (bodyOf Tryz.f40) 0)
def qbm_rec3 (rec : List (TCell) → Int → Int → List (TCell) → Option ((List (TCell)))) : List (TV U) → Option ((List (TCell)))
  | [⟨(.slc (.st 46)), a0⟩, ⟨(.int .i64), a1⟩, ⟨(.int .i64), a2⟩, ⟨(.slc (.st 46)), a3⟩] => rec a0 a1 a2 a3
  | _ => none
def qbm_enc3 : Nat → List (TV U) → Option ((List (TCell)))
  | 0, [⟨(.slc (.st 46)), a0⟩] => some a0
  | _, _ => none
def qbm_dec3 : (List (TCell)) → Nat × List (TV U) := fun x => (0, [⟨(.slc (.st 46)), x⟩])
def qbm_tr3 : (List (TCell)) → Tr (Nat × List (TV U)) := fun x => .ret (0, [⟨(.slc (.st 46)), x⟩])
def qbm_lp3 : Lift.Loop U := ⟨qbm_sh3, qbm_o3, fun ls => .get (qbm_rec3 qbm_l3 ls) qbm_tr3⟩
theorem qbm_ok3 : LoopR kk env0 Tryz.f40.ntmps qbm_b3 qbm_lp3 :=
  loop_of qbm_enc3 qbm_dec3 (fun n => qbm_rec3 (qbm_i3 n)) (kitOk_of eqOk mixed known65) (L := jnL) (loopsOk_of (bs := []) (by kernel_rfl) trivial) (fun _ => rfl) (by intro i qs r h; unfold qbm_enc3 at h; split at h <;> cases h <;> rfl)
    (by intro ls r h; unfold qbm_rec3 at h; split at h <;> cases h)
    (by intro n ls r h; unfold qbm_rec3 at h; split at h; exact (show _ = qbm_t3 (qbm_i3 n) _ _ _ _ from by kernel_rfl).trans h; cases h) (by rw [qbm_l3, sealF_eq])
def qbm_sh : StSh := ⟨⟨[0, 1], [], []⟩, [.t (.slc (.st 46)), .fnc 41], []⟩
def qbm_os : List StSh := [⟨⟨[0], [], [⟨.slot 0, 100000, 46, (.st 46)⟩]⟩, [.oslc 100000], [.row 46 (.st 46)]⟩]
def qbm_tr : (List (TCell)) → Tr (Nat × List (TV U)) := fun x => .ret (0, [⟨(.slc (.st 46)), x⟩])
def qbm_L : Nat → Option (Lift.Loop U) := fun n => bif Nat.beq n joinKey then some joinMark else bif Nat.beq n 3 then some qbm_lp3 else none
def qbm_enc : Nat → List (TV U) → Option ((List (TCell)))
  | 0, [⟨(.slc (.st 46)), a0⟩] => some a0
  | _, _ => none
def qbm_dec : (List (TCell)) → Nat × List (TV U) := fun x => (0, [⟨(.slc (.st 46)), x⟩])
def qbm_in : List (TV U) → Option ((List (TCell)))
  | [⟨(.slc (.st 46)), a0⟩] => qbm a0
  | _ => none
def qbm_md : Mode U := ⟨qbm_sh, [], qbm_os, fun ls => .get (qbm_in ls) qbm_tr⟩
theorem qbm_post : ModeOk kk env0 40 qbm_md :=
  fn_of (fn := Tryz.f40) qbm_enc qbm_dec (kitOk_of eqOk mixed known65) (by kernel_rfl) (L := qbm_L) (loopsOk_of (bs := [qbm_b3]) (by kernel_rfl) ⟨.inr ⟨_, by kernel_rfl, LoopOk.of_round (qbm_ok3)⟩, trivial⟩) (fun _ => rfl) (by intro i qs r h; unfold qbm_enc at h; split at h <;> cases h <;> rfl)
    (by intro ls r h; unfold qbm_in at h; split at h; rw [qbm, sealF_eq] at h; exact Eq.trans (by kernel_rfl) h; cases h)
def ms66 : List (FuncId × Mode U) := (40, qbm_md) :: ms65
theorem known66 : Known kk env0 (modesOf ms66) := known_cons (by kernel_rfl) qbm_post known65
def qaZ_sh : StSh := ⟨⟨[0], [], []⟩, [.t .str], []⟩
def qaZ_os : List StSh := [⟨⟨[0], [], []⟩, [.t .str], []⟩]
def qaZ_tr : (List UInt8) → Tr (Nat × List (TV U)) := fun x => .ret (0, [⟨.str, x⟩])
def qaZ_enc : Nat → List (TV U) → Option ((List UInt8))
  | 0, [⟨.str, a0⟩] => some a0
  | _, _ => none
def qaZ_dec : (List UInt8) → Nat × List (TV U) := fun x => (0, [⟨.str, x⟩])
def qaZ_in : List (TV U) → Option ((List UInt8))
  | [⟨.str, a0⟩] => qaZ a0
  | _ => none
def qaZ_md : Mode U := ⟨qaZ_sh, [], qaZ_os, fun ls => .get (qaZ_in ls) qaZ_tr⟩
theorem qaZ_post : ModeOk kk env0 43 qaZ_md :=
  fn_of (fn := Tryz.f43) qaZ_enc qaZ_dec (kitOk_of eqOk mixed known66) (by kernel_rfl) (L := jnL) (loopsOk_of (bs := []) (by kernel_rfl) trivial) (fun _ => rfl) (by intro i qs r h; unfold qaZ_enc at h; split at h <;> cases h <;> rfl)
    (by intro ls r h; unfold qaZ_in at h; split at h; rw [qaZ, sealF_eq] at h; exact Eq.trans (by kernel_rfl) h; cases h)
def ms67 : List (FuncId × Mode U) := (43, qaZ_md) :: ms66
theorem known67 : Known kk env0 (modesOf ms67) := known_cons (by kernel_rfl) qaZ_post known66
def qbq_sh3 : StSh := ⟨⟨[1, 5, 8, 9, 10], [], [⟨.slot 5, 5, 9, .str⟩]⟩, [.fnc 43, .oslc 5, .t (.slc .str), .t (.int .i64), .t (.int .i64)], [.row 9 .str]⟩
def qbq_o3 : List Out := [⟨.exit 0, ⟨⟨[5], [], [⟨.slot 5, 5, 9, .str⟩]⟩, [.oslc 5], [.row 9 .str]⟩⟩]
def qbq_b3 : Code := (nthLoop (bodyOf Tryz.f42) 0)
def qbq_rec3 (rec : List (List UInt8) → Int → Int → List (List UInt8) → Option ((List (List UInt8)))) : List (TV U) → Option ((List (List UInt8)))
  | [⟨(.slc .str), a0⟩, ⟨(.int .i64), a1⟩, ⟨(.int .i64), a2⟩, ⟨(.slc .str), a3⟩] => rec a0 a1 a2 a3
  | _ => none
def qbq_enc3 : Nat → List (TV U) → Option ((List (List UInt8)))
  | 0, [⟨(.slc .str), a0⟩] => some a0
  | _, _ => none
def qbq_dec3 : (List (List UInt8)) → Nat × List (TV U) := fun x => (0, [⟨(.slc .str), x⟩])
def qbq_tr3 : (List (List UInt8)) → Tr (Nat × List (TV U)) := fun x => .ret (0, [⟨(.slc .str), x⟩])
def qbq_lp3 : Lift.Loop U := ⟨qbq_sh3, qbq_o3, fun ls => .get (qbq_rec3 qbq_l3 ls) qbq_tr3⟩
theorem qbq_ok3 : LoopR kk env0 Tryz.f42.ntmps qbq_b3 qbq_lp3 :=
  loop_of qbq_enc3 qbq_dec3 (fun n => qbq_rec3 (qbq_i3 n)) (kitOk_of eqOk mixed known67) (L := jnL) (loopsOk_of (bs := []) (by kernel_rfl) trivial) (fun _ => rfl) (by intro i qs r h; unfold qbq_enc3 at h; split at h <;> cases h <;> rfl)
    (by intro ls r h; unfold qbq_rec3 at h; split at h <;> cases h)
    (by intro n ls r h; unfold qbq_rec3 at h; split at h; exact (show _ = qbq_t3 (qbq_i3 n) _ _ _ _ from by kernel_rfl).trans h; cases h) (by rw [qbq_l3, sealF_eq])
def qbq_sh : StSh := ⟨⟨[0, 1], [], []⟩, [.t (.slc .str), .fnc 43], []⟩
def qbq_os : List StSh := [⟨⟨[0], [], [⟨.slot 0, 100000, 9, .str⟩]⟩, [.oslc 100000], [.row 9 .str]⟩]
def qbq_tr : (List (List UInt8)) → Tr (Nat × List (TV U)) := fun x => .ret (0, [⟨(.slc .str), x⟩])
def qbq_L : Nat → Option (Lift.Loop U) := fun n => bif Nat.beq n joinKey then some joinMark else bif Nat.beq n 3 then some qbq_lp3 else none
def qbq_enc : Nat → List (TV U) → Option ((List (List UInt8)))
  | 0, [⟨(.slc .str), a0⟩] => some a0
  | _, _ => none
def qbq_dec : (List (List UInt8)) → Nat × List (TV U) := fun x => (0, [⟨(.slc .str), x⟩])
def qbq_in : List (TV U) → Option ((List (List UInt8)))
  | [⟨(.slc .str), a0⟩] => qbq a0
  | _ => none
def qbq_md : Mode U := ⟨qbq_sh, [], qbq_os, fun ls => .get (qbq_in ls) qbq_tr⟩
theorem qbq_post : ModeOk kk env0 42 qbq_md :=
  fn_of (fn := Tryz.f42) qbq_enc qbq_dec (kitOk_of eqOk mixed known67) (by kernel_rfl) (L := qbq_L) (loopsOk_of (bs := [qbq_b3]) (by kernel_rfl) ⟨.inr ⟨_, by kernel_rfl, LoopOk.of_round (qbq_ok3)⟩, trivial⟩) (fun _ => rfl) (by intro i qs r h; unfold qbq_enc at h; split at h <;> cases h <;> rfl)
    (by intro ls r h; unfold qbq_in at h; split at h; rw [qbq, sealF_eq] at h; exact Eq.trans (by kernel_rfl) h; cases h)
def ms68 : List (FuncId × Mode U) := (42, qbq_md) :: ms67
theorem known68 : Known kk env0 (modesOf ms68) := known_cons (by kernel_rfl) qbq_post known67
def qbe_sh : StSh := ⟨⟨[0], [], []⟩, [.t (.st 41)], []⟩
def qbe_os : List StSh := [⟨⟨[0], [], [⟨.sub 0 3, 100400, 41, (.st 1041)⟩]⟩, [.agg [.t (.int .i64), .t (.int .i64), .t .str, .oslc 100400]], [.row 41 (.st 1041)]⟩]
def qbe_tr : Int × Int × (List UInt8) × (List (TExpr)) → Tr (Nat × List (TV U)) := fun x => .ret (0, [⟨(.int .i64), x.1⟩, ⟨(.int .i64), x.2.1⟩, ⟨.str, x.2.2.1⟩, ⟨(.slc (.st 1041)), x.2.2.2⟩])
def qbe_in (rec_qbe : TExpr → Option (Int × Int × (List UInt8) × (List (TExpr)))) : List (TV U) → Option (Int × Int × (List UInt8) × (List (TExpr)))
  | [⟨(.st 41), a0⟩] => rec_qbe a0
  | _ => none
def qbe_rmd (rec_qbe : TExpr → Option (Int × Int × (List UInt8) × (List (TExpr)))) : Mode U := ⟨qbe_sh, [], qbe_os, fun ls => .get (qbe_in rec_qbe ls) qbe_tr⟩
def ms69 (rec_qbe : TExpr → Option (Int × Int × (List UInt8) × (List (TExpr)))) : List (FuncId × Mode U) := (72, (qbe_rmd rec_qbe)) :: ms68
theorem known69 (rec_qbe : TExpr → Option (Int × Int × (List UInt8) × (List (TExpr)))) (hrec_qbe : ModeOk kk env0 72 (qbe_rmd rec_qbe)) : Known kk env0 (modesOf (ms69 rec_qbe)) := known_cons (by kernel_rfl) hrec_qbe known68
def qaM_sh : StSh := ⟨⟨[0], [], [⟨.slot 0, 0, 41, (.st 1041)⟩]⟩, [.oslc 0], [.row 41 (.st 1041)]⟩
def qaM_os : List StSh := [⟨⟨[0], [], [⟨.slot 0, 100000, 41, (.st 1041)⟩]⟩, [.oslc 100000], [.row 41 (.st 1041)]⟩]
def qaM_tr : (List (TExpr)) → Tr (Nat × List (TV U)) := fun x => .ret (0, [⟨(.slc (.st 1041)), x⟩])
def qaM_enc : Nat → List (TV U) → Option ((List (TExpr)))
  | 0, [⟨(.slc (.st 1041)), a0⟩] => some a0
  | _, _ => none
def qaM_dec : (List (TExpr)) → Nat × List (TV U) := fun x => (0, [⟨(.slc (.st 1041)), x⟩])
def qaM_in (rec_qbe : TExpr → Option (Int × Int × (List UInt8) × (List (TExpr)))) : List (TV U) → Option ((List (TExpr)))
  | [⟨(.slc (.st 1041)), a0⟩] => qaM rec_qbe a0
  | _ => none
def qaM_md (rec_qbe : TExpr → Option (Int × Int × (List UInt8) × (List (TExpr)))) : Mode U := ⟨qaM_sh, [], qaM_os, fun ls => .get (qaM_in rec_qbe ls) qaM_tr⟩
theorem qaM_post (rec_qbe : TExpr → Option (Int × Int × (List UInt8) × (List (TExpr)))) (hrec_qbe : ModeOk kk env0 72 (qbe_rmd rec_qbe)) : ModeOk kk env0 93 (qaM_md rec_qbe) :=
  fn_of (fn := Tryz.f93) qaM_enc qaM_dec (kitOk_of eqOk mixed (known69 rec_qbe hrec_qbe)) (by kernel_rfl) (L := jnL) (loopsOk_of (bs := []) (by kernel_rfl) trivial) (fun _ => rfl) (by intro i qs r h; unfold qaM_enc at h; split at h <;> cases h <;> rfl)
    (by intro ls r h; unfold qaM_in at h; split at h; rw [qaM, sealF_eq] at h; exact Eq.trans (by kernel_rfl) h; cases h)
def ms70 (rec_qbe : TExpr → Option (Int × Int × (List UInt8) × (List (TExpr)))) : List (FuncId × Mode U) := (93, (qaM_md rec_qbe)) :: (ms69 rec_qbe)
theorem known70 (rec_qbe : TExpr → Option (Int × Int × (List UInt8) × (List (TExpr)))) (hrec_qbe : ModeOk kk env0 72 (qbe_rmd rec_qbe)) : Known kk env0 (modesOf (ms70 rec_qbe)) := known_cons (by kernel_rfl) (qaM_post rec_qbe hrec_qbe) (known69 rec_qbe hrec_qbe)
def qbn_sh3 : StSh := ⟨⟨[1, 5, 8, 9, 10], [], [⟨.slot 5, 5, 41, (.st 1041)⟩]⟩, [.fnc 72, .oslc 5, .t (.slc (.st 41)), .t (.int .i64), .t (.int .i64)], [.row 41 (.st 1041)]⟩
def qbn_o3 : List Out := [⟨.exit 0, ⟨⟨[5], [], [⟨.slot 5, 5, 41, (.st 1041)⟩]⟩, [.oslc 5], [.row 41 (.st 1041)]⟩⟩]
def qbn_b3 : Code := (nthLoop (bodyOf Tryz.f83) 0)
def qbn_rec3 (rec : List (TExpr) → Int → Int → List (TExpr) → Option ((List (TExpr)))) : List (TV U) → Option ((List (TExpr)))
  | [⟨(.slc (.st 41)), a0⟩, ⟨(.int .i64), a1⟩, ⟨(.int .i64), a2⟩, ⟨(.slc (.st 1041)), a3⟩] => rec a0 a1 a2 a3
  | _ => none
def qbn_enc3 : Nat → List (TV U) → Option ((List (TExpr)))
  | 0, [⟨(.slc (.st 1041)), a0⟩] => some a0
  | _, _ => none
def qbn_dec3 : (List (TExpr)) → Nat × List (TV U) := fun x => (0, [⟨(.slc (.st 1041)), x⟩])
def qbn_tr3 : (List (TExpr)) → Tr (Nat × List (TV U)) := fun x => .ret (0, [⟨(.slc (.st 1041)), x⟩])
def qbn_lp3 (rec_qbe : TExpr → Option (Int × Int × (List UInt8) × (List (TExpr)))) : Lift.Loop U := ⟨qbn_sh3, qbn_o3, fun ls => .get (qbn_rec3 (qbn_l3 rec_qbe) ls) qbn_tr3⟩
theorem qbn_ok3 (rec_qbe : TExpr → Option (Int × Int × (List UInt8) × (List (TExpr)))) (hrec_qbe : ModeOk kk env0 72 (qbe_rmd rec_qbe)) : LoopR kk env0 Tryz.f83.ntmps qbn_b3 (qbn_lp3 rec_qbe) :=
  loop_of qbn_enc3 qbn_dec3 (fun n => qbn_rec3 (qbn_i3 rec_qbe n)) (kitOk_of eqOk mixed (known70 rec_qbe hrec_qbe)) (L := jnL) (loopsOk_of (bs := []) (by kernel_rfl) trivial) (fun _ => rfl) (by intro i qs r h; unfold qbn_enc3 at h; split at h <;> cases h <;> rfl)
    (by intro ls r h; unfold qbn_rec3 at h; split at h <;> cases h)
    (by intro n ls r h; unfold qbn_rec3 at h; split at h; exact (show _ = qbn_t3 rec_qbe (qbn_i3 rec_qbe n) _ _ _ _ from by kernel_rfl).trans h; cases h) (by rw [qbn_l3, sealF_eq])
def qbn_sh : StSh := ⟨⟨[0, 1], [], []⟩, [.t (.slc (.st 41)), .fnc 72], []⟩
def qbn_os : List StSh := [⟨⟨[0], [], [⟨.slot 0, 100000, 41, (.st 1041)⟩]⟩, [.oslc 100000], [.row 41 (.st 1041)]⟩]
def qbn_tr : (List (TExpr)) → Tr (Nat × List (TV U)) := fun x => .ret (0, [⟨(.slc (.st 1041)), x⟩])
def qbn_L (rec_qbe : TExpr → Option (Int × Int × (List UInt8) × (List (TExpr)))) : Nat → Option (Lift.Loop U) := fun n => bif Nat.beq n joinKey then some joinMark else bif Nat.beq n 3 then some (qbn_lp3 rec_qbe) else none
def qbn_enc : Nat → List (TV U) → Option ((List (TExpr)))
  | 0, [⟨(.slc (.st 1041)), a0⟩] => some a0
  | _, _ => none
def qbn_dec : (List (TExpr)) → Nat × List (TV U) := fun x => (0, [⟨(.slc (.st 1041)), x⟩])
def qbn_in (rec_qbe : TExpr → Option (Int × Int × (List UInt8) × (List (TExpr)))) : List (TV U) → Option ((List (TExpr)))
  | [⟨(.slc (.st 41)), a0⟩] => qbn rec_qbe a0
  | _ => none
def qbn_md (rec_qbe : TExpr → Option (Int × Int × (List UInt8) × (List (TExpr)))) : Mode U := ⟨qbn_sh, [], qbn_os, fun ls => .get (qbn_in rec_qbe ls) qbn_tr⟩
theorem qbn_post (rec_qbe : TExpr → Option (Int × Int × (List UInt8) × (List (TExpr)))) (hrec_qbe : ModeOk kk env0 72 (qbe_rmd rec_qbe)) : ModeOk kk env0 83 (qbn_md rec_qbe) :=
  fn_of (fn := Tryz.f83) qbn_enc qbn_dec (kitOk_of eqOk mixed (known70 rec_qbe hrec_qbe)) (by kernel_rfl) (L := (qbn_L rec_qbe)) (loopsOk_of (bs := [qbn_b3]) (by kernel_rfl) ⟨.inr ⟨_, by kernel_rfl, LoopOk.of_round (qbn_ok3 rec_qbe hrec_qbe)⟩, trivial⟩) (fun _ => rfl) (by intro i qs r h; unfold qbn_enc at h; split at h <;> cases h <;> rfl)
    (by intro ls r h; unfold qbn_in at h; split at h; rw [qbn, sealF_eq] at h; exact Eq.trans (by kernel_rfl) h; cases h)
def ms71 (rec_qbe : TExpr → Option (Int × Int × (List UInt8) × (List (TExpr)))) : List (FuncId × Mode U) := (83, (qbn_md rec_qbe)) :: (ms70 rec_qbe)
theorem known71 (rec_qbe : TExpr → Option (Int × Int × (List UInt8) × (List (TExpr)))) (hrec_qbe : ModeOk kk env0 72 (qbe_rmd rec_qbe)) : Known kk env0 (modesOf (ms71 rec_qbe)) := known_cons (by kernel_rfl) (qbn_post rec_qbe hrec_qbe) (known70 rec_qbe hrec_qbe)
def qbe_enc : Nat → List (TV U) → Option (Int × Int × (List UInt8) × (List (TExpr)))
  | 0, [⟨(.int .i64), a0⟩, ⟨(.int .i64), a1⟩, ⟨.str, a2⟩, ⟨(.slc (.st 1041)), a3⟩] => some (a0, a1, a2, a3)
  | _, _ => none
def qbe_dec : Int × Int × (List UInt8) × (List (TExpr)) → Nat × List (TV U) := fun x => (0, [⟨(.int .i64), x.1⟩, ⟨(.int .i64), x.2.1⟩, ⟨.str, x.2.2.1⟩, ⟨(.slc (.st 1041)), x.2.2.2⟩])
def qbe_md : Mode U := qbe_rmd qbe
theorem qbe_step (rec_qbe : TExpr → Option (Int × Int × (List UInt8) × (List (TExpr)))) (hrec_qbe : ModeOk kk env0 72 (qbe_rmd rec_qbe)) : LoopsOk (Kit.withModes kk (modesOf (ms71 rec_qbe))) env0 Tryz.f72.ntmps jnL (bodyOf Tryz.f72) := loopsOk_of (bs := []) (by kernel_rfl) trivial
theorem qbe_post : ModeOk kk env0 72 (qbe_rmd qbe) :=
  rec_of (K := kk) (F := qbe) qbe_rmd qbe_i (by rw [qbe, sealF_eq]) (rec_zero (by intro ls r h; unfold qbe_in at h; split at h <;> cases h)) (fun n ih => fn_of (fn := Tryz.f72) qbe_enc qbe_dec (kitOk_of eqOk mixed (known71 (qbe_i n) ih)) (by kernel_rfl) (qbe_step (qbe_i n) ih) (fun _ => rfl) (by intro i qs r h; unfold qbe_enc at h; split at h <;> cases h <;> rfl)
    (by intro ls r h; unfold qbe_in at h; split at h; exact (show _ = qbe_f (qbe_i n) _ from by kernel_rfl).trans h; cases h))
def ms72 : List (FuncId × Mode U) := (72, qbe_md) :: ms68
theorem known72 : Known kk env0 (modesOf ms72) := known_cons (by kernel_rfl) qbe_post known68
def qbo_sh : StSh := ⟨⟨[0, 1], [], []⟩, [.t (.slc (.st 43)), .fnc 47], []⟩
def qbo_os : List StSh := [⟨⟨[0], [], [⟨.slot 0, 100000, 43, (.st 1043)⟩]⟩, [.oslc 100000], [.row 43 (.st 1043)]⟩]
def qbo_tr : (List (TStmt)) → Tr (Nat × List (TV U)) := fun x => .ret (0, [⟨(.slc (.st 1043)), x⟩])
def qbo_in (rec_qbo : List (TStmt) → Option ((List (TStmt)))) : List (TV U) → Option ((List (TStmt)))
  | [⟨(.slc (.st 43)), a0⟩] => rec_qbo a0
  | _ => none
def qbo_rmd (rec_qbo : List (TStmt) → Option ((List (TStmt)))) : Mode U := ⟨qbo_sh, [], qbo_os, fun ls => .get (qbo_in rec_qbo ls) qbo_tr⟩
def ms73 (rec_qbo : List (TStmt) → Option ((List (TStmt)))) : List (FuncId × Mode U) := (46, (qbo_rmd rec_qbo)) :: ms72
theorem known73 (rec_qbo : List (TStmt) → Option ((List (TStmt)))) (hrec_qbo : ModeOk kk env0 46 (qbo_rmd rec_qbo)) : Known kk env0 (modesOf (ms73 rec_qbo)) := known_cons (by kernel_rfl) hrec_qbo known72
def qbf_sh : StSh := ⟨⟨[0], [], []⟩, [.t (.st 43)], []⟩
def qbf_os : List StSh := [⟨⟨[0], [], [⟨.sub 0 6, 100700, 41, (.st 1041)⟩, ⟨.sub 0 8, 100900, 43, (.st 1043)⟩, ⟨.sub 0 9, 101000, 43, (.st 1043)⟩]⟩, [.agg [.t (.int .i64), .t .str, .t .str, .t (.int .i64), .t (.int .i64), .t .str, .oslc 100700, .t (.int .i64), .oslc 100900, .oslc 101000]], [.row 41 (.st 1041), .row 43 (.st 1043), .row 43 (.st 1043)]⟩]
def qbf_tr : Int × (List UInt8) × (List UInt8) × Int × Int × (List UInt8) × Int × (List (TExpr)) × (List (TStmt)) × (List (TStmt)) → Tr (Nat × List (TV U)) := fun x => .ret (0, [⟨(.int .i64), x.1⟩, ⟨.str, x.2.1⟩, ⟨.str, x.2.2.1⟩, ⟨(.int .i64), x.2.2.2.1⟩, ⟨(.int .i64), x.2.2.2.2.1⟩, ⟨.str, x.2.2.2.2.2.1⟩, ⟨(.int .i64), x.2.2.2.2.2.2.1⟩, ⟨(.slc (.st 1041)), x.2.2.2.2.2.2.2.1⟩, ⟨(.slc (.st 1043)), x.2.2.2.2.2.2.2.2.1⟩, ⟨(.slc (.st 1043)), x.2.2.2.2.2.2.2.2.2⟩])
def qbf_enc : Nat → List (TV U) → Option (Int × (List UInt8) × (List UInt8) × Int × Int × (List UInt8) × Int × (List (TExpr)) × (List (TStmt)) × (List (TStmt)))
  | 0, [⟨(.int .i64), a0⟩, ⟨.str, a1⟩, ⟨.str, a2⟩, ⟨(.int .i64), a3⟩, ⟨(.int .i64), a4⟩, ⟨.str, a5⟩, ⟨(.int .i64), a6⟩, ⟨(.slc (.st 1041)), a7⟩, ⟨(.slc (.st 1043)), a8⟩, ⟨(.slc (.st 1043)), a9⟩] => some (a0, a1, a2, a3, a4, a5, a6, a7, a8, a9)
  | _, _ => none
def qbf_dec : Int × (List UInt8) × (List UInt8) × Int × Int × (List UInt8) × Int × (List (TExpr)) × (List (TStmt)) × (List (TStmt)) → Nat × List (TV U) := fun x => (0, [⟨(.int .i64), x.1⟩, ⟨.str, x.2.1⟩, ⟨.str, x.2.2.1⟩, ⟨(.int .i64), x.2.2.2.1⟩, ⟨(.int .i64), x.2.2.2.2.1⟩, ⟨.str, x.2.2.2.2.2.1⟩, ⟨(.int .i64), x.2.2.2.2.2.2.1⟩, ⟨(.slc (.st 1041)), x.2.2.2.2.2.2.2.1⟩, ⟨(.slc (.st 1043)), x.2.2.2.2.2.2.2.2.1⟩, ⟨(.slc (.st 1043)), x.2.2.2.2.2.2.2.2.2⟩])
def qbf_in (rec_qbo : List (TStmt) → Option ((List (TStmt)))) : List (TV U) → Option (Int × (List UInt8) × (List UInt8) × Int × Int × (List UInt8) × Int × (List (TExpr)) × (List (TStmt)) × (List (TStmt)))
  | [⟨(.st 43), a0⟩] => qbf rec_qbo a0
  | _ => none
def qbf_md (rec_qbo : List (TStmt) → Option ((List (TStmt)))) : Mode U := ⟨qbf_sh, [], qbf_os, fun ls => .get (qbf_in rec_qbo ls) qbf_tr⟩
theorem qbf_post (rec_qbo : List (TStmt) → Option ((List (TStmt)))) (hrec_qbo : ModeOk kk env0 46 (qbo_rmd rec_qbo)) : ModeOk kk env0 47 (qbf_md rec_qbo) :=
  fn_of (fn := Tryz.f47) qbf_enc qbf_dec (kitOk_of eqOk mixed (known73 rec_qbo hrec_qbo)) (by kernel_rfl) (L := jnL) (loopsOk_of (bs := []) (by kernel_rfl) trivial) (fun _ => rfl) (by intro i qs r h; unfold qbf_enc at h; split at h <;> cases h <;> rfl)
    (by intro ls r h; unfold qbf_in at h; split at h; rw [qbf, sealF_eq] at h; exact Eq.trans (by kernel_rfl) h; cases h)
def ms74 (rec_qbo : List (TStmt) → Option ((List (TStmt)))) : List (FuncId × Mode U) := (47, (qbf_md rec_qbo)) :: (ms73 rec_qbo)
theorem known74 (rec_qbo : List (TStmt) → Option ((List (TStmt)))) (hrec_qbo : ModeOk kk env0 46 (qbo_rmd rec_qbo)) : Known kk env0 (modesOf (ms74 rec_qbo)) := known_cons (by kernel_rfl) (qbf_post rec_qbo hrec_qbo) (known73 rec_qbo hrec_qbo)
def qaN_sh : StSh := ⟨⟨[0], [], [⟨.slot 0, 0, 43, (.st 1043)⟩]⟩, [.oslc 0], [.row 43 (.st 1043)]⟩
def qaN_os : List StSh := [⟨⟨[0], [], [⟨.slot 0, 100000, 43, (.st 1043)⟩]⟩, [.oslc 100000], [.row 43 (.st 1043)]⟩]
def qaN_tr : (List (TStmt)) → Tr (Nat × List (TV U)) := fun x => .ret (0, [⟨(.slc (.st 1043)), x⟩])
def qaN_enc : Nat → List (TV U) → Option ((List (TStmt)))
  | 0, [⟨(.slc (.st 1043)), a0⟩] => some a0
  | _, _ => none
def qaN_dec : (List (TStmt)) → Nat × List (TV U) := fun x => (0, [⟨(.slc (.st 1043)), x⟩])
def qaN_in (rec_qbo : List (TStmt) → Option ((List (TStmt)))) : List (TV U) → Option ((List (TStmt)))
  | [⟨(.slc (.st 1043)), a0⟩] => qaN rec_qbo a0
  | _ => none
def qaN_md (rec_qbo : List (TStmt) → Option ((List (TStmt)))) : Mode U := ⟨qaN_sh, [], qaN_os, fun ls => .get (qaN_in rec_qbo ls) qaN_tr⟩
theorem qaN_post (rec_qbo : List (TStmt) → Option ((List (TStmt)))) (hrec_qbo : ModeOk kk env0 46 (qbo_rmd rec_qbo)) : ModeOk kk env0 71 (qaN_md rec_qbo) :=
  fn_of (fn := Tryz.f71) qaN_enc qaN_dec (kitOk_of eqOk mixed (known74 rec_qbo hrec_qbo)) (by kernel_rfl) (L := jnL) (loopsOk_of (bs := []) (by kernel_rfl) trivial) (fun _ => rfl) (by intro i qs r h; unfold qaN_enc at h; split at h <;> cases h <;> rfl)
    (by intro ls r h; unfold qaN_in at h; split at h; rw [qaN, sealF_eq] at h; exact Eq.trans (by kernel_rfl) h; cases h)
def ms75 (rec_qbo : List (TStmt) → Option ((List (TStmt)))) : List (FuncId × Mode U) := (71, (qaN_md rec_qbo)) :: (ms74 rec_qbo)
theorem known75 (rec_qbo : List (TStmt) → Option ((List (TStmt)))) (hrec_qbo : ModeOk kk env0 46 (qbo_rmd rec_qbo)) : Known kk env0 (modesOf (ms75 rec_qbo)) := known_cons (by kernel_rfl) (qaN_post rec_qbo hrec_qbo) (known74 rec_qbo hrec_qbo)
def qbo_sh3 : StSh := ⟨⟨[1, 5, 8, 9, 10], [], [⟨.slot 5, 5, 43, (.st 1043)⟩]⟩, [.fnc 47, .oslc 5, .t (.slc (.st 43)), .t (.int .i64), .t (.int .i64)], [.row 43 (.st 1043)]⟩
def qbo_o3 : List Out := [⟨.exit 0, ⟨⟨[5], [], [⟨.slot 5, 5, 43, (.st 1043)⟩]⟩, [.oslc 5], [.row 43 (.st 1043)]⟩⟩]
def qbo_b3 : Code := (nthLoop (bodyOf Tryz.f46) 0)
def qbo_rec3 (rec : List (TStmt) → Int → Int → List (TStmt) → Option ((List (TStmt)))) : List (TV U) → Option ((List (TStmt)))
  | [⟨(.slc (.st 43)), a0⟩, ⟨(.int .i64), a1⟩, ⟨(.int .i64), a2⟩, ⟨(.slc (.st 1043)), a3⟩] => rec a0 a1 a2 a3
  | _ => none
def qbo_enc3 : Nat → List (TV U) → Option ((List (TStmt)))
  | 0, [⟨(.slc (.st 1043)), a0⟩] => some a0
  | _, _ => none
def qbo_dec3 : (List (TStmt)) → Nat × List (TV U) := fun x => (0, [⟨(.slc (.st 1043)), x⟩])
def qbo_tr3 : (List (TStmt)) → Tr (Nat × List (TV U)) := fun x => .ret (0, [⟨(.slc (.st 1043)), x⟩])
def qbo_lp3 (rec_qbo : List (TStmt) → Option ((List (TStmt)))) : Lift.Loop U := ⟨qbo_sh3, qbo_o3, fun ls => .get (qbo_rec3 (qbo_l3 rec_qbo) ls) qbo_tr3⟩
theorem qbo_ok3 (rec_qbo : List (TStmt) → Option ((List (TStmt)))) (hrec_qbo : ModeOk kk env0 46 (qbo_rmd rec_qbo)) : LoopR kk env0 Tryz.f46.ntmps qbo_b3 (qbo_lp3 rec_qbo) :=
  loop_of qbo_enc3 qbo_dec3 (fun n => qbo_rec3 (qbo_i3 rec_qbo n)) (kitOk_of eqOk mixed (known75 rec_qbo hrec_qbo)) (L := jnL) (loopsOk_of (bs := []) (by kernel_rfl) trivial) (fun _ => rfl) (by intro i qs r h; unfold qbo_enc3 at h; split at h <;> cases h <;> rfl)
    (by intro ls r h; unfold qbo_rec3 at h; split at h <;> cases h)
    (by intro n ls r h; unfold qbo_rec3 at h; split at h; exact (show _ = qbo_t3 rec_qbo (qbo_i3 rec_qbo n) _ _ _ _ from by kernel_rfl).trans h; cases h) (by rw [qbo_l3, sealF_eq])
def qbo_L (rec_qbo : List (TStmt) → Option ((List (TStmt)))) : Nat → Option (Lift.Loop U) := fun n => bif Nat.beq n joinKey then some joinMark else bif Nat.beq n 3 then some (qbo_lp3 rec_qbo) else none
def qbo_enc : Nat → List (TV U) → Option ((List (TStmt)))
  | 0, [⟨(.slc (.st 1043)), a0⟩] => some a0
  | _, _ => none
def qbo_dec : (List (TStmt)) → Nat × List (TV U) := fun x => (0, [⟨(.slc (.st 1043)), x⟩])
def qbo_md : Mode U := qbo_rmd qbo
theorem qbo_step (rec_qbo : List (TStmt) → Option ((List (TStmt)))) (hrec_qbo : ModeOk kk env0 46 (qbo_rmd rec_qbo)) : LoopsOk (Kit.withModes kk (modesOf (ms75 rec_qbo))) env0 Tryz.f46.ntmps (qbo_L rec_qbo) (bodyOf Tryz.f46) := loopsOk_of (bs := [qbo_b3]) (by kernel_rfl) ⟨.inr ⟨_, by kernel_rfl, LoopOk.of_round (qbo_ok3 rec_qbo hrec_qbo)⟩, trivial⟩
theorem qbo_post : ModeOk kk env0 46 (qbo_rmd qbo) :=
  rec_of (K := kk) (F := qbo) qbo_rmd qbo_i (by rw [qbo, sealF_eq]) (rec_zero (by intro ls r h; unfold qbo_in at h; split at h <;> cases h)) (fun n ih => fn_of (fn := Tryz.f46) qbo_enc qbo_dec (kitOk_of eqOk mixed (known75 (qbo_i n) ih)) (by kernel_rfl) (qbo_step (qbo_i n) ih) (fun _ => rfl) (by intro i qs r h; unfold qbo_enc at h; split at h <;> cases h <;> rfl)
    (by intro ls r h; unfold qbo_in at h; split at h; exact (show _ = qbo_f (qbo_i n) _ from by kernel_rfl).trans h; cases h))
def ms76 : List (FuncId × Mode U) := (46, qbo_md) :: ms72
theorem known76 : Known kk env0 (modesOf ms76) := known_cons (by kernel_rfl) qbo_post known72
def qa0_sh : StSh := ⟨⟨[0], [], []⟩, [.t (.st 38)], []⟩
def qa0_os : List StSh := [⟨⟨[0], [], [⟨.sub 0 1, 100200, 43, (.st 1043)⟩]⟩, [.agg [.t .str, .oslc 100200]], [.row 43 (.st 1043)]⟩]
def qa0_tr : (List UInt8) × (List (TStmt)) → Tr (Nat × List (TV U)) := fun x => .ret (0, [⟨.str, x.1⟩, ⟨(.slc (.st 1043)), x.2⟩])
def qa0_enc : Nat → List (TV U) → Option ((List UInt8) × (List (TStmt)))
  | 0, [⟨.str, a0⟩, ⟨(.slc (.st 1043)), a1⟩] => some (a0, a1)
  | _, _ => none
def qa0_dec : (List UInt8) × (List (TStmt)) → Nat × List (TV U) := fun x => (0, [⟨.str, x.1⟩, ⟨(.slc (.st 1043)), x.2⟩])
def qa0_in : List (TV U) → Option ((List UInt8) × (List (TStmt)))
  | [⟨(.st 38), a0⟩] => qa0 a0
  | _ => none
def qa0_md : Mode U := ⟨qa0_sh, [], qa0_os, fun ls => .get (qa0_in ls) qa0_tr⟩
theorem qa0_post : ModeOk kk env0 45 qa0_md :=
  fn_of (fn := Tryz.f45) qa0_enc qa0_dec (kitOk_of eqOk mixed known76) (by kernel_rfl) (L := jnL) (loopsOk_of (bs := []) (by kernel_rfl) trivial) (fun _ => rfl) (by intro i qs r h; unfold qa0_enc at h; split at h <;> cases h <;> rfl)
    (by intro ls r h; unfold qa0_in at h; split at h; rw [qa0, sealF_eq] at h; exact Eq.trans (by kernel_rfl) h; cases h)
def ms77 : List (FuncId × Mode U) := (45, qa0_md) :: ms76
theorem known77 : Known kk env0 (modesOf ms77) := known_cons (by kernel_rfl) qa0_post known76
def qaO_sh : StSh := ⟨⟨[0], [], [⟨.slot 0, 0, 38, (.st 1038)⟩]⟩, [.oslc 0], [.row 38 (.st 1038)]⟩
def qaO_os : List StSh := [⟨⟨[0], [], [⟨.slot 0, 100000, 38, (.st 1038)⟩]⟩, [.oslc 100000], [.row 38 (.st 1038)]⟩]
def qaO_tr : (List (TThread)) → Tr (Nat × List (TV U)) := fun x => .ret (0, [⟨(.slc (.st 1038)), x⟩])
def qaO_enc : Nat → List (TV U) → Option ((List (TThread)))
  | 0, [⟨(.slc (.st 1038)), a0⟩] => some a0
  | _, _ => none
def qaO_dec : (List (TThread)) → Nat × List (TV U) := fun x => (0, [⟨(.slc (.st 1038)), x⟩])
def qaO_in : List (TV U) → Option ((List (TThread)))
  | [⟨(.slc (.st 1038)), a0⟩] => qaO a0
  | _ => none
def qaO_md : Mode U := ⟨qaO_sh, [], qaO_os, fun ls => .get (qaO_in ls) qaO_tr⟩
theorem qaO_post : ModeOk kk env0 70 qaO_md :=
  fn_of (fn := Tryz.f70) qaO_enc qaO_dec (kitOk_of eqOk mixed known77) (by kernel_rfl) (L := jnL) (loopsOk_of (bs := []) (by kernel_rfl) trivial) (fun _ => rfl) (by intro i qs r h; unfold qaO_enc at h; split at h <;> cases h <;> rfl)
    (by intro ls r h; unfold qaO_in at h; split at h; rw [qaO, sealF_eq] at h; exact Eq.trans (by kernel_rfl) h; cases h)
def ms78 : List (FuncId × Mode U) := (70, qaO_md) :: ms77
theorem known78 : Known kk env0 (modesOf ms78) := known_cons (by kernel_rfl) qaO_post known77
def qbp_sh3 : StSh := ⟨⟨[1, 5, 8, 9, 10], [], [⟨.slot 5, 5, 38, (.st 1038)⟩]⟩, [.fnc 45, .oslc 5, .t (.slc (.st 38)), .t (.int .i64), .t (.int .i64)], [.row 38 (.st 1038)]⟩
def qbp_o3 : List Out := [⟨.exit 0, ⟨⟨[5], [], [⟨.slot 5, 5, 38, (.st 1038)⟩]⟩, [.oslc 5], [.row 38 (.st 1038)]⟩⟩]
def qbp_b3 : Code := (nthLoop (bodyOf Tryz.f44) 0)
def qbp_rec3 (rec : List (TThread) → Int → Int → List (TThread) → Option ((List (TThread)))) : List (TV U) → Option ((List (TThread)))
  | [⟨(.slc (.st 38)), a0⟩, ⟨(.int .i64), a1⟩, ⟨(.int .i64), a2⟩, ⟨(.slc (.st 1038)), a3⟩] => rec a0 a1 a2 a3
  | _ => none
def qbp_enc3 : Nat → List (TV U) → Option ((List (TThread)))
  | 0, [⟨(.slc (.st 1038)), a0⟩] => some a0
  | _, _ => none
def qbp_dec3 : (List (TThread)) → Nat × List (TV U) := fun x => (0, [⟨(.slc (.st 1038)), x⟩])
def qbp_tr3 : (List (TThread)) → Tr (Nat × List (TV U)) := fun x => .ret (0, [⟨(.slc (.st 1038)), x⟩])
def qbp_lp3 : Lift.Loop U := ⟨qbp_sh3, qbp_o3, fun ls => .get (qbp_rec3 qbp_l3 ls) qbp_tr3⟩
theorem qbp_ok3 : LoopR kk env0 Tryz.f44.ntmps qbp_b3 qbp_lp3 :=
  loop_of qbp_enc3 qbp_dec3 (fun n => qbp_rec3 (qbp_i3 n)) (kitOk_of eqOk mixed known78) (L := jnL) (loopsOk_of (bs := []) (by kernel_rfl) trivial) (fun _ => rfl) (by intro i qs r h; unfold qbp_enc3 at h; split at h <;> cases h <;> rfl)
    (by intro ls r h; unfold qbp_rec3 at h; split at h <;> cases h)
    (by intro n ls r h; unfold qbp_rec3 at h; split at h; exact (show _ = qbp_t3 (qbp_i3 n) _ _ _ _ from by kernel_rfl).trans h; cases h) (by rw [qbp_l3, sealF_eq])
def qbp_sh : StSh := ⟨⟨[0, 1], [], []⟩, [.t (.slc (.st 38)), .fnc 45], []⟩
def qbp_os : List StSh := [⟨⟨[0], [], [⟨.slot 0, 100000, 38, (.st 1038)⟩]⟩, [.oslc 100000], [.row 38 (.st 1038)]⟩]
def qbp_tr : (List (TThread)) → Tr (Nat × List (TV U)) := fun x => .ret (0, [⟨(.slc (.st 1038)), x⟩])
def qbp_L : Nat → Option (Lift.Loop U) := fun n => bif Nat.beq n joinKey then some joinMark else bif Nat.beq n 3 then some qbp_lp3 else none
def qbp_enc : Nat → List (TV U) → Option ((List (TThread)))
  | 0, [⟨(.slc (.st 1038)), a0⟩] => some a0
  | _, _ => none
def qbp_dec : (List (TThread)) → Nat × List (TV U) := fun x => (0, [⟨(.slc (.st 1038)), x⟩])
def qbp_in : List (TV U) → Option ((List (TThread)))
  | [⟨(.slc (.st 38)), a0⟩] => qbp a0
  | _ => none
def qbp_md : Mode U := ⟨qbp_sh, [], qbp_os, fun ls => .get (qbp_in ls) qbp_tr⟩
theorem qbp_post : ModeOk kk env0 44 qbp_md :=
  fn_of (fn := Tryz.f44) qbp_enc qbp_dec (kitOk_of eqOk mixed known78) (by kernel_rfl) (L := qbp_L) (loopsOk_of (bs := [qbp_b3]) (by kernel_rfl) ⟨.inr ⟨_, by kernel_rfl, LoopOk.of_round (qbp_ok3)⟩, trivial⟩) (fun _ => rfl) (by intro i qs r h; unfold qbp_enc at h; split at h <;> cases h <;> rfl)
    (by intro ls r h; unfold qbp_in at h; split at h; rw [qbp, sealF_eq] at h; exact Eq.trans (by kernel_rfl) h; cases h)
def ms79 : List (FuncId × Mode U) := (44, qbp_md) :: ms78
theorem known79 : Known kk env0 (modesOf ms79) := known_cons (by kernel_rfl) qbp_post known78
def qaX_sh : StSh := ⟨⟨[0], [], []⟩, [.t (.st 26)], []⟩
def qaX_os : List StSh := [⟨⟨[0], [], [⟨.sub 0 0, 100100, 46, (.st 46)⟩, ⟨.sub 0 1, 100200, 9, .str⟩, ⟨.sub 0 2, 100300, 38, (.st 1038)⟩]⟩, [.agg [.oslc 100100, .oslc 100200, .oslc 100300]], [.row 46 (.st 46), .row 9 .str, .row 38 (.st 1038)]⟩]
def qaX_tr : (List (TCell)) × (List (List UInt8)) × (List (TThread)) → Tr (Nat × List (TV U)) := fun x => .ret (0, [⟨(.slc (.st 46)), x.1⟩, ⟨(.slc .str), x.2.1⟩, ⟨(.slc (.st 1038)), x.2.2⟩])
def qaX_enc : Nat → List (TV U) → Option ((List (TCell)) × (List (List UInt8)) × (List (TThread)))
  | 0, [⟨(.slc (.st 46)), a0⟩, ⟨(.slc .str), a1⟩, ⟨(.slc (.st 1038)), a2⟩] => some (a0, a1, a2)
  | _, _ => none
def qaX_dec : (List (TCell)) × (List (List UInt8)) × (List (TThread)) → Nat × List (TV U) := fun x => (0, [⟨(.slc (.st 46)), x.1⟩, ⟨(.slc .str), x.2.1⟩, ⟨(.slc (.st 1038)), x.2.2⟩])
def qaX_in : List (TV U) → Option ((List (TCell)) × (List (List UInt8)) × (List (TThread)))
  | [⟨(.st 26), a0⟩] => qaX a0
  | _ => none
def qaX_md : Mode U := ⟨qaX_sh, [], qaX_os, fun ls => .get (qaX_in ls) qaX_tr⟩
theorem qaX_post : ModeOk kk env0 19 qaX_md :=
  fn_of (fn := Tryz.f19) qaX_enc qaX_dec (kitOk_of eqOk mixed known79) (by kernel_rfl) (L := jnL) (loopsOk_of (bs := []) (by kernel_rfl) trivial) (fun _ => rfl) (by intro i qs r h; unfold qaX_enc at h; split at h <;> cases h <;> rfl)
    (by intro ls r h; unfold qaX_in at h; split at h; rw [qaX, sealF_eq] at h; exact Eq.trans (by kernel_rfl) h; cases h)
def ms80 : List (FuncId × Mode U) := (19, qaX_md) :: ms79
theorem known80 : Known kk env0 (modesOf ms80) := known_cons (by kernel_rfl) qaX_post known79
def qaU_sh4 : StSh := ⟨⟨[0, 1, 12, 13], [], []⟩, [.t (.slc (.st 46)), .t (.slc (.st 46)), .t (.int .i64), .t (.int .i64)], []⟩
def qaU_o4 : List Out := [⟨.ret, ⟨⟨[4], [], []⟩, [.t .bool], []⟩⟩, ⟨.exit 0, ⟨⟨[], [], []⟩, [], []⟩⟩]
def qaU_b4 : Code := (nthLoop (bodyOf Tryz.f34) 0)
def qaU_rec4 (rec : List (TCell) → List (TCell) → Int → Int → Option ((Bool) ⊕ (Unit))) : List (TV U) → Option ((Bool) ⊕ (Unit))
  | [⟨(.slc (.st 46)), a0⟩, ⟨(.slc (.st 46)), a1⟩, ⟨(.int .i64), a2⟩, ⟨(.int .i64), a3⟩] => rec a0 a1 a2 a3
  | _ => none
def qaU_enc4 : Nat → List (TV U) → Option ((Bool) ⊕ (Unit))
  | 0, [⟨.bool, a0⟩] => some (.inl a0)
  | 1, [] => some (.inr ())
  | _, _ => none
def qaU_dec4 : (Bool) ⊕ (Unit) → Nat × List (TV U) := fun r => match r with | (.inl x) => (0, [⟨.bool, x⟩]) | (.inr x) => (1, [])
def qaU_tr4 : (Bool) ⊕ (Unit) → Tr (Nat × List (TV U)) := fun r => .alt r (fun x => .ret (0, [⟨.bool, x⟩])) (fun y => (fun x => .ret (1, [])) y)
def qaU_lp4 : Lift.Loop U := ⟨qaU_sh4, qaU_o4, fun ls => .get (qaU_rec4 qaU_l4 ls) qaU_tr4⟩
theorem qaU_ok4 : LoopR kk env0 Tryz.f34.ntmps qaU_b4 qaU_lp4 :=
  loop_of qaU_enc4 qaU_dec4 (fun n => qaU_rec4 (qaU_i4 n)) (kitOk_of eqOk mixed known80) (L := jnL) (loopsOk_of (bs := []) (by kernel_rfl) trivial) (by intro r; rcases r with r | r <;> rfl) (by intro i qs r h; unfold qaU_enc4 at h; split at h <;> cases h <;> rfl)
    (by intro ls r h; unfold qaU_rec4 at h; split at h <;> cases h)
    (by intro n ls r h; unfold qaU_rec4 at h; split at h; exact (show _ = qaU_t4 (qaU_i4 n) _ _ _ _ from by kernel_rfl).trans h; cases h) (by rw [qaU_l4, sealF_eq])
def qaU_sh : StSh := ⟨⟨[0, 1], [], []⟩, [.t (.slc (.st 46)), .t (.slc (.st 46))], []⟩
def qaU_os : List StSh := [⟨⟨[0], [], []⟩, [.t .bool], []⟩]
def qaU_tr : Bool → Tr (Nat × List (TV U)) := fun x => .ret (0, [⟨.bool, x⟩])
def qaU_L : Nat → Option (Lift.Loop U) := fun n => bif Nat.beq n joinKey then some joinMark else bif Nat.beq n 4 then some qaU_lp4 else none
def qaU_enc : Nat → List (TV U) → Option (Bool)
  | 0, [⟨.bool, a0⟩] => some a0
  | _, _ => none
def qaU_dec : Bool → Nat × List (TV U) := fun x => (0, [⟨.bool, x⟩])
def qaU_in : List (TV U) → Option (Bool)
  | [⟨(.slc (.st 46)), a0⟩, ⟨(.slc (.st 46)), a1⟩] => qaU a0 a1
  | _ => none
def qaU_md : Mode U := ⟨qaU_sh, [], qaU_os, fun ls => .get (qaU_in ls) qaU_tr⟩
theorem qaU_post : ModeOk kk env0 34 qaU_md :=
  fn_of (fn := Tryz.f34) qaU_enc qaU_dec (kitOk_of eqOk mixed known80) (by kernel_rfl) (L := qaU_L) (loopsOk_of (bs := [qaU_b4]) (by kernel_rfl) ⟨.inr ⟨_, by kernel_rfl, LoopOk.of_round (qaU_ok4)⟩, trivial⟩) (fun _ => rfl) (by intro i qs r h; unfold qaU_enc at h; split at h <;> cases h <;> rfl)
    (by intro ls r h; unfold qaU_in at h; split at h; rw [qaU, sealF_eq] at h; exact Eq.trans (by kernel_rfl) h; cases h)
def ms81 : List (FuncId × Mode U) := (34, qaU_md) :: ms80
theorem known81 : Known kk env0 (modesOf ms81) := known_cons (by kernel_rfl) qaU_post known80
def qaV_sh4 : StSh := ⟨⟨[0, 1, 12, 13], [], []⟩, [.t (.slc .str), .t (.slc .str), .t (.int .i64), .t (.int .i64)], []⟩
def qaV_o4 : List Out := [⟨.ret, ⟨⟨[4], [], []⟩, [.t .bool], []⟩⟩, ⟨.exit 0, ⟨⟨[], [], []⟩, [], []⟩⟩]
def qaV_b4 : Code := (nthLoop (bodyOf Tryz.f35) 0)
def qaV_rec4 (rec : List (List UInt8) → List (List UInt8) → Int → Int → Option ((Bool) ⊕ (Unit))) : List (TV U) → Option ((Bool) ⊕ (Unit))
  | [⟨(.slc .str), a0⟩, ⟨(.slc .str), a1⟩, ⟨(.int .i64), a2⟩, ⟨(.int .i64), a3⟩] => rec a0 a1 a2 a3
  | _ => none
def qaV_enc4 : Nat → List (TV U) → Option ((Bool) ⊕ (Unit))
  | 0, [⟨.bool, a0⟩] => some (.inl a0)
  | 1, [] => some (.inr ())
  | _, _ => none
def qaV_dec4 : (Bool) ⊕ (Unit) → Nat × List (TV U) := fun r => match r with | (.inl x) => (0, [⟨.bool, x⟩]) | (.inr x) => (1, [])
def qaV_tr4 : (Bool) ⊕ (Unit) → Tr (Nat × List (TV U)) := fun r => .alt r (fun x => .ret (0, [⟨.bool, x⟩])) (fun y => (fun x => .ret (1, [])) y)
def qaV_lp4 : Lift.Loop U := ⟨qaV_sh4, qaV_o4, fun ls => .get (qaV_rec4 qaV_l4 ls) qaV_tr4⟩
theorem qaV_ok4 : LoopR kk env0 Tryz.f35.ntmps qaV_b4 qaV_lp4 :=
  loop_of qaV_enc4 qaV_dec4 (fun n => qaV_rec4 (qaV_i4 n)) (kitOk_of eqOk mixed known81) (L := jnL) (loopsOk_of (bs := []) (by kernel_rfl) trivial) (by intro r; rcases r with r | r <;> rfl) (by intro i qs r h; unfold qaV_enc4 at h; split at h <;> cases h <;> rfl)
    (by intro ls r h; unfold qaV_rec4 at h; split at h <;> cases h)
    (by intro n ls r h; unfold qaV_rec4 at h; split at h; exact (show _ = qaV_t4 (qaV_i4 n) _ _ _ _ from by kernel_rfl).trans h; cases h) (by rw [qaV_l4, sealF_eq])
def qaV_sh : StSh := ⟨⟨[0, 1], [], []⟩, [.t (.slc .str), .t (.slc .str)], []⟩
def qaV_os : List StSh := [⟨⟨[0], [], []⟩, [.t .bool], []⟩]
def qaV_tr : Bool → Tr (Nat × List (TV U)) := fun x => .ret (0, [⟨.bool, x⟩])
def qaV_L : Nat → Option (Lift.Loop U) := fun n => bif Nat.beq n joinKey then some joinMark else bif Nat.beq n 4 then some qaV_lp4 else none
def qaV_enc : Nat → List (TV U) → Option (Bool)
  | 0, [⟨.bool, a0⟩] => some a0
  | _, _ => none
def qaV_dec : Bool → Nat × List (TV U) := fun x => (0, [⟨.bool, x⟩])
def qaV_in : List (TV U) → Option (Bool)
  | [⟨(.slc .str), a0⟩, ⟨(.slc .str), a1⟩] => qaV a0 a1
  | _ => none
def qaV_md : Mode U := ⟨qaV_sh, [], qaV_os, fun ls => .get (qaV_in ls) qaV_tr⟩
theorem qaV_post : ModeOk kk env0 35 qaV_md :=
  fn_of (fn := Tryz.f35) qaV_enc qaV_dec (kitOk_of eqOk mixed known81) (by kernel_rfl) (L := qaV_L) (loopsOk_of (bs := [qaV_b4]) (by kernel_rfl) ⟨.inr ⟨_, by kernel_rfl, LoopOk.of_round (qaV_ok4)⟩, trivial⟩) (fun _ => rfl) (by intro i qs r h; unfold qaV_enc at h; split at h <;> cases h <;> rfl)
    (by intro ls r h; unfold qaV_in at h; split at h; rw [qaV, sealF_eq] at h; exact Eq.trans (by kernel_rfl) h; cases h)
def ms82 : List (FuncId × Mode U) := (35, qaV_md) :: ms81
theorem known82 : Known kk env0 (modesOf ms82) := known_cons (by kernel_rfl) qaV_post known81
def qbr_sh : StSh := ⟨⟨[0, 1], [], []⟩, [.t (.st 41), .t (.st 41)], []⟩
def qbr_os : List StSh := [⟨⟨[0], [], []⟩, [.t .bool], []⟩]
def qbr_tr : Bool → Tr (Nat × List (TV U)) := fun x => .ret (0, [⟨.bool, x⟩])
def qbr_in (rec_qbr : TExpr → TExpr → Option (Bool)) : List (TV U) → Option (Bool)
  | [⟨(.st 41), a0⟩, ⟨(.st 41), a1⟩] => rec_qbr a0 a1
  | _ => none
def qbr_rmd (rec_qbr : TExpr → TExpr → Option (Bool)) : Mode U := ⟨qbr_sh, [], qbr_os, fun ls => .get (qbr_in rec_qbr ls) qbr_tr⟩
def ms83 (rec_qbr : TExpr → TExpr → Option (Bool)) : List (FuncId × Mode U) := (68, (qbr_rmd rec_qbr)) :: ms82
theorem known83 (rec_qbr : TExpr → TExpr → Option (Bool)) (hrec_qbr : ModeOk kk env0 68 (qbr_rmd rec_qbr)) : Known kk env0 (modesOf (ms83 rec_qbr)) := known_cons (by kernel_rfl) hrec_qbr known82
def qaR_sh4 : StSh := ⟨⟨[1, 2, 15, 16, 17], [], []⟩, [.t (.slc (.st 41)), .fnc 68, .t (.slc (.st 41)), .t (.int .i64), .t (.int .i64)], []⟩
def qaR_o4 : List Out := [⟨.ret, ⟨⟨[6], [], []⟩, [.t .bool], []⟩⟩, ⟨.exit 0, ⟨⟨[], [], []⟩, [], []⟩⟩]
def qaR_b4 : Code := (nthLoop (bodyOf Tryz.f82) 0)
def qaR_rec4 (rec : List (TExpr) → List (TExpr) → Int → Int → Option ((Bool) ⊕ (Unit))) : List (TV U) → Option ((Bool) ⊕ (Unit))
  | [⟨(.slc (.st 41)), a0⟩, ⟨(.slc (.st 41)), a1⟩, ⟨(.int .i64), a2⟩, ⟨(.int .i64), a3⟩] => rec a0 a1 a2 a3
  | _ => none
def qaR_enc4 : Nat → List (TV U) → Option ((Bool) ⊕ (Unit))
  | 0, [⟨.bool, a0⟩] => some (.inl a0)
  | 1, [] => some (.inr ())
  | _, _ => none
def qaR_dec4 : (Bool) ⊕ (Unit) → Nat × List (TV U) := fun r => match r with | (.inl x) => (0, [⟨.bool, x⟩]) | (.inr x) => (1, [])
def qaR_tr4 : (Bool) ⊕ (Unit) → Tr (Nat × List (TV U)) := fun r => .alt r (fun x => .ret (0, [⟨.bool, x⟩])) (fun y => (fun x => .ret (1, [])) y)
def qaR_lp4 (rec_qbr : TExpr → TExpr → Option (Bool)) : Lift.Loop U := ⟨qaR_sh4, qaR_o4, fun ls => .get (qaR_rec4 (qaR_l4 rec_qbr) ls) qaR_tr4⟩
theorem qaR_ok4 (rec_qbr : TExpr → TExpr → Option (Bool)) (hrec_qbr : ModeOk kk env0 68 (qbr_rmd rec_qbr)) : LoopR kk env0 Tryz.f82.ntmps qaR_b4 (qaR_lp4 rec_qbr) :=
  loop_of qaR_enc4 qaR_dec4 (fun n => qaR_rec4 (qaR_i4 rec_qbr n)) (kitOk_of eqOk mixed (known83 rec_qbr hrec_qbr)) (L := jnL) (loopsOk_of (bs := []) (by kernel_rfl) trivial) (by intro r; rcases r with r | r <;> rfl) (by intro i qs r h; unfold qaR_enc4 at h; split at h <;> cases h <;> rfl)
    (by intro ls r h; unfold qaR_rec4 at h; split at h <;> cases h)
    (by intro n ls r h; unfold qaR_rec4 at h; split at h; exact (show _ = qaR_t4 rec_qbr (qaR_i4 rec_qbr n) _ _ _ _ from by kernel_rfl).trans h; cases h) (by rw [qaR_l4, sealF_eq])
def qaR_sh : StSh := ⟨⟨[0, 1, 2], [], []⟩, [.t (.slc (.st 41)), .t (.slc (.st 41)), .fnc 68], []⟩
def qaR_os : List StSh := [⟨⟨[0], [], []⟩, [.t .bool], []⟩]
def qaR_tr : Bool → Tr (Nat × List (TV U)) := fun x => .ret (0, [⟨.bool, x⟩])
def qaR_L (rec_qbr : TExpr → TExpr → Option (Bool)) : Nat → Option (Lift.Loop U) := fun n => bif Nat.beq n joinKey then some joinMark else bif Nat.beq n 4 then some (qaR_lp4 rec_qbr) else none
def qaR_enc : Nat → List (TV U) → Option (Bool)
  | 0, [⟨.bool, a0⟩] => some a0
  | _, _ => none
def qaR_dec : Bool → Nat × List (TV U) := fun x => (0, [⟨.bool, x⟩])
def qaR_in (rec_qbr : TExpr → TExpr → Option (Bool)) : List (TV U) → Option (Bool)
  | [⟨(.slc (.st 41)), a0⟩, ⟨(.slc (.st 41)), a1⟩] => qaR rec_qbr a0 a1
  | _ => none
def qaR_md (rec_qbr : TExpr → TExpr → Option (Bool)) : Mode U := ⟨qaR_sh, [], qaR_os, fun ls => .get (qaR_in rec_qbr ls) qaR_tr⟩
theorem qaR_post (rec_qbr : TExpr → TExpr → Option (Bool)) (hrec_qbr : ModeOk kk env0 68 (qbr_rmd rec_qbr)) : ModeOk kk env0 82 (qaR_md rec_qbr) :=
  fn_of (fn := Tryz.f82) qaR_enc qaR_dec (kitOk_of eqOk mixed (known83 rec_qbr hrec_qbr)) (by kernel_rfl) (L := (qaR_L rec_qbr)) (loopsOk_of (bs := [qaR_b4]) (by kernel_rfl) ⟨.inr ⟨_, by kernel_rfl, LoopOk.of_round (qaR_ok4 rec_qbr hrec_qbr)⟩, trivial⟩) (fun _ => rfl) (by intro i qs r h; unfold qaR_enc at h; split at h <;> cases h <;> rfl)
    (by intro ls r h; unfold qaR_in at h; split at h; rw [qaR, sealF_eq] at h; exact Eq.trans (by kernel_rfl) h; cases h)
def ms84 (rec_qbr : TExpr → TExpr → Option (Bool)) : List (FuncId × Mode U) := (82, (qaR_md rec_qbr)) :: (ms83 rec_qbr)
theorem known84 (rec_qbr : TExpr → TExpr → Option (Bool)) (hrec_qbr : ModeOk kk env0 68 (qbr_rmd rec_qbr)) : Known kk env0 (modesOf (ms84 rec_qbr)) := known_cons (by kernel_rfl) (qaR_post rec_qbr hrec_qbr) (known83 rec_qbr hrec_qbr)
def qbr_enc : Nat → List (TV U) → Option (Bool)
  | 0, [⟨.bool, a0⟩] => some a0
  | _, _ => none
def qbr_dec : Bool → Nat × List (TV U) := fun x => (0, [⟨.bool, x⟩])
def qbr_md : Mode U := qbr_rmd qbr
theorem qbr_step (rec_qbr : TExpr → TExpr → Option (Bool)) (hrec_qbr : ModeOk kk env0 68 (qbr_rmd rec_qbr)) : LoopsOk (Kit.withModes kk (modesOf (ms84 rec_qbr))) env0 Tryz.f68.ntmps jnL (bodyOf Tryz.f68) := loopsOk_of (bs := []) (by kernel_rfl) trivial
theorem qbr_post : ModeOk kk env0 68 (qbr_rmd qbr) :=
  rec_of (K := kk) (F := qbr) qbr_rmd qbr_i (by rw [qbr, sealF_eq]) (rec_zero (by intro ls r h; unfold qbr_in at h; split at h <;> cases h)) (fun n ih => fn_of (fn := Tryz.f68) qbr_enc qbr_dec (kitOk_of eqOk mixed (known84 (qbr_i n) ih)) (by kernel_rfl) (qbr_step (qbr_i n) ih) (fun _ => rfl) (by intro i qs r h; unfold qbr_enc at h; split at h <;> cases h <;> rfl)
    (by intro ls r h; unfold qbr_in at h; split at h; exact (show _ = qbr_f (qbr_i n) _ _ from by kernel_rfl).trans h; cases h))
def ms85 : List (FuncId × Mode U) := (68, qbr_md) :: ms82
theorem known85 : Known kk env0 (modesOf ms85) := known_cons (by kernel_rfl) qbr_post known82
def qaS_sh : StSh := ⟨⟨[0, 1, 2], [], []⟩, [.t (.slc (.st 43)), .t (.slc (.st 43)), .fnc 39], []⟩
def qaS_os : List StSh := [⟨⟨[0], [], []⟩, [.t .bool], []⟩]
def qaS_tr : Bool → Tr (Nat × List (TV U)) := fun x => .ret (0, [⟨.bool, x⟩])
def qaS_in (rec_qaS : List (TStmt) → List (TStmt) → Option (Bool)) : List (TV U) → Option (Bool)
  | [⟨(.slc (.st 43)), a0⟩, ⟨(.slc (.st 43)), a1⟩] => rec_qaS a0 a1
  | _ => none
def qaS_rmd (rec_qaS : List (TStmt) → List (TStmt) → Option (Bool)) : Mode U := ⟨qaS_sh, [], qaS_os, fun ls => .get (qaS_in rec_qaS ls) qaS_tr⟩
def ms86 (rec_qaS : List (TStmt) → List (TStmt) → Option (Bool)) : List (FuncId × Mode U) := (38, (qaS_rmd rec_qaS)) :: ms85
theorem known86 (rec_qaS : List (TStmt) → List (TStmt) → Option (Bool)) (hrec_qaS : ModeOk kk env0 38 (qaS_rmd rec_qaS)) : Known kk env0 (modesOf (ms86 rec_qaS)) := known_cons (by kernel_rfl) hrec_qaS known85
def qbs_sh : StSh := ⟨⟨[0, 1], [], []⟩, [.t (.st 43), .t (.st 43)], []⟩
def qbs_os : List StSh := [⟨⟨[0], [], []⟩, [.t .bool], []⟩]
def qbs_tr : Bool → Tr (Nat × List (TV U)) := fun x => .ret (0, [⟨.bool, x⟩])
def qbs_enc : Nat → List (TV U) → Option (Bool)
  | 0, [⟨.bool, a0⟩] => some a0
  | _, _ => none
def qbs_dec : Bool → Nat × List (TV U) := fun x => (0, [⟨.bool, x⟩])
def qbs_in (rec_qaS : List (TStmt) → List (TStmt) → Option (Bool)) : List (TV U) → Option (Bool)
  | [⟨(.st 43), a0⟩, ⟨(.st 43), a1⟩] => qbs rec_qaS a0 a1
  | _ => none
def qbs_md (rec_qaS : List (TStmt) → List (TStmt) → Option (Bool)) : Mode U := ⟨qbs_sh, [], qbs_os, fun ls => .get (qbs_in rec_qaS ls) qbs_tr⟩
theorem qbs_post (rec_qaS : List (TStmt) → List (TStmt) → Option (Bool)) (hrec_qaS : ModeOk kk env0 38 (qaS_rmd rec_qaS)) : ModeOk kk env0 39 (qbs_md rec_qaS) :=
  fn_of (fn := Tryz.f39) qbs_enc qbs_dec (kitOk_of eqOk mixed (known86 rec_qaS hrec_qaS)) (by kernel_rfl) (L := jnL) (loopsOk_of (bs := []) (by kernel_rfl) trivial) (fun _ => rfl) (by intro i qs r h; unfold qbs_enc at h; split at h <;> cases h <;> rfl)
    (by intro ls r h; unfold qbs_in at h; split at h; rw [qbs, sealF_eq] at h; exact Eq.trans (by kernel_rfl) h; cases h)
def ms87 (rec_qaS : List (TStmt) → List (TStmt) → Option (Bool)) : List (FuncId × Mode U) := (39, (qbs_md rec_qaS)) :: (ms86 rec_qaS)
theorem known87 (rec_qaS : List (TStmt) → List (TStmt) → Option (Bool)) (hrec_qaS : ModeOk kk env0 38 (qaS_rmd rec_qaS)) : Known kk env0 (modesOf (ms87 rec_qaS)) := known_cons (by kernel_rfl) (qbs_post rec_qaS hrec_qaS) (known86 rec_qaS hrec_qaS)
def qaS_sh4 : StSh := ⟨⟨[1, 2, 15, 16, 17], [], []⟩, [.t (.slc (.st 43)), .fnc 39, .t (.slc (.st 43)), .t (.int .i64), .t (.int .i64)], []⟩
def qaS_o4 : List Out := [⟨.ret, ⟨⟨[6], [], []⟩, [.t .bool], []⟩⟩, ⟨.exit 0, ⟨⟨[], [], []⟩, [], []⟩⟩]
def qaS_b4 : Code := (nthLoop (bodyOf Tryz.f38) 0)
def qaS_rec4 (rec : List (TStmt) → List (TStmt) → Int → Int → Option ((Bool) ⊕ (Unit))) : List (TV U) → Option ((Bool) ⊕ (Unit))
  | [⟨(.slc (.st 43)), a0⟩, ⟨(.slc (.st 43)), a1⟩, ⟨(.int .i64), a2⟩, ⟨(.int .i64), a3⟩] => rec a0 a1 a2 a3
  | _ => none
def qaS_enc4 : Nat → List (TV U) → Option ((Bool) ⊕ (Unit))
  | 0, [⟨.bool, a0⟩] => some (.inl a0)
  | 1, [] => some (.inr ())
  | _, _ => none
def qaS_dec4 : (Bool) ⊕ (Unit) → Nat × List (TV U) := fun r => match r with | (.inl x) => (0, [⟨.bool, x⟩]) | (.inr x) => (1, [])
def qaS_tr4 : (Bool) ⊕ (Unit) → Tr (Nat × List (TV U)) := fun r => .alt r (fun x => .ret (0, [⟨.bool, x⟩])) (fun y => (fun x => .ret (1, [])) y)
def qaS_lp4 (rec_qaS : List (TStmt) → List (TStmt) → Option (Bool)) : Lift.Loop U := ⟨qaS_sh4, qaS_o4, fun ls => .get (qaS_rec4 (qaS_l4 rec_qaS) ls) qaS_tr4⟩
theorem qaS_ok4 (rec_qaS : List (TStmt) → List (TStmt) → Option (Bool)) (hrec_qaS : ModeOk kk env0 38 (qaS_rmd rec_qaS)) : LoopR kk env0 Tryz.f38.ntmps qaS_b4 (qaS_lp4 rec_qaS) :=
  loop_of qaS_enc4 qaS_dec4 (fun n => qaS_rec4 (qaS_i4 rec_qaS n)) (kitOk_of eqOk mixed (known87 rec_qaS hrec_qaS)) (L := jnL) (loopsOk_of (bs := []) (by kernel_rfl) trivial) (by intro r; rcases r with r | r <;> rfl) (by intro i qs r h; unfold qaS_enc4 at h; split at h <;> cases h <;> rfl)
    (by intro ls r h; unfold qaS_rec4 at h; split at h <;> cases h)
    (by intro n ls r h; unfold qaS_rec4 at h; split at h; exact (show _ = qaS_t4 rec_qaS (qaS_i4 rec_qaS n) _ _ _ _ from by kernel_rfl).trans h; cases h) (by rw [qaS_l4, sealF_eq])
def qaS_L (rec_qaS : List (TStmt) → List (TStmt) → Option (Bool)) : Nat → Option (Lift.Loop U) := fun n => bif Nat.beq n joinKey then some joinMark else bif Nat.beq n 4 then some (qaS_lp4 rec_qaS) else none
def qaS_enc : Nat → List (TV U) → Option (Bool)
  | 0, [⟨.bool, a0⟩] => some a0
  | _, _ => none
def qaS_dec : Bool → Nat × List (TV U) := fun x => (0, [⟨.bool, x⟩])
def qaS_md : Mode U := qaS_rmd qaS
theorem qaS_step (rec_qaS : List (TStmt) → List (TStmt) → Option (Bool)) (hrec_qaS : ModeOk kk env0 38 (qaS_rmd rec_qaS)) : LoopsOk (Kit.withModes kk (modesOf (ms87 rec_qaS))) env0 Tryz.f38.ntmps (qaS_L rec_qaS) (bodyOf Tryz.f38) := loopsOk_of (bs := [qaS_b4]) (by kernel_rfl) ⟨.inr ⟨_, by kernel_rfl, LoopOk.of_round (qaS_ok4 rec_qaS hrec_qaS)⟩, trivial⟩
theorem qaS_post : ModeOk kk env0 38 (qaS_rmd qaS) :=
  rec_of (K := kk) (F := qaS) qaS_rmd qaS_i (by rw [qaS, sealF_eq]) (rec_zero (by intro ls r h; unfold qaS_in at h; split at h <;> cases h)) (fun n ih => fn_of (fn := Tryz.f38) qaS_enc qaS_dec (kitOk_of eqOk mixed (known87 (qaS_i n) ih)) (by kernel_rfl) (qaS_step (qaS_i n) ih) (fun _ => rfl) (by intro i qs r h; unfold qaS_enc at h; split at h <;> cases h <;> rfl)
    (by intro ls r h; unfold qaS_in at h; split at h; exact (show _ = qaS_f (qaS_i n) _ _ from by kernel_rfl).trans h; cases h))
def ms88 : List (FuncId × Mode U) := (38, qaS_md) :: ms85
theorem known88 : Known kk env0 (modesOf ms88) := known_cons (by kernel_rfl) qaS_post known85
def qbd_sh : StSh := ⟨⟨[0, 1], [], []⟩, [.t (.st 38), .t (.st 38)], []⟩
def qbd_os : List StSh := [⟨⟨[0], [], []⟩, [.t .bool], []⟩]
def qbd_tr : Bool → Tr (Nat × List (TV U)) := fun x => .ret (0, [⟨.bool, x⟩])
def qbd_enc : Nat → List (TV U) → Option (Bool)
  | 0, [⟨.bool, a0⟩] => some a0
  | _, _ => none
def qbd_dec : Bool → Nat × List (TV U) := fun x => (0, [⟨.bool, x⟩])
def qbd_in : List (TV U) → Option (Bool)
  | [⟨(.st 38), a0⟩, ⟨(.st 38), a1⟩] => qbd a0 a1
  | _ => none
def qbd_md : Mode U := ⟨qbd_sh, [], qbd_os, fun ls => .get (qbd_in ls) qbd_tr⟩
theorem qbd_post : ModeOk kk env0 37 qbd_md :=
  fn_of (fn := Tryz.f37) qbd_enc qbd_dec (kitOk_of eqOk mixed known88) (by kernel_rfl) (L := jnL) (loopsOk_of (bs := []) (by kernel_rfl) trivial) (fun _ => rfl) (by intro i qs r h; unfold qbd_enc at h; split at h <;> cases h <;> rfl)
    (by intro ls r h; unfold qbd_in at h; split at h; rw [qbd, sealF_eq] at h; exact Eq.trans (by kernel_rfl) h; cases h)
def ms89 : List (FuncId × Mode U) := (37, qbd_md) :: ms88
theorem known89 : Known kk env0 (modesOf ms89) := known_cons (by kernel_rfl) qbd_post known88
def qaT_sh4 : StSh := ⟨⟨[1, 2, 15, 16, 17], [], []⟩, [.t (.slc (.st 38)), .fnc 37, .t (.slc (.st 38)), .t (.int .i64), .t (.int .i64)], []⟩
def qaT_o4 : List Out := [⟨.ret, ⟨⟨[6], [], []⟩, [.t .bool], []⟩⟩, ⟨.exit 0, ⟨⟨[], [], []⟩, [], []⟩⟩]
def qaT_b4 : Code := (nthLoop (bodyOf Tryz.f36) 0)
def qaT_rec4 (rec : List (TThread) → List (TThread) → Int → Int → Option ((Bool) ⊕ (Unit))) : List (TV U) → Option ((Bool) ⊕ (Unit))
  | [⟨(.slc (.st 38)), a0⟩, ⟨(.slc (.st 38)), a1⟩, ⟨(.int .i64), a2⟩, ⟨(.int .i64), a3⟩] => rec a0 a1 a2 a3
  | _ => none
def qaT_enc4 : Nat → List (TV U) → Option ((Bool) ⊕ (Unit))
  | 0, [⟨.bool, a0⟩] => some (.inl a0)
  | 1, [] => some (.inr ())
  | _, _ => none
def qaT_dec4 : (Bool) ⊕ (Unit) → Nat × List (TV U) := fun r => match r with | (.inl x) => (0, [⟨.bool, x⟩]) | (.inr x) => (1, [])
def qaT_tr4 : (Bool) ⊕ (Unit) → Tr (Nat × List (TV U)) := fun r => .alt r (fun x => .ret (0, [⟨.bool, x⟩])) (fun y => (fun x => .ret (1, [])) y)
def qaT_lp4 : Lift.Loop U := ⟨qaT_sh4, qaT_o4, fun ls => .get (qaT_rec4 qaT_l4 ls) qaT_tr4⟩
theorem qaT_ok4 : LoopR kk env0 Tryz.f36.ntmps qaT_b4 qaT_lp4 :=
  loop_of qaT_enc4 qaT_dec4 (fun n => qaT_rec4 (qaT_i4 n)) (kitOk_of eqOk mixed known89) (L := jnL) (loopsOk_of (bs := []) (by kernel_rfl) trivial) (by intro r; rcases r with r | r <;> rfl) (by intro i qs r h; unfold qaT_enc4 at h; split at h <;> cases h <;> rfl)
    (by intro ls r h; unfold qaT_rec4 at h; split at h <;> cases h)
    (by intro n ls r h; unfold qaT_rec4 at h; split at h; exact (show _ = qaT_t4 (qaT_i4 n) _ _ _ _ from by kernel_rfl).trans h; cases h) (by rw [qaT_l4, sealF_eq])
def qaT_sh : StSh := ⟨⟨[0, 1, 2], [], []⟩, [.t (.slc (.st 38)), .t (.slc (.st 38)), .fnc 37], []⟩
def qaT_os : List StSh := [⟨⟨[0], [], []⟩, [.t .bool], []⟩]
def qaT_tr : Bool → Tr (Nat × List (TV U)) := fun x => .ret (0, [⟨.bool, x⟩])
def qaT_L : Nat → Option (Lift.Loop U) := fun n => bif Nat.beq n joinKey then some joinMark else bif Nat.beq n 4 then some qaT_lp4 else none
def qaT_enc : Nat → List (TV U) → Option (Bool)
  | 0, [⟨.bool, a0⟩] => some a0
  | _, _ => none
def qaT_dec : Bool → Nat × List (TV U) := fun x => (0, [⟨.bool, x⟩])
def qaT_in : List (TV U) → Option (Bool)
  | [⟨(.slc (.st 38)), a0⟩, ⟨(.slc (.st 38)), a1⟩] => qaT a0 a1
  | _ => none
def qaT_md : Mode U := ⟨qaT_sh, [], qaT_os, fun ls => .get (qaT_in ls) qaT_tr⟩
theorem qaT_post : ModeOk kk env0 36 qaT_md :=
  fn_of (fn := Tryz.f36) qaT_enc qaT_dec (kitOk_of eqOk mixed known89) (by kernel_rfl) (L := qaT_L) (loopsOk_of (bs := [qaT_b4]) (by kernel_rfl) ⟨.inr ⟨_, by kernel_rfl, LoopOk.of_round (qaT_ok4)⟩, trivial⟩) (fun _ => rfl) (by intro i qs r h; unfold qaT_enc at h; split at h <;> cases h <;> rfl)
    (by intro ls r h; unfold qaT_in at h; split at h; rw [qaT, sealF_eq] at h; exact Eq.trans (by kernel_rfl) h; cases h)
def ms90 : List (FuncId × Mode U) := (36, qaT_md) :: ms89
theorem known90 : Known kk env0 (modesOf ms90) := known_cons (by kernel_rfl) qaT_post known89
def qbc_sh : StSh := ⟨⟨[0, 1], [], []⟩, [.t (.st 26), .t (.st 26)], []⟩
def qbc_os : List StSh := [⟨⟨[0], [], []⟩, [.t .bool], []⟩]
def qbc_tr : Bool → Tr (Nat × List (TV U)) := fun x => .ret (0, [⟨.bool, x⟩])
def qbc_enc : Nat → List (TV U) → Option (Bool)
  | 0, [⟨.bool, a0⟩] => some a0
  | _, _ => none
def qbc_dec : Bool → Nat × List (TV U) := fun x => (0, [⟨.bool, x⟩])
def qbc_in : List (TV U) → Option (Bool)
  | [⟨(.st 26), a0⟩, ⟨(.st 26), a1⟩] => qbc a0 a1
  | _ => none
def qbc_md : Mode U := ⟨qbc_sh, [], qbc_os, fun ls => .get (qbc_in ls) qbc_tr⟩
theorem qbc_post : ModeOk kk env0 18 qbc_md :=
  fn_of (fn := Tryz.f18) qbc_enc qbc_dec (kitOk_of eqOk mixed known90) (by kernel_rfl) (L := jnL) (loopsOk_of (bs := []) (by kernel_rfl) trivial) (fun _ => rfl) (by intro i qs r h; unfold qbc_enc at h; split at h <;> cases h <;> rfl)
    (by intro ls r h; unfold qbc_in at h; split at h; rw [qbc, sealF_eq] at h; exact Eq.trans (by kernel_rfl) h; cases h)
def ms91 : List (FuncId × Mode U) := (18, qbc_md) :: ms90
theorem known91 : Known kk env0 (modesOf ms91) := known_cons (by kernel_rfl) qbc_post known90
def qay_sh : StSh := ⟨⟨[], [], []⟩, [], []⟩
def qay_os : List StSh := [⟨⟨[0], [], []⟩, [.t .bool], []⟩]
def qay_tr : Bool → Tr (Nat × List (TV U)) := fun x => .ret (0, [⟨.bool, x⟩])
def qay_enc : Nat → List (TV U) → Option (Bool)
  | 0, [⟨.bool, a0⟩] => some a0
  | _, _ => none
def qay_dec : Bool → Nat × List (TV U) := fun x => (0, [⟨.bool, x⟩])
def qay_in : List (TV U) → Option (Bool)
  | [] => qay
  | _ => none
def qay_md : Mode U := ⟨qay_sh, [], qay_os, fun ls => .get (qay_in ls) qay_tr⟩
theorem qay_post : ModeOk kk env0 9 qay_md :=
  fn_of (fn := Tryz.f9) qay_enc qay_dec (kitOk_of eqOk mixed known91) (by kernel_rfl) (L := jnL) (loopsOk_of (bs := []) (by kernel_rfl) trivial) (fun _ => rfl) (by intro i qs r h; unfold qay_enc at h; split at h <;> cases h <;> rfl)
    (by intro ls r h; unfold qay_in at h; split at h; rw [qay, sealF_eq] at h; exact Eq.trans (by kernel_rfl) h; cases h)
def ms92 : List (FuncId × Mode U) := (9, qay_md) :: ms91
theorem known92 : Known kk env0 (modesOf ms92) := known_cons (by kernel_rfl) qay_post known91
def qaA_sh : StSh := ⟨⟨[0], [], []⟩, [.t (.st 41)], []⟩
def qaA_os : List StSh := [⟨⟨[0], [], [⟨.sub 0 3, 100400, 41, (.st 1041)⟩]⟩, [.agg [.t (.int .i64), .t (.int .i64), .t .str, .oslc 100400]], [.row 41 (.st 1041)]⟩]
def qaA_tr : Int × Int × (List UInt8) × (List (TExpr)) → Tr (Nat × List (TV U)) := fun x => .ret (0, [⟨(.int .i64), x.1⟩, ⟨(.int .i64), x.2.1⟩, ⟨.str, x.2.2.1⟩, ⟨(.slc (.st 1041)), x.2.2.2⟩])
def qaA_in (rec_qaA : TExpr → Option (Int × Int × (List UInt8) × (List (TExpr)))) : List (TV U) → Option (Int × Int × (List UInt8) × (List (TExpr)))
  | [⟨(.st 41), a0⟩] => rec_qaA a0
  | _ => none
def qaA_rmd (rec_qaA : TExpr → Option (Int × Int × (List UInt8) × (List (TExpr)))) : Mode U := ⟨qaA_sh, [], qaA_os, fun ls => .get (qaA_in rec_qaA ls) qaA_tr⟩
def ms93 (rec_qaA : TExpr → Option (Int × Int × (List UInt8) × (List (TExpr)))) : List (FuncId × Mode U) := (55, (qaA_rmd rec_qaA)) :: ms92
theorem known93 (rec_qaA : TExpr → Option (Int × Int × (List UInt8) × (List (TExpr)))) (hrec_qaA : ModeOk kk env0 55 (qaA_rmd rec_qaA)) : Known kk env0 (modesOf (ms93 rec_qaA)) := known_cons (by kernel_rfl) hrec_qaA known92
def qaA_sh3 : StSh := ⟨⟨[1, 2, 3, 4], [1, 2, 3], [⟨.cell 3 3, 20153, 41, (.st 1041)⟩]⟩, [.ptr 1 0, .ptr 2 0, .ptr 3 0, .t (.int .i64)], [.blk 41 [.t (.int .i64), .t (.int .i64), .t .str, .t (.slc (.st 41))], .blk 41 [.t (.int .i64), .t (.int .i64), .t .str, .nil], .blk 41 [.t (.int .i64), .t (.int .i64), .t .str, .oslc 20153], .row 41 (.st 1041)]⟩
def qaA_o3 : List Out := [⟨.exit 0, ⟨⟨[2, 3], [2, 3], [⟨.cell 3 3, 20153, 41, (.st 1041)⟩]⟩, [.ptr 2 0, .ptr 3 0], [.blk 41 [.t (.int .i64), .t (.int .i64), .t .str, .nil], .blk 41 [.t (.int .i64), .t (.int .i64), .t .str, .oslc 20153], .row 41 (.st 1041)]⟩⟩]
def qaA_b3 : Code := (nthLoop (bodyOf Tryz.f55) 0)
def qaA_rec3 (rec : Int → Int → Int → List UInt8 → List (TExpr) → Int → Int → List UInt8 → Int → Int → List UInt8 → List (TExpr) → Option (Int × Int × (List UInt8) × Int × Int × (List UInt8) × (List (TExpr)))) : List (TV U) → Option (Int × Int × (List UInt8) × Int × Int × (List UInt8) × (List (TExpr)))
  | [⟨(.int .i64), a0⟩, ⟨(.int .i64), a1⟩, ⟨(.int .i64), a2⟩, ⟨.str, a3⟩, ⟨(.slc (.st 41)), a4⟩, ⟨(.int .i64), a5⟩, ⟨(.int .i64), a6⟩, ⟨.str, a7⟩, ⟨(.int .i64), a8⟩, ⟨(.int .i64), a9⟩, ⟨.str, a10⟩, ⟨(.slc (.st 1041)), a11⟩] => rec a0 a1 a2 a3 a4 a5 a6 a7 a8 a9 a10 a11
  | _ => none
def qaA_enc3 : Nat → List (TV U) → Option (Int × Int × (List UInt8) × Int × Int × (List UInt8) × (List (TExpr)))
  | 0, [⟨(.int .i64), a0⟩, ⟨(.int .i64), a1⟩, ⟨.str, a2⟩, ⟨(.int .i64), a3⟩, ⟨(.int .i64), a4⟩, ⟨.str, a5⟩, ⟨(.slc (.st 1041)), a6⟩] => some (a0, a1, a2, a3, a4, a5, a6)
  | _, _ => none
def qaA_dec3 : Int × Int × (List UInt8) × Int × Int × (List UInt8) × (List (TExpr)) → Nat × List (TV U) := fun x => (0, [⟨(.int .i64), x.1⟩, ⟨(.int .i64), x.2.1⟩, ⟨.str, x.2.2.1⟩, ⟨(.int .i64), x.2.2.2.1⟩, ⟨(.int .i64), x.2.2.2.2.1⟩, ⟨.str, x.2.2.2.2.2.1⟩, ⟨(.slc (.st 1041)), x.2.2.2.2.2.2⟩])
def qaA_tr3 : Int × Int × (List UInt8) × Int × Int × (List UInt8) × (List (TExpr)) → Tr (Nat × List (TV U)) := fun x => .ret (0, [⟨(.int .i64), x.1⟩, ⟨(.int .i64), x.2.1⟩, ⟨.str, x.2.2.1⟩, ⟨(.int .i64), x.2.2.2.1⟩, ⟨(.int .i64), x.2.2.2.2.1⟩, ⟨.str, x.2.2.2.2.2.1⟩, ⟨(.slc (.st 1041)), x.2.2.2.2.2.2⟩])
def qaA_lp3 (rec_qaA : TExpr → Option (Int × Int × (List UInt8) × (List (TExpr)))) : Lift.Loop U := ⟨qaA_sh3, qaA_o3, fun ls => .get (qaA_rec3 (qaA_l3 rec_qaA) ls) qaA_tr3⟩
theorem qaA_ok3 (rec_qaA : TExpr → Option (Int × Int × (List UInt8) × (List (TExpr)))) (hrec_qaA : ModeOk kk env0 55 (qaA_rmd rec_qaA)) : LoopR kk env0 Tryz.f55.ntmps qaA_b3 (qaA_lp3 rec_qaA) :=
  loop_of qaA_enc3 qaA_dec3 (fun n => qaA_rec3 (qaA_i3 rec_qaA n)) (kitOk_of eqOk mixed (known93 rec_qaA hrec_qaA)) (L := jnL) (loopsOk_of (bs := []) (by kernel_rfl) trivial) (fun _ => rfl) (by intro i qs r h; unfold qaA_enc3 at h; split at h <;> cases h <;> rfl)
    (by intro ls r h; unfold qaA_rec3 at h; split at h <;> cases h)
    (by intro n ls r h; unfold qaA_rec3 at h; split at h; exact (show _ = qaA_t3 rec_qaA (qaA_i3 rec_qaA n) _ _ _ _ _ _ _ _ _ _ _ _ from by kernel_rfl).trans h; cases h) (by rw [qaA_l3, sealF_eq])
def qaA_L (rec_qaA : TExpr → Option (Int × Int × (List UInt8) × (List (TExpr)))) : Nat → Option (Lift.Loop U) := fun n => bif Nat.beq n joinKey then some joinMark else bif Nat.beq n 3 then some (qaA_lp3 rec_qaA) else none
def qaA_enc : Nat → List (TV U) → Option (Int × Int × (List UInt8) × (List (TExpr)))
  | 0, [⟨(.int .i64), a0⟩, ⟨(.int .i64), a1⟩, ⟨.str, a2⟩, ⟨(.slc (.st 1041)), a3⟩] => some (a0, a1, a2, a3)
  | _, _ => none
def qaA_dec : Int × Int × (List UInt8) × (List (TExpr)) → Nat × List (TV U) := fun x => (0, [⟨(.int .i64), x.1⟩, ⟨(.int .i64), x.2.1⟩, ⟨.str, x.2.2.1⟩, ⟨(.slc (.st 1041)), x.2.2.2⟩])
def qaA_md : Mode U := qaA_rmd qaA
theorem qaA_step (rec_qaA : TExpr → Option (Int × Int × (List UInt8) × (List (TExpr)))) (hrec_qaA : ModeOk kk env0 55 (qaA_rmd rec_qaA)) : LoopsOk (Kit.withModes kk (modesOf (ms93 rec_qaA))) env0 Tryz.f55.ntmps (qaA_L rec_qaA) (bodyOf Tryz.f55) := loopsOk_of (bs := [qaA_b3]) (by kernel_rfl) ⟨.inr ⟨_, by kernel_rfl, LoopOk.of_round (qaA_ok3 rec_qaA hrec_qaA)⟩, trivial⟩
theorem qaA_post : ModeOk kk env0 55 (qaA_rmd qaA) :=
  rec_of (K := kk) (F := qaA) qaA_rmd qaA_i (by rw [qaA, sealF_eq]) (rec_zero (by intro ls r h; unfold qaA_in at h; split at h <;> cases h)) (fun n ih => fn_of (fn := Tryz.f55) qaA_enc qaA_dec (kitOk_of eqOk mixed (known93 (qaA_i n) ih)) (by kernel_rfl) (qaA_step (qaA_i n) ih) (fun _ => rfl) (by intro i qs r h; unfold qaA_enc at h; split at h <;> cases h <;> rfl)
    (by intro ls r h; unfold qaA_in at h; split at h; exact (show _ = qaA_f (qaA_i n) _ from by kernel_rfl).trans h; cases h))
def ms94 : List (FuncId × Mode U) := (55, qaA_md) :: ms92
theorem known94 : Known kk env0 (modesOf ms94) := known_cons (by kernel_rfl) qaA_post known92
def qaB_sh : StSh := ⟨⟨[0], [], []⟩, [.t (.slc (.st 43))], []⟩
def qaB_os : List StSh := [⟨⟨[0], [], [⟨.slot 0, 100000, 43, (.st 1043)⟩]⟩, [.oslc 100000], [.row 43 (.st 1043)]⟩]
def qaB_tr : (List (TStmt)) → Tr (Nat × List (TV U)) := fun x => .ret (0, [⟨(.slc (.st 1043)), x⟩])
def qaB_in (rec_qaB : List (TStmt) → Option ((List (TStmt)))) : List (TV U) → Option ((List (TStmt)))
  | [⟨(.slc (.st 43)), a0⟩] => rec_qaB a0
  | _ => none
def qaB_rmd (rec_qaB : List (TStmt) → Option ((List (TStmt)))) : Mode U := ⟨qaB_sh, [], qaB_os, fun ls => .get (qaB_in rec_qaB ls) qaB_tr⟩
def ms95 (rec_qaB : List (TStmt) → Option ((List (TStmt)))) : List (FuncId × Mode U) := (23, (qaB_rmd rec_qaB)) :: ms94
theorem known95 (rec_qaB : List (TStmt) → Option ((List (TStmt)))) (hrec_qaB : ModeOk kk env0 23 (qaB_rmd rec_qaB)) : Known kk env0 (modesOf (ms95 rec_qaB)) := known_cons (by kernel_rfl) hrec_qaB known94
def qaB_sh3 : StSh := ⟨⟨[0, 3, 4], [], [⟨.slot 3, 3, 43, (.st 1043)⟩]⟩, [.t (.slc (.st 43)), .oslc 3, .t (.int .i64)], [.row 43 (.st 1043)]⟩
def qaB_o3 : List Out := [⟨.exit 0, ⟨⟨[3], [], [⟨.slot 3, 3, 43, (.st 1043)⟩]⟩, [.oslc 3], [.row 43 (.st 1043)]⟩⟩]
def qaB_b3 : Code := (nthLoop (bodyOf Tryz.f23) 0)
def qaB_rec3 (rec : List (TStmt) → Int → List (TStmt) → Option ((List (TStmt)))) : List (TV U) → Option ((List (TStmt)))
  | [⟨(.slc (.st 43)), a0⟩, ⟨(.int .i64), a1⟩, ⟨(.slc (.st 1043)), a2⟩] => rec a0 a1 a2
  | _ => none
def qaB_enc3 : Nat → List (TV U) → Option ((List (TStmt)))
  | 0, [⟨(.slc (.st 1043)), a0⟩] => some a0
  | _, _ => none
def qaB_dec3 : (List (TStmt)) → Nat × List (TV U) := fun x => (0, [⟨(.slc (.st 1043)), x⟩])
def qaB_tr3 : (List (TStmt)) → Tr (Nat × List (TV U)) := fun x => .ret (0, [⟨(.slc (.st 1043)), x⟩])
def qaB_lp3 (rec_qaB : List (TStmt) → Option ((List (TStmt)))) : Lift.Loop U := ⟨qaB_sh3, qaB_o3, fun ls => .get (qaB_rec3 (qaB_l3 rec_qaB) ls) qaB_tr3⟩
theorem qaB_ok3 (rec_qaB : List (TStmt) → Option ((List (TStmt)))) (hrec_qaB : ModeOk kk env0 23 (qaB_rmd rec_qaB)) : LoopR kk env0 Tryz.f23.ntmps qaB_b3 (qaB_lp3 rec_qaB) :=
  loop_of qaB_enc3 qaB_dec3 (fun n => qaB_rec3 (qaB_i3 rec_qaB n)) (kitOk_of eqOk mixed (known95 rec_qaB hrec_qaB)) (L := jnL) (loopsOk_of (bs := []) (by kernel_rfl) trivial) (fun _ => rfl) (by intro i qs r h; unfold qaB_enc3 at h; split at h <;> cases h <;> rfl)
    (by intro ls r h; unfold qaB_rec3 at h; split at h <;> cases h)
    (by intro n ls r h; unfold qaB_rec3 at h; split at h; exact (show _ = qaB_t3 rec_qaB (qaB_i3 rec_qaB n) _ _ _ from by kernel_rfl).trans h; cases h) (by rw [qaB_l3, sealF_eq])
def qaB_L (rec_qaB : List (TStmt) → Option ((List (TStmt)))) : Nat → Option (Lift.Loop U) := fun n => bif Nat.beq n joinKey then some joinMark else bif Nat.beq n 3 then some (qaB_lp3 rec_qaB) else none
def qaB_enc : Nat → List (TV U) → Option ((List (TStmt)))
  | 0, [⟨(.slc (.st 1043)), a0⟩] => some a0
  | _, _ => none
def qaB_dec : (List (TStmt)) → Nat × List (TV U) := fun x => (0, [⟨(.slc (.st 1043)), x⟩])
def qaB_md : Mode U := qaB_rmd qaB
theorem qaB_step (rec_qaB : List (TStmt) → Option ((List (TStmt)))) (hrec_qaB : ModeOk kk env0 23 (qaB_rmd rec_qaB)) : LoopsOk (Kit.withModes kk (modesOf (ms95 rec_qaB))) env0 Tryz.f23.ntmps (qaB_L rec_qaB) (bodyOf Tryz.f23) := loopsOk_of (bs := [qaB_b3]) (by kernel_rfl) ⟨.inr ⟨_, by kernel_rfl, LoopOk.of_round (qaB_ok3 rec_qaB hrec_qaB)⟩, trivial⟩
theorem qaB_post : ModeOk kk env0 23 (qaB_rmd qaB) :=
  rec_of (K := kk) (F := qaB) qaB_rmd qaB_i (by rw [qaB, sealF_eq]) (rec_zero (by intro ls r h; unfold qaB_in at h; split at h <;> cases h)) (fun n ih => fn_of (fn := Tryz.f23) qaB_enc qaB_dec (kitOk_of eqOk mixed (known95 (qaB_i n) ih)) (by kernel_rfl) (qaB_step (qaB_i n) ih) (fun _ => rfl) (by intro i qs r h; unfold qaB_enc at h; split at h <;> cases h <;> rfl)
    (by intro ls r h; unfold qaB_in at h; split at h; exact (show _ = qaB_f (qaB_i n) _ from by kernel_rfl).trans h; cases h))
def ms96 : List (FuncId × Mode U) := (23, qaB_md) :: ms94
theorem known96 : Known kk env0 (modesOf ms96) := known_cons (by kernel_rfl) qaB_post known94
def qaz_sh5 : StSh := ⟨⟨[1, 2, 3, 4], [1, 2, 3], [⟨.cell 3 0, 20150, 46, (.st 46)⟩, ⟨.cell 3 1, 20151, 9, .str⟩, ⟨.cell 3 2, 20152, 38, (.st 1038)⟩]⟩, [.ptr 1 0, .ptr 2 0, .ptr 3 0, .t (.int .i64)], [.blk 26 [.t (.slc (.st 46)), .t (.slc .str), .t (.slc (.st 38))], .blk 26 [.nil, .nil, .nil], .blk 26 [.oslc 20150, .oslc 20151, .oslc 20152], .row 46 (.st 46), .row 9 .str, .row 38 (.st 1038)]⟩
def qaz_o5 : List Out := [⟨.exit 0, ⟨⟨[2, 3], [2, 3], [⟨.cell 3 0, 20150, 46, (.st 46)⟩, ⟨.cell 3 1, 20151, 9, .str⟩, ⟨.cell 3 2, 20152, 38, (.st 1038)⟩]⟩, [.ptr 2 0, .ptr 3 0], [.blk 26 [.nil, .nil, .nil], .blk 26 [.oslc 20150, .oslc 20151, .oslc 20152], .row 46 (.st 46), .row 9 .str, .row 38 (.st 1038)]⟩⟩]
def qaz_b5 : Code := (nthLoop (bodyOf Tryz.f10) 0)
def qaz_rec5 (rec : Int → List (TCell) → List (List UInt8) → List (TThread) → List (TCell) → List (List UInt8) → List (TThread) → Option ((List (TCell)) × (List (List UInt8)) × (List (TThread)))) : List (TV U) → Option ((List (TCell)) × (List (List UInt8)) × (List (TThread)))
  | [⟨(.int .i64), a0⟩, ⟨(.slc (.st 46)), a1⟩, ⟨(.slc .str), a2⟩, ⟨(.slc (.st 38)), a3⟩, ⟨(.slc (.st 46)), a4⟩, ⟨(.slc .str), a5⟩, ⟨(.slc (.st 1038)), a6⟩] => rec a0 a1 a2 a3 a4 a5 a6
  | _ => none
def qaz_enc5 : Nat → List (TV U) → Option ((List (TCell)) × (List (List UInt8)) × (List (TThread)))
  | 0, [⟨(.slc (.st 46)), a0⟩, ⟨(.slc .str), a1⟩, ⟨(.slc (.st 1038)), a2⟩] => some (a0, a1, a2)
  | _, _ => none
def qaz_dec5 : (List (TCell)) × (List (List UInt8)) × (List (TThread)) → Nat × List (TV U) := fun x => (0, [⟨(.slc (.st 46)), x.1⟩, ⟨(.slc .str), x.2.1⟩, ⟨(.slc (.st 1038)), x.2.2⟩])
def qaz_tr5 : (List (TCell)) × (List (List UInt8)) × (List (TThread)) → Tr (Nat × List (TV U)) := fun x => .ret (0, [⟨(.slc (.st 46)), x.1⟩, ⟨(.slc .str), x.2.1⟩, ⟨(.slc (.st 1038)), x.2.2⟩])
def qaz_lp5 : Lift.Loop U := ⟨qaz_sh5, qaz_o5, fun ls => .get (qaz_rec5 qaz_l5 ls) qaz_tr5⟩
theorem qaz_ok5 : LoopR kk env0 Tryz.f10.ntmps qaz_b5 qaz_lp5 :=
  loop_of qaz_enc5 qaz_dec5 (fun n => qaz_rec5 (qaz_i5 n)) (kitOk_of eqOk mixed known96) (L := jnL) (loopsOk_of (bs := []) (by kernel_rfl) trivial) (fun _ => rfl) (by intro i qs r h; unfold qaz_enc5 at h; split at h <;> cases h <;> rfl)
    (by intro ls r h; unfold qaz_rec5 at h; split at h <;> cases h)
    (by intro n ls r h; unfold qaz_rec5 at h; split at h; exact (show _ = qaz_t5 (qaz_i5 n) _ _ _ _ _ _ _ from by kernel_rfl).trans h; cases h) (by rw [qaz_l5, sealF_eq])
def qaz_sh : StSh := ⟨⟨[0], [], []⟩, [.t (.st 26)], []⟩
def qaz_os : List StSh := [⟨⟨[0], [], [⟨.sub 0 0, 100100, 46, (.st 46)⟩, ⟨.sub 0 1, 100200, 9, .str⟩, ⟨.sub 0 2, 100300, 38, (.st 1038)⟩]⟩, [.agg [.oslc 100100, .oslc 100200, .oslc 100300]], [.row 46 (.st 46), .row 9 .str, .row 38 (.st 1038)]⟩]
def qaz_tr : (List (TCell)) × (List (List UInt8)) × (List (TThread)) → Tr (Nat × List (TV U)) := fun x => .ret (0, [⟨(.slc (.st 46)), x.1⟩, ⟨(.slc .str), x.2.1⟩, ⟨(.slc (.st 1038)), x.2.2⟩])
def qaz_L : Nat → Option (Lift.Loop U) := fun n => bif Nat.beq n joinKey then some joinMark else bif Nat.beq n 5 then some qaz_lp5 else none
def qaz_enc : Nat → List (TV U) → Option ((List (TCell)) × (List (List UInt8)) × (List (TThread)))
  | 0, [⟨(.slc (.st 46)), a0⟩, ⟨(.slc .str), a1⟩, ⟨(.slc (.st 1038)), a2⟩] => some (a0, a1, a2)
  | _, _ => none
def qaz_dec : (List (TCell)) × (List (List UInt8)) × (List (TThread)) → Nat × List (TV U) := fun x => (0, [⟨(.slc (.st 46)), x.1⟩, ⟨(.slc .str), x.2.1⟩, ⟨(.slc (.st 1038)), x.2.2⟩])
def qaz_in : List (TV U) → Option ((List (TCell)) × (List (List UInt8)) × (List (TThread)))
  | [⟨(.st 26), a0⟩] => qaz a0
  | _ => none
def qaz_md : Mode U := ⟨qaz_sh, [], qaz_os, fun ls => .get (qaz_in ls) qaz_tr⟩
theorem qaz_post : ModeOk kk env0 10 qaz_md :=
  fn_of (fn := Tryz.f10) qaz_enc qaz_dec (kitOk_of eqOk mixed known96) (by kernel_rfl) (L := qaz_L) (loopsOk_of (bs := [qaz_b5]) (by kernel_rfl) ⟨.inr ⟨_, by kernel_rfl, LoopOk.of_round (qaz_ok5)⟩, trivial⟩) (fun _ => rfl) (by intro i qs r h; unfold qaz_enc at h; split at h <;> cases h <;> rfl)
    (by intro ls r h; unfold qaz_in at h; split at h; rw [qaz, sealF_eq] at h; exact Eq.trans (by kernel_rfl) h; cases h)
def ms97 : List (FuncId × Mode U) := (10, qaz_md) :: ms96
theorem known97 : Known kk env0 (modesOf ms97) := known_cons (by kernel_rfl) qaz_post known96
def qaD_sh : StSh := ⟨⟨[0, 1], [], []⟩, [.t (.st 41), .t (.st 41)], []⟩
def qaD_os : List StSh := [⟨⟨[0], [], []⟩, [.t .bool], []⟩]
def qaD_tr : Bool → Tr (Nat × List (TV U)) := fun x => .ret (0, [⟨.bool, x⟩])
def qaD_in (rec_qaD : TExpr → TExpr → Option (Bool)) : List (TV U) → Option (Bool)
  | [⟨(.st 41), a0⟩, ⟨(.st 41), a1⟩] => rec_qaD a0 a1
  | _ => none
def qaD_rmd (rec_qaD : TExpr → TExpr → Option (Bool)) : Mode U := ⟨qaD_sh, [], qaD_os, fun ls => .get (qaD_in rec_qaD ls) qaD_tr⟩
def ms137 (rec_qaD : TExpr → TExpr → Option (Bool)) : List (FuncId × Mode U) := (63, (qaD_rmd rec_qaD)) :: ms97
theorem known137 (rec_qaD : TExpr → TExpr → Option (Bool)) (hrec_qaD : ModeOk kk env0 63 (qaD_rmd rec_qaD)) : Known kk env0 (modesOf (ms137 rec_qaD)) := known_cons (by kernel_rfl) hrec_qaD known97
def qaD_sh4 : StSh := ⟨⟨[2, 3, 5], [2, 3], []⟩, [.ptr 2 0, .ptr 3 0, .t (.int .i64)], [.blk 41 [.t (.int .i64), .t (.int .i64), .t .str, .t (.slc (.st 41))], .blk 41 [.t (.int .i64), .t (.int .i64), .t .str, .t (.slc (.st 41))]]⟩
def qaD_o4 : List Out := [⟨.ret, ⟨⟨[4], [], []⟩, [.t .bool], []⟩⟩, ⟨.exit 0, ⟨⟨[], [], []⟩, [], []⟩⟩]
def qaD_b4 : Code := (nthLoop (bodyOf Tryz.f63) 0)
def qaD_rec4 (rec : Int → Int → Int → List UInt8 → List (TExpr) → Int → Int → List UInt8 → List (TExpr) → Option ((Bool) ⊕ (Unit))) : List (TV U) → Option ((Bool) ⊕ (Unit))
  | [⟨(.int .i64), a0⟩, ⟨(.int .i64), a1⟩, ⟨(.int .i64), a2⟩, ⟨.str, a3⟩, ⟨(.slc (.st 41)), a4⟩, ⟨(.int .i64), a5⟩, ⟨(.int .i64), a6⟩, ⟨.str, a7⟩, ⟨(.slc (.st 41)), a8⟩] => rec a0 a1 a2 a3 a4 a5 a6 a7 a8
  | _ => none
def qaD_enc4 : Nat → List (TV U) → Option ((Bool) ⊕ (Unit))
  | 0, [⟨.bool, a0⟩] => some (.inl a0)
  | 1, [] => some (.inr ())
  | _, _ => none
def qaD_dec4 : (Bool) ⊕ (Unit) → Nat × List (TV U) := fun r => match r with | (.inl x) => (0, [⟨.bool, x⟩]) | (.inr x) => (1, [])
def qaD_tr4 : (Bool) ⊕ (Unit) → Tr (Nat × List (TV U)) := fun r => .alt r (fun x => .ret (0, [⟨.bool, x⟩])) (fun y => (fun x => .ret (1, [])) y)
def qaD_lp4 (rec_qaD : TExpr → TExpr → Option (Bool)) : Lift.Loop U := ⟨qaD_sh4, qaD_o4, fun ls => .get (qaD_rec4 (qaD_l4 rec_qaD) ls) qaD_tr4⟩
theorem qaD_ok4 (rec_qaD : TExpr → TExpr → Option (Bool)) (hrec_qaD : ModeOk kk env0 63 (qaD_rmd rec_qaD)) : LoopR kk env0 Tryz.f63.ntmps qaD_b4 (qaD_lp4 rec_qaD) :=
  loop_of qaD_enc4 qaD_dec4 (fun n => qaD_rec4 (qaD_i4 rec_qaD n)) (kitOk_of eqOk mixed (known137 rec_qaD hrec_qaD)) (L := jnL) (loopsOk_of (bs := []) (by kernel_rfl) trivial) (by intro r; rcases r with r | r <;> rfl) (by intro i qs r h; unfold qaD_enc4 at h; split at h <;> cases h <;> rfl)
    (by intro ls r h; unfold qaD_rec4 at h; split at h <;> cases h)
    (by intro n ls r h; unfold qaD_rec4 at h; split at h; exact (show _ = qaD_t4 rec_qaD (qaD_i4 rec_qaD n) _ _ _ _ _ _ _ _ _ from by kernel_rfl).trans h; cases h) (by rw [qaD_l4, sealF_eq])
def qaD_L (rec_qaD : TExpr → TExpr → Option (Bool)) : Nat → Option (Lift.Loop U) := fun n => bif Nat.beq n joinKey then some joinMark else bif Nat.beq n 4 then some (qaD_lp4 rec_qaD) else none
def qaD_enc : Nat → List (TV U) → Option (Bool)
  | 0, [⟨.bool, a0⟩] => some a0
  | _, _ => none
def qaD_dec : Bool → Nat × List (TV U) := fun x => (0, [⟨.bool, x⟩])
def qaD_md : Mode U := qaD_rmd qaD
theorem qaD_step (rec_qaD : TExpr → TExpr → Option (Bool)) (hrec_qaD : ModeOk kk env0 63 (qaD_rmd rec_qaD)) : LoopsOk (Kit.withModes kk (modesOf (ms137 rec_qaD))) env0 Tryz.f63.ntmps (qaD_L rec_qaD) (bodyOf Tryz.f63) := loopsOk_of (bs := [qaD_b4]) (by kernel_rfl) ⟨.inr ⟨_, by kernel_rfl, LoopOk.of_round (qaD_ok4 rec_qaD hrec_qaD)⟩, trivial⟩
theorem qaD_post : ModeOk kk env0 63 (qaD_rmd qaD) :=
  rec_of (K := kk) (F := qaD) qaD_rmd qaD_i (by rw [qaD, sealF_eq]) (rec_zero (by intro ls r h; unfold qaD_in at h; split at h <;> cases h)) (fun n ih => fn_of (fn := Tryz.f63) qaD_enc qaD_dec (kitOk_of eqOk mixed (known137 (qaD_i n) ih)) (by kernel_rfl) (qaD_step (qaD_i n) ih) (fun _ => rfl) (by intro i qs r h; unfold qaD_enc at h; split at h <;> cases h <;> rfl)
    (by intro ls r h; unfold qaD_in at h; split at h; exact (show _ = qaD_f (qaD_i n) _ _ from by kernel_rfl).trans h; cases h))
def ms138 : List (FuncId × Mode U) := (63, qaD_md) :: ms97
theorem known138 : Known kk env0 (modesOf ms138) := known_cons (by kernel_rfl) qaD_post known97
def qaE_sh : StSh := ⟨⟨[0, 1], [], []⟩, [.t (.slc (.st 43)), .t (.slc (.st 43))], []⟩
def qaE_os : List StSh := [⟨⟨[0], [], []⟩, [.t .bool], []⟩]
def qaE_tr : Bool → Tr (Nat × List (TV U)) := fun x => .ret (0, [⟨.bool, x⟩])
def qaE_in (rec_qaE : List (TStmt) → List (TStmt) → Option (Bool)) : List (TV U) → Option (Bool)
  | [⟨(.slc (.st 43)), a0⟩, ⟨(.slc (.st 43)), a1⟩] => rec_qaE a0 a1
  | _ => none
def qaE_rmd (rec_qaE : List (TStmt) → List (TStmt) → Option (Bool)) : Mode U := ⟨qaE_sh, [], qaE_os, fun ls => .get (qaE_in rec_qaE ls) qaE_tr⟩
def ms139 (rec_qaE : List (TStmt) → List (TStmt) → Option (Bool)) : List (FuncId × Mode U) := (26, (qaE_rmd rec_qaE)) :: ms138
theorem known139 (rec_qaE : List (TStmt) → List (TStmt) → Option (Bool)) (hrec_qaE : ModeOk kk env0 26 (qaE_rmd rec_qaE)) : Known kk env0 (modesOf (ms139 rec_qaE)) := known_cons (by kernel_rfl) hrec_qaE known138
def qaE_sh4 : StSh := ⟨⟨[0, 1, 5], [], []⟩, [.t (.slc (.st 43)), .t (.slc (.st 43)), .t (.int .i64)], []⟩
def qaE_o4 : List Out := [⟨.ret, ⟨⟨[4], [], []⟩, [.t .bool], []⟩⟩, ⟨.exit 0, ⟨⟨[], [], []⟩, [], []⟩⟩]
def qaE_b4 : Code := (nthLoop (bodyOf Tryz.f26) 0)
def qaE_rec4 (rec : List (TStmt) → List (TStmt) → Int → Option ((Bool) ⊕ (Unit))) : List (TV U) → Option ((Bool) ⊕ (Unit))
  | [⟨(.slc (.st 43)), a0⟩, ⟨(.slc (.st 43)), a1⟩, ⟨(.int .i64), a2⟩] => rec a0 a1 a2
  | _ => none
def qaE_enc4 : Nat → List (TV U) → Option ((Bool) ⊕ (Unit))
  | 0, [⟨.bool, a0⟩] => some (.inl a0)
  | 1, [] => some (.inr ())
  | _, _ => none
def qaE_dec4 : (Bool) ⊕ (Unit) → Nat × List (TV U) := fun r => match r with | (.inl x) => (0, [⟨.bool, x⟩]) | (.inr x) => (1, [])
def qaE_tr4 : (Bool) ⊕ (Unit) → Tr (Nat × List (TV U)) := fun r => .alt r (fun x => .ret (0, [⟨.bool, x⟩])) (fun y => (fun x => .ret (1, [])) y)
def qaE_lp4 (rec_qaE : List (TStmt) → List (TStmt) → Option (Bool)) : Lift.Loop U := ⟨qaE_sh4, qaE_o4, fun ls => .get (qaE_rec4 (qaE_l4 rec_qaE) ls) qaE_tr4⟩
theorem qaE_ok4 (rec_qaE : List (TStmt) → List (TStmt) → Option (Bool)) (hrec_qaE : ModeOk kk env0 26 (qaE_rmd rec_qaE)) : LoopR kk env0 Tryz.f26.ntmps qaE_b4 (qaE_lp4 rec_qaE) :=
  loop_of qaE_enc4 qaE_dec4 (fun n => qaE_rec4 (qaE_i4 rec_qaE n)) (kitOk_of eqOk mixed (known139 rec_qaE hrec_qaE)) (L := jnL) (loopsOk_of (bs := []) (by kernel_rfl) trivial) (by intro r; rcases r with r | r <;> rfl) (by intro i qs r h; unfold qaE_enc4 at h; split at h <;> cases h <;> rfl)
    (by intro ls r h; unfold qaE_rec4 at h; split at h <;> cases h)
    (by intro n ls r h; unfold qaE_rec4 at h; split at h; exact (show _ = qaE_t4 rec_qaE (qaE_i4 rec_qaE n) _ _ _ from by kernel_rfl).trans h; cases h) (by rw [qaE_l4, sealF_eq])
def qaE_L (rec_qaE : List (TStmt) → List (TStmt) → Option (Bool)) : Nat → Option (Lift.Loop U) := fun n => bif Nat.beq n joinKey then some joinMark else bif Nat.beq n 4 then some (qaE_lp4 rec_qaE) else none
def qaE_enc : Nat → List (TV U) → Option (Bool)
  | 0, [⟨.bool, a0⟩] => some a0
  | _, _ => none
def qaE_dec : Bool → Nat × List (TV U) := fun x => (0, [⟨.bool, x⟩])
def qaE_md : Mode U := qaE_rmd qaE
theorem qaE_step (rec_qaE : List (TStmt) → List (TStmt) → Option (Bool)) (hrec_qaE : ModeOk kk env0 26 (qaE_rmd rec_qaE)) : LoopsOk (Kit.withModes kk (modesOf (ms139 rec_qaE))) env0 Tryz.f26.ntmps (qaE_L rec_qaE) (bodyOf Tryz.f26) := loopsOk_of (bs := [qaE_b4]) (by kernel_rfl) ⟨.inr ⟨_, by kernel_rfl, LoopOk.of_round (qaE_ok4 rec_qaE hrec_qaE)⟩, trivial⟩
theorem qaE_post : ModeOk kk env0 26 (qaE_rmd qaE) :=
  rec_of (K := kk) (F := qaE) qaE_rmd qaE_i (by rw [qaE, sealF_eq]) (rec_zero (by intro ls r h; unfold qaE_in at h; split at h <;> cases h)) (fun n ih => fn_of (fn := Tryz.f26) qaE_enc qaE_dec (kitOk_of eqOk mixed (known139 (qaE_i n) ih)) (by kernel_rfl) (qaE_step (qaE_i n) ih) (fun _ => rfl) (by intro i qs r h; unfold qaE_enc at h; split at h <;> cases h <;> rfl)
    (by intro ls r h; unfold qaE_in at h; split at h; exact (show _ = qaE_f (qaE_i n) _ _ from by kernel_rfl).trans h; cases h))
def ms140 : List (FuncId × Mode U) := (26, qaE_md) :: ms138
theorem known140 : Known kk env0 (modesOf ms140) := known_cons (by kernel_rfl) qaE_post known138
def qaC_sh4 : StSh := ⟨⟨[2, 3, 5], [2, 3], []⟩, [.ptr 2 0, .ptr 3 0, .t (.int .i64)], [.blk 26 [.t (.slc (.st 46)), .t (.slc .str), .t (.slc (.st 38))], .blk 26 [.t (.slc (.st 46)), .t (.slc .str), .t (.slc (.st 38))]]⟩
def qaC_o4 : List Out := [⟨.ret, ⟨⟨[4], [], []⟩, [.t .bool], []⟩⟩, ⟨.exit 0, ⟨⟨[2, 3], [2, 3], []⟩, [.ptr 2 0, .ptr 3 0], [.blk 26 [.t (.slc (.st 46)), .t (.slc .str), .t (.slc (.st 38))], .blk 26 [.t (.slc (.st 46)), .t (.slc .str), .t (.slc (.st 38))]]⟩⟩]
def qaC_b4 : Code := (nthLoop (bodyOf Tryz.f13) 0)
def qaC_rec4 (rec : Int → List (TCell) → List (List UInt8) → List (TThread) → List (TCell) → List (List UInt8) → List (TThread) → Option ((Bool) ⊕ ((List (TCell)) × (List (List UInt8)) × (List (TThread)) × (List (TCell)) × (List (List UInt8)) × (List (TThread))))) : List (TV U) → Option ((Bool) ⊕ ((List (TCell)) × (List (List UInt8)) × (List (TThread)) × (List (TCell)) × (List (List UInt8)) × (List (TThread))))
  | [⟨(.int .i64), a0⟩, ⟨(.slc (.st 46)), a1⟩, ⟨(.slc .str), a2⟩, ⟨(.slc (.st 38)), a3⟩, ⟨(.slc (.st 46)), a4⟩, ⟨(.slc .str), a5⟩, ⟨(.slc (.st 38)), a6⟩] => rec a0 a1 a2 a3 a4 a5 a6
  | _ => none
def qaC_enc4 : Nat → List (TV U) → Option ((Bool) ⊕ ((List (TCell)) × (List (List UInt8)) × (List (TThread)) × (List (TCell)) × (List (List UInt8)) × (List (TThread))))
  | 0, [⟨.bool, a0⟩] => some (.inl a0)
  | 1, [⟨(.slc (.st 46)), a0⟩, ⟨(.slc .str), a1⟩, ⟨(.slc (.st 38)), a2⟩, ⟨(.slc (.st 46)), a3⟩, ⟨(.slc .str), a4⟩, ⟨(.slc (.st 38)), a5⟩] => some (.inr (a0, a1, a2, a3, a4, a5))
  | _, _ => none
def qaC_dec4 : (Bool) ⊕ ((List (TCell)) × (List (List UInt8)) × (List (TThread)) × (List (TCell)) × (List (List UInt8)) × (List (TThread))) → Nat × List (TV U) := fun r => match r with | (.inl x) => (0, [⟨.bool, x⟩]) | (.inr x) => (1, [⟨(.slc (.st 46)), x.1⟩, ⟨(.slc .str), x.2.1⟩, ⟨(.slc (.st 38)), x.2.2.1⟩, ⟨(.slc (.st 46)), x.2.2.2.1⟩, ⟨(.slc .str), x.2.2.2.2.1⟩, ⟨(.slc (.st 38)), x.2.2.2.2.2⟩])
def qaC_tr4 : (Bool) ⊕ ((List (TCell)) × (List (List UInt8)) × (List (TThread)) × (List (TCell)) × (List (List UInt8)) × (List (TThread))) → Tr (Nat × List (TV U)) := fun r => .alt r (fun x => .ret (0, [⟨.bool, x⟩])) (fun y => (fun x => .ret (1, [⟨(.slc (.st 46)), x.1⟩, ⟨(.slc .str), x.2.1⟩, ⟨(.slc (.st 38)), x.2.2.1⟩, ⟨(.slc (.st 46)), x.2.2.2.1⟩, ⟨(.slc .str), x.2.2.2.2.1⟩, ⟨(.slc (.st 38)), x.2.2.2.2.2⟩])) y)
def qaC_lp4 : Lift.Loop U := ⟨qaC_sh4, qaC_o4, fun ls => .get (qaC_rec4 qaC_l4 ls) qaC_tr4⟩
theorem qaC_ok4 : LoopR kk env0 Tryz.f13.ntmps qaC_b4 qaC_lp4 :=
  loop_of qaC_enc4 qaC_dec4 (fun n => qaC_rec4 (qaC_i4 n)) (kitOk_of eqOk mixed known140) (L := jnL) (loopsOk_of (bs := []) (by kernel_rfl) trivial) (by intro r; rcases r with r | r <;> rfl) (by intro i qs r h; unfold qaC_enc4 at h; split at h <;> cases h <;> rfl)
    (by intro ls r h; unfold qaC_rec4 at h; split at h <;> cases h)
    (by intro n ls r h; unfold qaC_rec4 at h; split at h; exact (show _ = qaC_t4 (qaC_i4 n) _ _ _ _ _ _ _ from by kernel_rfl).trans h; cases h) (by rw [qaC_l4, sealF_eq])
def qaC_sh9 : StSh := ⟨⟨[2, 3, 6], [2, 3], []⟩, [.ptr 2 0, .ptr 3 0, .t (.int .i64)], [.blk 26 [.t (.slc (.st 46)), .t (.slc .str), .t (.slc (.st 38))], .blk 26 [.t (.slc (.st 46)), .t (.slc .str), .t (.slc (.st 38))]]⟩
def qaC_o9 : List Out := [⟨.ret, ⟨⟨[4], [], []⟩, [.t .bool], []⟩⟩, ⟨.exit 2, ⟨⟨[2, 3], [2, 3], []⟩, [.ptr 2 0, .ptr 3 0], [.blk 26 [.t (.slc (.st 46)), .t (.slc .str), .t (.slc (.st 38))], .blk 26 [.t (.slc (.st 46)), .t (.slc .str), .t (.slc (.st 38))]]⟩⟩]
def qaC_b9 : Code := (nthLoop (bodyOf Tryz.f13) 1)
def qaC_rec9 (rec : Int → List (TCell) → List (List UInt8) → List (TThread) → List (TCell) → List (List UInt8) → List (TThread) → Option ((Bool) ⊕ ((List (TCell)) × (List (List UInt8)) × (List (TThread)) × (List (TCell)) × (List (List UInt8)) × (List (TThread))))) : List (TV U) → Option ((Bool) ⊕ ((List (TCell)) × (List (List UInt8)) × (List (TThread)) × (List (TCell)) × (List (List UInt8)) × (List (TThread))))
  | [⟨(.int .i64), a0⟩, ⟨(.slc (.st 46)), a1⟩, ⟨(.slc .str), a2⟩, ⟨(.slc (.st 38)), a3⟩, ⟨(.slc (.st 46)), a4⟩, ⟨(.slc .str), a5⟩, ⟨(.slc (.st 38)), a6⟩] => rec a0 a1 a2 a3 a4 a5 a6
  | _ => none
def qaC_enc9 : Nat → List (TV U) → Option ((Bool) ⊕ ((List (TCell)) × (List (List UInt8)) × (List (TThread)) × (List (TCell)) × (List (List UInt8)) × (List (TThread))))
  | 0, [⟨.bool, a0⟩] => some (.inl a0)
  | 1, [⟨(.slc (.st 46)), a0⟩, ⟨(.slc .str), a1⟩, ⟨(.slc (.st 38)), a2⟩, ⟨(.slc (.st 46)), a3⟩, ⟨(.slc .str), a4⟩, ⟨(.slc (.st 38)), a5⟩] => some (.inr (a0, a1, a2, a3, a4, a5))
  | _, _ => none
def qaC_dec9 : (Bool) ⊕ ((List (TCell)) × (List (List UInt8)) × (List (TThread)) × (List (TCell)) × (List (List UInt8)) × (List (TThread))) → Nat × List (TV U) := fun r => match r with | (.inl x) => (0, [⟨.bool, x⟩]) | (.inr x) => (1, [⟨(.slc (.st 46)), x.1⟩, ⟨(.slc .str), x.2.1⟩, ⟨(.slc (.st 38)), x.2.2.1⟩, ⟨(.slc (.st 46)), x.2.2.2.1⟩, ⟨(.slc .str), x.2.2.2.2.1⟩, ⟨(.slc (.st 38)), x.2.2.2.2.2⟩])
def qaC_tr9 : (Bool) ⊕ ((List (TCell)) × (List (List UInt8)) × (List (TThread)) × (List (TCell)) × (List (List UInt8)) × (List (TThread))) → Tr (Nat × List (TV U)) := fun r => .alt r (fun x => .ret (0, [⟨.bool, x⟩])) (fun y => (fun x => .ret (1, [⟨(.slc (.st 46)), x.1⟩, ⟨(.slc .str), x.2.1⟩, ⟨(.slc (.st 38)), x.2.2.1⟩, ⟨(.slc (.st 46)), x.2.2.2.1⟩, ⟨(.slc .str), x.2.2.2.2.1⟩, ⟨(.slc (.st 38)), x.2.2.2.2.2⟩])) y)
def qaC_lp9 : Lift.Loop U := ⟨qaC_sh9, qaC_o9, fun ls => .get (qaC_rec9 qaC_l9 ls) qaC_tr9⟩
theorem qaC_ok9 : LoopR kk env0 Tryz.f13.ntmps qaC_b9 qaC_lp9 :=
  loop_of qaC_enc9 qaC_dec9 (fun n => qaC_rec9 (qaC_i9 n)) (kitOk_of eqOk mixed known140) (L := jnL) (loopsOk_of (bs := []) (by kernel_rfl) trivial) (by intro r; rcases r with r | r <;> rfl) (by intro i qs r h; unfold qaC_enc9 at h; split at h <;> cases h <;> rfl)
    (by intro ls r h; unfold qaC_rec9 at h; split at h <;> cases h)
    (by intro n ls r h; unfold qaC_rec9 at h; split at h; exact (show _ = qaC_t9 (qaC_i9 n) _ _ _ _ _ _ _ from by kernel_rfl).trans h; cases h) (by rw [qaC_l9, sealF_eq])
def qaC_sh14 : StSh := ⟨⟨[2, 3, 7], [2, 3], []⟩, [.ptr 2 0, .ptr 3 0, .t (.int .i64)], [.blk 26 [.t (.slc (.st 46)), .t (.slc .str), .t (.slc (.st 38))], .blk 26 [.t (.slc (.st 46)), .t (.slc .str), .t (.slc (.st 38))]]⟩
def qaC_o14 : List Out := [⟨.ret, ⟨⟨[4], [], []⟩, [.t .bool], []⟩⟩, ⟨.exit 4, ⟨⟨[], [], []⟩, [], []⟩⟩]
def qaC_b14 : Code := (nthLoop (bodyOf Tryz.f13) 2)
def qaC_rec14 (rec : Int → List (TCell) → List (List UInt8) → List (TThread) → List (TCell) → List (List UInt8) → List (TThread) → Option ((Bool) ⊕ (Unit))) : List (TV U) → Option ((Bool) ⊕ (Unit))
  | [⟨(.int .i64), a0⟩, ⟨(.slc (.st 46)), a1⟩, ⟨(.slc .str), a2⟩, ⟨(.slc (.st 38)), a3⟩, ⟨(.slc (.st 46)), a4⟩, ⟨(.slc .str), a5⟩, ⟨(.slc (.st 38)), a6⟩] => rec a0 a1 a2 a3 a4 a5 a6
  | _ => none
def qaC_enc14 : Nat → List (TV U) → Option ((Bool) ⊕ (Unit))
  | 0, [⟨.bool, a0⟩] => some (.inl a0)
  | 1, [] => some (.inr ())
  | _, _ => none
def qaC_dec14 : (Bool) ⊕ (Unit) → Nat × List (TV U) := fun r => match r with | (.inl x) => (0, [⟨.bool, x⟩]) | (.inr x) => (1, [])
def qaC_tr14 : (Bool) ⊕ (Unit) → Tr (Nat × List (TV U)) := fun r => .alt r (fun x => .ret (0, [⟨.bool, x⟩])) (fun y => (fun x => .ret (1, [])) y)
def qaC_lp14 : Lift.Loop U := ⟨qaC_sh14, qaC_o14, fun ls => .get (qaC_rec14 qaC_l14 ls) qaC_tr14⟩
theorem qaC_ok14 : LoopR kk env0 Tryz.f13.ntmps qaC_b14 qaC_lp14 :=
  loop_of qaC_enc14 qaC_dec14 (fun n => qaC_rec14 (qaC_i14 n)) (kitOk_of eqOk mixed known140) (L := jnL) (loopsOk_of (bs := []) (by kernel_rfl) trivial) (by intro r; rcases r with r | r <;> rfl) (by intro i qs r h; unfold qaC_enc14 at h; split at h <;> cases h <;> rfl)
    (by intro ls r h; unfold qaC_rec14 at h; split at h <;> cases h)
    (by intro n ls r h; unfold qaC_rec14 at h; split at h; exact (show _ = qaC_t14 (qaC_i14 n) _ _ _ _ _ _ _ from by kernel_rfl).trans h; cases h) (by rw [qaC_l14, sealF_eq])
def qaC_sh : StSh := ⟨⟨[0, 1], [], []⟩, [.t (.st 26), .t (.st 26)], []⟩
def qaC_os : List StSh := [⟨⟨[0], [], []⟩, [.t .bool], []⟩]
def qaC_tr : Bool → Tr (Nat × List (TV U)) := fun x => .ret (0, [⟨.bool, x⟩])
def qaC_L : Nat → Option (Lift.Loop U) := fun n => bif Nat.beq n joinKey then some joinMark else bif Nat.beq n 4 then some qaC_lp4 else bif Nat.beq n 9 then some qaC_lp9 else bif Nat.beq n 14 then some qaC_lp14 else none
def qaC_enc : Nat → List (TV U) → Option (Bool)
  | 0, [⟨.bool, a0⟩] => some a0
  | _, _ => none
def qaC_dec : Bool → Nat × List (TV U) := fun x => (0, [⟨.bool, x⟩])
def qaC_in : List (TV U) → Option (Bool)
  | [⟨(.st 26), a0⟩, ⟨(.st 26), a1⟩] => qaC a0 a1
  | _ => none
def qaC_md : Mode U := ⟨qaC_sh, [], qaC_os, fun ls => .get (qaC_in ls) qaC_tr⟩
theorem qaC_post : ModeOk kk env0 13 qaC_md :=
  fn_of (fn := Tryz.f13) qaC_enc qaC_dec (kitOk_of eqOk mixed known140) (by kernel_rfl) (L := qaC_L) (loopsOk_of (bs := [qaC_b4, qaC_b9, qaC_b14]) (by kernel_rfl) ⟨.inr ⟨_, by kernel_rfl, LoopOk.of_round (qaC_ok4)⟩, .inr ⟨_, by kernel_rfl, LoopOk.of_round (qaC_ok9)⟩, .inr ⟨_, by kernel_rfl, LoopOk.of_round (qaC_ok14)⟩, trivial⟩) (fun _ => rfl) (by intro i qs r h; unfold qaC_enc at h; split at h <;> cases h <;> rfl)
    (by intro ls r h; unfold qaC_in at h; split at h; rw [qaC, sealF_eq] at h; exact Eq.trans (by kernel_rfl) h; cases h)
def ms141 : List (FuncId × Mode U) := (13, qaC_md) :: ms140
theorem known141 : Known kk env0 (modesOf ms141) := known_cons (by kernel_rfl) qaC_post known140
def qax_sh : StSh := ⟨⟨[0], [], [⟨.slot 0, 0, 43, (.st 1043)⟩]⟩, [.oslc 0], [.row 43 (.st 1043)]⟩
def qax_os : List StSh := [⟨⟨[0], [], [⟨.slot 0, 100000, 43, (.st 1043)⟩]⟩, [.oslc 100000], [.row 43 (.st 1043)]⟩]
def qax_tr : (List (TStmt)) → Tr (Nat × List (TV U)) := fun x => .ret (0, [⟨(.slc (.st 1043)), x⟩])
def qax_in (rec_qax : List (TStmt) → Option ((List (TStmt)))) : List (TV U) → Option ((List (TStmt)))
  | [⟨(.slc (.st 1043)), a0⟩] => rec_qax a0
  | _ => none
def qax_rmd (rec_qax : List (TStmt) → Option ((List (TStmt)))) : Mode U := ⟨qax_sh, [], qax_os, fun ls => .get (qax_in rec_qax ls) qax_tr⟩
def ms152 (rec_qax : List (TStmt) → Option ((List (TStmt)))) : List (FuncId × Mode U) := (48, (qax_rmd rec_qax)) :: ms141
theorem known152 (rec_qax : List (TStmt) → Option ((List (TStmt)))) (hrec_qax : ModeOk kk env0 48 (qax_rmd rec_qax)) : Known kk env0 (modesOf (ms152 rec_qax)) := known_cons (by kernel_rfl) hrec_qax known141
def qaw_sh : StSh := ⟨⟨[0], [], [⟨.sub 0 3, 600003, 41, (.st 1041)⟩]⟩, [.agg [.t (.int .i64), .t (.int .i64), .t .str, .oslc 600003]], [.row 41 (.st 1041)]⟩
def qaw_os : List StSh := [⟨⟨[0], [], [⟨.sub 0 3, 100400, 41, (.st 1041)⟩]⟩, [.agg [.t (.int .i64), .t (.int .i64), .t .str, .oslc 100400]], [.row 41 (.st 1041)]⟩]
def qaw_tr : Int × Int × (List UInt8) × (List (TExpr)) → Tr (Nat × List (TV U)) := fun x => .ret (0, [⟨(.int .i64), x.1⟩, ⟨(.int .i64), x.2.1⟩, ⟨.str, x.2.2.1⟩, ⟨(.slc (.st 1041)), x.2.2.2⟩])
def qaw_in (rec_qaw : Int → Int → List UInt8 → List (TExpr) → Option (Int × Int × (List UInt8) × (List (TExpr)))) : List (TV U) → Option (Int × Int × (List UInt8) × (List (TExpr)))
  | [⟨(.int .i64), a0⟩, ⟨(.int .i64), a1⟩, ⟨.str, a2⟩, ⟨(.slc (.st 1041)), a3⟩] => rec_qaw a0 a1 a2 a3
  | _ => none
def qaw_rmd (rec_qaw : Int → Int → List UInt8 → List (TExpr) → Option (Int × Int × (List UInt8) × (List (TExpr)))) : Mode U := ⟨qaw_sh, [], qaw_os, fun ls => .get (qaw_in rec_qaw ls) qaw_tr⟩
def ms153 (rec_qax : List (TStmt) → Option ((List (TStmt)))) (rec_qaw : Int → Int → List UInt8 → List (TExpr) → Option (Int × Int × (List UInt8) × (List (TExpr)))) : List (FuncId × Mode U) := (73, (qaw_rmd rec_qaw)) :: (ms152 rec_qax)
theorem known153 (rec_qax : List (TStmt) → Option ((List (TStmt)))) (hrec_qax : ModeOk kk env0 48 (qax_rmd rec_qax)) (rec_qaw : Int → Int → List UInt8 → List (TExpr) → Option (Int × Int × (List UInt8) × (List (TExpr)))) (hrec_qaw : ModeOk kk env0 73 (qaw_rmd rec_qaw)) : Known kk env0 (modesOf (ms153 rec_qax rec_qaw)) := known_cons (by kernel_rfl) hrec_qaw (known152 rec_qax hrec_qax)
def qaw_sh2 : StSh := ⟨⟨[1, 2, 3], [1, 2], [⟨.cell 1 3, 20053, 41, (.st 1041)⟩]⟩, [.ptr 1 0, .ptr 2 0, .t (.int .i64)], [.blk 41 [.t (.int .i64), .t (.int .i64), .t .str, .oslc 20053], .blk 41 [.t (.int .i64), .t (.int .i64), .t .str, .nil], .row 41 (.st 1041)]⟩
def qaw_o2 : List Out := [⟨.exit 0, ⟨⟨[1, 2], [1, 2], [⟨.cell 1 3, 20053, 41, (.st 1041)⟩]⟩, [.ptr 1 0, .ptr 2 0], [.blk 41 [.t (.int .i64), .t (.int .i64), .t .str, .oslc 20053], .blk 41 [.t (.int .i64), .t (.int .i64), .t .str, .nil], .row 41 (.st 1041)]⟩⟩]
def qaw_b2 : Code := (nthLoop (bodyOf Tryz.f73) 0)
def qaw_rec2 (rec : Int → Int → Int → List UInt8 → Int → Int → List UInt8 → List (TExpr) → Option (Int × Int × (List UInt8) × Int × Int × (List UInt8) × (List (TExpr)))) : List (TV U) → Option (Int × Int × (List UInt8) × Int × Int × (List UInt8) × (List (TExpr)))
  | [⟨(.int .i64), a0⟩, ⟨(.int .i64), a1⟩, ⟨(.int .i64), a2⟩, ⟨.str, a3⟩, ⟨(.int .i64), a4⟩, ⟨(.int .i64), a5⟩, ⟨.str, a6⟩, ⟨(.slc (.st 1041)), a7⟩] => rec a0 a1 a2 a3 a4 a5 a6 a7
  | _ => none
def qaw_enc2 : Nat → List (TV U) → Option (Int × Int × (List UInt8) × Int × Int × (List UInt8) × (List (TExpr)))
  | 0, [⟨(.int .i64), a0⟩, ⟨(.int .i64), a1⟩, ⟨.str, a2⟩, ⟨(.int .i64), a3⟩, ⟨(.int .i64), a4⟩, ⟨.str, a5⟩, ⟨(.slc (.st 1041)), a6⟩] => some (a0, a1, a2, a3, a4, a5, a6)
  | _, _ => none
def qaw_dec2 : Int × Int × (List UInt8) × Int × Int × (List UInt8) × (List (TExpr)) → Nat × List (TV U) := fun x => (0, [⟨(.int .i64), x.1⟩, ⟨(.int .i64), x.2.1⟩, ⟨.str, x.2.2.1⟩, ⟨(.int .i64), x.2.2.2.1⟩, ⟨(.int .i64), x.2.2.2.2.1⟩, ⟨.str, x.2.2.2.2.2.1⟩, ⟨(.slc (.st 1041)), x.2.2.2.2.2.2⟩])
def qaw_tr2 : Int × Int × (List UInt8) × Int × Int × (List UInt8) × (List (TExpr)) → Tr (Nat × List (TV U)) := fun x => .ret (0, [⟨(.int .i64), x.1⟩, ⟨(.int .i64), x.2.1⟩, ⟨.str, x.2.2.1⟩, ⟨(.int .i64), x.2.2.2.1⟩, ⟨(.int .i64), x.2.2.2.2.1⟩, ⟨.str, x.2.2.2.2.2.1⟩, ⟨(.slc (.st 1041)), x.2.2.2.2.2.2⟩])
def qaw_lp2 (rec_qax : List (TStmt) → Option ((List (TStmt)))) (rec_qaw : Int → Int → List UInt8 → List (TExpr) → Option (Int × Int × (List UInt8) × (List (TExpr)))) : Lift.Loop U := ⟨qaw_sh2, qaw_o2, fun ls => .get (qaw_rec2 (qaw_l2 rec_qax rec_qaw) ls) qaw_tr2⟩
theorem qaw_ok2 (rec_qax : List (TStmt) → Option ((List (TStmt)))) (hrec_qax : ModeOk kk env0 48 (qax_rmd rec_qax)) (rec_qaw : Int → Int → List UInt8 → List (TExpr) → Option (Int × Int × (List UInt8) × (List (TExpr)))) (hrec_qaw : ModeOk kk env0 73 (qaw_rmd rec_qaw)) : LoopR kk env0 Tryz.f73.ntmps qaw_b2 (qaw_lp2 rec_qax rec_qaw) :=
  loop_of qaw_enc2 qaw_dec2 (fun n => qaw_rec2 (qaw_i2 rec_qax rec_qaw n)) (kitOk_of eqOk mixed (known153 rec_qax hrec_qax rec_qaw hrec_qaw)) (L := jnL) (loopsOk_of (bs := []) (by kernel_rfl) trivial) (fun _ => rfl) (by intro i qs r h; unfold qaw_enc2 at h; split at h <;> cases h <;> rfl)
    (by intro ls r h; unfold qaw_rec2 at h; split at h <;> cases h)
    (by intro n ls r h; unfold qaw_rec2 at h; split at h; exact (show _ = qaw_t2 rec_qax rec_qaw (qaw_i2 rec_qax rec_qaw n) _ _ _ _ _ _ _ _ from by kernel_rfl).trans h; cases h) (by rw [qaw_l2, sealF_eq])
def qaw_L (rec_qax : List (TStmt) → Option ((List (TStmt)))) (rec_qaw : Int → Int → List UInt8 → List (TExpr) → Option (Int × Int × (List UInt8) × (List (TExpr)))) : Nat → Option (Lift.Loop U) := fun n => bif Nat.beq n joinKey then some joinMark else bif Nat.beq n 2 then some (qaw_lp2 rec_qax rec_qaw) else none
def qaw_enc : Nat → List (TV U) → Option (Int × Int × (List UInt8) × (List (TExpr)))
  | 0, [⟨(.int .i64), a0⟩, ⟨(.int .i64), a1⟩, ⟨.str, a2⟩, ⟨(.slc (.st 1041)), a3⟩] => some (a0, a1, a2, a3)
  | _, _ => none
def qaw_dec : Int × Int × (List UInt8) × (List (TExpr)) → Nat × List (TV U) := fun x => (0, [⟨(.int .i64), x.1⟩, ⟨(.int .i64), x.2.1⟩, ⟨.str, x.2.2.1⟩, ⟨(.slc (.st 1041)), x.2.2.2⟩])
def qaw_md (rec_qax : List (TStmt) → Option ((List (TStmt)))) : Mode U := qaw_rmd (qaw rec_qax)
theorem qaw_step (rec_qax : List (TStmt) → Option ((List (TStmt)))) (hrec_qax : ModeOk kk env0 48 (qax_rmd rec_qax)) (rec_qaw : Int → Int → List UInt8 → List (TExpr) → Option (Int × Int × (List UInt8) × (List (TExpr)))) (hrec_qaw : ModeOk kk env0 73 (qaw_rmd rec_qaw)) : LoopsOk (Kit.withModes kk (modesOf (ms153 rec_qax rec_qaw))) env0 Tryz.f73.ntmps (qaw_L rec_qax rec_qaw) (bodyOf Tryz.f73) := loopsOk_of (bs := [qaw_b2]) (by kernel_rfl) ⟨.inr ⟨_, by kernel_rfl, LoopOk.of_round (qaw_ok2 rec_qax hrec_qax rec_qaw hrec_qaw)⟩, trivial⟩
theorem qaw_post (rec_qax : List (TStmt) → Option ((List (TStmt)))) (hrec_qax : ModeOk kk env0 48 (qax_rmd rec_qax)) : ModeOk kk env0 73 (qaw_rmd (qaw rec_qax)) :=
  rec_of (K := kk) (F := (qaw rec_qax)) qaw_rmd (qaw_i rec_qax) (by rw [qaw, sealF_eq]) (rec_zero (by intro ls r h; unfold qaw_in at h; split at h <;> cases h)) (fun n ih => fn_of (fn := Tryz.f73) qaw_enc qaw_dec (kitOk_of eqOk mixed (known153 rec_qax hrec_qax (qaw_i rec_qax n) ih)) (by kernel_rfl) (qaw_step rec_qax hrec_qax (qaw_i rec_qax n) ih) (fun _ => rfl) (by intro i qs r h; unfold qaw_enc at h; split at h <;> cases h <;> rfl)
    (by intro ls r h; unfold qaw_in at h; split at h; exact (show _ = qaw_f rec_qax (qaw_i rec_qax n) _ _ _ _ from by kernel_rfl).trans h; cases h))
def ms154 (rec_qax : List (TStmt) → Option ((List (TStmt)))) : List (FuncId × Mode U) := (73, (qaw_md rec_qax)) :: (ms152 rec_qax)
theorem known154 (rec_qax : List (TStmt) → Option ((List (TStmt)))) (hrec_qax : ModeOk kk env0 48 (qax_rmd rec_qax)) : Known kk env0 (modesOf (ms154 rec_qax)) := known_cons (by kernel_rfl) (qaw_post rec_qax hrec_qax) (known152 rec_qax hrec_qax)
def qax_sh2 : StSh := ⟨⟨[0, 3], [], [⟨.slot 0, 0, 43, (.st 1043)⟩]⟩, [.oslc 0, .t (.int .i64)], [.row 43 (.st 1043)]⟩
def qax_o2 : List Out := [⟨.exit 0, ⟨⟨[0], [], [⟨.slot 0, 0, 43, (.st 1043)⟩]⟩, [.oslc 0], [.row 43 (.st 1043)]⟩⟩]
def qax_b2 : Code := (nthLoop (bodyOf Tryz.f48) 0)
def qax_rec2 (rec : Int → List (TStmt) → Option ((List (TStmt)))) : List (TV U) → Option ((List (TStmt)))
  | [⟨(.int .i64), a0⟩, ⟨(.slc (.st 1043)), a1⟩] => rec a0 a1
  | _ => none
def qax_enc2 : Nat → List (TV U) → Option ((List (TStmt)))
  | 0, [⟨(.slc (.st 1043)), a0⟩] => some a0
  | _, _ => none
def qax_dec2 : (List (TStmt)) → Nat × List (TV U) := fun x => (0, [⟨(.slc (.st 1043)), x⟩])
def qax_tr2 : (List (TStmt)) → Tr (Nat × List (TV U)) := fun x => .ret (0, [⟨(.slc (.st 1043)), x⟩])
def qax_lp2 (rec_qax : List (TStmt) → Option ((List (TStmt)))) : Lift.Loop U := ⟨qax_sh2, qax_o2, fun ls => .get (qax_rec2 (qax_l2 rec_qax) ls) qax_tr2⟩
theorem qax_ok2 (rec_qax : List (TStmt) → Option ((List (TStmt)))) (hrec_qax : ModeOk kk env0 48 (qax_rmd rec_qax)) : LoopR kk env0 Tryz.f48.ntmps qax_b2 (qax_lp2 rec_qax) :=
  loop_of qax_enc2 qax_dec2 (fun n => qax_rec2 (qax_i2 rec_qax n)) (kitOk_of eqOk mixed (known154 rec_qax hrec_qax)) (L := jnL) (loopsOk_of (bs := []) (by kernel_rfl) trivial) (fun _ => rfl) (by intro i qs r h; unfold qax_enc2 at h; split at h <;> cases h <;> rfl)
    (by intro ls r h; unfold qax_rec2 at h; split at h <;> cases h)
    (by intro n ls r h; unfold qax_rec2 at h; split at h; exact (show _ = qax_t2 rec_qax (qax_i2 rec_qax n) _ _ from by kernel_rfl).trans h; cases h) (by rw [qax_l2, sealF_eq])
def qax_L (rec_qax : List (TStmt) → Option ((List (TStmt)))) : Nat → Option (Lift.Loop U) := fun n => bif Nat.beq n joinKey then some joinMark else bif Nat.beq n 2 then some (qax_lp2 rec_qax) else none
def qax_enc : Nat → List (TV U) → Option ((List (TStmt)))
  | 0, [⟨(.slc (.st 1043)), a0⟩] => some a0
  | _, _ => none
def qax_dec : (List (TStmt)) → Nat × List (TV U) := fun x => (0, [⟨(.slc (.st 1043)), x⟩])
def qax_md : Mode U := qax_rmd qax
theorem qax_step (rec_qax : List (TStmt) → Option ((List (TStmt)))) (hrec_qax : ModeOk kk env0 48 (qax_rmd rec_qax)) : LoopsOk (Kit.withModes kk (modesOf (ms154 rec_qax))) env0 Tryz.f48.ntmps (qax_L rec_qax) (bodyOf Tryz.f48) := loopsOk_of (bs := [qax_b2]) (by kernel_rfl) ⟨.inr ⟨_, by kernel_rfl, LoopOk.of_round (qax_ok2 rec_qax hrec_qax)⟩, trivial⟩
theorem qax_post : ModeOk kk env0 48 (qax_rmd qax) :=
  rec_of (K := kk) (F := qax) qax_rmd qax_i (by rw [qax, sealF_eq]) (rec_zero (by intro ls r h; unfold qax_in at h; split at h <;> cases h)) (fun n ih => fn_of (fn := Tryz.f48) qax_enc qax_dec (kitOk_of eqOk mixed (known154 (qax_i n) ih)) (by kernel_rfl) (qax_step (qax_i n) ih) (fun _ => rfl) (by intro i qs r h; unfold qax_enc at h; split at h <;> cases h <;> rfl)
    (by intro ls r h; unfold qax_in at h; split at h; exact (show _ = qax_f (qax_i n) _ from by kernel_rfl).trans h; cases h))
def ms155 : List (FuncId × Mode U) := (48, qax_md) :: ms141
theorem known155 : Known kk env0 (modesOf ms155) := known_cons (by kernel_rfl) qax_post known141
def qav_sh2 : StSh := ⟨⟨[1, 2, 3], [1, 2], [⟨.cell 1 0, 20050, 46, (.st 46)⟩, ⟨.cell 1 1, 20051, 9, .str⟩, ⟨.cell 1 2, 20052, 38, (.st 1038)⟩]⟩, [.ptr 1 0, .ptr 2 0, .t (.int .i64)], [.blk 26 [.oslc 20050, .oslc 20051, .oslc 20052], .blk 26 [.nil, .nil, .nil], .row 46 (.st 46), .row 9 .str, .row 38 (.st 1038)]⟩
def qav_o2 : List Out := [⟨.exit 0, ⟨⟨[1, 2], [1, 2], [⟨.cell 1 0, 20050, 46, (.st 46)⟩, ⟨.cell 1 1, 20051, 9, .str⟩, ⟨.cell 1 2, 20052, 38, (.st 1038)⟩]⟩, [.ptr 1 0, .ptr 2 0], [.blk 26 [.oslc 20050, .oslc 20051, .oslc 20052], .blk 26 [.nil, .nil, .nil], .row 46 (.st 46), .row 9 .str, .row 38 (.st 1038)]⟩⟩]
def qav_b2 : Code := (nthLoop (bodyOf Tryz.f20) 0)
def qav_rec2 (rec : Int → List (TCell) → List (List UInt8) → List (TThread) → Option ((List (TCell)) × (List (List UInt8)) × (List (TThread)))) : List (TV U) → Option ((List (TCell)) × (List (List UInt8)) × (List (TThread)))
  | [⟨(.int .i64), a0⟩, ⟨(.slc (.st 46)), a1⟩, ⟨(.slc .str), a2⟩, ⟨(.slc (.st 1038)), a3⟩] => rec a0 a1 a2 a3
  | _ => none
def qav_enc2 : Nat → List (TV U) → Option ((List (TCell)) × (List (List UInt8)) × (List (TThread)))
  | 0, [⟨(.slc (.st 46)), a0⟩, ⟨(.slc .str), a1⟩, ⟨(.slc (.st 1038)), a2⟩] => some (a0, a1, a2)
  | _, _ => none
def qav_dec2 : (List (TCell)) × (List (List UInt8)) × (List (TThread)) → Nat × List (TV U) := fun x => (0, [⟨(.slc (.st 46)), x.1⟩, ⟨(.slc .str), x.2.1⟩, ⟨(.slc (.st 1038)), x.2.2⟩])
def qav_tr2 : (List (TCell)) × (List (List UInt8)) × (List (TThread)) → Tr (Nat × List (TV U)) := fun x => .ret (0, [⟨(.slc (.st 46)), x.1⟩, ⟨(.slc .str), x.2.1⟩, ⟨(.slc (.st 1038)), x.2.2⟩])
def qav_lp2 : Lift.Loop U := ⟨qav_sh2, qav_o2, fun ls => .get (qav_rec2 qav_l2 ls) qav_tr2⟩
theorem qav_ok2 : LoopR kk env0 Tryz.f20.ntmps qav_b2 qav_lp2 :=
  loop_of qav_enc2 qav_dec2 (fun n => qav_rec2 (qav_i2 n)) (kitOk_of eqOk mixed known155) (L := jnL) (loopsOk_of (bs := []) (by kernel_rfl) trivial) (fun _ => rfl) (by intro i qs r h; unfold qav_enc2 at h; split at h <;> cases h <;> rfl)
    (by intro ls r h; unfold qav_rec2 at h; split at h <;> cases h)
    (by intro n ls r h; unfold qav_rec2 at h; split at h; exact (show _ = qav_t2 (qav_i2 n) _ _ _ _ from by kernel_rfl).trans h; cases h) (by rw [qav_l2, sealF_eq])
def qav_sh6 : StSh := ⟨⟨[1, 2, 4], [1, 2], [⟨.cell 1 0, 20050, 46, (.st 46)⟩, ⟨.cell 1 1, 20051, 9, .str⟩, ⟨.cell 1 2, 20052, 38, (.st 1038)⟩]⟩, [.ptr 1 0, .ptr 2 0, .t (.int .i64)], [.blk 26 [.oslc 20050, .oslc 20051, .oslc 20052], .blk 26 [.nil, .nil, .nil], .row 46 (.st 46), .row 9 .str, .row 38 (.st 1038)]⟩
def qav_o6 : List Out := [⟨.exit 2, ⟨⟨[1, 2], [1, 2], [⟨.cell 1 0, 20050, 46, (.st 46)⟩, ⟨.cell 1 1, 20051, 9, .str⟩, ⟨.cell 1 2, 20052, 38, (.st 1038)⟩]⟩, [.ptr 1 0, .ptr 2 0], [.blk 26 [.oslc 20050, .oslc 20051, .oslc 20052], .blk 26 [.nil, .nil, .nil], .row 46 (.st 46), .row 9 .str, .row 38 (.st 1038)]⟩⟩]
def qav_b6 : Code := (nthLoop (bodyOf Tryz.f20) 1)
def qav_rec6 (rec : Int → List (TCell) → List (List UInt8) → List (TThread) → Option ((List (TCell)) × (List (List UInt8)) × (List (TThread)))) : List (TV U) → Option ((List (TCell)) × (List (List UInt8)) × (List (TThread)))
  | [⟨(.int .i64), a0⟩, ⟨(.slc (.st 46)), a1⟩, ⟨(.slc .str), a2⟩, ⟨(.slc (.st 1038)), a3⟩] => rec a0 a1 a2 a3
  | _ => none
def qav_enc6 : Nat → List (TV U) → Option ((List (TCell)) × (List (List UInt8)) × (List (TThread)))
  | 0, [⟨(.slc (.st 46)), a0⟩, ⟨(.slc .str), a1⟩, ⟨(.slc (.st 1038)), a2⟩] => some (a0, a1, a2)
  | _, _ => none
def qav_dec6 : (List (TCell)) × (List (List UInt8)) × (List (TThread)) → Nat × List (TV U) := fun x => (0, [⟨(.slc (.st 46)), x.1⟩, ⟨(.slc .str), x.2.1⟩, ⟨(.slc (.st 1038)), x.2.2⟩])
def qav_tr6 : (List (TCell)) × (List (List UInt8)) × (List (TThread)) → Tr (Nat × List (TV U)) := fun x => .ret (0, [⟨(.slc (.st 46)), x.1⟩, ⟨(.slc .str), x.2.1⟩, ⟨(.slc (.st 1038)), x.2.2⟩])
def qav_lp6 : Lift.Loop U := ⟨qav_sh6, qav_o6, fun ls => .get (qav_rec6 qav_l6 ls) qav_tr6⟩
theorem qav_ok6 : LoopR kk env0 Tryz.f20.ntmps qav_b6 qav_lp6 :=
  loop_of qav_enc6 qav_dec6 (fun n => qav_rec6 (qav_i6 n)) (kitOk_of eqOk mixed known155) (L := jnL) (loopsOk_of (bs := []) (by kernel_rfl) trivial) (fun _ => rfl) (by intro i qs r h; unfold qav_enc6 at h; split at h <;> cases h <;> rfl)
    (by intro ls r h; unfold qav_rec6 at h; split at h <;> cases h)
    (by intro n ls r h; unfold qav_rec6 at h; split at h; exact (show _ = qav_t6 (qav_i6 n) _ _ _ _ from by kernel_rfl).trans h; cases h) (by rw [qav_l6, sealF_eq])
def qav_sh12 : StSh := ⟨⟨[1, 2, 5], [1, 2], [⟨.cell 1 0, 20050, 46, (.st 46)⟩, ⟨.cell 1 1, 20051, 9, .str⟩, ⟨.cell 1 2, 20052, 38, (.st 1038)⟩]⟩, [.ptr 1 0, .ptr 2 0, .t (.int .i64)], [.blk 26 [.oslc 20050, .oslc 20051, .oslc 20052], .blk 26 [.nil, .nil, .nil], .row 46 (.st 46), .row 9 .str, .row 38 (.st 1038)]⟩
def qav_o12 : List Out := [⟨.exit 4, ⟨⟨[1, 2], [1, 2], [⟨.cell 1 0, 20050, 46, (.st 46)⟩, ⟨.cell 1 1, 20051, 9, .str⟩, ⟨.cell 1 2, 20052, 38, (.st 1038)⟩]⟩, [.ptr 1 0, .ptr 2 0], [.blk 26 [.oslc 20050, .oslc 20051, .oslc 20052], .blk 26 [.nil, .nil, .nil], .row 46 (.st 46), .row 9 .str, .row 38 (.st 1038)]⟩⟩]
def qav_b12 : Code := (nthLoop (bodyOf Tryz.f20) 2)
def qav_rec12 (rec : Int → List (TCell) → List (List UInt8) → List (TThread) → Option ((List (TCell)) × (List (List UInt8)) × (List (TThread)))) : List (TV U) → Option ((List (TCell)) × (List (List UInt8)) × (List (TThread)))
  | [⟨(.int .i64), a0⟩, ⟨(.slc (.st 46)), a1⟩, ⟨(.slc .str), a2⟩, ⟨(.slc (.st 1038)), a3⟩] => rec a0 a1 a2 a3
  | _ => none
def qav_enc12 : Nat → List (TV U) → Option ((List (TCell)) × (List (List UInt8)) × (List (TThread)))
  | 0, [⟨(.slc (.st 46)), a0⟩, ⟨(.slc .str), a1⟩, ⟨(.slc (.st 1038)), a2⟩] => some (a0, a1, a2)
  | _, _ => none
def qav_dec12 : (List (TCell)) × (List (List UInt8)) × (List (TThread)) → Nat × List (TV U) := fun x => (0, [⟨(.slc (.st 46)), x.1⟩, ⟨(.slc .str), x.2.1⟩, ⟨(.slc (.st 1038)), x.2.2⟩])
def qav_tr12 : (List (TCell)) × (List (List UInt8)) × (List (TThread)) → Tr (Nat × List (TV U)) := fun x => .ret (0, [⟨(.slc (.st 46)), x.1⟩, ⟨(.slc .str), x.2.1⟩, ⟨(.slc (.st 1038)), x.2.2⟩])
def qav_lp12 : Lift.Loop U := ⟨qav_sh12, qav_o12, fun ls => .get (qav_rec12 qav_l12 ls) qav_tr12⟩
theorem qav_ok12 : LoopR kk env0 Tryz.f20.ntmps qav_b12 qav_lp12 :=
  loop_of qav_enc12 qav_dec12 (fun n => qav_rec12 (qav_i12 n)) (kitOk_of eqOk mixed known155) (L := jnL) (loopsOk_of (bs := []) (by kernel_rfl) trivial) (fun _ => rfl) (by intro i qs r h; unfold qav_enc12 at h; split at h <;> cases h <;> rfl)
    (by intro ls r h; unfold qav_rec12 at h; split at h <;> cases h)
    (by intro n ls r h; unfold qav_rec12 at h; split at h; exact (show _ = qav_t12 (qav_i12 n) _ _ _ _ from by kernel_rfl).trans h; cases h) (by rw [qav_l12, sealF_eq])
def qav_sh : StSh := ⟨⟨[0], [], [⟨.sub 0 0, 600000, 46, (.st 46)⟩, ⟨.sub 0 1, 600001, 9, .str⟩, ⟨.sub 0 2, 600002, 38, (.st 1038)⟩]⟩, [.agg [.oslc 600000, .oslc 600001, .oslc 600002]], [.row 46 (.st 46), .row 9 .str, .row 38 (.st 1038)]⟩
def qav_os : List StSh := [⟨⟨[0], [], [⟨.sub 0 0, 100100, 46, (.st 46)⟩, ⟨.sub 0 1, 100200, 9, .str⟩, ⟨.sub 0 2, 100300, 38, (.st 1038)⟩]⟩, [.agg [.oslc 100100, .oslc 100200, .oslc 100300]], [.row 46 (.st 46), .row 9 .str, .row 38 (.st 1038)]⟩]
def qav_tr : (List (TCell)) × (List (List UInt8)) × (List (TThread)) → Tr (Nat × List (TV U)) := fun x => .ret (0, [⟨(.slc (.st 46)), x.1⟩, ⟨(.slc .str), x.2.1⟩, ⟨(.slc (.st 1038)), x.2.2⟩])
def qav_L : Nat → Option (Lift.Loop U) := fun n => bif Nat.beq n joinKey then some joinMark else bif Nat.beq n 2 then some qav_lp2 else bif Nat.beq n 6 then some qav_lp6 else bif Nat.beq n 12 then some qav_lp12 else none
def qav_enc : Nat → List (TV U) → Option ((List (TCell)) × (List (List UInt8)) × (List (TThread)))
  | 0, [⟨(.slc (.st 46)), a0⟩, ⟨(.slc .str), a1⟩, ⟨(.slc (.st 1038)), a2⟩] => some (a0, a1, a2)
  | _, _ => none
def qav_dec : (List (TCell)) × (List (List UInt8)) × (List (TThread)) → Nat × List (TV U) := fun x => (0, [⟨(.slc (.st 46)), x.1⟩, ⟨(.slc .str), x.2.1⟩, ⟨(.slc (.st 1038)), x.2.2⟩])
def qav_in : List (TV U) → Option ((List (TCell)) × (List (List UInt8)) × (List (TThread)))
  | [⟨(.slc (.st 46)), a0⟩, ⟨(.slc .str), a1⟩, ⟨(.slc (.st 1038)), a2⟩] => qav a0 a1 a2
  | _ => none
def qav_md : Mode U := ⟨qav_sh, [], qav_os, fun ls => .get (qav_in ls) qav_tr⟩
theorem qav_post : ModeOk kk env0 20 qav_md :=
  fn_of (fn := Tryz.f20) qav_enc qav_dec (kitOk_of eqOk mixed known155) (by kernel_rfl) (L := qav_L) (loopsOk_of (bs := [qav_b2, qav_b6, qav_b12]) (by kernel_rfl) ⟨.inr ⟨_, by kernel_rfl, LoopOk.of_round (qav_ok2)⟩, .inr ⟨_, by kernel_rfl, LoopOk.of_round (qav_ok6)⟩, .inr ⟨_, by kernel_rfl, LoopOk.of_round (qav_ok12)⟩, trivial⟩) (fun _ => rfl) (by intro i qs r h; unfold qav_enc at h; split at h <;> cases h <;> rfl)
    (by intro ls r h; unfold qav_in at h; split at h; rw [qav, sealF_eq] at h; exact Eq.trans (by kernel_rfl) h; cases h)
def ms156 : List (FuncId × Mode U) := (20, qav_md) :: ms155
theorem known156 : Known kk env0 (modesOf ms156) := known_cons (by kernel_rfl) qav_post known155
def qau_sh : StSh := ⟨⟨[0], [], []⟩, [.t (.st 26)], []⟩
def qau_os : List StSh := [⟨⟨[0], [], []⟩, [.t .bool], []⟩]
def qau_tr : Bool → Tr (Nat × List (TV U)) := fun x => .ret (0, [⟨.bool, x⟩])
def qau_enc : Nat → List (TV U) → Option (Bool)
  | 0, [⟨.bool, a0⟩] => some a0
  | _, _ => none
def qau_dec : Bool → Nat × List (TV U) := fun x => (0, [⟨.bool, x⟩])
def qau_in : List (TV U) → Option (Bool)
  | [⟨(.st 26), a0⟩] => qau a0
  | _ => none
def qau_md : Mode U := ⟨qau_sh, [], qau_os, fun ls => .get (qau_in ls) qau_tr⟩
theorem qau_post : ModeOk kk env0 6 qau_md :=
  fn_of (fn := Tryz.f6) qau_enc qau_dec (kitOk_of eqOk mixed known156) (by kernel_rfl) (L := jnL) (loopsOk_of (bs := []) (by kernel_rfl) trivial) (fun _ => rfl) (by intro i qs r h; unfold qau_enc at h; split at h <;> cases h <;> rfl)
    (by intro ls r h; unfold qau_in at h; split at h; rw [qau, sealF_eq] at h; exact Eq.trans (by kernel_rfl) h; cases h)
end
end Lift.F3
