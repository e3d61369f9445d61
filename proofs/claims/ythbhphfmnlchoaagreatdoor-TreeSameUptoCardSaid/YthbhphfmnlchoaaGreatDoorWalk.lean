/-
  DERIVED. Each function of this seat computes its Lean function. Conditions: as each theorem says.
-/
import Derived.Test.YthbhphfmnlchoaaGreatDoorDefs
set_option linter.unusedVariables false
set_option linter.unusedSimpArgs false
set_option linter.unusedSectionVars false
namespace Lift.F3
noncomputable section
open Go Go.RowKit Go.Proofs Lift Lift.Fn
def qbs_sh : StSh := ⟨⟨[0], [], []⟩, [.t (.int .i32)], []⟩
def qbs_os : List StSh := [⟨⟨[0], [], []⟩, [.t (.int .i64)], []⟩]
def qbs_tr : Int → Tr (Nat × List (TV U)) := fun x => .ret (0, [⟨(.int .i64), x⟩])
def qbs_enc : Nat → List (TV U) → Option (Int)
  | 0, [⟨(.int .i64), a0⟩] => some a0
  | _, _ => none
def qbs_dec : Int → Nat × List (TV U) := fun x => (0, [⟨(.int .i64), x⟩])
def qbs_in : List (TV U) → Option (Int)
  | [⟨(.int .i32), a0⟩] => qbs a0
  | _ => none
def qbs_md : Mode U := ⟨qbs_sh, [], qbs_os, fun ls => .get (qbs_in ls) qbs_tr⟩
theorem qbs_post : ModeOk kk env0 117 qbs_md :=
  fn_of (fn := Tryz.f117) qbs_enc qbs_dec (kitOk_of eqOk mixed known5) (by kernel_rfl) (L := noL) (loopsOk_of (bs := []) (by kernel_rfl) trivial) (fun _ => rfl) (by intro i qs r h; unfold qbs_enc at h; split at h <;> cases h <;> rfl)
    (by intro ls r h; unfold qbs_in at h; split at h; rw [qbs, sealF_eq] at h; exact Eq.trans (by kernel_rfl) h; cases h)
def ms6 : List (FuncId × Mode U) := (117, qbs_md) :: ms5
theorem known6 : Known kk env0 (modesOf ms6) := known_cons (by kernel_rfl) qbs_post known5
def qaG_sh4 : StSh := ⟨⟨[0, 3, 4, 5, 10], [3, 5, 10], [⟨.slot 4, 4, 108, (.st 108)⟩]⟩, [.t .str, .ptr 3 0, .oslc 4, .ptr 5 0, .ptr 10 0], [.blk 108 [.t (.int .i64), .t (.int .i64), .t (.int .i64), .t (.int .i64)], .blk 108 [.t (.int .i64), .t (.int .i64), .t (.int .i64), .t (.int .i64)], .sit, .row 108 (.st 108)]⟩
def qaG_o4 : List Out := [⟨.ret, ⟨⟨[2, 3], [3], [⟨.slot 2, 2, 108, (.st 108)⟩]⟩, [.oslc 2, .ptr 3 0], [.blk 108 [.t (.int .i64), .t (.int .i64), .t (.int .i64), .t (.int .i64)], .row 108 (.st 108)]⟩⟩, ⟨.exit 0, ⟨⟨[3, 4, 5], [3, 5], [⟨.slot 4, 4, 108, (.st 108)⟩]⟩, [.ptr 3 0, .oslc 4, .ptr 5 0], [.blk 108 [.t (.int .i64), .t (.int .i64), .t (.int .i64), .t (.int .i64)], .blk 108 [.t (.int .i64), .t (.int .i64), .t (.int .i64), .t (.int .i64)], .row 108 (.st 108)]⟩⟩]
def qaG_b4 : Code := (nthLoop (bodyOf Tryz.f102) 0)
def qaG_rec4 (rec : List UInt8 → Int → Int → Int → Int → Int → Int → Int → Int → List UInt8 → Nat → List (Spot) → Option ((Int × Int × Int × Int × (List (Spot))) ⊕ (Int × Int × Int × Int × Int × Int × Int × Int × (List (Spot))))) : List (TV U) → Option ((Int × Int × Int × Int × (List (Spot))) ⊕ (Int × Int × Int × Int × Int × Int × Int × Int × (List (Spot))))
  | [⟨.str, a0⟩, ⟨(.int .i64), a1⟩, ⟨(.int .i64), a2⟩, ⟨(.int .i64), a3⟩, ⟨(.int .i64), a4⟩, ⟨(.int .i64), a5⟩, ⟨(.int .i64), a6⟩, ⟨(.int .i64), a7⟩, ⟨(.int .i64), a8⟩, ⟨.str, a9⟩, ⟨.fn, a10⟩, ⟨(.slc (.st 108)), a11⟩] => rec a0 a1 a2 a3 a4 a5 a6 a7 a8 a9 a10 a11
  | _ => none
def qaG_enc4 : Nat → List (TV U) → Option ((Int × Int × Int × Int × (List (Spot))) ⊕ (Int × Int × Int × Int × Int × Int × Int × Int × (List (Spot))))
  | 0, [⟨(.int .i64), a0⟩, ⟨(.int .i64), a1⟩, ⟨(.int .i64), a2⟩, ⟨(.int .i64), a3⟩, ⟨(.slc (.st 108)), a4⟩] => some (.inl (a0, a1, a2, a3, a4))
  | 1, [⟨(.int .i64), a0⟩, ⟨(.int .i64), a1⟩, ⟨(.int .i64), a2⟩, ⟨(.int .i64), a3⟩, ⟨(.int .i64), a4⟩, ⟨(.int .i64), a5⟩, ⟨(.int .i64), a6⟩, ⟨(.int .i64), a7⟩, ⟨(.slc (.st 108)), a8⟩] => some (.inr (a0, a1, a2, a3, a4, a5, a6, a7, a8))
  | _, _ => none
def qaG_dec4 : (Int × Int × Int × Int × (List (Spot))) ⊕ (Int × Int × Int × Int × Int × Int × Int × Int × (List (Spot))) → Nat × List (TV U) := fun r => match r with | (.inl x) => (0, [⟨(.int .i64), x.1⟩, ⟨(.int .i64), x.2.1⟩, ⟨(.int .i64), x.2.2.1⟩, ⟨(.int .i64), x.2.2.2.1⟩, ⟨(.slc (.st 108)), x.2.2.2.2⟩]) | (.inr x) => (1, [⟨(.int .i64), x.1⟩, ⟨(.int .i64), x.2.1⟩, ⟨(.int .i64), x.2.2.1⟩, ⟨(.int .i64), x.2.2.2.1⟩, ⟨(.int .i64), x.2.2.2.2.1⟩, ⟨(.int .i64), x.2.2.2.2.2.1⟩, ⟨(.int .i64), x.2.2.2.2.2.2.1⟩, ⟨(.int .i64), x.2.2.2.2.2.2.2.1⟩, ⟨(.slc (.st 108)), x.2.2.2.2.2.2.2.2⟩])
def qaG_tr4 : (Int × Int × Int × Int × (List (Spot))) ⊕ (Int × Int × Int × Int × Int × Int × Int × Int × (List (Spot))) → Tr (Nat × List (TV U)) := fun r => .alt r (fun x => .ret (0, [⟨(.int .i64), x.1⟩, ⟨(.int .i64), x.2.1⟩, ⟨(.int .i64), x.2.2.1⟩, ⟨(.int .i64), x.2.2.2.1⟩, ⟨(.slc (.st 108)), x.2.2.2.2⟩])) (fun y => (fun x => .ret (1, [⟨(.int .i64), x.1⟩, ⟨(.int .i64), x.2.1⟩, ⟨(.int .i64), x.2.2.1⟩, ⟨(.int .i64), x.2.2.2.1⟩, ⟨(.int .i64), x.2.2.2.2.1⟩, ⟨(.int .i64), x.2.2.2.2.2.1⟩, ⟨(.int .i64), x.2.2.2.2.2.2.1⟩, ⟨(.int .i64), x.2.2.2.2.2.2.2.1⟩, ⟨(.slc (.st 108)), x.2.2.2.2.2.2.2.2⟩])) y)
def qaG_lp4 : Lift.Loop U := ⟨qaG_sh4, qaG_o4, fun ls => .get (qaG_rec4 qaG_l4 ls) qaG_tr4⟩
theorem qaG_ok4 : LoopR kk env0 Tryz.f102.ntmps qaG_b4 qaG_lp4 :=
  loop_of qaG_enc4 qaG_dec4 (fun n => qaG_rec4 (qaG_i4 n)) (kitOk_of eqOk mixed known6) (L := noL) (loopsOk_of (bs := []) (by kernel_rfl) trivial) (by intro r; rcases r with r | r <;> rfl) (by intro i qs r h; unfold qaG_enc4 at h; split at h <;> cases h <;> rfl)
    (by intro ls r h; unfold qaG_rec4 at h; split at h <;> cases h)
    (by intro n ls r h; unfold qaG_rec4 at h; split at h; exact (show _ = qaG_t4 (qaG_i4 n) _ _ _ _ _ _ _ _ _ _ _ _ from by kernel_rfl).trans h; cases h) (by rw [qaG_l4, sealF_eq])
def qaG_sh : StSh := ⟨⟨[0], [], []⟩, [.t .str], []⟩
def qaG_os : List StSh := [⟨⟨[0, 1], [], [⟨.slot 0, 100000, 108, (.st 108)⟩]⟩, [.oslc 100000, .t (.st 108)], [.row 108 (.st 108)]⟩]
def qaG_tr : Spot × (List (Spot)) → Tr (Nat × List (TV U)) := fun x => .ret (0, [⟨(.st 108), x.1⟩, ⟨(.slc (.st 108)), x.2⟩])
def qaG_L : Nat → Option (Lift.Loop U) := fun n => bif Nat.beq n 4 then some qaG_lp4 else none
def qaG_enc : Nat → List (TV U) → Option (Spot × (List (Spot)))
  | 0, [⟨(.st 108), a0⟩, ⟨(.slc (.st 108)), a1⟩] => some (a0, a1)
  | _, _ => none
def qaG_dec : Spot × (List (Spot)) → Nat × List (TV U) := fun x => (0, [⟨(.st 108), x.1⟩, ⟨(.slc (.st 108)), x.2⟩])
def qaG_in : List (TV U) → Option (Spot × (List (Spot)))
  | [⟨.str, a0⟩] => qaG a0
  | _ => none
def qaG_md : Mode U := ⟨qaG_sh, [], qaG_os, fun ls => .get (qaG_in ls) qaG_tr⟩
theorem qaG_post : ModeOk kk env0 102 qaG_md :=
  fn_of (fn := Tryz.f102) qaG_enc qaG_dec (kitOk_of eqOk mixed known6) (by kernel_rfl) (L := qaG_L) (loopsOk_of (bs := [qaG_b4]) (by kernel_rfl) ⟨.inr ⟨_, by kernel_rfl, LoopOk.of_round (qaG_ok4)⟩, trivial⟩) (fun _ => rfl) (by intro i qs r h; unfold qaG_enc at h; split at h <;> cases h <;> rfl)
    (by intro ls r h; unfold qaG_in at h; split at h; rw [qaG, sealF_eq] at h; exact Eq.trans (by kernel_rfl) h; cases h)
def ms7 : List (FuncId × Mode U) := (102, qaG_md) :: ms6
theorem known7 : Known kk env0 (modesOf ms7) := known_cons (by kernel_rfl) qaG_post known6
def qaF_sh : StSh := ⟨⟨[0], [], []⟩, [.t .str], []⟩
def qaF_os : List StSh := [⟨⟨[0, 1], [], [⟨.slot 0, 100000, 108, (.st 108)⟩]⟩, [.oslc 100000, .t (.st 90)], [.row 108 (.st 108)]⟩]
def qaF_tr : Fault × (List (Spot)) → Tr (Nat × List (TV U)) := fun x => .ret (0, [⟨(.st 90), x.1⟩, ⟨(.slc (.st 108)), x.2⟩])
def qaF_enc : Nat → List (TV U) → Option (Fault × (List (Spot)))
  | 0, [⟨(.st 90), a0⟩, ⟨(.slc (.st 108)), a1⟩] => some (a0, a1)
  | _, _ => none
def qaF_dec : Fault × (List (Spot)) → Nat × List (TV U) := fun x => (0, [⟨(.st 90), x.1⟩, ⟨(.slc (.st 108)), x.2⟩])
def qaF_in : List (TV U) → Option (Fault × (List (Spot)))
  | [⟨.str, a0⟩] => qaF a0
  | _ => none
def qaF_md : Mode U := ⟨qaF_sh, [], qaF_os, fun ls => .get (qaF_in ls) qaF_tr⟩
theorem qaF_post : ModeOk kk env0 90 qaF_md :=
  fn_of (fn := Tryz.f90) qaF_enc qaF_dec (kitOk_of eqOk mixed known7) (by kernel_rfl) (L := noL) (loopsOk_of (bs := []) (by kernel_rfl) trivial) (fun _ => rfl) (by intro i qs r h; unfold qaF_enc at h; split at h <;> cases h <;> rfl)
    (by intro ls r h; unfold qaF_in at h; split at h; rw [qaF, sealF_eq] at h; exact Eq.trans (by kernel_rfl) h; cases h)
def ms8 : List (FuncId × Mode U) := (90, qaF_md) :: ms7
theorem known8 : Known kk env0 (modesOf ms8) := known_cons (by kernel_rfl) qaF_post known7
def qaC_sh : StSh := ⟨⟨[0], [], []⟩, [.t (.int .i64)], []⟩
def qaC_os : List StSh := [⟨⟨[0], [], []⟩, [.t .bool], []⟩]
def qaC_tr : Bool → Tr (Nat × List (TV U)) := fun x => .ret (0, [⟨.bool, x⟩])
def qaC_enc : Nat → List (TV U) → Option (Bool)
  | 0, [⟨.bool, a0⟩] => some a0
  | _, _ => none
def qaC_dec : Bool → Nat × List (TV U) := fun x => (0, [⟨.bool, x⟩])
def qaC_in : List (TV U) → Option (Bool)
  | [⟨(.int .i64), a0⟩] => qaC a0
  | _ => none
def qaC_md : Mode U := ⟨qaC_sh, [], qaC_os, fun ls => .get (qaC_in ls) qaC_tr⟩
theorem qaC_post : ModeOk kk env0 103 qaC_md :=
  fn_of (fn := Tryz.f103) qaC_enc qaC_dec (kitOk_of eqOk mixed known8) (by kernel_rfl) (L := noL) (loopsOk_of (bs := []) (by kernel_rfl) trivial) (fun _ => rfl) (by intro i qs r h; unfold qaC_enc at h; split at h <;> cases h <;> rfl)
    (by intro ls r h; unfold qaC_in at h; split at h; rw [qaC, sealF_eq] at h; exact Eq.trans (by kernel_rfl) h; cases h)
def ms9 : List (FuncId × Mode U) := (103, qaC_md) :: ms8
theorem known9 : Known kk env0 (modesOf ms9) := known_cons (by kernel_rfl) qaC_post known8
def qaq_sh3 : StSh := ⟨⟨[0, 3, 7], [7], []⟩, [.t .str, .t .bool, .ptr 7 0], [.sit]⟩
def qaq_o3 : List Out := [⟨.ret, ⟨⟨[2], [], []⟩, [.t (.int .i64)], []⟩⟩, ⟨.exit 0, ⟨⟨[0], [], []⟩, [.t .str], []⟩⟩]
def qaq_b3 : Code := (nthLoop (bodyOf Tryz.f91) 0)
def qaq_rec3 (rec : List UInt8 → Bool → List UInt8 → Nat → Option ((Int) ⊕ ((List UInt8)))) : List (TV U) → Option ((Int) ⊕ ((List UInt8)))
  | [⟨.str, a0⟩, ⟨.bool, a1⟩, ⟨.str, a2⟩, ⟨.fn, a3⟩] => rec a0 a1 a2 a3
  | _ => none
def qaq_enc3 : Nat → List (TV U) → Option ((Int) ⊕ ((List UInt8)))
  | 0, [⟨(.int .i64), a0⟩] => some (.inl a0)
  | 1, [⟨.str, a0⟩] => some (.inr a0)
  | _, _ => none
def qaq_dec3 : (Int) ⊕ ((List UInt8)) → Nat × List (TV U) := fun r => match r with | (.inl x) => (0, [⟨(.int .i64), x⟩]) | (.inr x) => (1, [⟨.str, x⟩])
def qaq_tr3 : (Int) ⊕ ((List UInt8)) → Tr (Nat × List (TV U)) := fun r => .alt r (fun x => .ret (0, [⟨(.int .i64), x⟩])) (fun y => (fun x => .ret (1, [⟨.str, x⟩])) y)
def qaq_lp3 : Lift.Loop U := ⟨qaq_sh3, qaq_o3, fun ls => .get (qaq_rec3 qaq_l3 ls) qaq_tr3⟩
theorem qaq_ok3 : LoopR kk env0 Tryz.f91.ntmps qaq_b3 qaq_lp3 :=
  loop_of qaq_enc3 qaq_dec3 (fun n => qaq_rec3 (qaq_i3 n)) (kitOk_of eqOk mixed known9) (L := noL) (loopsOk_of (bs := []) (by kernel_rfl) trivial) (by intro r; rcases r with r | r <;> rfl) (by intro i qs r h; unfold qaq_enc3 at h; split at h <;> cases h <;> rfl)
    (by intro ls r h; unfold qaq_rec3 at h; split at h <;> cases h)
    (by intro n ls r h; unfold qaq_rec3 at h; split at h; exact (show _ = qaq_t3 (qaq_i3 n) _ _ _ _ from by kernel_rfl).trans h; cases h) (by rw [qaq_l3, sealF_eq])
def qaq_sh : StSh := ⟨⟨[0], [], []⟩, [.t .str], []⟩
def qaq_os : List StSh := [⟨⟨[0], [], []⟩, [.t (.int .i64)], []⟩]
def qaq_tr : Int → Tr (Nat × List (TV U)) := fun x => .ret (0, [⟨(.int .i64), x⟩])
def qaq_L : Nat → Option (Lift.Loop U) := fun n => bif Nat.beq n 3 then some qaq_lp3 else none
def qaq_enc : Nat → List (TV U) → Option (Int)
  | 0, [⟨(.int .i64), a0⟩] => some a0
  | _, _ => none
def qaq_dec : Int → Nat × List (TV U) := fun x => (0, [⟨(.int .i64), x⟩])
def qaq_in : List (TV U) → Option (Int)
  | [⟨.str, a0⟩] => qaq a0
  | _ => none
def qaq_md : Mode U := ⟨qaq_sh, [], qaq_os, fun ls => .get (qaq_in ls) qaq_tr⟩
theorem qaq_post : ModeOk kk env0 91 qaq_md :=
  fn_of (fn := Tryz.f91) qaq_enc qaq_dec (kitOk_of eqOk mixed known9) (by kernel_rfl) (L := qaq_L) (loopsOk_of (bs := [qaq_b3]) (by kernel_rfl) ⟨.inr ⟨_, by kernel_rfl, LoopOk.of_round (qaq_ok3)⟩, trivial⟩) (fun _ => rfl) (by intro i qs r h; unfold qaq_enc at h; split at h <;> cases h <;> rfl)
    (by intro ls r h; unfold qaq_in at h; split at h; rw [qaq, sealF_eq] at h; exact Eq.trans (by kernel_rfl) h; cases h)
def ms10 : List (FuncId × Mode U) := (91, qaq_md) :: ms9
theorem known10 : Known kk env0 (modesOf ms10) := known_cons (by kernel_rfl) qaq_post known9
def qbt_sh : StSh := ⟨⟨[0], [], []⟩, [.t (.int .i32)], []⟩
def qbt_os : List StSh := [⟨⟨[0], [], []⟩, [.t .bool], []⟩]
def qbt_tr : Bool → Tr (Nat × List (TV U)) := fun x => .ret (0, [⟨.bool, x⟩])
def qbt_enc : Nat → List (TV U) → Option (Bool)
  | 0, [⟨.bool, a0⟩] => some a0
  | _, _ => none
def qbt_dec : Bool → Nat × List (TV U) := fun x => (0, [⟨.bool, x⟩])
def qbt_in : List (TV U) → Option (Bool)
  | [⟨(.int .i32), a0⟩] => qbt a0
  | _ => none
def qbt_md : Mode U := ⟨qbt_sh, [], qbt_os, fun ls => .get (qbt_in ls) qbt_tr⟩
theorem qbt_post : ModeOk kk env0 136 qbt_md :=
  fn_of (fn := Tryz.f136) qbt_enc qbt_dec (kitOk_of eqOk mixed known10) (by kernel_rfl) (L := noL) (loopsOk_of (bs := []) (by kernel_rfl) trivial) (fun _ => rfl) (by intro i qs r h; unfold qbt_enc at h; split at h <;> cases h <;> rfl)
    (by intro ls r h; unfold qbt_in at h; split at h; rw [qbt, sealF_eq] at h; exact Eq.trans (by kernel_rfl) h; cases h)
def ms11 : List (FuncId × Mode U) := (136, qbt_md) :: ms10
theorem known11 : Known kk env0 (modesOf ms11) := known_cons (by kernel_rfl) qbt_post known10
def qaH_sh : StSh := ⟨⟨[0], [], []⟩, [.t (.int .i64)], []⟩
def qaH_os : List StSh := [⟨⟨[0], [], []⟩, [.t .bool], []⟩]
def qaH_tr : Bool → Tr (Nat × List (TV U)) := fun x => .ret (0, [⟨.bool, x⟩])
def qaH_enc : Nat → List (TV U) → Option (Bool)
  | 0, [⟨.bool, a0⟩] => some a0
  | _, _ => none
def qaH_dec : Bool → Nat × List (TV U) := fun x => (0, [⟨.bool, x⟩])
def qaH_in : List (TV U) → Option (Bool)
  | [⟨(.int .i64), a0⟩] => qaH a0
  | _ => none
def qaH_md : Mode U := ⟨qaH_sh, [], qaH_os, fun ls => .get (qaH_in ls) qaH_tr⟩
theorem qaH_post : ModeOk kk env0 125 qaH_md :=
  fn_of (fn := Tryz.f125) qaH_enc qaH_dec (kitOk_of eqOk mixed known11) (by kernel_rfl) (L := noL) (loopsOk_of (bs := []) (by kernel_rfl) trivial) (fun _ => rfl) (by intro i qs r h; unfold qaH_enc at h; split at h <;> cases h <;> rfl)
    (by intro ls r h; unfold qaH_in at h; split at h; rw [qaH, sealF_eq] at h; exact Eq.trans (by kernel_rfl) h; cases h)
def ms12 : List (FuncId × Mode U) := (125, qaH_md) :: ms11
theorem known12 : Known kk env0 (modesOf ms12) := known_cons (by kernel_rfl) qaH_post known11
def qaE_sh : StSh := ⟨⟨[0], [], []⟩, [.t (.int .i64)], []⟩
def qaE_os : List StSh := [⟨⟨[0], [], []⟩, [.t .bool], []⟩]
def qaE_tr : Bool → Tr (Nat × List (TV U)) := fun x => .ret (0, [⟨.bool, x⟩])
def qaE_enc : Nat → List (TV U) → Option (Bool)
  | 0, [⟨.bool, a0⟩] => some a0
  | _, _ => none
def qaE_dec : Bool → Nat × List (TV U) := fun x => (0, [⟨.bool, x⟩])
def qaE_in : List (TV U) → Option (Bool)
  | [⟨(.int .i64), a0⟩] => qaE a0
  | _ => none
def qaE_md : Mode U := ⟨qaE_sh, [], qaE_os, fun ls => .get (qaE_in ls) qaE_tr⟩
theorem qaE_post : ModeOk kk env0 119 qaE_md :=
  fn_of (fn := Tryz.f119) qaE_enc qaE_dec (kitOk_of eqOk mixed known12) (by kernel_rfl) (L := noL) (loopsOk_of (bs := []) (by kernel_rfl) trivial) (fun _ => rfl) (by intro i qs r h; unfold qaE_enc at h; split at h <;> cases h <;> rfl)
    (by intro ls r h; unfold qaE_in at h; split at h; rw [qaE, sealF_eq] at h; exact Eq.trans (by kernel_rfl) h; cases h)
def ms13 : List (FuncId × Mode U) := (119, qaE_md) :: ms12
theorem known13 : Known kk env0 (modesOf ms13) := known_cons (by kernel_rfl) qaE_post known12
def qaD_sh : StSh := ⟨⟨[0], [], []⟩, [.t (.int .i64)], []⟩
def qaD_os : List StSh := [⟨⟨[0], [], []⟩, [.t .bool], []⟩]
def qaD_tr : Bool → Tr (Nat × List (TV U)) := fun x => .ret (0, [⟨.bool, x⟩])
def qaD_enc : Nat → List (TV U) → Option (Bool)
  | 0, [⟨.bool, a0⟩] => some a0
  | _, _ => none
def qaD_dec : Bool → Nat × List (TV U) := fun x => (0, [⟨.bool, x⟩])
def qaD_in : List (TV U) → Option (Bool)
  | [⟨(.int .i64), a0⟩] => qaD a0
  | _ => none
def qaD_md : Mode U := ⟨qaD_sh, [], qaD_os, fun ls => .get (qaD_in ls) qaD_tr⟩
theorem qaD_post : ModeOk kk env0 108 qaD_md :=
  fn_of (fn := Tryz.f108) qaD_enc qaD_dec (kitOk_of eqOk mixed known13) (by kernel_rfl) (L := noL) (loopsOk_of (bs := []) (by kernel_rfl) trivial) (fun _ => rfl) (by intro i qs r h; unfold qaD_enc at h; split at h <;> cases h <;> rfl)
    (by intro ls r h; unfold qaD_in at h; split at h; rw [qaD, sealF_eq] at h; exact Eq.trans (by kernel_rfl) h; cases h)
def ms14 : List (FuncId × Mode U) := (108, qaD_md) :: ms13
theorem known14 : Known kk env0 (modesOf ms14) := known_cons (by kernel_rfl) qaD_post known13
def qao_sh : StSh := ⟨⟨[0], [], []⟩, [.t (.int .i32)], []⟩
def qao_os : List StSh := [⟨⟨[0], [], []⟩, [.t .bool], []⟩]
def qao_tr : Bool → Tr (Nat × List (TV U)) := fun x => .ret (0, [⟨.bool, x⟩])
def qao_enc : Nat → List (TV U) → Option (Bool)
  | 0, [⟨.bool, a0⟩] => some a0
  | _, _ => none
def qao_dec : Bool → Nat × List (TV U) := fun x => (0, [⟨.bool, x⟩])
def qao_in : List (TV U) → Option (Bool)
  | [⟨(.int .i32), a0⟩] => qao a0
  | _ => none
def qao_md : Mode U := ⟨qao_sh, [], qao_os, fun ls => .get (qao_in ls) qao_tr⟩
theorem qao_post : ModeOk kk env0 105 qao_md :=
  fn_of (fn := Tryz.f105) qao_enc qao_dec (kitOk_of eqOk mixed known14) (by kernel_rfl) (L := noL) (loopsOk_of (bs := []) (by kernel_rfl) trivial) (fun _ => rfl) (by intro i qs r h; unfold qao_enc at h; split at h <;> cases h <;> rfl)
    (by intro ls r h; unfold qao_in at h; split at h; rw [qao, sealF_eq] at h; exact Eq.trans (by kernel_rfl) h; cases h)
def ms15 : List (FuncId × Mode U) := (105, qao_md) :: ms14
theorem known15 : Known kk env0 (modesOf ms15) := known_cons (by kernel_rfl) qao_post known14
def qaT_sh2 : StSh := ⟨⟨[0, 1, 7, 8], [], []⟩, [.t (.slc .str), .t .str, .t (.int .i64), .t (.int .i64)], []⟩
def qaT_o2 : List Out := [⟨.ret, ⟨⟨[4], [], []⟩, [.t (.int .i64)], []⟩⟩, ⟨.exit 0, ⟨⟨[], [], []⟩, [], []⟩⟩]
def qaT_b2 : Code := (nthLoop (bodyOf Tryz.f123) 0)
def qaT_rec2 (rec : List (List UInt8) → List UInt8 → Int → Int → Option ((Int) ⊕ (Unit))) : List (TV U) → Option ((Int) ⊕ (Unit))
  | [⟨(.slc .str), a0⟩, ⟨.str, a1⟩, ⟨(.int .i64), a2⟩, ⟨(.int .i64), a3⟩] => rec a0 a1 a2 a3
  | _ => none
def qaT_enc2 : Nat → List (TV U) → Option ((Int) ⊕ (Unit))
  | 0, [⟨(.int .i64), a0⟩] => some (.inl a0)
  | 1, [] => some (.inr ())
  | _, _ => none
def qaT_dec2 : (Int) ⊕ (Unit) → Nat × List (TV U) := fun r => match r with | (.inl x) => (0, [⟨(.int .i64), x⟩]) | (.inr x) => (1, [])
def qaT_tr2 : (Int) ⊕ (Unit) → Tr (Nat × List (TV U)) := fun r => .alt r (fun x => .ret (0, [⟨(.int .i64), x⟩])) (fun y => (fun x => .ret (1, [])) y)
def qaT_lp2 : Lift.Loop U := ⟨qaT_sh2, qaT_o2, fun ls => .get (qaT_rec2 qaT_l2 ls) qaT_tr2⟩
theorem qaT_ok2 : LoopR kk env0 Tryz.f123.ntmps qaT_b2 qaT_lp2 :=
  loop_of qaT_enc2 qaT_dec2 (fun n => qaT_rec2 (qaT_i2 n)) (kitOk_of eqOk mixed known15) (L := noL) (loopsOk_of (bs := []) (by kernel_rfl) trivial) (by intro r; rcases r with r | r <;> rfl) (by intro i qs r h; unfold qaT_enc2 at h; split at h <;> cases h <;> rfl)
    (by intro ls r h; unfold qaT_rec2 at h; split at h <;> cases h)
    (by intro n ls r h; unfold qaT_rec2 at h; split at h; exact (show _ = qaT_t2 (qaT_i2 n) _ _ _ _ from by kernel_rfl).trans h; cases h) (by rw [qaT_l2, sealF_eq])
def qaT_sh : StSh := ⟨⟨[0, 1], [], []⟩, [.t (.slc .str), .t .str], []⟩
def qaT_os : List StSh := [⟨⟨[0], [], []⟩, [.t (.int .i64)], []⟩]
def qaT_tr : Int → Tr (Nat × List (TV U)) := fun x => .ret (0, [⟨(.int .i64), x⟩])
def qaT_L : Nat → Option (Lift.Loop U) := fun n => bif Nat.beq n 2 then some qaT_lp2 else none
def qaT_enc : Nat → List (TV U) → Option (Int)
  | 0, [⟨(.int .i64), a0⟩] => some a0
  | _, _ => none
def qaT_dec : Int → Nat × List (TV U) := fun x => (0, [⟨(.int .i64), x⟩])
def qaT_in : List (TV U) → Option (Int)
  | [⟨(.slc .str), a0⟩, ⟨.str, a1⟩] => qaT a0 a1
  | _ => none
def qaT_md : Mode U := ⟨qaT_sh, [], qaT_os, fun ls => .get (qaT_in ls) qaT_tr⟩
theorem qaT_post : ModeOk kk env0 123 qaT_md :=
  fn_of (fn := Tryz.f123) qaT_enc qaT_dec (kitOk_of eqOk mixed known15) (by kernel_rfl) (L := qaT_L) (loopsOk_of (bs := [qaT_b2]) (by kernel_rfl) ⟨.inr ⟨_, by kernel_rfl, LoopOk.of_round (qaT_ok2)⟩, trivial⟩) (fun _ => rfl) (by intro i qs r h; unfold qaT_enc at h; split at h <;> cases h <;> rfl)
    (by intro ls r h; unfold qaT_in at h; split at h; rw [qaT, sealF_eq] at h; exact Eq.trans (by kernel_rfl) h; cases h)
def ms16 : List (FuncId × Mode U) := (123, qaT_md) :: ms15
theorem known16 : Known kk env0 (modesOf ms16) := known_cons (by kernel_rfl) qaT_post known15
def qaN_sh : StSh := ⟨⟨[0, 1], [], []⟩, [.t (.slc .str), .t .str], []⟩
def qaN_os : List StSh := [⟨⟨[0], [], []⟩, [.t .bool], []⟩]
def qaN_tr : Bool → Tr (Nat × List (TV U)) := fun x => .ret (0, [⟨.bool, x⟩])
def qaN_enc : Nat → List (TV U) → Option (Bool)
  | 0, [⟨.bool, a0⟩] => some a0
  | _, _ => none
def qaN_dec : Bool → Nat × List (TV U) := fun x => (0, [⟨.bool, x⟩])
def qaN_in : List (TV U) → Option (Bool)
  | [⟨(.slc .str), a0⟩, ⟨.str, a1⟩] => qaN a0 a1
  | _ => none
def qaN_md : Mode U := ⟨qaN_sh, [], qaN_os, fun ls => .get (qaN_in ls) qaN_tr⟩
theorem qaN_post : ModeOk kk env0 110 qaN_md :=
  fn_of (fn := Tryz.f110) qaN_enc qaN_dec (kitOk_of eqOk mixed known16) (by kernel_rfl) (L := noL) (loopsOk_of (bs := []) (by kernel_rfl) trivial) (fun _ => rfl) (by intro i qs r h; unfold qaN_enc at h; split at h <;> cases h <;> rfl)
    (by intro ls r h; unfold qaN_in at h; split at h; rw [qaN, sealF_eq] at h; exact Eq.trans (by kernel_rfl) h; cases h)
def ms17 : List (FuncId × Mode U) := (110, qaN_md) :: ms16
theorem known17 : Known kk env0 (modesOf ms17) := known_cons (by kernel_rfl) qaN_post known16
def qar_sh : StSh := ⟨⟨[0], [], []⟩, [.t .str], []⟩
def qar_os : List StSh := [⟨⟨[0], [], []⟩, [.t .str], []⟩]
def qar_tr : (List UInt8) → Tr (Nat × List (TV U)) := fun x => .ret (0, [⟨.str, x⟩])
def qar_enc : Nat → List (TV U) → Option ((List UInt8))
  | 0, [⟨.str, a0⟩] => some a0
  | _, _ => none
def qar_dec : (List UInt8) → Nat × List (TV U) := fun x => (0, [⟨.str, x⟩])
def qar_in : List (TV U) → Option ((List UInt8))
  | [⟨.str, a0⟩] => qar a0
  | _ => none
def qar_md : Mode U := ⟨qar_sh, [], qar_os, fun ls => .get (qar_in ls) qar_tr⟩
theorem qar_post : ModeOk kk env0 106 qar_md :=
  fn_of (fn := Tryz.f106) qar_enc qar_dec (kitOk_of eqOk mixed known17) (by kernel_rfl) (L := noL) (loopsOk_of (bs := []) (by kernel_rfl) trivial) (fun _ => rfl) (by intro i qs r h; unfold qar_enc at h; split at h <;> cases h <;> rfl)
    (by intro ls r h; unfold qar_in at h; split at h; rw [qar, sealF_eq] at h; exact Eq.trans (by kernel_rfl) h; cases h)
def ms18 : List (FuncId × Mode U) := (106, qar_md) :: ms17
theorem known18 : Known kk env0 (modesOf ms18) := known_cons (by kernel_rfl) qar_post known17
def qat_sh2 : StSh := ⟨⟨[0, 6], [6], []⟩, [.t .str, .ptr 6 0], [.sit]⟩
def qat_o2 : List Out := [⟨.ret, ⟨⟨[2], [], []⟩, [.t .str], []⟩⟩, ⟨.exit 0, ⟨⟨[0], [], []⟩, [.t .str], []⟩⟩]
def qat_b2 : Code := (nthLoop (bodyOf Tryz.f107) 0)
def qat_rec2 (rec : List UInt8 → List UInt8 → Nat → Option (((List UInt8)) ⊕ ((List UInt8)))) : List (TV U) → Option (((List UInt8)) ⊕ ((List UInt8)))
  | [⟨.str, a0⟩, ⟨.str, a1⟩, ⟨.fn, a2⟩] => rec a0 a1 a2
  | _ => none
def qat_enc2 : Nat → List (TV U) → Option (((List UInt8)) ⊕ ((List UInt8)))
  | 0, [⟨.str, a0⟩] => some (.inl a0)
  | 1, [⟨.str, a0⟩] => some (.inr a0)
  | _, _ => none
def qat_dec2 : ((List UInt8)) ⊕ ((List UInt8)) → Nat × List (TV U) := fun r => match r with | (.inl x) => (0, [⟨.str, x⟩]) | (.inr x) => (1, [⟨.str, x⟩])
def qat_tr2 : ((List UInt8)) ⊕ ((List UInt8)) → Tr (Nat × List (TV U)) := fun r => .alt r (fun x => .ret (0, [⟨.str, x⟩])) (fun y => (fun x => .ret (1, [⟨.str, x⟩])) y)
def qat_lp2 : Lift.Loop U := ⟨qat_sh2, qat_o2, fun ls => .get (qat_rec2 qat_l2 ls) qat_tr2⟩
theorem qat_ok2 : LoopR kk env0 Tryz.f107.ntmps qat_b2 qat_lp2 :=
  loop_of qat_enc2 qat_dec2 (fun n => qat_rec2 (qat_i2 n)) (kitOk_of eqOk mixed known18) (L := noL) (loopsOk_of (bs := []) (by kernel_rfl) trivial) (by intro r; rcases r with r | r <;> rfl) (by intro i qs r h; unfold qat_enc2 at h; split at h <;> cases h <;> rfl)
    (by intro ls r h; unfold qat_rec2 at h; split at h <;> cases h)
    (by intro n ls r h; unfold qat_rec2 at h; split at h; exact (show _ = qat_t2 (qat_i2 n) _ _ _ from by kernel_rfl).trans h; cases h) (by rw [qat_l2, sealF_eq])
def qat_sh : StSh := ⟨⟨[0], [], []⟩, [.t .str], []⟩
def qat_os : List StSh := [⟨⟨[0], [], []⟩, [.t .str], []⟩]
def qat_tr : (List UInt8) → Tr (Nat × List (TV U)) := fun x => .ret (0, [⟨.str, x⟩])
def qat_L : Nat → Option (Lift.Loop U) := fun n => bif Nat.beq n 2 then some qat_lp2 else none
def qat_enc : Nat → List (TV U) → Option ((List UInt8))
  | 0, [⟨.str, a0⟩] => some a0
  | _, _ => none
def qat_dec : (List UInt8) → Nat × List (TV U) := fun x => (0, [⟨.str, x⟩])
def qat_in : List (TV U) → Option ((List UInt8))
  | [⟨.str, a0⟩] => qat a0
  | _ => none
def qat_md : Mode U := ⟨qat_sh, [], qat_os, fun ls => .get (qat_in ls) qat_tr⟩
theorem qat_post : ModeOk kk env0 107 qat_md :=
  fn_of (fn := Tryz.f107) qat_enc qat_dec (kitOk_of eqOk mixed known18) (by kernel_rfl) (L := qat_L) (loopsOk_of (bs := [qat_b2]) (by kernel_rfl) ⟨.inr ⟨_, by kernel_rfl, LoopOk.of_round (qat_ok2)⟩, trivial⟩) (fun _ => rfl) (by intro i qs r h; unfold qat_enc at h; split at h <;> cases h <;> rfl)
    (by intro ls r h; unfold qat_in at h; split at h; rw [qat, sealF_eq] at h; exact Eq.trans (by kernel_rfl) h; cases h)
def ms19 : List (FuncId × Mode U) := (107, qat_md) :: ms18
theorem known19 : Known kk env0 (modesOf ms19) := known_cons (by kernel_rfl) qat_post known18
def qap_sh : StSh := ⟨⟨[0], [], []⟩, [.t .str], []⟩
def qap_os : List StSh := [⟨⟨[0, 1], [], []⟩, [.t (.int .i64), .t .bool], []⟩]
def qap_tr : Int × Bool → Tr (Nat × List (TV U)) := fun x => .ret (0, [⟨(.int .i64), x.1⟩, ⟨.bool, x.2⟩])
def qap_enc : Nat → List (TV U) → Option (Int × Bool)
  | 0, [⟨(.int .i64), a0⟩, ⟨.bool, a1⟩] => some (a0, a1)
  | _, _ => none
def qap_dec : Int × Bool → Nat × List (TV U) := fun x => (0, [⟨(.int .i64), x.1⟩, ⟨.bool, x.2⟩])
def qap_in : List (TV U) → Option (Int × Bool)
  | [⟨.str, a0⟩] => qap a0
  | _ => none
def qap_md : Mode U := ⟨qap_sh, [], qap_os, fun ls => .get (qap_in ls) qap_tr⟩
theorem qap_post : ModeOk kk env0 109 qap_md :=
  fn_of (fn := Tryz.f109) qap_enc qap_dec (kitOk_of eqOk mixed known19) (by kernel_rfl) (L := noL) (loopsOk_of (bs := []) (by kernel_rfl) trivial) (fun _ => rfl) (by intro i qs r h; unfold qap_enc at h; split at h <;> cases h <;> rfl)
    (by intro ls r h; unfold qap_in at h; split at h; rw [qap, sealF_eq] at h; exact Eq.trans (by kernel_rfl) h; cases h)
def ms20 : List (FuncId × Mode U) := (109, qap_md) :: ms19
theorem known20 : Known kk env0 (modesOf ms20) := known_cons (by kernel_rfl) qap_post known19
def qan_sh : StSh := ⟨⟨[], [], []⟩, [], []⟩
def qan_os : List StSh := [⟨⟨[0], [], [⟨.slot 0, 100000, 9, .str⟩]⟩, [.oslc 100000], [.row 9 .str]⟩]
def qan_tr : (List (List UInt8)) → Tr (Nat × List (TV U)) := fun x => .ret (0, [⟨(.slc .str), x⟩])
def qan_enc : Nat → List (TV U) → Option ((List (List UInt8)))
  | 0, [⟨(.slc .str), a0⟩] => some a0
  | _, _ => none
def qan_dec : (List (List UInt8)) → Nat × List (TV U) := fun x => (0, [⟨(.slc .str), x⟩])
def qan_in : List (TV U) → Option ((List (List UInt8)))
  | [] => qan
  | _ => none
def qan_md : Mode U := ⟨qan_sh, [], qan_os, fun ls => .get (qan_in ls) qan_tr⟩
theorem qan_post : ModeOk kk env0 111 qan_md :=
  fn_of (fn := Tryz.f111) qan_enc qan_dec (kitOk_of eqOk mixed known20) (by kernel_rfl) (L := noL) (loopsOk_of (bs := []) (by kernel_rfl) trivial) (fun _ => rfl) (by intro i qs r h; unfold qan_enc at h; split at h <;> cases h <;> rfl)
    (by intro ls r h; unfold qan_in at h; split at h; rw [qan, sealF_eq] at h; exact Eq.trans (by kernel_rfl) h; cases h)
def ms21 : List (FuncId × Mode U) := (111, qan_md) :: ms20
theorem known21 : Known kk env0 (modesOf ms21) := known_cons (by kernel_rfl) qan_post known20
def qas_sh : StSh := ⟨⟨[0], [], []⟩, [.t .str], []⟩
def qas_os : List StSh := [⟨⟨[0, 1], [], []⟩, [.t (.st 94), .t (.int .i64)], []⟩]
def qas_tr : Token × Int → Tr (Nat × List (TV U)) := fun x => .ret (0, [⟨(.st 94), x.1⟩, ⟨(.int .i64), x.2⟩])
def qas_enc : Nat → List (TV U) → Option (Token × Int)
  | 0, [⟨(.st 94), a0⟩, ⟨(.int .i64), a1⟩] => some (a0, a1)
  | _, _ => none
def qas_dec : Token × Int → Nat × List (TV U) := fun x => (0, [⟨(.st 94), x.1⟩, ⟨(.int .i64), x.2⟩])
def qas_in : List (TV U) → Option (Token × Int)
  | [⟨.str, a0⟩] => qas a0
  | _ => none
def qas_md : Mode U := ⟨qas_sh, [], qas_os, fun ls => .get (qas_in ls) qas_tr⟩
theorem qas_post : ModeOk kk env0 92 qas_md :=
  fn_of (fn := Tryz.f92) qas_enc qas_dec (kitOk_of eqOk mixed known21) (by kernel_rfl) (L := noL) (loopsOk_of (bs := []) (by kernel_rfl) trivial) (fun _ => rfl) (by intro i qs r h; unfold qas_enc at h; split at h <;> cases h <;> rfl)
    (by intro ls r h; unfold qas_in at h; split at h; rw [qas, sealF_eq] at h; exact Eq.trans (by kernel_rfl) h; cases h)
def ms22 : List (FuncId × Mode U) := (92, qas_md) :: ms21
theorem known22 : Known kk env0 (modesOf ms22) := known_cons (by kernel_rfl) qas_post known21
def qam_sh6 : StSh := ⟨⟨[0, 3, 6, 7], [3], [⟨.slot 6, 6, 94, (.st 94)⟩]⟩, [.t .str, .ptr 3 0, .oslc 6, .t (.int .i64)], [.blk 90 [.t (.int .i64), .t (.int .i64), .t .str], .row 94 (.st 94)]⟩
def qam_o6 : List Out := [⟨.ret, ⟨⟨[2, 3], [3], []⟩, [.nil, .ptr 3 0], [.blk 90 [.t (.int .i64), .t (.int .i64), .t .str]]⟩⟩, ⟨.exit 0, ⟨⟨[0, 3, 6], [3], [⟨.slot 6, 6, 94, (.st 94)⟩]⟩, [.t .str, .ptr 3 0, .oslc 6], [.blk 90 [.t (.int .i64), .t (.int .i64), .t .str], .row 94 (.st 94)]⟩⟩]
def qam_b6 : Code := (nthLoop (bodyOf Tryz.f78) 0)
def qam_rec6 (rec : List UInt8 → Int → Int → Int → List UInt8 → List (Token) → Option ((Int × Int × (List UInt8)) ⊕ ((List UInt8) × Int × Int × (List UInt8) × (List (Token))))) : List (TV U) → Option ((Int × Int × (List UInt8)) ⊕ ((List UInt8) × Int × Int × (List UInt8) × (List (Token))))
  | [⟨.str, a0⟩, ⟨(.int .i64), a1⟩, ⟨(.int .i64), a2⟩, ⟨(.int .i64), a3⟩, ⟨.str, a4⟩, ⟨(.slc (.st 94)), a5⟩] => rec a0 a1 a2 a3 a4 a5
  | _ => none
def qam_enc6 : Nat → List (TV U) → Option ((Int × Int × (List UInt8)) ⊕ ((List UInt8) × Int × Int × (List UInt8) × (List (Token))))
  | 0, [⟨(.int .i64), a0⟩, ⟨(.int .i64), a1⟩, ⟨.str, a2⟩] => some (.inl (a0, a1, a2))
  | 1, [⟨.str, a0⟩, ⟨(.int .i64), a1⟩, ⟨(.int .i64), a2⟩, ⟨.str, a3⟩, ⟨(.slc (.st 94)), a4⟩] => some (.inr (a0, a1, a2, a3, a4))
  | _, _ => none
def qam_dec6 : (Int × Int × (List UInt8)) ⊕ ((List UInt8) × Int × Int × (List UInt8) × (List (Token))) → Nat × List (TV U) := fun r => match r with | (.inl x) => (0, [⟨(.int .i64), x.1⟩, ⟨(.int .i64), x.2.1⟩, ⟨.str, x.2.2⟩]) | (.inr x) => (1, [⟨.str, x.1⟩, ⟨(.int .i64), x.2.1⟩, ⟨(.int .i64), x.2.2.1⟩, ⟨.str, x.2.2.2.1⟩, ⟨(.slc (.st 94)), x.2.2.2.2⟩])
def qam_tr6 : (Int × Int × (List UInt8)) ⊕ ((List UInt8) × Int × Int × (List UInt8) × (List (Token))) → Tr (Nat × List (TV U)) := fun r => .alt r (fun x => .ret (0, [⟨(.int .i64), x.1⟩, ⟨(.int .i64), x.2.1⟩, ⟨.str, x.2.2⟩])) (fun y => (fun x => .ret (1, [⟨.str, x.1⟩, ⟨(.int .i64), x.2.1⟩, ⟨(.int .i64), x.2.2.1⟩, ⟨.str, x.2.2.2.1⟩, ⟨(.slc (.st 94)), x.2.2.2.2⟩])) y)
def qam_lp6 : Lift.Loop U := ⟨qam_sh6, qam_o6, fun ls => .get (qam_rec6 qam_l6 ls) qam_tr6⟩
theorem qam_ok6 : LoopR kk env0 Tryz.f78.ntmps qam_b6 qam_lp6 :=
  loop_of qam_enc6 qam_dec6 (fun n => qam_rec6 (qam_i6 n)) (kitOk_of eqOk mixed known22) (L := noL) (loopsOk_of (bs := []) (by kernel_rfl) trivial) (by intro r; rcases r with r | r <;> rfl) (by intro i qs r h; unfold qam_enc6 at h; split at h <;> cases h <;> rfl)
    (by intro ls r h; unfold qam_rec6 at h; split at h <;> cases h)
    (by intro n ls r h; unfold qam_rec6 at h; split at h; exact (show _ = qam_t6 (qam_i6 n) _ _ _ _ _ _ from by kernel_rfl).trans h; cases h) (by rw [qam_l6, sealF_eq])
def qam_sh : StSh := ⟨⟨[0], [], []⟩, [.t .str], []⟩
def qam_os : List StSh := [⟨⟨[0, 1], [], [⟨.slot 0, 100000, 94, (.st 94)⟩]⟩, [.oslc 100000, .t (.st 90)], [.row 94 (.st 94)]⟩]
def qam_tr : Fault × (List (Token)) → Tr (Nat × List (TV U)) := fun x => .ret (0, [⟨(.st 90), x.1⟩, ⟨(.slc (.st 94)), x.2⟩])
def qam_L : Nat → Option (Lift.Loop U) := fun n => bif Nat.beq n 6 then some qam_lp6 else none
def qam_enc : Nat → List (TV U) → Option (Fault × (List (Token)))
  | 0, [⟨(.st 90), a0⟩, ⟨(.slc (.st 94)), a1⟩] => some (a0, a1)
  | _, _ => none
def qam_dec : Fault × (List (Token)) → Nat × List (TV U) := fun x => (0, [⟨(.st 90), x.1⟩, ⟨(.slc (.st 94)), x.2⟩])
def qam_in : List (TV U) → Option (Fault × (List (Token)))
  | [⟨.str, a0⟩] => qam a0
  | _ => none
def qam_md : Mode U := ⟨qam_sh, [], qam_os, fun ls => .get (qam_in ls) qam_tr⟩
theorem qam_post : ModeOk kk env0 78 qam_md :=
  fn_of (fn := Tryz.f78) qam_enc qam_dec (kitOk_of eqOk mixed known22) (by kernel_rfl) (L := qam_L) (loopsOk_of (bs := [qam_b6]) (by kernel_rfl) ⟨.inr ⟨_, by kernel_rfl, LoopOk.of_round (qam_ok6)⟩, trivial⟩) (fun _ => rfl) (by intro i qs r h; unfold qam_enc at h; split at h <;> cases h <;> rfl)
    (by intro ls r h; unfold qam_in at h; split at h; rw [qam, sealF_eq] at h; exact Eq.trans (by kernel_rfl) h; cases h)
def ms23 : List (FuncId × Mode U) := (78, qam_md) :: ms22
theorem known23 : Known kk env0 (modesOf ms23) := known_cons (by kernel_rfl) qam_post known22
def qbi_sh : StSh := ⟨⟨[0], [], []⟩, [.t .str], []⟩
def qbi_os : List StSh := [⟨⟨[0], [], []⟩, [.t .bool], []⟩]
def qbi_tr : Bool → Tr (Nat × List (TV U)) := fun x => .ret (0, [⟨.bool, x⟩])
def qbi_enc : Nat → List (TV U) → Option (Bool)
  | 0, [⟨.bool, a0⟩] => some a0
  | _, _ => none
def qbi_dec : Bool → Nat × List (TV U) := fun x => (0, [⟨.bool, x⟩])
def qbi_in : List (TV U) → Option (Bool)
  | [⟨.str, a0⟩] => qbi a0
  | _ => none
def qbi_md : Mode U := ⟨qbi_sh, [], qbi_os, fun ls => .get (qbi_in ls) qbi_tr⟩
theorem qbi_post : ModeOk kk env0 58 qbi_md :=
  fn_of (fn := Tryz.f58) qbi_enc qbi_dec (kitOk_of eqOk mixed known23) (by kernel_rfl) (L := jnL) (loopsOk_of (bs := []) (by kernel_rfl) trivial) (fun _ => rfl) (by intro i qs r h; unfold qbi_enc at h; split at h <;> cases h <;> rfl)
    (by intro ls r h; unfold qbi_in at h; split at h; rw [qbi, sealF_eq] at h; exact Eq.trans (by kernel_rfl) h; cases h)
def ms24 : List (FuncId × Mode U) := (58, qbi_md) :: ms23
theorem known24 : Known kk env0 (modesOf ms24) := known_cons (by kernel_rfl) qbi_post known23
def qbq_sh : StSh := ⟨⟨[], [], []⟩, [], []⟩
def qbq_os : List StSh := [⟨⟨[0], [], []⟩, [.t (.map (.int .i64) (.st 96))], []⟩]
def qbq_tr : (List ((Int) × (Shape))) → Tr (Nat × List (TV U)) := fun x => .ret (0, [⟨(.map (.int .i64) (.st 96)), x⟩])
def qbq_enc : Nat → List (TV U) → Option ((List ((Int) × (Shape))))
  | 0, [⟨(.map (.int .i64) (.st 96)), a0⟩] => some a0
  | _, _ => none
def qbq_dec : (List ((Int) × (Shape))) → Nat × List (TV U) := fun x => (0, [⟨(.map (.int .i64) (.st 96)), x⟩])
def qbq_in : List (TV U) → Option ((List ((Int) × (Shape))))
  | [] => qbq
  | _ => none
def qbq_md : Mode U := ⟨qbq_sh, [], qbq_os, fun ls => .get (qbq_in ls) qbq_tr⟩
theorem qbq_post : ModeOk kk env0 79 qbq_md :=
  fn_of (fn := Tryz.f79) qbq_enc qbq_dec (kitOk_of eqOk mixed known24) (by kernel_rfl) (L := jnL) (loopsOk_of (bs := []) (by kernel_rfl) trivial) (fun _ => rfl) (by intro i qs r h; unfold qbq_enc at h; split at h <;> cases h <;> rfl)
    (by intro ls r h; unfold qbq_in at h; split at h; rw [qbq, sealF_eq] at h; exact Eq.trans (by kernel_rfl) h; cases h)
def ms25 : List (FuncId × Mode U) := (79, qbq_md) :: ms24
theorem known25 : Known kk env0 (modesOf ms25) := known_cons (by kernel_rfl) qbq_post known24
def qbh_sh : StSh := ⟨⟨[0, 1], [], []⟩, [.t .str, .t .bool], []⟩
def qbh_os : List StSh := [⟨⟨[0], [], []⟩, [.t .bool], []⟩]
def qbh_tr : Bool → Tr (Nat × List (TV U)) := fun x => .ret (0, [⟨.bool, x⟩])
def qbh_enc : Nat → List (TV U) → Option (Bool)
  | 0, [⟨.bool, a0⟩] => some a0
  | _, _ => none
def qbh_dec : Bool → Nat × List (TV U) := fun x => (0, [⟨.bool, x⟩])
def qbh_in : List (TV U) → Option (Bool)
  | [⟨.str, a0⟩, ⟨.bool, a1⟩] => qbh a0 a1
  | _ => none
def qbh_md : Mode U := ⟨qbh_sh, [], qbh_os, fun ls => .get (qbh_in ls) qbh_tr⟩
theorem qbh_post : ModeOk kk env0 80 qbh_md :=
  fn_of (fn := Tryz.f80) qbh_enc qbh_dec (kitOk_of eqOk mixed known25) (by kernel_rfl) (L := jnL) (loopsOk_of (bs := []) (by kernel_rfl) trivial) (fun _ => rfl) (by intro i qs r h; unfold qbh_enc at h; split at h <;> cases h <;> rfl)
    (by intro ls r h; unfold qbh_in at h; split at h; rw [qbh, sealF_eq] at h; exact Eq.trans (by kernel_rfl) h; cases h)
def ms26 : List (FuncId × Mode U) := (80, qbh_md) :: ms25
theorem known26 : Known kk env0 (modesOf ms26) := known_cons (by kernel_rfl) qbh_post known25
def qbr_sh : StSh := ⟨⟨[0], [], []⟩, [.t (.st 43)], []⟩
def qbr_os : List StSh := [⟨⟨[0], [], []⟩, [.t .bool], []⟩]
def qbr_tr : Bool → Tr (Nat × List (TV U)) := fun x => .ret (0, [⟨.bool, x⟩])
def qbr_enc : Nat → List (TV U) → Option (Bool)
  | 0, [⟨.bool, a0⟩] => some a0
  | _, _ => none
def qbr_dec : Bool → Nat × List (TV U) := fun x => (0, [⟨.bool, x⟩])
def qbr_in : List (TV U) → Option (Bool)
  | [⟨(.st 43), a0⟩] => qbr a0
  | _ => none
def qbr_md : Mode U := ⟨qbr_sh, [], qbr_os, fun ls => .get (qbr_in ls) qbr_tr⟩
theorem qbr_post : ModeOk kk env0 60 qbr_md :=
  fn_of (fn := Tryz.f60) qbr_enc qbr_dec (kitOk_of eqOk mixed known26) (by kernel_rfl) (L := jnL) (loopsOk_of (bs := []) (by kernel_rfl) trivial) (fun _ => rfl) (by intro i qs r h; unfold qbr_enc at h; split at h <;> cases h <;> rfl)
    (by intro ls r h; unfold qbr_in at h; split at h; rw [qbr, sealF_eq] at h; exact Eq.trans (by kernel_rfl) h; cases h)
def ms27 : List (FuncId × Mode U) := (60, qbr_md) :: ms26
theorem known27 : Known kk env0 (modesOf ms27) := known_cons (by kernel_rfl) qbr_post known26
def qbf_sh : StSh := ⟨⟨[0, 1, 2], [100000], []⟩, [.t (.st 43), .t (.int .i64), .ptr 100000 0], [.blk 4 [.t .bool]]⟩
def qbf_os : List StSh := [⟨⟨[], [100000], []⟩, [], [.blk 4 [.t .bool]]⟩]
def qbf_tr : Bool → Tr (Nat × List (TV U)) := fun x => .ret (0, [⟨.bool, x⟩])
def qbf_enc : Nat → List (TV U) → Option (Bool)
  | 0, [⟨.bool, a0⟩] => some a0
  | _, _ => none
def qbf_dec : Bool → Nat × List (TV U) := fun x => (0, [⟨.bool, x⟩])
def qbf_in : List (TV U) → Option (Bool)
  | [⟨(.st 43), a0⟩, ⟨(.int .i64), a1⟩, ⟨.bool, a2⟩] => qbf a0 a1 a2
  | _ => none
def qbf_md : Mode U := ⟨qbf_sh, [⟨100000, .slot 2, []⟩], qbf_os, fun ls => .get (qbf_in ls) qbf_tr⟩
theorem qbf_post : ModeOk kk env0 59 qbf_md :=
  fn_of (fn := Tryz.f59) qbf_enc qbf_dec (kitOk_of eqOk mixed known27) (by kernel_rfl) (L := jnL) (loopsOk_of (bs := []) (by kernel_rfl) trivial) (fun _ => rfl) (by intro i qs r h; unfold qbf_enc at h; split at h <;> cases h <;> rfl)
    (by intro ls r h; unfold qbf_in at h; split at h; rw [qbf, sealF_eq] at h; exact Eq.trans (by kernel_rfl) h; cases h)
def ms28 : List (FuncId × Mode U) := (59, qbf_md) :: ms27
theorem known28 : Known kk env0 (modesOf ms28) := known_cons (by kernel_rfl) qbf_post known27
def qbd_sh : StSh := ⟨⟨[0], [], []⟩, [.t (.st 41)], []⟩
def qbd_os : List StSh := [⟨⟨[0], [], []⟩, [.t .bool], []⟩]
def qbd_tr : Bool → Tr (Nat × List (TV U)) := fun x => .ret (0, [⟨.bool, x⟩])
def qbd_enc : Nat → List (TV U) → Option (Bool)
  | 0, [⟨.bool, a0⟩] => some a0
  | _, _ => none
def qbd_dec : Bool → Nat × List (TV U) := fun x => (0, [⟨.bool, x⟩])
def qbd_in : List (TV U) → Option (Bool)
  | [⟨(.st 41), a0⟩] => qbd a0
  | _ => none
def qbd_md : Mode U := ⟨qbd_sh, [], qbd_os, fun ls => .get (qbd_in ls) qbd_tr⟩
theorem qbd_post : ModeOk kk env0 62 qbd_md :=
  fn_of (fn := Tryz.f62) qbd_enc qbd_dec (kitOk_of eqOk mixed known28) (by kernel_rfl) (L := jnL) (loopsOk_of (bs := []) (by kernel_rfl) trivial) (fun _ => rfl) (by intro i qs r h; unfold qbd_enc at h; split at h <;> cases h <;> rfl)
    (by intro ls r h; unfold qbd_in at h; split at h; rw [qbd, sealF_eq] at h; exact Eq.trans (by kernel_rfl) h; cases h)
def ms29 : List (FuncId × Mode U) := (62, qbd_md) :: ms28
theorem known29 : Known kk env0 (modesOf ms29) := known_cons (by kernel_rfl) qbd_post known28
def qbg_sh : StSh := ⟨⟨[0, 1, 2], [100000], []⟩, [.t (.st 41), .t (.int .i64), .ptr 100000 0], [.blk 4 [.t .bool]]⟩
def qbg_os : List StSh := [⟨⟨[], [100000], []⟩, [], [.blk 4 [.t .bool]]⟩]
def qbg_tr : Bool → Tr (Nat × List (TV U)) := fun x => .ret (0, [⟨.bool, x⟩])
def qbg_enc : Nat → List (TV U) → Option (Bool)
  | 0, [⟨.bool, a0⟩] => some a0
  | _, _ => none
def qbg_dec : Bool → Nat × List (TV U) := fun x => (0, [⟨.bool, x⟩])
def qbg_in : List (TV U) → Option (Bool)
  | [⟨(.st 41), a0⟩, ⟨(.int .i64), a1⟩, ⟨.bool, a2⟩] => qbg a0 a1 a2
  | _ => none
def qbg_md : Mode U := ⟨qbg_sh, [⟨100000, .slot 2, []⟩], qbg_os, fun ls => .get (qbg_in ls) qbg_tr⟩
theorem qbg_post : ModeOk kk env0 61 qbg_md :=
  fn_of (fn := Tryz.f61) qbg_enc qbg_dec (kitOk_of eqOk mixed known29) (by kernel_rfl) (L := jnL) (loopsOk_of (bs := []) (by kernel_rfl) trivial) (fun _ => rfl) (by intro i qs r h; unfold qbg_enc at h; split at h <;> cases h <;> rfl)
    (by intro ls r h; unfold qbg_in at h; split at h; rw [qbg, sealF_eq] at h; exact Eq.trans (by kernel_rfl) h; cases h)
def ms30 : List (FuncId × Mode U) := (61, qbg_md) :: ms29
theorem known30 : Known kk env0 (modesOf ms30) := known_cons (by kernel_rfl) qbg_post known29
def qaa_sh : StSh := ⟨⟨[0, 1, 2], [100000], []⟩, [.agg [.clo 59 [.ptr 100000 0], .clo 61 [.ptr 100000 0]], .t (.st 41), .t (.int .i64)], [.blk 4 [.t .bool]]⟩
def qaa_os : List StSh := [⟨⟨[], [100000], []⟩, [], [.blk 4 [.t .bool]]⟩]
def qaa_tr : Bool → Tr (Nat × List (TV U)) := fun x => .ret (0, [⟨.bool, x⟩])
def qaa_in (rec_qaa : TExpr → Int → Bool → Option (Bool)) : List (TV U) → Option (Bool)
  | [⟨(.st 41), a0⟩, ⟨(.int .i64), a1⟩, ⟨.bool, a2⟩] => rec_qaa a0 a1 a2
  | _ => none
def qaa_rmd (rec_qaa : TExpr → Int → Bool → Option (Bool)) : Mode U := ⟨qaa_sh, [⟨100000, .slot 0, [0, 0]⟩], qaa_os, fun ls => .get (qaa_in rec_qaa ls) qaa_tr⟩
def ms31 (rec_qaa : TExpr → Int → Bool → Option (Bool)) : List (FuncId × Mode U) := (81, (qaa_rmd rec_qaa)) :: ms30
theorem known31 (rec_qaa : TExpr → Int → Bool → Option (Bool)) (hrec_qaa : ModeOk kk env0 81 (qaa_rmd rec_qaa)) : Known kk env0 (modesOf (ms31 rec_qaa)) := known_cons (by kernel_rfl) hrec_qaa known30
def qaa_sh3 : StSh := ⟨⟨[2, 3, 14, 15, 16], [100000, 3], []⟩, [.t (.int .i64), .ptr 3 0, .t (.slc (.st 41)), .t (.int .i64), .t (.int .i64)], [.blk 4 [.t .bool], .blk 52 [.clo 59 [.ptr 100000 0], .clo 61 [.ptr 100000 0]]]⟩
def qaa_o3 : List Out := [⟨.exit 0, ⟨⟨[], [100000], []⟩, [], [.blk 4 [.t .bool]]⟩⟩]
def qaa_b3 : Code := (nthLoop (bodyOf Tryz.f81) 0)
def qaa_rec3 (rec : Int → List (TExpr) → Int → Int → Bool → Option (Bool)) : List (TV U) → Option (Bool)
  | [⟨(.int .i64), a0⟩, ⟨(.slc (.st 41)), a1⟩, ⟨(.int .i64), a2⟩, ⟨(.int .i64), a3⟩, ⟨.bool, a4⟩] => rec a0 a1 a2 a3 a4
  | _ => none
def qaa_enc3 : Nat → List (TV U) → Option (Bool)
  | 0, [⟨.bool, a0⟩] => some a0
  | _, _ => none
def qaa_dec3 : Bool → Nat × List (TV U) := fun x => (0, [⟨.bool, x⟩])
def qaa_tr3 : Bool → Tr (Nat × List (TV U)) := fun x => .ret (0, [⟨.bool, x⟩])
def qaa_lp3 (rec_qaa : TExpr → Int → Bool → Option (Bool)) : Lift.Loop U := ⟨qaa_sh3, qaa_o3, fun ls => .get (qaa_rec3 (qaa_l3 rec_qaa) ls) qaa_tr3⟩
theorem qaa_ok3 (rec_qaa : TExpr → Int → Bool → Option (Bool)) (hrec_qaa : ModeOk kk env0 81 (qaa_rmd rec_qaa)) : LoopR kk env0 Tryz.f81.ntmps qaa_b3 (qaa_lp3 rec_qaa) :=
  loop_of qaa_enc3 qaa_dec3 (fun n => qaa_rec3 (qaa_i3 rec_qaa n)) (kitOk_of eqOk mixed (known31 rec_qaa hrec_qaa)) (L := jnL) (loopsOk_of (bs := []) (by kernel_rfl) trivial) (fun _ => rfl) (by intro i qs r h; unfold qaa_enc3 at h; split at h <;> cases h <;> rfl)
    (by intro ls r h; unfold qaa_rec3 at h; split at h <;> cases h)
    (by intro n ls r h; unfold qaa_rec3 at h; split at h; exact (show _ = qaa_t3 rec_qaa (qaa_i3 rec_qaa n) _ _ _ _ _ from by kernel_rfl).trans h; cases h) (by rw [qaa_l3, sealF_eq])
def qaa_L (rec_qaa : TExpr → Int → Bool → Option (Bool)) : Nat → Option (Lift.Loop U) := fun n => bif Nat.beq n joinKey then some joinMark else bif Nat.beq n 3 then some (qaa_lp3 rec_qaa) else none
def qaa_enc : Nat → List (TV U) → Option (Bool)
  | 0, [⟨.bool, a0⟩] => some a0
  | _, _ => none
def qaa_dec : Bool → Nat × List (TV U) := fun x => (0, [⟨.bool, x⟩])
def qaa_md : Mode U := qaa_rmd qaa
theorem qaa_step (rec_qaa : TExpr → Int → Bool → Option (Bool)) (hrec_qaa : ModeOk kk env0 81 (qaa_rmd rec_qaa)) : LoopsOk (Kit.withModes kk (modesOf (ms31 rec_qaa))) env0 Tryz.f81.ntmps (qaa_L rec_qaa) (bodyOf Tryz.f81) := loopsOk_of (bs := [qaa_b3]) (by kernel_rfl) ⟨.inr ⟨_, by kernel_rfl, LoopOk.of_round (qaa_ok3 rec_qaa hrec_qaa)⟩, trivial⟩
theorem qaa_post : ModeOk kk env0 81 (qaa_rmd qaa) :=
  rec_of (K := kk) (F := qaa) qaa_rmd qaa_i (by rw [qaa, sealF_eq]) (rec_zero (by intro ls r h; unfold qaa_in at h; split at h <;> cases h)) (fun n ih => fn_of (fn := Tryz.f81) qaa_enc qaa_dec (kitOk_of eqOk mixed (known31 (qaa_i n) ih)) (by kernel_rfl) (qaa_step (qaa_i n) ih) (fun _ => rfl) (by intro i qs r h; unfold qaa_enc at h; split at h <;> cases h <;> rfl)
    (by intro ls r h; unfold qaa_in at h; split at h; exact (show _ = qaa_f (qaa_i n) _ _ _ from by kernel_rfl).trans h; cases h))
def ms32 : List (FuncId × Mode U) := (81, qaa_md) :: ms30
theorem known32 : Known kk env0 (modesOf ms32) := known_cons (by kernel_rfl) qaa_post known30
def qai_sh : StSh := ⟨⟨[0, 1, 2], [100000], []⟩, [.agg [.clo 59 [.ptr 100000 0], .clo 61 [.ptr 100000 0]], .t (.slc (.st 43)), .t (.int .i64)], [.blk 4 [.t .bool]]⟩
def qai_os : List StSh := [⟨⟨[], [100000], []⟩, [], [.blk 4 [.t .bool]]⟩]
def qai_tr : Bool → Tr (Nat × List (TV U)) := fun x => .ret (0, [⟨.bool, x⟩])
def qai_in (rec_qai : List (TStmt) → Int → Bool → Option (Bool)) : List (TV U) → Option (Bool)
  | [⟨(.slc (.st 43)), a0⟩, ⟨(.int .i64), a1⟩, ⟨.bool, a2⟩] => rec_qai a0 a1 a2
  | _ => none
def qai_rmd (rec_qai : List (TStmt) → Int → Bool → Option (Bool)) : Mode U := ⟨qai_sh, [⟨100000, .slot 0, [0, 0]⟩], qai_os, fun ls => .get (qai_in rec_qai ls) qai_tr⟩
def ms33 (rec_qai : List (TStmt) → Int → Bool → Option (Bool)) : List (FuncId × Mode U) := (64, (qai_rmd rec_qai)) :: ms32
theorem known33 (rec_qai : List (TStmt) → Int → Bool → Option (Bool)) (hrec_qai : ModeOk kk env0 64 (qai_rmd rec_qai)) : Known kk env0 (modesOf (ms33 rec_qai)) := known_cons (by kernel_rfl) hrec_qai known32
def qai_sh2 : StSh := ⟨⟨[2, 3, 8, 9, 10], [100000, 3], []⟩, [.t (.int .i64), .ptr 3 0, .t (.slc (.st 43)), .t (.int .i64), .t (.int .i64)], [.blk 4 [.t .bool], .blk 52 [.clo 59 [.ptr 100000 0], .clo 61 [.ptr 100000 0]]]⟩
def qai_o2 : List Out := [⟨.exit 0, ⟨⟨[], [100000], []⟩, [], [.blk 4 [.t .bool]]⟩⟩]
def qai_b2 : Code := (nthLoop (bodyOf Tryz.f64) 0)
def qai_rec2 (rec : Int → List (TStmt) → Int → Int → Bool → Option (Bool)) : List (TV U) → Option (Bool)
  | [⟨(.int .i64), a0⟩, ⟨(.slc (.st 43)), a1⟩, ⟨(.int .i64), a2⟩, ⟨(.int .i64), a3⟩, ⟨.bool, a4⟩] => rec a0 a1 a2 a3 a4
  | _ => none
def qai_enc2 : Nat → List (TV U) → Option (Bool)
  | 0, [⟨.bool, a0⟩] => some a0
  | _, _ => none
def qai_dec2 : Bool → Nat × List (TV U) := fun x => (0, [⟨.bool, x⟩])
def qai_tr2 : Bool → Tr (Nat × List (TV U)) := fun x => .ret (0, [⟨.bool, x⟩])
def qai_lp2 (rec_qai : List (TStmt) → Int → Bool → Option (Bool)) : Lift.Loop U := ⟨qai_sh2, qai_o2, fun ls => .get (qai_rec2 (qai_l2 rec_qai) ls) qai_tr2⟩
theorem qai_ok2 (rec_qai : List (TStmt) → Int → Bool → Option (Bool)) (hrec_qai : ModeOk kk env0 64 (qai_rmd rec_qai)) : LoopR kk env0 Tryz.f64.ntmps qai_b2 (qai_lp2 rec_qai) :=
  loop_of qai_enc2 qai_dec2 (fun n => qai_rec2 (qai_i2 rec_qai n)) (kitOk_of eqOk mixed (known33 rec_qai hrec_qai)) (L := jnL) (loopsOk_of (bs := []) (by kernel_rfl) trivial) (fun _ => rfl) (by intro i qs r h; unfold qai_enc2 at h; split at h <;> cases h <;> rfl)
    (by intro ls r h; unfold qai_rec2 at h; split at h <;> cases h)
    (by intro n ls r h; unfold qai_rec2 at h; split at h; exact (show _ = qai_t2 rec_qai (qai_i2 rec_qai n) _ _ _ _ _ from by kernel_rfl).trans h; cases h) (by rw [qai_l2, sealF_eq])
def qai_L (rec_qai : List (TStmt) → Int → Bool → Option (Bool)) : Nat → Option (Lift.Loop U) := fun n => bif Nat.beq n joinKey then some joinMark else bif Nat.beq n 2 then some (qai_lp2 rec_qai) else none
def qai_enc : Nat → List (TV U) → Option (Bool)
  | 0, [⟨.bool, a0⟩] => some a0
  | _, _ => none
def qai_dec : Bool → Nat × List (TV U) := fun x => (0, [⟨.bool, x⟩])
def qai_md : Mode U := qai_rmd qai
theorem qai_step (rec_qai : List (TStmt) → Int → Bool → Option (Bool)) (hrec_qai : ModeOk kk env0 64 (qai_rmd rec_qai)) : LoopsOk (Kit.withModes kk (modesOf (ms33 rec_qai))) env0 Tryz.f64.ntmps (qai_L rec_qai) (bodyOf Tryz.f64) := loopsOk_of (bs := [qai_b2]) (by kernel_rfl) ⟨.inr ⟨_, by kernel_rfl, LoopOk.of_round (qai_ok2 rec_qai hrec_qai)⟩, trivial⟩
theorem qai_post : ModeOk kk env0 64 (qai_rmd qai) :=
  rec_of (K := kk) (F := qai) qai_rmd qai_i (by rw [qai, sealF_eq]) (rec_zero (by intro ls r h; unfold qai_in at h; split at h <;> cases h)) (fun n ih => fn_of (fn := Tryz.f64) qai_enc qai_dec (kitOk_of eqOk mixed (known33 (qai_i n) ih)) (by kernel_rfl) (qai_step (qai_i n) ih) (fun _ => rfl) (by intro i qs r h; unfold qai_enc at h; split at h <;> cases h <;> rfl)
    (by intro ls r h; unfold qai_in at h; split at h; exact (show _ = qai_f (qai_i n) _ _ _ from by kernel_rfl).trans h; cases h))
def ms34 : List (FuncId × Mode U) := (64, qai_md) :: ms32
theorem known34 : Known kk env0 (modesOf ms34) := known_cons (by kernel_rfl) qai_post known32
def qae_sh2 : StSh := ⟨⟨[2, 7, 8, 9], [100000, 2], []⟩, [.ptr 2 0, .t (.slc (.st 38)), .t (.int .i64), .t (.int .i64)], [.blk 4 [.t .bool], .blk 52 [.clo 59 [.ptr 100000 0], .clo 61 [.ptr 100000 0]]]⟩
def qae_o2 : List Out := [⟨.exit 0, ⟨⟨[], [100000], []⟩, [], [.blk 4 [.t .bool]]⟩⟩]
def qae_b2 : Code := (nthLoop (bodyOf Tryz.f29) 0)
def qae_rec2 (rec : List (TThread) → Int → Int → Bool → Option (Bool)) : List (TV U) → Option (Bool)
  | [⟨(.slc (.st 38)), a0⟩, ⟨(.int .i64), a1⟩, ⟨(.int .i64), a2⟩, ⟨.bool, a3⟩] => rec a0 a1 a2 a3
  | _ => none
def qae_enc2 : Nat → List (TV U) → Option (Bool)
  | 0, [⟨.bool, a0⟩] => some a0
  | _, _ => none
def qae_dec2 : Bool → Nat × List (TV U) := fun x => (0, [⟨.bool, x⟩])
def qae_tr2 : Bool → Tr (Nat × List (TV U)) := fun x => .ret (0, [⟨.bool, x⟩])
def qae_lp2 : Lift.Loop U := ⟨qae_sh2, qae_o2, fun ls => .get (qae_rec2 qae_l2 ls) qae_tr2⟩
theorem qae_ok2 : LoopR kk env0 Tryz.f29.ntmps qae_b2 qae_lp2 :=
  loop_of qae_enc2 qae_dec2 (fun n => qae_rec2 (qae_i2 n)) (kitOk_of eqOk mixed known34) (L := jnL) (loopsOk_of (bs := []) (by kernel_rfl) trivial) (fun _ => rfl) (by intro i qs r h; unfold qae_enc2 at h; split at h <;> cases h <;> rfl)
    (by intro ls r h; unfold qae_rec2 at h; split at h <;> cases h)
    (by intro n ls r h; unfold qae_rec2 at h; split at h; exact (show _ = qae_t2 (qae_i2 n) _ _ _ _ from by kernel_rfl).trans h; cases h) (by rw [qae_l2, sealF_eq])
def qae_sh : StSh := ⟨⟨[0, 1], [100000], []⟩, [.agg [.clo 59 [.ptr 100000 0], .clo 61 [.ptr 100000 0]], .t (.st 26)], [.blk 4 [.t .bool]]⟩
def qae_os : List StSh := [⟨⟨[], [100000], []⟩, [], [.blk 4 [.t .bool]]⟩]
def qae_tr : Bool → Tr (Nat × List (TV U)) := fun x => .ret (0, [⟨.bool, x⟩])
def qae_L : Nat → Option (Lift.Loop U) := fun n => bif Nat.beq n joinKey then some joinMark else bif Nat.beq n 2 then some qae_lp2 else none
def qae_enc : Nat → List (TV U) → Option (Bool)
  | 0, [⟨.bool, a0⟩] => some a0
  | _, _ => none
def qae_dec : Bool → Nat × List (TV U) := fun x => (0, [⟨.bool, x⟩])
def qae_in : List (TV U) → Option (Bool)
  | [⟨(.st 26), a0⟩, ⟨.bool, a1⟩] => qae a0 a1
  | _ => none
def qae_md : Mode U := ⟨qae_sh, [⟨100000, .slot 0, [0, 0]⟩], qae_os, fun ls => .get (qae_in ls) qae_tr⟩
theorem qae_post : ModeOk kk env0 29 qae_md :=
  fn_of (fn := Tryz.f29) qae_enc qae_dec (kitOk_of eqOk mixed known34) (by kernel_rfl) (L := qae_L) (loopsOk_of (bs := [qae_b2]) (by kernel_rfl) ⟨.inr ⟨_, by kernel_rfl, LoopOk.of_round (qae_ok2)⟩, trivial⟩) (fun _ => rfl) (by intro i qs r h; unfold qae_enc at h; split at h <;> cases h <;> rfl)
    (by intro ls r h; unfold qae_in at h; split at h; rw [qae, sealF_eq] at h; exact Eq.trans (by kernel_rfl) h; cases h)
def ms35 : List (FuncId × Mode U) := (29, qae_md) :: ms34
theorem known35 : Known kk env0 (modesOf ms35) := known_cons (by kernel_rfl) qae_post known34
def qbe_sh3 : StSh := ⟨⟨[1, 3, 11, 12, 13], [1, 3], []⟩, [.ptr 1 0, .ptr 3 0, .t (.slc (.st 46)), .t (.int .i64), .t (.int .i64)], [.blk 26 [.t (.slc (.st 46)), .t (.slc .str), .t (.slc (.st 38))], .blk 4 [.t .bool]]⟩
def qbe_o3 : List Out := [⟨.exit 0, ⟨⟨[1, 3], [1, 3], []⟩, [.ptr 1 0, .ptr 3 0], [.blk 26 [.t (.slc (.st 46)), .t (.slc .str), .t (.slc (.st 38))], .blk 4 [.t .bool]]⟩⟩]
def qbe_b3 : Code := (nthLoop (bodyOf Tryz.f25) 0)
def qbe_rec3 (rec : List (TCell) → Int → Int → List (TCell) → List (List UInt8) → List (TThread) → Bool → Option ((List (TCell)) × (List (List UInt8)) × (List (TThread)) × Bool)) : List (TV U) → Option ((List (TCell)) × (List (List UInt8)) × (List (TThread)) × Bool)
  | [⟨(.slc (.st 46)), a0⟩, ⟨(.int .i64), a1⟩, ⟨(.int .i64), a2⟩, ⟨(.slc (.st 46)), a3⟩, ⟨(.slc .str), a4⟩, ⟨(.slc (.st 38)), a5⟩, ⟨.bool, a6⟩] => rec a0 a1 a2 a3 a4 a5 a6
  | _ => none
def qbe_enc3 : Nat → List (TV U) → Option ((List (TCell)) × (List (List UInt8)) × (List (TThread)) × Bool)
  | 0, [⟨(.slc (.st 46)), a0⟩, ⟨(.slc .str), a1⟩, ⟨(.slc (.st 38)), a2⟩, ⟨.bool, a3⟩] => some (a0, a1, a2, a3)
  | _, _ => none
def qbe_dec3 : (List (TCell)) × (List (List UInt8)) × (List (TThread)) × Bool → Nat × List (TV U) := fun x => (0, [⟨(.slc (.st 46)), x.1⟩, ⟨(.slc .str), x.2.1⟩, ⟨(.slc (.st 38)), x.2.2.1⟩, ⟨.bool, x.2.2.2⟩])
def qbe_tr3 : (List (TCell)) × (List (List UInt8)) × (List (TThread)) × Bool → Tr (Nat × List (TV U)) := fun x => .ret (0, [⟨(.slc (.st 46)), x.1⟩, ⟨(.slc .str), x.2.1⟩, ⟨(.slc (.st 38)), x.2.2.1⟩, ⟨.bool, x.2.2.2⟩])
def qbe_lp3 : Lift.Loop U := ⟨qbe_sh3, qbe_o3, fun ls => .get (qbe_rec3 qbe_l3 ls) qbe_tr3⟩
theorem qbe_ok3 : LoopR kk env0 Tryz.f25.ntmps qbe_b3 qbe_lp3 :=
  loop_of qbe_enc3 qbe_dec3 (fun n => qbe_rec3 (qbe_i3 n)) (kitOk_of eqOk mixed known35) (L := jnL) (loopsOk_of (bs := []) (by kernel_rfl) trivial) (fun _ => rfl) (by intro i qs r h; unfold qbe_enc3 at h; split at h <;> cases h <;> rfl)
    (by intro ls r h; unfold qbe_rec3 at h; split at h <;> cases h)
    (by intro n ls r h; unfold qbe_rec3 at h; split at h; exact (show _ = qbe_t3 (qbe_i3 n) _ _ _ _ _ _ _ from by kernel_rfl).trans h; cases h) (by rw [qbe_l3, sealF_eq])
def qbe_sh8 : StSh := ⟨⟨[1, 3, 35, 36, 37], [1, 3], []⟩, [.ptr 1 0, .ptr 3 0, .t (.slc .str), .t (.int .i64), .t (.int .i64)], [.blk 26 [.t (.slc (.st 46)), .t (.slc .str), .t (.slc (.st 38))], .blk 4 [.t .bool]]⟩
def qbe_o8 : List Out := [⟨.exit 2, ⟨⟨[1, 3], [1, 3], []⟩, [.ptr 1 0, .ptr 3 0], [.blk 26 [.t (.slc (.st 46)), .t (.slc .str), .t (.slc (.st 38))], .blk 4 [.t .bool]]⟩⟩]
def qbe_b8 : Code := (nthLoop (bodyOf Tryz.f25) 1)
def qbe_rec8 (rec : List (List UInt8) → Int → Int → List (TCell) → List (List UInt8) → List (TThread) → Bool → Option ((List (TCell)) × (List (List UInt8)) × (List (TThread)) × Bool)) : List (TV U) → Option ((List (TCell)) × (List (List UInt8)) × (List (TThread)) × Bool)
  | [⟨(.slc .str), a0⟩, ⟨(.int .i64), a1⟩, ⟨(.int .i64), a2⟩, ⟨(.slc (.st 46)), a3⟩, ⟨(.slc .str), a4⟩, ⟨(.slc (.st 38)), a5⟩, ⟨.bool, a6⟩] => rec a0 a1 a2 a3 a4 a5 a6
  | _ => none
def qbe_enc8 : Nat → List (TV U) → Option ((List (TCell)) × (List (List UInt8)) × (List (TThread)) × Bool)
  | 0, [⟨(.slc (.st 46)), a0⟩, ⟨(.slc .str), a1⟩, ⟨(.slc (.st 38)), a2⟩, ⟨.bool, a3⟩] => some (a0, a1, a2, a3)
  | _, _ => none
def qbe_dec8 : (List (TCell)) × (List (List UInt8)) × (List (TThread)) × Bool → Nat × List (TV U) := fun x => (0, [⟨(.slc (.st 46)), x.1⟩, ⟨(.slc .str), x.2.1⟩, ⟨(.slc (.st 38)), x.2.2.1⟩, ⟨.bool, x.2.2.2⟩])
def qbe_tr8 : (List (TCell)) × (List (List UInt8)) × (List (TThread)) × Bool → Tr (Nat × List (TV U)) := fun x => .ret (0, [⟨(.slc (.st 46)), x.1⟩, ⟨(.slc .str), x.2.1⟩, ⟨(.slc (.st 38)), x.2.2.1⟩, ⟨.bool, x.2.2.2⟩])
def qbe_lp8 : Lift.Loop U := ⟨qbe_sh8, qbe_o8, fun ls => .get (qbe_rec8 qbe_l8 ls) qbe_tr8⟩
theorem qbe_ok8 : LoopR kk env0 Tryz.f25.ntmps qbe_b8 qbe_lp8 :=
  loop_of qbe_enc8 qbe_dec8 (fun n => qbe_rec8 (qbe_i8 n)) (kitOk_of eqOk mixed known35) (L := jnL) (loopsOk_of (bs := []) (by kernel_rfl) trivial) (fun _ => rfl) (by intro i qs r h; unfold qbe_enc8 at h; split at h <;> cases h <;> rfl)
    (by intro ls r h; unfold qbe_rec8 at h; split at h <;> cases h)
    (by intro n ls r h; unfold qbe_rec8 at h; split at h; exact (show _ = qbe_t8 (qbe_i8 n) _ _ _ _ _ _ _ from by kernel_rfl).trans h; cases h) (by rw [qbe_l8, sealF_eq])
def qbe_sh13 : StSh := ⟨⟨[1, 3, 48, 49, 50], [1, 3], []⟩, [.ptr 1 0, .ptr 3 0, .t (.slc (.st 38)), .t (.int .i64), .t (.int .i64)], [.blk 26 [.t (.slc (.st 46)), .t (.slc .str), .t (.slc (.st 38))], .blk 4 [.t .bool]]⟩
def qbe_o13 : List Out := [⟨.exit 4, ⟨⟨[1, 3], [1, 3], []⟩, [.ptr 1 0, .ptr 3 0], [.blk 26 [.t (.slc (.st 46)), .t (.slc .str), .t (.slc (.st 38))], .blk 4 [.t .bool]]⟩⟩]
def qbe_b13 : Code := (nthLoop (bodyOf Tryz.f25) 2)
def qbe_rec13 (rec : List (TThread) → Int → Int → List (TCell) → List (List UInt8) → List (TThread) → Bool → Option ((List (TCell)) × (List (List UInt8)) × (List (TThread)) × Bool)) : List (TV U) → Option ((List (TCell)) × (List (List UInt8)) × (List (TThread)) × Bool)
  | [⟨(.slc (.st 38)), a0⟩, ⟨(.int .i64), a1⟩, ⟨(.int .i64), a2⟩, ⟨(.slc (.st 46)), a3⟩, ⟨(.slc .str), a4⟩, ⟨(.slc (.st 38)), a5⟩, ⟨.bool, a6⟩] => rec a0 a1 a2 a3 a4 a5 a6
  | _ => none
def qbe_enc13 : Nat → List (TV U) → Option ((List (TCell)) × (List (List UInt8)) × (List (TThread)) × Bool)
  | 0, [⟨(.slc (.st 46)), a0⟩, ⟨(.slc .str), a1⟩, ⟨(.slc (.st 38)), a2⟩, ⟨.bool, a3⟩] => some (a0, a1, a2, a3)
  | _, _ => none
def qbe_dec13 : (List (TCell)) × (List (List UInt8)) × (List (TThread)) × Bool → Nat × List (TV U) := fun x => (0, [⟨(.slc (.st 46)), x.1⟩, ⟨(.slc .str), x.2.1⟩, ⟨(.slc (.st 38)), x.2.2.1⟩, ⟨.bool, x.2.2.2⟩])
def qbe_tr13 : (List (TCell)) × (List (List UInt8)) × (List (TThread)) × Bool → Tr (Nat × List (TV U)) := fun x => .ret (0, [⟨(.slc (.st 46)), x.1⟩, ⟨(.slc .str), x.2.1⟩, ⟨(.slc (.st 38)), x.2.2.1⟩, ⟨.bool, x.2.2.2⟩])
def qbe_lp13 : Lift.Loop U := ⟨qbe_sh13, qbe_o13, fun ls => .get (qbe_rec13 qbe_l13 ls) qbe_tr13⟩
theorem qbe_ok13 : LoopR kk env0 Tryz.f25.ntmps qbe_b13 qbe_lp13 :=
  loop_of qbe_enc13 qbe_dec13 (fun n => qbe_rec13 (qbe_i13 n)) (kitOk_of eqOk mixed known35) (L := jnL) (loopsOk_of (bs := []) (by kernel_rfl) trivial) (fun _ => rfl) (by intro i qs r h; unfold qbe_enc13 at h; split at h <;> cases h <;> rfl)
    (by intro ls r h; unfold qbe_rec13 at h; split at h <;> cases h)
    (by intro n ls r h; unfold qbe_rec13 at h; split at h; exact (show _ = qbe_t13 (qbe_i13 n) _ _ _ _ _ _ _ from by kernel_rfl).trans h; cases h) (by rw [qbe_l13, sealF_eq])
def qbe_sh : StSh := ⟨⟨[0], [], []⟩, [.t (.st 26)], []⟩
def qbe_os : List StSh := [⟨⟨[0], [], []⟩, [.t .bool], []⟩]
def qbe_tr : Bool → Tr (Nat × List (TV U)) := fun x => .ret (0, [⟨.bool, x⟩])
def qbe_L : Nat → Option (Lift.Loop U) := fun n => bif Nat.beq n joinKey then some joinMark else bif Nat.beq n 3 then some qbe_lp3 else bif Nat.beq n 8 then some qbe_lp8 else bif Nat.beq n 13 then some qbe_lp13 else none
def qbe_enc : Nat → List (TV U) → Option (Bool)
  | 0, [⟨.bool, a0⟩] => some a0
  | _, _ => none
def qbe_dec : Bool → Nat × List (TV U) := fun x => (0, [⟨.bool, x⟩])
def qbe_in : List (TV U) → Option (Bool)
  | [⟨(.st 26), a0⟩] => qbe a0
  | _ => none
def qbe_md : Mode U := ⟨qbe_sh, [], qbe_os, fun ls => .get (qbe_in ls) qbe_tr⟩
theorem qbe_post : ModeOk kk env0 25 qbe_md :=
  fn_of (fn := Tryz.f25) qbe_enc qbe_dec (kitOk_of eqOk mixed known35) (by kernel_rfl) (L := qbe_L) (loopsOk_of (bs := [qbe_b3, qbe_b8, qbe_b13]) (by kernel_rfl) ⟨.inr ⟨_, by kernel_rfl, LoopOk.of_round (qbe_ok3)⟩, .inr ⟨_, by kernel_rfl, LoopOk.of_round (qbe_ok8)⟩, .inr ⟨_, by kernel_rfl, LoopOk.of_round (qbe_ok13)⟩, trivial⟩) (fun _ => rfl) (by intro i qs r h; unfold qbe_enc at h; split at h <;> cases h <;> rfl)
    (by intro ls r h; unfold qbe_in at h; split at h; rw [qbe, sealF_eq] at h; exact Eq.trans (by kernel_rfl) h; cases h)
def ms36 : List (FuncId × Mode U) := (25, qbe_md) :: ms35
theorem known36 : Known kk env0 (modesOf ms36) := known_cons (by kernel_rfl) qbe_post known35
def qa2_sh : StSh := ⟨⟨[0, 1, 2], [100000], []⟩, [.t (.st 43), .t (.int .i64), .ptr 100000 0], [.blk 3 [.t (.int .i64)]]⟩
def qa2_os : List StSh := [⟨⟨[], [100000], []⟩, [], [.blk 3 [.t (.int .i64)]]⟩]
def qa2_tr : Int → Tr (Nat × List (TV U)) := fun x => .ret (0, [⟨(.int .i64), x⟩])
def qa2_enc : Nat → List (TV U) → Option (Int)
  | 0, [⟨(.int .i64), a0⟩] => some a0
  | _, _ => none
def qa2_dec : Int → Nat × List (TV U) := fun x => (0, [⟨(.int .i64), x⟩])
def qa2_in : List (TV U) → Option (Int)
  | [⟨(.st 43), a0⟩, ⟨(.int .i64), a1⟩, ⟨(.int .i64), a2⟩] => qa2 a0 a1 a2
  | _ => none
def qa2_md : Mode U := ⟨qa2_sh, [⟨100000, .slot 2, []⟩], qa2_os, fun ls => .get (qa2_in ls) qa2_tr⟩
theorem qa2_post : ModeOk kk env0 30 qa2_md :=
  fn_of (fn := Tryz.f30) qa2_enc qa2_dec (kitOk_of eqOk mixed known36) (by kernel_rfl) (L := jnL) (loopsOk_of (bs := []) (by kernel_rfl) trivial) (fun _ => rfl) (by intro i qs r h; unfold qa2_enc at h; split at h <;> cases h <;> rfl)
    (by intro ls r h; unfold qa2_in at h; split at h; rw [qa2, sealF_eq] at h; exact Eq.trans (by kernel_rfl) h; cases h)
def ms37 : List (FuncId × Mode U) := (30, qa2_md) :: ms36
theorem known37 : Known kk env0 (modesOf ms37) := known_cons (by kernel_rfl) qa2_post known36
def qa3_sh : StSh := ⟨⟨[0, 1, 2], [100000], []⟩, [.t (.st 41), .t (.int .i64), .ptr 100000 0], [.blk 3 [.t (.int .i64)]]⟩
def qa3_os : List StSh := [⟨⟨[], [100000], []⟩, [], [.blk 3 [.t (.int .i64)]]⟩]
def qa3_tr : Int → Tr (Nat × List (TV U)) := fun x => .ret (0, [⟨(.int .i64), x⟩])
def qa3_enc : Nat → List (TV U) → Option (Int)
  | 0, [⟨(.int .i64), a0⟩] => some a0
  | _, _ => none
def qa3_dec : Int → Nat × List (TV U) := fun x => (0, [⟨(.int .i64), x⟩])
def qa3_in : List (TV U) → Option (Int)
  | [⟨(.st 41), a0⟩, ⟨(.int .i64), a1⟩, ⟨(.int .i64), a2⟩] => qa3 a0 a1 a2
  | _ => none
def qa3_md : Mode U := ⟨qa3_sh, [⟨100000, .slot 2, []⟩], qa3_os, fun ls => .get (qa3_in ls) qa3_tr⟩
theorem qa3_post : ModeOk kk env0 31 qa3_md :=
  fn_of (fn := Tryz.f31) qa3_enc qa3_dec (kitOk_of eqOk mixed known37) (by kernel_rfl) (L := jnL) (loopsOk_of (bs := []) (by kernel_rfl) trivial) (fun _ => rfl) (by intro i qs r h; unfold qa3_enc at h; split at h <;> cases h <;> rfl)
    (by intro ls r h; unfold qa3_in at h; split at h; rw [qa3, sealF_eq] at h; exact Eq.trans (by kernel_rfl) h; cases h)
def ms38 : List (FuncId × Mode U) := (31, qa3_md) :: ms37
theorem known38 : Known kk env0 (modesOf ms38) := known_cons (by kernel_rfl) qa3_post known37
def qab_sh : StSh := ⟨⟨[0, 1, 2], [100000], []⟩, [.agg [.clo 30 [.ptr 100000 0], .clo 31 [.ptr 100000 0]], .t (.st 41), .t (.int .i64)], [.blk 3 [.t (.int .i64)]]⟩
def qab_os : List StSh := [⟨⟨[], [100000], []⟩, [], [.blk 3 [.t (.int .i64)]]⟩]
def qab_tr : Int → Tr (Nat × List (TV U)) := fun x => .ret (0, [⟨(.int .i64), x⟩])
def qab_in (rec_qab : TExpr → Int → Int → Option (Int)) : List (TV U) → Option (Int)
  | [⟨(.st 41), a0⟩, ⟨(.int .i64), a1⟩, ⟨(.int .i64), a2⟩] => rec_qab a0 a1 a2
  | _ => none
def qab_rmd (rec_qab : TExpr → Int → Int → Option (Int)) : Mode U := ⟨qab_sh, [⟨100000, .slot 0, [0, 0]⟩], qab_os, fun ls => .get (qab_in rec_qab ls) qab_tr⟩
def ms39 (rec_qab : TExpr → Int → Int → Option (Int)) : List (FuncId × Mode U) := (81, (qab_rmd rec_qab)) :: ms38
theorem known39 (rec_qab : TExpr → Int → Int → Option (Int)) (hrec_qab : ModeOk kk env0 81 (qab_rmd rec_qab)) : Known kk env0 (modesOf (ms39 rec_qab)) := known_cons (by kernel_rfl) hrec_qab known38
def qab_sh3 : StSh := ⟨⟨[2, 3, 14, 15, 16], [100000, 3], []⟩, [.t (.int .i64), .ptr 3 0, .t (.slc (.st 41)), .t (.int .i64), .t (.int .i64)], [.blk 3 [.t (.int .i64)], .blk 52 [.clo 30 [.ptr 100000 0], .clo 31 [.ptr 100000 0]]]⟩
def qab_o3 : List Out := [⟨.exit 0, ⟨⟨[], [100000], []⟩, [], [.blk 3 [.t (.int .i64)]]⟩⟩]
def qab_b3 : Code := (nthLoop (bodyOf Tryz.f81) 0)
def qab_rec3 (rec : Int → List (TExpr) → Int → Int → Int → Option (Int)) : List (TV U) → Option (Int)
  | [⟨(.int .i64), a0⟩, ⟨(.slc (.st 41)), a1⟩, ⟨(.int .i64), a2⟩, ⟨(.int .i64), a3⟩, ⟨(.int .i64), a4⟩] => rec a0 a1 a2 a3 a4
  | _ => none
def qab_enc3 : Nat → List (TV U) → Option (Int)
  | 0, [⟨(.int .i64), a0⟩] => some a0
  | _, _ => none
def qab_dec3 : Int → Nat × List (TV U) := fun x => (0, [⟨(.int .i64), x⟩])
def qab_tr3 : Int → Tr (Nat × List (TV U)) := fun x => .ret (0, [⟨(.int .i64), x⟩])
def qab_lp3 (rec_qab : TExpr → Int → Int → Option (Int)) : Lift.Loop U := ⟨qab_sh3, qab_o3, fun ls => .get (qab_rec3 (qab_l3 rec_qab) ls) qab_tr3⟩
theorem qab_ok3 (rec_qab : TExpr → Int → Int → Option (Int)) (hrec_qab : ModeOk kk env0 81 (qab_rmd rec_qab)) : LoopR kk env0 Tryz.f81.ntmps qab_b3 (qab_lp3 rec_qab) :=
  loop_of qab_enc3 qab_dec3 (fun n => qab_rec3 (qab_i3 rec_qab n)) (kitOk_of eqOk mixed (known39 rec_qab hrec_qab)) (L := jnL) (loopsOk_of (bs := []) (by kernel_rfl) trivial) (fun _ => rfl) (by intro i qs r h; unfold qab_enc3 at h; split at h <;> cases h <;> rfl)
    (by intro ls r h; unfold qab_rec3 at h; split at h <;> cases h)
    (by intro n ls r h; unfold qab_rec3 at h; split at h; exact (show _ = qab_t3 rec_qab (qab_i3 rec_qab n) _ _ _ _ _ from by kernel_rfl).trans h; cases h) (by rw [qab_l3, sealF_eq])
def qab_L (rec_qab : TExpr → Int → Int → Option (Int)) : Nat → Option (Lift.Loop U) := fun n => bif Nat.beq n joinKey then some joinMark else bif Nat.beq n 3 then some (qab_lp3 rec_qab) else none
def qab_enc : Nat → List (TV U) → Option (Int)
  | 0, [⟨(.int .i64), a0⟩] => some a0
  | _, _ => none
def qab_dec : Int → Nat × List (TV U) := fun x => (0, [⟨(.int .i64), x⟩])
def qab_md : Mode U := qab_rmd qab
theorem qab_step (rec_qab : TExpr → Int → Int → Option (Int)) (hrec_qab : ModeOk kk env0 81 (qab_rmd rec_qab)) : LoopsOk (Kit.withModes kk (modesOf (ms39 rec_qab))) env0 Tryz.f81.ntmps (qab_L rec_qab) (bodyOf Tryz.f81) := loopsOk_of (bs := [qab_b3]) (by kernel_rfl) ⟨.inr ⟨_, by kernel_rfl, LoopOk.of_round (qab_ok3 rec_qab hrec_qab)⟩, trivial⟩
theorem qab_post : ModeOk kk env0 81 (qab_rmd qab) :=
  rec_of (K := kk) (F := qab) qab_rmd qab_i (by rw [qab, sealF_eq]) (rec_zero (by intro ls r h; unfold qab_in at h; split at h <;> cases h)) (fun n ih => fn_of (fn := Tryz.f81) qab_enc qab_dec (kitOk_of eqOk mixed (known39 (qab_i n) ih)) (by kernel_rfl) (qab_step (qab_i n) ih) (fun _ => rfl) (by intro i qs r h; unfold qab_enc at h; split at h <;> cases h <;> rfl)
    (by intro ls r h; unfold qab_in at h; split at h; exact (show _ = qab_f (qab_i n) _ _ _ from by kernel_rfl).trans h; cases h))
def ms40 : List (FuncId × Mode U) := (81, qab_md) :: ms38
theorem known40 : Known kk env0 (modesOf ms40) := known_cons (by kernel_rfl) qab_post known38
def qaj_sh : StSh := ⟨⟨[0, 1, 2], [100000], []⟩, [.agg [.clo 30 [.ptr 100000 0], .clo 31 [.ptr 100000 0]], .t (.slc (.st 43)), .t (.int .i64)], [.blk 3 [.t (.int .i64)]]⟩
def qaj_os : List StSh := [⟨⟨[], [100000], []⟩, [], [.blk 3 [.t (.int .i64)]]⟩]
def qaj_tr : Int → Tr (Nat × List (TV U)) := fun x => .ret (0, [⟨(.int .i64), x⟩])
def qaj_in (rec_qaj : List (TStmt) → Int → Int → Option (Int)) : List (TV U) → Option (Int)
  | [⟨(.slc (.st 43)), a0⟩, ⟨(.int .i64), a1⟩, ⟨(.int .i64), a2⟩] => rec_qaj a0 a1 a2
  | _ => none
def qaj_rmd (rec_qaj : List (TStmt) → Int → Int → Option (Int)) : Mode U := ⟨qaj_sh, [⟨100000, .slot 0, [0, 0]⟩], qaj_os, fun ls => .get (qaj_in rec_qaj ls) qaj_tr⟩
def ms41 (rec_qaj : List (TStmt) → Int → Int → Option (Int)) : List (FuncId × Mode U) := (64, (qaj_rmd rec_qaj)) :: ms40
theorem known41 (rec_qaj : List (TStmt) → Int → Int → Option (Int)) (hrec_qaj : ModeOk kk env0 64 (qaj_rmd rec_qaj)) : Known kk env0 (modesOf (ms41 rec_qaj)) := known_cons (by kernel_rfl) hrec_qaj known40
def qaj_sh2 : StSh := ⟨⟨[2, 3, 8, 9, 10], [100000, 3], []⟩, [.t (.int .i64), .ptr 3 0, .t (.slc (.st 43)), .t (.int .i64), .t (.int .i64)], [.blk 3 [.t (.int .i64)], .blk 52 [.clo 30 [.ptr 100000 0], .clo 31 [.ptr 100000 0]]]⟩
def qaj_o2 : List Out := [⟨.exit 0, ⟨⟨[], [100000], []⟩, [], [.blk 3 [.t (.int .i64)]]⟩⟩]
def qaj_b2 : Code := (nthLoop (bodyOf Tryz.f64) 0)
def qaj_rec2 (rec : Int → List (TStmt) → Int → Int → Int → Option (Int)) : List (TV U) → Option (Int)
  | [⟨(.int .i64), a0⟩, ⟨(.slc (.st 43)), a1⟩, ⟨(.int .i64), a2⟩, ⟨(.int .i64), a3⟩, ⟨(.int .i64), a4⟩] => rec a0 a1 a2 a3 a4
  | _ => none
def qaj_enc2 : Nat → List (TV U) → Option (Int)
  | 0, [⟨(.int .i64), a0⟩] => some a0
  | _, _ => none
def qaj_dec2 : Int → Nat × List (TV U) := fun x => (0, [⟨(.int .i64), x⟩])
def qaj_tr2 : Int → Tr (Nat × List (TV U)) := fun x => .ret (0, [⟨(.int .i64), x⟩])
def qaj_lp2 (rec_qaj : List (TStmt) → Int → Int → Option (Int)) : Lift.Loop U := ⟨qaj_sh2, qaj_o2, fun ls => .get (qaj_rec2 (qaj_l2 rec_qaj) ls) qaj_tr2⟩
theorem qaj_ok2 (rec_qaj : List (TStmt) → Int → Int → Option (Int)) (hrec_qaj : ModeOk kk env0 64 (qaj_rmd rec_qaj)) : LoopR kk env0 Tryz.f64.ntmps qaj_b2 (qaj_lp2 rec_qaj) :=
  loop_of qaj_enc2 qaj_dec2 (fun n => qaj_rec2 (qaj_i2 rec_qaj n)) (kitOk_of eqOk mixed (known41 rec_qaj hrec_qaj)) (L := jnL) (loopsOk_of (bs := []) (by kernel_rfl) trivial) (fun _ => rfl) (by intro i qs r h; unfold qaj_enc2 at h; split at h <;> cases h <;> rfl)
    (by intro ls r h; unfold qaj_rec2 at h; split at h <;> cases h)
    (by intro n ls r h; unfold qaj_rec2 at h; split at h; exact (show _ = qaj_t2 rec_qaj (qaj_i2 rec_qaj n) _ _ _ _ _ from by kernel_rfl).trans h; cases h) (by rw [qaj_l2, sealF_eq])
def qaj_L (rec_qaj : List (TStmt) → Int → Int → Option (Int)) : Nat → Option (Lift.Loop U) := fun n => bif Nat.beq n joinKey then some joinMark else bif Nat.beq n 2 then some (qaj_lp2 rec_qaj) else none
def qaj_enc : Nat → List (TV U) → Option (Int)
  | 0, [⟨(.int .i64), a0⟩] => some a0
  | _, _ => none
def qaj_dec : Int → Nat × List (TV U) := fun x => (0, [⟨(.int .i64), x⟩])
def qaj_md : Mode U := qaj_rmd qaj
theorem qaj_step (rec_qaj : List (TStmt) → Int → Int → Option (Int)) (hrec_qaj : ModeOk kk env0 64 (qaj_rmd rec_qaj)) : LoopsOk (Kit.withModes kk (modesOf (ms41 rec_qaj))) env0 Tryz.f64.ntmps (qaj_L rec_qaj) (bodyOf Tryz.f64) := loopsOk_of (bs := [qaj_b2]) (by kernel_rfl) ⟨.inr ⟨_, by kernel_rfl, LoopOk.of_round (qaj_ok2 rec_qaj hrec_qaj)⟩, trivial⟩
theorem qaj_post : ModeOk kk env0 64 (qaj_rmd qaj) :=
  rec_of (K := kk) (F := qaj) qaj_rmd qaj_i (by rw [qaj, sealF_eq]) (rec_zero (by intro ls r h; unfold qaj_in at h; split at h <;> cases h)) (fun n ih => fn_of (fn := Tryz.f64) qaj_enc qaj_dec (kitOk_of eqOk mixed (known41 (qaj_i n) ih)) (by kernel_rfl) (qaj_step (qaj_i n) ih) (fun _ => rfl) (by intro i qs r h; unfold qaj_enc at h; split at h <;> cases h <;> rfl)
    (by intro ls r h; unfold qaj_in at h; split at h; exact (show _ = qaj_f (qaj_i n) _ _ _ from by kernel_rfl).trans h; cases h))
def ms42 : List (FuncId × Mode U) := (64, qaj_md) :: ms40
theorem known42 : Known kk env0 (modesOf ms42) := known_cons (by kernel_rfl) qaj_post known40
def qaf_sh2 : StSh := ⟨⟨[2, 7, 8, 9], [100000, 2], []⟩, [.ptr 2 0, .t (.slc (.st 38)), .t (.int .i64), .t (.int .i64)], [.blk 3 [.t (.int .i64)], .blk 52 [.clo 30 [.ptr 100000 0], .clo 31 [.ptr 100000 0]]]⟩
def qaf_o2 : List Out := [⟨.exit 0, ⟨⟨[], [100000], []⟩, [], [.blk 3 [.t (.int .i64)]]⟩⟩]
def qaf_b2 : Code := (nthLoop (bodyOf Tryz.f29) 0)
def qaf_rec2 (rec : List (TThread) → Int → Int → Int → Option (Int)) : List (TV U) → Option (Int)
  | [⟨(.slc (.st 38)), a0⟩, ⟨(.int .i64), a1⟩, ⟨(.int .i64), a2⟩, ⟨(.int .i64), a3⟩] => rec a0 a1 a2 a3
  | _ => none
def qaf_enc2 : Nat → List (TV U) → Option (Int)
  | 0, [⟨(.int .i64), a0⟩] => some a0
  | _, _ => none
def qaf_dec2 : Int → Nat × List (TV U) := fun x => (0, [⟨(.int .i64), x⟩])
def qaf_tr2 : Int → Tr (Nat × List (TV U)) := fun x => .ret (0, [⟨(.int .i64), x⟩])
def qaf_lp2 : Lift.Loop U := ⟨qaf_sh2, qaf_o2, fun ls => .get (qaf_rec2 qaf_l2 ls) qaf_tr2⟩
theorem qaf_ok2 : LoopR kk env0 Tryz.f29.ntmps qaf_b2 qaf_lp2 :=
  loop_of qaf_enc2 qaf_dec2 (fun n => qaf_rec2 (qaf_i2 n)) (kitOk_of eqOk mixed known42) (L := jnL) (loopsOk_of (bs := []) (by kernel_rfl) trivial) (fun _ => rfl) (by intro i qs r h; unfold qaf_enc2 at h; split at h <;> cases h <;> rfl)
    (by intro ls r h; unfold qaf_rec2 at h; split at h <;> cases h)
    (by intro n ls r h; unfold qaf_rec2 at h; split at h; exact (show _ = qaf_t2 (qaf_i2 n) _ _ _ _ from by kernel_rfl).trans h; cases h) (by rw [qaf_l2, sealF_eq])
def qaf_sh : StSh := ⟨⟨[0, 1], [100000], []⟩, [.agg [.clo 30 [.ptr 100000 0], .clo 31 [.ptr 100000 0]], .t (.st 26)], [.blk 3 [.t (.int .i64)]]⟩
def qaf_os : List StSh := [⟨⟨[], [100000], []⟩, [], [.blk 3 [.t (.int .i64)]]⟩]
def qaf_tr : Int → Tr (Nat × List (TV U)) := fun x => .ret (0, [⟨(.int .i64), x⟩])
def qaf_L : Nat → Option (Lift.Loop U) := fun n => bif Nat.beq n joinKey then some joinMark else bif Nat.beq n 2 then some qaf_lp2 else none
def qaf_enc : Nat → List (TV U) → Option (Int)
  | 0, [⟨(.int .i64), a0⟩] => some a0
  | _, _ => none
def qaf_dec : Int → Nat × List (TV U) := fun x => (0, [⟨(.int .i64), x⟩])
def qaf_in : List (TV U) → Option (Int)
  | [⟨(.st 26), a0⟩, ⟨(.int .i64), a1⟩] => qaf a0 a1
  | _ => none
def qaf_md : Mode U := ⟨qaf_sh, [⟨100000, .slot 0, [0, 0]⟩], qaf_os, fun ls => .get (qaf_in ls) qaf_tr⟩
theorem qaf_post : ModeOk kk env0 29 qaf_md :=
  fn_of (fn := Tryz.f29) qaf_enc qaf_dec (kitOk_of eqOk mixed known42) (by kernel_rfl) (L := qaf_L) (loopsOk_of (bs := [qaf_b2]) (by kernel_rfl) ⟨.inr ⟨_, by kernel_rfl, LoopOk.of_round (qaf_ok2)⟩, trivial⟩) (fun _ => rfl) (by intro i qs r h; unfold qaf_enc at h; split at h <;> cases h <;> rfl)
    (by intro ls r h; unfold qaf_in at h; split at h; rw [qaf, sealF_eq] at h; exact Eq.trans (by kernel_rfl) h; cases h)
def ms43 : List (FuncId × Mode U) := (29, qaf_md) :: ms42
theorem known43 : Known kk env0 (modesOf ms43) := known_cons (by kernel_rfl) qaf_post known42
def qa1_sh : StSh := ⟨⟨[0], [], []⟩, [.t (.st 26)], []⟩
def qa1_os : List StSh := [⟨⟨[0], [], []⟩, [.t (.int .i64)], []⟩]
def qa1_tr : Int → Tr (Nat × List (TV U)) := fun x => .ret (0, [⟨(.int .i64), x⟩])
def qa1_enc : Nat → List (TV U) → Option (Int)
  | 0, [⟨(.int .i64), a0⟩] => some a0
  | _, _ => none
def qa1_dec : Int → Nat × List (TV U) := fun x => (0, [⟨(.int .i64), x⟩])
def qa1_in : List (TV U) → Option (Int)
  | [⟨(.st 26), a0⟩] => qa1 a0
  | _ => none
def qa1_md : Mode U := ⟨qa1_sh, [], qa1_os, fun ls => .get (qa1_in ls) qa1_tr⟩
theorem qa1_post : ModeOk kk env0 15 qa1_md :=
  fn_of (fn := Tryz.f15) qa1_enc qa1_dec (kitOk_of eqOk mixed known43) (by kernel_rfl) (L := jnL) (loopsOk_of (bs := []) (by kernel_rfl) trivial) (fun _ => rfl) (by intro i qs r h; unfold qa1_enc at h; split at h <;> cases h <;> rfl)
    (by intro ls r h; unfold qa1_in at h; split at h; rw [qa1, sealF_eq] at h; exact Eq.trans (by kernel_rfl) h; cases h)
def ms44 : List (FuncId × Mode U) := (15, qa1_md) :: ms43
theorem known44 : Known kk env0 (modesOf ms44) := known_cons (by kernel_rfl) qa1_post known43
def qaZ_sh : StSh := ⟨⟨[0, 1, 2], [100000], []⟩, [.t (.st 43), .t (.int .i64), .ptr 100000 0], [.blk 3 [.t (.int .i64)]]⟩
def qaZ_os : List StSh := [⟨⟨[], [100000], []⟩, [], [.blk 3 [.t (.int .i64)]]⟩]
def qaZ_tr : Int → Tr (Nat × List (TV U)) := fun x => .ret (0, [⟨(.int .i64), x⟩])
def qaZ_enc : Nat → List (TV U) → Option (Int)
  | 0, [⟨(.int .i64), a0⟩] => some a0
  | _, _ => none
def qaZ_dec : Int → Nat × List (TV U) := fun x => (0, [⟨(.int .i64), x⟩])
def qaZ_in : List (TV U) → Option (Int)
  | [⟨(.st 43), a0⟩, ⟨(.int .i64), a1⟩, ⟨(.int .i64), a2⟩] => qaZ a0 a1 a2
  | _ => none
def qaZ_md : Mode U := ⟨qaZ_sh, [⟨100000, .slot 2, []⟩], qaZ_os, fun ls => .get (qaZ_in ls) qaZ_tr⟩
theorem qaZ_post : ModeOk kk env0 27 qaZ_md :=
  fn_of (fn := Tryz.f27) qaZ_enc qaZ_dec (kitOk_of eqOk mixed known44) (by kernel_rfl) (L := jnL) (loopsOk_of (bs := []) (by kernel_rfl) trivial) (fun _ => rfl) (by intro i qs r h; unfold qaZ_enc at h; split at h <;> cases h <;> rfl)
    (by intro ls r h; unfold qaZ_in at h; split at h; rw [qaZ, sealF_eq] at h; exact Eq.trans (by kernel_rfl) h; cases h)
def ms45 : List (FuncId × Mode U) := (27, qaZ_md) :: ms44
theorem known45 : Known kk env0 (modesOf ms45) := known_cons (by kernel_rfl) qaZ_post known44
def qa0_sh : StSh := ⟨⟨[0, 1, 2], [100000], []⟩, [.t (.st 41), .t (.int .i64), .ptr 100000 0], [.blk 3 [.t (.int .i64)]]⟩
def qa0_os : List StSh := [⟨⟨[], [100000], []⟩, [], [.blk 3 [.t (.int .i64)]]⟩]
def qa0_tr : Int → Tr (Nat × List (TV U)) := fun x => .ret (0, [⟨(.int .i64), x⟩])
def qa0_enc : Nat → List (TV U) → Option (Int)
  | 0, [⟨(.int .i64), a0⟩] => some a0
  | _, _ => none
def qa0_dec : Int → Nat × List (TV U) := fun x => (0, [⟨(.int .i64), x⟩])
def qa0_in : List (TV U) → Option (Int)
  | [⟨(.st 41), a0⟩, ⟨(.int .i64), a1⟩, ⟨(.int .i64), a2⟩] => qa0 a0 a1 a2
  | _ => none
def qa0_md : Mode U := ⟨qa0_sh, [⟨100000, .slot 2, []⟩], qa0_os, fun ls => .get (qa0_in ls) qa0_tr⟩
theorem qa0_post : ModeOk kk env0 28 qa0_md :=
  fn_of (fn := Tryz.f28) qa0_enc qa0_dec (kitOk_of eqOk mixed known45) (by kernel_rfl) (L := jnL) (loopsOk_of (bs := []) (by kernel_rfl) trivial) (fun _ => rfl) (by intro i qs r h; unfold qa0_enc at h; split at h <;> cases h <;> rfl)
    (by intro ls r h; unfold qa0_in at h; split at h; rw [qa0, sealF_eq] at h; exact Eq.trans (by kernel_rfl) h; cases h)
def ms46 : List (FuncId × Mode U) := (28, qa0_md) :: ms45
theorem known46 : Known kk env0 (modesOf ms46) := known_cons (by kernel_rfl) qa0_post known45
def qac_sh : StSh := ⟨⟨[0, 1, 2], [100000], []⟩, [.agg [.clo 27 [.ptr 100000 0], .clo 28 [.ptr 100000 0]], .t (.st 41), .t (.int .i64)], [.blk 3 [.t (.int .i64)]]⟩
def qac_os : List StSh := [⟨⟨[], [100000], []⟩, [], [.blk 3 [.t (.int .i64)]]⟩]
def qac_tr : Int → Tr (Nat × List (TV U)) := fun x => .ret (0, [⟨(.int .i64), x⟩])
def qac_in (rec_qac : TExpr → Int → Int → Option (Int)) : List (TV U) → Option (Int)
  | [⟨(.st 41), a0⟩, ⟨(.int .i64), a1⟩, ⟨(.int .i64), a2⟩] => rec_qac a0 a1 a2
  | _ => none
def qac_rmd (rec_qac : TExpr → Int → Int → Option (Int)) : Mode U := ⟨qac_sh, [⟨100000, .slot 0, [0, 0]⟩], qac_os, fun ls => .get (qac_in rec_qac ls) qac_tr⟩
def ms47 (rec_qac : TExpr → Int → Int → Option (Int)) : List (FuncId × Mode U) := (81, (qac_rmd rec_qac)) :: ms46
theorem known47 (rec_qac : TExpr → Int → Int → Option (Int)) (hrec_qac : ModeOk kk env0 81 (qac_rmd rec_qac)) : Known kk env0 (modesOf (ms47 rec_qac)) := known_cons (by kernel_rfl) hrec_qac known46
def qac_sh3 : StSh := ⟨⟨[2, 3, 14, 15, 16], [100000, 3], []⟩, [.t (.int .i64), .ptr 3 0, .t (.slc (.st 41)), .t (.int .i64), .t (.int .i64)], [.blk 3 [.t (.int .i64)], .blk 52 [.clo 27 [.ptr 100000 0], .clo 28 [.ptr 100000 0]]]⟩
def qac_o3 : List Out := [⟨.exit 0, ⟨⟨[], [100000], []⟩, [], [.blk 3 [.t (.int .i64)]]⟩⟩]
def qac_b3 : Code := (nthLoop (bodyOf Tryz.f81) 0)
def qac_rec3 (rec : Int → List (TExpr) → Int → Int → Int → Option (Int)) : List (TV U) → Option (Int)
  | [⟨(.int .i64), a0⟩, ⟨(.slc (.st 41)), a1⟩, ⟨(.int .i64), a2⟩, ⟨(.int .i64), a3⟩, ⟨(.int .i64), a4⟩] => rec a0 a1 a2 a3 a4
  | _ => none
def qac_enc3 : Nat → List (TV U) → Option (Int)
  | 0, [⟨(.int .i64), a0⟩] => some a0
  | _, _ => none
def qac_dec3 : Int → Nat × List (TV U) := fun x => (0, [⟨(.int .i64), x⟩])
def qac_tr3 : Int → Tr (Nat × List (TV U)) := fun x => .ret (0, [⟨(.int .i64), x⟩])
def qac_lp3 (rec_qac : TExpr → Int → Int → Option (Int)) : Lift.Loop U := ⟨qac_sh3, qac_o3, fun ls => .get (qac_rec3 (qac_l3 rec_qac) ls) qac_tr3⟩
theorem qac_ok3 (rec_qac : TExpr → Int → Int → Option (Int)) (hrec_qac : ModeOk kk env0 81 (qac_rmd rec_qac)) : LoopR kk env0 Tryz.f81.ntmps qac_b3 (qac_lp3 rec_qac) :=
  loop_of qac_enc3 qac_dec3 (fun n => qac_rec3 (qac_i3 rec_qac n)) (kitOk_of eqOk mixed (known47 rec_qac hrec_qac)) (L := jnL) (loopsOk_of (bs := []) (by kernel_rfl) trivial) (fun _ => rfl) (by intro i qs r h; unfold qac_enc3 at h; split at h <;> cases h <;> rfl)
    (by intro ls r h; unfold qac_rec3 at h; split at h <;> cases h)
    (by intro n ls r h; unfold qac_rec3 at h; split at h; exact (show _ = qac_t3 rec_qac (qac_i3 rec_qac n) _ _ _ _ _ from by kernel_rfl).trans h; cases h) (by rw [qac_l3, sealF_eq])
def qac_L (rec_qac : TExpr → Int → Int → Option (Int)) : Nat → Option (Lift.Loop U) := fun n => bif Nat.beq n joinKey then some joinMark else bif Nat.beq n 3 then some (qac_lp3 rec_qac) else none
def qac_enc : Nat → List (TV U) → Option (Int)
  | 0, [⟨(.int .i64), a0⟩] => some a0
  | _, _ => none
def qac_dec : Int → Nat × List (TV U) := fun x => (0, [⟨(.int .i64), x⟩])
def qac_md : Mode U := qac_rmd qac
theorem qac_step (rec_qac : TExpr → Int → Int → Option (Int)) (hrec_qac : ModeOk kk env0 81 (qac_rmd rec_qac)) : LoopsOk (Kit.withModes kk (modesOf (ms47 rec_qac))) env0 Tryz.f81.ntmps (qac_L rec_qac) (bodyOf Tryz.f81) := loopsOk_of (bs := [qac_b3]) (by kernel_rfl) ⟨.inr ⟨_, by kernel_rfl, LoopOk.of_round (qac_ok3 rec_qac hrec_qac)⟩, trivial⟩
theorem qac_post : ModeOk kk env0 81 (qac_rmd qac) :=
  rec_of (K := kk) (F := qac) qac_rmd qac_i (by rw [qac, sealF_eq]) (rec_zero (by intro ls r h; unfold qac_in at h; split at h <;> cases h)) (fun n ih => fn_of (fn := Tryz.f81) qac_enc qac_dec (kitOk_of eqOk mixed (known47 (qac_i n) ih)) (by kernel_rfl) (qac_step (qac_i n) ih) (fun _ => rfl) (by intro i qs r h; unfold qac_enc at h; split at h <;> cases h <;> rfl)
    (by intro ls r h; unfold qac_in at h; split at h; exact (show _ = qac_f (qac_i n) _ _ _ from by kernel_rfl).trans h; cases h))
def ms48 : List (FuncId × Mode U) := (81, qac_md) :: ms46
theorem known48 : Known kk env0 (modesOf ms48) := known_cons (by kernel_rfl) qac_post known46
def qak_sh : StSh := ⟨⟨[0, 1, 2], [100000], []⟩, [.agg [.clo 27 [.ptr 100000 0], .clo 28 [.ptr 100000 0]], .t (.slc (.st 43)), .t (.int .i64)], [.blk 3 [.t (.int .i64)]]⟩
def qak_os : List StSh := [⟨⟨[], [100000], []⟩, [], [.blk 3 [.t (.int .i64)]]⟩]
def qak_tr : Int → Tr (Nat × List (TV U)) := fun x => .ret (0, [⟨(.int .i64), x⟩])
def qak_in (rec_qak : List (TStmt) → Int → Int → Option (Int)) : List (TV U) → Option (Int)
  | [⟨(.slc (.st 43)), a0⟩, ⟨(.int .i64), a1⟩, ⟨(.int .i64), a2⟩] => rec_qak a0 a1 a2
  | _ => none
def qak_rmd (rec_qak : List (TStmt) → Int → Int → Option (Int)) : Mode U := ⟨qak_sh, [⟨100000, .slot 0, [0, 0]⟩], qak_os, fun ls => .get (qak_in rec_qak ls) qak_tr⟩
def ms49 (rec_qak : List (TStmt) → Int → Int → Option (Int)) : List (FuncId × Mode U) := (64, (qak_rmd rec_qak)) :: ms48
theorem known49 (rec_qak : List (TStmt) → Int → Int → Option (Int)) (hrec_qak : ModeOk kk env0 64 (qak_rmd rec_qak)) : Known kk env0 (modesOf (ms49 rec_qak)) := known_cons (by kernel_rfl) hrec_qak known48
def qak_sh2 : StSh := ⟨⟨[2, 3, 8, 9, 10], [100000, 3], []⟩, [.t (.int .i64), .ptr 3 0, .t (.slc (.st 43)), .t (.int .i64), .t (.int .i64)], [.blk 3 [.t (.int .i64)], .blk 52 [.clo 27 [.ptr 100000 0], .clo 28 [.ptr 100000 0]]]⟩
def qak_o2 : List Out := [⟨.exit 0, ⟨⟨[], [100000], []⟩, [], [.blk 3 [.t (.int .i64)]]⟩⟩]
def qak_b2 : Code := (nthLoop (bodyOf Tryz.f64) 0)
def qak_rec2 (rec : Int → List (TStmt) → Int → Int → Int → Option (Int)) : List (TV U) → Option (Int)
  | [⟨(.int .i64), a0⟩, ⟨(.slc (.st 43)), a1⟩, ⟨(.int .i64), a2⟩, ⟨(.int .i64), a3⟩, ⟨(.int .i64), a4⟩] => rec a0 a1 a2 a3 a4
  | _ => none
def qak_enc2 : Nat → List (TV U) → Option (Int)
  | 0, [⟨(.int .i64), a0⟩] => some a0
  | _, _ => none
def qak_dec2 : Int → Nat × List (TV U) := fun x => (0, [⟨(.int .i64), x⟩])
def qak_tr2 : Int → Tr (Nat × List (TV U)) := fun x => .ret (0, [⟨(.int .i64), x⟩])
def qak_lp2 (rec_qak : List (TStmt) → Int → Int → Option (Int)) : Lift.Loop U := ⟨qak_sh2, qak_o2, fun ls => .get (qak_rec2 (qak_l2 rec_qak) ls) qak_tr2⟩
theorem qak_ok2 (rec_qak : List (TStmt) → Int → Int → Option (Int)) (hrec_qak : ModeOk kk env0 64 (qak_rmd rec_qak)) : LoopR kk env0 Tryz.f64.ntmps qak_b2 (qak_lp2 rec_qak) :=
  loop_of qak_enc2 qak_dec2 (fun n => qak_rec2 (qak_i2 rec_qak n)) (kitOk_of eqOk mixed (known49 rec_qak hrec_qak)) (L := jnL) (loopsOk_of (bs := []) (by kernel_rfl) trivial) (fun _ => rfl) (by intro i qs r h; unfold qak_enc2 at h; split at h <;> cases h <;> rfl)
    (by intro ls r h; unfold qak_rec2 at h; split at h <;> cases h)
    (by intro n ls r h; unfold qak_rec2 at h; split at h; exact (show _ = qak_t2 rec_qak (qak_i2 rec_qak n) _ _ _ _ _ from by kernel_rfl).trans h; cases h) (by rw [qak_l2, sealF_eq])
def qak_L (rec_qak : List (TStmt) → Int → Int → Option (Int)) : Nat → Option (Lift.Loop U) := fun n => bif Nat.beq n joinKey then some joinMark else bif Nat.beq n 2 then some (qak_lp2 rec_qak) else none
def qak_enc : Nat → List (TV U) → Option (Int)
  | 0, [⟨(.int .i64), a0⟩] => some a0
  | _, _ => none
def qak_dec : Int → Nat × List (TV U) := fun x => (0, [⟨(.int .i64), x⟩])
def qak_md : Mode U := qak_rmd qak
theorem qak_step (rec_qak : List (TStmt) → Int → Int → Option (Int)) (hrec_qak : ModeOk kk env0 64 (qak_rmd rec_qak)) : LoopsOk (Kit.withModes kk (modesOf (ms49 rec_qak))) env0 Tryz.f64.ntmps (qak_L rec_qak) (bodyOf Tryz.f64) := loopsOk_of (bs := [qak_b2]) (by kernel_rfl) ⟨.inr ⟨_, by kernel_rfl, LoopOk.of_round (qak_ok2 rec_qak hrec_qak)⟩, trivial⟩
theorem qak_post : ModeOk kk env0 64 (qak_rmd qak) :=
  rec_of (K := kk) (F := qak) qak_rmd qak_i (by rw [qak, sealF_eq]) (rec_zero (by intro ls r h; unfold qak_in at h; split at h <;> cases h)) (fun n ih => fn_of (fn := Tryz.f64) qak_enc qak_dec (kitOk_of eqOk mixed (known49 (qak_i n) ih)) (by kernel_rfl) (qak_step (qak_i n) ih) (fun _ => rfl) (by intro i qs r h; unfold qak_enc at h; split at h <;> cases h <;> rfl)
    (by intro ls r h; unfold qak_in at h; split at h; exact (show _ = qak_f (qak_i n) _ _ _ from by kernel_rfl).trans h; cases h))
def ms50 : List (FuncId × Mode U) := (64, qak_md) :: ms48
theorem known50 : Known kk env0 (modesOf ms50) := known_cons (by kernel_rfl) qak_post known48
def qag_sh2 : StSh := ⟨⟨[2, 7, 8, 9], [100000, 2], []⟩, [.ptr 2 0, .t (.slc (.st 38)), .t (.int .i64), .t (.int .i64)], [.blk 3 [.t (.int .i64)], .blk 52 [.clo 27 [.ptr 100000 0], .clo 28 [.ptr 100000 0]]]⟩
def qag_o2 : List Out := [⟨.exit 0, ⟨⟨[], [100000], []⟩, [], [.blk 3 [.t (.int .i64)]]⟩⟩]
def qag_b2 : Code := (nthLoop (bodyOf Tryz.f29) 0)
def qag_rec2 (rec : List (TThread) → Int → Int → Int → Option (Int)) : List (TV U) → Option (Int)
  | [⟨(.slc (.st 38)), a0⟩, ⟨(.int .i64), a1⟩, ⟨(.int .i64), a2⟩, ⟨(.int .i64), a3⟩] => rec a0 a1 a2 a3
  | _ => none
def qag_enc2 : Nat → List (TV U) → Option (Int)
  | 0, [⟨(.int .i64), a0⟩] => some a0
  | _, _ => none
def qag_dec2 : Int → Nat × List (TV U) := fun x => (0, [⟨(.int .i64), x⟩])
def qag_tr2 : Int → Tr (Nat × List (TV U)) := fun x => .ret (0, [⟨(.int .i64), x⟩])
def qag_lp2 : Lift.Loop U := ⟨qag_sh2, qag_o2, fun ls => .get (qag_rec2 qag_l2 ls) qag_tr2⟩
theorem qag_ok2 : LoopR kk env0 Tryz.f29.ntmps qag_b2 qag_lp2 :=
  loop_of qag_enc2 qag_dec2 (fun n => qag_rec2 (qag_i2 n)) (kitOk_of eqOk mixed known50) (L := jnL) (loopsOk_of (bs := []) (by kernel_rfl) trivial) (fun _ => rfl) (by intro i qs r h; unfold qag_enc2 at h; split at h <;> cases h <;> rfl)
    (by intro ls r h; unfold qag_rec2 at h; split at h <;> cases h)
    (by intro n ls r h; unfold qag_rec2 at h; split at h; exact (show _ = qag_t2 (qag_i2 n) _ _ _ _ from by kernel_rfl).trans h; cases h) (by rw [qag_l2, sealF_eq])
def qag_sh : StSh := ⟨⟨[0, 1], [100000], []⟩, [.agg [.clo 27 [.ptr 100000 0], .clo 28 [.ptr 100000 0]], .t (.st 26)], [.blk 3 [.t (.int .i64)]]⟩
def qag_os : List StSh := [⟨⟨[], [100000], []⟩, [], [.blk 3 [.t (.int .i64)]]⟩]
def qag_tr : Int → Tr (Nat × List (TV U)) := fun x => .ret (0, [⟨(.int .i64), x⟩])
def qag_L : Nat → Option (Lift.Loop U) := fun n => bif Nat.beq n joinKey then some joinMark else bif Nat.beq n 2 then some qag_lp2 else none
def qag_enc : Nat → List (TV U) → Option (Int)
  | 0, [⟨(.int .i64), a0⟩] => some a0
  | _, _ => none
def qag_dec : Int → Nat × List (TV U) := fun x => (0, [⟨(.int .i64), x⟩])
def qag_in : List (TV U) → Option (Int)
  | [⟨(.st 26), a0⟩, ⟨(.int .i64), a1⟩] => qag a0 a1
  | _ => none
def qag_md : Mode U := ⟨qag_sh, [⟨100000, .slot 0, [0, 0]⟩], qag_os, fun ls => .get (qag_in ls) qag_tr⟩
theorem qag_post : ModeOk kk env0 29 qag_md :=
  fn_of (fn := Tryz.f29) qag_enc qag_dec (kitOk_of eqOk mixed known50) (by kernel_rfl) (L := qag_L) (loopsOk_of (bs := [qag_b2]) (by kernel_rfl) ⟨.inr ⟨_, by kernel_rfl, LoopOk.of_round (qag_ok2)⟩, trivial⟩) (fun _ => rfl) (by intro i qs r h; unfold qag_enc at h; split at h <;> cases h <;> rfl)
    (by intro ls r h; unfold qag_in at h; split at h; rw [qag, sealF_eq] at h; exact Eq.trans (by kernel_rfl) h; cases h)
def ms51 : List (FuncId × Mode U) := (29, qag_md) :: ms50
theorem known51 : Known kk env0 (modesOf ms51) := known_cons (by kernel_rfl) qag_post known50
def qaY_sh : StSh := ⟨⟨[0], [], []⟩, [.t (.st 26)], []⟩
def qaY_os : List StSh := [⟨⟨[0], [], []⟩, [.t (.int .i64)], []⟩]
def qaY_tr : Int → Tr (Nat × List (TV U)) := fun x => .ret (0, [⟨(.int .i64), x⟩])
def qaY_enc : Nat → List (TV U) → Option (Int)
  | 0, [⟨(.int .i64), a0⟩] => some a0
  | _, _ => none
def qaY_dec : Int → Nat × List (TV U) := fun x => (0, [⟨(.int .i64), x⟩])
def qaY_in : List (TV U) → Option (Int)
  | [⟨(.st 26), a0⟩] => qaY a0
  | _ => none
def qaY_md : Mode U := ⟨qaY_sh, [], qaY_os, fun ls => .get (qaY_in ls) qaY_tr⟩
theorem qaY_post : ModeOk kk env0 14 qaY_md :=
  fn_of (fn := Tryz.f14) qaY_enc qaY_dec (kitOk_of eqOk mixed known51) (by kernel_rfl) (L := jnL) (loopsOk_of (bs := []) (by kernel_rfl) trivial) (fun _ => rfl) (by intro i qs r h; unfold qaY_enc at h; split at h <;> cases h <;> rfl)
    (by intro ls r h; unfold qaY_in at h; split at h; rw [qaY, sealF_eq] at h; exact Eq.trans (by kernel_rfl) h; cases h)
def ms52 : List (FuncId × Mode U) := (14, qaY_md) :: ms51
theorem known52 : Known kk env0 (modesOf ms52) := known_cons (by kernel_rfl) qaY_post known51
def qa8_sh : StSh := ⟨⟨[0], [], []⟩, [.t (.st 26)], []⟩
def qa8_os : List StSh := [⟨⟨[0], [], []⟩, [.t (.int .i64)], []⟩]
def qa8_tr : Int → Tr (Nat × List (TV U)) := fun x => .ret (0, [⟨(.int .i64), x⟩])
def qa8_enc : Nat → List (TV U) → Option (Int)
  | 0, [⟨(.int .i64), a0⟩] => some a0
  | _, _ => none
def qa8_dec : Int → Nat × List (TV U) := fun x => (0, [⟨(.int .i64), x⟩])
def qa8_in : List (TV U) → Option (Int)
  | [⟨(.st 26), a0⟩] => qa8 a0
  | _ => none
def qa8_md : Mode U := ⟨qa8_sh, [], qa8_os, fun ls => .get (qa8_in ls) qa8_tr⟩
theorem qa8_post : ModeOk kk env0 12 qa8_md :=
  fn_of (fn := Tryz.f12) qa8_enc qa8_dec (kitOk_of eqOk mixed known52) (by kernel_rfl) (L := jnL) (loopsOk_of (bs := []) (by kernel_rfl) trivial) (fun _ => rfl) (by intro i qs r h; unfold qa8_enc at h; split at h <;> cases h <;> rfl)
    (by intro ls r h; unfold qa8_in at h; split at h; rw [qa8, sealF_eq] at h; exact Eq.trans (by kernel_rfl) h; cases h)
def ms53 : List (FuncId × Mode U) := (12, qa8_md) :: ms52
theorem known53 : Known kk env0 (modesOf ms53) := known_cons (by kernel_rfl) qa8_post known52
def qa5_sh : StSh := ⟨⟨[0, 1, 2], [100000, 100001, 100002], [⟨.cell 100002 0, 200200, 9, .str⟩]⟩, [.t .str, .ptr 100000 0, .ptr 100002 0], [.blk 72 [.ptr 100001 0], .mp .str (.int .i64), .blk 23 [.oslc 200200], .row 9 .str]⟩
def qa5_os : List StSh := [⟨⟨[], [100000, 100001, 100002], [⟨.cell 100002 0, 200200, 9, .str⟩]⟩, [], [.blk 72 [.ptr 100001 0], .mp .str (.int .i64), .blk 23 [.oslc 200200], .row 9 .str]⟩]
def qa5_tr : (List ((List UInt8) × (Int))) × (List (List UInt8)) → Tr (Nat × List (TV U)) := fun x => .ret (0, [⟨(.map .str (.int .i64)), x.1⟩, ⟨(.slc .str), x.2⟩])
def qa5_enc : Nat → List (TV U) → Option ((List ((List UInt8) × (Int))) × (List (List UInt8)))
  | 0, [⟨(.map .str (.int .i64)), a0⟩, ⟨(.slc .str), a1⟩] => some (a0, a1)
  | _, _ => none
def qa5_dec : (List ((List UInt8) × (Int))) × (List (List UInt8)) → Nat × List (TV U) := fun x => (0, [⟨(.map .str (.int .i64)), x.1⟩, ⟨(.slc .str), x.2⟩])
def qa5_in : List (TV U) → Option ((List ((List UInt8) × (Int))) × (List (List UInt8)))
  | [⟨.str, a0⟩, ⟨(.map .str (.int .i64)), a1⟩, ⟨(.slc .str), a2⟩] => qa5 a0 a1 a2
  | _ => none
def qa5_md : Mode U := ⟨qa5_sh, [⟨100000, .slot 1, []⟩, ⟨100001, .cell 100000 0, []⟩, ⟨100002, .slot 2, []⟩], qa5_os, fun ls => .get (qa5_in ls) qa5_tr⟩
theorem qa5_post : ModeOk kk env0 51 qa5_md :=
  fn_of (fn := Tryz.f51) qa5_enc qa5_dec (kitOk_of eqOk mixed known53) (by kernel_rfl) (L := jnL) (loopsOk_of (bs := []) (by kernel_rfl) trivial) (fun _ => rfl) (by intro i qs r h; unfold qa5_enc at h; split at h <;> cases h <;> rfl)
    (by intro ls r h; unfold qa5_in at h; split at h; rw [qa5, sealF_eq] at h; exact Eq.trans (by kernel_rfl) h; cases h)
def ms54 : List (FuncId × Mode U) := (51, qa5_md) :: ms53
theorem known54 : Known kk env0 (modesOf ms54) := known_cons (by kernel_rfl) qa5_post known53
def qa6_sh : StSh := ⟨⟨[0, 1, 2], [100000, 100001, 100002, 100003], [⟨.cell 100003 0, 200300, 9, .str⟩]⟩, [.t (.st 43), .t (.int .i64), .ptr 100000 0], [.blk 74 [.clo 51 [.ptr 100001 0, .ptr 100003 0]], .blk 72 [.ptr 100002 0], .mp .str (.int .i64), .blk 23 [.oslc 200300], .row 9 .str]⟩
def qa6_os : List StSh := [⟨⟨[], [100000, 100001, 100002, 100003], [⟨.cell 100003 0, 200300, 9, .str⟩]⟩, [], [.blk 74 [.clo 51 [.ptr 100001 0, .ptr 100003 0]], .blk 72 [.ptr 100002 0], .mp .str (.int .i64), .blk 23 [.oslc 200300], .row 9 .str]⟩]
def qa6_tr : (List ((List UInt8) × (Int))) × (List (List UInt8)) → Tr (Nat × List (TV U)) := fun x => .ret (0, [⟨(.map .str (.int .i64)), x.1⟩, ⟨(.slc .str), x.2⟩])
def qa6_enc : Nat → List (TV U) → Option ((List ((List UInt8) × (Int))) × (List (List UInt8)))
  | 0, [⟨(.map .str (.int .i64)), a0⟩, ⟨(.slc .str), a1⟩] => some (a0, a1)
  | _, _ => none
def qa6_dec : (List ((List UInt8) × (Int))) × (List (List UInt8)) → Nat × List (TV U) := fun x => (0, [⟨(.map .str (.int .i64)), x.1⟩, ⟨(.slc .str), x.2⟩])
def qa6_in : List (TV U) → Option ((List ((List UInt8) × (Int))) × (List (List UInt8)))
  | [⟨(.st 43), a0⟩, ⟨(.int .i64), a1⟩, ⟨(.map .str (.int .i64)), a2⟩, ⟨(.slc .str), a3⟩] => qa6 a0 a1 a2 a3
  | _ => none
def qa6_md : Mode U := ⟨qa6_sh, [⟨100000, .slot 2, []⟩, ⟨100001, .cell 100000 0, [0]⟩, ⟨100002, .cell 100001 0, []⟩, ⟨100003, .cell 100000 0, [1]⟩], qa6_os, fun ls => .get (qa6_in ls) qa6_tr⟩
theorem qa6_post : ModeOk kk env0 52 qa6_md :=
  fn_of (fn := Tryz.f52) qa6_enc qa6_dec (kitOk_of eqOk mixed known54) (by kernel_rfl) (L := jnL) (loopsOk_of (bs := []) (by kernel_rfl) trivial) (fun _ => rfl) (by intro i qs r h; unfold qa6_enc at h; split at h <;> cases h <;> rfl)
    (by intro ls r h; unfold qa6_in at h; split at h; rw [qa6, sealF_eq] at h; exact Eq.trans (by kernel_rfl) h; cases h)
def ms55 : List (FuncId × Mode U) := (52, qa6_md) :: ms54
theorem known55 : Known kk env0 (modesOf ms55) := known_cons (by kernel_rfl) qa6_post known54
def qa7_sh : StSh := ⟨⟨[0, 1, 2], [100000, 100001, 100002, 100003], [⟨.cell 100003 0, 200300, 9, .str⟩]⟩, [.t (.st 41), .t (.int .i64), .ptr 100000 0], [.blk 74 [.clo 51 [.ptr 100001 0, .ptr 100003 0]], .blk 72 [.ptr 100002 0], .mp .str (.int .i64), .blk 23 [.oslc 200300], .row 9 .str]⟩
def qa7_os : List StSh := [⟨⟨[], [100000, 100001, 100002, 100003], [⟨.cell 100003 0, 200300, 9, .str⟩]⟩, [], [.blk 74 [.clo 51 [.ptr 100001 0, .ptr 100003 0]], .blk 72 [.ptr 100002 0], .mp .str (.int .i64), .blk 23 [.oslc 200300], .row 9 .str]⟩]
def qa7_tr : (List ((List UInt8) × (Int))) × (List (List UInt8)) → Tr (Nat × List (TV U)) := fun x => .ret (0, [⟨(.map .str (.int .i64)), x.1⟩, ⟨(.slc .str), x.2⟩])
def qa7_enc : Nat → List (TV U) → Option ((List ((List UInt8) × (Int))) × (List (List UInt8)))
  | 0, [⟨(.map .str (.int .i64)), a0⟩, ⟨(.slc .str), a1⟩] => some (a0, a1)
  | _, _ => none
def qa7_dec : (List ((List UInt8) × (Int))) × (List (List UInt8)) → Nat × List (TV U) := fun x => (0, [⟨(.map .str (.int .i64)), x.1⟩, ⟨(.slc .str), x.2⟩])
def qa7_in : List (TV U) → Option ((List ((List UInt8) × (Int))) × (List (List UInt8)))
  | [⟨(.st 41), a0⟩, ⟨(.int .i64), a1⟩, ⟨(.map .str (.int .i64)), a2⟩, ⟨(.slc .str), a3⟩] => qa7 a0 a1 a2 a3
  | _ => none
def qa7_md : Mode U := ⟨qa7_sh, [⟨100000, .slot 2, []⟩, ⟨100001, .cell 100000 0, [0]⟩, ⟨100002, .cell 100001 0, []⟩, ⟨100003, .cell 100000 0, [1]⟩], qa7_os, fun ls => .get (qa7_in ls) qa7_tr⟩
theorem qa7_post : ModeOk kk env0 53 qa7_md :=
  fn_of (fn := Tryz.f53) qa7_enc qa7_dec (kitOk_of eqOk mixed known55) (by kernel_rfl) (L := jnL) (loopsOk_of (bs := []) (by kernel_rfl) trivial) (fun _ => rfl) (by intro i qs r h; unfold qa7_enc at h; split at h <;> cases h <;> rfl)
    (by intro ls r h; unfold qa7_in at h; split at h; rw [qa7, sealF_eq] at h; exact Eq.trans (by kernel_rfl) h; cases h)
def ms56 : List (FuncId × Mode U) := (53, qa7_md) :: ms55
theorem known56 : Known kk env0 (modesOf ms56) := known_cons (by kernel_rfl) qa7_post known55
def qad_sh : StSh := ⟨⟨[0, 1, 2], [100000, 100001, 100002, 100003], [⟨.cell 100003 0, 200300, 9, .str⟩]⟩, [.agg [.clo 52 [.ptr 100000 0], .clo 53 [.ptr 100000 0]], .t (.st 41), .t (.int .i64)], [.blk 74 [.clo 51 [.ptr 100001 0, .ptr 100003 0]], .blk 72 [.ptr 100002 0], .mp .str (.int .i64), .blk 23 [.oslc 200300], .row 9 .str]⟩
def qad_os : List StSh := [⟨⟨[], [100000, 100001, 100002, 100003], [⟨.cell 100003 0, 200300, 9, .str⟩]⟩, [], [.blk 74 [.clo 51 [.ptr 100001 0, .ptr 100003 0]], .blk 72 [.ptr 100002 0], .mp .str (.int .i64), .blk 23 [.oslc 200300], .row 9 .str]⟩]
def qad_tr : (List ((List UInt8) × (Int))) × (List (List UInt8)) → Tr (Nat × List (TV U)) := fun x => .ret (0, [⟨(.map .str (.int .i64)), x.1⟩, ⟨(.slc .str), x.2⟩])
def qad_in (rec_qad : TExpr → Int → List ((List UInt8) × (Int)) → List (List UInt8) → Option ((List ((List UInt8) × (Int))) × (List (List UInt8)))) : List (TV U) → Option ((List ((List UInt8) × (Int))) × (List (List UInt8)))
  | [⟨(.st 41), a0⟩, ⟨(.int .i64), a1⟩, ⟨(.map .str (.int .i64)), a2⟩, ⟨(.slc .str), a3⟩] => rec_qad a0 a1 a2 a3
  | _ => none
def qad_rmd (rec_qad : TExpr → Int → List ((List UInt8) × (Int)) → List (List UInt8) → Option ((List ((List UInt8) × (Int))) × (List (List UInt8)))) : Mode U := ⟨qad_sh, [⟨100000, .slot 0, [0, 0]⟩, ⟨100001, .cell 100000 0, [0]⟩, ⟨100002, .cell 100001 0, []⟩, ⟨100003, .cell 100000 0, [1]⟩], qad_os, fun ls => .get (qad_in rec_qad ls) qad_tr⟩
def ms57 (rec_qad : TExpr → Int → List ((List UInt8) × (Int)) → List (List UInt8) → Option ((List ((List UInt8) × (Int))) × (List (List UInt8)))) : List (FuncId × Mode U) := (81, (qad_rmd rec_qad)) :: ms56
theorem known57 (rec_qad : TExpr → Int → List ((List UInt8) × (Int)) → List (List UInt8) → Option ((List ((List UInt8) × (Int))) × (List (List UInt8)))) (hrec_qad : ModeOk kk env0 81 (qad_rmd rec_qad)) : Known kk env0 (modesOf (ms57 rec_qad)) := known_cons (by kernel_rfl) hrec_qad known56
def qad_sh3 : StSh := ⟨⟨[2, 3, 14, 15, 16], [100000, 100001, 100002, 100003, 3], [⟨.cell 100003 0, 200300, 9, .str⟩]⟩, [.t (.int .i64), .ptr 3 0, .t (.slc (.st 41)), .t (.int .i64), .t (.int .i64)], [.blk 74 [.clo 51 [.ptr 100001 0, .ptr 100003 0]], .blk 72 [.ptr 100002 0], .mp .str (.int .i64), .blk 23 [.oslc 200300], .blk 52 [.clo 52 [.ptr 100000 0], .clo 53 [.ptr 100000 0]], .row 9 .str]⟩
def qad_o3 : List Out := [⟨.exit 0, ⟨⟨[], [100000, 100001, 100002, 100003], [⟨.cell 100003 0, 200300, 9, .str⟩]⟩, [], [.blk 74 [.clo 51 [.ptr 100001 0, .ptr 100003 0]], .blk 72 [.ptr 100002 0], .mp .str (.int .i64), .blk 23 [.oslc 200300], .row 9 .str]⟩⟩]
def qad_b3 : Code := (nthLoop (bodyOf Tryz.f81) 0)
def qad_rec3 (rec : Int → List (TExpr) → Int → Int → List ((List UInt8) × (Int)) → List (List UInt8) → Option ((List ((List UInt8) × (Int))) × (List (List UInt8)))) : List (TV U) → Option ((List ((List UInt8) × (Int))) × (List (List UInt8)))
  | [⟨(.int .i64), a0⟩, ⟨(.slc (.st 41)), a1⟩, ⟨(.int .i64), a2⟩, ⟨(.int .i64), a3⟩, ⟨(.map .str (.int .i64)), a4⟩, ⟨(.slc .str), a5⟩] => rec a0 a1 a2 a3 a4 a5
  | _ => none
def qad_enc3 : Nat → List (TV U) → Option ((List ((List UInt8) × (Int))) × (List (List UInt8)))
  | 0, [⟨(.map .str (.int .i64)), a0⟩, ⟨(.slc .str), a1⟩] => some (a0, a1)
  | _, _ => none
def qad_dec3 : (List ((List UInt8) × (Int))) × (List (List UInt8)) → Nat × List (TV U) := fun x => (0, [⟨(.map .str (.int .i64)), x.1⟩, ⟨(.slc .str), x.2⟩])
def qad_tr3 : (List ((List UInt8) × (Int))) × (List (List UInt8)) → Tr (Nat × List (TV U)) := fun x => .ret (0, [⟨(.map .str (.int .i64)), x.1⟩, ⟨(.slc .str), x.2⟩])
def qad_lp3 (rec_qad : TExpr → Int → List ((List UInt8) × (Int)) → List (List UInt8) → Option ((List ((List UInt8) × (Int))) × (List (List UInt8)))) : Lift.Loop U := ⟨qad_sh3, qad_o3, fun ls => .get (qad_rec3 (qad_l3 rec_qad) ls) qad_tr3⟩
theorem qad_ok3 (rec_qad : TExpr → Int → List ((List UInt8) × (Int)) → List (List UInt8) → Option ((List ((List UInt8) × (Int))) × (List (List UInt8)))) (hrec_qad : ModeOk kk env0 81 (qad_rmd rec_qad)) : LoopR kk env0 Tryz.f81.ntmps qad_b3 (qad_lp3 rec_qad) :=
  loop_of qad_enc3 qad_dec3 (fun n => qad_rec3 (qad_i3 rec_qad n)) (kitOk_of eqOk mixed (known57 rec_qad hrec_qad)) (L := jnL) (loopsOk_of (bs := []) (by kernel_rfl) trivial) (fun _ => rfl) (by intro i qs r h; unfold qad_enc3 at h; split at h <;> cases h <;> rfl)
    (by intro ls r h; unfold qad_rec3 at h; split at h <;> cases h)
    (by intro n ls r h; unfold qad_rec3 at h; split at h; exact (show _ = qad_t3 rec_qad (qad_i3 rec_qad n) _ _ _ _ _ _ from by kernel_rfl).trans h; cases h) (by rw [qad_l3, sealF_eq])
def qad_L (rec_qad : TExpr → Int → List ((List UInt8) × (Int)) → List (List UInt8) → Option ((List ((List UInt8) × (Int))) × (List (List UInt8)))) : Nat → Option (Lift.Loop U) := fun n => bif Nat.beq n joinKey then some joinMark else bif Nat.beq n 3 then some (qad_lp3 rec_qad) else none
def qad_enc : Nat → List (TV U) → Option ((List ((List UInt8) × (Int))) × (List (List UInt8)))
  | 0, [⟨(.map .str (.int .i64)), a0⟩, ⟨(.slc .str), a1⟩] => some (a0, a1)
  | _, _ => none
def qad_dec : (List ((List UInt8) × (Int))) × (List (List UInt8)) → Nat × List (TV U) := fun x => (0, [⟨(.map .str (.int .i64)), x.1⟩, ⟨(.slc .str), x.2⟩])
def qad_md : Mode U := qad_rmd qad
theorem qad_step (rec_qad : TExpr → Int → List ((List UInt8) × (Int)) → List (List UInt8) → Option ((List ((List UInt8) × (Int))) × (List (List UInt8)))) (hrec_qad : ModeOk kk env0 81 (qad_rmd rec_qad)) : LoopsOk (Kit.withModes kk (modesOf (ms57 rec_qad))) env0 Tryz.f81.ntmps (qad_L rec_qad) (bodyOf Tryz.f81) := loopsOk_of (bs := [qad_b3]) (by kernel_rfl) ⟨.inr ⟨_, by kernel_rfl, LoopOk.of_round (qad_ok3 rec_qad hrec_qad)⟩, trivial⟩
theorem qad_post : ModeOk kk env0 81 (qad_rmd qad) :=
  rec_of (K := kk) (F := qad) qad_rmd qad_i (by rw [qad, sealF_eq]) (rec_zero (by intro ls r h; unfold qad_in at h; split at h <;> cases h)) (fun n ih => fn_of (fn := Tryz.f81) qad_enc qad_dec (kitOk_of eqOk mixed (known57 (qad_i n) ih)) (by kernel_rfl) (qad_step (qad_i n) ih) (fun _ => rfl) (by intro i qs r h; unfold qad_enc at h; split at h <;> cases h <;> rfl)
    (by intro ls r h; unfold qad_in at h; split at h; exact (show _ = qad_f (qad_i n) _ _ _ _ from by kernel_rfl).trans h; cases h))
def ms58 : List (FuncId × Mode U) := (81, qad_md) :: ms56
theorem known58 : Known kk env0 (modesOf ms58) := known_cons (by kernel_rfl) qad_post known56
def qal_sh : StSh := ⟨⟨[0, 1, 2], [100000, 100001, 100002, 100003], [⟨.cell 100003 0, 200300, 9, .str⟩]⟩, [.agg [.clo 52 [.ptr 100000 0], .clo 53 [.ptr 100000 0]], .t (.slc (.st 43)), .t (.int .i64)], [.blk 74 [.clo 51 [.ptr 100001 0, .ptr 100003 0]], .blk 72 [.ptr 100002 0], .mp .str (.int .i64), .blk 23 [.oslc 200300], .row 9 .str]⟩
def qal_os : List StSh := [⟨⟨[], [100000, 100001, 100002, 100003], [⟨.cell 100003 0, 200300, 9, .str⟩]⟩, [], [.blk 74 [.clo 51 [.ptr 100001 0, .ptr 100003 0]], .blk 72 [.ptr 100002 0], .mp .str (.int .i64), .blk 23 [.oslc 200300], .row 9 .str]⟩]
def qal_tr : (List ((List UInt8) × (Int))) × (List (List UInt8)) → Tr (Nat × List (TV U)) := fun x => .ret (0, [⟨(.map .str (.int .i64)), x.1⟩, ⟨(.slc .str), x.2⟩])
def qal_in (rec_qal : List (TStmt) → Int → List ((List UInt8) × (Int)) → List (List UInt8) → Option ((List ((List UInt8) × (Int))) × (List (List UInt8)))) : List (TV U) → Option ((List ((List UInt8) × (Int))) × (List (List UInt8)))
  | [⟨(.slc (.st 43)), a0⟩, ⟨(.int .i64), a1⟩, ⟨(.map .str (.int .i64)), a2⟩, ⟨(.slc .str), a3⟩] => rec_qal a0 a1 a2 a3
  | _ => none
def qal_rmd (rec_qal : List (TStmt) → Int → List ((List UInt8) × (Int)) → List (List UInt8) → Option ((List ((List UInt8) × (Int))) × (List (List UInt8)))) : Mode U := ⟨qal_sh, [⟨100000, .slot 0, [0, 0]⟩, ⟨100001, .cell 100000 0, [0]⟩, ⟨100002, .cell 100001 0, []⟩, ⟨100003, .cell 100000 0, [1]⟩], qal_os, fun ls => .get (qal_in rec_qal ls) qal_tr⟩
def ms59 (rec_qal : List (TStmt) → Int → List ((List UInt8) × (Int)) → List (List UInt8) → Option ((List ((List UInt8) × (Int))) × (List (List UInt8)))) : List (FuncId × Mode U) := (64, (qal_rmd rec_qal)) :: ms58
theorem known59 (rec_qal : List (TStmt) → Int → List ((List UInt8) × (Int)) → List (List UInt8) → Option ((List ((List UInt8) × (Int))) × (List (List UInt8)))) (hrec_qal : ModeOk kk env0 64 (qal_rmd rec_qal)) : Known kk env0 (modesOf (ms59 rec_qal)) := known_cons (by kernel_rfl) hrec_qal known58
def qal_sh2 : StSh := ⟨⟨[2, 3, 8, 9, 10], [100000, 100001, 100002, 100003, 3], [⟨.cell 100003 0, 200300, 9, .str⟩]⟩, [.t (.int .i64), .ptr 3 0, .t (.slc (.st 43)), .t (.int .i64), .t (.int .i64)], [.blk 74 [.clo 51 [.ptr 100001 0, .ptr 100003 0]], .blk 72 [.ptr 100002 0], .mp .str (.int .i64), .blk 23 [.oslc 200300], .blk 52 [.clo 52 [.ptr 100000 0], .clo 53 [.ptr 100000 0]], .row 9 .str]⟩
def qal_o2 : List Out := [⟨.exit 0, ⟨⟨[], [100000, 100001, 100002, 100003], [⟨.cell 100003 0, 200300, 9, .str⟩]⟩, [], [.blk 74 [.clo 51 [.ptr 100001 0, .ptr 100003 0]], .blk 72 [.ptr 100002 0], .mp .str (.int .i64), .blk 23 [.oslc 200300], .row 9 .str]⟩⟩]
def qal_b2 : Code := (nthLoop (bodyOf Tryz.f64) 0)
def qal_rec2 (rec : Int → List (TStmt) → Int → Int → List ((List UInt8) × (Int)) → List (List UInt8) → Option ((List ((List UInt8) × (Int))) × (List (List UInt8)))) : List (TV U) → Option ((List ((List UInt8) × (Int))) × (List (List UInt8)))
  | [⟨(.int .i64), a0⟩, ⟨(.slc (.st 43)), a1⟩, ⟨(.int .i64), a2⟩, ⟨(.int .i64), a3⟩, ⟨(.map .str (.int .i64)), a4⟩, ⟨(.slc .str), a5⟩] => rec a0 a1 a2 a3 a4 a5
  | _ => none
def qal_enc2 : Nat → List (TV U) → Option ((List ((List UInt8) × (Int))) × (List (List UInt8)))
  | 0, [⟨(.map .str (.int .i64)), a0⟩, ⟨(.slc .str), a1⟩] => some (a0, a1)
  | _, _ => none
def qal_dec2 : (List ((List UInt8) × (Int))) × (List (List UInt8)) → Nat × List (TV U) := fun x => (0, [⟨(.map .str (.int .i64)), x.1⟩, ⟨(.slc .str), x.2⟩])
def qal_tr2 : (List ((List UInt8) × (Int))) × (List (List UInt8)) → Tr (Nat × List (TV U)) := fun x => .ret (0, [⟨(.map .str (.int .i64)), x.1⟩, ⟨(.slc .str), x.2⟩])
def qal_lp2 (rec_qal : List (TStmt) → Int → List ((List UInt8) × (Int)) → List (List UInt8) → Option ((List ((List UInt8) × (Int))) × (List (List UInt8)))) : Lift.Loop U := ⟨qal_sh2, qal_o2, fun ls => .get (qal_rec2 (qal_l2 rec_qal) ls) qal_tr2⟩
theorem qal_ok2 (rec_qal : List (TStmt) → Int → List ((List UInt8) × (Int)) → List (List UInt8) → Option ((List ((List UInt8) × (Int))) × (List (List UInt8)))) (hrec_qal : ModeOk kk env0 64 (qal_rmd rec_qal)) : LoopR kk env0 Tryz.f64.ntmps qal_b2 (qal_lp2 rec_qal) :=
  loop_of qal_enc2 qal_dec2 (fun n => qal_rec2 (qal_i2 rec_qal n)) (kitOk_of eqOk mixed (known59 rec_qal hrec_qal)) (L := jnL) (loopsOk_of (bs := []) (by kernel_rfl) trivial) (fun _ => rfl) (by intro i qs r h; unfold qal_enc2 at h; split at h <;> cases h <;> rfl)
    (by intro ls r h; unfold qal_rec2 at h; split at h <;> cases h)
    (by intro n ls r h; unfold qal_rec2 at h; split at h; exact (show _ = qal_t2 rec_qal (qal_i2 rec_qal n) _ _ _ _ _ _ from by kernel_rfl).trans h; cases h) (by rw [qal_l2, sealF_eq])
def qal_L (rec_qal : List (TStmt) → Int → List ((List UInt8) × (Int)) → List (List UInt8) → Option ((List ((List UInt8) × (Int))) × (List (List UInt8)))) : Nat → Option (Lift.Loop U) := fun n => bif Nat.beq n joinKey then some joinMark else bif Nat.beq n 2 then some (qal_lp2 rec_qal) else none
def qal_enc : Nat → List (TV U) → Option ((List ((List UInt8) × (Int))) × (List (List UInt8)))
  | 0, [⟨(.map .str (.int .i64)), a0⟩, ⟨(.slc .str), a1⟩] => some (a0, a1)
  | _, _ => none
def qal_dec : (List ((List UInt8) × (Int))) × (List (List UInt8)) → Nat × List (TV U) := fun x => (0, [⟨(.map .str (.int .i64)), x.1⟩, ⟨(.slc .str), x.2⟩])
def qal_md : Mode U := qal_rmd qal
theorem qal_step (rec_qal : List (TStmt) → Int → List ((List UInt8) × (Int)) → List (List UInt8) → Option ((List ((List UInt8) × (Int))) × (List (List UInt8)))) (hrec_qal : ModeOk kk env0 64 (qal_rmd rec_qal)) : LoopsOk (Kit.withModes kk (modesOf (ms59 rec_qal))) env0 Tryz.f64.ntmps (qal_L rec_qal) (bodyOf Tryz.f64) := loopsOk_of (bs := [qal_b2]) (by kernel_rfl) ⟨.inr ⟨_, by kernel_rfl, LoopOk.of_round (qal_ok2 rec_qal hrec_qal)⟩, trivial⟩
theorem qal_post : ModeOk kk env0 64 (qal_rmd qal) :=
  rec_of (K := kk) (F := qal) qal_rmd qal_i (by rw [qal, sealF_eq]) (rec_zero (by intro ls r h; unfold qal_in at h; split at h <;> cases h)) (fun n ih => fn_of (fn := Tryz.f64) qal_enc qal_dec (kitOk_of eqOk mixed (known59 (qal_i n) ih)) (by kernel_rfl) (qal_step (qal_i n) ih) (fun _ => rfl) (by intro i qs r h; unfold qal_enc at h; split at h <;> cases h <;> rfl)
    (by intro ls r h; unfold qal_in at h; split at h; exact (show _ = qal_f (qal_i n) _ _ _ _ from by kernel_rfl).trans h; cases h))
def ms60 : List (FuncId × Mode U) := (64, qal_md) :: ms58
theorem known60 : Known kk env0 (modesOf ms60) := known_cons (by kernel_rfl) qal_post known58
def qah_sh2 : StSh := ⟨⟨[2, 7, 8, 9], [100000, 100001, 100002, 100003, 2], [⟨.cell 100003 0, 200300, 9, .str⟩]⟩, [.ptr 2 0, .t (.slc (.st 38)), .t (.int .i64), .t (.int .i64)], [.blk 74 [.clo 51 [.ptr 100001 0, .ptr 100003 0]], .blk 72 [.ptr 100002 0], .mp .str (.int .i64), .blk 23 [.oslc 200300], .blk 52 [.clo 52 [.ptr 100000 0], .clo 53 [.ptr 100000 0]], .row 9 .str]⟩
def qah_o2 : List Out := [⟨.exit 0, ⟨⟨[], [100000, 100001, 100002, 100003], [⟨.cell 100003 0, 200300, 9, .str⟩]⟩, [], [.blk 74 [.clo 51 [.ptr 100001 0, .ptr 100003 0]], .blk 72 [.ptr 100002 0], .mp .str (.int .i64), .blk 23 [.oslc 200300], .row 9 .str]⟩⟩]
def qah_b2 : Code := (nthLoop (bodyOf Tryz.f29) 0)
def qah_rec2 (rec : List (TThread) → Int → Int → List ((List UInt8) × (Int)) → List (List UInt8) → Option ((List ((List UInt8) × (Int))) × (List (List UInt8)))) : List (TV U) → Option ((List ((List UInt8) × (Int))) × (List (List UInt8)))
  | [⟨(.slc (.st 38)), a0⟩, ⟨(.int .i64), a1⟩, ⟨(.int .i64), a2⟩, ⟨(.map .str (.int .i64)), a3⟩, ⟨(.slc .str), a4⟩] => rec a0 a1 a2 a3 a4
  | _ => none
def qah_enc2 : Nat → List (TV U) → Option ((List ((List UInt8) × (Int))) × (List (List UInt8)))
  | 0, [⟨(.map .str (.int .i64)), a0⟩, ⟨(.slc .str), a1⟩] => some (a0, a1)
  | _, _ => none
def qah_dec2 : (List ((List UInt8) × (Int))) × (List (List UInt8)) → Nat × List (TV U) := fun x => (0, [⟨(.map .str (.int .i64)), x.1⟩, ⟨(.slc .str), x.2⟩])
def qah_tr2 : (List ((List UInt8) × (Int))) × (List (List UInt8)) → Tr (Nat × List (TV U)) := fun x => .ret (0, [⟨(.map .str (.int .i64)), x.1⟩, ⟨(.slc .str), x.2⟩])
def qah_lp2 : Lift.Loop U := ⟨qah_sh2, qah_o2, fun ls => .get (qah_rec2 qah_l2 ls) qah_tr2⟩
theorem qah_ok2 : LoopR kk env0 Tryz.f29.ntmps qah_b2 qah_lp2 :=
  loop_of qah_enc2 qah_dec2 (fun n => qah_rec2 (qah_i2 n)) (kitOk_of eqOk mixed known60) (L := jnL) (loopsOk_of (bs := []) (by kernel_rfl) trivial) (fun _ => rfl) (by intro i qs r h; unfold qah_enc2 at h; split at h <;> cases h <;> rfl)
    (by intro ls r h; unfold qah_rec2 at h; split at h <;> cases h)
    (by intro n ls r h; unfold qah_rec2 at h; split at h; exact (show _ = qah_t2 (qah_i2 n) _ _ _ _ _ from by kernel_rfl).trans h; cases h) (by rw [qah_l2, sealF_eq])
def qah_sh : StSh := ⟨⟨[0, 1], [100000, 100001, 100002, 100003], [⟨.cell 100003 0, 200300, 9, .str⟩]⟩, [.agg [.clo 52 [.ptr 100000 0], .clo 53 [.ptr 100000 0]], .t (.st 26)], [.blk 74 [.clo 51 [.ptr 100001 0, .ptr 100003 0]], .blk 72 [.ptr 100002 0], .mp .str (.int .i64), .blk 23 [.oslc 200300], .row 9 .str]⟩
def qah_os : List StSh := [⟨⟨[], [100000, 100001, 100002, 100003], [⟨.cell 100003 0, 200300, 9, .str⟩]⟩, [], [.blk 74 [.clo 51 [.ptr 100001 0, .ptr 100003 0]], .blk 72 [.ptr 100002 0], .mp .str (.int .i64), .blk 23 [.oslc 200300], .row 9 .str]⟩]
def qah_tr : (List ((List UInt8) × (Int))) × (List (List UInt8)) → Tr (Nat × List (TV U)) := fun x => .ret (0, [⟨(.map .str (.int .i64)), x.1⟩, ⟨(.slc .str), x.2⟩])
def qah_L : Nat → Option (Lift.Loop U) := fun n => bif Nat.beq n joinKey then some joinMark else bif Nat.beq n 2 then some qah_lp2 else none
def qah_enc : Nat → List (TV U) → Option ((List ((List UInt8) × (Int))) × (List (List UInt8)))
  | 0, [⟨(.map .str (.int .i64)), a0⟩, ⟨(.slc .str), a1⟩] => some (a0, a1)
  | _, _ => none
def qah_dec : (List ((List UInt8) × (Int))) × (List (List UInt8)) → Nat × List (TV U) := fun x => (0, [⟨(.map .str (.int .i64)), x.1⟩, ⟨(.slc .str), x.2⟩])
def qah_in : List (TV U) → Option ((List ((List UInt8) × (Int))) × (List (List UInt8)))
  | [⟨(.st 26), a0⟩, ⟨(.map .str (.int .i64)), a1⟩, ⟨(.slc .str), a2⟩] => qah a0 a1 a2
  | _ => none
def qah_md : Mode U := ⟨qah_sh, [⟨100000, .slot 0, [0, 0]⟩, ⟨100001, .cell 100000 0, [0]⟩, ⟨100002, .cell 100001 0, []⟩, ⟨100003, .cell 100000 0, [1]⟩], qah_os, fun ls => .get (qah_in ls) qah_tr⟩
theorem qah_post : ModeOk kk env0 29 qah_md :=
  fn_of (fn := Tryz.f29) qah_enc qah_dec (kitOk_of eqOk mixed known60) (by kernel_rfl) (L := qah_L) (loopsOk_of (bs := [qah_b2]) (by kernel_rfl) ⟨.inr ⟨_, by kernel_rfl, LoopOk.of_round (qah_ok2)⟩, trivial⟩) (fun _ => rfl) (by intro i qs r h; unfold qah_enc at h; split at h <;> cases h <;> rfl)
    (by intro ls r h; unfold qah_in at h; split at h; rw [qah, sealF_eq] at h; exact Eq.trans (by kernel_rfl) h; cases h)
def ms61 : List (FuncId × Mode U) := (29, qah_md) :: ms60
theorem known61 : Known kk env0 (modesOf ms61) := known_cons (by kernel_rfl) qah_post known60
def qaM_sh : StSh := ⟨⟨[0], [], [⟨.slot 0, 0, 9, .str⟩]⟩, [.oslc 0], [.row 9 .str]⟩
def qaM_os : List StSh := [⟨⟨[0], [], [⟨.slot 0, 100000, 9, .str⟩]⟩, [.oslc 100000], [.row 9 .str]⟩]
def qaM_tr : (List (List UInt8)) → Tr (Nat × List (TV U)) := fun x => .ret (0, [⟨(.slc .str), x⟩])
def qaM_enc : Nat → List (TV U) → Option ((List (List UInt8)))
  | 0, [⟨(.slc .str), a0⟩] => some a0
  | _, _ => none
def qaM_dec : (List (List UInt8)) → Nat × List (TV U) := fun x => (0, [⟨(.slc .str), x⟩])
def qaM_in : List (TV U) → Option ((List (List UInt8)))
  | [⟨(.slc .str), a0⟩] => qaM a0
  | _ => none
def qaM_md : Mode U := ⟨qaM_sh, [], qaM_os, fun ls => .get (qaM_in ls) qaM_tr⟩
theorem qaM_post : ModeOk kk env0 54 qaM_md :=
  fn_of (fn := Tryz.f54) qaM_enc qaM_dec (kitOk_of eqOk mixed known61) (by kernel_rfl) (L := jnL) (loopsOk_of (bs := []) (by kernel_rfl) trivial) (fun _ => rfl) (by intro i qs r h; unfold qaM_enc at h; split at h <;> cases h <;> rfl)
    (by intro ls r h; unfold qaM_in at h; split at h; rw [qaM, sealF_eq] at h; exact Eq.trans (by kernel_rfl) h; cases h)
def ms62 : List (FuncId × Mode U) := (54, qaM_md) :: ms61
theorem known62 : Known kk env0 (modesOf ms62) := known_cons (by kernel_rfl) qaM_post known61
def qa4_sh5 : StSh := ⟨⟨[1, 3, 5, 16, 17, 18], [1, 3, 5, 4, 12], [⟨.cell 3 0, 20150, 9, .str⟩]⟩, [.ptr 1 0, .ptr 3 0, .ptr 5 0, .t (.slc (.st 46)), .t (.int .i64), .t (.int .i64)], [.blk 26 [.t (.slc (.st 46)), .t (.slc .str), .t (.slc (.st 38))], .blk 23 [.oslc 20150], .blk 74 [.clo 51 [.ptr 4 0, .ptr 3 0]], .blk 72 [.ptr 12 0], .mp .str (.int .i64), .row 9 .str]⟩
def qa4_o5 : List Out := [⟨.exit 0, ⟨⟨[1, 3, 5], [1, 3, 5, 4, 12], [⟨.cell 3 0, 20150, 9, .str⟩]⟩, [.ptr 1 0, .ptr 3 0, .ptr 5 0], [.blk 26 [.t (.slc (.st 46)), .t (.slc .str), .t (.slc (.st 38))], .blk 23 [.oslc 20150], .blk 74 [.clo 51 [.ptr 4 0, .ptr 3 0]], .blk 72 [.ptr 12 0], .mp .str (.int .i64), .row 9 .str]⟩⟩]
def qa4_b5 : Code := (nthLoop (bodyOf Tryz.f22) 0)
def qa4_rec5 (rec : List (TCell) → Int → Int → List (TCell) → List (List UInt8) → List (TThread) → List ((List UInt8) × (Int)) → List (List UInt8) → Option ((List (TCell)) × (List (List UInt8)) × (List (TThread)) × (List ((List UInt8) × (Int))) × (List (List UInt8)))) : List (TV U) → Option ((List (TCell)) × (List (List UInt8)) × (List (TThread)) × (List ((List UInt8) × (Int))) × (List (List UInt8)))
  | [⟨(.slc (.st 46)), a0⟩, ⟨(.int .i64), a1⟩, ⟨(.int .i64), a2⟩, ⟨(.slc (.st 46)), a3⟩, ⟨(.slc .str), a4⟩, ⟨(.slc (.st 38)), a5⟩, ⟨(.map .str (.int .i64)), a6⟩, ⟨(.slc .str), a7⟩] => rec a0 a1 a2 a3 a4 a5 a6 a7
  | _ => none
def qa4_enc5 : Nat → List (TV U) → Option ((List (TCell)) × (List (List UInt8)) × (List (TThread)) × (List ((List UInt8) × (Int))) × (List (List UInt8)))
  | 0, [⟨(.slc (.st 46)), a0⟩, ⟨(.slc .str), a1⟩, ⟨(.slc (.st 38)), a2⟩, ⟨(.map .str (.int .i64)), a3⟩, ⟨(.slc .str), a4⟩] => some (a0, a1, a2, a3, a4)
  | _, _ => none
def qa4_dec5 : (List (TCell)) × (List (List UInt8)) × (List (TThread)) × (List ((List UInt8) × (Int))) × (List (List UInt8)) → Nat × List (TV U) := fun x => (0, [⟨(.slc (.st 46)), x.1⟩, ⟨(.slc .str), x.2.1⟩, ⟨(.slc (.st 38)), x.2.2.1⟩, ⟨(.map .str (.int .i64)), x.2.2.2.1⟩, ⟨(.slc .str), x.2.2.2.2⟩])
def qa4_tr5 : (List (TCell)) × (List (List UInt8)) × (List (TThread)) × (List ((List UInt8) × (Int))) × (List (List UInt8)) → Tr (Nat × List (TV U)) := fun x => .ret (0, [⟨(.slc (.st 46)), x.1⟩, ⟨(.slc .str), x.2.1⟩, ⟨(.slc (.st 38)), x.2.2.1⟩, ⟨(.map .str (.int .i64)), x.2.2.2.1⟩, ⟨(.slc .str), x.2.2.2.2⟩])
def qa4_lp5 : Lift.Loop U := ⟨qa4_sh5, qa4_o5, fun ls => .get (qa4_rec5 qa4_l5 ls) qa4_tr5⟩
theorem qa4_ok5 : LoopR kk env0 Tryz.f22.ntmps qa4_b5 qa4_lp5 :=
  loop_of qa4_enc5 qa4_dec5 (fun n => qa4_rec5 (qa4_i5 n)) (kitOk_of eqOk mixed known62) (L := jnL) (loopsOk_of (bs := []) (by kernel_rfl) trivial) (fun _ => rfl) (by intro i qs r h; unfold qa4_enc5 at h; split at h <;> cases h <;> rfl)
    (by intro ls r h; unfold qa4_rec5 at h; split at h <;> cases h)
    (by intro n ls r h; unfold qa4_rec5 at h; split at h; exact (show _ = qa4_t5 (qa4_i5 n) _ _ _ _ _ _ _ _ from by kernel_rfl).trans h; cases h) (by rw [qa4_l5, sealF_eq])
def qa4_sh10 : StSh := ⟨⟨[1, 3, 5, 28, 29, 30], [1, 3, 5, 4, 12], [⟨.cell 3 0, 20150, 9, .str⟩]⟩, [.ptr 1 0, .ptr 3 0, .ptr 5 0, .t (.slc .str), .t (.int .i64), .t (.int .i64)], [.blk 26 [.t (.slc (.st 46)), .t (.slc .str), .t (.slc (.st 38))], .blk 23 [.oslc 20150], .blk 74 [.clo 51 [.ptr 4 0, .ptr 3 0]], .blk 72 [.ptr 12 0], .mp .str (.int .i64), .row 9 .str]⟩
def qa4_o10 : List Out := [⟨.exit 2, ⟨⟨[1, 3, 5], [1, 3, 5, 4, 12], [⟨.cell 3 0, 20150, 9, .str⟩]⟩, [.ptr 1 0, .ptr 3 0, .ptr 5 0], [.blk 26 [.t (.slc (.st 46)), .t (.slc .str), .t (.slc (.st 38))], .blk 23 [.oslc 20150], .blk 74 [.clo 51 [.ptr 4 0, .ptr 3 0]], .blk 72 [.ptr 12 0], .mp .str (.int .i64), .row 9 .str]⟩⟩]
def qa4_b10 : Code := (nthLoop (bodyOf Tryz.f22) 1)
def qa4_rec10 (rec : List (List UInt8) → Int → Int → List (TCell) → List (List UInt8) → List (TThread) → List ((List UInt8) × (Int)) → List (List UInt8) → Option ((List (TCell)) × (List (List UInt8)) × (List (TThread)) × (List ((List UInt8) × (Int))) × (List (List UInt8)))) : List (TV U) → Option ((List (TCell)) × (List (List UInt8)) × (List (TThread)) × (List ((List UInt8) × (Int))) × (List (List UInt8)))
  | [⟨(.slc .str), a0⟩, ⟨(.int .i64), a1⟩, ⟨(.int .i64), a2⟩, ⟨(.slc (.st 46)), a3⟩, ⟨(.slc .str), a4⟩, ⟨(.slc (.st 38)), a5⟩, ⟨(.map .str (.int .i64)), a6⟩, ⟨(.slc .str), a7⟩] => rec a0 a1 a2 a3 a4 a5 a6 a7
  | _ => none
def qa4_enc10 : Nat → List (TV U) → Option ((List (TCell)) × (List (List UInt8)) × (List (TThread)) × (List ((List UInt8) × (Int))) × (List (List UInt8)))
  | 0, [⟨(.slc (.st 46)), a0⟩, ⟨(.slc .str), a1⟩, ⟨(.slc (.st 38)), a2⟩, ⟨(.map .str (.int .i64)), a3⟩, ⟨(.slc .str), a4⟩] => some (a0, a1, a2, a3, a4)
  | _, _ => none
def qa4_dec10 : (List (TCell)) × (List (List UInt8)) × (List (TThread)) × (List ((List UInt8) × (Int))) × (List (List UInt8)) → Nat × List (TV U) := fun x => (0, [⟨(.slc (.st 46)), x.1⟩, ⟨(.slc .str), x.2.1⟩, ⟨(.slc (.st 38)), x.2.2.1⟩, ⟨(.map .str (.int .i64)), x.2.2.2.1⟩, ⟨(.slc .str), x.2.2.2.2⟩])
def qa4_tr10 : (List (TCell)) × (List (List UInt8)) × (List (TThread)) × (List ((List UInt8) × (Int))) × (List (List UInt8)) → Tr (Nat × List (TV U)) := fun x => .ret (0, [⟨(.slc (.st 46)), x.1⟩, ⟨(.slc .str), x.2.1⟩, ⟨(.slc (.st 38)), x.2.2.1⟩, ⟨(.map .str (.int .i64)), x.2.2.2.1⟩, ⟨(.slc .str), x.2.2.2.2⟩])
def qa4_lp10 : Lift.Loop U := ⟨qa4_sh10, qa4_o10, fun ls => .get (qa4_rec10 qa4_l10 ls) qa4_tr10⟩
theorem qa4_ok10 : LoopR kk env0 Tryz.f22.ntmps qa4_b10 qa4_lp10 :=
  loop_of qa4_enc10 qa4_dec10 (fun n => qa4_rec10 (qa4_i10 n)) (kitOk_of eqOk mixed known62) (L := jnL) (loopsOk_of (bs := []) (by kernel_rfl) trivial) (fun _ => rfl) (by intro i qs r h; unfold qa4_enc10 at h; split at h <;> cases h <;> rfl)
    (by intro ls r h; unfold qa4_rec10 at h; split at h <;> cases h)
    (by intro n ls r h; unfold qa4_rec10 at h; split at h; exact (show _ = qa4_t10 (qa4_i10 n) _ _ _ _ _ _ _ _ from by kernel_rfl).trans h; cases h) (by rw [qa4_l10, sealF_eq])
def qa4_sh15 : StSh := ⟨⟨[1, 3, 5, 39, 40, 41], [1, 3, 5, 4, 12], [⟨.cell 3 0, 20150, 9, .str⟩]⟩, [.ptr 1 0, .ptr 3 0, .ptr 5 0, .t (.slc (.st 38)), .t (.int .i64), .t (.int .i64)], [.blk 26 [.t (.slc (.st 46)), .t (.slc .str), .t (.slc (.st 38))], .blk 23 [.oslc 20150], .blk 74 [.clo 51 [.ptr 4 0, .ptr 3 0]], .blk 72 [.ptr 12 0], .mp .str (.int .i64), .row 9 .str]⟩
def qa4_o15 : List Out := [⟨.exit 4, ⟨⟨[1, 3, 5], [1, 3, 5, 4, 12], [⟨.cell 3 0, 20150, 9, .str⟩]⟩, [.ptr 1 0, .ptr 3 0, .ptr 5 0], [.blk 26 [.t (.slc (.st 46)), .t (.slc .str), .t (.slc (.st 38))], .blk 23 [.oslc 20150], .blk 74 [.clo 51 [.ptr 4 0, .ptr 3 0]], .blk 72 [.ptr 12 0], .mp .str (.int .i64), .row 9 .str]⟩⟩]
def qa4_b15 : Code := (nthLoop (bodyOf Tryz.f22) 2)
def qa4_rec15 (rec : List (TThread) → Int → Int → List (TCell) → List (List UInt8) → List (TThread) → List ((List UInt8) × (Int)) → List (List UInt8) → Option ((List (TCell)) × (List (List UInt8)) × (List (TThread)) × (List ((List UInt8) × (Int))) × (List (List UInt8)))) : List (TV U) → Option ((List (TCell)) × (List (List UInt8)) × (List (TThread)) × (List ((List UInt8) × (Int))) × (List (List UInt8)))
  | [⟨(.slc (.st 38)), a0⟩, ⟨(.int .i64), a1⟩, ⟨(.int .i64), a2⟩, ⟨(.slc (.st 46)), a3⟩, ⟨(.slc .str), a4⟩, ⟨(.slc (.st 38)), a5⟩, ⟨(.map .str (.int .i64)), a6⟩, ⟨(.slc .str), a7⟩] => rec a0 a1 a2 a3 a4 a5 a6 a7
  | _ => none
def qa4_enc15 : Nat → List (TV U) → Option ((List (TCell)) × (List (List UInt8)) × (List (TThread)) × (List ((List UInt8) × (Int))) × (List (List UInt8)))
  | 0, [⟨(.slc (.st 46)), a0⟩, ⟨(.slc .str), a1⟩, ⟨(.slc (.st 38)), a2⟩, ⟨(.map .str (.int .i64)), a3⟩, ⟨(.slc .str), a4⟩] => some (a0, a1, a2, a3, a4)
  | _, _ => none
def qa4_dec15 : (List (TCell)) × (List (List UInt8)) × (List (TThread)) × (List ((List UInt8) × (Int))) × (List (List UInt8)) → Nat × List (TV U) := fun x => (0, [⟨(.slc (.st 46)), x.1⟩, ⟨(.slc .str), x.2.1⟩, ⟨(.slc (.st 38)), x.2.2.1⟩, ⟨(.map .str (.int .i64)), x.2.2.2.1⟩, ⟨(.slc .str), x.2.2.2.2⟩])
def qa4_tr15 : (List (TCell)) × (List (List UInt8)) × (List (TThread)) × (List ((List UInt8) × (Int))) × (List (List UInt8)) → Tr (Nat × List (TV U)) := fun x => .ret (0, [⟨(.slc (.st 46)), x.1⟩, ⟨(.slc .str), x.2.1⟩, ⟨(.slc (.st 38)), x.2.2.1⟩, ⟨(.map .str (.int .i64)), x.2.2.2.1⟩, ⟨(.slc .str), x.2.2.2.2⟩])
def qa4_lp15 : Lift.Loop U := ⟨qa4_sh15, qa4_o15, fun ls => .get (qa4_rec15 qa4_l15 ls) qa4_tr15⟩
theorem qa4_ok15 : LoopR kk env0 Tryz.f22.ntmps qa4_b15 qa4_lp15 :=
  loop_of qa4_enc15 qa4_dec15 (fun n => qa4_rec15 (qa4_i15 n)) (kitOk_of eqOk mixed known62) (L := jnL) (loopsOk_of (bs := []) (by kernel_rfl) trivial) (fun _ => rfl) (by intro i qs r h; unfold qa4_enc15 at h; split at h <;> cases h <;> rfl)
    (by intro ls r h; unfold qa4_rec15 at h; split at h <;> cases h)
    (by intro n ls r h; unfold qa4_rec15 at h; split at h; exact (show _ = qa4_t15 (qa4_i15 n) _ _ _ _ _ _ _ _ from by kernel_rfl).trans h; cases h) (by rw [qa4_l15, sealF_eq])
def qa4_sh : StSh := ⟨⟨[0], [], []⟩, [.t (.st 26)], []⟩
def qa4_os : List StSh := [⟨⟨[0], [], [⟨.slot 0, 100000, 9, .str⟩]⟩, [.oslc 100000], [.row 9 .str]⟩]
def qa4_tr : (List (List UInt8)) → Tr (Nat × List (TV U)) := fun x => .ret (0, [⟨(.slc .str), x⟩])
def qa4_L : Nat → Option (Lift.Loop U) := fun n => bif Nat.beq n joinKey then some joinMark else bif Nat.beq n 5 then some qa4_lp5 else bif Nat.beq n 10 then some qa4_lp10 else bif Nat.beq n 15 then some qa4_lp15 else none
def qa4_enc : Nat → List (TV U) → Option ((List (List UInt8)))
  | 0, [⟨(.slc .str), a0⟩] => some a0
  | _, _ => none
def qa4_dec : (List (List UInt8)) → Nat × List (TV U) := fun x => (0, [⟨(.slc .str), x⟩])
def qa4_in : List (TV U) → Option ((List (List UInt8)))
  | [⟨(.st 26), a0⟩] => qa4 a0
  | _ => none
def qa4_md : Mode U := ⟨qa4_sh, [], qa4_os, fun ls => .get (qa4_in ls) qa4_tr⟩
theorem qa4_post : ModeOk kk env0 22 qa4_md :=
  fn_of (fn := Tryz.f22) qa4_enc qa4_dec (kitOk_of eqOk mixed known62) (by kernel_rfl) (L := qa4_L) (loopsOk_of (bs := [qa4_b5, qa4_b10, qa4_b15]) (by kernel_rfl) ⟨.inr ⟨_, by kernel_rfl, LoopOk.of_round (qa4_ok5)⟩, .inr ⟨_, by kernel_rfl, LoopOk.of_round (qa4_ok10)⟩, .inr ⟨_, by kernel_rfl, LoopOk.of_round (qa4_ok15)⟩, trivial⟩) (fun _ => rfl) (by intro i qs r h; unfold qa4_enc at h; split at h <;> cases h <;> rfl)
    (by intro ls r h; unfold qa4_in at h; split at h; rw [qa4, sealF_eq] at h; exact Eq.trans (by kernel_rfl) h; cases h)
def ms63 : List (FuncId × Mode U) := (22, qa4_md) :: ms62
theorem known63 : Known kk env0 (modesOf ms63) := known_cons (by kernel_rfl) qa4_post known62
def qaV_sh : StSh := ⟨⟨[0], [], []⟩, [.t (.st 46)], []⟩
def qaV_os : List StSh := [⟨⟨[0], [], []⟩, [.t (.st 46)], []⟩]
def qaV_tr : TCell → Tr (Nat × List (TV U)) := fun x => .ret (0, [⟨(.st 46), x⟩])
def qaV_enc : Nat → List (TV U) → Option (TCell)
  | 0, [⟨(.st 46), a0⟩] => some a0
  | _, _ => none
def qaV_dec : TCell → Nat × List (TV U) := fun x => (0, [⟨(.st 46), x⟩])
def qaV_in : List (TV U) → Option (TCell)
  | [⟨(.st 46), a0⟩] => qaV a0
  | _ => none
def qaV_md : Mode U := ⟨qaV_sh, [], qaV_os, fun ls => .get (qaV_in ls) qaV_tr⟩
theorem qaV_post : ModeOk kk env0 41 qaV_md :=
  fn_of (fn := Tryz.f41) qaV_enc qaV_dec (kitOk_of eqOk mixed known63) (by kernel_rfl) (L := jnL) (loopsOk_of (bs := []) (by kernel_rfl) trivial) (fun _ => rfl) (by intro i qs r h; unfold qaV_enc at h; split at h <;> cases h <;> rfl)
    (by intro ls r h; unfold qaV_in at h; split at h; rw [qaV, sealF_eq] at h; exact Eq.trans (by kernel_rfl) h; cases h)
def ms64 : List (FuncId × Mode U) := (41, qaV_md) :: ms63
theorem known64 : Known kk env0 (modesOf ms64) := known_cons (by kernel_rfl) qaV_post known63
def qaI_sh : StSh := ⟨⟨[0], [], [⟨.slot 0, 0, 46, (.st 46)⟩]⟩, [.oslc 0], [.row 46 (.st 46)]⟩
def qaI_os : List StSh := [⟨⟨[0], [], [⟨.slot 0, 100000, 46, (.st 46)⟩]⟩, [.oslc 100000], [.row 46 (.st 46)]⟩]
def qaI_tr : (List (TCell)) → Tr (Nat × List (TV U)) := fun x => .ret (0, [⟨(.slc (.st 46)), x⟩])
def qaI_enc : Nat → List (TV U) → Option ((List (TCell)))
  | 0, [⟨(.slc (.st 46)), a0⟩] => some a0
  | _, _ => none
def qaI_dec : (List (TCell)) → Nat × List (TV U) := fun x => (0, [⟨(.slc (.st 46)), x⟩])
def qaI_in : List (TV U) → Option ((List (TCell)))
  | [⟨(.slc (.st 46)), a0⟩] => qaI a0
  | _ => none
def qaI_md : Mode U := ⟨qaI_sh, [], qaI_os, fun ls => .get (qaI_in ls) qaI_tr⟩
theorem qaI_post : ModeOk kk env0 69 qaI_md :=
  fn_of (fn := Tryz.f69) qaI_enc qaI_dec (kitOk_of eqOk mixed known64) (by kernel_rfl) (L := jnL) (loopsOk_of (bs := []) (by kernel_rfl) trivial) (fun _ => rfl) (by intro i qs r h; unfold qaI_enc at h; split at h <;> cases h <;> rfl)
    (by intro ls r h; unfold qaI_in at h; split at h; rw [qaI, sealF_eq] at h; exact Eq.trans (by kernel_rfl) h; cases h)
def ms65 : List (FuncId × Mode U) := (69, qaI_md) :: ms64
theorem known65 : Known kk env0 (modesOf ms65) := known_cons (by kernel_rfl) qaI_post known64
def qbj_sh3 : StSh := ⟨⟨[1, 5, 8, 9, 10], [], [⟨.slot 5, 5, 46, (.st 46)⟩]⟩, [.fnc 41, .oslc 5, .t (.slc (.st 46)), .t (.int .i64), .t (.int .i64)], [.row 46 (.st 46)]⟩
def qbj_o3 : List Out := [⟨.exit 0, ⟨⟨[5], [], [⟨.slot 5, 5, 46, (.st 46)⟩]⟩, [.oslc 5], [.row 46 (.st 46)]⟩⟩]
def qbj_b3 : Code := (nthLoop (bodyOf Tryz.f40) 0)
def qbj_rec3 (rec : List (TCell) → Int → Int → List (TCell) → Option ((List (TCell)))) : List (TV U) → Option ((List (TCell)))
  | [⟨(.slc (.st 46)), a0⟩, ⟨(.int .i64), a1⟩, ⟨(.int .i64), a2⟩, ⟨(.slc (.st 46)), a3⟩] => rec a0 a1 a2 a3
  | _ => none
def qbj_enc3 : Nat → List (TV U) → Option ((List (TCell)))
  | 0, [⟨(.slc (.st 46)), a0⟩] => some a0
  | _, _ => none
def qbj_dec3 : (List (TCell)) → Nat × List (TV U) := fun x => (0, [⟨(.slc (.st 46)), x⟩])
def qbj_tr3 : (List (TCell)) → Tr (Nat × List (TV U)) := fun x => .ret (0, [⟨(.slc (.st 46)), x⟩])
def qbj_lp3 : Lift.Loop U := ⟨qbj_sh3, qbj_o3, fun ls => .get (qbj_rec3 qbj_l3 ls) qbj_tr3⟩
theorem qbj_ok3 : LoopR kk env0 Tryz.f40.ntmps qbj_b3 qbj_lp3 :=
  loop_of qbj_enc3 qbj_dec3 (fun n => qbj_rec3 (qbj_i3 n)) (kitOk_of eqOk mixed known65) (L := jnL) (loopsOk_of (bs := []) (by kernel_rfl) trivial) (fun _ => rfl) (by intro i qs r h; unfold qbj_enc3 at h; split at h <;> cases h <;> rfl)
    (by intro ls r h; unfold qbj_rec3 at h; split at h <;> cases h)
    (by intro n ls r h; unfold qbj_rec3 at h; split at h; exact (show _ = qbj_t3 (qbj_i3 n) _ _ _ _ from by kernel_rfl).trans h; cases h) (by rw [qbj_l3, sealF_eq])
def qbj_sh : StSh := ⟨⟨[0, 1], [], []⟩, [.t (.slc (.st 46)), .fnc 41], []⟩
def qbj_os : List StSh := [⟨⟨[0], [], [⟨.slot 0, 100000, 46, (.st 46)⟩]⟩, [.oslc 100000], [.row 46 (.st 46)]⟩]
def qbj_tr : (List (TCell)) → Tr (Nat × List (TV U)) := fun x => .ret (0, [⟨(.slc (.st 46)), x⟩])
def qbj_L : Nat → Option (Lift.Loop U) := fun n => bif Nat.beq n joinKey then some joinMark else bif Nat.beq n 3 then some qbj_lp3 else none
def qbj_enc : Nat → List (TV U) → Option ((List (TCell)))
  | 0, [⟨(.slc (.st 46)), a0⟩] => some a0
  | _, _ => none
def qbj_dec : (List (TCell)) → Nat × List (TV U) := fun x => (0, [⟨(.slc (.st 46)), x⟩])
def qbj_in : List (TV U) → Option ((List (TCell)))
  | [⟨(.slc (.st 46)), a0⟩] => qbj a0
  | _ => none
def qbj_md : Mode U := ⟨qbj_sh, [], qbj_os, fun ls => .get (qbj_in ls) qbj_tr⟩
theorem qbj_post : ModeOk kk env0 40 qbj_md :=
  fn_of (fn := Tryz.f40) qbj_enc qbj_dec (kitOk_of eqOk mixed known65) (by kernel_rfl) (L := qbj_L) (loopsOk_of (bs := [qbj_b3]) (by kernel_rfl) ⟨.inr ⟨_, by kernel_rfl, LoopOk.of_round (qbj_ok3)⟩, trivial⟩) (fun _ => rfl) (by intro i qs r h; unfold qbj_enc at h; split at h <;> cases h <;> rfl)
    (by intro ls r h; unfold qbj_in at h; split at h; rw [qbj, sealF_eq] at h; exact Eq.trans (by kernel_rfl) h; cases h)
def ms66 : List (FuncId × Mode U) := (40, qbj_md) :: ms65
theorem known66 : Known kk env0 (modesOf ms66) := known_cons (by kernel_rfl) qbj_post known65
def qaW_sh : StSh := ⟨⟨[0], [], []⟩, [.t .str], []⟩
def qaW_os : List StSh := [⟨⟨[0], [], []⟩, [.t .str], []⟩]
def qaW_tr : (List UInt8) → Tr (Nat × List (TV U)) := fun x => .ret (0, [⟨.str, x⟩])
def qaW_enc : Nat → List (TV U) → Option ((List UInt8))
  | 0, [⟨.str, a0⟩] => some a0
  | _, _ => none
def qaW_dec : (List UInt8) → Nat × List (TV U) := fun x => (0, [⟨.str, x⟩])
def qaW_in : List (TV U) → Option ((List UInt8))
  | [⟨.str, a0⟩] => qaW a0
  | _ => none
def qaW_md : Mode U := ⟨qaW_sh, [], qaW_os, fun ls => .get (qaW_in ls) qaW_tr⟩
theorem qaW_post : ModeOk kk env0 43 qaW_md :=
  fn_of (fn := Tryz.f43) qaW_enc qaW_dec (kitOk_of eqOk mixed known66) (by kernel_rfl) (L := jnL) (loopsOk_of (bs := []) (by kernel_rfl) trivial) (fun _ => rfl) (by intro i qs r h; unfold qaW_enc at h; split at h <;> cases h <;> rfl)
    (by intro ls r h; unfold qaW_in at h; split at h; rw [qaW, sealF_eq] at h; exact Eq.trans (by kernel_rfl) h; cases h)
def ms67 : List (FuncId × Mode U) := (43, qaW_md) :: ms66
theorem known67 : Known kk env0 (modesOf ms67) := known_cons (by kernel_rfl) qaW_post known66
def qbn_sh3 : StSh := ⟨⟨[1, 5, 8, 9, 10], [], [⟨.slot 5, 5, 9, .str⟩]⟩, [.fnc 43, .oslc 5, .t (.slc .str), .t (.int .i64), .t (.int .i64)], [.row 9 .str]⟩
def qbn_o3 : List Out := [⟨.exit 0, ⟨⟨[5], [], [⟨.slot 5, 5, 9, .str⟩]⟩, [.oslc 5], [.row 9 .str]⟩⟩]
def qbn_b3 : Code := (nthLoop (bodyOf Tryz.f42) 0)
def qbn_rec3 (rec : List (List UInt8) → Int → Int → List (List UInt8) → Option ((List (List UInt8)))) : List (TV U) → Option ((List (List UInt8)))
  | [⟨(.slc .str), a0⟩, ⟨(.int .i64), a1⟩, ⟨(.int .i64), a2⟩, ⟨(.slc .str), a3⟩] => rec a0 a1 a2 a3
  | _ => none
def qbn_enc3 : Nat → List (TV U) → Option ((List (List UInt8)))
  | 0, [⟨(.slc .str), a0⟩] => some a0
  | _, _ => none
def qbn_dec3 : (List (List UInt8)) → Nat × List (TV U) := fun x => (0, [⟨(.slc .str), x⟩])
def qbn_tr3 : (List (List UInt8)) → Tr (Nat × List (TV U)) := fun x => .ret (0, [⟨(.slc .str), x⟩])
def qbn_lp3 : Lift.Loop U := ⟨qbn_sh3, qbn_o3, fun ls => .get (qbn_rec3 qbn_l3 ls) qbn_tr3⟩
theorem qbn_ok3 : LoopR kk env0 Tryz.f42.ntmps qbn_b3 qbn_lp3 :=
  loop_of qbn_enc3 qbn_dec3 (fun n => qbn_rec3 (qbn_i3 n)) (kitOk_of eqOk mixed known67) (L := jnL) (loopsOk_of (bs := []) (by kernel_rfl) trivial) (fun _ => rfl) (by intro i qs r h; unfold qbn_enc3 at h; split at h <;> cases h <;> rfl)
    (by intro ls r h; unfold qbn_rec3 at h; split at h <;> cases h)
    (by intro n ls r h; unfold qbn_rec3 at h; split at h; exact (show _ = qbn_t3 (qbn_i3 n) _ _ _ _ from by kernel_rfl).trans h; cases h) (by rw [qbn_l3, sealF_eq])
def qbn_sh : StSh := ⟨⟨[0, 1], [], []⟩, [.t (.slc .str), .fnc 43], []⟩
def qbn_os : List StSh := [⟨⟨[0], [], [⟨.slot 0, 100000, 9, .str⟩]⟩, [.oslc 100000], [.row 9 .str]⟩]
def qbn_tr : (List (List UInt8)) → Tr (Nat × List (TV U)) := fun x => .ret (0, [⟨(.slc .str), x⟩])
def qbn_L : Nat → Option (Lift.Loop U) := fun n => bif Nat.beq n joinKey then some joinMark else bif Nat.beq n 3 then some qbn_lp3 else none
def qbn_enc : Nat → List (TV U) → Option ((List (List UInt8)))
  | 0, [⟨(.slc .str), a0⟩] => some a0
  | _, _ => none
def qbn_dec : (List (List UInt8)) → Nat × List (TV U) := fun x => (0, [⟨(.slc .str), x⟩])
def qbn_in : List (TV U) → Option ((List (List UInt8)))
  | [⟨(.slc .str), a0⟩] => qbn a0
  | _ => none
def qbn_md : Mode U := ⟨qbn_sh, [], qbn_os, fun ls => .get (qbn_in ls) qbn_tr⟩
theorem qbn_post : ModeOk kk env0 42 qbn_md :=
  fn_of (fn := Tryz.f42) qbn_enc qbn_dec (kitOk_of eqOk mixed known67) (by kernel_rfl) (L := qbn_L) (loopsOk_of (bs := [qbn_b3]) (by kernel_rfl) ⟨.inr ⟨_, by kernel_rfl, LoopOk.of_round (qbn_ok3)⟩, trivial⟩) (fun _ => rfl) (by intro i qs r h; unfold qbn_enc at h; split at h <;> cases h <;> rfl)
    (by intro ls r h; unfold qbn_in at h; split at h; rw [qbn, sealF_eq] at h; exact Eq.trans (by kernel_rfl) h; cases h)
def ms68 : List (FuncId × Mode U) := (42, qbn_md) :: ms67
theorem known68 : Known kk env0 (modesOf ms68) := known_cons (by kernel_rfl) qbn_post known67
def qbb_sh : StSh := ⟨⟨[0], [], []⟩, [.t (.st 41)], []⟩
def qbb_os : List StSh := [⟨⟨[0], [], [⟨.sub 0 3, 100400, 41, (.st 1041)⟩]⟩, [.agg [.t (.int .i64), .t (.int .i64), .t .str, .oslc 100400]], [.row 41 (.st 1041)]⟩]
def qbb_tr : Int × Int × (List UInt8) × (List (TExpr)) → Tr (Nat × List (TV U)) := fun x => .ret (0, [⟨(.int .i64), x.1⟩, ⟨(.int .i64), x.2.1⟩, ⟨.str, x.2.2.1⟩, ⟨(.slc (.st 1041)), x.2.2.2⟩])
def qbb_in (rec_qbb : TExpr → Option (Int × Int × (List UInt8) × (List (TExpr)))) : List (TV U) → Option (Int × Int × (List UInt8) × (List (TExpr)))
  | [⟨(.st 41), a0⟩] => rec_qbb a0
  | _ => none
def qbb_rmd (rec_qbb : TExpr → Option (Int × Int × (List UInt8) × (List (TExpr)))) : Mode U := ⟨qbb_sh, [], qbb_os, fun ls => .get (qbb_in rec_qbb ls) qbb_tr⟩
def ms69 (rec_qbb : TExpr → Option (Int × Int × (List UInt8) × (List (TExpr)))) : List (FuncId × Mode U) := (72, (qbb_rmd rec_qbb)) :: ms68
theorem known69 (rec_qbb : TExpr → Option (Int × Int × (List UInt8) × (List (TExpr)))) (hrec_qbb : ModeOk kk env0 72 (qbb_rmd rec_qbb)) : Known kk env0 (modesOf (ms69 rec_qbb)) := known_cons (by kernel_rfl) hrec_qbb known68
def qaJ_sh : StSh := ⟨⟨[0], [], [⟨.slot 0, 0, 41, (.st 1041)⟩]⟩, [.oslc 0], [.row 41 (.st 1041)]⟩
def qaJ_os : List StSh := [⟨⟨[0], [], [⟨.slot 0, 100000, 41, (.st 1041)⟩]⟩, [.oslc 100000], [.row 41 (.st 1041)]⟩]
def qaJ_tr : (List (TExpr)) → Tr (Nat × List (TV U)) := fun x => .ret (0, [⟨(.slc (.st 1041)), x⟩])
def qaJ_enc : Nat → List (TV U) → Option ((List (TExpr)))
  | 0, [⟨(.slc (.st 1041)), a0⟩] => some a0
  | _, _ => none
def qaJ_dec : (List (TExpr)) → Nat × List (TV U) := fun x => (0, [⟨(.slc (.st 1041)), x⟩])
def qaJ_in (rec_qbb : TExpr → Option (Int × Int × (List UInt8) × (List (TExpr)))) : List (TV U) → Option ((List (TExpr)))
  | [⟨(.slc (.st 1041)), a0⟩] => qaJ rec_qbb a0
  | _ => none
def qaJ_md (rec_qbb : TExpr → Option (Int × Int × (List UInt8) × (List (TExpr)))) : Mode U := ⟨qaJ_sh, [], qaJ_os, fun ls => .get (qaJ_in rec_qbb ls) qaJ_tr⟩
theorem qaJ_post (rec_qbb : TExpr → Option (Int × Int × (List UInt8) × (List (TExpr)))) (hrec_qbb : ModeOk kk env0 72 (qbb_rmd rec_qbb)) : ModeOk kk env0 93 (qaJ_md rec_qbb) :=
  fn_of (fn := Tryz.f93) qaJ_enc qaJ_dec (kitOk_of eqOk mixed (known69 rec_qbb hrec_qbb)) (by kernel_rfl) (L := jnL) (loopsOk_of (bs := []) (by kernel_rfl) trivial) (fun _ => rfl) (by intro i qs r h; unfold qaJ_enc at h; split at h <;> cases h <;> rfl)
    (by intro ls r h; unfold qaJ_in at h; split at h; rw [qaJ, sealF_eq] at h; exact Eq.trans (by kernel_rfl) h; cases h)
def ms70 (rec_qbb : TExpr → Option (Int × Int × (List UInt8) × (List (TExpr)))) : List (FuncId × Mode U) := (93, (qaJ_md rec_qbb)) :: (ms69 rec_qbb)
theorem known70 (rec_qbb : TExpr → Option (Int × Int × (List UInt8) × (List (TExpr)))) (hrec_qbb : ModeOk kk env0 72 (qbb_rmd rec_qbb)) : Known kk env0 (modesOf (ms70 rec_qbb)) := known_cons (by kernel_rfl) (qaJ_post rec_qbb hrec_qbb) (known69 rec_qbb hrec_qbb)
def qbk_sh3 : StSh := ⟨⟨[1, 5, 8, 9, 10], [], [⟨.slot 5, 5, 41, (.st 1041)⟩]⟩, [.fnc 72, .oslc 5, .t (.slc (.st 41)), .t (.int .i64), .t (.int .i64)], [.row 41 (.st 1041)]⟩
def qbk_o3 : List Out := [⟨.exit 0, ⟨⟨[5], [], [⟨.slot 5, 5, 41, (.st 1041)⟩]⟩, [.oslc 5], [.row 41 (.st 1041)]⟩⟩]
def qbk_b3 : Code := (nthLoop (bodyOf Tryz.f83) 0)
def qbk_rec3 (rec : List (TExpr) → Int → Int → List (TExpr) → Option ((List (TExpr)))) : List (TV U) → Option ((List (TExpr)))
  | [⟨(.slc (.st 41)), a0⟩, ⟨(.int .i64), a1⟩, ⟨(.int .i64), a2⟩, ⟨(.slc (.st 1041)), a3⟩] => rec a0 a1 a2 a3
  | _ => none
def qbk_enc3 : Nat → List (TV U) → Option ((List (TExpr)))
  | 0, [⟨(.slc (.st 1041)), a0⟩] => some a0
  | _, _ => none
def qbk_dec3 : (List (TExpr)) → Nat × List (TV U) := fun x => (0, [⟨(.slc (.st 1041)), x⟩])
def qbk_tr3 : (List (TExpr)) → Tr (Nat × List (TV U)) := fun x => .ret (0, [⟨(.slc (.st 1041)), x⟩])
def qbk_lp3 (rec_qbb : TExpr → Option (Int × Int × (List UInt8) × (List (TExpr)))) : Lift.Loop U := ⟨qbk_sh3, qbk_o3, fun ls => .get (qbk_rec3 (qbk_l3 rec_qbb) ls) qbk_tr3⟩
theorem qbk_ok3 (rec_qbb : TExpr → Option (Int × Int × (List UInt8) × (List (TExpr)))) (hrec_qbb : ModeOk kk env0 72 (qbb_rmd rec_qbb)) : LoopR kk env0 Tryz.f83.ntmps qbk_b3 (qbk_lp3 rec_qbb) :=
  loop_of qbk_enc3 qbk_dec3 (fun n => qbk_rec3 (qbk_i3 rec_qbb n)) (kitOk_of eqOk mixed (known70 rec_qbb hrec_qbb)) (L := jnL) (loopsOk_of (bs := []) (by kernel_rfl) trivial) (fun _ => rfl) (by intro i qs r h; unfold qbk_enc3 at h; split at h <;> cases h <;> rfl)
    (by intro ls r h; unfold qbk_rec3 at h; split at h <;> cases h)
    (by intro n ls r h; unfold qbk_rec3 at h; split at h; exact (show _ = qbk_t3 rec_qbb (qbk_i3 rec_qbb n) _ _ _ _ from by kernel_rfl).trans h; cases h) (by rw [qbk_l3, sealF_eq])
def qbk_sh : StSh := ⟨⟨[0, 1], [], []⟩, [.t (.slc (.st 41)), .fnc 72], []⟩
def qbk_os : List StSh := [⟨⟨[0], [], [⟨.slot 0, 100000, 41, (.st 1041)⟩]⟩, [.oslc 100000], [.row 41 (.st 1041)]⟩]
def qbk_tr : (List (TExpr)) → Tr (Nat × List (TV U)) := fun x => .ret (0, [⟨(.slc (.st 1041)), x⟩])
def qbk_L (rec_qbb : TExpr → Option (Int × Int × (List UInt8) × (List (TExpr)))) : Nat → Option (Lift.Loop U) := fun n => bif Nat.beq n joinKey then some joinMark else bif Nat.beq n 3 then some (qbk_lp3 rec_qbb) else none
def qbk_enc : Nat → List (TV U) → Option ((List (TExpr)))
  | 0, [⟨(.slc (.st 1041)), a0⟩] => some a0
  | _, _ => none
def qbk_dec : (List (TExpr)) → Nat × List (TV U) := fun x => (0, [⟨(.slc (.st 1041)), x⟩])
def qbk_in (rec_qbb : TExpr → Option (Int × Int × (List UInt8) × (List (TExpr)))) : List (TV U) → Option ((List (TExpr)))
  | [⟨(.slc (.st 41)), a0⟩] => qbk rec_qbb a0
  | _ => none
def qbk_md (rec_qbb : TExpr → Option (Int × Int × (List UInt8) × (List (TExpr)))) : Mode U := ⟨qbk_sh, [], qbk_os, fun ls => .get (qbk_in rec_qbb ls) qbk_tr⟩
theorem qbk_post (rec_qbb : TExpr → Option (Int × Int × (List UInt8) × (List (TExpr)))) (hrec_qbb : ModeOk kk env0 72 (qbb_rmd rec_qbb)) : ModeOk kk env0 83 (qbk_md rec_qbb) :=
  fn_of (fn := Tryz.f83) qbk_enc qbk_dec (kitOk_of eqOk mixed (known70 rec_qbb hrec_qbb)) (by kernel_rfl) (L := (qbk_L rec_qbb)) (loopsOk_of (bs := [qbk_b3]) (by kernel_rfl) ⟨.inr ⟨_, by kernel_rfl, LoopOk.of_round (qbk_ok3 rec_qbb hrec_qbb)⟩, trivial⟩) (fun _ => rfl) (by intro i qs r h; unfold qbk_enc at h; split at h <;> cases h <;> rfl)
    (by intro ls r h; unfold qbk_in at h; split at h; rw [qbk, sealF_eq] at h; exact Eq.trans (by kernel_rfl) h; cases h)
def ms71 (rec_qbb : TExpr → Option (Int × Int × (List UInt8) × (List (TExpr)))) : List (FuncId × Mode U) := (83, (qbk_md rec_qbb)) :: (ms70 rec_qbb)
theorem known71 (rec_qbb : TExpr → Option (Int × Int × (List UInt8) × (List (TExpr)))) (hrec_qbb : ModeOk kk env0 72 (qbb_rmd rec_qbb)) : Known kk env0 (modesOf (ms71 rec_qbb)) := known_cons (by kernel_rfl) (qbk_post rec_qbb hrec_qbb) (known70 rec_qbb hrec_qbb)
def qbb_enc : Nat → List (TV U) → Option (Int × Int × (List UInt8) × (List (TExpr)))
  | 0, [⟨(.int .i64), a0⟩, ⟨(.int .i64), a1⟩, ⟨.str, a2⟩, ⟨(.slc (.st 1041)), a3⟩] => some (a0, a1, a2, a3)
  | _, _ => none
def qbb_dec : Int × Int × (List UInt8) × (List (TExpr)) → Nat × List (TV U) := fun x => (0, [⟨(.int .i64), x.1⟩, ⟨(.int .i64), x.2.1⟩, ⟨.str, x.2.2.1⟩, ⟨(.slc (.st 1041)), x.2.2.2⟩])
def qbb_md : Mode U := qbb_rmd qbb
theorem qbb_step (rec_qbb : TExpr → Option (Int × Int × (List UInt8) × (List (TExpr)))) (hrec_qbb : ModeOk kk env0 72 (qbb_rmd rec_qbb)) : LoopsOk (Kit.withModes kk (modesOf (ms71 rec_qbb))) env0 Tryz.f72.ntmps jnL (bodyOf Tryz.f72) := loopsOk_of (bs := []) (by kernel_rfl) trivial
theorem qbb_post : ModeOk kk env0 72 (qbb_rmd qbb) :=
  rec_of (K := kk) (F := qbb) qbb_rmd qbb_i (by rw [qbb, sealF_eq]) (rec_zero (by intro ls r h; unfold qbb_in at h; split at h <;> cases h)) (fun n ih => fn_of (fn := Tryz.f72) qbb_enc qbb_dec (kitOk_of eqOk mixed (known71 (qbb_i n) ih)) (by kernel_rfl) (qbb_step (qbb_i n) ih) (fun _ => rfl) (by intro i qs r h; unfold qbb_enc at h; split at h <;> cases h <;> rfl)
    (by intro ls r h; unfold qbb_in at h; split at h; exact (show _ = qbb_f (qbb_i n) _ from by kernel_rfl).trans h; cases h))
def ms72 : List (FuncId × Mode U) := (72, qbb_md) :: ms68
theorem known72 : Known kk env0 (modesOf ms72) := known_cons (by kernel_rfl) qbb_post known68
def qbl_sh : StSh := ⟨⟨[0, 1], [], []⟩, [.t (.slc (.st 43)), .fnc 47], []⟩
def qbl_os : List StSh := [⟨⟨[0], [], [⟨.slot 0, 100000, 43, (.st 1043)⟩]⟩, [.oslc 100000], [.row 43 (.st 1043)]⟩]
def qbl_tr : (List (TStmt)) → Tr (Nat × List (TV U)) := fun x => .ret (0, [⟨(.slc (.st 1043)), x⟩])
def qbl_in (rec_qbl : List (TStmt) → Option ((List (TStmt)))) : List (TV U) → Option ((List (TStmt)))
  | [⟨(.slc (.st 43)), a0⟩] => rec_qbl a0
  | _ => none
def qbl_rmd (rec_qbl : List (TStmt) → Option ((List (TStmt)))) : Mode U := ⟨qbl_sh, [], qbl_os, fun ls => .get (qbl_in rec_qbl ls) qbl_tr⟩
def ms73 (rec_qbl : List (TStmt) → Option ((List (TStmt)))) : List (FuncId × Mode U) := (46, (qbl_rmd rec_qbl)) :: ms72
theorem known73 (rec_qbl : List (TStmt) → Option ((List (TStmt)))) (hrec_qbl : ModeOk kk env0 46 (qbl_rmd rec_qbl)) : Known kk env0 (modesOf (ms73 rec_qbl)) := known_cons (by kernel_rfl) hrec_qbl known72
def qbc_sh : StSh := ⟨⟨[0], [], []⟩, [.t (.st 43)], []⟩
def qbc_os : List StSh := [⟨⟨[0], [], [⟨.sub 0 6, 100700, 41, (.st 1041)⟩, ⟨.sub 0 8, 100900, 43, (.st 1043)⟩, ⟨.sub 0 9, 101000, 43, (.st 1043)⟩]⟩, [.agg [.t (.int .i64), .t .str, .t .str, .t (.int .i64), .t (.int .i64), .t .str, .oslc 100700, .t (.int .i64), .oslc 100900, .oslc 101000]], [.row 41 (.st 1041), .row 43 (.st 1043), .row 43 (.st 1043)]⟩]
def qbc_tr : Int × (List UInt8) × (List UInt8) × Int × Int × (List UInt8) × Int × (List (TExpr)) × (List (TStmt)) × (List (TStmt)) → Tr (Nat × List (TV U)) := fun x => .ret (0, [⟨(.int .i64), x.1⟩, ⟨.str, x.2.1⟩, ⟨.str, x.2.2.1⟩, ⟨(.int .i64), x.2.2.2.1⟩, ⟨(.int .i64), x.2.2.2.2.1⟩, ⟨.str, x.2.2.2.2.2.1⟩, ⟨(.int .i64), x.2.2.2.2.2.2.1⟩, ⟨(.slc (.st 1041)), x.2.2.2.2.2.2.2.1⟩, ⟨(.slc (.st 1043)), x.2.2.2.2.2.2.2.2.1⟩, ⟨(.slc (.st 1043)), x.2.2.2.2.2.2.2.2.2⟩])
def qbc_enc : Nat → List (TV U) → Option (Int × (List UInt8) × (List UInt8) × Int × Int × (List UInt8) × Int × (List (TExpr)) × (List (TStmt)) × (List (TStmt)))
  | 0, [⟨(.int .i64), a0⟩, ⟨.str, a1⟩, ⟨.str, a2⟩, ⟨(.int .i64), a3⟩, ⟨(.int .i64), a4⟩, ⟨.str, a5⟩, ⟨(.int .i64), a6⟩, ⟨(.slc (.st 1041)), a7⟩, ⟨(.slc (.st 1043)), a8⟩, ⟨(.slc (.st 1043)), a9⟩] => some (a0, a1, a2, a3, a4, a5, a6, a7, a8, a9)
  | _, _ => none
def qbc_dec : Int × (List UInt8) × (List UInt8) × Int × Int × (List UInt8) × Int × (List (TExpr)) × (List (TStmt)) × (List (TStmt)) → Nat × List (TV U) := fun x => (0, [⟨(.int .i64), x.1⟩, ⟨.str, x.2.1⟩, ⟨.str, x.2.2.1⟩, ⟨(.int .i64), x.2.2.2.1⟩, ⟨(.int .i64), x.2.2.2.2.1⟩, ⟨.str, x.2.2.2.2.2.1⟩, ⟨(.int .i64), x.2.2.2.2.2.2.1⟩, ⟨(.slc (.st 1041)), x.2.2.2.2.2.2.2.1⟩, ⟨(.slc (.st 1043)), x.2.2.2.2.2.2.2.2.1⟩, ⟨(.slc (.st 1043)), x.2.2.2.2.2.2.2.2.2⟩])
def qbc_in (rec_qbl : List (TStmt) → Option ((List (TStmt)))) : List (TV U) → Option (Int × (List UInt8) × (List UInt8) × Int × Int × (List UInt8) × Int × (List (TExpr)) × (List (TStmt)) × (List (TStmt)))
  | [⟨(.st 43), a0⟩] => qbc rec_qbl a0
  | _ => none
def qbc_md (rec_qbl : List (TStmt) → Option ((List (TStmt)))) : Mode U := ⟨qbc_sh, [], qbc_os, fun ls => .get (qbc_in rec_qbl ls) qbc_tr⟩
theorem qbc_post (rec_qbl : List (TStmt) → Option ((List (TStmt)))) (hrec_qbl : ModeOk kk env0 46 (qbl_rmd rec_qbl)) : ModeOk kk env0 47 (qbc_md rec_qbl) :=
  fn_of (fn := Tryz.f47) qbc_enc qbc_dec (kitOk_of eqOk mixed (known73 rec_qbl hrec_qbl)) (by kernel_rfl) (L := jnL) (loopsOk_of (bs := []) (by kernel_rfl) trivial) (fun _ => rfl) (by intro i qs r h; unfold qbc_enc at h; split at h <;> cases h <;> rfl)
    (by intro ls r h; unfold qbc_in at h; split at h; rw [qbc, sealF_eq] at h; exact Eq.trans (by kernel_rfl) h; cases h)
def ms74 (rec_qbl : List (TStmt) → Option ((List (TStmt)))) : List (FuncId × Mode U) := (47, (qbc_md rec_qbl)) :: (ms73 rec_qbl)
theorem known74 (rec_qbl : List (TStmt) → Option ((List (TStmt)))) (hrec_qbl : ModeOk kk env0 46 (qbl_rmd rec_qbl)) : Known kk env0 (modesOf (ms74 rec_qbl)) := known_cons (by kernel_rfl) (qbc_post rec_qbl hrec_qbl) (known73 rec_qbl hrec_qbl)
def qaK_sh : StSh := ⟨⟨[0], [], [⟨.slot 0, 0, 43, (.st 1043)⟩]⟩, [.oslc 0], [.row 43 (.st 1043)]⟩
def qaK_os : List StSh := [⟨⟨[0], [], [⟨.slot 0, 100000, 43, (.st 1043)⟩]⟩, [.oslc 100000], [.row 43 (.st 1043)]⟩]
def qaK_tr : (List (TStmt)) → Tr (Nat × List (TV U)) := fun x => .ret (0, [⟨(.slc (.st 1043)), x⟩])
def qaK_enc : Nat → List (TV U) → Option ((List (TStmt)))
  | 0, [⟨(.slc (.st 1043)), a0⟩] => some a0
  | _, _ => none
def qaK_dec : (List (TStmt)) → Nat × List (TV U) := fun x => (0, [⟨(.slc (.st 1043)), x⟩])
def qaK_in (rec_qbl : List (TStmt) → Option ((List (TStmt)))) : List (TV U) → Option ((List (TStmt)))
  | [⟨(.slc (.st 1043)), a0⟩] => qaK rec_qbl a0
  | _ => none
def qaK_md (rec_qbl : List (TStmt) → Option ((List (TStmt)))) : Mode U := ⟨qaK_sh, [], qaK_os, fun ls => .get (qaK_in rec_qbl ls) qaK_tr⟩
theorem qaK_post (rec_qbl : List (TStmt) → Option ((List (TStmt)))) (hrec_qbl : ModeOk kk env0 46 (qbl_rmd rec_qbl)) : ModeOk kk env0 71 (qaK_md rec_qbl) :=
  fn_of (fn := Tryz.f71) qaK_enc qaK_dec (kitOk_of eqOk mixed (known74 rec_qbl hrec_qbl)) (by kernel_rfl) (L := jnL) (loopsOk_of (bs := []) (by kernel_rfl) trivial) (fun _ => rfl) (by intro i qs r h; unfold qaK_enc at h; split at h <;> cases h <;> rfl)
    (by intro ls r h; unfold qaK_in at h; split at h; rw [qaK, sealF_eq] at h; exact Eq.trans (by kernel_rfl) h; cases h)
def ms75 (rec_qbl : List (TStmt) → Option ((List (TStmt)))) : List (FuncId × Mode U) := (71, (qaK_md rec_qbl)) :: (ms74 rec_qbl)
theorem known75 (rec_qbl : List (TStmt) → Option ((List (TStmt)))) (hrec_qbl : ModeOk kk env0 46 (qbl_rmd rec_qbl)) : Known kk env0 (modesOf (ms75 rec_qbl)) := known_cons (by kernel_rfl) (qaK_post rec_qbl hrec_qbl) (known74 rec_qbl hrec_qbl)
def qbl_sh3 : StSh := ⟨⟨[1, 5, 8, 9, 10], [], [⟨.slot 5, 5, 43, (.st 1043)⟩]⟩, [.fnc 47, .oslc 5, .t (.slc (.st 43)), .t (.int .i64), .t (.int .i64)], [.row 43 (.st 1043)]⟩
def qbl_o3 : List Out := [⟨.exit 0, ⟨⟨[5], [], [⟨.slot 5, 5, 43, (.st 1043)⟩]⟩, [.oslc 5], [.row 43 (.st 1043)]⟩⟩]
def qbl_b3 : Code := (nthLoop (bodyOf Tryz.f46) 0)
def qbl_rec3 (rec : List (TStmt) → Int → Int → List (TStmt) → Option ((List (TStmt)))) : List (TV U) → Option ((List (TStmt)))
  | [⟨(.slc (.st 43)), a0⟩, ⟨(.int .i64), a1⟩, ⟨(.int .i64), a2⟩, ⟨(.slc (.st 1043)), a3⟩] => rec a0 a1 a2 a3
  | _ => none
def qbl_enc3 : Nat → List (TV U) → Option ((List (TStmt)))
  | 0, [⟨(.slc (.st 1043)), a0⟩] => some a0
  | _, _ => none
def qbl_dec3 : (List (TStmt)) → Nat × List (TV U) := fun x => (0, [⟨(.slc (.st 1043)), x⟩])
def qbl_tr3 : (List (TStmt)) → Tr (Nat × List (TV U)) := fun x => .ret (0, [⟨(.slc (.st 1043)), x⟩])
def qbl_lp3 (rec_qbl : List (TStmt) → Option ((List (TStmt)))) : Lift.Loop U := ⟨qbl_sh3, qbl_o3, fun ls => .get (qbl_rec3 (qbl_l3 rec_qbl) ls) qbl_tr3⟩
theorem qbl_ok3 (rec_qbl : List (TStmt) → Option ((List (TStmt)))) (hrec_qbl : ModeOk kk env0 46 (qbl_rmd rec_qbl)) : LoopR kk env0 Tryz.f46.ntmps qbl_b3 (qbl_lp3 rec_qbl) :=
  loop_of qbl_enc3 qbl_dec3 (fun n => qbl_rec3 (qbl_i3 rec_qbl n)) (kitOk_of eqOk mixed (known75 rec_qbl hrec_qbl)) (L := jnL) (loopsOk_of (bs := []) (by kernel_rfl) trivial) (fun _ => rfl) (by intro i qs r h; unfold qbl_enc3 at h; split at h <;> cases h <;> rfl)
    (by intro ls r h; unfold qbl_rec3 at h; split at h <;> cases h)
    (by intro n ls r h; unfold qbl_rec3 at h; split at h; exact (show _ = qbl_t3 rec_qbl (qbl_i3 rec_qbl n) _ _ _ _ from by kernel_rfl).trans h; cases h) (by rw [qbl_l3, sealF_eq])
def qbl_L (rec_qbl : List (TStmt) → Option ((List (TStmt)))) : Nat → Option (Lift.Loop U) := fun n => bif Nat.beq n joinKey then some joinMark else bif Nat.beq n 3 then some (qbl_lp3 rec_qbl) else none
def qbl_enc : Nat → List (TV U) → Option ((List (TStmt)))
  | 0, [⟨(.slc (.st 1043)), a0⟩] => some a0
  | _, _ => none
def qbl_dec : (List (TStmt)) → Nat × List (TV U) := fun x => (0, [⟨(.slc (.st 1043)), x⟩])
def qbl_md : Mode U := qbl_rmd qbl
theorem qbl_step (rec_qbl : List (TStmt) → Option ((List (TStmt)))) (hrec_qbl : ModeOk kk env0 46 (qbl_rmd rec_qbl)) : LoopsOk (Kit.withModes kk (modesOf (ms75 rec_qbl))) env0 Tryz.f46.ntmps (qbl_L rec_qbl) (bodyOf Tryz.f46) := loopsOk_of (bs := [qbl_b3]) (by kernel_rfl) ⟨.inr ⟨_, by kernel_rfl, LoopOk.of_round (qbl_ok3 rec_qbl hrec_qbl)⟩, trivial⟩
theorem qbl_post : ModeOk kk env0 46 (qbl_rmd qbl) :=
  rec_of (K := kk) (F := qbl) qbl_rmd qbl_i (by rw [qbl, sealF_eq]) (rec_zero (by intro ls r h; unfold qbl_in at h; split at h <;> cases h)) (fun n ih => fn_of (fn := Tryz.f46) qbl_enc qbl_dec (kitOk_of eqOk mixed (known75 (qbl_i n) ih)) (by kernel_rfl) (qbl_step (qbl_i n) ih) (fun _ => rfl) (by intro i qs r h; unfold qbl_enc at h; split at h <;> cases h <;> rfl)
    (by intro ls r h; unfold qbl_in at h; split at h; exact (show _ = qbl_f (qbl_i n) _ from by kernel_rfl).trans h; cases h))
def ms76 : List (FuncId × Mode U) := (46, qbl_md) :: ms72
theorem known76 : Known kk env0 (modesOf ms76) := known_cons (by kernel_rfl) qbl_post known72
def qaX_sh : StSh := ⟨⟨[0], [], []⟩, [.t (.st 38)], []⟩
def qaX_os : List StSh := [⟨⟨[0], [], [⟨.sub 0 1, 100200, 43, (.st 1043)⟩]⟩, [.agg [.t .str, .oslc 100200]], [.row 43 (.st 1043)]⟩]
def qaX_tr : (List UInt8) × (List (TStmt)) → Tr (Nat × List (TV U)) := fun x => .ret (0, [⟨.str, x.1⟩, ⟨(.slc (.st 1043)), x.2⟩])
def qaX_enc : Nat → List (TV U) → Option ((List UInt8) × (List (TStmt)))
  | 0, [⟨.str, a0⟩, ⟨(.slc (.st 1043)), a1⟩] => some (a0, a1)
  | _, _ => none
def qaX_dec : (List UInt8) × (List (TStmt)) → Nat × List (TV U) := fun x => (0, [⟨.str, x.1⟩, ⟨(.slc (.st 1043)), x.2⟩])
def qaX_in : List (TV U) → Option ((List UInt8) × (List (TStmt)))
  | [⟨(.st 38), a0⟩] => qaX a0
  | _ => none
def qaX_md : Mode U := ⟨qaX_sh, [], qaX_os, fun ls => .get (qaX_in ls) qaX_tr⟩
theorem qaX_post : ModeOk kk env0 45 qaX_md :=
  fn_of (fn := Tryz.f45) qaX_enc qaX_dec (kitOk_of eqOk mixed known76) (by kernel_rfl) (L := jnL) (loopsOk_of (bs := []) (by kernel_rfl) trivial) (fun _ => rfl) (by intro i qs r h; unfold qaX_enc at h; split at h <;> cases h <;> rfl)
    (by intro ls r h; unfold qaX_in at h; split at h; rw [qaX, sealF_eq] at h; exact Eq.trans (by kernel_rfl) h; cases h)
def ms77 : List (FuncId × Mode U) := (45, qaX_md) :: ms76
theorem known77 : Known kk env0 (modesOf ms77) := known_cons (by kernel_rfl) qaX_post known76
def qaL_sh : StSh := ⟨⟨[0], [], [⟨.slot 0, 0, 38, (.st 1038)⟩]⟩, [.oslc 0], [.row 38 (.st 1038)]⟩
def qaL_os : List StSh := [⟨⟨[0], [], [⟨.slot 0, 100000, 38, (.st 1038)⟩]⟩, [.oslc 100000], [.row 38 (.st 1038)]⟩]
def qaL_tr : (List (TThread)) → Tr (Nat × List (TV U)) := fun x => .ret (0, [⟨(.slc (.st 1038)), x⟩])
def qaL_enc : Nat → List (TV U) → Option ((List (TThread)))
  | 0, [⟨(.slc (.st 1038)), a0⟩] => some a0
  | _, _ => none
def qaL_dec : (List (TThread)) → Nat × List (TV U) := fun x => (0, [⟨(.slc (.st 1038)), x⟩])
def qaL_in : List (TV U) → Option ((List (TThread)))
  | [⟨(.slc (.st 1038)), a0⟩] => qaL a0
  | _ => none
def qaL_md : Mode U := ⟨qaL_sh, [], qaL_os, fun ls => .get (qaL_in ls) qaL_tr⟩
theorem qaL_post : ModeOk kk env0 70 qaL_md :=
  fn_of (fn := Tryz.f70) qaL_enc qaL_dec (kitOk_of eqOk mixed known77) (by kernel_rfl) (L := jnL) (loopsOk_of (bs := []) (by kernel_rfl) trivial) (fun _ => rfl) (by intro i qs r h; unfold qaL_enc at h; split at h <;> cases h <;> rfl)
    (by intro ls r h; unfold qaL_in at h; split at h; rw [qaL, sealF_eq] at h; exact Eq.trans (by kernel_rfl) h; cases h)
def ms78 : List (FuncId × Mode U) := (70, qaL_md) :: ms77
theorem known78 : Known kk env0 (modesOf ms78) := known_cons (by kernel_rfl) qaL_post known77
def qbm_sh3 : StSh := ⟨⟨[1, 5, 8, 9, 10], [], [⟨.slot 5, 5, 38, (.st 1038)⟩]⟩, [.fnc 45, .oslc 5, .t (.slc (.st 38)), .t (.int .i64), .t (.int .i64)], [.row 38 (.st 1038)]⟩
def qbm_o3 : List Out := [⟨.exit 0, ⟨⟨[5], [], [⟨.slot 5, 5, 38, (.st 1038)⟩]⟩, [.oslc 5], [.row 38 (.st 1038)]⟩⟩]
def qbm_b3 : Code := (nthLoop (bodyOf Tryz.f44) 0)
def qbm_rec3 (rec : List (TThread) → Int → Int → List (TThread) → Option ((List (TThread)))) : List (TV U) → Option ((List (TThread)))
  | [⟨(.slc (.st 38)), a0⟩, ⟨(.int .i64), a1⟩, ⟨(.int .i64), a2⟩, ⟨(.slc (.st 1038)), a3⟩] => rec a0 a1 a2 a3
  | _ => none
def qbm_enc3 : Nat → List (TV U) → Option ((List (TThread)))
  | 0, [⟨(.slc (.st 1038)), a0⟩] => some a0
  | _, _ => none
def qbm_dec3 : (List (TThread)) → Nat × List (TV U) := fun x => (0, [⟨(.slc (.st 1038)), x⟩])
def qbm_tr3 : (List (TThread)) → Tr (Nat × List (TV U)) := fun x => .ret (0, [⟨(.slc (.st 1038)), x⟩])
def qbm_lp3 : Lift.Loop U := ⟨qbm_sh3, qbm_o3, fun ls => .get (qbm_rec3 qbm_l3 ls) qbm_tr3⟩
theorem qbm_ok3 : LoopR kk env0 Tryz.f44.ntmps qbm_b3 qbm_lp3 :=
  loop_of qbm_enc3 qbm_dec3 (fun n => qbm_rec3 (qbm_i3 n)) (kitOk_of eqOk mixed known78) (L := jnL) (loopsOk_of (bs := []) (by kernel_rfl) trivial) (fun _ => rfl) (by intro i qs r h; unfold qbm_enc3 at h; split at h <;> cases h <;> rfl)
    (by intro ls r h; unfold qbm_rec3 at h; split at h <;> cases h)
    (by intro n ls r h; unfold qbm_rec3 at h; split at h; exact (show _ = qbm_t3 (qbm_i3 n) _ _ _ _ from by kernel_rfl).trans h; cases h) (by rw [qbm_l3, sealF_eq])
def qbm_sh : StSh := ⟨⟨[0, 1], [], []⟩, [.t (.slc (.st 38)), .fnc 45], []⟩
def qbm_os : List StSh := [⟨⟨[0], [], [⟨.slot 0, 100000, 38, (.st 1038)⟩]⟩, [.oslc 100000], [.row 38 (.st 1038)]⟩]
def qbm_tr : (List (TThread)) → Tr (Nat × List (TV U)) := fun x => .ret (0, [⟨(.slc (.st 1038)), x⟩])
def qbm_L : Nat → Option (Lift.Loop U) := fun n => bif Nat.beq n joinKey then some joinMark else bif Nat.beq n 3 then some qbm_lp3 else none
def qbm_enc : Nat → List (TV U) → Option ((List (TThread)))
  | 0, [⟨(.slc (.st 1038)), a0⟩] => some a0
  | _, _ => none
def qbm_dec : (List (TThread)) → Nat × List (TV U) := fun x => (0, [⟨(.slc (.st 1038)), x⟩])
def qbm_in : List (TV U) → Option ((List (TThread)))
  | [⟨(.slc (.st 38)), a0⟩] => qbm a0
  | _ => none
def qbm_md : Mode U := ⟨qbm_sh, [], qbm_os, fun ls => .get (qbm_in ls) qbm_tr⟩
theorem qbm_post : ModeOk kk env0 44 qbm_md :=
  fn_of (fn := Tryz.f44) qbm_enc qbm_dec (kitOk_of eqOk mixed known78) (by kernel_rfl) (L := qbm_L) (loopsOk_of (bs := [qbm_b3]) (by kernel_rfl) ⟨.inr ⟨_, by kernel_rfl, LoopOk.of_round (qbm_ok3)⟩, trivial⟩) (fun _ => rfl) (by intro i qs r h; unfold qbm_enc at h; split at h <;> cases h <;> rfl)
    (by intro ls r h; unfold qbm_in at h; split at h; rw [qbm, sealF_eq] at h; exact Eq.trans (by kernel_rfl) h; cases h)
def ms79 : List (FuncId × Mode U) := (44, qbm_md) :: ms78
theorem known79 : Known kk env0 (modesOf ms79) := known_cons (by kernel_rfl) qbm_post known78
def qaU_sh : StSh := ⟨⟨[0], [], []⟩, [.t (.st 26)], []⟩
def qaU_os : List StSh := [⟨⟨[0], [], [⟨.sub 0 0, 100100, 46, (.st 46)⟩, ⟨.sub 0 1, 100200, 9, .str⟩, ⟨.sub 0 2, 100300, 38, (.st 1038)⟩]⟩, [.agg [.oslc 100100, .oslc 100200, .oslc 100300]], [.row 46 (.st 46), .row 9 .str, .row 38 (.st 1038)]⟩]
def qaU_tr : (List (TCell)) × (List (List UInt8)) × (List (TThread)) → Tr (Nat × List (TV U)) := fun x => .ret (0, [⟨(.slc (.st 46)), x.1⟩, ⟨(.slc .str), x.2.1⟩, ⟨(.slc (.st 1038)), x.2.2⟩])
def qaU_enc : Nat → List (TV U) → Option ((List (TCell)) × (List (List UInt8)) × (List (TThread)))
  | 0, [⟨(.slc (.st 46)), a0⟩, ⟨(.slc .str), a1⟩, ⟨(.slc (.st 1038)), a2⟩] => some (a0, a1, a2)
  | _, _ => none
def qaU_dec : (List (TCell)) × (List (List UInt8)) × (List (TThread)) → Nat × List (TV U) := fun x => (0, [⟨(.slc (.st 46)), x.1⟩, ⟨(.slc .str), x.2.1⟩, ⟨(.slc (.st 1038)), x.2.2⟩])
def qaU_in : List (TV U) → Option ((List (TCell)) × (List (List UInt8)) × (List (TThread)))
  | [⟨(.st 26), a0⟩] => qaU a0
  | _ => none
def qaU_md : Mode U := ⟨qaU_sh, [], qaU_os, fun ls => .get (qaU_in ls) qaU_tr⟩
theorem qaU_post : ModeOk kk env0 19 qaU_md :=
  fn_of (fn := Tryz.f19) qaU_enc qaU_dec (kitOk_of eqOk mixed known79) (by kernel_rfl) (L := jnL) (loopsOk_of (bs := []) (by kernel_rfl) trivial) (fun _ => rfl) (by intro i qs r h; unfold qaU_enc at h; split at h <;> cases h <;> rfl)
    (by intro ls r h; unfold qaU_in at h; split at h; rw [qaU, sealF_eq] at h; exact Eq.trans (by kernel_rfl) h; cases h)
def ms80 : List (FuncId × Mode U) := (19, qaU_md) :: ms79
theorem known80 : Known kk env0 (modesOf ms80) := known_cons (by kernel_rfl) qaU_post known79
def qaR_sh4 : StSh := ⟨⟨[0, 1, 12, 13], [], []⟩, [.t (.slc (.st 46)), .t (.slc (.st 46)), .t (.int .i64), .t (.int .i64)], []⟩
def qaR_o4 : List Out := [⟨.ret, ⟨⟨[4], [], []⟩, [.t .bool], []⟩⟩, ⟨.exit 0, ⟨⟨[], [], []⟩, [], []⟩⟩]
def qaR_b4 : Code := (nthLoop (bodyOf Tryz.f34) 0)
def qaR_rec4 (rec : List (TCell) → List (TCell) → Int → Int → Option ((Bool) ⊕ (Unit))) : List (TV U) → Option ((Bool) ⊕ (Unit))
  | [⟨(.slc (.st 46)), a0⟩, ⟨(.slc (.st 46)), a1⟩, ⟨(.int .i64), a2⟩, ⟨(.int .i64), a3⟩] => rec a0 a1 a2 a3
  | _ => none
def qaR_enc4 : Nat → List (TV U) → Option ((Bool) ⊕ (Unit))
  | 0, [⟨.bool, a0⟩] => some (.inl a0)
  | 1, [] => some (.inr ())
  | _, _ => none
def qaR_dec4 : (Bool) ⊕ (Unit) → Nat × List (TV U) := fun r => match r with | (.inl x) => (0, [⟨.bool, x⟩]) | (.inr x) => (1, [])
def qaR_tr4 : (Bool) ⊕ (Unit) → Tr (Nat × List (TV U)) := fun r => .alt r (fun x => .ret (0, [⟨.bool, x⟩])) (fun y => (fun x => .ret (1, [])) y)
def qaR_lp4 : Lift.Loop U := ⟨qaR_sh4, qaR_o4, fun ls => .get (qaR_rec4 qaR_l4 ls) qaR_tr4⟩
theorem qaR_ok4 : LoopR kk env0 Tryz.f34.ntmps qaR_b4 qaR_lp4 :=
  loop_of qaR_enc4 qaR_dec4 (fun n => qaR_rec4 (qaR_i4 n)) (kitOk_of eqOk mixed known80) (L := jnL) (loopsOk_of (bs := []) (by kernel_rfl) trivial) (by intro r; rcases r with r | r <;> rfl) (by intro i qs r h; unfold qaR_enc4 at h; split at h <;> cases h <;> rfl)
    (by intro ls r h; unfold qaR_rec4 at h; split at h <;> cases h)
    (by intro n ls r h; unfold qaR_rec4 at h; split at h; exact (show _ = qaR_t4 (qaR_i4 n) _ _ _ _ from by kernel_rfl).trans h; cases h) (by rw [qaR_l4, sealF_eq])
def qaR_sh : StSh := ⟨⟨[0, 1], [], []⟩, [.t (.slc (.st 46)), .t (.slc (.st 46))], []⟩
def qaR_os : List StSh := [⟨⟨[0], [], []⟩, [.t .bool], []⟩]
def qaR_tr : Bool → Tr (Nat × List (TV U)) := fun x => .ret (0, [⟨.bool, x⟩])
def qaR_L : Nat → Option (Lift.Loop U) := fun n => bif Nat.beq n joinKey then some joinMark else bif Nat.beq n 4 then some qaR_lp4 else none
def qaR_enc : Nat → List (TV U) → Option (Bool)
  | 0, [⟨.bool, a0⟩] => some a0
  | _, _ => none
def qaR_dec : Bool → Nat × List (TV U) := fun x => (0, [⟨.bool, x⟩])
def qaR_in : List (TV U) → Option (Bool)
  | [⟨(.slc (.st 46)), a0⟩, ⟨(.slc (.st 46)), a1⟩] => qaR a0 a1
  | _ => none
def qaR_md : Mode U := ⟨qaR_sh, [], qaR_os, fun ls => .get (qaR_in ls) qaR_tr⟩
theorem qaR_post : ModeOk kk env0 34 qaR_md :=
  fn_of (fn := Tryz.f34) qaR_enc qaR_dec (kitOk_of eqOk mixed known80) (by kernel_rfl) (L := qaR_L) (loopsOk_of (bs := [qaR_b4]) (by kernel_rfl) ⟨.inr ⟨_, by kernel_rfl, LoopOk.of_round (qaR_ok4)⟩, trivial⟩) (fun _ => rfl) (by intro i qs r h; unfold qaR_enc at h; split at h <;> cases h <;> rfl)
    (by intro ls r h; unfold qaR_in at h; split at h; rw [qaR, sealF_eq] at h; exact Eq.trans (by kernel_rfl) h; cases h)
def ms81 : List (FuncId × Mode U) := (34, qaR_md) :: ms80
theorem known81 : Known kk env0 (modesOf ms81) := known_cons (by kernel_rfl) qaR_post known80
def qaS_sh4 : StSh := ⟨⟨[0, 1, 12, 13], [], []⟩, [.t (.slc .str), .t (.slc .str), .t (.int .i64), .t (.int .i64)], []⟩
def qaS_o4 : List Out := [⟨.ret, ⟨⟨[4], [], []⟩, [.t .bool], []⟩⟩, ⟨.exit 0, ⟨⟨[], [], []⟩, [], []⟩⟩]
def qaS_b4 : Code := (nthLoop (bodyOf Tryz.f35) 0)
def qaS_rec4 (rec : List (List UInt8) → List (List UInt8) → Int → Int → Option ((Bool) ⊕ (Unit))) : List (TV U) → Option ((Bool) ⊕ (Unit))
  | [⟨(.slc .str), a0⟩, ⟨(.slc .str), a1⟩, ⟨(.int .i64), a2⟩, ⟨(.int .i64), a3⟩] => rec a0 a1 a2 a3
  | _ => none
def qaS_enc4 : Nat → List (TV U) → Option ((Bool) ⊕ (Unit))
  | 0, [⟨.bool, a0⟩] => some (.inl a0)
  | 1, [] => some (.inr ())
  | _, _ => none
def qaS_dec4 : (Bool) ⊕ (Unit) → Nat × List (TV U) := fun r => match r with | (.inl x) => (0, [⟨.bool, x⟩]) | (.inr x) => (1, [])
def qaS_tr4 : (Bool) ⊕ (Unit) → Tr (Nat × List (TV U)) := fun r => .alt r (fun x => .ret (0, [⟨.bool, x⟩])) (fun y => (fun x => .ret (1, [])) y)
def qaS_lp4 : Lift.Loop U := ⟨qaS_sh4, qaS_o4, fun ls => .get (qaS_rec4 qaS_l4 ls) qaS_tr4⟩
theorem qaS_ok4 : LoopR kk env0 Tryz.f35.ntmps qaS_b4 qaS_lp4 :=
  loop_of qaS_enc4 qaS_dec4 (fun n => qaS_rec4 (qaS_i4 n)) (kitOk_of eqOk mixed known81) (L := jnL) (loopsOk_of (bs := []) (by kernel_rfl) trivial) (by intro r; rcases r with r | r <;> rfl) (by intro i qs r h; unfold qaS_enc4 at h; split at h <;> cases h <;> rfl)
    (by intro ls r h; unfold qaS_rec4 at h; split at h <;> cases h)
    (by intro n ls r h; unfold qaS_rec4 at h; split at h; exact (show _ = qaS_t4 (qaS_i4 n) _ _ _ _ from by kernel_rfl).trans h; cases h) (by rw [qaS_l4, sealF_eq])
def qaS_sh : StSh := ⟨⟨[0, 1], [], []⟩, [.t (.slc .str), .t (.slc .str)], []⟩
def qaS_os : List StSh := [⟨⟨[0], [], []⟩, [.t .bool], []⟩]
def qaS_tr : Bool → Tr (Nat × List (TV U)) := fun x => .ret (0, [⟨.bool, x⟩])
def qaS_L : Nat → Option (Lift.Loop U) := fun n => bif Nat.beq n joinKey then some joinMark else bif Nat.beq n 4 then some qaS_lp4 else none
def qaS_enc : Nat → List (TV U) → Option (Bool)
  | 0, [⟨.bool, a0⟩] => some a0
  | _, _ => none
def qaS_dec : Bool → Nat × List (TV U) := fun x => (0, [⟨.bool, x⟩])
def qaS_in : List (TV U) → Option (Bool)
  | [⟨(.slc .str), a0⟩, ⟨(.slc .str), a1⟩] => qaS a0 a1
  | _ => none
def qaS_md : Mode U := ⟨qaS_sh, [], qaS_os, fun ls => .get (qaS_in ls) qaS_tr⟩
theorem qaS_post : ModeOk kk env0 35 qaS_md :=
  fn_of (fn := Tryz.f35) qaS_enc qaS_dec (kitOk_of eqOk mixed known81) (by kernel_rfl) (L := qaS_L) (loopsOk_of (bs := [qaS_b4]) (by kernel_rfl) ⟨.inr ⟨_, by kernel_rfl, LoopOk.of_round (qaS_ok4)⟩, trivial⟩) (fun _ => rfl) (by intro i qs r h; unfold qaS_enc at h; split at h <;> cases h <;> rfl)
    (by intro ls r h; unfold qaS_in at h; split at h; rw [qaS, sealF_eq] at h; exact Eq.trans (by kernel_rfl) h; cases h)
def ms82 : List (FuncId × Mode U) := (35, qaS_md) :: ms81
theorem known82 : Known kk env0 (modesOf ms82) := known_cons (by kernel_rfl) qaS_post known81
def qbo_sh : StSh := ⟨⟨[0, 1], [], []⟩, [.t (.st 41), .t (.st 41)], []⟩
def qbo_os : List StSh := [⟨⟨[0], [], []⟩, [.t .bool], []⟩]
def qbo_tr : Bool → Tr (Nat × List (TV U)) := fun x => .ret (0, [⟨.bool, x⟩])
def qbo_in (rec_qbo : TExpr → TExpr → Option (Bool)) : List (TV U) → Option (Bool)
  | [⟨(.st 41), a0⟩, ⟨(.st 41), a1⟩] => rec_qbo a0 a1
  | _ => none
def qbo_rmd (rec_qbo : TExpr → TExpr → Option (Bool)) : Mode U := ⟨qbo_sh, [], qbo_os, fun ls => .get (qbo_in rec_qbo ls) qbo_tr⟩
def ms83 (rec_qbo : TExpr → TExpr → Option (Bool)) : List (FuncId × Mode U) := (68, (qbo_rmd rec_qbo)) :: ms82
theorem known83 (rec_qbo : TExpr → TExpr → Option (Bool)) (hrec_qbo : ModeOk kk env0 68 (qbo_rmd rec_qbo)) : Known kk env0 (modesOf (ms83 rec_qbo)) := known_cons (by kernel_rfl) hrec_qbo known82
def qaO_sh4 : StSh := ⟨⟨[1, 2, 15, 16, 17], [], []⟩, [.t (.slc (.st 41)), .fnc 68, .t (.slc (.st 41)), .t (.int .i64), .t (.int .i64)], []⟩
def qaO_o4 : List Out := [⟨.ret, ⟨⟨[6], [], []⟩, [.t .bool], []⟩⟩, ⟨.exit 0, ⟨⟨[], [], []⟩, [], []⟩⟩]
def qaO_b4 : Code := (nthLoop (bodyOf Tryz.f82) 0)
def qaO_rec4 (rec : List (TExpr) → List (TExpr) → Int → Int → Option ((Bool) ⊕ (Unit))) : List (TV U) → Option ((Bool) ⊕ (Unit))
  | [⟨(.slc (.st 41)), a0⟩, ⟨(.slc (.st 41)), a1⟩, ⟨(.int .i64), a2⟩, ⟨(.int .i64), a3⟩] => rec a0 a1 a2 a3
  | _ => none
def qaO_enc4 : Nat → List (TV U) → Option ((Bool) ⊕ (Unit))
  | 0, [⟨.bool, a0⟩] => some (.inl a0)
  | 1, [] => some (.inr ())
  | _, _ => none
def qaO_dec4 : (Bool) ⊕ (Unit) → Nat × List (TV U) := fun r => match r with | (.inl x) => (0, [⟨.bool, x⟩]) | (.inr x) => (1, [])
def qaO_tr4 : (Bool) ⊕ (Unit) → Tr (Nat × List (TV U)) := fun r => .alt r (fun x => .ret (0, [⟨.bool, x⟩])) (fun y => (fun x => .ret (1, [])) y)
def qaO_lp4 (rec_qbo : TExpr → TExpr → Option (Bool)) : Lift.Loop U := ⟨qaO_sh4, qaO_o4, fun ls => .get (qaO_rec4 (qaO_l4 rec_qbo) ls) qaO_tr4⟩
theorem qaO_ok4 (rec_qbo : TExpr → TExpr → Option (Bool)) (hrec_qbo : ModeOk kk env0 68 (qbo_rmd rec_qbo)) : LoopR kk env0 Tryz.f82.ntmps qaO_b4 (qaO_lp4 rec_qbo) :=
  loop_of qaO_enc4 qaO_dec4 (fun n => qaO_rec4 (qaO_i4 rec_qbo n)) (kitOk_of eqOk mixed (known83 rec_qbo hrec_qbo)) (L := jnL) (loopsOk_of (bs := []) (by kernel_rfl) trivial) (by intro r; rcases r with r | r <;> rfl) (by intro i qs r h; unfold qaO_enc4 at h; split at h <;> cases h <;> rfl)
    (by intro ls r h; unfold qaO_rec4 at h; split at h <;> cases h)
    (by intro n ls r h; unfold qaO_rec4 at h; split at h; exact (show _ = qaO_t4 rec_qbo (qaO_i4 rec_qbo n) _ _ _ _ from by kernel_rfl).trans h; cases h) (by rw [qaO_l4, sealF_eq])
def qaO_sh : StSh := ⟨⟨[0, 1, 2], [], []⟩, [.t (.slc (.st 41)), .t (.slc (.st 41)), .fnc 68], []⟩
def qaO_os : List StSh := [⟨⟨[0], [], []⟩, [.t .bool], []⟩]
def qaO_tr : Bool → Tr (Nat × List (TV U)) := fun x => .ret (0, [⟨.bool, x⟩])
def qaO_L (rec_qbo : TExpr → TExpr → Option (Bool)) : Nat → Option (Lift.Loop U) := fun n => bif Nat.beq n joinKey then some joinMark else bif Nat.beq n 4 then some (qaO_lp4 rec_qbo) else none
def qaO_enc : Nat → List (TV U) → Option (Bool)
  | 0, [⟨.bool, a0⟩] => some a0
  | _, _ => none
def qaO_dec : Bool → Nat × List (TV U) := fun x => (0, [⟨.bool, x⟩])
def qaO_in (rec_qbo : TExpr → TExpr → Option (Bool)) : List (TV U) → Option (Bool)
  | [⟨(.slc (.st 41)), a0⟩, ⟨(.slc (.st 41)), a1⟩] => qaO rec_qbo a0 a1
  | _ => none
def qaO_md (rec_qbo : TExpr → TExpr → Option (Bool)) : Mode U := ⟨qaO_sh, [], qaO_os, fun ls => .get (qaO_in rec_qbo ls) qaO_tr⟩
theorem qaO_post (rec_qbo : TExpr → TExpr → Option (Bool)) (hrec_qbo : ModeOk kk env0 68 (qbo_rmd rec_qbo)) : ModeOk kk env0 82 (qaO_md rec_qbo) :=
  fn_of (fn := Tryz.f82) qaO_enc qaO_dec (kitOk_of eqOk mixed (known83 rec_qbo hrec_qbo)) (by kernel_rfl) (L := (qaO_L rec_qbo)) (loopsOk_of (bs := [qaO_b4]) (by kernel_rfl) ⟨.inr ⟨_, by kernel_rfl, LoopOk.of_round (qaO_ok4 rec_qbo hrec_qbo)⟩, trivial⟩) (fun _ => rfl) (by intro i qs r h; unfold qaO_enc at h; split at h <;> cases h <;> rfl)
    (by intro ls r h; unfold qaO_in at h; split at h; rw [qaO, sealF_eq] at h; exact Eq.trans (by kernel_rfl) h; cases h)
def ms84 (rec_qbo : TExpr → TExpr → Option (Bool)) : List (FuncId × Mode U) := (82, (qaO_md rec_qbo)) :: (ms83 rec_qbo)
theorem known84 (rec_qbo : TExpr → TExpr → Option (Bool)) (hrec_qbo : ModeOk kk env0 68 (qbo_rmd rec_qbo)) : Known kk env0 (modesOf (ms84 rec_qbo)) := known_cons (by kernel_rfl) (qaO_post rec_qbo hrec_qbo) (known83 rec_qbo hrec_qbo)
def qbo_enc : Nat → List (TV U) → Option (Bool)
  | 0, [⟨.bool, a0⟩] => some a0
  | _, _ => none
def qbo_dec : Bool → Nat × List (TV U) := fun x => (0, [⟨.bool, x⟩])
def qbo_md : Mode U := qbo_rmd qbo
theorem qbo_step (rec_qbo : TExpr → TExpr → Option (Bool)) (hrec_qbo : ModeOk kk env0 68 (qbo_rmd rec_qbo)) : LoopsOk (Kit.withModes kk (modesOf (ms84 rec_qbo))) env0 Tryz.f68.ntmps jnL (bodyOf Tryz.f68) := loopsOk_of (bs := []) (by kernel_rfl) trivial
theorem qbo_post : ModeOk kk env0 68 (qbo_rmd qbo) :=
  rec_of (K := kk) (F := qbo) qbo_rmd qbo_i (by rw [qbo, sealF_eq]) (rec_zero (by intro ls r h; unfold qbo_in at h; split at h <;> cases h)) (fun n ih => fn_of (fn := Tryz.f68) qbo_enc qbo_dec (kitOk_of eqOk mixed (known84 (qbo_i n) ih)) (by kernel_rfl) (qbo_step (qbo_i n) ih) (fun _ => rfl) (by intro i qs r h; unfold qbo_enc at h; split at h <;> cases h <;> rfl)
    (by intro ls r h; unfold qbo_in at h; split at h; exact (show _ = qbo_f (qbo_i n) _ _ from by kernel_rfl).trans h; cases h))
def ms85 : List (FuncId × Mode U) := (68, qbo_md) :: ms82
theorem known85 : Known kk env0 (modesOf ms85) := known_cons (by kernel_rfl) qbo_post known82
def qaP_sh : StSh := ⟨⟨[0, 1, 2], [], []⟩, [.t (.slc (.st 43)), .t (.slc (.st 43)), .fnc 39], []⟩
def qaP_os : List StSh := [⟨⟨[0], [], []⟩, [.t .bool], []⟩]
def qaP_tr : Bool → Tr (Nat × List (TV U)) := fun x => .ret (0, [⟨.bool, x⟩])
def qaP_in (rec_qaP : List (TStmt) → List (TStmt) → Option (Bool)) : List (TV U) → Option (Bool)
  | [⟨(.slc (.st 43)), a0⟩, ⟨(.slc (.st 43)), a1⟩] => rec_qaP a0 a1
  | _ => none
def qaP_rmd (rec_qaP : List (TStmt) → List (TStmt) → Option (Bool)) : Mode U := ⟨qaP_sh, [], qaP_os, fun ls => .get (qaP_in rec_qaP ls) qaP_tr⟩
def ms86 (rec_qaP : List (TStmt) → List (TStmt) → Option (Bool)) : List (FuncId × Mode U) := (38, (qaP_rmd rec_qaP)) :: ms85
theorem known86 (rec_qaP : List (TStmt) → List (TStmt) → Option (Bool)) (hrec_qaP : ModeOk kk env0 38 (qaP_rmd rec_qaP)) : Known kk env0 (modesOf (ms86 rec_qaP)) := known_cons (by kernel_rfl) hrec_qaP known85
def qbp_sh : StSh := ⟨⟨[0, 1], [], []⟩, [.t (.st 43), .t (.st 43)], []⟩
def qbp_os : List StSh := [⟨⟨[0], [], []⟩, [.t .bool], []⟩]
def qbp_tr : Bool → Tr (Nat × List (TV U)) := fun x => .ret (0, [⟨.bool, x⟩])
def qbp_enc : Nat → List (TV U) → Option (Bool)
  | 0, [⟨.bool, a0⟩] => some a0
  | _, _ => none
def qbp_dec : Bool → Nat × List (TV U) := fun x => (0, [⟨.bool, x⟩])
def qbp_in (rec_qaP : List (TStmt) → List (TStmt) → Option (Bool)) : List (TV U) → Option (Bool)
  | [⟨(.st 43), a0⟩, ⟨(.st 43), a1⟩] => qbp rec_qaP a0 a1
  | _ => none
def qbp_md (rec_qaP : List (TStmt) → List (TStmt) → Option (Bool)) : Mode U := ⟨qbp_sh, [], qbp_os, fun ls => .get (qbp_in rec_qaP ls) qbp_tr⟩
theorem qbp_post (rec_qaP : List (TStmt) → List (TStmt) → Option (Bool)) (hrec_qaP : ModeOk kk env0 38 (qaP_rmd rec_qaP)) : ModeOk kk env0 39 (qbp_md rec_qaP) :=
  fn_of (fn := Tryz.f39) qbp_enc qbp_dec (kitOk_of eqOk mixed (known86 rec_qaP hrec_qaP)) (by kernel_rfl) (L := jnL) (loopsOk_of (bs := []) (by kernel_rfl) trivial) (fun _ => rfl) (by intro i qs r h; unfold qbp_enc at h; split at h <;> cases h <;> rfl)
    (by intro ls r h; unfold qbp_in at h; split at h; rw [qbp, sealF_eq] at h; exact Eq.trans (by kernel_rfl) h; cases h)
def ms87 (rec_qaP : List (TStmt) → List (TStmt) → Option (Bool)) : List (FuncId × Mode U) := (39, (qbp_md rec_qaP)) :: (ms86 rec_qaP)
theorem known87 (rec_qaP : List (TStmt) → List (TStmt) → Option (Bool)) (hrec_qaP : ModeOk kk env0 38 (qaP_rmd rec_qaP)) : Known kk env0 (modesOf (ms87 rec_qaP)) := known_cons (by kernel_rfl) (qbp_post rec_qaP hrec_qaP) (known86 rec_qaP hrec_qaP)
def qaP_sh4 : StSh := ⟨⟨[1, 2, 15, 16, 17], [], []⟩, [.t (.slc (.st 43)), .fnc 39, .t (.slc (.st 43)), .t (.int .i64), .t (.int .i64)], []⟩
def qaP_o4 : List Out := [⟨.ret, ⟨⟨[6], [], []⟩, [.t .bool], []⟩⟩, ⟨.exit 0, ⟨⟨[], [], []⟩, [], []⟩⟩]
def qaP_b4 : Code := (nthLoop (bodyOf Tryz.f38) 0)
def qaP_rec4 (rec : List (TStmt) → List (TStmt) → Int → Int → Option ((Bool) ⊕ (Unit))) : List (TV U) → Option ((Bool) ⊕ (Unit))
  | [⟨(.slc (.st 43)), a0⟩, ⟨(.slc (.st 43)), a1⟩, ⟨(.int .i64), a2⟩, ⟨(.int .i64), a3⟩] => rec a0 a1 a2 a3
  | _ => none
def qaP_enc4 : Nat → List (TV U) → Option ((Bool) ⊕ (Unit))
  | 0, [⟨.bool, a0⟩] => some (.inl a0)
  | 1, [] => some (.inr ())
  | _, _ => none
def qaP_dec4 : (Bool) ⊕ (Unit) → Nat × List (TV U) := fun r => match r with | (.inl x) => (0, [⟨.bool, x⟩]) | (.inr x) => (1, [])
def qaP_tr4 : (Bool) ⊕ (Unit) → Tr (Nat × List (TV U)) := fun r => .alt r (fun x => .ret (0, [⟨.bool, x⟩])) (fun y => (fun x => .ret (1, [])) y)
def qaP_lp4 (rec_qaP : List (TStmt) → List (TStmt) → Option (Bool)) : Lift.Loop U := ⟨qaP_sh4, qaP_o4, fun ls => .get (qaP_rec4 (qaP_l4 rec_qaP) ls) qaP_tr4⟩
theorem qaP_ok4 (rec_qaP : List (TStmt) → List (TStmt) → Option (Bool)) (hrec_qaP : ModeOk kk env0 38 (qaP_rmd rec_qaP)) : LoopR kk env0 Tryz.f38.ntmps qaP_b4 (qaP_lp4 rec_qaP) :=
  loop_of qaP_enc4 qaP_dec4 (fun n => qaP_rec4 (qaP_i4 rec_qaP n)) (kitOk_of eqOk mixed (known87 rec_qaP hrec_qaP)) (L := jnL) (loopsOk_of (bs := []) (by kernel_rfl) trivial) (by intro r; rcases r with r | r <;> rfl) (by intro i qs r h; unfold qaP_enc4 at h; split at h <;> cases h <;> rfl)
    (by intro ls r h; unfold qaP_rec4 at h; split at h <;> cases h)
    (by intro n ls r h; unfold qaP_rec4 at h; split at h; exact (show _ = qaP_t4 rec_qaP (qaP_i4 rec_qaP n) _ _ _ _ from by kernel_rfl).trans h; cases h) (by rw [qaP_l4, sealF_eq])
def qaP_L (rec_qaP : List (TStmt) → List (TStmt) → Option (Bool)) : Nat → Option (Lift.Loop U) := fun n => bif Nat.beq n joinKey then some joinMark else bif Nat.beq n 4 then some (qaP_lp4 rec_qaP) else none
def qaP_enc : Nat → List (TV U) → Option (Bool)
  | 0, [⟨.bool, a0⟩] => some a0
  | _, _ => none
def qaP_dec : Bool → Nat × List (TV U) := fun x => (0, [⟨.bool, x⟩])
def qaP_md : Mode U := qaP_rmd qaP
theorem qaP_step (rec_qaP : List (TStmt) → List (TStmt) → Option (Bool)) (hrec_qaP : ModeOk kk env0 38 (qaP_rmd rec_qaP)) : LoopsOk (Kit.withModes kk (modesOf (ms87 rec_qaP))) env0 Tryz.f38.ntmps (qaP_L rec_qaP) (bodyOf Tryz.f38) := loopsOk_of (bs := [qaP_b4]) (by kernel_rfl) ⟨.inr ⟨_, by kernel_rfl, LoopOk.of_round (qaP_ok4 rec_qaP hrec_qaP)⟩, trivial⟩
theorem qaP_post : ModeOk kk env0 38 (qaP_rmd qaP) :=
  rec_of (K := kk) (F := qaP) qaP_rmd qaP_i (by rw [qaP, sealF_eq]) (rec_zero (by intro ls r h; unfold qaP_in at h; split at h <;> cases h)) (fun n ih => fn_of (fn := Tryz.f38) qaP_enc qaP_dec (kitOk_of eqOk mixed (known87 (qaP_i n) ih)) (by kernel_rfl) (qaP_step (qaP_i n) ih) (fun _ => rfl) (by intro i qs r h; unfold qaP_enc at h; split at h <;> cases h <;> rfl)
    (by intro ls r h; unfold qaP_in at h; split at h; exact (show _ = qaP_f (qaP_i n) _ _ from by kernel_rfl).trans h; cases h))
def ms88 : List (FuncId × Mode U) := (38, qaP_md) :: ms85
theorem known88 : Known kk env0 (modesOf ms88) := known_cons (by kernel_rfl) qaP_post known85
def qba_sh : StSh := ⟨⟨[0, 1], [], []⟩, [.t (.st 38), .t (.st 38)], []⟩
def qba_os : List StSh := [⟨⟨[0], [], []⟩, [.t .bool], []⟩]
def qba_tr : Bool → Tr (Nat × List (TV U)) := fun x => .ret (0, [⟨.bool, x⟩])
def qba_enc : Nat → List (TV U) → Option (Bool)
  | 0, [⟨.bool, a0⟩] => some a0
  | _, _ => none
def qba_dec : Bool → Nat × List (TV U) := fun x => (0, [⟨.bool, x⟩])
def qba_in : List (TV U) → Option (Bool)
  | [⟨(.st 38), a0⟩, ⟨(.st 38), a1⟩] => qba a0 a1
  | _ => none
def qba_md : Mode U := ⟨qba_sh, [], qba_os, fun ls => .get (qba_in ls) qba_tr⟩
theorem qba_post : ModeOk kk env0 37 qba_md :=
  fn_of (fn := Tryz.f37) qba_enc qba_dec (kitOk_of eqOk mixed known88) (by kernel_rfl) (L := jnL) (loopsOk_of (bs := []) (by kernel_rfl) trivial) (fun _ => rfl) (by intro i qs r h; unfold qba_enc at h; split at h <;> cases h <;> rfl)
    (by intro ls r h; unfold qba_in at h; split at h; rw [qba, sealF_eq] at h; exact Eq.trans (by kernel_rfl) h; cases h)
def ms89 : List (FuncId × Mode U) := (37, qba_md) :: ms88
theorem known89 : Known kk env0 (modesOf ms89) := known_cons (by kernel_rfl) qba_post known88
def qaQ_sh4 : StSh := ⟨⟨[1, 2, 15, 16, 17], [], []⟩, [.t (.slc (.st 38)), .fnc 37, .t (.slc (.st 38)), .t (.int .i64), .t (.int .i64)], []⟩
def qaQ_o4 : List Out := [⟨.ret, ⟨⟨[6], [], []⟩, [.t .bool], []⟩⟩, ⟨.exit 0, ⟨⟨[], [], []⟩, [], []⟩⟩]
def qaQ_b4 : Code := (nthLoop (bodyOf Tryz.f36) 0)
def qaQ_rec4 (rec : List (TThread) → List (TThread) → Int → Int → Option ((Bool) ⊕ (Unit))) : List (TV U) → Option ((Bool) ⊕ (Unit))
  | [⟨(.slc (.st 38)), a0⟩, ⟨(.slc (.st 38)), a1⟩, ⟨(.int .i64), a2⟩, ⟨(.int .i64), a3⟩] => rec a0 a1 a2 a3
  | _ => none
def qaQ_enc4 : Nat → List (TV U) → Option ((Bool) ⊕ (Unit))
  | 0, [⟨.bool, a0⟩] => some (.inl a0)
  | 1, [] => some (.inr ())
  | _, _ => none
def qaQ_dec4 : (Bool) ⊕ (Unit) → Nat × List (TV U) := fun r => match r with | (.inl x) => (0, [⟨.bool, x⟩]) | (.inr x) => (1, [])
def qaQ_tr4 : (Bool) ⊕ (Unit) → Tr (Nat × List (TV U)) := fun r => .alt r (fun x => .ret (0, [⟨.bool, x⟩])) (fun y => (fun x => .ret (1, [])) y)
def qaQ_lp4 : Lift.Loop U := ⟨qaQ_sh4, qaQ_o4, fun ls => .get (qaQ_rec4 qaQ_l4 ls) qaQ_tr4⟩
theorem qaQ_ok4 : LoopR kk env0 Tryz.f36.ntmps qaQ_b4 qaQ_lp4 :=
  loop_of qaQ_enc4 qaQ_dec4 (fun n => qaQ_rec4 (qaQ_i4 n)) (kitOk_of eqOk mixed known89) (L := jnL) (loopsOk_of (bs := []) (by kernel_rfl) trivial) (by intro r; rcases r with r | r <;> rfl) (by intro i qs r h; unfold qaQ_enc4 at h; split at h <;> cases h <;> rfl)
    (by intro ls r h; unfold qaQ_rec4 at h; split at h <;> cases h)
    (by intro n ls r h; unfold qaQ_rec4 at h; split at h; exact (show _ = qaQ_t4 (qaQ_i4 n) _ _ _ _ from by kernel_rfl).trans h; cases h) (by rw [qaQ_l4, sealF_eq])
def qaQ_sh : StSh := ⟨⟨[0, 1, 2], [], []⟩, [.t (.slc (.st 38)), .t (.slc (.st 38)), .fnc 37], []⟩
def qaQ_os : List StSh := [⟨⟨[0], [], []⟩, [.t .bool], []⟩]
def qaQ_tr : Bool → Tr (Nat × List (TV U)) := fun x => .ret (0, [⟨.bool, x⟩])
def qaQ_L : Nat → Option (Lift.Loop U) := fun n => bif Nat.beq n joinKey then some joinMark else bif Nat.beq n 4 then some qaQ_lp4 else none
def qaQ_enc : Nat → List (TV U) → Option (Bool)
  | 0, [⟨.bool, a0⟩] => some a0
  | _, _ => none
def qaQ_dec : Bool → Nat × List (TV U) := fun x => (0, [⟨.bool, x⟩])
def qaQ_in : List (TV U) → Option (Bool)
  | [⟨(.slc (.st 38)), a0⟩, ⟨(.slc (.st 38)), a1⟩] => qaQ a0 a1
  | _ => none
def qaQ_md : Mode U := ⟨qaQ_sh, [], qaQ_os, fun ls => .get (qaQ_in ls) qaQ_tr⟩
theorem qaQ_post : ModeOk kk env0 36 qaQ_md :=
  fn_of (fn := Tryz.f36) qaQ_enc qaQ_dec (kitOk_of eqOk mixed known89) (by kernel_rfl) (L := qaQ_L) (loopsOk_of (bs := [qaQ_b4]) (by kernel_rfl) ⟨.inr ⟨_, by kernel_rfl, LoopOk.of_round (qaQ_ok4)⟩, trivial⟩) (fun _ => rfl) (by intro i qs r h; unfold qaQ_enc at h; split at h <;> cases h <;> rfl)
    (by intro ls r h; unfold qaQ_in at h; split at h; rw [qaQ, sealF_eq] at h; exact Eq.trans (by kernel_rfl) h; cases h)
def ms90 : List (FuncId × Mode U) := (36, qaQ_md) :: ms89
theorem known90 : Known kk env0 (modesOf ms90) := known_cons (by kernel_rfl) qaQ_post known89
def qa9_sh : StSh := ⟨⟨[0, 1], [], []⟩, [.t (.st 26), .t (.st 26)], []⟩
def qa9_os : List StSh := [⟨⟨[0], [], []⟩, [.t .bool], []⟩]
def qa9_tr : Bool → Tr (Nat × List (TV U)) := fun x => .ret (0, [⟨.bool, x⟩])
def qa9_enc : Nat → List (TV U) → Option (Bool)
  | 0, [⟨.bool, a0⟩] => some a0
  | _, _ => none
def qa9_dec : Bool → Nat × List (TV U) := fun x => (0, [⟨.bool, x⟩])
def qa9_in : List (TV U) → Option (Bool)
  | [⟨(.st 26), a0⟩, ⟨(.st 26), a1⟩] => qa9 a0 a1
  | _ => none
def qa9_md : Mode U := ⟨qa9_sh, [], qa9_os, fun ls => .get (qa9_in ls) qa9_tr⟩
theorem qa9_post : ModeOk kk env0 18 qa9_md :=
  fn_of (fn := Tryz.f18) qa9_enc qa9_dec (kitOk_of eqOk mixed known90) (by kernel_rfl) (L := jnL) (loopsOk_of (bs := []) (by kernel_rfl) trivial) (fun _ => rfl) (by intro i qs r h; unfold qa9_enc at h; split at h <;> cases h <;> rfl)
    (by intro ls r h; unfold qa9_in at h; split at h; rw [qa9, sealF_eq] at h; exact Eq.trans (by kernel_rfl) h; cases h)
def ms91 : List (FuncId × Mode U) := (18, qa9_md) :: ms90
theorem known91 : Known kk env0 (modesOf ms91) := known_cons (by kernel_rfl) qa9_post known90
def qav_sh : StSh := ⟨⟨[], [], []⟩, [], []⟩
def qav_os : List StSh := [⟨⟨[0], [], []⟩, [.t .bool], []⟩]
def qav_tr : Bool → Tr (Nat × List (TV U)) := fun x => .ret (0, [⟨.bool, x⟩])
def qav_enc : Nat → List (TV U) → Option (Bool)
  | 0, [⟨.bool, a0⟩] => some a0
  | _, _ => none
def qav_dec : Bool → Nat × List (TV U) := fun x => (0, [⟨.bool, x⟩])
def qav_in : List (TV U) → Option (Bool)
  | [] => qav
  | _ => none
def qav_md : Mode U := ⟨qav_sh, [], qav_os, fun ls => .get (qav_in ls) qav_tr⟩
theorem qav_post : ModeOk kk env0 9 qav_md :=
  fn_of (fn := Tryz.f9) qav_enc qav_dec (kitOk_of eqOk mixed known91) (by kernel_rfl) (L := jnL) (loopsOk_of (bs := []) (by kernel_rfl) trivial) (fun _ => rfl) (by intro i qs r h; unfold qav_enc at h; split at h <;> cases h <;> rfl)
    (by intro ls r h; unfold qav_in at h; split at h; rw [qav, sealF_eq] at h; exact Eq.trans (by kernel_rfl) h; cases h)
def ms92 : List (FuncId × Mode U) := (9, qav_md) :: ms91
theorem known92 : Known kk env0 (modesOf ms92) := known_cons (by kernel_rfl) qav_post known91
def qax_sh : StSh := ⟨⟨[0], [], []⟩, [.t (.st 41)], []⟩
def qax_os : List StSh := [⟨⟨[0], [], [⟨.sub 0 3, 100400, 41, (.st 1041)⟩]⟩, [.agg [.t (.int .i64), .t (.int .i64), .t .str, .oslc 100400]], [.row 41 (.st 1041)]⟩]
def qax_tr : Int × Int × (List UInt8) × (List (TExpr)) → Tr (Nat × List (TV U)) := fun x => .ret (0, [⟨(.int .i64), x.1⟩, ⟨(.int .i64), x.2.1⟩, ⟨.str, x.2.2.1⟩, ⟨(.slc (.st 1041)), x.2.2.2⟩])
def qax_in (rec_qax : TExpr → Option (Int × Int × (List UInt8) × (List (TExpr)))) : List (TV U) → Option (Int × Int × (List UInt8) × (List (TExpr)))
  | [⟨(.st 41), a0⟩] => rec_qax a0
  | _ => none
def qax_rmd (rec_qax : TExpr → Option (Int × Int × (List UInt8) × (List (TExpr)))) : Mode U := ⟨qax_sh, [], qax_os, fun ls => .get (qax_in rec_qax ls) qax_tr⟩
def ms93 (rec_qax : TExpr → Option (Int × Int × (List UInt8) × (List (TExpr)))) : List (FuncId × Mode U) := (55, (qax_rmd rec_qax)) :: ms92
theorem known93 (rec_qax : TExpr → Option (Int × Int × (List UInt8) × (List (TExpr)))) (hrec_qax : ModeOk kk env0 55 (qax_rmd rec_qax)) : Known kk env0 (modesOf (ms93 rec_qax)) := known_cons (by kernel_rfl) hrec_qax known92
def qax_sh3 : StSh := ⟨⟨[1, 2, 3, 4], [1, 2, 3], [⟨.cell 3 3, 20153, 41, (.st 1041)⟩]⟩, [.ptr 1 0, .ptr 2 0, .ptr 3 0, .t (.int .i64)], [.blk 41 [.t (.int .i64), .t (.int .i64), .t .str, .t (.slc (.st 41))], .blk 41 [.t (.int .i64), .t (.int .i64), .t .str, .nil], .blk 41 [.t (.int .i64), .t (.int .i64), .t .str, .oslc 20153], .row 41 (.st 1041)]⟩
def qax_o3 : List Out := [⟨.exit 0, ⟨⟨[2, 3], [2, 3], [⟨.cell 3 3, 20153, 41, (.st 1041)⟩]⟩, [.ptr 2 0, .ptr 3 0], [.blk 41 [.t (.int .i64), .t (.int .i64), .t .str, .nil], .blk 41 [.t (.int .i64), .t (.int .i64), .t .str, .oslc 20153], .row 41 (.st 1041)]⟩⟩]
def qax_b3 : Code := (nthLoop (bodyOf Tryz.f55) 0)
def qax_rec3 (rec : Int → Int → Int → List UInt8 → List (TExpr) → Int → Int → List UInt8 → Int → Int → List UInt8 → List (TExpr) → Option (Int × Int × (List UInt8) × Int × Int × (List UInt8) × (List (TExpr)))) : List (TV U) → Option (Int × Int × (List UInt8) × Int × Int × (List UInt8) × (List (TExpr)))
  | [⟨(.int .i64), a0⟩, ⟨(.int .i64), a1⟩, ⟨(.int .i64), a2⟩, ⟨.str, a3⟩, ⟨(.slc (.st 41)), a4⟩, ⟨(.int .i64), a5⟩, ⟨(.int .i64), a6⟩, ⟨.str, a7⟩, ⟨(.int .i64), a8⟩, ⟨(.int .i64), a9⟩, ⟨.str, a10⟩, ⟨(.slc (.st 1041)), a11⟩] => rec a0 a1 a2 a3 a4 a5 a6 a7 a8 a9 a10 a11
  | _ => none
def qax_enc3 : Nat → List (TV U) → Option (Int × Int × (List UInt8) × Int × Int × (List UInt8) × (List (TExpr)))
  | 0, [⟨(.int .i64), a0⟩, ⟨(.int .i64), a1⟩, ⟨.str, a2⟩, ⟨(.int .i64), a3⟩, ⟨(.int .i64), a4⟩, ⟨.str, a5⟩, ⟨(.slc (.st 1041)), a6⟩] => some (a0, a1, a2, a3, a4, a5, a6)
  | _, _ => none
def qax_dec3 : Int × Int × (List UInt8) × Int × Int × (List UInt8) × (List (TExpr)) → Nat × List (TV U) := fun x => (0, [⟨(.int .i64), x.1⟩, ⟨(.int .i64), x.2.1⟩, ⟨.str, x.2.2.1⟩, ⟨(.int .i64), x.2.2.2.1⟩, ⟨(.int .i64), x.2.2.2.2.1⟩, ⟨.str, x.2.2.2.2.2.1⟩, ⟨(.slc (.st 1041)), x.2.2.2.2.2.2⟩])
def qax_tr3 : Int × Int × (List UInt8) × Int × Int × (List UInt8) × (List (TExpr)) → Tr (Nat × List (TV U)) := fun x => .ret (0, [⟨(.int .i64), x.1⟩, ⟨(.int .i64), x.2.1⟩, ⟨.str, x.2.2.1⟩, ⟨(.int .i64), x.2.2.2.1⟩, ⟨(.int .i64), x.2.2.2.2.1⟩, ⟨.str, x.2.2.2.2.2.1⟩, ⟨(.slc (.st 1041)), x.2.2.2.2.2.2⟩])
def qax_lp3 (rec_qax : TExpr → Option (Int × Int × (List UInt8) × (List (TExpr)))) : Lift.Loop U := ⟨qax_sh3, qax_o3, fun ls => .get (qax_rec3 (qax_l3 rec_qax) ls) qax_tr3⟩
theorem qax_ok3 (rec_qax : TExpr → Option (Int × Int × (List UInt8) × (List (TExpr)))) (hrec_qax : ModeOk kk env0 55 (qax_rmd rec_qax)) : LoopR kk env0 Tryz.f55.ntmps qax_b3 (qax_lp3 rec_qax) :=
  loop_of qax_enc3 qax_dec3 (fun n => qax_rec3 (qax_i3 rec_qax n)) (kitOk_of eqOk mixed (known93 rec_qax hrec_qax)) (L := jnL) (loopsOk_of (bs := []) (by kernel_rfl) trivial) (fun _ => rfl) (by intro i qs r h; unfold qax_enc3 at h; split at h <;> cases h <;> rfl)
    (by intro ls r h; unfold qax_rec3 at h; split at h <;> cases h)
    (by intro n ls r h; unfold qax_rec3 at h; split at h; exact (show _ = qax_t3 rec_qax (qax_i3 rec_qax n) _ _ _ _ _ _ _ _ _ _ _ _ from by kernel_rfl).trans h; cases h) (by rw [qax_l3, sealF_eq])
def qax_L (rec_qax : TExpr → Option (Int × Int × (List UInt8) × (List (TExpr)))) : Nat → Option (Lift.Loop U) := fun n => bif Nat.beq n joinKey then some joinMark else bif Nat.beq n 3 then some (qax_lp3 rec_qax) else none
def qax_enc : Nat → List (TV U) → Option (Int × Int × (List UInt8) × (List (TExpr)))
  | 0, [⟨(.int .i64), a0⟩, ⟨(.int .i64), a1⟩, ⟨.str, a2⟩, ⟨(.slc (.st 1041)), a3⟩] => some (a0, a1, a2, a3)
  | _, _ => none
def qax_dec : Int × Int × (List UInt8) × (List (TExpr)) → Nat × List (TV U) := fun x => (0, [⟨(.int .i64), x.1⟩, ⟨(.int .i64), x.2.1⟩, ⟨.str, x.2.2.1⟩, ⟨(.slc (.st 1041)), x.2.2.2⟩])
def qax_md : Mode U := qax_rmd qax
theorem qax_step (rec_qax : TExpr → Option (Int × Int × (List UInt8) × (List (TExpr)))) (hrec_qax : ModeOk kk env0 55 (qax_rmd rec_qax)) : LoopsOk (Kit.withModes kk (modesOf (ms93 rec_qax))) env0 Tryz.f55.ntmps (qax_L rec_qax) (bodyOf Tryz.f55) := loopsOk_of (bs := [qax_b3]) (by kernel_rfl) ⟨.inr ⟨_, by kernel_rfl, LoopOk.of_round (qax_ok3 rec_qax hrec_qax)⟩, trivial⟩
theorem qax_post : ModeOk kk env0 55 (qax_rmd qax) :=
  rec_of (K := kk) (F := qax) qax_rmd qax_i (by rw [qax, sealF_eq]) (rec_zero (by intro ls r h; unfold qax_in at h; split at h <;> cases h)) (fun n ih => fn_of (fn := Tryz.f55) qax_enc qax_dec (kitOk_of eqOk mixed (known93 (qax_i n) ih)) (by kernel_rfl) (qax_step (qax_i n) ih) (fun _ => rfl) (by intro i qs r h; unfold qax_enc at h; split at h <;> cases h <;> rfl)
    (by intro ls r h; unfold qax_in at h; split at h; exact (show _ = qax_f (qax_i n) _ from by kernel_rfl).trans h; cases h))
def ms94 : List (FuncId × Mode U) := (55, qax_md) :: ms92
theorem known94 : Known kk env0 (modesOf ms94) := known_cons (by kernel_rfl) qax_post known92
def qay_sh : StSh := ⟨⟨[0], [], []⟩, [.t (.slc (.st 43))], []⟩
def qay_os : List StSh := [⟨⟨[0], [], [⟨.slot 0, 100000, 43, (.st 1043)⟩]⟩, [.oslc 100000], [.row 43 (.st 1043)]⟩]
def qay_tr : (List (TStmt)) → Tr (Nat × List (TV U)) := fun x => .ret (0, [⟨(.slc (.st 1043)), x⟩])
def qay_in (rec_qay : List (TStmt) → Option ((List (TStmt)))) : List (TV U) → Option ((List (TStmt)))
  | [⟨(.slc (.st 43)), a0⟩] => rec_qay a0
  | _ => none
def qay_rmd (rec_qay : List (TStmt) → Option ((List (TStmt)))) : Mode U := ⟨qay_sh, [], qay_os, fun ls => .get (qay_in rec_qay ls) qay_tr⟩
def ms95 (rec_qay : List (TStmt) → Option ((List (TStmt)))) : List (FuncId × Mode U) := (23, (qay_rmd rec_qay)) :: ms94
theorem known95 (rec_qay : List (TStmt) → Option ((List (TStmt)))) (hrec_qay : ModeOk kk env0 23 (qay_rmd rec_qay)) : Known kk env0 (modesOf (ms95 rec_qay)) := known_cons (by kernel_rfl) hrec_qay known94
def qay_sh3 : StSh := ⟨⟨[0, 3, 4], [], [⟨.slot 3, 3, 43, (.st 1043)⟩]⟩, [.t (.slc (.st 43)), .oslc 3, .t (.int .i64)], [.row 43 (.st 1043)]⟩
def qay_o3 : List Out := [⟨.exit 0, ⟨⟨[3], [], [⟨.slot 3, 3, 43, (.st 1043)⟩]⟩, [.oslc 3], [.row 43 (.st 1043)]⟩⟩]
def qay_b3 : Code := (nthLoop (bodyOf Tryz.f23) 0)
def qay_rec3 (rec : List (TStmt) → Int → List (TStmt) → Option ((List (TStmt)))) : List (TV U) → Option ((List (TStmt)))
  | [⟨(.slc (.st 43)), a0⟩, ⟨(.int .i64), a1⟩, ⟨(.slc (.st 1043)), a2⟩] => rec a0 a1 a2
  | _ => none
def qay_enc3 : Nat → List (TV U) → Option ((List (TStmt)))
  | 0, [⟨(.slc (.st 1043)), a0⟩] => some a0
  | _, _ => none
def qay_dec3 : (List (TStmt)) → Nat × List (TV U) := fun x => (0, [⟨(.slc (.st 1043)), x⟩])
def qay_tr3 : (List (TStmt)) → Tr (Nat × List (TV U)) := fun x => .ret (0, [⟨(.slc (.st 1043)), x⟩])
def qay_lp3 (rec_qay : List (TStmt) → Option ((List (TStmt)))) : Lift.Loop U := ⟨qay_sh3, qay_o3, fun ls => .get (qay_rec3 (qay_l3 rec_qay) ls) qay_tr3⟩
theorem qay_ok3 (rec_qay : List (TStmt) → Option ((List (TStmt)))) (hrec_qay : ModeOk kk env0 23 (qay_rmd rec_qay)) : LoopR kk env0 Tryz.f23.ntmps qay_b3 (qay_lp3 rec_qay) :=
  loop_of qay_enc3 qay_dec3 (fun n => qay_rec3 (qay_i3 rec_qay n)) (kitOk_of eqOk mixed (known95 rec_qay hrec_qay)) (L := jnL) (loopsOk_of (bs := []) (by kernel_rfl) trivial) (fun _ => rfl) (by intro i qs r h; unfold qay_enc3 at h; split at h <;> cases h <;> rfl)
    (by intro ls r h; unfold qay_rec3 at h; split at h <;> cases h)
    (by intro n ls r h; unfold qay_rec3 at h; split at h; exact (show _ = qay_t3 rec_qay (qay_i3 rec_qay n) _ _ _ from by kernel_rfl).trans h; cases h) (by rw [qay_l3, sealF_eq])
def qay_L (rec_qay : List (TStmt) → Option ((List (TStmt)))) : Nat → Option (Lift.Loop U) := fun n => bif Nat.beq n joinKey then some joinMark else bif Nat.beq n 3 then some (qay_lp3 rec_qay) else none
def qay_enc : Nat → List (TV U) → Option ((List (TStmt)))
  | 0, [⟨(.slc (.st 1043)), a0⟩] => some a0
  | _, _ => none
def qay_dec : (List (TStmt)) → Nat × List (TV U) := fun x => (0, [⟨(.slc (.st 1043)), x⟩])
def qay_md : Mode U := qay_rmd qay
theorem qay_step (rec_qay : List (TStmt) → Option ((List (TStmt)))) (hrec_qay : ModeOk kk env0 23 (qay_rmd rec_qay)) : LoopsOk (Kit.withModes kk (modesOf (ms95 rec_qay))) env0 Tryz.f23.ntmps (qay_L rec_qay) (bodyOf Tryz.f23) := loopsOk_of (bs := [qay_b3]) (by kernel_rfl) ⟨.inr ⟨_, by kernel_rfl, LoopOk.of_round (qay_ok3 rec_qay hrec_qay)⟩, trivial⟩
theorem qay_post : ModeOk kk env0 23 (qay_rmd qay) :=
  rec_of (K := kk) (F := qay) qay_rmd qay_i (by rw [qay, sealF_eq]) (rec_zero (by intro ls r h; unfold qay_in at h; split at h <;> cases h)) (fun n ih => fn_of (fn := Tryz.f23) qay_enc qay_dec (kitOk_of eqOk mixed (known95 (qay_i n) ih)) (by kernel_rfl) (qay_step (qay_i n) ih) (fun _ => rfl) (by intro i qs r h; unfold qay_enc at h; split at h <;> cases h <;> rfl)
    (by intro ls r h; unfold qay_in at h; split at h; exact (show _ = qay_f (qay_i n) _ from by kernel_rfl).trans h; cases h))
def ms96 : List (FuncId × Mode U) := (23, qay_md) :: ms94
theorem known96 : Known kk env0 (modesOf ms96) := known_cons (by kernel_rfl) qay_post known94
def qaw_sh5 : StSh := ⟨⟨[1, 2, 3, 4], [1, 2, 3], [⟨.cell 3 0, 20150, 46, (.st 46)⟩, ⟨.cell 3 1, 20151, 9, .str⟩, ⟨.cell 3 2, 20152, 38, (.st 1038)⟩]⟩, [.ptr 1 0, .ptr 2 0, .ptr 3 0, .t (.int .i64)], [.blk 26 [.t (.slc (.st 46)), .t (.slc .str), .t (.slc (.st 38))], .blk 26 [.nil, .nil, .nil], .blk 26 [.oslc 20150, .oslc 20151, .oslc 20152], .row 46 (.st 46), .row 9 .str, .row 38 (.st 1038)]⟩
def qaw_o5 : List Out := [⟨.exit 0, ⟨⟨[2, 3], [2, 3], [⟨.cell 3 0, 20150, 46, (.st 46)⟩, ⟨.cell 3 1, 20151, 9, .str⟩, ⟨.cell 3 2, 20152, 38, (.st 1038)⟩]⟩, [.ptr 2 0, .ptr 3 0], [.blk 26 [.nil, .nil, .nil], .blk 26 [.oslc 20150, .oslc 20151, .oslc 20152], .row 46 (.st 46), .row 9 .str, .row 38 (.st 1038)]⟩⟩]
def qaw_b5 : Code := (nthLoop (bodyOf Tryz.f10) 0)
def qaw_rec5 (rec : Int → List (TCell) → List (List UInt8) → List (TThread) → List (TCell) → List (List UInt8) → List (TThread) → Option ((List (TCell)) × (List (List UInt8)) × (List (TThread)))) : List (TV U) → Option ((List (TCell)) × (List (List UInt8)) × (List (TThread)))
  | [⟨(.int .i64), a0⟩, ⟨(.slc (.st 46)), a1⟩, ⟨(.slc .str), a2⟩, ⟨(.slc (.st 38)), a3⟩, ⟨(.slc (.st 46)), a4⟩, ⟨(.slc .str), a5⟩, ⟨(.slc (.st 1038)), a6⟩] => rec a0 a1 a2 a3 a4 a5 a6
  | _ => none
def qaw_enc5 : Nat → List (TV U) → Option ((List (TCell)) × (List (List UInt8)) × (List (TThread)))
  | 0, [⟨(.slc (.st 46)), a0⟩, ⟨(.slc .str), a1⟩, ⟨(.slc (.st 1038)), a2⟩] => some (a0, a1, a2)
  | _, _ => none
def qaw_dec5 : (List (TCell)) × (List (List UInt8)) × (List (TThread)) → Nat × List (TV U) := fun x => (0, [⟨(.slc (.st 46)), x.1⟩, ⟨(.slc .str), x.2.1⟩, ⟨(.slc (.st 1038)), x.2.2⟩])
def qaw_tr5 : (List (TCell)) × (List (List UInt8)) × (List (TThread)) → Tr (Nat × List (TV U)) := fun x => .ret (0, [⟨(.slc (.st 46)), x.1⟩, ⟨(.slc .str), x.2.1⟩, ⟨(.slc (.st 1038)), x.2.2⟩])
def qaw_lp5 : Lift.Loop U := ⟨qaw_sh5, qaw_o5, fun ls => .get (qaw_rec5 qaw_l5 ls) qaw_tr5⟩
theorem qaw_ok5 : LoopR kk env0 Tryz.f10.ntmps qaw_b5 qaw_lp5 :=
  loop_of qaw_enc5 qaw_dec5 (fun n => qaw_rec5 (qaw_i5 n)) (kitOk_of eqOk mixed known96) (L := jnL) (loopsOk_of (bs := []) (by kernel_rfl) trivial) (fun _ => rfl) (by intro i qs r h; unfold qaw_enc5 at h; split at h <;> cases h <;> rfl)
    (by intro ls r h; unfold qaw_rec5 at h; split at h <;> cases h)
    (by intro n ls r h; unfold qaw_rec5 at h; split at h; exact (show _ = qaw_t5 (qaw_i5 n) _ _ _ _ _ _ _ from by kernel_rfl).trans h; cases h) (by rw [qaw_l5, sealF_eq])
def qaw_sh : StSh := ⟨⟨[0], [], []⟩, [.t (.st 26)], []⟩
def qaw_os : List StSh := [⟨⟨[0], [], [⟨.sub 0 0, 100100, 46, (.st 46)⟩, ⟨.sub 0 1, 100200, 9, .str⟩, ⟨.sub 0 2, 100300, 38, (.st 1038)⟩]⟩, [.agg [.oslc 100100, .oslc 100200, .oslc 100300]], [.row 46 (.st 46), .row 9 .str, .row 38 (.st 1038)]⟩]
def qaw_tr : (List (TCell)) × (List (List UInt8)) × (List (TThread)) → Tr (Nat × List (TV U)) := fun x => .ret (0, [⟨(.slc (.st 46)), x.1⟩, ⟨(.slc .str), x.2.1⟩, ⟨(.slc (.st 1038)), x.2.2⟩])
def qaw_L : Nat → Option (Lift.Loop U) := fun n => bif Nat.beq n joinKey then some joinMark else bif Nat.beq n 5 then some qaw_lp5 else none
def qaw_enc : Nat → List (TV U) → Option ((List (TCell)) × (List (List UInt8)) × (List (TThread)))
  | 0, [⟨(.slc (.st 46)), a0⟩, ⟨(.slc .str), a1⟩, ⟨(.slc (.st 1038)), a2⟩] => some (a0, a1, a2)
  | _, _ => none
def qaw_dec : (List (TCell)) × (List (List UInt8)) × (List (TThread)) → Nat × List (TV U) := fun x => (0, [⟨(.slc (.st 46)), x.1⟩, ⟨(.slc .str), x.2.1⟩, ⟨(.slc (.st 1038)), x.2.2⟩])
def qaw_in : List (TV U) → Option ((List (TCell)) × (List (List UInt8)) × (List (TThread)))
  | [⟨(.st 26), a0⟩] => qaw a0
  | _ => none
def qaw_md : Mode U := ⟨qaw_sh, [], qaw_os, fun ls => .get (qaw_in ls) qaw_tr⟩
theorem qaw_post : ModeOk kk env0 10 qaw_md :=
  fn_of (fn := Tryz.f10) qaw_enc qaw_dec (kitOk_of eqOk mixed known96) (by kernel_rfl) (L := qaw_L) (loopsOk_of (bs := [qaw_b5]) (by kernel_rfl) ⟨.inr ⟨_, by kernel_rfl, LoopOk.of_round (qaw_ok5)⟩, trivial⟩) (fun _ => rfl) (by intro i qs r h; unfold qaw_enc at h; split at h <;> cases h <;> rfl)
    (by intro ls r h; unfold qaw_in at h; split at h; rw [qaw, sealF_eq] at h; exact Eq.trans (by kernel_rfl) h; cases h)
def ms97 : List (FuncId × Mode U) := (10, qaw_md) :: ms96
theorem known97 : Known kk env0 (modesOf ms97) := known_cons (by kernel_rfl) qaw_post known96
def qaA_sh : StSh := ⟨⟨[0, 1], [], []⟩, [.t (.st 41), .t (.st 41)], []⟩
def qaA_os : List StSh := [⟨⟨[0], [], []⟩, [.t .bool], []⟩]
def qaA_tr : Bool → Tr (Nat × List (TV U)) := fun x => .ret (0, [⟨.bool, x⟩])
def qaA_in (rec_qaA : TExpr → TExpr → Option (Bool)) : List (TV U) → Option (Bool)
  | [⟨(.st 41), a0⟩, ⟨(.st 41), a1⟩] => rec_qaA a0 a1
  | _ => none
def qaA_rmd (rec_qaA : TExpr → TExpr → Option (Bool)) : Mode U := ⟨qaA_sh, [], qaA_os, fun ls => .get (qaA_in rec_qaA ls) qaA_tr⟩
def ms137 (rec_qaA : TExpr → TExpr → Option (Bool)) : List (FuncId × Mode U) := (63, (qaA_rmd rec_qaA)) :: ms97
theorem known137 (rec_qaA : TExpr → TExpr → Option (Bool)) (hrec_qaA : ModeOk kk env0 63 (qaA_rmd rec_qaA)) : Known kk env0 (modesOf (ms137 rec_qaA)) := known_cons (by kernel_rfl) hrec_qaA known97
def qaA_sh4 : StSh := ⟨⟨[2, 3, 5], [2, 3], []⟩, [.ptr 2 0, .ptr 3 0, .t (.int .i64)], [.blk 41 [.t (.int .i64), .t (.int .i64), .t .str, .t (.slc (.st 41))], .blk 41 [.t (.int .i64), .t (.int .i64), .t .str, .t (.slc (.st 41))]]⟩
def qaA_o4 : List Out := [⟨.ret, ⟨⟨[4], [], []⟩, [.t .bool], []⟩⟩, ⟨.exit 0, ⟨⟨[], [], []⟩, [], []⟩⟩]
def qaA_b4 : Code := (nthLoop (bodyOf Tryz.f63) 0)
def qaA_rec4 (rec : Int → Int → Int → List UInt8 → List (TExpr) → Int → Int → List UInt8 → List (TExpr) → Option ((Bool) ⊕ (Unit))) : List (TV U) → Option ((Bool) ⊕ (Unit))
  | [⟨(.int .i64), a0⟩, ⟨(.int .i64), a1⟩, ⟨(.int .i64), a2⟩, ⟨.str, a3⟩, ⟨(.slc (.st 41)), a4⟩, ⟨(.int .i64), a5⟩, ⟨(.int .i64), a6⟩, ⟨.str, a7⟩, ⟨(.slc (.st 41)), a8⟩] => rec a0 a1 a2 a3 a4 a5 a6 a7 a8
  | _ => none
def qaA_enc4 : Nat → List (TV U) → Option ((Bool) ⊕ (Unit))
  | 0, [⟨.bool, a0⟩] => some (.inl a0)
  | 1, [] => some (.inr ())
  | _, _ => none
def qaA_dec4 : (Bool) ⊕ (Unit) → Nat × List (TV U) := fun r => match r with | (.inl x) => (0, [⟨.bool, x⟩]) | (.inr x) => (1, [])
def qaA_tr4 : (Bool) ⊕ (Unit) → Tr (Nat × List (TV U)) := fun r => .alt r (fun x => .ret (0, [⟨.bool, x⟩])) (fun y => (fun x => .ret (1, [])) y)
def qaA_lp4 (rec_qaA : TExpr → TExpr → Option (Bool)) : Lift.Loop U := ⟨qaA_sh4, qaA_o4, fun ls => .get (qaA_rec4 (qaA_l4 rec_qaA) ls) qaA_tr4⟩
theorem qaA_ok4 (rec_qaA : TExpr → TExpr → Option (Bool)) (hrec_qaA : ModeOk kk env0 63 (qaA_rmd rec_qaA)) : LoopR kk env0 Tryz.f63.ntmps qaA_b4 (qaA_lp4 rec_qaA) :=
  loop_of qaA_enc4 qaA_dec4 (fun n => qaA_rec4 (qaA_i4 rec_qaA n)) (kitOk_of eqOk mixed (known137 rec_qaA hrec_qaA)) (L := jnL) (loopsOk_of (bs := []) (by kernel_rfl) trivial) (by intro r; rcases r with r | r <;> rfl) (by intro i qs r h; unfold qaA_enc4 at h; split at h <;> cases h <;> rfl)
    (by intro ls r h; unfold qaA_rec4 at h; split at h <;> cases h)
    (by intro n ls r h; unfold qaA_rec4 at h; split at h; exact (show _ = qaA_t4 rec_qaA (qaA_i4 rec_qaA n) _ _ _ _ _ _ _ _ _ from by kernel_rfl).trans h; cases h) (by rw [qaA_l4, sealF_eq])
def qaA_L (rec_qaA : TExpr → TExpr → Option (Bool)) : Nat → Option (Lift.Loop U) := fun n => bif Nat.beq n joinKey then some joinMark else bif Nat.beq n 4 then some (qaA_lp4 rec_qaA) else none
def qaA_enc : Nat → List (TV U) → Option (Bool)
  | 0, [⟨.bool, a0⟩] => some a0
  | _, _ => none
def qaA_dec : Bool → Nat × List (TV U) := fun x => (0, [⟨.bool, x⟩])
def qaA_md : Mode U := qaA_rmd qaA
theorem qaA_step (rec_qaA : TExpr → TExpr → Option (Bool)) (hrec_qaA : ModeOk kk env0 63 (qaA_rmd rec_qaA)) : LoopsOk (Kit.withModes kk (modesOf (ms137 rec_qaA))) env0 Tryz.f63.ntmps (qaA_L rec_qaA) (bodyOf Tryz.f63) := loopsOk_of (bs := [qaA_b4]) (by kernel_rfl) ⟨.inr ⟨_, by kernel_rfl, LoopOk.of_round (qaA_ok4 rec_qaA hrec_qaA)⟩, trivial⟩
theorem qaA_post : ModeOk kk env0 63 (qaA_rmd qaA) :=
  rec_of (K := kk) (F := qaA) qaA_rmd qaA_i (by rw [qaA, sealF_eq]) (rec_zero (by intro ls r h; unfold qaA_in at h; split at h <;> cases h)) (fun n ih => fn_of (fn := Tryz.f63) qaA_enc qaA_dec (kitOk_of eqOk mixed (known137 (qaA_i n) ih)) (by kernel_rfl) (qaA_step (qaA_i n) ih) (fun _ => rfl) (by intro i qs r h; unfold qaA_enc at h; split at h <;> cases h <;> rfl)
    (by intro ls r h; unfold qaA_in at h; split at h; exact (show _ = qaA_f (qaA_i n) _ _ from by kernel_rfl).trans h; cases h))
def ms138 : List (FuncId × Mode U) := (63, qaA_md) :: ms97
theorem known138 : Known kk env0 (modesOf ms138) := known_cons (by kernel_rfl) qaA_post known97
def qaB_sh : StSh := ⟨⟨[0, 1], [], []⟩, [.t (.slc (.st 43)), .t (.slc (.st 43))], []⟩
def qaB_os : List StSh := [⟨⟨[0], [], []⟩, [.t .bool], []⟩]
def qaB_tr : Bool → Tr (Nat × List (TV U)) := fun x => .ret (0, [⟨.bool, x⟩])
def qaB_in (rec_qaB : List (TStmt) → List (TStmt) → Option (Bool)) : List (TV U) → Option (Bool)
  | [⟨(.slc (.st 43)), a0⟩, ⟨(.slc (.st 43)), a1⟩] => rec_qaB a0 a1
  | _ => none
def qaB_rmd (rec_qaB : List (TStmt) → List (TStmt) → Option (Bool)) : Mode U := ⟨qaB_sh, [], qaB_os, fun ls => .get (qaB_in rec_qaB ls) qaB_tr⟩
def ms139 (rec_qaB : List (TStmt) → List (TStmt) → Option (Bool)) : List (FuncId × Mode U) := (26, (qaB_rmd rec_qaB)) :: ms138
theorem known139 (rec_qaB : List (TStmt) → List (TStmt) → Option (Bool)) (hrec_qaB : ModeOk kk env0 26 (qaB_rmd rec_qaB)) : Known kk env0 (modesOf (ms139 rec_qaB)) := known_cons (by kernel_rfl) hrec_qaB known138
def qaB_sh4 : StSh := ⟨⟨[0, 1, 5], [], []⟩, [.t (.slc (.st 43)), .t (.slc (.st 43)), .t (.int .i64)], []⟩
def qaB_o4 : List Out := [⟨.ret, ⟨⟨[4], [], []⟩, [.t .bool], []⟩⟩, ⟨.exit 0, ⟨⟨[], [], []⟩, [], []⟩⟩]
def qaB_b4 : Code := (nthLoop (bodyOf Tryz.f26) 0)
def qaB_rec4 (rec : List (TStmt) → List (TStmt) → Int → Option ((Bool) ⊕ (Unit))) : List (TV U) → Option ((Bool) ⊕ (Unit))
  | [⟨(.slc (.st 43)), a0⟩, ⟨(.slc (.st 43)), a1⟩, ⟨(.int .i64), a2⟩] => rec a0 a1 a2
  | _ => none
def qaB_enc4 : Nat → List (TV U) → Option ((Bool) ⊕ (Unit))
  | 0, [⟨.bool, a0⟩] => some (.inl a0)
  | 1, [] => some (.inr ())
  | _, _ => none
def qaB_dec4 : (Bool) ⊕ (Unit) → Nat × List (TV U) := fun r => match r with | (.inl x) => (0, [⟨.bool, x⟩]) | (.inr x) => (1, [])
def qaB_tr4 : (Bool) ⊕ (Unit) → Tr (Nat × List (TV U)) := fun r => .alt r (fun x => .ret (0, [⟨.bool, x⟩])) (fun y => (fun x => .ret (1, [])) y)
def qaB_lp4 (rec_qaB : List (TStmt) → List (TStmt) → Option (Bool)) : Lift.Loop U := ⟨qaB_sh4, qaB_o4, fun ls => .get (qaB_rec4 (qaB_l4 rec_qaB) ls) qaB_tr4⟩
theorem qaB_ok4 (rec_qaB : List (TStmt) → List (TStmt) → Option (Bool)) (hrec_qaB : ModeOk kk env0 26 (qaB_rmd rec_qaB)) : LoopR kk env0 Tryz.f26.ntmps qaB_b4 (qaB_lp4 rec_qaB) :=
  loop_of qaB_enc4 qaB_dec4 (fun n => qaB_rec4 (qaB_i4 rec_qaB n)) (kitOk_of eqOk mixed (known139 rec_qaB hrec_qaB)) (L := jnL) (loopsOk_of (bs := []) (by kernel_rfl) trivial) (by intro r; rcases r with r | r <;> rfl) (by intro i qs r h; unfold qaB_enc4 at h; split at h <;> cases h <;> rfl)
    (by intro ls r h; unfold qaB_rec4 at h; split at h <;> cases h)
    (by intro n ls r h; unfold qaB_rec4 at h; split at h; exact (show _ = qaB_t4 rec_qaB (qaB_i4 rec_qaB n) _ _ _ from by kernel_rfl).trans h; cases h) (by rw [qaB_l4, sealF_eq])
def qaB_L (rec_qaB : List (TStmt) → List (TStmt) → Option (Bool)) : Nat → Option (Lift.Loop U) := fun n => bif Nat.beq n joinKey then some joinMark else bif Nat.beq n 4 then some (qaB_lp4 rec_qaB) else none
def qaB_enc : Nat → List (TV U) → Option (Bool)
  | 0, [⟨.bool, a0⟩] => some a0
  | _, _ => none
def qaB_dec : Bool → Nat × List (TV U) := fun x => (0, [⟨.bool, x⟩])
def qaB_md : Mode U := qaB_rmd qaB
theorem qaB_step (rec_qaB : List (TStmt) → List (TStmt) → Option (Bool)) (hrec_qaB : ModeOk kk env0 26 (qaB_rmd rec_qaB)) : LoopsOk (Kit.withModes kk (modesOf (ms139 rec_qaB))) env0 Tryz.f26.ntmps (qaB_L rec_qaB) (bodyOf Tryz.f26) := loopsOk_of (bs := [qaB_b4]) (by kernel_rfl) ⟨.inr ⟨_, by kernel_rfl, LoopOk.of_round (qaB_ok4 rec_qaB hrec_qaB)⟩, trivial⟩
theorem qaB_post : ModeOk kk env0 26 (qaB_rmd qaB) :=
  rec_of (K := kk) (F := qaB) qaB_rmd qaB_i (by rw [qaB, sealF_eq]) (rec_zero (by intro ls r h; unfold qaB_in at h; split at h <;> cases h)) (fun n ih => fn_of (fn := Tryz.f26) qaB_enc qaB_dec (kitOk_of eqOk mixed (known139 (qaB_i n) ih)) (by kernel_rfl) (qaB_step (qaB_i n) ih) (fun _ => rfl) (by intro i qs r h; unfold qaB_enc at h; split at h <;> cases h <;> rfl)
    (by intro ls r h; unfold qaB_in at h; split at h; exact (show _ = qaB_f (qaB_i n) _ _ from by kernel_rfl).trans h; cases h))
def ms140 : List (FuncId × Mode U) := (26, qaB_md) :: ms138
theorem known140 : Known kk env0 (modesOf ms140) := known_cons (by kernel_rfl) qaB_post known138
def qaz_sh4 : StSh := ⟨⟨[2, 3, 5], [2, 3], []⟩, [.ptr 2 0, .ptr 3 0, .t (.int .i64)], [.blk 26 [.t (.slc (.st 46)), .t (.slc .str), .t (.slc (.st 38))], .blk 26 [.t (.slc (.st 46)), .t (.slc .str), .t (.slc (.st 38))]]⟩
def qaz_o4 : List Out := [⟨.ret, ⟨⟨[4], [], []⟩, [.t .bool], []⟩⟩, ⟨.exit 0, ⟨⟨[2, 3], [2, 3], []⟩, [.ptr 2 0, .ptr 3 0], [.blk 26 [.t (.slc (.st 46)), .t (.slc .str), .t (.slc (.st 38))], .blk 26 [.t (.slc (.st 46)), .t (.slc .str), .t (.slc (.st 38))]]⟩⟩]
def qaz_b4 : Code := (nthLoop (bodyOf Tryz.f13) 0)
def qaz_rec4 (rec : Int → List (TCell) → List (List UInt8) → List (TThread) → List (TCell) → List (List UInt8) → List (TThread) → Option ((Bool) ⊕ ((List (TCell)) × (List (List UInt8)) × (List (TThread)) × (List (TCell)) × (List (List UInt8)) × (List (TThread))))) : List (TV U) → Option ((Bool) ⊕ ((List (TCell)) × (List (List UInt8)) × (List (TThread)) × (List (TCell)) × (List (List UInt8)) × (List (TThread))))
  | [⟨(.int .i64), a0⟩, ⟨(.slc (.st 46)), a1⟩, ⟨(.slc .str), a2⟩, ⟨(.slc (.st 38)), a3⟩, ⟨(.slc (.st 46)), a4⟩, ⟨(.slc .str), a5⟩, ⟨(.slc (.st 38)), a6⟩] => rec a0 a1 a2 a3 a4 a5 a6
  | _ => none
def qaz_enc4 : Nat → List (TV U) → Option ((Bool) ⊕ ((List (TCell)) × (List (List UInt8)) × (List (TThread)) × (List (TCell)) × (List (List UInt8)) × (List (TThread))))
  | 0, [⟨.bool, a0⟩] => some (.inl a0)
  | 1, [⟨(.slc (.st 46)), a0⟩, ⟨(.slc .str), a1⟩, ⟨(.slc (.st 38)), a2⟩, ⟨(.slc (.st 46)), a3⟩, ⟨(.slc .str), a4⟩, ⟨(.slc (.st 38)), a5⟩] => some (.inr (a0, a1, a2, a3, a4, a5))
  | _, _ => none
def qaz_dec4 : (Bool) ⊕ ((List (TCell)) × (List (List UInt8)) × (List (TThread)) × (List (TCell)) × (List (List UInt8)) × (List (TThread))) → Nat × List (TV U) := fun r => match r with | (.inl x) => (0, [⟨.bool, x⟩]) | (.inr x) => (1, [⟨(.slc (.st 46)), x.1⟩, ⟨(.slc .str), x.2.1⟩, ⟨(.slc (.st 38)), x.2.2.1⟩, ⟨(.slc (.st 46)), x.2.2.2.1⟩, ⟨(.slc .str), x.2.2.2.2.1⟩, ⟨(.slc (.st 38)), x.2.2.2.2.2⟩])
def qaz_tr4 : (Bool) ⊕ ((List (TCell)) × (List (List UInt8)) × (List (TThread)) × (List (TCell)) × (List (List UInt8)) × (List (TThread))) → Tr (Nat × List (TV U)) := fun r => .alt r (fun x => .ret (0, [⟨.bool, x⟩])) (fun y => (fun x => .ret (1, [⟨(.slc (.st 46)), x.1⟩, ⟨(.slc .str), x.2.1⟩, ⟨(.slc (.st 38)), x.2.2.1⟩, ⟨(.slc (.st 46)), x.2.2.2.1⟩, ⟨(.slc .str), x.2.2.2.2.1⟩, ⟨(.slc (.st 38)), x.2.2.2.2.2⟩])) y)
def qaz_lp4 : Lift.Loop U := ⟨qaz_sh4, qaz_o4, fun ls => .get (qaz_rec4 qaz_l4 ls) qaz_tr4⟩
theorem qaz_ok4 : LoopR kk env0 Tryz.f13.ntmps qaz_b4 qaz_lp4 :=
  loop_of qaz_enc4 qaz_dec4 (fun n => qaz_rec4 (qaz_i4 n)) (kitOk_of eqOk mixed known140) (L := jnL) (loopsOk_of (bs := []) (by kernel_rfl) trivial) (by intro r; rcases r with r | r <;> rfl) (by intro i qs r h; unfold qaz_enc4 at h; split at h <;> cases h <;> rfl)
    (by intro ls r h; unfold qaz_rec4 at h; split at h <;> cases h)
    (by intro n ls r h; unfold qaz_rec4 at h; split at h; exact (show _ = qaz_t4 (qaz_i4 n) _ _ _ _ _ _ _ from by kernel_rfl).trans h; cases h) (by rw [qaz_l4, sealF_eq])
def qaz_sh9 : StSh := ⟨⟨[2, 3, 6], [2, 3], []⟩, [.ptr 2 0, .ptr 3 0, .t (.int .i64)], [.blk 26 [.t (.slc (.st 46)), .t (.slc .str), .t (.slc (.st 38))], .blk 26 [.t (.slc (.st 46)), .t (.slc .str), .t (.slc (.st 38))]]⟩
def qaz_o9 : List Out := [⟨.ret, ⟨⟨[4], [], []⟩, [.t .bool], []⟩⟩, ⟨.exit 2, ⟨⟨[2, 3], [2, 3], []⟩, [.ptr 2 0, .ptr 3 0], [.blk 26 [.t (.slc (.st 46)), .t (.slc .str), .t (.slc (.st 38))], .blk 26 [.t (.slc (.st 46)), .t (.slc .str), .t (.slc (.st 38))]]⟩⟩]
def qaz_b9 : Code := (nthLoop (bodyOf Tryz.f13) 1)
def qaz_rec9 (rec : Int → List (TCell) → List (List UInt8) → List (TThread) → List (TCell) → List (List UInt8) → List (TThread) → Option ((Bool) ⊕ ((List (TCell)) × (List (List UInt8)) × (List (TThread)) × (List (TCell)) × (List (List UInt8)) × (List (TThread))))) : List (TV U) → Option ((Bool) ⊕ ((List (TCell)) × (List (List UInt8)) × (List (TThread)) × (List (TCell)) × (List (List UInt8)) × (List (TThread))))
  | [⟨(.int .i64), a0⟩, ⟨(.slc (.st 46)), a1⟩, ⟨(.slc .str), a2⟩, ⟨(.slc (.st 38)), a3⟩, ⟨(.slc (.st 46)), a4⟩, ⟨(.slc .str), a5⟩, ⟨(.slc (.st 38)), a6⟩] => rec a0 a1 a2 a3 a4 a5 a6
  | _ => none
def qaz_enc9 : Nat → List (TV U) → Option ((Bool) ⊕ ((List (TCell)) × (List (List UInt8)) × (List (TThread)) × (List (TCell)) × (List (List UInt8)) × (List (TThread))))
  | 0, [⟨.bool, a0⟩] => some (.inl a0)
  | 1, [⟨(.slc (.st 46)), a0⟩, ⟨(.slc .str), a1⟩, ⟨(.slc (.st 38)), a2⟩, ⟨(.slc (.st 46)), a3⟩, ⟨(.slc .str), a4⟩, ⟨(.slc (.st 38)), a5⟩] => some (.inr (a0, a1, a2, a3, a4, a5))
  | _, _ => none
def qaz_dec9 : (Bool) ⊕ ((List (TCell)) × (List (List UInt8)) × (List (TThread)) × (List (TCell)) × (List (List UInt8)) × (List (TThread))) → Nat × List (TV U) := fun r => match r with | (.inl x) => (0, [⟨.bool, x⟩]) | (.inr x) => (1, [⟨(.slc (.st 46)), x.1⟩, ⟨(.slc .str), x.2.1⟩, ⟨(.slc (.st 38)), x.2.2.1⟩, ⟨(.slc (.st 46)), x.2.2.2.1⟩, ⟨(.slc .str), x.2.2.2.2.1⟩, ⟨(.slc (.st 38)), x.2.2.2.2.2⟩])
def qaz_tr9 : (Bool) ⊕ ((List (TCell)) × (List (List UInt8)) × (List (TThread)) × (List (TCell)) × (List (List UInt8)) × (List (TThread))) → Tr (Nat × List (TV U)) := fun r => .alt r (fun x => .ret (0, [⟨.bool, x⟩])) (fun y => (fun x => .ret (1, [⟨(.slc (.st 46)), x.1⟩, ⟨(.slc .str), x.2.1⟩, ⟨(.slc (.st 38)), x.2.2.1⟩, ⟨(.slc (.st 46)), x.2.2.2.1⟩, ⟨(.slc .str), x.2.2.2.2.1⟩, ⟨(.slc (.st 38)), x.2.2.2.2.2⟩])) y)
def qaz_lp9 : Lift.Loop U := ⟨qaz_sh9, qaz_o9, fun ls => .get (qaz_rec9 qaz_l9 ls) qaz_tr9⟩
theorem qaz_ok9 : LoopR kk env0 Tryz.f13.ntmps qaz_b9 qaz_lp9 :=
  loop_of qaz_enc9 qaz_dec9 (fun n => qaz_rec9 (qaz_i9 n)) (kitOk_of eqOk mixed known140) (L := jnL) (loopsOk_of (bs := []) (by kernel_rfl) trivial) (by intro r; rcases r with r | r <;> rfl) (by intro i qs r h; unfold qaz_enc9 at h; split at h <;> cases h <;> rfl)
    (by intro ls r h; unfold qaz_rec9 at h; split at h <;> cases h)
    (by intro n ls r h; unfold qaz_rec9 at h; split at h; exact (show _ = qaz_t9 (qaz_i9 n) _ _ _ _ _ _ _ from by kernel_rfl).trans h; cases h) (by rw [qaz_l9, sealF_eq])
def qaz_sh14 : StSh := ⟨⟨[2, 3, 7], [2, 3], []⟩, [.ptr 2 0, .ptr 3 0, .t (.int .i64)], [.blk 26 [.t (.slc (.st 46)), .t (.slc .str), .t (.slc (.st 38))], .blk 26 [.t (.slc (.st 46)), .t (.slc .str), .t (.slc (.st 38))]]⟩
def qaz_o14 : List Out := [⟨.ret, ⟨⟨[4], [], []⟩, [.t .bool], []⟩⟩, ⟨.exit 4, ⟨⟨[], [], []⟩, [], []⟩⟩]
def qaz_b14 : Code := (nthLoop (bodyOf Tryz.f13) 2)
def qaz_rec14 (rec : Int → List (TCell) → List (List UInt8) → List (TThread) → List (TCell) → List (List UInt8) → List (TThread) → Option ((Bool) ⊕ (Unit))) : List (TV U) → Option ((Bool) ⊕ (Unit))
  | [⟨(.int .i64), a0⟩, ⟨(.slc (.st 46)), a1⟩, ⟨(.slc .str), a2⟩, ⟨(.slc (.st 38)), a3⟩, ⟨(.slc (.st 46)), a4⟩, ⟨(.slc .str), a5⟩, ⟨(.slc (.st 38)), a6⟩] => rec a0 a1 a2 a3 a4 a5 a6
  | _ => none
def qaz_enc14 : Nat → List (TV U) → Option ((Bool) ⊕ (Unit))
  | 0, [⟨.bool, a0⟩] => some (.inl a0)
  | 1, [] => some (.inr ())
  | _, _ => none
def qaz_dec14 : (Bool) ⊕ (Unit) → Nat × List (TV U) := fun r => match r with | (.inl x) => (0, [⟨.bool, x⟩]) | (.inr x) => (1, [])
def qaz_tr14 : (Bool) ⊕ (Unit) → Tr (Nat × List (TV U)) := fun r => .alt r (fun x => .ret (0, [⟨.bool, x⟩])) (fun y => (fun x => .ret (1, [])) y)
def qaz_lp14 : Lift.Loop U := ⟨qaz_sh14, qaz_o14, fun ls => .get (qaz_rec14 qaz_l14 ls) qaz_tr14⟩
theorem qaz_ok14 : LoopR kk env0 Tryz.f13.ntmps qaz_b14 qaz_lp14 :=
  loop_of qaz_enc14 qaz_dec14 (fun n => qaz_rec14 (qaz_i14 n)) (kitOk_of eqOk mixed known140) (L := jnL) (loopsOk_of (bs := []) (by kernel_rfl) trivial) (by intro r; rcases r with r | r <;> rfl) (by intro i qs r h; unfold qaz_enc14 at h; split at h <;> cases h <;> rfl)
    (by intro ls r h; unfold qaz_rec14 at h; split at h <;> cases h)
    (by intro n ls r h; unfold qaz_rec14 at h; split at h; exact (show _ = qaz_t14 (qaz_i14 n) _ _ _ _ _ _ _ from by kernel_rfl).trans h; cases h) (by rw [qaz_l14, sealF_eq])
def qaz_sh : StSh := ⟨⟨[0, 1], [], []⟩, [.t (.st 26), .t (.st 26)], []⟩
def qaz_os : List StSh := [⟨⟨[0], [], []⟩, [.t .bool], []⟩]
def qaz_tr : Bool → Tr (Nat × List (TV U)) := fun x => .ret (0, [⟨.bool, x⟩])
def qaz_L : Nat → Option (Lift.Loop U) := fun n => bif Nat.beq n joinKey then some joinMark else bif Nat.beq n 4 then some qaz_lp4 else bif Nat.beq n 9 then some qaz_lp9 else bif Nat.beq n 14 then some qaz_lp14 else none
def qaz_enc : Nat → List (TV U) → Option (Bool)
  | 0, [⟨.bool, a0⟩] => some a0
  | _, _ => none
def qaz_dec : Bool → Nat × List (TV U) := fun x => (0, [⟨.bool, x⟩])
def qaz_in : List (TV U) → Option (Bool)
  | [⟨(.st 26), a0⟩, ⟨(.st 26), a1⟩] => qaz a0 a1
  | _ => none
def qaz_md : Mode U := ⟨qaz_sh, [], qaz_os, fun ls => .get (qaz_in ls) qaz_tr⟩
theorem qaz_post : ModeOk kk env0 13 qaz_md :=
  fn_of (fn := Tryz.f13) qaz_enc qaz_dec (kitOk_of eqOk mixed known140) (by kernel_rfl) (L := qaz_L) (loopsOk_of (bs := [qaz_b4, qaz_b9, qaz_b14]) (by kernel_rfl) ⟨.inr ⟨_, by kernel_rfl, LoopOk.of_round (qaz_ok4)⟩, .inr ⟨_, by kernel_rfl, LoopOk.of_round (qaz_ok9)⟩, .inr ⟨_, by kernel_rfl, LoopOk.of_round (qaz_ok14)⟩, trivial⟩) (fun _ => rfl) (by intro i qs r h; unfold qaz_enc at h; split at h <;> cases h <;> rfl)
    (by intro ls r h; unfold qaz_in at h; split at h; rw [qaz, sealF_eq] at h; exact Eq.trans (by kernel_rfl) h; cases h)
def ms141 : List (FuncId × Mode U) := (13, qaz_md) :: ms140
theorem known141 : Known kk env0 (modesOf ms141) := known_cons (by kernel_rfl) qaz_post known140
def qau_sh : StSh := ⟨⟨[0, 1], [], []⟩, [.t (.st 26), .t (.st 26)], []⟩
def qau_os : List StSh := [⟨⟨[0], [], []⟩, [.t .bool], []⟩]
def qau_tr : Bool → Tr (Nat × List (TV U)) := fun x => .ret (0, [⟨.bool, x⟩])
def qau_enc : Nat → List (TV U) → Option (Bool)
  | 0, [⟨.bool, a0⟩] => some a0
  | _, _ => none
def qau_dec : Bool → Nat × List (TV U) := fun x => (0, [⟨.bool, x⟩])
def qau_in : List (TV U) → Option (Bool)
  | [⟨(.st 26), a0⟩, ⟨(.st 26), a1⟩] => qau a0 a1
  | _ => none
def qau_md : Mode U := ⟨qau_sh, [], qau_os, fun ls => .get (qau_in ls) qau_tr⟩
theorem qau_post : ModeOk kk env0 5 qau_md :=
  fn_of (fn := Tryz.f5) qau_enc qau_dec (kitOk_of eqOk mixed known141) (by kernel_rfl) (L := jnL) (loopsOk_of (bs := []) (by kernel_rfl) trivial) (fun _ => rfl) (by intro i qs r h; unfold qau_enc at h; split at h <;> cases h <;> rfl)
    (by intro ls r h; unfold qau_in at h; split at h; rw [qau, sealF_eq] at h; exact Eq.trans (by kernel_rfl) h; cases h)
end
end Lift.F3
