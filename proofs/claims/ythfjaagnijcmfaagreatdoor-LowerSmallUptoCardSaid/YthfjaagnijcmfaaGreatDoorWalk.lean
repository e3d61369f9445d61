/-
  DERIVED. Each function of this seat computes its Lean function. Conditions: as each theorem says.
-/
import Derived.Test.YthfjaagnijcmfaaGreatDoorDefs
set_option linter.unusedVariables false
set_option linter.unusedSimpArgs false
set_option linter.unusedSectionVars false
namespace Lift.F9
noncomputable section
open Go Go.RowKit Go.Proofs Lift Lift.Fn
def qaq_sh3 : StSh := ⟨⟨[3, 4, 5], [], [⟨.slot 3, 3, 9, .str⟩]⟩, [.oslc 3, .t (.int .i64), .t (.int .i64)], [.row 9 .str]⟩
def qaq_o3 : List Out := [⟨.exit 0, ⟨⟨[3], [], [⟨.slot 3, 3, 9, .str⟩]⟩, [.oslc 3], [.row 9 .str]⟩⟩]
def qaq_b3 : Code := (nthLoop (bodyOf Tryz.f33) 0)
def qaq_rec3 (rec : Int → Int → List (List UInt8) → Option ((List (List UInt8)))) : List (TV U) → Option ((List (List UInt8)))
  | [⟨(.int .i64), a0⟩, ⟨(.int .i64), a1⟩, ⟨(.slc .str), a2⟩] => rec a0 a1 a2
  | _ => none
def qaq_enc3 : Nat → List (TV U) → Option ((List (List UInt8)))
  | 0, [⟨(.slc .str), a0⟩] => some a0
  | _, _ => none
def qaq_dec3 : (List (List UInt8)) → Nat × List (TV U) := fun x => (0, [⟨(.slc .str), x⟩])
def qaq_tr3 : (List (List UInt8)) → Tr (Nat × List (TV U)) := fun x => .ret (0, [⟨(.slc .str), x⟩])
def qaq_lp3 : Lift.Loop U := ⟨qaq_sh3, qaq_o3, fun ls => .get (qaq_rec3 qaq_l3 ls) qaq_tr3⟩
theorem qaq_ok3 : LoopR kk env0 Tryz.f33.ntmps qaq_b3 qaq_lp3 :=
  loop_of qaq_enc3 qaq_dec3 (fun n => qaq_rec3 (qaq_i3 n)) (kitOk_of eqOk mixed known5) (L := jnL) (loopsOk_of (bs := []) (by kernel_rfl) trivial) (fun _ => rfl) (by intro i qs r h; unfold qaq_enc3 at h; split at h <;> cases h <;> rfl)
    (by intro ls r h; unfold qaq_rec3 at h; split at h <;> cases h)
    (by intro n ls r h; unfold qaq_rec3 at h; split at h; exact (show _ = qaq_t3 (qaq_i3 n) _ _ _ from by kernel_rfl).trans h; cases h) (by rw [qaq_l3, sealF_eq])
def qaq_sh : StSh := ⟨⟨[0], [], []⟩, [.t (.int .i64)], []⟩
def qaq_os : List StSh := [⟨⟨[0], [], [⟨.slot 0, 100000, 9, .str⟩]⟩, [.oslc 100000], [.row 9 .str]⟩]
def qaq_tr : (List (List UInt8)) → Tr (Nat × List (TV U)) := fun x => .ret (0, [⟨(.slc .str), x⟩])
def qaq_L : Nat → Option (Lift.Loop U) := fun n => bif Nat.beq n joinKey then some joinMark else bif Nat.beq n 3 then some qaq_lp3 else none
def qaq_enc : Nat → List (TV U) → Option ((List (List UInt8)))
  | 0, [⟨(.slc .str), a0⟩] => some a0
  | _, _ => none
def qaq_dec : (List (List UInt8)) → Nat × List (TV U) := fun x => (0, [⟨(.slc .str), x⟩])
def qaq_in : List (TV U) → Option ((List (List UInt8)))
  | [⟨(.int .i64), a0⟩] => qaq a0
  | _ => none
def qaq_md : Mode U := ⟨qaq_sh, [], qaq_os, fun ls => .get (qaq_in ls) qaq_tr⟩
theorem qaq_post : ModeOk kk env0 33 qaq_md :=
  fn_of (fn := Tryz.f33) qaq_enc qaq_dec (kitOk_of eqOk mixed known5) (by kernel_rfl) (L := qaq_L) (loopsOk_of (bs := [qaq_b3]) (by kernel_rfl) ⟨.inr ⟨_, by kernel_rfl, LoopOk.of_round (qaq_ok3)⟩, trivial⟩) (fun _ => rfl) (by intro i qs r h; unfold qaq_enc at h; split at h <;> cases h <;> rfl)
    (by intro ls r h; unfold qaq_in at h; split at h; rw [qaq, sealF_eq] at h; exact Eq.trans (by kernel_rfl) h; cases h)
def ms6 : List (FuncId × Mode U) := (33, qaq_md) :: ms5
theorem known6 : Known kk env0 (modesOf ms6) := known_cons (by kernel_rfl) qaq_post known5
def qa6_sh : StSh := ⟨⟨[0], [], []⟩, [.t (.slc .str)], []⟩
def qa6_os : List StSh := [⟨⟨[0], [], [⟨.slot 0, 100000, 9, .str⟩]⟩, [.oslc 100000], [.row 9 .str]⟩]
def qa6_tr : (List (List UInt8)) → Tr (Nat × List (TV U)) := fun x => .ret (0, [⟨(.slc .str), x⟩])
def qa6_enc : Nat → List (TV U) → Option ((List (List UInt8)))
  | 0, [⟨(.slc .str), a0⟩] => some a0
  | _, _ => none
def qa6_dec : (List (List UInt8)) → Nat × List (TV U) := fun x => (0, [⟨(.slc .str), x⟩])
def qa6_in : List (TV U) → Option ((List (List UInt8)))
  | [⟨(.slc .str), a0⟩] => qa6 a0
  | _ => none
def qa6_md : Mode U := ⟨qa6_sh, [], qa6_os, fun ls => .get (qa6_in ls) qa6_tr⟩
theorem qa6_post : ModeOk kk env0 47 qa6_md :=
  fn_of (fn := Tryz.f47) qa6_enc qa6_dec (kitOk_of eqOk mixed known6) (by kernel_rfl) (L := jnL) (loopsOk_of (bs := []) (by kernel_rfl) trivial) (fun _ => rfl) (by intro i qs r h; unfold qa6_enc at h; split at h <;> cases h <;> rfl)
    (by intro ls r h; unfold qa6_in at h; split at h; rw [qa6, sealF_eq] at h; exact Eq.trans (by kernel_rfl) h; cases h)
def ms7 : List (FuncId × Mode U) := (47, qa6_md) :: ms6
theorem known7 : Known kk env0 (modesOf ms7) := known_cons (by kernel_rfl) qa6_post known6
def qa4_sh : StSh := ⟨⟨[0], [], [⟨.slot 0, 0, 9, .str⟩]⟩, [.oslc 0], [.row 9 .str]⟩
def qa4_os : List StSh := [⟨⟨[0], [], [⟨.slot 0, 100000, 9, .str⟩]⟩, [.oslc 100000], [.row 9 .str]⟩]
def qa4_tr : (List (List UInt8)) → Tr (Nat × List (TV U)) := fun x => .ret (0, [⟨(.slc .str), x⟩])
def qa4_enc : Nat → List (TV U) → Option ((List (List UInt8)))
  | 0, [⟨(.slc .str), a0⟩] => some a0
  | _, _ => none
def qa4_dec : (List (List UInt8)) → Nat × List (TV U) := fun x => (0, [⟨(.slc .str), x⟩])
def qa4_in : List (TV U) → Option ((List (List UInt8)))
  | [⟨(.slc .str), a0⟩] => qa4 a0
  | _ => none
def qa4_md : Mode U := ⟨qa4_sh, [], qa4_os, fun ls => .get (qa4_in ls) qa4_tr⟩
theorem qa4_post : ModeOk kk env0 46 qa4_md :=
  fn_of (fn := Tryz.f46) qa4_enc qa4_dec (kitOk_of eqOk mixed known7) (by kernel_rfl) (L := jnL) (loopsOk_of (bs := []) (by kernel_rfl) trivial) (fun _ => rfl) (by intro i qs r h; unfold qa4_enc at h; split at h <;> cases h <;> rfl)
    (by intro ls r h; unfold qa4_in at h; split at h; rw [qa4, sealF_eq] at h; exact Eq.trans (by kernel_rfl) h; cases h)
def ms8 : List (FuncId × Mode U) := (46, qa4_md) :: ms7
theorem known8 : Known kk env0 (modesOf ms8) := known_cons (by kernel_rfl) qa4_post known7
def qam_sh : StSh := ⟨⟨[0, 1], [], []⟩, [.t (.slc .str), .t (.int .i64)], []⟩
def qam_os : List StSh := [⟨⟨[0], [], []⟩, [.t .str], []⟩]
def qam_tr : (List UInt8) → Tr (Nat × List (TV U)) := fun x => .ret (0, [⟨.str, x⟩])
def qam_enc : Nat → List (TV U) → Option ((List UInt8))
  | 0, [⟨.str, a0⟩] => some a0
  | _, _ => none
def qam_dec : (List UInt8) → Nat × List (TV U) := fun x => (0, [⟨.str, x⟩])
def qam_in : List (TV U) → Option ((List UInt8))
  | [⟨(.slc .str), a0⟩, ⟨(.int .i64), a1⟩] => qam a0 a1
  | _ => none
def qam_md : Mode U := ⟨qam_sh, [], qam_os, fun ls => .get (qam_in ls) qam_tr⟩
theorem qam_post : ModeOk kk env0 68 qam_md :=
  fn_of (fn := Tryz.f68) qam_enc qam_dec (kitOk_of eqOk mixed known8) (by kernel_rfl) (L := jnL) (loopsOk_of (bs := []) (by kernel_rfl) trivial) (fun _ => rfl) (by intro i qs r h; unfold qam_enc at h; split at h <;> cases h <;> rfl)
    (by intro ls r h; unfold qam_in at h; split at h; rw [qam, sealF_eq] at h; exact Eq.trans (by kernel_rfl) h; cases h)
def ms9 : List (FuncId × Mode U) := (68, qam_md) :: ms8
theorem known9 : Known kk env0 (modesOf ms9) := known_cons (by kernel_rfl) qam_post known8
def qaa_sh : StSh := ⟨⟨[0, 1], [], []⟩, [.t (.st 100), .t (.st 57)], []⟩
def qaa_os : List StSh := [⟨⟨[0], [], [⟨.sub 0 3, 100400, 57, (.st 1057)⟩]⟩, [.agg [.t (.int .i64), .t (.int .i64), .t .str, .oslc 100400]], [.row 57 (.st 1057)]⟩]
def qaa_tr : Int × Int × (List UInt8) × (List (TExpr)) → Tr (Nat × List (TV U)) := fun x => .ret (0, [⟨(.int .i64), x.1⟩, ⟨(.int .i64), x.2.1⟩, ⟨.str, x.2.2.1⟩, ⟨(.slc (.st 1057)), x.2.2.2⟩])
def qaa_in (rec_qaa : Namer → TExpr → Option (Int × Int × (List UInt8) × (List (TExpr)))) : List (TV U) → Option (Int × Int × (List UInt8) × (List (TExpr)))
  | [⟨(.st 100), a0⟩, ⟨(.st 57), a1⟩] => rec_qaa a0 a1
  | _ => none
def qaa_rmd (rec_qaa : Namer → TExpr → Option (Int × Int × (List UInt8) × (List (TExpr)))) : Mode U := ⟨qaa_sh, [], qaa_os, fun ls => .get (qaa_in rec_qaa ls) qaa_tr⟩
def ms10 (rec_qaa : Namer → TExpr → Option (Int × Int × (List UInt8) × (List (TExpr)))) : List (FuncId × Mode U) := (66, (qaa_rmd rec_qaa)) :: ms9
theorem known10 (rec_qaa : Namer → TExpr → Option (Int × Int × (List UInt8) × (List (TExpr)))) (hrec_qaa : ModeOk kk env0 66 (qaa_rmd rec_qaa)) : Known kk env0 (modesOf (ms10 rec_qaa)) := known_cons (by kernel_rfl) hrec_qaa known9
def qaa_sh8 : StSh := ⟨⟨[2, 4, 5, 30, 31, 32], [2, 4, 5], [⟨.cell 5 3, 20253, 57, (.st 1057)⟩]⟩, [.ptr 2 0, .ptr 4 0, .ptr 5 0, .t (.slc (.st 57)), .t (.int .i64), .t (.int .i64)], [.blk 100 [.t (.slc .str), .t (.slc .str), .t (.slc .str), .t (.slc .str)], .blk 57 [.t (.int .i64), .t (.int .i64), .t .str, .nil], .blk 57 [.t (.int .i64), .t (.int .i64), .t .str, .oslc 20253], .row 57 (.st 1057)]⟩
def qaa_o8 : List Out := [⟨.exit 0, ⟨⟨[4, 5], [4, 5], [⟨.cell 5 3, 20253, 57, (.st 1057)⟩]⟩, [.ptr 4 0, .ptr 5 0], [.blk 57 [.t (.int .i64), .t (.int .i64), .t .str, .nil], .blk 57 [.t (.int .i64), .t (.int .i64), .t .str, .oslc 20253], .row 57 (.st 1057)]⟩⟩]
def qaa_b8 : Code := (nthLoop (bodyOf Tryz.f66) 0)
def qaa_rec8 (rec : List (TExpr) → Int → Int → List (List UInt8) → List (List UInt8) → List (List UInt8) → List (List UInt8) → Int → Int → List UInt8 → Int → Int → List UInt8 → List (TExpr) → Option (Int × Int × (List UInt8) × Int × Int × (List UInt8) × (List (TExpr)))) : List (TV U) → Option (Int × Int × (List UInt8) × Int × Int × (List UInt8) × (List (TExpr)))
  | [⟨(.slc (.st 57)), a0⟩, ⟨(.int .i64), a1⟩, ⟨(.int .i64), a2⟩, ⟨(.slc .str), a3⟩, ⟨(.slc .str), a4⟩, ⟨(.slc .str), a5⟩, ⟨(.slc .str), a6⟩, ⟨(.int .i64), a7⟩, ⟨(.int .i64), a8⟩, ⟨.str, a9⟩, ⟨(.int .i64), a10⟩, ⟨(.int .i64), a11⟩, ⟨.str, a12⟩, ⟨(.slc (.st 1057)), a13⟩] => rec a0 a1 a2 a3 a4 a5 a6 a7 a8 a9 a10 a11 a12 a13
  | _ => none
def qaa_enc8 : Nat → List (TV U) → Option (Int × Int × (List UInt8) × Int × Int × (List UInt8) × (List (TExpr)))
  | 0, [⟨(.int .i64), a0⟩, ⟨(.int .i64), a1⟩, ⟨.str, a2⟩, ⟨(.int .i64), a3⟩, ⟨(.int .i64), a4⟩, ⟨.str, a5⟩, ⟨(.slc (.st 1057)), a6⟩] => some (a0, a1, a2, a3, a4, a5, a6)
  | _, _ => none
def qaa_dec8 : Int × Int × (List UInt8) × Int × Int × (List UInt8) × (List (TExpr)) → Nat × List (TV U) := fun x => (0, [⟨(.int .i64), x.1⟩, ⟨(.int .i64), x.2.1⟩, ⟨.str, x.2.2.1⟩, ⟨(.int .i64), x.2.2.2.1⟩, ⟨(.int .i64), x.2.2.2.2.1⟩, ⟨.str, x.2.2.2.2.2.1⟩, ⟨(.slc (.st 1057)), x.2.2.2.2.2.2⟩])
def qaa_tr8 : Int × Int × (List UInt8) × Int × Int × (List UInt8) × (List (TExpr)) → Tr (Nat × List (TV U)) := fun x => .ret (0, [⟨(.int .i64), x.1⟩, ⟨(.int .i64), x.2.1⟩, ⟨.str, x.2.2.1⟩, ⟨(.int .i64), x.2.2.2.1⟩, ⟨(.int .i64), x.2.2.2.2.1⟩, ⟨.str, x.2.2.2.2.2.1⟩, ⟨(.slc (.st 1057)), x.2.2.2.2.2.2⟩])
def qaa_lp8 (rec_qaa : Namer → TExpr → Option (Int × Int × (List UInt8) × (List (TExpr)))) : Lift.Loop U := ⟨qaa_sh8, qaa_o8, fun ls => .get (qaa_rec8 (qaa_l8 rec_qaa) ls) qaa_tr8⟩
theorem qaa_ok8 (rec_qaa : Namer → TExpr → Option (Int × Int × (List UInt8) × (List (TExpr)))) (hrec_qaa : ModeOk kk env0 66 (qaa_rmd rec_qaa)) : LoopR kk env0 Tryz.f66.ntmps qaa_b8 (qaa_lp8 rec_qaa) :=
  loop_of qaa_enc8 qaa_dec8 (fun n => qaa_rec8 (qaa_i8 rec_qaa n)) (kitOk_of eqOk mixed (known10 rec_qaa hrec_qaa)) (L := jnL) (loopsOk_of (bs := []) (by kernel_rfl) trivial) (fun _ => rfl) (by intro i qs r h; unfold qaa_enc8 at h; split at h <;> cases h <;> rfl)
    (by intro ls r h; unfold qaa_rec8 at h; split at h <;> cases h)
    (by intro n ls r h; unfold qaa_rec8 at h; split at h; exact (show _ = qaa_t8 rec_qaa (qaa_i8 rec_qaa n) _ _ _ _ _ _ _ _ _ _ _ _ _ _ from by kernel_rfl).trans h; cases h) (by rw [qaa_l8, sealF_eq])
def qaa_L (rec_qaa : Namer → TExpr → Option (Int × Int × (List UInt8) × (List (TExpr)))) : Nat → Option (Lift.Loop U) := fun n => bif Nat.beq n joinKey then some joinMark else bif Nat.beq n 8 then some (qaa_lp8 rec_qaa) else none
def qaa_enc : Nat → List (TV U) → Option (Int × Int × (List UInt8) × (List (TExpr)))
  | 0, [⟨(.int .i64), a0⟩, ⟨(.int .i64), a1⟩, ⟨.str, a2⟩, ⟨(.slc (.st 1057)), a3⟩] => some (a0, a1, a2, a3)
  | _, _ => none
def qaa_dec : Int × Int × (List UInt8) × (List (TExpr)) → Nat × List (TV U) := fun x => (0, [⟨(.int .i64), x.1⟩, ⟨(.int .i64), x.2.1⟩, ⟨.str, x.2.2.1⟩, ⟨(.slc (.st 1057)), x.2.2.2⟩])
def qaa_md : Mode U := qaa_rmd qaa
theorem qaa_step (rec_qaa : Namer → TExpr → Option (Int × Int × (List UInt8) × (List (TExpr)))) (hrec_qaa : ModeOk kk env0 66 (qaa_rmd rec_qaa)) : LoopsOk (Kit.withModes kk (modesOf (ms10 rec_qaa))) env0 Tryz.f66.ntmps (qaa_L rec_qaa) (bodyOf Tryz.f66) := loopsOk_of (bs := [qaa_b8]) (by kernel_rfl) ⟨.inr ⟨_, by kernel_rfl, LoopOk.of_round (qaa_ok8 rec_qaa hrec_qaa)⟩, trivial⟩
theorem qaa_post : ModeOk kk env0 66 (qaa_rmd qaa) :=
  rec_of (K := kk) (F := qaa) qaa_rmd qaa_i (by rw [qaa, sealF_eq]) (rec_zero (by intro ls r h; unfold qaa_in at h; split at h <;> cases h)) (fun n ih => fn_of (fn := Tryz.f66) qaa_enc qaa_dec (kitOk_of eqOk mixed (known10 (qaa_i n) ih)) (by kernel_rfl) (qaa_step (qaa_i n) ih) (fun _ => rfl) (by intro i qs r h; unfold qaa_enc at h; split at h <;> cases h <;> rfl)
    (by intro ls r h; unfold qaa_in at h; split at h; exact (show _ = qaa_f (qaa_i n) _ _ from by kernel_rfl).trans h; cases h))
def ms11 : List (FuncId × Mode U) := (66, qaa_md) :: ms9
theorem known11 : Known kk env0 (modesOf ms11) := known_cons (by kernel_rfl) qaa_post known9
def qab_sh : StSh := ⟨⟨[0, 1], [], []⟩, [.t (.st 100), .t (.slc (.st 59))], []⟩
def qab_os : List StSh := [⟨⟨[0], [], [⟨.slot 0, 100000, 78, (.st 1078)⟩]⟩, [.oslc 100000], [.row 78 (.st 1078)]⟩]
def qab_tr : (List (TStmt)) → Tr (Nat × List (TV U)) := fun x => .ret (0, [⟨(.slc (.st 1078)), x⟩])
def qab_in (rec_qab : Namer → List (TAct) → Option ((List (TStmt)))) : List (TV U) → Option ((List (TStmt)))
  | [⟨(.st 100), a0⟩, ⟨(.slc (.st 59)), a1⟩] => rec_qab a0 a1
  | _ => none
def qab_rmd (rec_qab : Namer → List (TAct) → Option ((List (TStmt)))) : Mode U := ⟨qab_sh, [], qab_os, fun ls => .get (qab_in rec_qab ls) qab_tr⟩
def ms12 (rec_qab : Namer → List (TAct) → Option ((List (TStmt)))) : List (FuncId × Mode U) := (48, (qab_rmd rec_qab)) :: ms11
theorem known12 (rec_qab : Namer → List (TAct) → Option ((List (TStmt)))) (hrec_qab : ModeOk kk env0 48 (qab_rmd rec_qab)) : Known kk env0 (modesOf (ms12 rec_qab)) := known_cons (by kernel_rfl) hrec_qab known11
def qan_sh : StSh := ⟨⟨[0], [], []⟩, [.t (.int .i64)], []⟩
def qan_os : List StSh := [⟨⟨[0], [], []⟩, [.t .bool], []⟩]
def qan_tr : Bool → Tr (Nat × List (TV U)) := fun x => .ret (0, [⟨.bool, x⟩])
def qan_enc : Nat → List (TV U) → Option (Bool)
  | 0, [⟨.bool, a0⟩] => some a0
  | _, _ => none
def qan_dec : Bool → Nat × List (TV U) := fun x => (0, [⟨.bool, x⟩])
def qan_in (rec_qab : Namer → List (TAct) → Option ((List (TStmt)))) : List (TV U) → Option (Bool)
  | [⟨(.int .i64), a0⟩] => qan rec_qab a0
  | _ => none
def qan_md (rec_qab : Namer → List (TAct) → Option ((List (TStmt)))) : Mode U := ⟨qan_sh, [], qan_os, fun ls => .get (qan_in rec_qab ls) qan_tr⟩
theorem qan_post (rec_qab : Namer → List (TAct) → Option ((List (TStmt)))) (hrec_qab : ModeOk kk env0 48 (qab_rmd rec_qab)) : ModeOk kk env0 67 (qan_md rec_qab) :=
  fn_of (fn := Tryz.f67) qan_enc qan_dec (kitOk_of eqOk mixed (known12 rec_qab hrec_qab)) (by kernel_rfl) (L := jnL) (loopsOk_of (bs := []) (by kernel_rfl) trivial) (fun _ => rfl) (by intro i qs r h; unfold qan_enc at h; split at h <;> cases h <;> rfl)
    (by intro ls r h; unfold qan_in at h; split at h; rw [qan, sealF_eq] at h; exact Eq.trans (by kernel_rfl) h; cases h)
def ms13 (rec_qab : Namer → List (TAct) → Option ((List (TStmt)))) : List (FuncId × Mode U) := (67, (qan_md rec_qab)) :: (ms12 rec_qab)
theorem known13 (rec_qab : Namer → List (TAct) → Option ((List (TStmt)))) (hrec_qab : ModeOk kk env0 48 (qab_rmd rec_qab)) : Known kk env0 (modesOf (ms13 rec_qab)) := known_cons (by kernel_rfl) (qan_post rec_qab hrec_qab) (known12 rec_qab hrec_qab)
def qao_sh : StSh := ⟨⟨[0], [], []⟩, [.t (.int .i64)], []⟩
def qao_os : List StSh := [⟨⟨[0], [], []⟩, [.t (.int .i64)], []⟩]
def qao_tr : Int → Tr (Nat × List (TV U)) := fun x => .ret (0, [⟨(.int .i64), x⟩])
def qao_enc : Nat → List (TV U) → Option (Int)
  | 0, [⟨(.int .i64), a0⟩] => some a0
  | _, _ => none
def qao_dec : Int → Nat × List (TV U) := fun x => (0, [⟨(.int .i64), x⟩])
def qao_in (rec_qab : Namer → List (TAct) → Option ((List (TStmt)))) : List (TV U) → Option (Int)
  | [⟨(.int .i64), a0⟩] => qao rec_qab a0
  | _ => none
def qao_md (rec_qab : Namer → List (TAct) → Option ((List (TStmt)))) : Mode U := ⟨qao_sh, [], qao_os, fun ls => .get (qao_in rec_qab ls) qao_tr⟩
theorem qao_post (rec_qab : Namer → List (TAct) → Option ((List (TStmt)))) (hrec_qab : ModeOk kk env0 48 (qab_rmd rec_qab)) : ModeOk kk env0 69 (qao_md rec_qab) :=
  fn_of (fn := Tryz.f69) qao_enc qao_dec (kitOk_of eqOk mixed (known13 rec_qab hrec_qab)) (by kernel_rfl) (L := jnL) (loopsOk_of (bs := []) (by kernel_rfl) trivial) (fun _ => rfl) (by intro i qs r h; unfold qao_enc at h; split at h <;> cases h <;> rfl)
    (by intro ls r h; unfold qao_in at h; split at h; rw [qao, sealF_eq] at h; exact Eq.trans (by kernel_rfl) h; cases h)
def ms14 (rec_qab : Namer → List (TAct) → Option ((List (TStmt)))) : List (FuncId × Mode U) := (69, (qao_md rec_qab)) :: (ms13 rec_qab)
theorem known14 (rec_qab : Namer → List (TAct) → Option ((List (TStmt)))) (hrec_qab : ModeOk kk env0 48 (qab_rmd rec_qab)) : Known kk env0 (modesOf (ms14 rec_qab)) := known_cons (by kernel_rfl) (qao_post rec_qab hrec_qab) (known13 rec_qab hrec_qab)
def qab_sh3 : StSh := ⟨⟨[2, 5, 9, 10, 11], [2], [⟨.slot 5, 5, 78, (.st 1078)⟩]⟩, [.ptr 2 0, .oslc 5, .t (.slc (.st 59)), .t (.int .i64), .t (.int .i64)], [.blk 100 [.t (.slc .str), .t (.slc .str), .t (.slc .str), .t (.slc .str)], .row 78 (.st 1078)]⟩
def qab_o3 : List Out := [⟨.exit 0, ⟨⟨[5], [], [⟨.slot 5, 5, 78, (.st 1078)⟩]⟩, [.oslc 5], [.row 78 (.st 1078)]⟩⟩]
def qab_b3 : Code := (nthLoop (bodyOf Tryz.f48) 0)
def qab_rec3 (rec : List (TAct) → Int → Int → List (List UInt8) → List (List UInt8) → List (List UInt8) → List (List UInt8) → List (TStmt) → Option ((List (TStmt)))) : List (TV U) → Option ((List (TStmt)))
  | [⟨(.slc (.st 59)), a0⟩, ⟨(.int .i64), a1⟩, ⟨(.int .i64), a2⟩, ⟨(.slc .str), a3⟩, ⟨(.slc .str), a4⟩, ⟨(.slc .str), a5⟩, ⟨(.slc .str), a6⟩, ⟨(.slc (.st 1078)), a7⟩] => rec a0 a1 a2 a3 a4 a5 a6 a7
  | _ => none
def qab_enc3 : Nat → List (TV U) → Option ((List (TStmt)))
  | 0, [⟨(.slc (.st 1078)), a0⟩] => some a0
  | _, _ => none
def qab_dec3 : (List (TStmt)) → Nat × List (TV U) := fun x => (0, [⟨(.slc (.st 1078)), x⟩])
def qab_tr3 : (List (TStmt)) → Tr (Nat × List (TV U)) := fun x => .ret (0, [⟨(.slc (.st 1078)), x⟩])
def qab_lp3 (rec_qab : Namer → List (TAct) → Option ((List (TStmt)))) : Lift.Loop U := ⟨qab_sh3, qab_o3, fun ls => .get (qab_rec3 (qab_l3 rec_qab) ls) qab_tr3⟩
theorem qab_ok3 (rec_qab : Namer → List (TAct) → Option ((List (TStmt)))) (hrec_qab : ModeOk kk env0 48 (qab_rmd rec_qab)) : LoopR kk env0 Tryz.f48.ntmps qab_b3 (qab_lp3 rec_qab) :=
  loop_of qab_enc3 qab_dec3 (fun n => qab_rec3 (qab_i3 rec_qab n)) (kitOk_of eqOk mixed (known14 rec_qab hrec_qab)) (L := jnL) (loopsOk_of (bs := []) (by kernel_rfl) trivial) (fun _ => rfl) (by intro i qs r h; unfold qab_enc3 at h; split at h <;> cases h <;> rfl)
    (by intro ls r h; unfold qab_rec3 at h; split at h <;> cases h)
    (by intro n ls r h; unfold qab_rec3 at h; split at h; exact (show _ = qab_t3 rec_qab (qab_i3 rec_qab n) _ _ _ _ _ _ _ _ from by kernel_rfl).trans h; cases h) (by rw [qab_l3, sealF_eq])
def qab_L (rec_qab : Namer → List (TAct) → Option ((List (TStmt)))) : Nat → Option (Lift.Loop U) := fun n => bif Nat.beq n joinKey then some joinMark else bif Nat.beq n 3 then some (qab_lp3 rec_qab) else none
def qab_enc : Nat → List (TV U) → Option ((List (TStmt)))
  | 0, [⟨(.slc (.st 1078)), a0⟩] => some a0
  | _, _ => none
def qab_dec : (List (TStmt)) → Nat × List (TV U) := fun x => (0, [⟨(.slc (.st 1078)), x⟩])
def qab_md : Mode U := qab_rmd qab
theorem qab_step (rec_qab : Namer → List (TAct) → Option ((List (TStmt)))) (hrec_qab : ModeOk kk env0 48 (qab_rmd rec_qab)) : LoopsOk (Kit.withModes kk (modesOf (ms14 rec_qab))) env0 Tryz.f48.ntmps (qab_L rec_qab) (bodyOf Tryz.f48) := loopsOk_of (bs := [qab_b3]) (by kernel_rfl) ⟨.inr ⟨_, by kernel_rfl, LoopOk.of_round (qab_ok3 rec_qab hrec_qab)⟩, trivial⟩
theorem qab_post : ModeOk kk env0 48 (qab_rmd qab) :=
  rec_of (K := kk) (F := qab) qab_rmd qab_i (by rw [qab, sealF_eq]) (rec_zero (by intro ls r h; unfold qab_in at h; split at h <;> cases h)) (fun n ih => fn_of (fn := Tryz.f48) qab_enc qab_dec (kitOk_of eqOk mixed (known14 (qab_i n) ih)) (by kernel_rfl) (qab_step (qab_i n) ih) (fun _ => rfl) (by intro i qs r h; unfold qab_enc at h; split at h <;> cases h <;> rfl)
    (by intro ls r h; unfold qab_in at h; split at h; exact (show _ = qab_f (qab_i n) _ _ from by kernel_rfl).trans h; cases h))
def ms15 : List (FuncId × Mode U) := (48, qab_md) :: ms11
theorem known15 : Known kk env0 (modesOf ms15) := known_cons (by kernel_rfl) qab_post known11
def qap_sh3 : StSh := ⟨⟨[2, 3, 4, 5, 12, 13, 14], [2, 3, 4, 5], [⟨.cell 5 0, 20250, 73, (.st 73)⟩]⟩, [.ptr 2 0, .ptr 3 0, .ptr 4 0, .ptr 5 0, .t (.slc (.int .i64)), .t (.int .i64), .t (.int .i64)], [.blk 25 [.t (.slc (.int .i64)), .t (.int .i64), .t (.slc (.st 51))], .blk 88 [.t (.slc .str), .t (.slc .str), .t (.slc .str), .t (.slc (.slc .str))], .blk 44 [.nil, .nil, .nil], .blk 44 [.oslc 20250, .nil, .nil], .row 73 (.st 73)]⟩
def qap_o3 : List Out := [⟨.exit 0, ⟨⟨[2, 3, 4, 5], [2, 3, 4, 5], [⟨.cell 5 0, 20250, 73, (.st 73)⟩]⟩, [.ptr 2 0, .ptr 3 0, .ptr 4 0, .ptr 5 0], [.blk 25 [.t (.slc (.int .i64)), .t (.int .i64), .t (.slc (.st 51))], .blk 88 [.t (.slc .str), .t (.slc .str), .t (.slc .str), .t (.slc (.slc .str))], .blk 44 [.nil, .nil, .nil], .blk 44 [.oslc 20250, .nil, .nil], .row 73 (.st 73)]⟩⟩]
def qap_b3 : Code := (nthLoop (bodyOf Tryz.f35) 0)
def qap_rec3 (rec : List (Int) → Int → Int → List (Int) → Int → List (TBody) → List (List UInt8) → List (List UInt8) → List (List UInt8) → List (List (List UInt8)) → List (TCell) → Option ((List (Int)) × Int × (List (TBody)) × (List (List UInt8)) × (List (List UInt8)) × (List (List UInt8)) × (List (List (List UInt8))) × (List (TCell)))) : List (TV U) → Option ((List (Int)) × Int × (List (TBody)) × (List (List UInt8)) × (List (List UInt8)) × (List (List UInt8)) × (List (List (List UInt8))) × (List (TCell)))
  | [⟨(.slc (.int .i64)), a0⟩, ⟨(.int .i64), a1⟩, ⟨(.int .i64), a2⟩, ⟨(.slc (.int .i64)), a3⟩, ⟨(.int .i64), a4⟩, ⟨(.slc (.st 51)), a5⟩, ⟨(.slc .str), a6⟩, ⟨(.slc .str), a7⟩, ⟨(.slc .str), a8⟩, ⟨(.slc (.slc .str)), a9⟩, ⟨(.slc (.st 73)), a10⟩] => rec a0 a1 a2 a3 a4 a5 a6 a7 a8 a9 a10
  | _ => none
def qap_enc3 : Nat → List (TV U) → Option ((List (Int)) × Int × (List (TBody)) × (List (List UInt8)) × (List (List UInt8)) × (List (List UInt8)) × (List (List (List UInt8))) × (List (TCell)))
  | 0, [⟨(.slc (.int .i64)), a0⟩, ⟨(.int .i64), a1⟩, ⟨(.slc (.st 51)), a2⟩, ⟨(.slc .str), a3⟩, ⟨(.slc .str), a4⟩, ⟨(.slc .str), a5⟩, ⟨(.slc (.slc .str)), a6⟩, ⟨(.slc (.st 73)), a7⟩] => some (a0, a1, a2, a3, a4, a5, a6, a7)
  | _, _ => none
def qap_dec3 : (List (Int)) × Int × (List (TBody)) × (List (List UInt8)) × (List (List UInt8)) × (List (List UInt8)) × (List (List (List UInt8))) × (List (TCell)) → Nat × List (TV U) := fun x => (0, [⟨(.slc (.int .i64)), x.1⟩, ⟨(.int .i64), x.2.1⟩, ⟨(.slc (.st 51)), x.2.2.1⟩, ⟨(.slc .str), x.2.2.2.1⟩, ⟨(.slc .str), x.2.2.2.2.1⟩, ⟨(.slc .str), x.2.2.2.2.2.1⟩, ⟨(.slc (.slc .str)), x.2.2.2.2.2.2.1⟩, ⟨(.slc (.st 73)), x.2.2.2.2.2.2.2⟩])
def qap_tr3 : (List (Int)) × Int × (List (TBody)) × (List (List UInt8)) × (List (List UInt8)) × (List (List UInt8)) × (List (List (List UInt8))) × (List (TCell)) → Tr (Nat × List (TV U)) := fun x => .ret (0, [⟨(.slc (.int .i64)), x.1⟩, ⟨(.int .i64), x.2.1⟩, ⟨(.slc (.st 51)), x.2.2.1⟩, ⟨(.slc .str), x.2.2.2.1⟩, ⟨(.slc .str), x.2.2.2.2.1⟩, ⟨(.slc .str), x.2.2.2.2.2.1⟩, ⟨(.slc (.slc .str)), x.2.2.2.2.2.2.1⟩, ⟨(.slc (.st 73)), x.2.2.2.2.2.2.2⟩])
def qap_lp3 : Lift.Loop U := ⟨qap_sh3, qap_o3, fun ls => .get (qap_rec3 qap_l3 ls) qap_tr3⟩
theorem qap_ok3 : LoopR kk env0 Tryz.f35.ntmps qap_b3 qap_lp3 :=
  loop_of qap_enc3 qap_dec3 (fun n => qap_rec3 (qap_i3 n)) (kitOk_of eqOk mixed known15) (L := jnL) (loopsOk_of (bs := []) (by kernel_rfl) trivial) (fun _ => rfl) (by intro i qs r h; unfold qap_enc3 at h; split at h <;> cases h <;> rfl)
    (by intro ls r h; unfold qap_rec3 at h; split at h <;> cases h)
    (by intro n ls r h; unfold qap_rec3 at h; split at h; exact (show _ = qap_t3 (qap_i3 n) _ _ _ _ _ _ _ _ _ _ _ from by kernel_rfl).trans h; cases h) (by rw [qap_l3, sealF_eq])
def qap_sh9 : StSh := ⟨⟨[3, 4, 5, 38, 39, 40], [3, 4, 5], [⟨.cell 5 0, 20250, 73, (.st 73)⟩, ⟨.cell 5 1, 20251, 9, .str⟩, ⟨.cell 5 2, 20252, 53, (.st 1053)⟩]⟩, [.ptr 3 0, .ptr 4 0, .ptr 5 0, .t (.slc (.st 51)), .t (.int .i64), .t (.int .i64)], [.blk 88 [.t (.slc .str), .t (.slc .str), .t (.slc .str), .t (.slc (.slc .str))], .blk 44 [.nil, .nil, .nil], .blk 44 [.oslc 20250, .oslc 20251, .oslc 20252], .row 73 (.st 73), .row 9 .str, .row 53 (.st 1053)]⟩
def qap_o9 : List Out := [⟨.exit 2, ⟨⟨[4, 5], [4, 5], [⟨.cell 5 0, 20250, 73, (.st 73)⟩, ⟨.cell 5 1, 20251, 9, .str⟩, ⟨.cell 5 2, 20252, 53, (.st 1053)⟩]⟩, [.ptr 4 0, .ptr 5 0], [.blk 44 [.nil, .nil, .nil], .blk 44 [.oslc 20250, .oslc 20251, .oslc 20252], .row 73 (.st 73), .row 9 .str, .row 53 (.st 1053)]⟩⟩]
def qap_b9 : Code := (nthLoop (bodyOf Tryz.f35) 1)
def qap_rec9 (rec : List (TBody) → Int → Int → List (List UInt8) → List (List UInt8) → List (List UInt8) → List (List (List UInt8)) → List (TCell) → List (List UInt8) → List (TThread) → Option ((List (TCell)) × (List (List UInt8)) × (List (TThread)))) : List (TV U) → Option ((List (TCell)) × (List (List UInt8)) × (List (TThread)))
  | [⟨(.slc (.st 51)), a0⟩, ⟨(.int .i64), a1⟩, ⟨(.int .i64), a2⟩, ⟨(.slc .str), a3⟩, ⟨(.slc .str), a4⟩, ⟨(.slc .str), a5⟩, ⟨(.slc (.slc .str)), a6⟩, ⟨(.slc (.st 73)), a7⟩, ⟨(.slc .str), a8⟩, ⟨(.slc (.st 1053)), a9⟩] => rec a0 a1 a2 a3 a4 a5 a6 a7 a8 a9
  | _ => none
def qap_enc9 : Nat → List (TV U) → Option ((List (TCell)) × (List (List UInt8)) × (List (TThread)))
  | 0, [⟨(.slc (.st 73)), a0⟩, ⟨(.slc .str), a1⟩, ⟨(.slc (.st 1053)), a2⟩] => some (a0, a1, a2)
  | _, _ => none
def qap_dec9 : (List (TCell)) × (List (List UInt8)) × (List (TThread)) → Nat × List (TV U) := fun x => (0, [⟨(.slc (.st 73)), x.1⟩, ⟨(.slc .str), x.2.1⟩, ⟨(.slc (.st 1053)), x.2.2⟩])
def qap_tr9 : (List (TCell)) × (List (List UInt8)) × (List (TThread)) → Tr (Nat × List (TV U)) := fun x => .ret (0, [⟨(.slc (.st 73)), x.1⟩, ⟨(.slc .str), x.2.1⟩, ⟨(.slc (.st 1053)), x.2.2⟩])
def qap_lp9 : Lift.Loop U := ⟨qap_sh9, qap_o9, fun ls => .get (qap_rec9 qap_l9 ls) qap_tr9⟩
theorem qap_ok9 : LoopR kk env0 Tryz.f35.ntmps qap_b9 qap_lp9 :=
  loop_of qap_enc9 qap_dec9 (fun n => qap_rec9 (qap_i9 n)) (kitOk_of eqOk mixed known15) (L := jnL) (loopsOk_of (bs := []) (by kernel_rfl) trivial) (fun _ => rfl) (by intro i qs r h; unfold qap_enc9 at h; split at h <;> cases h <;> rfl)
    (by intro ls r h; unfold qap_rec9 at h; split at h <;> cases h)
    (by intro n ls r h; unfold qap_rec9 at h; split at h; exact (show _ = qap_t9 (qap_i9 n) _ _ _ _ _ _ _ _ _ _ from by kernel_rfl).trans h; cases h) (by rw [qap_l9, sealF_eq])
def qap_sh : StSh := ⟨⟨[0, 1], [], []⟩, [.t (.st 25), .t (.st 88)], []⟩
def qap_os : List StSh := [⟨⟨[0], [], [⟨.sub 0 0, 100100, 73, (.st 73)⟩, ⟨.sub 0 1, 100200, 9, .str⟩, ⟨.sub 0 2, 100300, 53, (.st 1053)⟩]⟩, [.agg [.oslc 100100, .oslc 100200, .oslc 100300]], [.row 73 (.st 73), .row 9 .str, .row 53 (.st 1053)]⟩]
def qap_tr : (List (TCell)) × (List (List UInt8)) × (List (TThread)) → Tr (Nat × List (TV U)) := fun x => .ret (0, [⟨(.slc (.st 73)), x.1⟩, ⟨(.slc .str), x.2.1⟩, ⟨(.slc (.st 1053)), x.2.2⟩])
def qap_L : Nat → Option (Lift.Loop U) := fun n => bif Nat.beq n joinKey then some joinMark else bif Nat.beq n 3 then some qap_lp3 else bif Nat.beq n 9 then some qap_lp9 else none
def qap_enc : Nat → List (TV U) → Option ((List (TCell)) × (List (List UInt8)) × (List (TThread)))
  | 0, [⟨(.slc (.st 73)), a0⟩, ⟨(.slc .str), a1⟩, ⟨(.slc (.st 1053)), a2⟩] => some (a0, a1, a2)
  | _, _ => none
def qap_dec : (List (TCell)) × (List (List UInt8)) × (List (TThread)) → Nat × List (TV U) := fun x => (0, [⟨(.slc (.st 73)), x.1⟩, ⟨(.slc .str), x.2.1⟩, ⟨(.slc (.st 1053)), x.2.2⟩])
def qap_in : List (TV U) → Option ((List (TCell)) × (List (List UInt8)) × (List (TThread)))
  | [⟨(.st 25), a0⟩, ⟨(.st 88), a1⟩] => qap a0 a1
  | _ => none
def qap_md : Mode U := ⟨qap_sh, [], qap_os, fun ls => .get (qap_in ls) qap_tr⟩
theorem qap_post : ModeOk kk env0 35 qap_md :=
  fn_of (fn := Tryz.f35) qap_enc qap_dec (kitOk_of eqOk mixed known15) (by kernel_rfl) (L := qap_L) (loopsOk_of (bs := [qap_b3, qap_b9]) (by kernel_rfl) ⟨.inr ⟨_, by kernel_rfl, LoopOk.of_round (qap_ok3)⟩, .inr ⟨_, by kernel_rfl, LoopOk.of_round (qap_ok9)⟩, trivial⟩) (fun _ => rfl) (by intro i qs r h; unfold qap_enc at h; split at h <;> cases h <;> rfl)
    (by intro ls r h; unfold qap_in at h; split at h; rw [qap, sealF_eq] at h; exact Eq.trans (by kernel_rfl) h; cases h)
def ms16 : List (FuncId × Mode U) := (35, qap_md) :: ms15
theorem known16 : Known kk env0 (modesOf ms16) := known_cons (by kernel_rfl) qap_post known15
def qbo_sh : StSh := ⟨⟨[0], [], []⟩, [.t (.int .i32)], []⟩
def qbo_os : List StSh := [⟨⟨[0], [], []⟩, [.t (.int .i64)], []⟩]
def qbo_tr : Int → Tr (Nat × List (TV U)) := fun x => .ret (0, [⟨(.int .i64), x⟩])
def qbo_enc : Nat → List (TV U) → Option (Int)
  | 0, [⟨(.int .i64), a0⟩] => some a0
  | _, _ => none
def qbo_dec : Int → Nat × List (TV U) := fun x => (0, [⟨(.int .i64), x⟩])
def qbo_in : List (TV U) → Option (Int)
  | [⟨(.int .i32), a0⟩] => qbo a0
  | _ => none
def qbo_md : Mode U := ⟨qbo_sh, [], qbo_os, fun ls => .get (qbo_in ls) qbo_tr⟩
theorem qbo_post : ModeOk kk env0 89 qbo_md :=
  fn_of (fn := Tryz.f89) qbo_enc qbo_dec (kitOk_of eqOk mixed known16) (by kernel_rfl) (L := noL) (loopsOk_of (bs := []) (by kernel_rfl) trivial) (fun _ => rfl) (by intro i qs r h; unfold qbo_enc at h; split at h <;> cases h <;> rfl)
    (by intro ls r h; unfold qbo_in at h; split at h; rw [qbo, sealF_eq] at h; exact Eq.trans (by kernel_rfl) h; cases h)
def ms17 : List (FuncId × Mode U) := (89, qbo_md) :: ms16
theorem known17 : Known kk env0 (modesOf ms17) := known_cons (by kernel_rfl) qbo_post known16
def qa0_sh4 : StSh := ⟨⟨[0, 3, 4, 5, 10], [3, 5, 10], [⟨.slot 4, 4, 136, (.st 136)⟩]⟩, [.t .str, .ptr 3 0, .oslc 4, .ptr 5 0, .ptr 10 0], [.blk 136 [.t (.int .i64), .t (.int .i64), .t (.int .i64), .t (.int .i64)], .blk 136 [.t (.int .i64), .t (.int .i64), .t (.int .i64), .t (.int .i64)], .sit, .row 136 (.st 136)]⟩
def qa0_o4 : List Out := [⟨.ret, ⟨⟨[2, 3], [3], [⟨.slot 2, 2, 136, (.st 136)⟩]⟩, [.oslc 2, .ptr 3 0], [.blk 136 [.t (.int .i64), .t (.int .i64), .t (.int .i64), .t (.int .i64)], .row 136 (.st 136)]⟩⟩, ⟨.exit 0, ⟨⟨[3, 4, 5], [3, 5], [⟨.slot 4, 4, 136, (.st 136)⟩]⟩, [.ptr 3 0, .oslc 4, .ptr 5 0], [.blk 136 [.t (.int .i64), .t (.int .i64), .t (.int .i64), .t (.int .i64)], .blk 136 [.t (.int .i64), .t (.int .i64), .t (.int .i64), .t (.int .i64)], .row 136 (.st 136)]⟩⟩]
def qa0_b4 : Code := (nthLoop (bodyOf Tryz.f78) 0)
def qa0_rec4 (rec : List UInt8 → Int → Int → Int → Int → Int → Int → Int → Int → List UInt8 → Nat → List (Spot) → Option ((Int × Int × Int × Int × (List (Spot))) ⊕ (Int × Int × Int × Int × Int × Int × Int × Int × (List (Spot))))) : List (TV U) → Option ((Int × Int × Int × Int × (List (Spot))) ⊕ (Int × Int × Int × Int × Int × Int × Int × Int × (List (Spot))))
  | [⟨.str, a0⟩, ⟨(.int .i64), a1⟩, ⟨(.int .i64), a2⟩, ⟨(.int .i64), a3⟩, ⟨(.int .i64), a4⟩, ⟨(.int .i64), a5⟩, ⟨(.int .i64), a6⟩, ⟨(.int .i64), a7⟩, ⟨(.int .i64), a8⟩, ⟨.str, a9⟩, ⟨.fn, a10⟩, ⟨(.slc (.st 136)), a11⟩] => rec a0 a1 a2 a3 a4 a5 a6 a7 a8 a9 a10 a11
  | _ => none
def qa0_enc4 : Nat → List (TV U) → Option ((Int × Int × Int × Int × (List (Spot))) ⊕ (Int × Int × Int × Int × Int × Int × Int × Int × (List (Spot))))
  | 0, [⟨(.int .i64), a0⟩, ⟨(.int .i64), a1⟩, ⟨(.int .i64), a2⟩, ⟨(.int .i64), a3⟩, ⟨(.slc (.st 136)), a4⟩] => some (.inl (a0, a1, a2, a3, a4))
  | 1, [⟨(.int .i64), a0⟩, ⟨(.int .i64), a1⟩, ⟨(.int .i64), a2⟩, ⟨(.int .i64), a3⟩, ⟨(.int .i64), a4⟩, ⟨(.int .i64), a5⟩, ⟨(.int .i64), a6⟩, ⟨(.int .i64), a7⟩, ⟨(.slc (.st 136)), a8⟩] => some (.inr (a0, a1, a2, a3, a4, a5, a6, a7, a8))
  | _, _ => none
def qa0_dec4 : (Int × Int × Int × Int × (List (Spot))) ⊕ (Int × Int × Int × Int × Int × Int × Int × Int × (List (Spot))) → Nat × List (TV U) := fun r => match r with | (.inl x) => (0, [⟨(.int .i64), x.1⟩, ⟨(.int .i64), x.2.1⟩, ⟨(.int .i64), x.2.2.1⟩, ⟨(.int .i64), x.2.2.2.1⟩, ⟨(.slc (.st 136)), x.2.2.2.2⟩]) | (.inr x) => (1, [⟨(.int .i64), x.1⟩, ⟨(.int .i64), x.2.1⟩, ⟨(.int .i64), x.2.2.1⟩, ⟨(.int .i64), x.2.2.2.1⟩, ⟨(.int .i64), x.2.2.2.2.1⟩, ⟨(.int .i64), x.2.2.2.2.2.1⟩, ⟨(.int .i64), x.2.2.2.2.2.2.1⟩, ⟨(.int .i64), x.2.2.2.2.2.2.2.1⟩, ⟨(.slc (.st 136)), x.2.2.2.2.2.2.2.2⟩])
def qa0_tr4 : (Int × Int × Int × Int × (List (Spot))) ⊕ (Int × Int × Int × Int × Int × Int × Int × Int × (List (Spot))) → Tr (Nat × List (TV U)) := fun r => .alt r (fun x => .ret (0, [⟨(.int .i64), x.1⟩, ⟨(.int .i64), x.2.1⟩, ⟨(.int .i64), x.2.2.1⟩, ⟨(.int .i64), x.2.2.2.1⟩, ⟨(.slc (.st 136)), x.2.2.2.2⟩])) (fun y => (fun x => .ret (1, [⟨(.int .i64), x.1⟩, ⟨(.int .i64), x.2.1⟩, ⟨(.int .i64), x.2.2.1⟩, ⟨(.int .i64), x.2.2.2.1⟩, ⟨(.int .i64), x.2.2.2.2.1⟩, ⟨(.int .i64), x.2.2.2.2.2.1⟩, ⟨(.int .i64), x.2.2.2.2.2.2.1⟩, ⟨(.int .i64), x.2.2.2.2.2.2.2.1⟩, ⟨(.slc (.st 136)), x.2.2.2.2.2.2.2.2⟩])) y)
def qa0_lp4 : Lift.Loop U := ⟨qa0_sh4, qa0_o4, fun ls => .get (qa0_rec4 qa0_l4 ls) qa0_tr4⟩
theorem qa0_ok4 : LoopR kk env0 Tryz.f78.ntmps qa0_b4 qa0_lp4 :=
  loop_of qa0_enc4 qa0_dec4 (fun n => qa0_rec4 (qa0_i4 n)) (kitOk_of eqOk mixed known17) (L := noL) (loopsOk_of (bs := []) (by kernel_rfl) trivial) (by intro r; rcases r with r | r <;> rfl) (by intro i qs r h; unfold qa0_enc4 at h; split at h <;> cases h <;> rfl)
    (by intro ls r h; unfold qa0_rec4 at h; split at h <;> cases h)
    (by intro n ls r h; unfold qa0_rec4 at h; split at h; exact (show _ = qa0_t4 (qa0_i4 n) _ _ _ _ _ _ _ _ _ _ _ _ from by kernel_rfl).trans h; cases h) (by rw [qa0_l4, sealF_eq])
def qa0_sh : StSh := ⟨⟨[0], [], []⟩, [.t .str], []⟩
def qa0_os : List StSh := [⟨⟨[0, 1], [], [⟨.slot 0, 100000, 136, (.st 136)⟩]⟩, [.oslc 100000, .t (.st 136)], [.row 136 (.st 136)]⟩]
def qa0_tr : Spot × (List (Spot)) → Tr (Nat × List (TV U)) := fun x => .ret (0, [⟨(.st 136), x.1⟩, ⟨(.slc (.st 136)), x.2⟩])
def qa0_L : Nat → Option (Lift.Loop U) := fun n => bif Nat.beq n 4 then some qa0_lp4 else none
def qa0_enc : Nat → List (TV U) → Option (Spot × (List (Spot)))
  | 0, [⟨(.st 136), a0⟩, ⟨(.slc (.st 136)), a1⟩] => some (a0, a1)
  | _, _ => none
def qa0_dec : Spot × (List (Spot)) → Nat × List (TV U) := fun x => (0, [⟨(.st 136), x.1⟩, ⟨(.slc (.st 136)), x.2⟩])
def qa0_in : List (TV U) → Option (Spot × (List (Spot)))
  | [⟨.str, a0⟩] => qa0 a0
  | _ => none
def qa0_md : Mode U := ⟨qa0_sh, [], qa0_os, fun ls => .get (qa0_in ls) qa0_tr⟩
theorem qa0_post : ModeOk kk env0 78 qa0_md :=
  fn_of (fn := Tryz.f78) qa0_enc qa0_dec (kitOk_of eqOk mixed known17) (by kernel_rfl) (L := qa0_L) (loopsOk_of (bs := [qa0_b4]) (by kernel_rfl) ⟨.inr ⟨_, by kernel_rfl, LoopOk.of_round (qa0_ok4)⟩, trivial⟩) (fun _ => rfl) (by intro i qs r h; unfold qa0_enc at h; split at h <;> cases h <;> rfl)
    (by intro ls r h; unfold qa0_in at h; split at h; rw [qa0, sealF_eq] at h; exact Eq.trans (by kernel_rfl) h; cases h)
def ms18 : List (FuncId × Mode U) := (78, qa0_md) :: ms17
theorem known18 : Known kk env0 (modesOf ms18) := known_cons (by kernel_rfl) qa0_post known17
def qaZ_sh : StSh := ⟨⟨[0], [], []⟩, [.t .str], []⟩
def qaZ_os : List StSh := [⟨⟨[0, 1], [], [⟨.slot 0, 100000, 136, (.st 136)⟩]⟩, [.oslc 100000, .t (.st 117)], [.row 136 (.st 136)]⟩]
def qaZ_tr : Fault × (List (Spot)) → Tr (Nat × List (TV U)) := fun x => .ret (0, [⟨(.st 117), x.1⟩, ⟨(.slc (.st 136)), x.2⟩])
def qaZ_enc : Nat → List (TV U) → Option (Fault × (List (Spot)))
  | 0, [⟨(.st 117), a0⟩, ⟨(.slc (.st 136)), a1⟩] => some (a0, a1)
  | _, _ => none
def qaZ_dec : Fault × (List (Spot)) → Nat × List (TV U) := fun x => (0, [⟨(.st 117), x.1⟩, ⟨(.slc (.st 136)), x.2⟩])
def qaZ_in : List (TV U) → Option (Fault × (List (Spot)))
  | [⟨.str, a0⟩] => qaZ a0
  | _ => none
def qaZ_md : Mode U := ⟨qaZ_sh, [], qaZ_os, fun ls => .get (qaZ_in ls) qaZ_tr⟩
theorem qaZ_post : ModeOk kk env0 74 qaZ_md :=
  fn_of (fn := Tryz.f74) qaZ_enc qaZ_dec (kitOk_of eqOk mixed known18) (by kernel_rfl) (L := noL) (loopsOk_of (bs := []) (by kernel_rfl) trivial) (fun _ => rfl) (by intro i qs r h; unfold qaZ_enc at h; split at h <;> cases h <;> rfl)
    (by intro ls r h; unfold qaZ_in at h; split at h; rw [qaZ, sealF_eq] at h; exact Eq.trans (by kernel_rfl) h; cases h)
def ms19 : List (FuncId × Mode U) := (74, qaZ_md) :: ms18
theorem known19 : Known kk env0 (modesOf ms19) := known_cons (by kernel_rfl) qaZ_post known18
def qaW_sh : StSh := ⟨⟨[0], [], []⟩, [.t (.int .i64)], []⟩
def qaW_os : List StSh := [⟨⟨[0], [], []⟩, [.t .bool], []⟩]
def qaW_tr : Bool → Tr (Nat × List (TV U)) := fun x => .ret (0, [⟨.bool, x⟩])
def qaW_enc : Nat → List (TV U) → Option (Bool)
  | 0, [⟨.bool, a0⟩] => some a0
  | _, _ => none
def qaW_dec : Bool → Nat × List (TV U) := fun x => (0, [⟨.bool, x⟩])
def qaW_in : List (TV U) → Option (Bool)
  | [⟨(.int .i64), a0⟩] => qaW a0
  | _ => none
def qaW_md : Mode U := ⟨qaW_sh, [], qaW_os, fun ls => .get (qaW_in ls) qaW_tr⟩
theorem qaW_post : ModeOk kk env0 79 qaW_md :=
  fn_of (fn := Tryz.f79) qaW_enc qaW_dec (kitOk_of eqOk mixed known19) (by kernel_rfl) (L := noL) (loopsOk_of (bs := []) (by kernel_rfl) trivial) (fun _ => rfl) (by intro i qs r h; unfold qaW_enc at h; split at h <;> cases h <;> rfl)
    (by intro ls r h; unfold qaW_in at h; split at h; rw [qaW, sealF_eq] at h; exact Eq.trans (by kernel_rfl) h; cases h)
def ms20 : List (FuncId × Mode U) := (79, qaW_md) :: ms19
theorem known20 : Known kk env0 (modesOf ms20) := known_cons (by kernel_rfl) qaW_post known19
def qav_sh3 : StSh := ⟨⟨[0, 3, 7], [7], []⟩, [.t .str, .t .bool, .ptr 7 0], [.sit]⟩
def qav_o3 : List Out := [⟨.ret, ⟨⟨[2], [], []⟩, [.t (.int .i64)], []⟩⟩, ⟨.exit 0, ⟨⟨[0], [], []⟩, [.t .str], []⟩⟩]
def qav_b3 : Code := (nthLoop (bodyOf Tryz.f75) 0)
def qav_rec3 (rec : List UInt8 → Bool → List UInt8 → Nat → Option ((Int) ⊕ ((List UInt8)))) : List (TV U) → Option ((Int) ⊕ ((List UInt8)))
  | [⟨.str, a0⟩, ⟨.bool, a1⟩, ⟨.str, a2⟩, ⟨.fn, a3⟩] => rec a0 a1 a2 a3
  | _ => none
def qav_enc3 : Nat → List (TV U) → Option ((Int) ⊕ ((List UInt8)))
  | 0, [⟨(.int .i64), a0⟩] => some (.inl a0)
  | 1, [⟨.str, a0⟩] => some (.inr a0)
  | _, _ => none
def qav_dec3 : (Int) ⊕ ((List UInt8)) → Nat × List (TV U) := fun r => match r with | (.inl x) => (0, [⟨(.int .i64), x⟩]) | (.inr x) => (1, [⟨.str, x⟩])
def qav_tr3 : (Int) ⊕ ((List UInt8)) → Tr (Nat × List (TV U)) := fun r => .alt r (fun x => .ret (0, [⟨(.int .i64), x⟩])) (fun y => (fun x => .ret (1, [⟨.str, x⟩])) y)
def qav_lp3 : Lift.Loop U := ⟨qav_sh3, qav_o3, fun ls => .get (qav_rec3 qav_l3 ls) qav_tr3⟩
theorem qav_ok3 : LoopR kk env0 Tryz.f75.ntmps qav_b3 qav_lp3 :=
  loop_of qav_enc3 qav_dec3 (fun n => qav_rec3 (qav_i3 n)) (kitOk_of eqOk mixed known20) (L := noL) (loopsOk_of (bs := []) (by kernel_rfl) trivial) (by intro r; rcases r with r | r <;> rfl) (by intro i qs r h; unfold qav_enc3 at h; split at h <;> cases h <;> rfl)
    (by intro ls r h; unfold qav_rec3 at h; split at h <;> cases h)
    (by intro n ls r h; unfold qav_rec3 at h; split at h; exact (show _ = qav_t3 (qav_i3 n) _ _ _ _ from by kernel_rfl).trans h; cases h) (by rw [qav_l3, sealF_eq])
def qav_sh : StSh := ⟨⟨[0], [], []⟩, [.t .str], []⟩
def qav_os : List StSh := [⟨⟨[0], [], []⟩, [.t (.int .i64)], []⟩]
def qav_tr : Int → Tr (Nat × List (TV U)) := fun x => .ret (0, [⟨(.int .i64), x⟩])
def qav_L : Nat → Option (Lift.Loop U) := fun n => bif Nat.beq n 3 then some qav_lp3 else none
def qav_enc : Nat → List (TV U) → Option (Int)
  | 0, [⟨(.int .i64), a0⟩] => some a0
  | _, _ => none
def qav_dec : Int → Nat × List (TV U) := fun x => (0, [⟨(.int .i64), x⟩])
def qav_in : List (TV U) → Option (Int)
  | [⟨.str, a0⟩] => qav a0
  | _ => none
def qav_md : Mode U := ⟨qav_sh, [], qav_os, fun ls => .get (qav_in ls) qav_tr⟩
theorem qav_post : ModeOk kk env0 75 qav_md :=
  fn_of (fn := Tryz.f75) qav_enc qav_dec (kitOk_of eqOk mixed known20) (by kernel_rfl) (L := qav_L) (loopsOk_of (bs := [qav_b3]) (by kernel_rfl) ⟨.inr ⟨_, by kernel_rfl, LoopOk.of_round (qav_ok3)⟩, trivial⟩) (fun _ => rfl) (by intro i qs r h; unfold qav_enc at h; split at h <;> cases h <;> rfl)
    (by intro ls r h; unfold qav_in at h; split at h; rw [qav, sealF_eq] at h; exact Eq.trans (by kernel_rfl) h; cases h)
def ms21 : List (FuncId × Mode U) := (75, qav_md) :: ms20
theorem known21 : Known kk env0 (modesOf ms21) := known_cons (by kernel_rfl) qav_post known20
def qbp_sh : StSh := ⟨⟨[0], [], []⟩, [.t (.int .i32)], []⟩
def qbp_os : List StSh := [⟨⟨[0], [], []⟩, [.t .bool], []⟩]
def qbp_tr : Bool → Tr (Nat × List (TV U)) := fun x => .ret (0, [⟨.bool, x⟩])
def qbp_enc : Nat → List (TV U) → Option (Bool)
  | 0, [⟨.bool, a0⟩] => some a0
  | _, _ => none
def qbp_dec : Bool → Nat × List (TV U) := fun x => (0, [⟨.bool, x⟩])
def qbp_in : List (TV U) → Option (Bool)
  | [⟨(.int .i32), a0⟩] => qbp a0
  | _ => none
def qbp_md : Mode U := ⟨qbp_sh, [], qbp_os, fun ls => .get (qbp_in ls) qbp_tr⟩
theorem qbp_post : ModeOk kk env0 107 qbp_md :=
  fn_of (fn := Tryz.f107) qbp_enc qbp_dec (kitOk_of eqOk mixed known21) (by kernel_rfl) (L := noL) (loopsOk_of (bs := []) (by kernel_rfl) trivial) (fun _ => rfl) (by intro i qs r h; unfold qbp_enc at h; split at h <;> cases h <;> rfl)
    (by intro ls r h; unfold qbp_in at h; split at h; rw [qbp, sealF_eq] at h; exact Eq.trans (by kernel_rfl) h; cases h)
def ms22 : List (FuncId × Mode U) := (107, qbp_md) :: ms21
theorem known22 : Known kk env0 (modesOf ms22) := known_cons (by kernel_rfl) qbp_post known21
def qa1_sh : StSh := ⟨⟨[0], [], []⟩, [.t (.int .i64)], []⟩
def qa1_os : List StSh := [⟨⟨[0], [], []⟩, [.t .bool], []⟩]
def qa1_tr : Bool → Tr (Nat × List (TV U)) := fun x => .ret (0, [⟨.bool, x⟩])
def qa1_enc : Nat → List (TV U) → Option (Bool)
  | 0, [⟨.bool, a0⟩] => some a0
  | _, _ => none
def qa1_dec : Bool → Nat × List (TV U) := fun x => (0, [⟨.bool, x⟩])
def qa1_in : List (TV U) → Option (Bool)
  | [⟨(.int .i64), a0⟩] => qa1 a0
  | _ => none
def qa1_md : Mode U := ⟨qa1_sh, [], qa1_os, fun ls => .get (qa1_in ls) qa1_tr⟩
theorem qa1_post : ModeOk kk env0 96 qa1_md :=
  fn_of (fn := Tryz.f96) qa1_enc qa1_dec (kitOk_of eqOk mixed known22) (by kernel_rfl) (L := noL) (loopsOk_of (bs := []) (by kernel_rfl) trivial) (fun _ => rfl) (by intro i qs r h; unfold qa1_enc at h; split at h <;> cases h <;> rfl)
    (by intro ls r h; unfold qa1_in at h; split at h; rw [qa1, sealF_eq] at h; exact Eq.trans (by kernel_rfl) h; cases h)
def ms23 : List (FuncId × Mode U) := (96, qa1_md) :: ms22
theorem known23 : Known kk env0 (modesOf ms23) := known_cons (by kernel_rfl) qa1_post known22
def qaY_sh : StSh := ⟨⟨[0], [], []⟩, [.t (.int .i64)], []⟩
def qaY_os : List StSh := [⟨⟨[0], [], []⟩, [.t .bool], []⟩]
def qaY_tr : Bool → Tr (Nat × List (TV U)) := fun x => .ret (0, [⟨.bool, x⟩])
def qaY_enc : Nat → List (TV U) → Option (Bool)
  | 0, [⟨.bool, a0⟩] => some a0
  | _, _ => none
def qaY_dec : Bool → Nat × List (TV U) := fun x => (0, [⟨.bool, x⟩])
def qaY_in : List (TV U) → Option (Bool)
  | [⟨(.int .i64), a0⟩] => qaY a0
  | _ => none
def qaY_md : Mode U := ⟨qaY_sh, [], qaY_os, fun ls => .get (qaY_in ls) qaY_tr⟩
theorem qaY_post : ModeOk kk env0 91 qaY_md :=
  fn_of (fn := Tryz.f91) qaY_enc qaY_dec (kitOk_of eqOk mixed known23) (by kernel_rfl) (L := noL) (loopsOk_of (bs := []) (by kernel_rfl) trivial) (fun _ => rfl) (by intro i qs r h; unfold qaY_enc at h; split at h <;> cases h <;> rfl)
    (by intro ls r h; unfold qaY_in at h; split at h; rw [qaY, sealF_eq] at h; exact Eq.trans (by kernel_rfl) h; cases h)
def ms24 : List (FuncId × Mode U) := (91, qaY_md) :: ms23
theorem known24 : Known kk env0 (modesOf ms24) := known_cons (by kernel_rfl) qaY_post known23
def qaX_sh : StSh := ⟨⟨[0], [], []⟩, [.t (.int .i64)], []⟩
def qaX_os : List StSh := [⟨⟨[0], [], []⟩, [.t .bool], []⟩]
def qaX_tr : Bool → Tr (Nat × List (TV U)) := fun x => .ret (0, [⟨.bool, x⟩])
def qaX_enc : Nat → List (TV U) → Option (Bool)
  | 0, [⟨.bool, a0⟩] => some a0
  | _, _ => none
def qaX_dec : Bool → Nat × List (TV U) := fun x => (0, [⟨.bool, x⟩])
def qaX_in : List (TV U) → Option (Bool)
  | [⟨(.int .i64), a0⟩] => qaX a0
  | _ => none
def qaX_md : Mode U := ⟨qaX_sh, [], qaX_os, fun ls => .get (qaX_in ls) qaX_tr⟩
theorem qaX_post : ModeOk kk env0 84 qaX_md :=
  fn_of (fn := Tryz.f84) qaX_enc qaX_dec (kitOk_of eqOk mixed known24) (by kernel_rfl) (L := noL) (loopsOk_of (bs := []) (by kernel_rfl) trivial) (fun _ => rfl) (by intro i qs r h; unfold qaX_enc at h; split at h <;> cases h <;> rfl)
    (by intro ls r h; unfold qaX_in at h; split at h; rw [qaX, sealF_eq] at h; exact Eq.trans (by kernel_rfl) h; cases h)
def ms25 : List (FuncId × Mode U) := (84, qaX_md) :: ms24
theorem known25 : Known kk env0 (modesOf ms25) := known_cons (by kernel_rfl) qaX_post known24
def qat_sh : StSh := ⟨⟨[0], [], []⟩, [.t (.int .i32)], []⟩
def qat_os : List StSh := [⟨⟨[0], [], []⟩, [.t .bool], []⟩]
def qat_tr : Bool → Tr (Nat × List (TV U)) := fun x => .ret (0, [⟨.bool, x⟩])
def qat_enc : Nat → List (TV U) → Option (Bool)
  | 0, [⟨.bool, a0⟩] => some a0
  | _, _ => none
def qat_dec : Bool → Nat × List (TV U) := fun x => (0, [⟨.bool, x⟩])
def qat_in : List (TV U) → Option (Bool)
  | [⟨(.int .i32), a0⟩] => qat a0
  | _ => none
def qat_md : Mode U := ⟨qat_sh, [], qat_os, fun ls => .get (qat_in ls) qat_tr⟩
theorem qat_post : ModeOk kk env0 81 qat_md :=
  fn_of (fn := Tryz.f81) qat_enc qat_dec (kitOk_of eqOk mixed known25) (by kernel_rfl) (L := noL) (loopsOk_of (bs := []) (by kernel_rfl) trivial) (fun _ => rfl) (by intro i qs r h; unfold qat_enc at h; split at h <;> cases h <;> rfl)
    (by intro ls r h; unfold qat_in at h; split at h; rw [qat, sealF_eq] at h; exact Eq.trans (by kernel_rfl) h; cases h)
def ms26 : List (FuncId × Mode U) := (81, qat_md) :: ms25
theorem known26 : Known kk env0 (modesOf ms26) := known_cons (by kernel_rfl) qat_post known25
def qa8_sh2 : StSh := ⟨⟨[0, 1, 7, 8], [], []⟩, [.t (.slc .str), .t .str, .t (.int .i64), .t (.int .i64)], []⟩
def qa8_o2 : List Out := [⟨.ret, ⟨⟨[4], [], []⟩, [.t (.int .i64)], []⟩⟩, ⟨.exit 0, ⟨⟨[], [], []⟩, [], []⟩⟩]
def qa8_b2 : Code := (nthLoop (bodyOf Tryz.f95) 0)
def qa8_rec2 (rec : List (List UInt8) → List UInt8 → Int → Int → Option ((Int) ⊕ (Unit))) : List (TV U) → Option ((Int) ⊕ (Unit))
  | [⟨(.slc .str), a0⟩, ⟨.str, a1⟩, ⟨(.int .i64), a2⟩, ⟨(.int .i64), a3⟩] => rec a0 a1 a2 a3
  | _ => none
def qa8_enc2 : Nat → List (TV U) → Option ((Int) ⊕ (Unit))
  | 0, [⟨(.int .i64), a0⟩] => some (.inl a0)
  | 1, [] => some (.inr ())
  | _, _ => none
def qa8_dec2 : (Int) ⊕ (Unit) → Nat × List (TV U) := fun r => match r with | (.inl x) => (0, [⟨(.int .i64), x⟩]) | (.inr x) => (1, [])
def qa8_tr2 : (Int) ⊕ (Unit) → Tr (Nat × List (TV U)) := fun r => .alt r (fun x => .ret (0, [⟨(.int .i64), x⟩])) (fun y => (fun x => .ret (1, [])) y)
def qa8_lp2 : Lift.Loop U := ⟨qa8_sh2, qa8_o2, fun ls => .get (qa8_rec2 qa8_l2 ls) qa8_tr2⟩
theorem qa8_ok2 : LoopR kk env0 Tryz.f95.ntmps qa8_b2 qa8_lp2 :=
  loop_of qa8_enc2 qa8_dec2 (fun n => qa8_rec2 (qa8_i2 n)) (kitOk_of eqOk mixed known26) (L := noL) (loopsOk_of (bs := []) (by kernel_rfl) trivial) (by intro r; rcases r with r | r <;> rfl) (by intro i qs r h; unfold qa8_enc2 at h; split at h <;> cases h <;> rfl)
    (by intro ls r h; unfold qa8_rec2 at h; split at h <;> cases h)
    (by intro n ls r h; unfold qa8_rec2 at h; split at h; exact (show _ = qa8_t2 (qa8_i2 n) _ _ _ _ from by kernel_rfl).trans h; cases h) (by rw [qa8_l2, sealF_eq])
def qa8_sh : StSh := ⟨⟨[0, 1], [], []⟩, [.t (.slc .str), .t .str], []⟩
def qa8_os : List StSh := [⟨⟨[0], [], []⟩, [.t (.int .i64)], []⟩]
def qa8_tr : Int → Tr (Nat × List (TV U)) := fun x => .ret (0, [⟨(.int .i64), x⟩])
def qa8_L : Nat → Option (Lift.Loop U) := fun n => bif Nat.beq n 2 then some qa8_lp2 else none
def qa8_enc : Nat → List (TV U) → Option (Int)
  | 0, [⟨(.int .i64), a0⟩] => some a0
  | _, _ => none
def qa8_dec : Int → Nat × List (TV U) := fun x => (0, [⟨(.int .i64), x⟩])
def qa8_in : List (TV U) → Option (Int)
  | [⟨(.slc .str), a0⟩, ⟨.str, a1⟩] => qa8 a0 a1
  | _ => none
def qa8_md : Mode U := ⟨qa8_sh, [], qa8_os, fun ls => .get (qa8_in ls) qa8_tr⟩
theorem qa8_post : ModeOk kk env0 95 qa8_md :=
  fn_of (fn := Tryz.f95) qa8_enc qa8_dec (kitOk_of eqOk mixed known26) (by kernel_rfl) (L := qa8_L) (loopsOk_of (bs := [qa8_b2]) (by kernel_rfl) ⟨.inr ⟨_, by kernel_rfl, LoopOk.of_round (qa8_ok2)⟩, trivial⟩) (fun _ => rfl) (by intro i qs r h; unfold qa8_enc at h; split at h <;> cases h <;> rfl)
    (by intro ls r h; unfold qa8_in at h; split at h; rw [qa8, sealF_eq] at h; exact Eq.trans (by kernel_rfl) h; cases h)
def ms27 : List (FuncId × Mode U) := (95, qa8_md) :: ms26
theorem known27 : Known kk env0 (modesOf ms27) := known_cons (by kernel_rfl) qa8_post known26
def qa7_sh : StSh := ⟨⟨[0, 1], [], []⟩, [.t (.slc .str), .t .str], []⟩
def qa7_os : List StSh := [⟨⟨[0], [], []⟩, [.t .bool], []⟩]
def qa7_tr : Bool → Tr (Nat × List (TV U)) := fun x => .ret (0, [⟨.bool, x⟩])
def qa7_enc : Nat → List (TV U) → Option (Bool)
  | 0, [⟨.bool, a0⟩] => some a0
  | _, _ => none
def qa7_dec : Bool → Nat × List (TV U) := fun x => (0, [⟨.bool, x⟩])
def qa7_in : List (TV U) → Option (Bool)
  | [⟨(.slc .str), a0⟩, ⟨.str, a1⟩] => qa7 a0 a1
  | _ => none
def qa7_md : Mode U := ⟨qa7_sh, [], qa7_os, fun ls => .get (qa7_in ls) qa7_tr⟩
theorem qa7_post : ModeOk kk env0 86 qa7_md :=
  fn_of (fn := Tryz.f86) qa7_enc qa7_dec (kitOk_of eqOk mixed known27) (by kernel_rfl) (L := noL) (loopsOk_of (bs := []) (by kernel_rfl) trivial) (fun _ => rfl) (by intro i qs r h; unfold qa7_enc at h; split at h <;> cases h <;> rfl)
    (by intro ls r h; unfold qa7_in at h; split at h; rw [qa7, sealF_eq] at h; exact Eq.trans (by kernel_rfl) h; cases h)
def ms28 : List (FuncId × Mode U) := (86, qa7_md) :: ms27
theorem known28 : Known kk env0 (modesOf ms28) := known_cons (by kernel_rfl) qa7_post known27
def qaw_sh : StSh := ⟨⟨[0], [], []⟩, [.t .str], []⟩
def qaw_os : List StSh := [⟨⟨[0], [], []⟩, [.t .str], []⟩]
def qaw_tr : (List UInt8) → Tr (Nat × List (TV U)) := fun x => .ret (0, [⟨.str, x⟩])
def qaw_enc : Nat → List (TV U) → Option ((List UInt8))
  | 0, [⟨.str, a0⟩] => some a0
  | _, _ => none
def qaw_dec : (List UInt8) → Nat × List (TV U) := fun x => (0, [⟨.str, x⟩])
def qaw_in : List (TV U) → Option ((List UInt8))
  | [⟨.str, a0⟩] => qaw a0
  | _ => none
def qaw_md : Mode U := ⟨qaw_sh, [], qaw_os, fun ls => .get (qaw_in ls) qaw_tr⟩
theorem qaw_post : ModeOk kk env0 82 qaw_md :=
  fn_of (fn := Tryz.f82) qaw_enc qaw_dec (kitOk_of eqOk mixed known28) (by kernel_rfl) (L := noL) (loopsOk_of (bs := []) (by kernel_rfl) trivial) (fun _ => rfl) (by intro i qs r h; unfold qaw_enc at h; split at h <;> cases h <;> rfl)
    (by intro ls r h; unfold qaw_in at h; split at h; rw [qaw, sealF_eq] at h; exact Eq.trans (by kernel_rfl) h; cases h)
def ms29 : List (FuncId × Mode U) := (82, qaw_md) :: ms28
theorem known29 : Known kk env0 (modesOf ms29) := known_cons (by kernel_rfl) qaw_post known28
def qay_sh2 : StSh := ⟨⟨[0, 6], [6], []⟩, [.t .str, .ptr 6 0], [.sit]⟩
def qay_o2 : List Out := [⟨.ret, ⟨⟨[2], [], []⟩, [.t .str], []⟩⟩, ⟨.exit 0, ⟨⟨[0], [], []⟩, [.t .str], []⟩⟩]
def qay_b2 : Code := (nthLoop (bodyOf Tryz.f83) 0)
def qay_rec2 (rec : List UInt8 → List UInt8 → Nat → Option (((List UInt8)) ⊕ ((List UInt8)))) : List (TV U) → Option (((List UInt8)) ⊕ ((List UInt8)))
  | [⟨.str, a0⟩, ⟨.str, a1⟩, ⟨.fn, a2⟩] => rec a0 a1 a2
  | _ => none
def qay_enc2 : Nat → List (TV U) → Option (((List UInt8)) ⊕ ((List UInt8)))
  | 0, [⟨.str, a0⟩] => some (.inl a0)
  | 1, [⟨.str, a0⟩] => some (.inr a0)
  | _, _ => none
def qay_dec2 : ((List UInt8)) ⊕ ((List UInt8)) → Nat × List (TV U) := fun r => match r with | (.inl x) => (0, [⟨.str, x⟩]) | (.inr x) => (1, [⟨.str, x⟩])
def qay_tr2 : ((List UInt8)) ⊕ ((List UInt8)) → Tr (Nat × List (TV U)) := fun r => .alt r (fun x => .ret (0, [⟨.str, x⟩])) (fun y => (fun x => .ret (1, [⟨.str, x⟩])) y)
def qay_lp2 : Lift.Loop U := ⟨qay_sh2, qay_o2, fun ls => .get (qay_rec2 qay_l2 ls) qay_tr2⟩
theorem qay_ok2 : LoopR kk env0 Tryz.f83.ntmps qay_b2 qay_lp2 :=
  loop_of qay_enc2 qay_dec2 (fun n => qay_rec2 (qay_i2 n)) (kitOk_of eqOk mixed known29) (L := noL) (loopsOk_of (bs := []) (by kernel_rfl) trivial) (by intro r; rcases r with r | r <;> rfl) (by intro i qs r h; unfold qay_enc2 at h; split at h <;> cases h <;> rfl)
    (by intro ls r h; unfold qay_rec2 at h; split at h <;> cases h)
    (by intro n ls r h; unfold qay_rec2 at h; split at h; exact (show _ = qay_t2 (qay_i2 n) _ _ _ from by kernel_rfl).trans h; cases h) (by rw [qay_l2, sealF_eq])
def qay_sh : StSh := ⟨⟨[0], [], []⟩, [.t .str], []⟩
def qay_os : List StSh := [⟨⟨[0], [], []⟩, [.t .str], []⟩]
def qay_tr : (List UInt8) → Tr (Nat × List (TV U)) := fun x => .ret (0, [⟨.str, x⟩])
def qay_L : Nat → Option (Lift.Loop U) := fun n => bif Nat.beq n 2 then some qay_lp2 else none
def qay_enc : Nat → List (TV U) → Option ((List UInt8))
  | 0, [⟨.str, a0⟩] => some a0
  | _, _ => none
def qay_dec : (List UInt8) → Nat × List (TV U) := fun x => (0, [⟨.str, x⟩])
def qay_in : List (TV U) → Option ((List UInt8))
  | [⟨.str, a0⟩] => qay a0
  | _ => none
def qay_md : Mode U := ⟨qay_sh, [], qay_os, fun ls => .get (qay_in ls) qay_tr⟩
theorem qay_post : ModeOk kk env0 83 qay_md :=
  fn_of (fn := Tryz.f83) qay_enc qay_dec (kitOk_of eqOk mixed known29) (by kernel_rfl) (L := qay_L) (loopsOk_of (bs := [qay_b2]) (by kernel_rfl) ⟨.inr ⟨_, by kernel_rfl, LoopOk.of_round (qay_ok2)⟩, trivial⟩) (fun _ => rfl) (by intro i qs r h; unfold qay_enc at h; split at h <;> cases h <;> rfl)
    (by intro ls r h; unfold qay_in at h; split at h; rw [qay, sealF_eq] at h; exact Eq.trans (by kernel_rfl) h; cases h)
def ms30 : List (FuncId × Mode U) := (83, qay_md) :: ms29
theorem known30 : Known kk env0 (modesOf ms30) := known_cons (by kernel_rfl) qay_post known29
def qau_sh : StSh := ⟨⟨[0], [], []⟩, [.t .str], []⟩
def qau_os : List StSh := [⟨⟨[0, 1], [], []⟩, [.t (.int .i64), .t .bool], []⟩]
def qau_tr : Int × Bool → Tr (Nat × List (TV U)) := fun x => .ret (0, [⟨(.int .i64), x.1⟩, ⟨.bool, x.2⟩])
def qau_enc : Nat → List (TV U) → Option (Int × Bool)
  | 0, [⟨(.int .i64), a0⟩, ⟨.bool, a1⟩] => some (a0, a1)
  | _, _ => none
def qau_dec : Int × Bool → Nat × List (TV U) := fun x => (0, [⟨(.int .i64), x.1⟩, ⟨.bool, x.2⟩])
def qau_in : List (TV U) → Option (Int × Bool)
  | [⟨.str, a0⟩] => qau a0
  | _ => none
def qau_md : Mode U := ⟨qau_sh, [], qau_os, fun ls => .get (qau_in ls) qau_tr⟩
theorem qau_post : ModeOk kk env0 85 qau_md :=
  fn_of (fn := Tryz.f85) qau_enc qau_dec (kitOk_of eqOk mixed known30) (by kernel_rfl) (L := noL) (loopsOk_of (bs := []) (by kernel_rfl) trivial) (fun _ => rfl) (by intro i qs r h; unfold qau_enc at h; split at h <;> cases h <;> rfl)
    (by intro ls r h; unfold qau_in at h; split at h; rw [qau, sealF_eq] at h; exact Eq.trans (by kernel_rfl) h; cases h)
def ms31 : List (FuncId × Mode U) := (85, qau_md) :: ms30
theorem known31 : Known kk env0 (modesOf ms31) := known_cons (by kernel_rfl) qau_post known30
def qas_sh : StSh := ⟨⟨[], [], []⟩, [], []⟩
def qas_os : List StSh := [⟨⟨[0], [], [⟨.slot 0, 100000, 9, .str⟩]⟩, [.oslc 100000], [.row 9 .str]⟩]
def qas_tr : (List (List UInt8)) → Tr (Nat × List (TV U)) := fun x => .ret (0, [⟨(.slc .str), x⟩])
def qas_enc : Nat → List (TV U) → Option ((List (List UInt8)))
  | 0, [⟨(.slc .str), a0⟩] => some a0
  | _, _ => none
def qas_dec : (List (List UInt8)) → Nat × List (TV U) := fun x => (0, [⟨(.slc .str), x⟩])
def qas_in : List (TV U) → Option ((List (List UInt8)))
  | [] => qas
  | _ => none
def qas_md : Mode U := ⟨qas_sh, [], qas_os, fun ls => .get (qas_in ls) qas_tr⟩
theorem qas_post : ModeOk kk env0 87 qas_md :=
  fn_of (fn := Tryz.f87) qas_enc qas_dec (kitOk_of eqOk mixed known31) (by kernel_rfl) (L := noL) (loopsOk_of (bs := []) (by kernel_rfl) trivial) (fun _ => rfl) (by intro i qs r h; unfold qas_enc at h; split at h <;> cases h <;> rfl)
    (by intro ls r h; unfold qas_in at h; split at h; rw [qas, sealF_eq] at h; exact Eq.trans (by kernel_rfl) h; cases h)
def ms32 : List (FuncId × Mode U) := (87, qas_md) :: ms31
theorem known32 : Known kk env0 (modesOf ms32) := known_cons (by kernel_rfl) qas_post known31
def qax_sh : StSh := ⟨⟨[0], [], []⟩, [.t .str], []⟩
def qax_os : List StSh := [⟨⟨[0, 1], [], []⟩, [.t (.st 121), .t (.int .i64)], []⟩]
def qax_tr : Token × Int → Tr (Nat × List (TV U)) := fun x => .ret (0, [⟨(.st 121), x.1⟩, ⟨(.int .i64), x.2⟩])
def qax_enc : Nat → List (TV U) → Option (Token × Int)
  | 0, [⟨(.st 121), a0⟩, ⟨(.int .i64), a1⟩] => some (a0, a1)
  | _, _ => none
def qax_dec : Token × Int → Nat × List (TV U) := fun x => (0, [⟨(.st 121), x.1⟩, ⟨(.int .i64), x.2⟩])
def qax_in : List (TV U) → Option (Token × Int)
  | [⟨.str, a0⟩] => qax a0
  | _ => none
def qax_md : Mode U := ⟨qax_sh, [], qax_os, fun ls => .get (qax_in ls) qax_tr⟩
theorem qax_post : ModeOk kk env0 76 qax_md :=
  fn_of (fn := Tryz.f76) qax_enc qax_dec (kitOk_of eqOk mixed known32) (by kernel_rfl) (L := noL) (loopsOk_of (bs := []) (by kernel_rfl) trivial) (fun _ => rfl) (by intro i qs r h; unfold qax_enc at h; split at h <;> cases h <;> rfl)
    (by intro ls r h; unfold qax_in at h; split at h; rw [qax, sealF_eq] at h; exact Eq.trans (by kernel_rfl) h; cases h)
def ms33 : List (FuncId × Mode U) := (76, qax_md) :: ms32
theorem known33 : Known kk env0 (modesOf ms33) := known_cons (by kernel_rfl) qax_post known32
def qar_sh6 : StSh := ⟨⟨[0, 3, 6, 7], [3], [⟨.slot 6, 6, 121, (.st 121)⟩]⟩, [.t .str, .ptr 3 0, .oslc 6, .t (.int .i64)], [.blk 117 [.t (.int .i64), .t (.int .i64), .t .str], .row 121 (.st 121)]⟩
def qar_o6 : List Out := [⟨.ret, ⟨⟨[2, 3], [3], []⟩, [.nil, .ptr 3 0], [.blk 117 [.t (.int .i64), .t (.int .i64), .t .str]]⟩⟩, ⟨.exit 0, ⟨⟨[0, 3, 6], [3], [⟨.slot 6, 6, 121, (.st 121)⟩]⟩, [.t .str, .ptr 3 0, .oslc 6], [.blk 117 [.t (.int .i64), .t (.int .i64), .t .str], .row 121 (.st 121)]⟩⟩]
def qar_b6 : Code := (nthLoop (bodyOf Tryz.f70) 0)
def qar_rec6 (rec : List UInt8 → Int → Int → Int → List UInt8 → List (Token) → Option ((Int × Int × (List UInt8)) ⊕ ((List UInt8) × Int × Int × (List UInt8) × (List (Token))))) : List (TV U) → Option ((Int × Int × (List UInt8)) ⊕ ((List UInt8) × Int × Int × (List UInt8) × (List (Token))))
  | [⟨.str, a0⟩, ⟨(.int .i64), a1⟩, ⟨(.int .i64), a2⟩, ⟨(.int .i64), a3⟩, ⟨.str, a4⟩, ⟨(.slc (.st 121)), a5⟩] => rec a0 a1 a2 a3 a4 a5
  | _ => none
def qar_enc6 : Nat → List (TV U) → Option ((Int × Int × (List UInt8)) ⊕ ((List UInt8) × Int × Int × (List UInt8) × (List (Token))))
  | 0, [⟨(.int .i64), a0⟩, ⟨(.int .i64), a1⟩, ⟨.str, a2⟩] => some (.inl (a0, a1, a2))
  | 1, [⟨.str, a0⟩, ⟨(.int .i64), a1⟩, ⟨(.int .i64), a2⟩, ⟨.str, a3⟩, ⟨(.slc (.st 121)), a4⟩] => some (.inr (a0, a1, a2, a3, a4))
  | _, _ => none
def qar_dec6 : (Int × Int × (List UInt8)) ⊕ ((List UInt8) × Int × Int × (List UInt8) × (List (Token))) → Nat × List (TV U) := fun r => match r with | (.inl x) => (0, [⟨(.int .i64), x.1⟩, ⟨(.int .i64), x.2.1⟩, ⟨.str, x.2.2⟩]) | (.inr x) => (1, [⟨.str, x.1⟩, ⟨(.int .i64), x.2.1⟩, ⟨(.int .i64), x.2.2.1⟩, ⟨.str, x.2.2.2.1⟩, ⟨(.slc (.st 121)), x.2.2.2.2⟩])
def qar_tr6 : (Int × Int × (List UInt8)) ⊕ ((List UInt8) × Int × Int × (List UInt8) × (List (Token))) → Tr (Nat × List (TV U)) := fun r => .alt r (fun x => .ret (0, [⟨(.int .i64), x.1⟩, ⟨(.int .i64), x.2.1⟩, ⟨.str, x.2.2⟩])) (fun y => (fun x => .ret (1, [⟨.str, x.1⟩, ⟨(.int .i64), x.2.1⟩, ⟨(.int .i64), x.2.2.1⟩, ⟨.str, x.2.2.2.1⟩, ⟨(.slc (.st 121)), x.2.2.2.2⟩])) y)
def qar_lp6 : Lift.Loop U := ⟨qar_sh6, qar_o6, fun ls => .get (qar_rec6 qar_l6 ls) qar_tr6⟩
theorem qar_ok6 : LoopR kk env0 Tryz.f70.ntmps qar_b6 qar_lp6 :=
  loop_of qar_enc6 qar_dec6 (fun n => qar_rec6 (qar_i6 n)) (kitOk_of eqOk mixed known33) (L := noL) (loopsOk_of (bs := []) (by kernel_rfl) trivial) (by intro r; rcases r with r | r <;> rfl) (by intro i qs r h; unfold qar_enc6 at h; split at h <;> cases h <;> rfl)
    (by intro ls r h; unfold qar_rec6 at h; split at h <;> cases h)
    (by intro n ls r h; unfold qar_rec6 at h; split at h; exact (show _ = qar_t6 (qar_i6 n) _ _ _ _ _ _ from by kernel_rfl).trans h; cases h) (by rw [qar_l6, sealF_eq])
def qar_sh : StSh := ⟨⟨[0], [], []⟩, [.t .str], []⟩
def qar_os : List StSh := [⟨⟨[0, 1], [], [⟨.slot 0, 100000, 121, (.st 121)⟩]⟩, [.oslc 100000, .t (.st 117)], [.row 121 (.st 121)]⟩]
def qar_tr : Fault × (List (Token)) → Tr (Nat × List (TV U)) := fun x => .ret (0, [⟨(.st 117), x.1⟩, ⟨(.slc (.st 121)), x.2⟩])
def qar_L : Nat → Option (Lift.Loop U) := fun n => bif Nat.beq n 6 then some qar_lp6 else none
def qar_enc : Nat → List (TV U) → Option (Fault × (List (Token)))
  | 0, [⟨(.st 117), a0⟩, ⟨(.slc (.st 121)), a1⟩] => some (a0, a1)
  | _, _ => none
def qar_dec : Fault × (List (Token)) → Nat × List (TV U) := fun x => (0, [⟨(.st 117), x.1⟩, ⟨(.slc (.st 121)), x.2⟩])
def qar_in : List (TV U) → Option (Fault × (List (Token)))
  | [⟨.str, a0⟩] => qar a0
  | _ => none
def qar_md : Mode U := ⟨qar_sh, [], qar_os, fun ls => .get (qar_in ls) qar_tr⟩
theorem qar_post : ModeOk kk env0 70 qar_md :=
  fn_of (fn := Tryz.f70) qar_enc qar_dec (kitOk_of eqOk mixed known33) (by kernel_rfl) (L := qar_L) (loopsOk_of (bs := [qar_b6]) (by kernel_rfl) ⟨.inr ⟨_, by kernel_rfl, LoopOk.of_round (qar_ok6)⟩, trivial⟩) (fun _ => rfl) (by intro i qs r h; unfold qar_enc at h; split at h <;> cases h <;> rfl)
    (by intro ls r h; unfold qar_in at h; split at h; rw [qar, sealF_eq] at h; exact Eq.trans (by kernel_rfl) h; cases h)
def ms34 : List (FuncId × Mode U) := (70, qar_md) :: ms33
theorem known34 : Known kk env0 (modesOf ms34) := known_cons (by kernel_rfl) qar_post known33
def qbl_sh : StSh := ⟨⟨[0], [], []⟩, [.t .str], []⟩
def qbl_os : List StSh := [⟨⟨[0], [], []⟩, [.t .bool], []⟩]
def qbl_tr : Bool → Tr (Nat × List (TV U)) := fun x => .ret (0, [⟨.bool, x⟩])
def qbl_enc : Nat → List (TV U) → Option (Bool)
  | 0, [⟨.bool, a0⟩] => some a0
  | _, _ => none
def qbl_dec : Bool → Nat × List (TV U) := fun x => (0, [⟨.bool, x⟩])
def qbl_in : List (TV U) → Option (Bool)
  | [⟨.str, a0⟩] => qbl a0
  | _ => none
def qbl_md : Mode U := ⟨qbl_sh, [], qbl_os, fun ls => .get (qbl_in ls) qbl_tr⟩
theorem qbl_post : ModeOk kk env0 56 qbl_md :=
  fn_of (fn := Tryz.f56) qbl_enc qbl_dec (kitOk_of eqOk mixed known34) (by kernel_rfl) (L := jnL) (loopsOk_of (bs := []) (by kernel_rfl) trivial) (fun _ => rfl) (by intro i qs r h; unfold qbl_enc at h; split at h <;> cases h <;> rfl)
    (by intro ls r h; unfold qbl_in at h; split at h; rw [qbl, sealF_eq] at h; exact Eq.trans (by kernel_rfl) h; cases h)
def ms35 : List (FuncId × Mode U) := (56, qbl_md) :: ms34
theorem known35 : Known kk env0 (modesOf ms35) := known_cons (by kernel_rfl) qbl_post known34
def qbm_sh : StSh := ⟨⟨[], [], []⟩, [], []⟩
def qbm_os : List StSh := [⟨⟨[0], [], []⟩, [.t (.map (.int .i64) (.st 123))], []⟩]
def qbm_tr : (List ((Int) × (Shape))) → Tr (Nat × List (TV U)) := fun x => .ret (0, [⟨(.map (.int .i64) (.st 123)), x⟩])
def qbm_enc : Nat → List (TV U) → Option ((List ((Int) × (Shape))))
  | 0, [⟨(.map (.int .i64) (.st 123)), a0⟩] => some a0
  | _, _ => none
def qbm_dec : (List ((Int) × (Shape))) → Nat × List (TV U) := fun x => (0, [⟨(.map (.int .i64) (.st 123)), x⟩])
def qbm_in : List (TV U) → Option ((List ((Int) × (Shape))))
  | [] => qbm
  | _ => none
def qbm_md : Mode U := ⟨qbm_sh, [], qbm_os, fun ls => .get (qbm_in ls) qbm_tr⟩
theorem qbm_post : ModeOk kk env0 71 qbm_md :=
  fn_of (fn := Tryz.f71) qbm_enc qbm_dec (kitOk_of eqOk mixed known35) (by kernel_rfl) (L := jnL) (loopsOk_of (bs := []) (by kernel_rfl) trivial) (fun _ => rfl) (by intro i qs r h; unfold qbm_enc at h; split at h <;> cases h <;> rfl)
    (by intro ls r h; unfold qbm_in at h; split at h; rw [qbm, sealF_eq] at h; exact Eq.trans (by kernel_rfl) h; cases h)
def ms36 : List (FuncId × Mode U) := (71, qbm_md) :: ms35
theorem known36 : Known kk env0 (modesOf ms36) := known_cons (by kernel_rfl) qbm_post known35
def qbk_sh : StSh := ⟨⟨[0, 1], [], []⟩, [.t .str, .t .bool], []⟩
def qbk_os : List StSh := [⟨⟨[0], [], []⟩, [.t .bool], []⟩]
def qbk_tr : Bool → Tr (Nat × List (TV U)) := fun x => .ret (0, [⟨.bool, x⟩])
def qbk_enc : Nat → List (TV U) → Option (Bool)
  | 0, [⟨.bool, a0⟩] => some a0
  | _, _ => none
def qbk_dec : Bool → Nat × List (TV U) := fun x => (0, [⟨.bool, x⟩])
def qbk_in : List (TV U) → Option (Bool)
  | [⟨.str, a0⟩, ⟨.bool, a1⟩] => qbk a0 a1
  | _ => none
def qbk_md : Mode U := ⟨qbk_sh, [], qbk_os, fun ls => .get (qbk_in ls) qbk_tr⟩
theorem qbk_post : ModeOk kk env0 72 qbk_md :=
  fn_of (fn := Tryz.f72) qbk_enc qbk_dec (kitOk_of eqOk mixed known36) (by kernel_rfl) (L := jnL) (loopsOk_of (bs := []) (by kernel_rfl) trivial) (fun _ => rfl) (by intro i qs r h; unfold qbk_enc at h; split at h <;> cases h <;> rfl)
    (by intro ls r h; unfold qbk_in at h; split at h; rw [qbk, sealF_eq] at h; exact Eq.trans (by kernel_rfl) h; cases h)
def ms37 : List (FuncId × Mode U) := (72, qbk_md) :: ms36
theorem known37 : Known kk env0 (modesOf ms37) := known_cons (by kernel_rfl) qbk_post known36
def qbn_sh : StSh := ⟨⟨[0], [], []⟩, [.t (.st 78)], []⟩
def qbn_os : List StSh := [⟨⟨[0], [], []⟩, [.t .bool], []⟩]
def qbn_tr : Bool → Tr (Nat × List (TV U)) := fun x => .ret (0, [⟨.bool, x⟩])
def qbn_enc : Nat → List (TV U) → Option (Bool)
  | 0, [⟨.bool, a0⟩] => some a0
  | _, _ => none
def qbn_dec : Bool → Nat × List (TV U) := fun x => (0, [⟨.bool, x⟩])
def qbn_in : List (TV U) → Option (Bool)
  | [⟨(.st 78), a0⟩] => qbn a0
  | _ => none
def qbn_md : Mode U := ⟨qbn_sh, [], qbn_os, fun ls => .get (qbn_in ls) qbn_tr⟩
theorem qbn_post : ModeOk kk env0 58 qbn_md :=
  fn_of (fn := Tryz.f58) qbn_enc qbn_dec (kitOk_of eqOk mixed known37) (by kernel_rfl) (L := jnL) (loopsOk_of (bs := []) (by kernel_rfl) trivial) (fun _ => rfl) (by intro i qs r h; unfold qbn_enc at h; split at h <;> cases h <;> rfl)
    (by intro ls r h; unfold qbn_in at h; split at h; rw [qbn, sealF_eq] at h; exact Eq.trans (by kernel_rfl) h; cases h)
def ms38 : List (FuncId × Mode U) := (58, qbn_md) :: ms37
theorem known38 : Known kk env0 (modesOf ms38) := known_cons (by kernel_rfl) qbn_post known37
def qbi_sh : StSh := ⟨⟨[0, 1, 2], [100000], []⟩, [.t (.st 78), .t (.int .i64), .ptr 100000 0], [.blk 4 [.t .bool]]⟩
def qbi_os : List StSh := [⟨⟨[], [100000], []⟩, [], [.blk 4 [.t .bool]]⟩]
def qbi_tr : Bool → Tr (Nat × List (TV U)) := fun x => .ret (0, [⟨.bool, x⟩])
def qbi_enc : Nat → List (TV U) → Option (Bool)
  | 0, [⟨.bool, a0⟩] => some a0
  | _, _ => none
def qbi_dec : Bool → Nat × List (TV U) := fun x => (0, [⟨.bool, x⟩])
def qbi_in : List (TV U) → Option (Bool)
  | [⟨(.st 78), a0⟩, ⟨(.int .i64), a1⟩, ⟨.bool, a2⟩] => qbi a0 a1 a2
  | _ => none
def qbi_md : Mode U := ⟨qbi_sh, [⟨100000, .slot 2, []⟩], qbi_os, fun ls => .get (qbi_in ls) qbi_tr⟩
theorem qbi_post : ModeOk kk env0 57 qbi_md :=
  fn_of (fn := Tryz.f57) qbi_enc qbi_dec (kitOk_of eqOk mixed known38) (by kernel_rfl) (L := jnL) (loopsOk_of (bs := []) (by kernel_rfl) trivial) (fun _ => rfl) (by intro i qs r h; unfold qbi_enc at h; split at h <;> cases h <;> rfl)
    (by intro ls r h; unfold qbi_in at h; split at h; rw [qbi, sealF_eq] at h; exact Eq.trans (by kernel_rfl) h; cases h)
def ms39 : List (FuncId × Mode U) := (57, qbi_md) :: ms38
theorem known39 : Known kk env0 (modesOf ms39) := known_cons (by kernel_rfl) qbi_post known38
def qbg_sh : StSh := ⟨⟨[0], [], []⟩, [.t (.st 57)], []⟩
def qbg_os : List StSh := [⟨⟨[0], [], []⟩, [.t .bool], []⟩]
def qbg_tr : Bool → Tr (Nat × List (TV U)) := fun x => .ret (0, [⟨.bool, x⟩])
def qbg_enc : Nat → List (TV U) → Option (Bool)
  | 0, [⟨.bool, a0⟩] => some a0
  | _, _ => none
def qbg_dec : Bool → Nat × List (TV U) := fun x => (0, [⟨.bool, x⟩])
def qbg_in : List (TV U) → Option (Bool)
  | [⟨(.st 57), a0⟩] => qbg a0
  | _ => none
def qbg_md : Mode U := ⟨qbg_sh, [], qbg_os, fun ls => .get (qbg_in ls) qbg_tr⟩
theorem qbg_post : ModeOk kk env0 60 qbg_md :=
  fn_of (fn := Tryz.f60) qbg_enc qbg_dec (kitOk_of eqOk mixed known39) (by kernel_rfl) (L := jnL) (loopsOk_of (bs := []) (by kernel_rfl) trivial) (fun _ => rfl) (by intro i qs r h; unfold qbg_enc at h; split at h <;> cases h <;> rfl)
    (by intro ls r h; unfold qbg_in at h; split at h; rw [qbg, sealF_eq] at h; exact Eq.trans (by kernel_rfl) h; cases h)
def ms40 : List (FuncId × Mode U) := (60, qbg_md) :: ms39
theorem known40 : Known kk env0 (modesOf ms40) := known_cons (by kernel_rfl) qbg_post known39
def qbj_sh : StSh := ⟨⟨[0, 1, 2], [100000], []⟩, [.t (.st 57), .t (.int .i64), .ptr 100000 0], [.blk 4 [.t .bool]]⟩
def qbj_os : List StSh := [⟨⟨[], [100000], []⟩, [], [.blk 4 [.t .bool]]⟩]
def qbj_tr : Bool → Tr (Nat × List (TV U)) := fun x => .ret (0, [⟨.bool, x⟩])
def qbj_enc : Nat → List (TV U) → Option (Bool)
  | 0, [⟨.bool, a0⟩] => some a0
  | _, _ => none
def qbj_dec : Bool → Nat × List (TV U) := fun x => (0, [⟨.bool, x⟩])
def qbj_in : List (TV U) → Option (Bool)
  | [⟨(.st 57), a0⟩, ⟨(.int .i64), a1⟩, ⟨.bool, a2⟩] => qbj a0 a1 a2
  | _ => none
def qbj_md : Mode U := ⟨qbj_sh, [⟨100000, .slot 2, []⟩], qbj_os, fun ls => .get (qbj_in ls) qbj_tr⟩
theorem qbj_post : ModeOk kk env0 59 qbj_md :=
  fn_of (fn := Tryz.f59) qbj_enc qbj_dec (kitOk_of eqOk mixed known40) (by kernel_rfl) (L := jnL) (loopsOk_of (bs := []) (by kernel_rfl) trivial) (fun _ => rfl) (by intro i qs r h; unfold qbj_enc at h; split at h <;> cases h <;> rfl)
    (by intro ls r h; unfold qbj_in at h; split at h; rw [qbj, sealF_eq] at h; exact Eq.trans (by kernel_rfl) h; cases h)
def ms41 : List (FuncId × Mode U) := (59, qbj_md) :: ms40
theorem known41 : Known kk env0 (modesOf ms41) := known_cons (by kernel_rfl) qbj_post known40
def qac_sh : StSh := ⟨⟨[0, 1, 2], [100000], []⟩, [.agg [.clo 57 [.ptr 100000 0], .clo 59 [.ptr 100000 0]], .t (.st 57), .t (.int .i64)], [.blk 4 [.t .bool]]⟩
def qac_os : List StSh := [⟨⟨[], [100000], []⟩, [], [.blk 4 [.t .bool]]⟩]
def qac_tr : Bool → Tr (Nat × List (TV U)) := fun x => .ret (0, [⟨.bool, x⟩])
def qac_in (rec_qac : TExpr → Int → Bool → Option (Bool)) : List (TV U) → Option (Bool)
  | [⟨(.st 57), a0⟩, ⟨(.int .i64), a1⟩, ⟨.bool, a2⟩] => rec_qac a0 a1 a2
  | _ => none
def qac_rmd (rec_qac : TExpr → Int → Bool → Option (Bool)) : Mode U := ⟨qac_sh, [⟨100000, .slot 0, [0, 0]⟩], qac_os, fun ls => .get (qac_in rec_qac ls) qac_tr⟩
def ms42 (rec_qac : TExpr → Int → Bool → Option (Bool)) : List (FuncId × Mode U) := (77, (qac_rmd rec_qac)) :: ms41
theorem known42 (rec_qac : TExpr → Int → Bool → Option (Bool)) (hrec_qac : ModeOk kk env0 77 (qac_rmd rec_qac)) : Known kk env0 (modesOf (ms42 rec_qac)) := known_cons (by kernel_rfl) hrec_qac known41
def qac_sh3 : StSh := ⟨⟨[2, 3, 14, 15, 16], [100000, 3], []⟩, [.t (.int .i64), .ptr 3 0, .t (.slc (.st 57)), .t (.int .i64), .t (.int .i64)], [.blk 4 [.t .bool], .blk 111 [.clo 57 [.ptr 100000 0], .clo 59 [.ptr 100000 0]]]⟩
def qac_o3 : List Out := [⟨.exit 0, ⟨⟨[], [100000], []⟩, [], [.blk 4 [.t .bool]]⟩⟩]
def qac_b3 : Code := (nthLoop (bodyOf Tryz.f77) 0)
def qac_rec3 (rec : Int → List (TExpr) → Int → Int → Bool → Option (Bool)) : List (TV U) → Option (Bool)
  | [⟨(.int .i64), a0⟩, ⟨(.slc (.st 57)), a1⟩, ⟨(.int .i64), a2⟩, ⟨(.int .i64), a3⟩, ⟨.bool, a4⟩] => rec a0 a1 a2 a3 a4
  | _ => none
def qac_enc3 : Nat → List (TV U) → Option (Bool)
  | 0, [⟨.bool, a0⟩] => some a0
  | _, _ => none
def qac_dec3 : Bool → Nat × List (TV U) := fun x => (0, [⟨.bool, x⟩])
def qac_tr3 : Bool → Tr (Nat × List (TV U)) := fun x => .ret (0, [⟨.bool, x⟩])
def qac_lp3 (rec_qac : TExpr → Int → Bool → Option (Bool)) : Lift.Loop U := ⟨qac_sh3, qac_o3, fun ls => .get (qac_rec3 (qac_l3 rec_qac) ls) qac_tr3⟩
theorem qac_ok3 (rec_qac : TExpr → Int → Bool → Option (Bool)) (hrec_qac : ModeOk kk env0 77 (qac_rmd rec_qac)) : LoopR kk env0 Tryz.f77.ntmps qac_b3 (qac_lp3 rec_qac) :=
  loop_of qac_enc3 qac_dec3 (fun n => qac_rec3 (qac_i3 rec_qac n)) (kitOk_of eqOk mixed (known42 rec_qac hrec_qac)) (L := jnL) (loopsOk_of (bs := []) (by kernel_rfl) trivial) (fun _ => rfl) (by intro i qs r h; unfold qac_enc3 at h; split at h <;> cases h <;> rfl)
    (by intro ls r h; unfold qac_rec3 at h; split at h <;> cases h)
    (by intro n ls r h; unfold qac_rec3 at h; split at h; exact (show _ = qac_t3 rec_qac (qac_i3 rec_qac n) _ _ _ _ _ from by kernel_rfl).trans h; cases h) (by rw [qac_l3, sealF_eq])
def qac_L (rec_qac : TExpr → Int → Bool → Option (Bool)) : Nat → Option (Lift.Loop U) := fun n => bif Nat.beq n joinKey then some joinMark else bif Nat.beq n 3 then some (qac_lp3 rec_qac) else none
def qac_enc : Nat → List (TV U) → Option (Bool)
  | 0, [⟨.bool, a0⟩] => some a0
  | _, _ => none
def qac_dec : Bool → Nat × List (TV U) := fun x => (0, [⟨.bool, x⟩])
def qac_md : Mode U := qac_rmd qac
theorem qac_step (rec_qac : TExpr → Int → Bool → Option (Bool)) (hrec_qac : ModeOk kk env0 77 (qac_rmd rec_qac)) : LoopsOk (Kit.withModes kk (modesOf (ms42 rec_qac))) env0 Tryz.f77.ntmps (qac_L rec_qac) (bodyOf Tryz.f77) := loopsOk_of (bs := [qac_b3]) (by kernel_rfl) ⟨.inr ⟨_, by kernel_rfl, LoopOk.of_round (qac_ok3 rec_qac hrec_qac)⟩, trivial⟩
theorem qac_post : ModeOk kk env0 77 (qac_rmd qac) :=
  rec_of (K := kk) (F := qac) qac_rmd qac_i (by rw [qac, sealF_eq]) (rec_zero (by intro ls r h; unfold qac_in at h; split at h <;> cases h)) (fun n ih => fn_of (fn := Tryz.f77) qac_enc qac_dec (kitOk_of eqOk mixed (known42 (qac_i n) ih)) (by kernel_rfl) (qac_step (qac_i n) ih) (fun _ => rfl) (by intro i qs r h; unfold qac_enc at h; split at h <;> cases h <;> rfl)
    (by intro ls r h; unfold qac_in at h; split at h; exact (show _ = qac_f (qac_i n) _ _ _ from by kernel_rfl).trans h; cases h))
def ms43 : List (FuncId × Mode U) := (77, qac_md) :: ms41
theorem known43 : Known kk env0 (modesOf ms43) := known_cons (by kernel_rfl) qac_post known41
def qai_sh : StSh := ⟨⟨[0, 1, 2], [100000], []⟩, [.agg [.clo 57 [.ptr 100000 0], .clo 59 [.ptr 100000 0]], .t (.slc (.st 78)), .t (.int .i64)], [.blk 4 [.t .bool]]⟩
def qai_os : List StSh := [⟨⟨[], [100000], []⟩, [], [.blk 4 [.t .bool]]⟩]
def qai_tr : Bool → Tr (Nat × List (TV U)) := fun x => .ret (0, [⟨.bool, x⟩])
def qai_in (rec_qai : List (TStmt) → Int → Bool → Option (Bool)) : List (TV U) → Option (Bool)
  | [⟨(.slc (.st 78)), a0⟩, ⟨(.int .i64), a1⟩, ⟨.bool, a2⟩] => rec_qai a0 a1 a2
  | _ => none
def qai_rmd (rec_qai : List (TStmt) → Int → Bool → Option (Bool)) : Mode U := ⟨qai_sh, [⟨100000, .slot 0, [0, 0]⟩], qai_os, fun ls => .get (qai_in rec_qai ls) qai_tr⟩
def ms44 (rec_qai : List (TStmt) → Int → Bool → Option (Bool)) : List (FuncId × Mode U) := (73, (qai_rmd rec_qai)) :: ms43
theorem known44 (rec_qai : List (TStmt) → Int → Bool → Option (Bool)) (hrec_qai : ModeOk kk env0 73 (qai_rmd rec_qai)) : Known kk env0 (modesOf (ms44 rec_qai)) := known_cons (by kernel_rfl) hrec_qai known43
def qai_sh2 : StSh := ⟨⟨[2, 3, 8, 9, 10], [100000, 3], []⟩, [.t (.int .i64), .ptr 3 0, .t (.slc (.st 78)), .t (.int .i64), .t (.int .i64)], [.blk 4 [.t .bool], .blk 111 [.clo 57 [.ptr 100000 0], .clo 59 [.ptr 100000 0]]]⟩
def qai_o2 : List Out := [⟨.exit 0, ⟨⟨[], [100000], []⟩, [], [.blk 4 [.t .bool]]⟩⟩]
def qai_b2 : Code := (nthLoop (bodyOf Tryz.f73) 0)
def qai_rec2 (rec : Int → List (TStmt) → Int → Int → Bool → Option (Bool)) : List (TV U) → Option (Bool)
  | [⟨(.int .i64), a0⟩, ⟨(.slc (.st 78)), a1⟩, ⟨(.int .i64), a2⟩, ⟨(.int .i64), a3⟩, ⟨.bool, a4⟩] => rec a0 a1 a2 a3 a4
  | _ => none
def qai_enc2 : Nat → List (TV U) → Option (Bool)
  | 0, [⟨.bool, a0⟩] => some a0
  | _, _ => none
def qai_dec2 : Bool → Nat × List (TV U) := fun x => (0, [⟨.bool, x⟩])
def qai_tr2 : Bool → Tr (Nat × List (TV U)) := fun x => .ret (0, [⟨.bool, x⟩])
def qai_lp2 (rec_qai : List (TStmt) → Int → Bool → Option (Bool)) : Lift.Loop U := ⟨qai_sh2, qai_o2, fun ls => .get (qai_rec2 (qai_l2 rec_qai) ls) qai_tr2⟩
theorem qai_ok2 (rec_qai : List (TStmt) → Int → Bool → Option (Bool)) (hrec_qai : ModeOk kk env0 73 (qai_rmd rec_qai)) : LoopR kk env0 Tryz.f73.ntmps qai_b2 (qai_lp2 rec_qai) :=
  loop_of qai_enc2 qai_dec2 (fun n => qai_rec2 (qai_i2 rec_qai n)) (kitOk_of eqOk mixed (known44 rec_qai hrec_qai)) (L := jnL) (loopsOk_of (bs := []) (by kernel_rfl) trivial) (fun _ => rfl) (by intro i qs r h; unfold qai_enc2 at h; split at h <;> cases h <;> rfl)
    (by intro ls r h; unfold qai_rec2 at h; split at h <;> cases h)
    (by intro n ls r h; unfold qai_rec2 at h; split at h; exact (show _ = qai_t2 rec_qai (qai_i2 rec_qai n) _ _ _ _ _ from by kernel_rfl).trans h; cases h) (by rw [qai_l2, sealF_eq])
def qai_L (rec_qai : List (TStmt) → Int → Bool → Option (Bool)) : Nat → Option (Lift.Loop U) := fun n => bif Nat.beq n joinKey then some joinMark else bif Nat.beq n 2 then some (qai_lp2 rec_qai) else none
def qai_enc : Nat → List (TV U) → Option (Bool)
  | 0, [⟨.bool, a0⟩] => some a0
  | _, _ => none
def qai_dec : Bool → Nat × List (TV U) := fun x => (0, [⟨.bool, x⟩])
def qai_md : Mode U := qai_rmd qai
theorem qai_step (rec_qai : List (TStmt) → Int → Bool → Option (Bool)) (hrec_qai : ModeOk kk env0 73 (qai_rmd rec_qai)) : LoopsOk (Kit.withModes kk (modesOf (ms44 rec_qai))) env0 Tryz.f73.ntmps (qai_L rec_qai) (bodyOf Tryz.f73) := loopsOk_of (bs := [qai_b2]) (by kernel_rfl) ⟨.inr ⟨_, by kernel_rfl, LoopOk.of_round (qai_ok2 rec_qai hrec_qai)⟩, trivial⟩
theorem qai_post : ModeOk kk env0 73 (qai_rmd qai) :=
  rec_of (K := kk) (F := qai) qai_rmd qai_i (by rw [qai, sealF_eq]) (rec_zero (by intro ls r h; unfold qai_in at h; split at h <;> cases h)) (fun n ih => fn_of (fn := Tryz.f73) qai_enc qai_dec (kitOk_of eqOk mixed (known44 (qai_i n) ih)) (by kernel_rfl) (qai_step (qai_i n) ih) (fun _ => rfl) (by intro i qs r h; unfold qai_enc at h; split at h <;> cases h <;> rfl)
    (by intro ls r h; unfold qai_in at h; split at h; exact (show _ = qai_f (qai_i n) _ _ _ from by kernel_rfl).trans h; cases h))
def ms45 : List (FuncId × Mode U) := (73, qai_md) :: ms43
theorem known45 : Known kk env0 (modesOf ms45) := known_cons (by kernel_rfl) qai_post known43
def qaf_sh2 : StSh := ⟨⟨[2, 7, 8, 9], [100000, 2], []⟩, [.ptr 2 0, .t (.slc (.st 53)), .t (.int .i64), .t (.int .i64)], [.blk 4 [.t .bool], .blk 111 [.clo 57 [.ptr 100000 0], .clo 59 [.ptr 100000 0]]]⟩
def qaf_o2 : List Out := [⟨.exit 0, ⟨⟨[], [100000], []⟩, [], [.blk 4 [.t .bool]]⟩⟩]
def qaf_b2 : Code := (nthLoop (bodyOf Tryz.f61) 0)
def qaf_rec2 (rec : List (TThread) → Int → Int → Bool → Option (Bool)) : List (TV U) → Option (Bool)
  | [⟨(.slc (.st 53)), a0⟩, ⟨(.int .i64), a1⟩, ⟨(.int .i64), a2⟩, ⟨.bool, a3⟩] => rec a0 a1 a2 a3
  | _ => none
def qaf_enc2 : Nat → List (TV U) → Option (Bool)
  | 0, [⟨.bool, a0⟩] => some a0
  | _, _ => none
def qaf_dec2 : Bool → Nat × List (TV U) := fun x => (0, [⟨.bool, x⟩])
def qaf_tr2 : Bool → Tr (Nat × List (TV U)) := fun x => .ret (0, [⟨.bool, x⟩])
def qaf_lp2 : Lift.Loop U := ⟨qaf_sh2, qaf_o2, fun ls => .get (qaf_rec2 qaf_l2 ls) qaf_tr2⟩
theorem qaf_ok2 : LoopR kk env0 Tryz.f61.ntmps qaf_b2 qaf_lp2 :=
  loop_of qaf_enc2 qaf_dec2 (fun n => qaf_rec2 (qaf_i2 n)) (kitOk_of eqOk mixed known45) (L := jnL) (loopsOk_of (bs := []) (by kernel_rfl) trivial) (fun _ => rfl) (by intro i qs r h; unfold qaf_enc2 at h; split at h <;> cases h <;> rfl)
    (by intro ls r h; unfold qaf_rec2 at h; split at h <;> cases h)
    (by intro n ls r h; unfold qaf_rec2 at h; split at h; exact (show _ = qaf_t2 (qaf_i2 n) _ _ _ _ from by kernel_rfl).trans h; cases h) (by rw [qaf_l2, sealF_eq])
def qaf_sh : StSh := ⟨⟨[0, 1], [100000], []⟩, [.agg [.clo 57 [.ptr 100000 0], .clo 59 [.ptr 100000 0]], .t (.st 44)], [.blk 4 [.t .bool]]⟩
def qaf_os : List StSh := [⟨⟨[], [100000], []⟩, [], [.blk 4 [.t .bool]]⟩]
def qaf_tr : Bool → Tr (Nat × List (TV U)) := fun x => .ret (0, [⟨.bool, x⟩])
def qaf_L : Nat → Option (Lift.Loop U) := fun n => bif Nat.beq n joinKey then some joinMark else bif Nat.beq n 2 then some qaf_lp2 else none
def qaf_enc : Nat → List (TV U) → Option (Bool)
  | 0, [⟨.bool, a0⟩] => some a0
  | _, _ => none
def qaf_dec : Bool → Nat × List (TV U) := fun x => (0, [⟨.bool, x⟩])
def qaf_in : List (TV U) → Option (Bool)
  | [⟨(.st 44), a0⟩, ⟨.bool, a1⟩] => qaf a0 a1
  | _ => none
def qaf_md : Mode U := ⟨qaf_sh, [⟨100000, .slot 0, [0, 0]⟩], qaf_os, fun ls => .get (qaf_in ls) qaf_tr⟩
theorem qaf_post : ModeOk kk env0 61 qaf_md :=
  fn_of (fn := Tryz.f61) qaf_enc qaf_dec (kitOk_of eqOk mixed known45) (by kernel_rfl) (L := qaf_L) (loopsOk_of (bs := [qaf_b2]) (by kernel_rfl) ⟨.inr ⟨_, by kernel_rfl, LoopOk.of_round (qaf_ok2)⟩, trivial⟩) (fun _ => rfl) (by intro i qs r h; unfold qaf_enc at h; split at h <;> cases h <;> rfl)
    (by intro ls r h; unfold qaf_in at h; split at h; rw [qaf, sealF_eq] at h; exact Eq.trans (by kernel_rfl) h; cases h)
def ms46 : List (FuncId × Mode U) := (61, qaf_md) :: ms45
theorem known46 : Known kk env0 (modesOf ms46) := known_cons (by kernel_rfl) qaf_post known45
def qbh_sh3 : StSh := ⟨⟨[1, 3, 11, 12, 13], [1, 3], []⟩, [.ptr 1 0, .ptr 3 0, .t (.slc (.st 73)), .t (.int .i64), .t (.int .i64)], [.blk 44 [.t (.slc (.st 73)), .t (.slc .str), .t (.slc (.st 53))], .blk 4 [.t .bool]]⟩
def qbh_o3 : List Out := [⟨.exit 0, ⟨⟨[1, 3], [1, 3], []⟩, [.ptr 1 0, .ptr 3 0], [.blk 44 [.t (.slc (.st 73)), .t (.slc .str), .t (.slc (.st 53))], .blk 4 [.t .bool]]⟩⟩]
def qbh_b3 : Code := (nthLoop (bodyOf Tryz.f43) 0)
def qbh_rec3 (rec : List (TCell) → Int → Int → List (TCell) → List (List UInt8) → List (TThread) → Bool → Option ((List (TCell)) × (List (List UInt8)) × (List (TThread)) × Bool)) : List (TV U) → Option ((List (TCell)) × (List (List UInt8)) × (List (TThread)) × Bool)
  | [⟨(.slc (.st 73)), a0⟩, ⟨(.int .i64), a1⟩, ⟨(.int .i64), a2⟩, ⟨(.slc (.st 73)), a3⟩, ⟨(.slc .str), a4⟩, ⟨(.slc (.st 53)), a5⟩, ⟨.bool, a6⟩] => rec a0 a1 a2 a3 a4 a5 a6
  | _ => none
def qbh_enc3 : Nat → List (TV U) → Option ((List (TCell)) × (List (List UInt8)) × (List (TThread)) × Bool)
  | 0, [⟨(.slc (.st 73)), a0⟩, ⟨(.slc .str), a1⟩, ⟨(.slc (.st 53)), a2⟩, ⟨.bool, a3⟩] => some (a0, a1, a2, a3)
  | _, _ => none
def qbh_dec3 : (List (TCell)) × (List (List UInt8)) × (List (TThread)) × Bool → Nat × List (TV U) := fun x => (0, [⟨(.slc (.st 73)), x.1⟩, ⟨(.slc .str), x.2.1⟩, ⟨(.slc (.st 53)), x.2.2.1⟩, ⟨.bool, x.2.2.2⟩])
def qbh_tr3 : (List (TCell)) × (List (List UInt8)) × (List (TThread)) × Bool → Tr (Nat × List (TV U)) := fun x => .ret (0, [⟨(.slc (.st 73)), x.1⟩, ⟨(.slc .str), x.2.1⟩, ⟨(.slc (.st 53)), x.2.2.1⟩, ⟨.bool, x.2.2.2⟩])
def qbh_lp3 : Lift.Loop U := ⟨qbh_sh3, qbh_o3, fun ls => .get (qbh_rec3 qbh_l3 ls) qbh_tr3⟩
theorem qbh_ok3 : LoopR kk env0 Tryz.f43.ntmps qbh_b3 qbh_lp3 :=
  loop_of qbh_enc3 qbh_dec3 (fun n => qbh_rec3 (qbh_i3 n)) (kitOk_of eqOk mixed known46) (L := jnL) (loopsOk_of (bs := []) (by kernel_rfl) trivial) (fun _ => rfl) (by intro i qs r h; unfold qbh_enc3 at h; split at h <;> cases h <;> rfl)
    (by intro ls r h; unfold qbh_rec3 at h; split at h <;> cases h)
    (by intro n ls r h; unfold qbh_rec3 at h; split at h; exact (show _ = qbh_t3 (qbh_i3 n) _ _ _ _ _ _ _ from by kernel_rfl).trans h; cases h) (by rw [qbh_l3, sealF_eq])
def qbh_sh8 : StSh := ⟨⟨[1, 3, 35, 36, 37], [1, 3], []⟩, [.ptr 1 0, .ptr 3 0, .t (.slc .str), .t (.int .i64), .t (.int .i64)], [.blk 44 [.t (.slc (.st 73)), .t (.slc .str), .t (.slc (.st 53))], .blk 4 [.t .bool]]⟩
def qbh_o8 : List Out := [⟨.exit 2, ⟨⟨[1, 3], [1, 3], []⟩, [.ptr 1 0, .ptr 3 0], [.blk 44 [.t (.slc (.st 73)), .t (.slc .str), .t (.slc (.st 53))], .blk 4 [.t .bool]]⟩⟩]
def qbh_b8 : Code := (nthLoop (bodyOf Tryz.f43) 1)
def qbh_rec8 (rec : List (List UInt8) → Int → Int → List (TCell) → List (List UInt8) → List (TThread) → Bool → Option ((List (TCell)) × (List (List UInt8)) × (List (TThread)) × Bool)) : List (TV U) → Option ((List (TCell)) × (List (List UInt8)) × (List (TThread)) × Bool)
  | [⟨(.slc .str), a0⟩, ⟨(.int .i64), a1⟩, ⟨(.int .i64), a2⟩, ⟨(.slc (.st 73)), a3⟩, ⟨(.slc .str), a4⟩, ⟨(.slc (.st 53)), a5⟩, ⟨.bool, a6⟩] => rec a0 a1 a2 a3 a4 a5 a6
  | _ => none
def qbh_enc8 : Nat → List (TV U) → Option ((List (TCell)) × (List (List UInt8)) × (List (TThread)) × Bool)
  | 0, [⟨(.slc (.st 73)), a0⟩, ⟨(.slc .str), a1⟩, ⟨(.slc (.st 53)), a2⟩, ⟨.bool, a3⟩] => some (a0, a1, a2, a3)
  | _, _ => none
def qbh_dec8 : (List (TCell)) × (List (List UInt8)) × (List (TThread)) × Bool → Nat × List (TV U) := fun x => (0, [⟨(.slc (.st 73)), x.1⟩, ⟨(.slc .str), x.2.1⟩, ⟨(.slc (.st 53)), x.2.2.1⟩, ⟨.bool, x.2.2.2⟩])
def qbh_tr8 : (List (TCell)) × (List (List UInt8)) × (List (TThread)) × Bool → Tr (Nat × List (TV U)) := fun x => .ret (0, [⟨(.slc (.st 73)), x.1⟩, ⟨(.slc .str), x.2.1⟩, ⟨(.slc (.st 53)), x.2.2.1⟩, ⟨.bool, x.2.2.2⟩])
def qbh_lp8 : Lift.Loop U := ⟨qbh_sh8, qbh_o8, fun ls => .get (qbh_rec8 qbh_l8 ls) qbh_tr8⟩
theorem qbh_ok8 : LoopR kk env0 Tryz.f43.ntmps qbh_b8 qbh_lp8 :=
  loop_of qbh_enc8 qbh_dec8 (fun n => qbh_rec8 (qbh_i8 n)) (kitOk_of eqOk mixed known46) (L := jnL) (loopsOk_of (bs := []) (by kernel_rfl) trivial) (fun _ => rfl) (by intro i qs r h; unfold qbh_enc8 at h; split at h <;> cases h <;> rfl)
    (by intro ls r h; unfold qbh_rec8 at h; split at h <;> cases h)
    (by intro n ls r h; unfold qbh_rec8 at h; split at h; exact (show _ = qbh_t8 (qbh_i8 n) _ _ _ _ _ _ _ from by kernel_rfl).trans h; cases h) (by rw [qbh_l8, sealF_eq])
def qbh_sh13 : StSh := ⟨⟨[1, 3, 48, 49, 50], [1, 3], []⟩, [.ptr 1 0, .ptr 3 0, .t (.slc (.st 53)), .t (.int .i64), .t (.int .i64)], [.blk 44 [.t (.slc (.st 73)), .t (.slc .str), .t (.slc (.st 53))], .blk 4 [.t .bool]]⟩
def qbh_o13 : List Out := [⟨.exit 4, ⟨⟨[1, 3], [1, 3], []⟩, [.ptr 1 0, .ptr 3 0], [.blk 44 [.t (.slc (.st 73)), .t (.slc .str), .t (.slc (.st 53))], .blk 4 [.t .bool]]⟩⟩]
def qbh_b13 : Code := (nthLoop (bodyOf Tryz.f43) 2)
def qbh_rec13 (rec : List (TThread) → Int → Int → List (TCell) → List (List UInt8) → List (TThread) → Bool → Option ((List (TCell)) × (List (List UInt8)) × (List (TThread)) × Bool)) : List (TV U) → Option ((List (TCell)) × (List (List UInt8)) × (List (TThread)) × Bool)
  | [⟨(.slc (.st 53)), a0⟩, ⟨(.int .i64), a1⟩, ⟨(.int .i64), a2⟩, ⟨(.slc (.st 73)), a3⟩, ⟨(.slc .str), a4⟩, ⟨(.slc (.st 53)), a5⟩, ⟨.bool, a6⟩] => rec a0 a1 a2 a3 a4 a5 a6
  | _ => none
def qbh_enc13 : Nat → List (TV U) → Option ((List (TCell)) × (List (List UInt8)) × (List (TThread)) × Bool)
  | 0, [⟨(.slc (.st 73)), a0⟩, ⟨(.slc .str), a1⟩, ⟨(.slc (.st 53)), a2⟩, ⟨.bool, a3⟩] => some (a0, a1, a2, a3)
  | _, _ => none
def qbh_dec13 : (List (TCell)) × (List (List UInt8)) × (List (TThread)) × Bool → Nat × List (TV U) := fun x => (0, [⟨(.slc (.st 73)), x.1⟩, ⟨(.slc .str), x.2.1⟩, ⟨(.slc (.st 53)), x.2.2.1⟩, ⟨.bool, x.2.2.2⟩])
def qbh_tr13 : (List (TCell)) × (List (List UInt8)) × (List (TThread)) × Bool → Tr (Nat × List (TV U)) := fun x => .ret (0, [⟨(.slc (.st 73)), x.1⟩, ⟨(.slc .str), x.2.1⟩, ⟨(.slc (.st 53)), x.2.2.1⟩, ⟨.bool, x.2.2.2⟩])
def qbh_lp13 : Lift.Loop U := ⟨qbh_sh13, qbh_o13, fun ls => .get (qbh_rec13 qbh_l13 ls) qbh_tr13⟩
theorem qbh_ok13 : LoopR kk env0 Tryz.f43.ntmps qbh_b13 qbh_lp13 :=
  loop_of qbh_enc13 qbh_dec13 (fun n => qbh_rec13 (qbh_i13 n)) (kitOk_of eqOk mixed known46) (L := jnL) (loopsOk_of (bs := []) (by kernel_rfl) trivial) (fun _ => rfl) (by intro i qs r h; unfold qbh_enc13 at h; split at h <;> cases h <;> rfl)
    (by intro ls r h; unfold qbh_rec13 at h; split at h <;> cases h)
    (by intro n ls r h; unfold qbh_rec13 at h; split at h; exact (show _ = qbh_t13 (qbh_i13 n) _ _ _ _ _ _ _ from by kernel_rfl).trans h; cases h) (by rw [qbh_l13, sealF_eq])
def qbh_sh : StSh := ⟨⟨[0], [], []⟩, [.t (.st 44)], []⟩
def qbh_os : List StSh := [⟨⟨[0], [], []⟩, [.t .bool], []⟩]
def qbh_tr : Bool → Tr (Nat × List (TV U)) := fun x => .ret (0, [⟨.bool, x⟩])
def qbh_L : Nat → Option (Lift.Loop U) := fun n => bif Nat.beq n joinKey then some joinMark else bif Nat.beq n 3 then some qbh_lp3 else bif Nat.beq n 8 then some qbh_lp8 else bif Nat.beq n 13 then some qbh_lp13 else none
def qbh_enc : Nat → List (TV U) → Option (Bool)
  | 0, [⟨.bool, a0⟩] => some a0
  | _, _ => none
def qbh_dec : Bool → Nat × List (TV U) := fun x => (0, [⟨.bool, x⟩])
def qbh_in : List (TV U) → Option (Bool)
  | [⟨(.st 44), a0⟩] => qbh a0
  | _ => none
def qbh_md : Mode U := ⟨qbh_sh, [], qbh_os, fun ls => .get (qbh_in ls) qbh_tr⟩
theorem qbh_post : ModeOk kk env0 43 qbh_md :=
  fn_of (fn := Tryz.f43) qbh_enc qbh_dec (kitOk_of eqOk mixed known46) (by kernel_rfl) (L := qbh_L) (loopsOk_of (bs := [qbh_b3, qbh_b8, qbh_b13]) (by kernel_rfl) ⟨.inr ⟨_, by kernel_rfl, LoopOk.of_round (qbh_ok3)⟩, .inr ⟨_, by kernel_rfl, LoopOk.of_round (qbh_ok8)⟩, .inr ⟨_, by kernel_rfl, LoopOk.of_round (qbh_ok13)⟩, trivial⟩) (fun _ => rfl) (by intro i qs r h; unfold qbh_enc at h; split at h <;> cases h <;> rfl)
    (by intro ls r h; unfold qbh_in at h; split at h; rw [qbh, sealF_eq] at h; exact Eq.trans (by kernel_rfl) h; cases h)
def ms47 : List (FuncId × Mode U) := (43, qbh_md) :: ms46
theorem known47 : Known kk env0 (modesOf ms47) := known_cons (by kernel_rfl) qbh_post known46
def qbd_sh : StSh := ⟨⟨[0, 1, 2], [100000], []⟩, [.t (.st 78), .t (.int .i64), .ptr 100000 0], [.blk 3 [.t (.int .i64)]]⟩
def qbd_os : List StSh := [⟨⟨[], [100000], []⟩, [], [.blk 3 [.t (.int .i64)]]⟩]
def qbd_tr : Int → Tr (Nat × List (TV U)) := fun x => .ret (0, [⟨(.int .i64), x⟩])
def qbd_enc : Nat → List (TV U) → Option (Int)
  | 0, [⟨(.int .i64), a0⟩] => some a0
  | _, _ => none
def qbd_dec : Int → Nat × List (TV U) := fun x => (0, [⟨(.int .i64), x⟩])
def qbd_in : List (TV U) → Option (Int)
  | [⟨(.st 78), a0⟩, ⟨(.int .i64), a1⟩, ⟨(.int .i64), a2⟩] => qbd a0 a1 a2
  | _ => none
def qbd_md : Mode U := ⟨qbd_sh, [⟨100000, .slot 2, []⟩], qbd_os, fun ls => .get (qbd_in ls) qbd_tr⟩
theorem qbd_post : ModeOk kk env0 62 qbd_md :=
  fn_of (fn := Tryz.f62) qbd_enc qbd_dec (kitOk_of eqOk mixed known47) (by kernel_rfl) (L := jnL) (loopsOk_of (bs := []) (by kernel_rfl) trivial) (fun _ => rfl) (by intro i qs r h; unfold qbd_enc at h; split at h <;> cases h <;> rfl)
    (by intro ls r h; unfold qbd_in at h; split at h; rw [qbd, sealF_eq] at h; exact Eq.trans (by kernel_rfl) h; cases h)
def ms48 : List (FuncId × Mode U) := (62, qbd_md) :: ms47
theorem known48 : Known kk env0 (modesOf ms48) := known_cons (by kernel_rfl) qbd_post known47
def qbe_sh : StSh := ⟨⟨[0, 1, 2], [100000], []⟩, [.t (.st 57), .t (.int .i64), .ptr 100000 0], [.blk 3 [.t (.int .i64)]]⟩
def qbe_os : List StSh := [⟨⟨[], [100000], []⟩, [], [.blk 3 [.t (.int .i64)]]⟩]
def qbe_tr : Int → Tr (Nat × List (TV U)) := fun x => .ret (0, [⟨(.int .i64), x⟩])
def qbe_enc : Nat → List (TV U) → Option (Int)
  | 0, [⟨(.int .i64), a0⟩] => some a0
  | _, _ => none
def qbe_dec : Int → Nat × List (TV U) := fun x => (0, [⟨(.int .i64), x⟩])
def qbe_in : List (TV U) → Option (Int)
  | [⟨(.st 57), a0⟩, ⟨(.int .i64), a1⟩, ⟨(.int .i64), a2⟩] => qbe a0 a1 a2
  | _ => none
def qbe_md : Mode U := ⟨qbe_sh, [⟨100000, .slot 2, []⟩], qbe_os, fun ls => .get (qbe_in ls) qbe_tr⟩
theorem qbe_post : ModeOk kk env0 63 qbe_md :=
  fn_of (fn := Tryz.f63) qbe_enc qbe_dec (kitOk_of eqOk mixed known48) (by kernel_rfl) (L := jnL) (loopsOk_of (bs := []) (by kernel_rfl) trivial) (fun _ => rfl) (by intro i qs r h; unfold qbe_enc at h; split at h <;> cases h <;> rfl)
    (by intro ls r h; unfold qbe_in at h; split at h; rw [qbe, sealF_eq] at h; exact Eq.trans (by kernel_rfl) h; cases h)
def ms49 : List (FuncId × Mode U) := (63, qbe_md) :: ms48
theorem known49 : Known kk env0 (modesOf ms49) := known_cons (by kernel_rfl) qbe_post known48
def qad_sh : StSh := ⟨⟨[0, 1, 2], [100000], []⟩, [.agg [.clo 62 [.ptr 100000 0], .clo 63 [.ptr 100000 0]], .t (.st 57), .t (.int .i64)], [.blk 3 [.t (.int .i64)]]⟩
def qad_os : List StSh := [⟨⟨[], [100000], []⟩, [], [.blk 3 [.t (.int .i64)]]⟩]
def qad_tr : Int → Tr (Nat × List (TV U)) := fun x => .ret (0, [⟨(.int .i64), x⟩])
def qad_in (rec_qad : TExpr → Int → Int → Option (Int)) : List (TV U) → Option (Int)
  | [⟨(.st 57), a0⟩, ⟨(.int .i64), a1⟩, ⟨(.int .i64), a2⟩] => rec_qad a0 a1 a2
  | _ => none
def qad_rmd (rec_qad : TExpr → Int → Int → Option (Int)) : Mode U := ⟨qad_sh, [⟨100000, .slot 0, [0, 0]⟩], qad_os, fun ls => .get (qad_in rec_qad ls) qad_tr⟩
def ms50 (rec_qad : TExpr → Int → Int → Option (Int)) : List (FuncId × Mode U) := (77, (qad_rmd rec_qad)) :: ms49
theorem known50 (rec_qad : TExpr → Int → Int → Option (Int)) (hrec_qad : ModeOk kk env0 77 (qad_rmd rec_qad)) : Known kk env0 (modesOf (ms50 rec_qad)) := known_cons (by kernel_rfl) hrec_qad known49
def qad_sh3 : StSh := ⟨⟨[2, 3, 14, 15, 16], [100000, 3], []⟩, [.t (.int .i64), .ptr 3 0, .t (.slc (.st 57)), .t (.int .i64), .t (.int .i64)], [.blk 3 [.t (.int .i64)], .blk 111 [.clo 62 [.ptr 100000 0], .clo 63 [.ptr 100000 0]]]⟩
def qad_o3 : List Out := [⟨.exit 0, ⟨⟨[], [100000], []⟩, [], [.blk 3 [.t (.int .i64)]]⟩⟩]
def qad_b3 : Code := (nthLoop (bodyOf Tryz.f77) 0)
def qad_rec3 (rec : Int → List (TExpr) → Int → Int → Int → Option (Int)) : List (TV U) → Option (Int)
  | [⟨(.int .i64), a0⟩, ⟨(.slc (.st 57)), a1⟩, ⟨(.int .i64), a2⟩, ⟨(.int .i64), a3⟩, ⟨(.int .i64), a4⟩] => rec a0 a1 a2 a3 a4
  | _ => none
def qad_enc3 : Nat → List (TV U) → Option (Int)
  | 0, [⟨(.int .i64), a0⟩] => some a0
  | _, _ => none
def qad_dec3 : Int → Nat × List (TV U) := fun x => (0, [⟨(.int .i64), x⟩])
def qad_tr3 : Int → Tr (Nat × List (TV U)) := fun x => .ret (0, [⟨(.int .i64), x⟩])
def qad_lp3 (rec_qad : TExpr → Int → Int → Option (Int)) : Lift.Loop U := ⟨qad_sh3, qad_o3, fun ls => .get (qad_rec3 (qad_l3 rec_qad) ls) qad_tr3⟩
theorem qad_ok3 (rec_qad : TExpr → Int → Int → Option (Int)) (hrec_qad : ModeOk kk env0 77 (qad_rmd rec_qad)) : LoopR kk env0 Tryz.f77.ntmps qad_b3 (qad_lp3 rec_qad) :=
  loop_of qad_enc3 qad_dec3 (fun n => qad_rec3 (qad_i3 rec_qad n)) (kitOk_of eqOk mixed (known50 rec_qad hrec_qad)) (L := jnL) (loopsOk_of (bs := []) (by kernel_rfl) trivial) (fun _ => rfl) (by intro i qs r h; unfold qad_enc3 at h; split at h <;> cases h <;> rfl)
    (by intro ls r h; unfold qad_rec3 at h; split at h <;> cases h)
    (by intro n ls r h; unfold qad_rec3 at h; split at h; exact (show _ = qad_t3 rec_qad (qad_i3 rec_qad n) _ _ _ _ _ from by kernel_rfl).trans h; cases h) (by rw [qad_l3, sealF_eq])
def qad_L (rec_qad : TExpr → Int → Int → Option (Int)) : Nat → Option (Lift.Loop U) := fun n => bif Nat.beq n joinKey then some joinMark else bif Nat.beq n 3 then some (qad_lp3 rec_qad) else none
def qad_enc : Nat → List (TV U) → Option (Int)
  | 0, [⟨(.int .i64), a0⟩] => some a0
  | _, _ => none
def qad_dec : Int → Nat × List (TV U) := fun x => (0, [⟨(.int .i64), x⟩])
def qad_md : Mode U := qad_rmd qad
theorem qad_step (rec_qad : TExpr → Int → Int → Option (Int)) (hrec_qad : ModeOk kk env0 77 (qad_rmd rec_qad)) : LoopsOk (Kit.withModes kk (modesOf (ms50 rec_qad))) env0 Tryz.f77.ntmps (qad_L rec_qad) (bodyOf Tryz.f77) := loopsOk_of (bs := [qad_b3]) (by kernel_rfl) ⟨.inr ⟨_, by kernel_rfl, LoopOk.of_round (qad_ok3 rec_qad hrec_qad)⟩, trivial⟩
theorem qad_post : ModeOk kk env0 77 (qad_rmd qad) :=
  rec_of (K := kk) (F := qad) qad_rmd qad_i (by rw [qad, sealF_eq]) (rec_zero (by intro ls r h; unfold qad_in at h; split at h <;> cases h)) (fun n ih => fn_of (fn := Tryz.f77) qad_enc qad_dec (kitOk_of eqOk mixed (known50 (qad_i n) ih)) (by kernel_rfl) (qad_step (qad_i n) ih) (fun _ => rfl) (by intro i qs r h; unfold qad_enc at h; split at h <;> cases h <;> rfl)
    (by intro ls r h; unfold qad_in at h; split at h; exact (show _ = qad_f (qad_i n) _ _ _ from by kernel_rfl).trans h; cases h))
def ms51 : List (FuncId × Mode U) := (77, qad_md) :: ms49
theorem known51 : Known kk env0 (modesOf ms51) := known_cons (by kernel_rfl) qad_post known49
def qaj_sh : StSh := ⟨⟨[0, 1, 2], [100000], []⟩, [.agg [.clo 62 [.ptr 100000 0], .clo 63 [.ptr 100000 0]], .t (.slc (.st 78)), .t (.int .i64)], [.blk 3 [.t (.int .i64)]]⟩
def qaj_os : List StSh := [⟨⟨[], [100000], []⟩, [], [.blk 3 [.t (.int .i64)]]⟩]
def qaj_tr : Int → Tr (Nat × List (TV U)) := fun x => .ret (0, [⟨(.int .i64), x⟩])
def qaj_in (rec_qaj : List (TStmt) → Int → Int → Option (Int)) : List (TV U) → Option (Int)
  | [⟨(.slc (.st 78)), a0⟩, ⟨(.int .i64), a1⟩, ⟨(.int .i64), a2⟩] => rec_qaj a0 a1 a2
  | _ => none
def qaj_rmd (rec_qaj : List (TStmt) → Int → Int → Option (Int)) : Mode U := ⟨qaj_sh, [⟨100000, .slot 0, [0, 0]⟩], qaj_os, fun ls => .get (qaj_in rec_qaj ls) qaj_tr⟩
def ms52 (rec_qaj : List (TStmt) → Int → Int → Option (Int)) : List (FuncId × Mode U) := (73, (qaj_rmd rec_qaj)) :: ms51
theorem known52 (rec_qaj : List (TStmt) → Int → Int → Option (Int)) (hrec_qaj : ModeOk kk env0 73 (qaj_rmd rec_qaj)) : Known kk env0 (modesOf (ms52 rec_qaj)) := known_cons (by kernel_rfl) hrec_qaj known51
def qaj_sh2 : StSh := ⟨⟨[2, 3, 8, 9, 10], [100000, 3], []⟩, [.t (.int .i64), .ptr 3 0, .t (.slc (.st 78)), .t (.int .i64), .t (.int .i64)], [.blk 3 [.t (.int .i64)], .blk 111 [.clo 62 [.ptr 100000 0], .clo 63 [.ptr 100000 0]]]⟩
def qaj_o2 : List Out := [⟨.exit 0, ⟨⟨[], [100000], []⟩, [], [.blk 3 [.t (.int .i64)]]⟩⟩]
def qaj_b2 : Code := (nthLoop (bodyOf Tryz.f73) 0)
def qaj_rec2 (rec : Int → List (TStmt) → Int → Int → Int → Option (Int)) : List (TV U) → Option (Int)
  | [⟨(.int .i64), a0⟩, ⟨(.slc (.st 78)), a1⟩, ⟨(.int .i64), a2⟩, ⟨(.int .i64), a3⟩, ⟨(.int .i64), a4⟩] => rec a0 a1 a2 a3 a4
  | _ => none
def qaj_enc2 : Nat → List (TV U) → Option (Int)
  | 0, [⟨(.int .i64), a0⟩] => some a0
  | _, _ => none
def qaj_dec2 : Int → Nat × List (TV U) := fun x => (0, [⟨(.int .i64), x⟩])
def qaj_tr2 : Int → Tr (Nat × List (TV U)) := fun x => .ret (0, [⟨(.int .i64), x⟩])
def qaj_lp2 (rec_qaj : List (TStmt) → Int → Int → Option (Int)) : Lift.Loop U := ⟨qaj_sh2, qaj_o2, fun ls => .get (qaj_rec2 (qaj_l2 rec_qaj) ls) qaj_tr2⟩
theorem qaj_ok2 (rec_qaj : List (TStmt) → Int → Int → Option (Int)) (hrec_qaj : ModeOk kk env0 73 (qaj_rmd rec_qaj)) : LoopR kk env0 Tryz.f73.ntmps qaj_b2 (qaj_lp2 rec_qaj) :=
  loop_of qaj_enc2 qaj_dec2 (fun n => qaj_rec2 (qaj_i2 rec_qaj n)) (kitOk_of eqOk mixed (known52 rec_qaj hrec_qaj)) (L := jnL) (loopsOk_of (bs := []) (by kernel_rfl) trivial) (fun _ => rfl) (by intro i qs r h; unfold qaj_enc2 at h; split at h <;> cases h <;> rfl)
    (by intro ls r h; unfold qaj_rec2 at h; split at h <;> cases h)
    (by intro n ls r h; unfold qaj_rec2 at h; split at h; exact (show _ = qaj_t2 rec_qaj (qaj_i2 rec_qaj n) _ _ _ _ _ from by kernel_rfl).trans h; cases h) (by rw [qaj_l2, sealF_eq])
def qaj_L (rec_qaj : List (TStmt) → Int → Int → Option (Int)) : Nat → Option (Lift.Loop U) := fun n => bif Nat.beq n joinKey then some joinMark else bif Nat.beq n 2 then some (qaj_lp2 rec_qaj) else none
def qaj_enc : Nat → List (TV U) → Option (Int)
  | 0, [⟨(.int .i64), a0⟩] => some a0
  | _, _ => none
def qaj_dec : Int → Nat × List (TV U) := fun x => (0, [⟨(.int .i64), x⟩])
def qaj_md : Mode U := qaj_rmd qaj
theorem qaj_step (rec_qaj : List (TStmt) → Int → Int → Option (Int)) (hrec_qaj : ModeOk kk env0 73 (qaj_rmd rec_qaj)) : LoopsOk (Kit.withModes kk (modesOf (ms52 rec_qaj))) env0 Tryz.f73.ntmps (qaj_L rec_qaj) (bodyOf Tryz.f73) := loopsOk_of (bs := [qaj_b2]) (by kernel_rfl) ⟨.inr ⟨_, by kernel_rfl, LoopOk.of_round (qaj_ok2 rec_qaj hrec_qaj)⟩, trivial⟩
theorem qaj_post : ModeOk kk env0 73 (qaj_rmd qaj) :=
  rec_of (K := kk) (F := qaj) qaj_rmd qaj_i (by rw [qaj, sealF_eq]) (rec_zero (by intro ls r h; unfold qaj_in at h; split at h <;> cases h)) (fun n ih => fn_of (fn := Tryz.f73) qaj_enc qaj_dec (kitOk_of eqOk mixed (known52 (qaj_i n) ih)) (by kernel_rfl) (qaj_step (qaj_i n) ih) (fun _ => rfl) (by intro i qs r h; unfold qaj_enc at h; split at h <;> cases h <;> rfl)
    (by intro ls r h; unfold qaj_in at h; split at h; exact (show _ = qaj_f (qaj_i n) _ _ _ from by kernel_rfl).trans h; cases h))
def ms53 : List (FuncId × Mode U) := (73, qaj_md) :: ms51
theorem known53 : Known kk env0 (modesOf ms53) := known_cons (by kernel_rfl) qaj_post known51
def qag_sh2 : StSh := ⟨⟨[2, 7, 8, 9], [100000, 2], []⟩, [.ptr 2 0, .t (.slc (.st 53)), .t (.int .i64), .t (.int .i64)], [.blk 3 [.t (.int .i64)], .blk 111 [.clo 62 [.ptr 100000 0], .clo 63 [.ptr 100000 0]]]⟩
def qag_o2 : List Out := [⟨.exit 0, ⟨⟨[], [100000], []⟩, [], [.blk 3 [.t (.int .i64)]]⟩⟩]
def qag_b2 : Code := (nthLoop (bodyOf Tryz.f61) 0)
def qag_rec2 (rec : List (TThread) → Int → Int → Int → Option (Int)) : List (TV U) → Option (Int)
  | [⟨(.slc (.st 53)), a0⟩, ⟨(.int .i64), a1⟩, ⟨(.int .i64), a2⟩, ⟨(.int .i64), a3⟩] => rec a0 a1 a2 a3
  | _ => none
def qag_enc2 : Nat → List (TV U) → Option (Int)
  | 0, [⟨(.int .i64), a0⟩] => some a0
  | _, _ => none
def qag_dec2 : Int → Nat × List (TV U) := fun x => (0, [⟨(.int .i64), x⟩])
def qag_tr2 : Int → Tr (Nat × List (TV U)) := fun x => .ret (0, [⟨(.int .i64), x⟩])
def qag_lp2 : Lift.Loop U := ⟨qag_sh2, qag_o2, fun ls => .get (qag_rec2 qag_l2 ls) qag_tr2⟩
theorem qag_ok2 : LoopR kk env0 Tryz.f61.ntmps qag_b2 qag_lp2 :=
  loop_of qag_enc2 qag_dec2 (fun n => qag_rec2 (qag_i2 n)) (kitOk_of eqOk mixed known53) (L := jnL) (loopsOk_of (bs := []) (by kernel_rfl) trivial) (fun _ => rfl) (by intro i qs r h; unfold qag_enc2 at h; split at h <;> cases h <;> rfl)
    (by intro ls r h; unfold qag_rec2 at h; split at h <;> cases h)
    (by intro n ls r h; unfold qag_rec2 at h; split at h; exact (show _ = qag_t2 (qag_i2 n) _ _ _ _ from by kernel_rfl).trans h; cases h) (by rw [qag_l2, sealF_eq])
def qag_sh : StSh := ⟨⟨[0, 1], [100000], []⟩, [.agg [.clo 62 [.ptr 100000 0], .clo 63 [.ptr 100000 0]], .t (.st 44)], [.blk 3 [.t (.int .i64)]]⟩
def qag_os : List StSh := [⟨⟨[], [100000], []⟩, [], [.blk 3 [.t (.int .i64)]]⟩]
def qag_tr : Int → Tr (Nat × List (TV U)) := fun x => .ret (0, [⟨(.int .i64), x⟩])
def qag_L : Nat → Option (Lift.Loop U) := fun n => bif Nat.beq n joinKey then some joinMark else bif Nat.beq n 2 then some qag_lp2 else none
def qag_enc : Nat → List (TV U) → Option (Int)
  | 0, [⟨(.int .i64), a0⟩] => some a0
  | _, _ => none
def qag_dec : Int → Nat × List (TV U) := fun x => (0, [⟨(.int .i64), x⟩])
def qag_in : List (TV U) → Option (Int)
  | [⟨(.st 44), a0⟩, ⟨(.int .i64), a1⟩] => qag a0 a1
  | _ => none
def qag_md : Mode U := ⟨qag_sh, [⟨100000, .slot 0, [0, 0]⟩], qag_os, fun ls => .get (qag_in ls) qag_tr⟩
theorem qag_post : ModeOk kk env0 61 qag_md :=
  fn_of (fn := Tryz.f61) qag_enc qag_dec (kitOk_of eqOk mixed known53) (by kernel_rfl) (L := qag_L) (loopsOk_of (bs := [qag_b2]) (by kernel_rfl) ⟨.inr ⟨_, by kernel_rfl, LoopOk.of_round (qag_ok2)⟩, trivial⟩) (fun _ => rfl) (by intro i qs r h; unfold qag_enc at h; split at h <;> cases h <;> rfl)
    (by intro ls r h; unfold qag_in at h; split at h; rw [qag, sealF_eq] at h; exact Eq.trans (by kernel_rfl) h; cases h)
def ms54 : List (FuncId × Mode U) := (61, qag_md) :: ms53
theorem known54 : Known kk env0 (modesOf ms54) := known_cons (by kernel_rfl) qag_post known53
def qbc_sh : StSh := ⟨⟨[0], [], []⟩, [.t (.st 44)], []⟩
def qbc_os : List StSh := [⟨⟨[0], [], []⟩, [.t (.int .i64)], []⟩]
def qbc_tr : Int → Tr (Nat × List (TV U)) := fun x => .ret (0, [⟨(.int .i64), x⟩])
def qbc_enc : Nat → List (TV U) → Option (Int)
  | 0, [⟨(.int .i64), a0⟩] => some a0
  | _, _ => none
def qbc_dec : Int → Nat × List (TV U) := fun x => (0, [⟨(.int .i64), x⟩])
def qbc_in : List (TV U) → Option (Int)
  | [⟨(.st 44), a0⟩] => qbc a0
  | _ => none
def qbc_md : Mode U := ⟨qbc_sh, [], qbc_os, fun ls => .get (qbc_in ls) qbc_tr⟩
theorem qbc_post : ModeOk kk env0 44 qbc_md :=
  fn_of (fn := Tryz.f44) qbc_enc qbc_dec (kitOk_of eqOk mixed known54) (by kernel_rfl) (L := jnL) (loopsOk_of (bs := []) (by kernel_rfl) trivial) (fun _ => rfl) (by intro i qs r h; unfold qbc_enc at h; split at h <;> cases h <;> rfl)
    (by intro ls r h; unfold qbc_in at h; split at h; rw [qbc, sealF_eq] at h; exact Eq.trans (by kernel_rfl) h; cases h)
def ms55 : List (FuncId × Mode U) := (44, qbc_md) :: ms54
theorem known55 : Known kk env0 (modesOf ms55) := known_cons (by kernel_rfl) qbc_post known54
def qba_sh : StSh := ⟨⟨[0, 1, 2], [100000], []⟩, [.t (.st 78), .t (.int .i64), .ptr 100000 0], [.blk 3 [.t (.int .i64)]]⟩
def qba_os : List StSh := [⟨⟨[], [100000], []⟩, [], [.blk 3 [.t (.int .i64)]]⟩]
def qba_tr : Int → Tr (Nat × List (TV U)) := fun x => .ret (0, [⟨(.int .i64), x⟩])
def qba_enc : Nat → List (TV U) → Option (Int)
  | 0, [⟨(.int .i64), a0⟩] => some a0
  | _, _ => none
def qba_dec : Int → Nat × List (TV U) := fun x => (0, [⟨(.int .i64), x⟩])
def qba_in : List (TV U) → Option (Int)
  | [⟨(.st 78), a0⟩, ⟨(.int .i64), a1⟩, ⟨(.int .i64), a2⟩] => qba a0 a1 a2
  | _ => none
def qba_md : Mode U := ⟨qba_sh, [⟨100000, .slot 2, []⟩], qba_os, fun ls => .get (qba_in ls) qba_tr⟩
theorem qba_post : ModeOk kk env0 64 qba_md :=
  fn_of (fn := Tryz.f64) qba_enc qba_dec (kitOk_of eqOk mixed known55) (by kernel_rfl) (L := jnL) (loopsOk_of (bs := []) (by kernel_rfl) trivial) (fun _ => rfl) (by intro i qs r h; unfold qba_enc at h; split at h <;> cases h <;> rfl)
    (by intro ls r h; unfold qba_in at h; split at h; rw [qba, sealF_eq] at h; exact Eq.trans (by kernel_rfl) h; cases h)
def ms56 : List (FuncId × Mode U) := (64, qba_md) :: ms55
theorem known56 : Known kk env0 (modesOf ms56) := known_cons (by kernel_rfl) qba_post known55
def qbb_sh : StSh := ⟨⟨[0, 1, 2], [100000], []⟩, [.t (.st 57), .t (.int .i64), .ptr 100000 0], [.blk 3 [.t (.int .i64)]]⟩
def qbb_os : List StSh := [⟨⟨[], [100000], []⟩, [], [.blk 3 [.t (.int .i64)]]⟩]
def qbb_tr : Int → Tr (Nat × List (TV U)) := fun x => .ret (0, [⟨(.int .i64), x⟩])
def qbb_enc : Nat → List (TV U) → Option (Int)
  | 0, [⟨(.int .i64), a0⟩] => some a0
  | _, _ => none
def qbb_dec : Int → Nat × List (TV U) := fun x => (0, [⟨(.int .i64), x⟩])
def qbb_in : List (TV U) → Option (Int)
  | [⟨(.st 57), a0⟩, ⟨(.int .i64), a1⟩, ⟨(.int .i64), a2⟩] => qbb a0 a1 a2
  | _ => none
def qbb_md : Mode U := ⟨qbb_sh, [⟨100000, .slot 2, []⟩], qbb_os, fun ls => .get (qbb_in ls) qbb_tr⟩
theorem qbb_post : ModeOk kk env0 65 qbb_md :=
  fn_of (fn := Tryz.f65) qbb_enc qbb_dec (kitOk_of eqOk mixed known56) (by kernel_rfl) (L := jnL) (loopsOk_of (bs := []) (by kernel_rfl) trivial) (fun _ => rfl) (by intro i qs r h; unfold qbb_enc at h; split at h <;> cases h <;> rfl)
    (by intro ls r h; unfold qbb_in at h; split at h; rw [qbb, sealF_eq] at h; exact Eq.trans (by kernel_rfl) h; cases h)
def ms57 : List (FuncId × Mode U) := (65, qbb_md) :: ms56
theorem known57 : Known kk env0 (modesOf ms57) := known_cons (by kernel_rfl) qbb_post known56
def qae_sh : StSh := ⟨⟨[0, 1, 2], [100000], []⟩, [.agg [.clo 64 [.ptr 100000 0], .clo 65 [.ptr 100000 0]], .t (.st 57), .t (.int .i64)], [.blk 3 [.t (.int .i64)]]⟩
def qae_os : List StSh := [⟨⟨[], [100000], []⟩, [], [.blk 3 [.t (.int .i64)]]⟩]
def qae_tr : Int → Tr (Nat × List (TV U)) := fun x => .ret (0, [⟨(.int .i64), x⟩])
def qae_in (rec_qae : TExpr → Int → Int → Option (Int)) : List (TV U) → Option (Int)
  | [⟨(.st 57), a0⟩, ⟨(.int .i64), a1⟩, ⟨(.int .i64), a2⟩] => rec_qae a0 a1 a2
  | _ => none
def qae_rmd (rec_qae : TExpr → Int → Int → Option (Int)) : Mode U := ⟨qae_sh, [⟨100000, .slot 0, [0, 0]⟩], qae_os, fun ls => .get (qae_in rec_qae ls) qae_tr⟩
def ms58 (rec_qae : TExpr → Int → Int → Option (Int)) : List (FuncId × Mode U) := (77, (qae_rmd rec_qae)) :: ms57
theorem known58 (rec_qae : TExpr → Int → Int → Option (Int)) (hrec_qae : ModeOk kk env0 77 (qae_rmd rec_qae)) : Known kk env0 (modesOf (ms58 rec_qae)) := known_cons (by kernel_rfl) hrec_qae known57
def qae_sh3 : StSh := ⟨⟨[2, 3, 14, 15, 16], [100000, 3], []⟩, [.t (.int .i64), .ptr 3 0, .t (.slc (.st 57)), .t (.int .i64), .t (.int .i64)], [.blk 3 [.t (.int .i64)], .blk 111 [.clo 64 [.ptr 100000 0], .clo 65 [.ptr 100000 0]]]⟩
def qae_o3 : List Out := [⟨.exit 0, ⟨⟨[], [100000], []⟩, [], [.blk 3 [.t (.int .i64)]]⟩⟩]
def qae_b3 : Code := (nthLoop (bodyOf Tryz.f77) 0)
def qae_rec3 (rec : Int → List (TExpr) → Int → Int → Int → Option (Int)) : List (TV U) → Option (Int)
  | [⟨(.int .i64), a0⟩, ⟨(.slc (.st 57)), a1⟩, ⟨(.int .i64), a2⟩, ⟨(.int .i64), a3⟩, ⟨(.int .i64), a4⟩] => rec a0 a1 a2 a3 a4
  | _ => none
def qae_enc3 : Nat → List (TV U) → Option (Int)
  | 0, [⟨(.int .i64), a0⟩] => some a0
  | _, _ => none
def qae_dec3 : Int → Nat × List (TV U) := fun x => (0, [⟨(.int .i64), x⟩])
def qae_tr3 : Int → Tr (Nat × List (TV U)) := fun x => .ret (0, [⟨(.int .i64), x⟩])
def qae_lp3 (rec_qae : TExpr → Int → Int → Option (Int)) : Lift.Loop U := ⟨qae_sh3, qae_o3, fun ls => .get (qae_rec3 (qae_l3 rec_qae) ls) qae_tr3⟩
theorem qae_ok3 (rec_qae : TExpr → Int → Int → Option (Int)) (hrec_qae : ModeOk kk env0 77 (qae_rmd rec_qae)) : LoopR kk env0 Tryz.f77.ntmps qae_b3 (qae_lp3 rec_qae) :=
  loop_of qae_enc3 qae_dec3 (fun n => qae_rec3 (qae_i3 rec_qae n)) (kitOk_of eqOk mixed (known58 rec_qae hrec_qae)) (L := jnL) (loopsOk_of (bs := []) (by kernel_rfl) trivial) (fun _ => rfl) (by intro i qs r h; unfold qae_enc3 at h; split at h <;> cases h <;> rfl)
    (by intro ls r h; unfold qae_rec3 at h; split at h <;> cases h)
    (by intro n ls r h; unfold qae_rec3 at h; split at h; exact (show _ = qae_t3 rec_qae (qae_i3 rec_qae n) _ _ _ _ _ from by kernel_rfl).trans h; cases h) (by rw [qae_l3, sealF_eq])
def qae_L (rec_qae : TExpr → Int → Int → Option (Int)) : Nat → Option (Lift.Loop U) := fun n => bif Nat.beq n joinKey then some joinMark else bif Nat.beq n 3 then some (qae_lp3 rec_qae) else none
def qae_enc : Nat → List (TV U) → Option (Int)
  | 0, [⟨(.int .i64), a0⟩] => some a0
  | _, _ => none
def qae_dec : Int → Nat × List (TV U) := fun x => (0, [⟨(.int .i64), x⟩])
def qae_md : Mode U := qae_rmd qae
theorem qae_step (rec_qae : TExpr → Int → Int → Option (Int)) (hrec_qae : ModeOk kk env0 77 (qae_rmd rec_qae)) : LoopsOk (Kit.withModes kk (modesOf (ms58 rec_qae))) env0 Tryz.f77.ntmps (qae_L rec_qae) (bodyOf Tryz.f77) := loopsOk_of (bs := [qae_b3]) (by kernel_rfl) ⟨.inr ⟨_, by kernel_rfl, LoopOk.of_round (qae_ok3 rec_qae hrec_qae)⟩, trivial⟩
theorem qae_post : ModeOk kk env0 77 (qae_rmd qae) :=
  rec_of (K := kk) (F := qae) qae_rmd qae_i (by rw [qae, sealF_eq]) (rec_zero (by intro ls r h; unfold qae_in at h; split at h <;> cases h)) (fun n ih => fn_of (fn := Tryz.f77) qae_enc qae_dec (kitOk_of eqOk mixed (known58 (qae_i n) ih)) (by kernel_rfl) (qae_step (qae_i n) ih) (fun _ => rfl) (by intro i qs r h; unfold qae_enc at h; split at h <;> cases h <;> rfl)
    (by intro ls r h; unfold qae_in at h; split at h; exact (show _ = qae_f (qae_i n) _ _ _ from by kernel_rfl).trans h; cases h))
def ms59 : List (FuncId × Mode U) := (77, qae_md) :: ms57
theorem known59 : Known kk env0 (modesOf ms59) := known_cons (by kernel_rfl) qae_post known57
def qak_sh : StSh := ⟨⟨[0, 1, 2], [100000], []⟩, [.agg [.clo 64 [.ptr 100000 0], .clo 65 [.ptr 100000 0]], .t (.slc (.st 78)), .t (.int .i64)], [.blk 3 [.t (.int .i64)]]⟩
def qak_os : List StSh := [⟨⟨[], [100000], []⟩, [], [.blk 3 [.t (.int .i64)]]⟩]
def qak_tr : Int → Tr (Nat × List (TV U)) := fun x => .ret (0, [⟨(.int .i64), x⟩])
def qak_in (rec_qak : List (TStmt) → Int → Int → Option (Int)) : List (TV U) → Option (Int)
  | [⟨(.slc (.st 78)), a0⟩, ⟨(.int .i64), a1⟩, ⟨(.int .i64), a2⟩] => rec_qak a0 a1 a2
  | _ => none
def qak_rmd (rec_qak : List (TStmt) → Int → Int → Option (Int)) : Mode U := ⟨qak_sh, [⟨100000, .slot 0, [0, 0]⟩], qak_os, fun ls => .get (qak_in rec_qak ls) qak_tr⟩
def ms60 (rec_qak : List (TStmt) → Int → Int → Option (Int)) : List (FuncId × Mode U) := (73, (qak_rmd rec_qak)) :: ms59
theorem known60 (rec_qak : List (TStmt) → Int → Int → Option (Int)) (hrec_qak : ModeOk kk env0 73 (qak_rmd rec_qak)) : Known kk env0 (modesOf (ms60 rec_qak)) := known_cons (by kernel_rfl) hrec_qak known59
def qak_sh2 : StSh := ⟨⟨[2, 3, 8, 9, 10], [100000, 3], []⟩, [.t (.int .i64), .ptr 3 0, .t (.slc (.st 78)), .t (.int .i64), .t (.int .i64)], [.blk 3 [.t (.int .i64)], .blk 111 [.clo 64 [.ptr 100000 0], .clo 65 [.ptr 100000 0]]]⟩
def qak_o2 : List Out := [⟨.exit 0, ⟨⟨[], [100000], []⟩, [], [.blk 3 [.t (.int .i64)]]⟩⟩]
def qak_b2 : Code := (nthLoop (bodyOf Tryz.f73) 0)
def qak_rec2 (rec : Int → List (TStmt) → Int → Int → Int → Option (Int)) : List (TV U) → Option (Int)
  | [⟨(.int .i64), a0⟩, ⟨(.slc (.st 78)), a1⟩, ⟨(.int .i64), a2⟩, ⟨(.int .i64), a3⟩, ⟨(.int .i64), a4⟩] => rec a0 a1 a2 a3 a4
  | _ => none
def qak_enc2 : Nat → List (TV U) → Option (Int)
  | 0, [⟨(.int .i64), a0⟩] => some a0
  | _, _ => none
def qak_dec2 : Int → Nat × List (TV U) := fun x => (0, [⟨(.int .i64), x⟩])
def qak_tr2 : Int → Tr (Nat × List (TV U)) := fun x => .ret (0, [⟨(.int .i64), x⟩])
def qak_lp2 (rec_qak : List (TStmt) → Int → Int → Option (Int)) : Lift.Loop U := ⟨qak_sh2, qak_o2, fun ls => .get (qak_rec2 (qak_l2 rec_qak) ls) qak_tr2⟩
theorem qak_ok2 (rec_qak : List (TStmt) → Int → Int → Option (Int)) (hrec_qak : ModeOk kk env0 73 (qak_rmd rec_qak)) : LoopR kk env0 Tryz.f73.ntmps qak_b2 (qak_lp2 rec_qak) :=
  loop_of qak_enc2 qak_dec2 (fun n => qak_rec2 (qak_i2 rec_qak n)) (kitOk_of eqOk mixed (known60 rec_qak hrec_qak)) (L := jnL) (loopsOk_of (bs := []) (by kernel_rfl) trivial) (fun _ => rfl) (by intro i qs r h; unfold qak_enc2 at h; split at h <;> cases h <;> rfl)
    (by intro ls r h; unfold qak_rec2 at h; split at h <;> cases h)
    (by intro n ls r h; unfold qak_rec2 at h; split at h; exact (show _ = qak_t2 rec_qak (qak_i2 rec_qak n) _ _ _ _ _ from by kernel_rfl).trans h; cases h) (by rw [qak_l2, sealF_eq])
def qak_L (rec_qak : List (TStmt) → Int → Int → Option (Int)) : Nat → Option (Lift.Loop U) := fun n => bif Nat.beq n joinKey then some joinMark else bif Nat.beq n 2 then some (qak_lp2 rec_qak) else none
def qak_enc : Nat → List (TV U) → Option (Int)
  | 0, [⟨(.int .i64), a0⟩] => some a0
  | _, _ => none
def qak_dec : Int → Nat × List (TV U) := fun x => (0, [⟨(.int .i64), x⟩])
def qak_md : Mode U := qak_rmd qak
theorem qak_step (rec_qak : List (TStmt) → Int → Int → Option (Int)) (hrec_qak : ModeOk kk env0 73 (qak_rmd rec_qak)) : LoopsOk (Kit.withModes kk (modesOf (ms60 rec_qak))) env0 Tryz.f73.ntmps (qak_L rec_qak) (bodyOf Tryz.f73) := loopsOk_of (bs := [qak_b2]) (by kernel_rfl) ⟨.inr ⟨_, by kernel_rfl, LoopOk.of_round (qak_ok2 rec_qak hrec_qak)⟩, trivial⟩
theorem qak_post : ModeOk kk env0 73 (qak_rmd qak) :=
  rec_of (K := kk) (F := qak) qak_rmd qak_i (by rw [qak, sealF_eq]) (rec_zero (by intro ls r h; unfold qak_in at h; split at h <;> cases h)) (fun n ih => fn_of (fn := Tryz.f73) qak_enc qak_dec (kitOk_of eqOk mixed (known60 (qak_i n) ih)) (by kernel_rfl) (qak_step (qak_i n) ih) (fun _ => rfl) (by intro i qs r h; unfold qak_enc at h; split at h <;> cases h <;> rfl)
    (by intro ls r h; unfold qak_in at h; split at h; exact (show _ = qak_f (qak_i n) _ _ _ from by kernel_rfl).trans h; cases h))
def ms61 : List (FuncId × Mode U) := (73, qak_md) :: ms59
theorem known61 : Known kk env0 (modesOf ms61) := known_cons (by kernel_rfl) qak_post known59
def qah_sh2 : StSh := ⟨⟨[2, 7, 8, 9], [100000, 2], []⟩, [.ptr 2 0, .t (.slc (.st 53)), .t (.int .i64), .t (.int .i64)], [.blk 3 [.t (.int .i64)], .blk 111 [.clo 64 [.ptr 100000 0], .clo 65 [.ptr 100000 0]]]⟩
def qah_o2 : List Out := [⟨.exit 0, ⟨⟨[], [100000], []⟩, [], [.blk 3 [.t (.int .i64)]]⟩⟩]
def qah_b2 : Code := (nthLoop (bodyOf Tryz.f61) 0)
def qah_rec2 (rec : List (TThread) → Int → Int → Int → Option (Int)) : List (TV U) → Option (Int)
  | [⟨(.slc (.st 53)), a0⟩, ⟨(.int .i64), a1⟩, ⟨(.int .i64), a2⟩, ⟨(.int .i64), a3⟩] => rec a0 a1 a2 a3
  | _ => none
def qah_enc2 : Nat → List (TV U) → Option (Int)
  | 0, [⟨(.int .i64), a0⟩] => some a0
  | _, _ => none
def qah_dec2 : Int → Nat × List (TV U) := fun x => (0, [⟨(.int .i64), x⟩])
def qah_tr2 : Int → Tr (Nat × List (TV U)) := fun x => .ret (0, [⟨(.int .i64), x⟩])
def qah_lp2 : Lift.Loop U := ⟨qah_sh2, qah_o2, fun ls => .get (qah_rec2 qah_l2 ls) qah_tr2⟩
theorem qah_ok2 : LoopR kk env0 Tryz.f61.ntmps qah_b2 qah_lp2 :=
  loop_of qah_enc2 qah_dec2 (fun n => qah_rec2 (qah_i2 n)) (kitOk_of eqOk mixed known61) (L := jnL) (loopsOk_of (bs := []) (by kernel_rfl) trivial) (fun _ => rfl) (by intro i qs r h; unfold qah_enc2 at h; split at h <;> cases h <;> rfl)
    (by intro ls r h; unfold qah_rec2 at h; split at h <;> cases h)
    (by intro n ls r h; unfold qah_rec2 at h; split at h; exact (show _ = qah_t2 (qah_i2 n) _ _ _ _ from by kernel_rfl).trans h; cases h) (by rw [qah_l2, sealF_eq])
def qah_sh : StSh := ⟨⟨[0, 1], [100000], []⟩, [.agg [.clo 64 [.ptr 100000 0], .clo 65 [.ptr 100000 0]], .t (.st 44)], [.blk 3 [.t (.int .i64)]]⟩
def qah_os : List StSh := [⟨⟨[], [100000], []⟩, [], [.blk 3 [.t (.int .i64)]]⟩]
def qah_tr : Int → Tr (Nat × List (TV U)) := fun x => .ret (0, [⟨(.int .i64), x⟩])
def qah_L : Nat → Option (Lift.Loop U) := fun n => bif Nat.beq n joinKey then some joinMark else bif Nat.beq n 2 then some qah_lp2 else none
def qah_enc : Nat → List (TV U) → Option (Int)
  | 0, [⟨(.int .i64), a0⟩] => some a0
  | _, _ => none
def qah_dec : Int → Nat × List (TV U) := fun x => (0, [⟨(.int .i64), x⟩])
def qah_in : List (TV U) → Option (Int)
  | [⟨(.st 44), a0⟩, ⟨(.int .i64), a1⟩] => qah a0 a1
  | _ => none
def qah_md : Mode U := ⟨qah_sh, [⟨100000, .slot 0, [0, 0]⟩], qah_os, fun ls => .get (qah_in ls) qah_tr⟩
theorem qah_post : ModeOk kk env0 61 qah_md :=
  fn_of (fn := Tryz.f61) qah_enc qah_dec (kitOk_of eqOk mixed known61) (by kernel_rfl) (L := qah_L) (loopsOk_of (bs := [qah_b2]) (by kernel_rfl) ⟨.inr ⟨_, by kernel_rfl, LoopOk.of_round (qah_ok2)⟩, trivial⟩) (fun _ => rfl) (by intro i qs r h; unfold qah_enc at h; split at h <;> cases h <;> rfl)
    (by intro ls r h; unfold qah_in at h; split at h; rw [qah, sealF_eq] at h; exact Eq.trans (by kernel_rfl) h; cases h)
def ms62 : List (FuncId × Mode U) := (61, qah_md) :: ms61
theorem known62 : Known kk env0 (modesOf ms62) := known_cons (by kernel_rfl) qah_post known61
def qa9_sh : StSh := ⟨⟨[0], [], []⟩, [.t (.st 44)], []⟩
def qa9_os : List StSh := [⟨⟨[0], [], []⟩, [.t (.int .i64)], []⟩]
def qa9_tr : Int → Tr (Nat × List (TV U)) := fun x => .ret (0, [⟨(.int .i64), x⟩])
def qa9_enc : Nat → List (TV U) → Option (Int)
  | 0, [⟨(.int .i64), a0⟩] => some a0
  | _, _ => none
def qa9_dec : Int → Nat × List (TV U) := fun x => (0, [⟨(.int .i64), x⟩])
def qa9_in : List (TV U) → Option (Int)
  | [⟨(.st 44), a0⟩] => qa9 a0
  | _ => none
def qa9_md : Mode U := ⟨qa9_sh, [], qa9_os, fun ls => .get (qa9_in ls) qa9_tr⟩
theorem qa9_post : ModeOk kk env0 45 qa9_md :=
  fn_of (fn := Tryz.f45) qa9_enc qa9_dec (kitOk_of eqOk mixed known62) (by kernel_rfl) (L := jnL) (loopsOk_of (bs := []) (by kernel_rfl) trivial) (fun _ => rfl) (by intro i qs r h; unfold qa9_enc at h; split at h <;> cases h <;> rfl)
    (by intro ls r h; unfold qa9_in at h; split at h; rw [qa9, sealF_eq] at h; exact Eq.trans (by kernel_rfl) h; cases h)
def ms63 : List (FuncId × Mode U) := (45, qa9_md) :: ms62
theorem known63 : Known kk env0 (modesOf ms63) := known_cons (by kernel_rfl) qa9_post known62
def qbf_sh : StSh := ⟨⟨[0], [], []⟩, [.t (.st 44)], []⟩
def qbf_os : List StSh := [⟨⟨[0], [], []⟩, [.t (.int .i64)], []⟩]
def qbf_tr : Int → Tr (Nat × List (TV U)) := fun x => .ret (0, [⟨(.int .i64), x⟩])
def qbf_enc : Nat → List (TV U) → Option (Int)
  | 0, [⟨(.int .i64), a0⟩] => some a0
  | _, _ => none
def qbf_dec : Int → Nat × List (TV U) := fun x => (0, [⟨(.int .i64), x⟩])
def qbf_in : List (TV U) → Option (Int)
  | [⟨(.st 44), a0⟩] => qbf a0
  | _ => none
def qbf_md : Mode U := ⟨qbf_sh, [], qbf_os, fun ls => .get (qbf_in ls) qbf_tr⟩
theorem qbf_post : ModeOk kk env0 34 qbf_md :=
  fn_of (fn := Tryz.f34) qbf_enc qbf_dec (kitOk_of eqOk mixed known63) (by kernel_rfl) (L := jnL) (loopsOk_of (bs := []) (by kernel_rfl) trivial) (fun _ => rfl) (by intro i qs r h; unfold qbf_enc at h; split at h <;> cases h <;> rfl)
    (by intro ls r h; unfold qbf_in at h; split at h; rw [qbf, sealF_eq] at h; exact Eq.trans (by kernel_rfl) h; cases h)
def ms64 : List (FuncId × Mode U) := (34, qbf_md) :: ms63
theorem known64 : Known kk env0 (modesOf ms64) := known_cons (by kernel_rfl) qbf_post known63
def qal_sh5 : StSh := ⟨⟨[1, 3, 45, 46, 47], [1, 3], [⟨.cell 3 0, 20150, 9, .str⟩, ⟨.cell 3 1, 20151, 9, .str⟩, ⟨.cell 3 2, 20152, 9, .str⟩, ⟨.cell 3 3, 20153, 41, (.own 9 .str)⟩]⟩, [.ptr 1 0, .ptr 3 0, .t (.slc (.st 51)), .t (.int .i64), .t (.int .i64)], [.blk 25 [.t (.slc (.int .i64)), .t (.int .i64), .t (.slc (.st 51))], .blk 88 [.oslc 20150, .oslc 20151, .oslc 20152, .oslc 20153], .row 9 .str, .row 9 .str, .row 9 .str, .row 41 (.own 9 .str)]⟩
def qal_o5 : List Out := [⟨.ret, ⟨⟨[2], [], []⟩, [.t .bool], []⟩⟩, ⟨.exit 0, ⟨⟨[1, 3], [1, 3], [⟨.cell 3 0, 20150, 9, .str⟩, ⟨.cell 3 1, 20151, 9, .str⟩, ⟨.cell 3 2, 20152, 9, .str⟩, ⟨.cell 3 3, 20153, 41, (.own 9 .str)⟩]⟩, [.ptr 1 0, .ptr 3 0], [.blk 25 [.t (.slc (.int .i64)), .t (.int .i64), .t (.slc (.st 51))], .blk 88 [.oslc 20150, .oslc 20151, .oslc 20152, .oslc 20153], .row 9 .str, .row 9 .str, .row 9 .str, .row 41 (.own 9 .str)]⟩⟩]
def qal_b5 : Code := (nthLoop (bodyOf Tryz.f18) 0)
def qal_rec5 (rec : List (TBody) → Int → Int → List (Int) → Int → List (TBody) → List (List UInt8) → List (List UInt8) → List (List UInt8) → List (List (List UInt8)) → Option ((Bool) ⊕ ((List (Int)) × Int × (List (TBody)) × (List (List UInt8)) × (List (List UInt8)) × (List (List UInt8)) × (List (List (List UInt8)))))) : List (TV U) → Option ((Bool) ⊕ ((List (Int)) × Int × (List (TBody)) × (List (List UInt8)) × (List (List UInt8)) × (List (List UInt8)) × (List (List (List UInt8)))))
  | [⟨(.slc (.st 51)), a0⟩, ⟨(.int .i64), a1⟩, ⟨(.int .i64), a2⟩, ⟨(.slc (.int .i64)), a3⟩, ⟨(.int .i64), a4⟩, ⟨(.slc (.st 51)), a5⟩, ⟨(.slc .str), a6⟩, ⟨(.slc .str), a7⟩, ⟨(.slc .str), a8⟩, ⟨(.slc (.own 9 .str)), a9⟩] => rec a0 a1 a2 a3 a4 a5 a6 a7 a8 a9
  | _ => none
def qal_enc5 : Nat → List (TV U) → Option ((Bool) ⊕ ((List (Int)) × Int × (List (TBody)) × (List (List UInt8)) × (List (List UInt8)) × (List (List UInt8)) × (List (List (List UInt8)))))
  | 0, [⟨.bool, a0⟩] => some (.inl a0)
  | 1, [⟨(.slc (.int .i64)), a0⟩, ⟨(.int .i64), a1⟩, ⟨(.slc (.st 51)), a2⟩, ⟨(.slc .str), a3⟩, ⟨(.slc .str), a4⟩, ⟨(.slc .str), a5⟩, ⟨(.slc (.own 9 .str)), a6⟩] => some (.inr (a0, a1, a2, a3, a4, a5, a6))
  | _, _ => none
def qal_dec5 : (Bool) ⊕ ((List (Int)) × Int × (List (TBody)) × (List (List UInt8)) × (List (List UInt8)) × (List (List UInt8)) × (List (List (List UInt8)))) → Nat × List (TV U) := fun r => match r with | (.inl x) => (0, [⟨.bool, x⟩]) | (.inr x) => (1, [⟨(.slc (.int .i64)), x.1⟩, ⟨(.int .i64), x.2.1⟩, ⟨(.slc (.st 51)), x.2.2.1⟩, ⟨(.slc .str), x.2.2.2.1⟩, ⟨(.slc .str), x.2.2.2.2.1⟩, ⟨(.slc .str), x.2.2.2.2.2.1⟩, ⟨(.slc (.own 9 .str)), x.2.2.2.2.2.2⟩])
def qal_tr5 : (Bool) ⊕ ((List (Int)) × Int × (List (TBody)) × (List (List UInt8)) × (List (List UInt8)) × (List (List UInt8)) × (List (List (List UInt8)))) → Tr (Nat × List (TV U)) := fun r => .alt r (fun x => .ret (0, [⟨.bool, x⟩])) (fun y => (fun x => .ret (1, [⟨(.slc (.int .i64)), x.1⟩, ⟨(.int .i64), x.2.1⟩, ⟨(.slc (.st 51)), x.2.2.1⟩, ⟨(.slc .str), x.2.2.2.1⟩, ⟨(.slc .str), x.2.2.2.2.1⟩, ⟨(.slc .str), x.2.2.2.2.2.1⟩, ⟨(.slc (.own 9 .str)), x.2.2.2.2.2.2⟩])) y)
def qal_lp5 : Lift.Loop U := ⟨qal_sh5, qal_o5, fun ls => .get (qal_rec5 qal_l5 ls) qal_tr5⟩
theorem qal_ok5 : LoopR kk env0 Tryz.f18.ntmps qal_b5 qal_lp5 :=
  loop_of qal_enc5 qal_dec5 (fun n => qal_rec5 (qal_i5 n)) (kitOk_of eqOk mixed known64) (L := jnL) (loopsOk_of (bs := []) (by kernel_rfl) trivial) (by intro r; rcases r with r | r <;> rfl) (by intro i qs r h; unfold qal_enc5 at h; split at h <;> cases h <;> rfl)
    (by intro ls r h; unfold qal_rec5 at h; split at h <;> cases h)
    (by intro n ls r h; unfold qal_rec5 at h; split at h; exact (show _ = qal_t5 (qal_i5 n) _ _ _ _ _ _ _ _ _ _ from by kernel_rfl).trans h; cases h) (by rw [qal_l5, sealF_eq])
def qal_sh : StSh := ⟨⟨[0], [], []⟩, [.t (.st 25)], []⟩
def qal_os : List StSh := [⟨⟨[0], [], []⟩, [.t .bool], []⟩]
def qal_tr : Bool → Tr (Nat × List (TV U)) := fun x => .ret (0, [⟨.bool, x⟩])
def qal_L : Nat → Option (Lift.Loop U) := fun n => bif Nat.beq n joinKey then some joinMark else bif Nat.beq n 5 then some qal_lp5 else none
def qal_enc : Nat → List (TV U) → Option (Bool)
  | 0, [⟨.bool, a0⟩] => some a0
  | _, _ => none
def qal_dec : Bool → Nat × List (TV U) := fun x => (0, [⟨.bool, x⟩])
def qal_in : List (TV U) → Option (Bool)
  | [⟨(.st 25), a0⟩] => qal a0
  | _ => none
def qal_md : Mode U := ⟨qal_sh, [], qal_os, fun ls => .get (qal_in ls) qal_tr⟩
theorem qal_post : ModeOk kk env0 18 qal_md :=
  fn_of (fn := Tryz.f18) qal_enc qal_dec (kitOk_of eqOk mixed known64) (by kernel_rfl) (L := qal_L) (loopsOk_of (bs := [qal_b5]) (by kernel_rfl) ⟨.inr ⟨_, by kernel_rfl, LoopOk.of_round (qal_ok5)⟩, trivial⟩) (fun _ => rfl) (by intro i qs r h; unfold qal_enc at h; split at h <;> cases h <;> rfl)
    (by intro ls r h; unfold qal_in at h; split at h; rw [qal, sealF_eq] at h; exact Eq.trans (by kernel_rfl) h; cases h)
def ms65 : List (FuncId × Mode U) := (18, qal_md) :: ms64
theorem known65 : Known kk env0 (modesOf ms65) := known_cons (by kernel_rfl) qal_post known64
def qa5_sh : StSh := ⟨⟨[0], [], []⟩, [.t (.slc (.int .i64))], []⟩
def qa5_os : List StSh := [⟨⟨[0], [], [⟨.slot 0, 100000, 3, (.int .i64)⟩]⟩, [.oslc 100000], [.row 3 (.int .i64)]⟩]
def qa5_tr : (List (Int)) → Tr (Nat × List (TV U)) := fun x => .ret (0, [⟨(.slc (.int .i64)), x⟩])
def qa5_enc : Nat → List (TV U) → Option ((List (Int)))
  | 0, [⟨(.slc (.int .i64)), a0⟩] => some a0
  | _, _ => none
def qa5_dec : (List (Int)) → Nat × List (TV U) := fun x => (0, [⟨(.slc (.int .i64)), x⟩])
def qa5_in : List (TV U) → Option ((List (Int)))
  | [⟨(.slc (.int .i64)), a0⟩] => qa5 a0
  | _ => none
def qa5_md : Mode U := ⟨qa5_sh, [], qa5_os, fun ls => .get (qa5_in ls) qa5_tr⟩
theorem qa5_post : ModeOk kk env0 20 qa5_md :=
  fn_of (fn := Tryz.f20) qa5_enc qa5_dec (kitOk_of eqOk mixed known65) (by kernel_rfl) (L := jnL) (loopsOk_of (bs := []) (by kernel_rfl) trivial) (fun _ => rfl) (by intro i qs r h; unfold qa5_enc at h; split at h <;> cases h <;> rfl)
    (by intro ls r h; unfold qa5_in at h; split at h; rw [qa5, sealF_eq] at h; exact Eq.trans (by kernel_rfl) h; cases h)
def ms66 : List (FuncId × Mode U) := (20, qa5_md) :: ms65
theorem known66 : Known kk env0 (modesOf ms66) := known_cons (by kernel_rfl) qa5_post known65
def qa3_sh : StSh := ⟨⟨[0], [], [⟨.slot 0, 0, 3, (.int .i64)⟩]⟩, [.oslc 0], [.row 3 (.int .i64)]⟩
def qa3_os : List StSh := [⟨⟨[0], [], [⟨.slot 0, 100000, 3, (.int .i64)⟩]⟩, [.oslc 100000], [.row 3 (.int .i64)]⟩]
def qa3_tr : (List (Int)) → Tr (Nat × List (TV U)) := fun x => .ret (0, [⟨(.slc (.int .i64)), x⟩])
def qa3_enc : Nat → List (TV U) → Option ((List (Int)))
  | 0, [⟨(.slc (.int .i64)), a0⟩] => some a0
  | _, _ => none
def qa3_dec : (List (Int)) → Nat × List (TV U) := fun x => (0, [⟨(.slc (.int .i64)), x⟩])
def qa3_in : List (TV U) → Option ((List (Int)))
  | [⟨(.slc (.int .i64)), a0⟩] => qa3 a0
  | _ => none
def qa3_md : Mode U := ⟨qa3_sh, [], qa3_os, fun ls => .get (qa3_in ls) qa3_tr⟩
theorem qa3_post : ModeOk kk env0 19 qa3_md :=
  fn_of (fn := Tryz.f19) qa3_enc qa3_dec (kitOk_of eqOk mixed known66) (by kernel_rfl) (L := jnL) (loopsOk_of (bs := []) (by kernel_rfl) trivial) (fun _ => rfl) (by intro i qs r h; unfold qa3_enc at h; split at h <;> cases h <;> rfl)
    (by intro ls r h; unfold qa3_in at h; split at h; rw [qa3, sealF_eq] at h; exact Eq.trans (by kernel_rfl) h; cases h)
def ms67 : List (FuncId × Mode U) := (19, qa3_md) :: ms66
theorem known67 : Known kk env0 (modesOf ms67) := known_cons (by kernel_rfl) qa3_post known66
def qaE_sh2 : StSh := ⟨⟨[0, 4, 9, 10, 11], [100000, 4], [⟨.cell 100000 2, 200002, 38, (.st 38)⟩]⟩, [.ptr 100000 0, .ptr 4 0, .t (.slc (.int .i64)), .t (.int .i64), .t (.int .i64)], [.blk 69 [.t (.int .i64), .t (.int .i64), .oslc 200002], .blk 38 [.t (.int .i64), .t (.int .i64), .t (.int .i64), .t (.int .i64)], .row 38 (.st 38)]⟩
def qaE_o2 : List Out := [⟨.exit 0, ⟨⟨[0, 4], [100000, 4], [⟨.cell 100000 2, 200002, 38, (.st 38)⟩]⟩, [.ptr 100000 0, .ptr 4 0], [.blk 69 [.t (.int .i64), .t (.int .i64), .oslc 200002], .blk 38 [.t (.int .i64), .t (.int .i64), .t (.int .i64), .t (.int .i64)], .row 38 (.st 38)]⟩⟩]
def qaE_b2 : Code := (nthLoop (bodyOf Tryz.f22) 0)
def qaE_rec2 (rec : List (Int) → Int → Int → Int → Int → Int → Int → Int → Int → List (Instr) → Option (Int × Int × Int × Int × Int × Int × (List (Instr)))) : List (TV U) → Option (Int × Int × Int × Int × Int × Int × (List (Instr)))
  | [⟨(.slc (.int .i64)), a0⟩, ⟨(.int .i64), a1⟩, ⟨(.int .i64), a2⟩, ⟨(.int .i64), a3⟩, ⟨(.int .i64), a4⟩, ⟨(.int .i64), a5⟩, ⟨(.int .i64), a6⟩, ⟨(.int .i64), a7⟩, ⟨(.int .i64), a8⟩, ⟨(.slc (.st 38)), a9⟩] => rec a0 a1 a2 a3 a4 a5 a6 a7 a8 a9
  | _ => none
def qaE_enc2 : Nat → List (TV U) → Option (Int × Int × Int × Int × Int × Int × (List (Instr)))
  | 0, [⟨(.int .i64), a0⟩, ⟨(.int .i64), a1⟩, ⟨(.int .i64), a2⟩, ⟨(.int .i64), a3⟩, ⟨(.int .i64), a4⟩, ⟨(.int .i64), a5⟩, ⟨(.slc (.st 38)), a6⟩] => some (a0, a1, a2, a3, a4, a5, a6)
  | _, _ => none
def qaE_dec2 : Int × Int × Int × Int × Int × Int × (List (Instr)) → Nat × List (TV U) := fun x => (0, [⟨(.int .i64), x.1⟩, ⟨(.int .i64), x.2.1⟩, ⟨(.int .i64), x.2.2.1⟩, ⟨(.int .i64), x.2.2.2.1⟩, ⟨(.int .i64), x.2.2.2.2.1⟩, ⟨(.int .i64), x.2.2.2.2.2.1⟩, ⟨(.slc (.st 38)), x.2.2.2.2.2.2⟩])
def qaE_tr2 : Int × Int × Int × Int × Int × Int × (List (Instr)) → Tr (Nat × List (TV U)) := fun x => .ret (0, [⟨(.int .i64), x.1⟩, ⟨(.int .i64), x.2.1⟩, ⟨(.int .i64), x.2.2.1⟩, ⟨(.int .i64), x.2.2.2.1⟩, ⟨(.int .i64), x.2.2.2.2.1⟩, ⟨(.int .i64), x.2.2.2.2.2.1⟩, ⟨(.slc (.st 38)), x.2.2.2.2.2.2⟩])
def qaE_lp2 : Lift.Loop U := ⟨qaE_sh2, qaE_o2, fun ls => .get (qaE_rec2 qaE_l2 ls) qaE_tr2⟩
theorem qaE_ok2 : LoopR kk env0 Tryz.f22.ntmps qaE_b2 qaE_lp2 :=
  loop_of qaE_enc2 qaE_dec2 (fun n => qaE_rec2 (qaE_i2 n)) (kitOk_of eqOk mixed known67) (L := jnL) (loopsOk_of (bs := []) (by kernel_rfl) trivial) (fun _ => rfl) (by intro i qs r h; unfold qaE_enc2 at h; split at h <;> cases h <;> rfl)
    (by intro ls r h; unfold qaE_rec2 at h; split at h <;> cases h)
    (by intro n ls r h; unfold qaE_rec2 at h; split at h; exact (show _ = qaE_t2 (qaE_i2 n) _ _ _ _ _ _ _ _ _ _ from by kernel_rfl).trans h; cases h) (by rw [qaE_l2, sealF_eq])
def qaE_sh : StSh := ⟨⟨[0, 1, 2], [100000], [⟨.cell 100000 2, 200002, 38, (.st 38)⟩]⟩, [.ptr 100000 0, .t (.st 38), .t (.slc (.int .i64))], [.blk 69 [.t (.int .i64), .t (.int .i64), .oslc 200002], .row 38 (.st 38)]⟩
def qaE_os : List StSh := [⟨⟨[0], [100000], [⟨.cell 100000 2, 200002, 38, (.st 38)⟩]⟩, [.t (.int .i64)], [.blk 69 [.t (.int .i64), .t (.int .i64), .oslc 200002], .row 38 (.st 38)]⟩]
def qaE_tr : Int × Int × Int × (List (Instr)) → Tr (Nat × List (TV U)) := fun x => .ret (0, [⟨(.int .i64), x.1⟩, ⟨(.int .i64), x.2.1⟩, ⟨(.int .i64), x.2.2.1⟩, ⟨(.slc (.st 38)), x.2.2.2⟩])
def qaE_L : Nat → Option (Lift.Loop U) := fun n => bif Nat.beq n joinKey then some joinMark else bif Nat.beq n 2 then some qaE_lp2 else none
def qaE_enc : Nat → List (TV U) → Option (Int × Int × Int × (List (Instr)))
  | 0, [⟨(.int .i64), a0⟩, ⟨(.int .i64), a1⟩, ⟨(.int .i64), a2⟩, ⟨(.slc (.st 38)), a3⟩] => some (a0, a1, a2, a3)
  | _, _ => none
def qaE_dec : Int × Int × Int × (List (Instr)) → Nat × List (TV U) := fun x => (0, [⟨(.int .i64), x.1⟩, ⟨(.int .i64), x.2.1⟩, ⟨(.int .i64), x.2.2.1⟩, ⟨(.slc (.st 38)), x.2.2.2⟩])
def qaE_in : List (TV U) → Option (Int × Int × Int × (List (Instr)))
  | [⟨(.st 38), a0⟩, ⟨(.slc (.int .i64)), a1⟩, ⟨(.int .i64), a2⟩, ⟨(.int .i64), a3⟩, ⟨(.slc (.st 38)), a4⟩] => qaE a0 a1 a2 a3 a4
  | _ => none
def qaE_md : Mode U := ⟨qaE_sh, [⟨100000, .slot 0, []⟩], qaE_os, fun ls => .get (qaE_in ls) qaE_tr⟩
theorem qaE_post : ModeOk kk env0 22 qaE_md :=
  fn_of (fn := Tryz.f22) qaE_enc qaE_dec (kitOk_of eqOk mixed known67) (by kernel_rfl) (L := qaE_L) (loopsOk_of (bs := [qaE_b2]) (by kernel_rfl) ⟨.inr ⟨_, by kernel_rfl, LoopOk.of_round (qaE_ok2)⟩, trivial⟩) (fun _ => rfl) (by intro i qs r h; unfold qaE_enc at h; split at h <;> cases h <;> rfl)
    (by intro ls r h; unfold qaE_in at h; split at h; rw [qaE, sealF_eq] at h; exact Eq.trans (by kernel_rfl) h; cases h)
def ms68 : List (FuncId × Mode U) := (22, qaE_md) :: ms67
theorem known68 : Known kk env0 (modesOf ms68) := known_cons (by kernel_rfl) qaE_post known67
def qaD_sh : StSh := ⟨⟨[0, 1, 2], [100000], [⟨.cell 100000 2, 200002, 38, (.st 38)⟩]⟩, [.ptr 100000 0, .t (.int .i64), .t (.st 57)], [.blk 69 [.t (.int .i64), .t (.int .i64), .oslc 200002], .row 38 (.st 38)]⟩
def qaD_os : List StSh := [⟨⟨[], [100000], [⟨.cell 100000 2, 200002, 38, (.st 38)⟩]⟩, [], [.blk 69 [.t (.int .i64), .t (.int .i64), .oslc 200002], .row 38 (.st 38)]⟩]
def qaD_tr : Int × Int × (List (Instr)) → Tr (Nat × List (TV U)) := fun x => .ret (0, [⟨(.int .i64), x.1⟩, ⟨(.int .i64), x.2.1⟩, ⟨(.slc (.st 38)), x.2.2⟩])
def qaD_in (rec_qaD : Int → TExpr → Int → Int → List (Instr) → Option (Int × Int × (List (Instr)))) : List (TV U) → Option (Int × Int × (List (Instr)))
  | [⟨(.int .i64), a0⟩, ⟨(.st 57), a1⟩, ⟨(.int .i64), a2⟩, ⟨(.int .i64), a3⟩, ⟨(.slc (.st 38)), a4⟩] => rec_qaD a0 a1 a2 a3 a4
  | _ => none
def qaD_rmd (rec_qaD : Int → TExpr → Int → Int → List (Instr) → Option (Int × Int × (List (Instr)))) : Mode U := ⟨qaD_sh, [⟨100000, .slot 0, []⟩], qaD_os, fun ls => .get (qaD_in rec_qaD ls) qaD_tr⟩
def ms69 (rec_qaD : Int → TExpr → Int → Int → List (Instr) → Option (Int × Int × (List (Instr)))) : List (FuncId × Mode U) := (49, (qaD_rmd rec_qaD)) :: ms68
theorem known69 (rec_qaD : Int → TExpr → Int → Int → List (Instr) → Option (Int × Int × (List (Instr)))) (hrec_qaD : ModeOk kk env0 49 (qaD_rmd rec_qaD)) : Known kk env0 (modesOf (ms69 rec_qaD)) := known_cons (by kernel_rfl) hrec_qaD known68
def qaD_enc : Nat → List (TV U) → Option (Int × Int × (List (Instr)))
  | 0, [⟨(.int .i64), a0⟩, ⟨(.int .i64), a1⟩, ⟨(.slc (.st 38)), a2⟩] => some (a0, a1, a2)
  | _, _ => none
def qaD_dec : Int × Int × (List (Instr)) → Nat × List (TV U) := fun x => (0, [⟨(.int .i64), x.1⟩, ⟨(.int .i64), x.2.1⟩, ⟨(.slc (.st 38)), x.2.2⟩])
def qaD_md : Mode U := qaD_rmd qaD
theorem qaD_step (rec_qaD : Int → TExpr → Int → Int → List (Instr) → Option (Int × Int × (List (Instr)))) (hrec_qaD : ModeOk kk env0 49 (qaD_rmd rec_qaD)) : LoopsOk (Kit.withModes kk (modesOf (ms69 rec_qaD))) env0 Tryz.f49.ntmps jnL (bodyOf Tryz.f49) := loopsOk_of (bs := []) (by kernel_rfl) trivial
theorem qaD_post : ModeOk kk env0 49 (qaD_rmd qaD) :=
  rec_of (K := kk) (F := qaD) qaD_rmd qaD_i (by rw [qaD, sealF_eq]) (rec_zero (by intro ls r h; unfold qaD_in at h; split at h <;> cases h)) (fun n ih => fn_of (fn := Tryz.f49) qaD_enc qaD_dec (kitOk_of eqOk mixed (known69 (qaD_i n) ih)) (by kernel_rfl) (qaD_step (qaD_i n) ih) (fun _ => rfl) (by intro i qs r h; unfold qaD_enc at h; split at h <;> cases h <;> rfl)
    (by intro ls r h; unfold qaD_in at h; split at h; exact (show _ = qaD_f (qaD_i n) _ _ _ _ _ from by kernel_rfl).trans h; cases h))
def ms70 : List (FuncId × Mode U) := (49, qaD_md) :: ms68
theorem known70 : Known kk env0 (modesOf ms70) := known_cons (by kernel_rfl) qaD_post known68
def qaB_sh : StSh := ⟨⟨[0, 1, 2], [100000], [⟨.cell 100000 2, 200002, 38, (.st 38)⟩]⟩, [.ptr 100000 0, .t (.slc (.st 59)), .t (.int .i64)], [.blk 69 [.t (.int .i64), .t (.int .i64), .oslc 200002], .row 38 (.st 38)]⟩
def qaB_os : List StSh := [⟨⟨[], [100000], [⟨.cell 100000 2, 200002, 38, (.st 38)⟩]⟩, [], [.blk 69 [.t (.int .i64), .t (.int .i64), .oslc 200002], .row 38 (.st 38)]⟩]
def qaB_tr : Int × Int × (List (Instr)) → Tr (Nat × List (TV U)) := fun x => .ret (0, [⟨(.int .i64), x.1⟩, ⟨(.int .i64), x.2.1⟩, ⟨(.slc (.st 38)), x.2.2⟩])
def qaB_in (rec_qaB : List (TAct) → Int → Int → Int → List (Instr) → Option (Int × Int × (List (Instr)))) : List (TV U) → Option (Int × Int × (List (Instr)))
  | [⟨(.slc (.st 59)), a0⟩, ⟨(.int .i64), a1⟩, ⟨(.int .i64), a2⟩, ⟨(.int .i64), a3⟩, ⟨(.slc (.st 38)), a4⟩] => rec_qaB a0 a1 a2 a3 a4
  | _ => none
def qaB_rmd (rec_qaB : List (TAct) → Int → Int → Int → List (Instr) → Option (Int × Int × (List (Instr)))) : Mode U := ⟨qaB_sh, [⟨100000, .slot 0, []⟩], qaB_os, fun ls => .get (qaB_in rec_qaB ls) qaB_tr⟩
def ms71 (rec_qaB : List (TAct) → Int → Int → Int → List (Instr) → Option (Int × Int × (List (Instr)))) : List (FuncId × Mode U) := (21, (qaB_rmd rec_qaB)) :: ms70
theorem known71 (rec_qaB : List (TAct) → Int → Int → Int → List (Instr) → Option (Int × Int × (List (Instr)))) (hrec_qaB : ModeOk kk env0 21 (qaB_rmd rec_qaB)) : Known kk env0 (modesOf (ms71 rec_qaB)) := known_cons (by kernel_rfl) hrec_qaB known70
def qaC_sh : StSh := ⟨⟨[0, 1, 2, 3], [100000], [⟨.cell 100000 2, 200002, 38, (.st 38)⟩]⟩, [.ptr 100000 0, .t (.st 59), .t (.int .i64), .t (.int .i64)], [.blk 69 [.t (.int .i64), .t (.int .i64), .oslc 200002], .row 38 (.st 38)]⟩
def qaC_os : List StSh := [⟨⟨[], [100000], [⟨.cell 100000 2, 200002, 38, (.st 38)⟩]⟩, [], [.blk 69 [.t (.int .i64), .t (.int .i64), .oslc 200002], .row 38 (.st 38)]⟩]
def qaC_tr : Int × Int × (List (Instr)) → Tr (Nat × List (TV U)) := fun x => .ret (0, [⟨(.int .i64), x.1⟩, ⟨(.int .i64), x.2.1⟩, ⟨(.slc (.st 38)), x.2.2⟩])
def qaC_enc : Nat → List (TV U) → Option (Int × Int × (List (Instr)))
  | 0, [⟨(.int .i64), a0⟩, ⟨(.int .i64), a1⟩, ⟨(.slc (.st 38)), a2⟩] => some (a0, a1, a2)
  | _, _ => none
def qaC_dec : Int × Int × (List (Instr)) → Nat × List (TV U) := fun x => (0, [⟨(.int .i64), x.1⟩, ⟨(.int .i64), x.2.1⟩, ⟨(.slc (.st 38)), x.2.2⟩])
def qaC_in (rec_qaB : List (TAct) → Int → Int → Int → List (Instr) → Option (Int × Int × (List (Instr)))) : List (TV U) → Option (Int × Int × (List (Instr)))
  | [⟨(.st 59), a0⟩, ⟨(.int .i64), a1⟩, ⟨(.int .i64), a2⟩, ⟨(.int .i64), a3⟩, ⟨(.int .i64), a4⟩, ⟨(.slc (.st 38)), a5⟩] => qaC rec_qaB a0 a1 a2 a3 a4 a5
  | _ => none
def qaC_md (rec_qaB : List (TAct) → Int → Int → Int → List (Instr) → Option (Int × Int × (List (Instr)))) : Mode U := ⟨qaC_sh, [⟨100000, .slot 0, []⟩], qaC_os, fun ls => .get (qaC_in rec_qaB ls) qaC_tr⟩
theorem qaC_post (rec_qaB : List (TAct) → Int → Int → Int → List (Instr) → Option (Int × Int × (List (Instr)))) (hrec_qaB : ModeOk kk env0 21 (qaB_rmd rec_qaB)) : ModeOk kk env0 50 (qaC_md rec_qaB) :=
  fn_of (fn := Tryz.f50) qaC_enc qaC_dec (kitOk_of eqOk mixed (known71 rec_qaB hrec_qaB)) (by kernel_rfl) (L := jnL) (loopsOk_of (bs := []) (by kernel_rfl) trivial) (fun _ => rfl) (by intro i qs r h; unfold qaC_enc at h; split at h <;> cases h <;> rfl)
    (by intro ls r h; unfold qaC_in at h; split at h; rw [qaC, sealF_eq] at h; exact Eq.trans (by kernel_rfl) h; cases h)
def ms72 (rec_qaB : List (TAct) → Int → Int → Int → List (Instr) → Option (Int × Int × (List (Instr)))) : List (FuncId × Mode U) := (50, (qaC_md rec_qaB)) :: (ms71 rec_qaB)
theorem known72 (rec_qaB : List (TAct) → Int → Int → Int → List (Instr) → Option (Int × Int × (List (Instr)))) (hrec_qaB : ModeOk kk env0 21 (qaB_rmd rec_qaB)) : Known kk env0 (modesOf (ms72 rec_qaB)) := known_cons (by kernel_rfl) (qaC_post rec_qaB hrec_qaB) (known71 rec_qaB hrec_qaB)
def qaA_sh : StSh := ⟨⟨[0, 1, 2], [100000], [⟨.cell 100000 2, 200002, 38, (.st 38)⟩]⟩, [.ptr 100000 0, .t (.st 59), .t (.int .i64)], [.blk 69 [.t (.int .i64), .t (.int .i64), .oslc 200002], .row 38 (.st 38)]⟩
def qaA_os : List StSh := [⟨⟨[], [100000], [⟨.cell 100000 2, 200002, 38, (.st 38)⟩]⟩, [], [.blk 69 [.t (.int .i64), .t (.int .i64), .oslc 200002], .row 38 (.st 38)]⟩]
def qaA_tr : Int × Int × (List (Instr)) → Tr (Nat × List (TV U)) := fun x => .ret (0, [⟨(.int .i64), x.1⟩, ⟨(.int .i64), x.2.1⟩, ⟨(.slc (.st 38)), x.2.2⟩])
def qaA_enc : Nat → List (TV U) → Option (Int × Int × (List (Instr)))
  | 0, [⟨(.int .i64), a0⟩, ⟨(.int .i64), a1⟩, ⟨(.slc (.st 38)), a2⟩] => some (a0, a1, a2)
  | _, _ => none
def qaA_dec : Int × Int × (List (Instr)) → Nat × List (TV U) := fun x => (0, [⟨(.int .i64), x.1⟩, ⟨(.int .i64), x.2.1⟩, ⟨(.slc (.st 38)), x.2.2⟩])
def qaA_in (rec_qaB : List (TAct) → Int → Int → Int → List (Instr) → Option (Int × Int × (List (Instr)))) : List (TV U) → Option (Int × Int × (List (Instr)))
  | [⟨(.st 59), a0⟩, ⟨(.int .i64), a1⟩, ⟨(.int .i64), a2⟩, ⟨(.int .i64), a3⟩, ⟨(.slc (.st 38)), a4⟩] => qaA rec_qaB a0 a1 a2 a3 a4
  | _ => none
def qaA_md (rec_qaB : List (TAct) → Int → Int → Int → List (Instr) → Option (Int × Int × (List (Instr)))) : Mode U := ⟨qaA_sh, [⟨100000, .slot 0, []⟩], qaA_os, fun ls => .get (qaA_in rec_qaB ls) qaA_tr⟩
theorem qaA_post (rec_qaB : List (TAct) → Int → Int → Int → List (Instr) → Option (Int × Int × (List (Instr)))) (hrec_qaB : ModeOk kk env0 21 (qaB_rmd rec_qaB)) : ModeOk kk env0 36 (qaA_md rec_qaB) :=
  fn_of (fn := Tryz.f36) qaA_enc qaA_dec (kitOk_of eqOk mixed (known72 rec_qaB hrec_qaB)) (by kernel_rfl) (L := jnL) (loopsOk_of (bs := []) (by kernel_rfl) trivial) (fun _ => rfl) (by intro i qs r h; unfold qaA_enc at h; split at h <;> cases h <;> rfl)
    (by intro ls r h; unfold qaA_in at h; split at h; rw [qaA, sealF_eq] at h; exact Eq.trans (by kernel_rfl) h; cases h)
def ms73 (rec_qaB : List (TAct) → Int → Int → Int → List (Instr) → Option (Int × Int × (List (Instr)))) : List (FuncId × Mode U) := (36, (qaA_md rec_qaB)) :: (ms72 rec_qaB)
theorem known73 (rec_qaB : List (TAct) → Int → Int → Int → List (Instr) → Option (Int × Int × (List (Instr)))) (hrec_qaB : ModeOk kk env0 21 (qaB_rmd rec_qaB)) : Known kk env0 (modesOf (ms73 rec_qaB)) := known_cons (by kernel_rfl) (qaA_post rec_qaB hrec_qaB) (known72 rec_qaB hrec_qaB)
def qaB_sh1 : StSh := ⟨⟨[0, 2, 8, 9, 10], [100000], [⟨.cell 100000 2, 200002, 38, (.st 38)⟩]⟩, [.ptr 100000 0, .t (.int .i64), .t (.slc (.st 59)), .t (.int .i64), .t (.int .i64)], [.blk 69 [.t (.int .i64), .t (.int .i64), .oslc 200002], .row 38 (.st 38)]⟩
def qaB_o1 : List Out := [⟨.exit 0, ⟨⟨[], [100000], [⟨.cell 100000 2, 200002, 38, (.st 38)⟩]⟩, [], [.blk 69 [.t (.int .i64), .t (.int .i64), .oslc 200002], .row 38 (.st 38)]⟩⟩]
def qaB_b1 : Code := (nthLoop (bodyOf Tryz.f21) 0)
def qaB_rec1 (rec : Int → List (TAct) → Int → Int → Int → Int → List (Instr) → Option (Int × Int × (List (Instr)))) : List (TV U) → Option (Int × Int × (List (Instr)))
  | [⟨(.int .i64), a0⟩, ⟨(.slc (.st 59)), a1⟩, ⟨(.int .i64), a2⟩, ⟨(.int .i64), a3⟩, ⟨(.int .i64), a4⟩, ⟨(.int .i64), a5⟩, ⟨(.slc (.st 38)), a6⟩] => rec a0 a1 a2 a3 a4 a5 a6
  | _ => none
def qaB_enc1 : Nat → List (TV U) → Option (Int × Int × (List (Instr)))
  | 0, [⟨(.int .i64), a0⟩, ⟨(.int .i64), a1⟩, ⟨(.slc (.st 38)), a2⟩] => some (a0, a1, a2)
  | _, _ => none
def qaB_dec1 : Int × Int × (List (Instr)) → Nat × List (TV U) := fun x => (0, [⟨(.int .i64), x.1⟩, ⟨(.int .i64), x.2.1⟩, ⟨(.slc (.st 38)), x.2.2⟩])
def qaB_tr1 : Int × Int × (List (Instr)) → Tr (Nat × List (TV U)) := fun x => .ret (0, [⟨(.int .i64), x.1⟩, ⟨(.int .i64), x.2.1⟩, ⟨(.slc (.st 38)), x.2.2⟩])
def qaB_lp1 (rec_qaB : List (TAct) → Int → Int → Int → List (Instr) → Option (Int × Int × (List (Instr)))) : Lift.Loop U := ⟨qaB_sh1, qaB_o1, fun ls => .get (qaB_rec1 (qaB_l1 rec_qaB) ls) qaB_tr1⟩
theorem qaB_ok1 (rec_qaB : List (TAct) → Int → Int → Int → List (Instr) → Option (Int × Int × (List (Instr)))) (hrec_qaB : ModeOk kk env0 21 (qaB_rmd rec_qaB)) : LoopR kk env0 Tryz.f21.ntmps qaB_b1 (qaB_lp1 rec_qaB) :=
  loop_of qaB_enc1 qaB_dec1 (fun n => qaB_rec1 (qaB_i1 rec_qaB n)) (kitOk_of eqOk mixed (known73 rec_qaB hrec_qaB)) (L := jnL) (loopsOk_of (bs := []) (by kernel_rfl) trivial) (fun _ => rfl) (by intro i qs r h; unfold qaB_enc1 at h; split at h <;> cases h <;> rfl)
    (by intro ls r h; unfold qaB_rec1 at h; split at h <;> cases h)
    (by intro n ls r h; unfold qaB_rec1 at h; split at h; exact (show _ = qaB_t1 rec_qaB (qaB_i1 rec_qaB n) _ _ _ _ _ _ _ from by kernel_rfl).trans h; cases h) (by rw [qaB_l1, sealF_eq])
def qaB_L (rec_qaB : List (TAct) → Int → Int → Int → List (Instr) → Option (Int × Int × (List (Instr)))) : Nat → Option (Lift.Loop U) := fun n => bif Nat.beq n joinKey then some joinMark else bif Nat.beq n 1 then some (qaB_lp1 rec_qaB) else none
def qaB_enc : Nat → List (TV U) → Option (Int × Int × (List (Instr)))
  | 0, [⟨(.int .i64), a0⟩, ⟨(.int .i64), a1⟩, ⟨(.slc (.st 38)), a2⟩] => some (a0, a1, a2)
  | _, _ => none
def qaB_dec : Int × Int × (List (Instr)) → Nat × List (TV U) := fun x => (0, [⟨(.int .i64), x.1⟩, ⟨(.int .i64), x.2.1⟩, ⟨(.slc (.st 38)), x.2.2⟩])
def qaB_md : Mode U := qaB_rmd qaB
theorem qaB_step (rec_qaB : List (TAct) → Int → Int → Int → List (Instr) → Option (Int × Int × (List (Instr)))) (hrec_qaB : ModeOk kk env0 21 (qaB_rmd rec_qaB)) : LoopsOk (Kit.withModes kk (modesOf (ms73 rec_qaB))) env0 Tryz.f21.ntmps (qaB_L rec_qaB) (bodyOf Tryz.f21) := loopsOk_of (bs := [qaB_b1]) (by kernel_rfl) ⟨.inr ⟨_, by kernel_rfl, LoopOk.of_round (qaB_ok1 rec_qaB hrec_qaB)⟩, trivial⟩
theorem qaB_post : ModeOk kk env0 21 (qaB_rmd qaB) :=
  rec_of (K := kk) (F := qaB) qaB_rmd qaB_i (by rw [qaB, sealF_eq]) (rec_zero (by intro ls r h; unfold qaB_in at h; split at h <;> cases h)) (fun n ih => fn_of (fn := Tryz.f21) qaB_enc qaB_dec (kitOk_of eqOk mixed (known73 (qaB_i n) ih)) (by kernel_rfl) (qaB_step (qaB_i n) ih) (fun _ => rfl) (by intro i qs r h; unfold qaB_enc at h; split at h <;> cases h <;> rfl)
    (by intro ls r h; unfold qaB_in at h; split at h; exact (show _ = qaB_f (qaB_i n) _ _ _ _ _ from by kernel_rfl).trans h; cases h))
def ms74 : List (FuncId × Mode U) := (21, qaB_md) :: ms70
theorem known74 : Known kk env0 (modesOf ms74) := known_cons (by kernel_rfl) qaB_post known70
def qa2_sh : StSh := ⟨⟨[0], [], [⟨.slot 0, 0, 38, (.st 38)⟩]⟩, [.oslc 0], [.row 38 (.st 38)]⟩
def qa2_os : List StSh := [⟨⟨[0], [], [⟨.slot 0, 100000, 38, (.st 38)⟩]⟩, [.oslc 100000], [.row 38 (.st 38)]⟩]
def qa2_tr : (List (Instr)) → Tr (Nat × List (TV U)) := fun x => .ret (0, [⟨(.slc (.st 38)), x⟩])
def qa2_enc : Nat → List (TV U) → Option ((List (Instr)))
  | 0, [⟨(.slc (.st 38)), a0⟩] => some a0
  | _, _ => none
def qa2_dec : (List (Instr)) → Nat × List (TV U) := fun x => (0, [⟨(.slc (.st 38)), x⟩])
def qa2_in : List (TV U) → Option ((List (Instr)))
  | [⟨(.slc (.st 38)), a0⟩] => qa2 a0
  | _ => none
def qa2_md : Mode U := ⟨qa2_sh, [], qa2_os, fun ls => .get (qa2_in ls) qa2_tr⟩
theorem qa2_post : ModeOk kk env0 23 qa2_md :=
  fn_of (fn := Tryz.f23) qa2_enc qa2_dec (kitOk_of eqOk mixed known74) (by kernel_rfl) (L := jnL) (loopsOk_of (bs := []) (by kernel_rfl) trivial) (fun _ => rfl) (by intro i qs r h; unfold qa2_enc at h; split at h <;> cases h <;> rfl)
    (by intro ls r h; unfold qa2_in at h; split at h; rw [qa2, sealF_eq] at h; exact Eq.trans (by kernel_rfl) h; cases h)
def ms75 : List (FuncId × Mode U) := (23, qa2_md) :: ms74
theorem known75 : Known kk env0 (modesOf ms75) := known_cons (by kernel_rfl) qa2_post known74
def qaz_sh5 : StSh := ⟨⟨[2, 4, 20, 21, 22], [2, 4], [⟨.cell 4 0, 20200, 3, (.int .i64)⟩, ⟨.cell 4 2, 20202, 36, (.st 1036)⟩]⟩, [.ptr 2 0, .ptr 4 0, .t (.slc (.st 51)), .t (.int .i64), .t (.int .i64)], [.blk 29 [.nil, .t (.int .i64), .nil], .blk 29 [.oslc 20200, .t (.int .i64), .oslc 20202], .row 3 (.int .i64), .row 36 (.st 1036)]⟩
def qaz_o5 : List Out := [⟨.exit 0, ⟨⟨[2, 4], [2, 4], [⟨.cell 4 0, 20200, 3, (.int .i64)⟩, ⟨.cell 4 2, 20202, 36, (.st 1036)⟩]⟩, [.ptr 2 0, .ptr 4 0], [.blk 29 [.nil, .t (.int .i64), .nil], .blk 29 [.oslc 20200, .t (.int .i64), .oslc 20202], .row 3 (.int .i64), .row 36 (.st 1036)]⟩⟩]
def qaz_b5 : Code := (nthLoop (bodyOf Tryz.f8) 0)
def qaz_rec5 (rec : List (TBody) → Int → Int → Int → Int → List (Int) → List (ACode) → Option (Int × Int × (List (Int)) × (List (ACode)))) : List (TV U) → Option (Int × Int × (List (Int)) × (List (ACode)))
  | [⟨(.slc (.st 51)), a0⟩, ⟨(.int .i64), a1⟩, ⟨(.int .i64), a2⟩, ⟨(.int .i64), a3⟩, ⟨(.int .i64), a4⟩, ⟨(.slc (.int .i64)), a5⟩, ⟨(.slc (.st 1036)), a6⟩] => rec a0 a1 a2 a3 a4 a5 a6
  | _ => none
def qaz_enc5 : Nat → List (TV U) → Option (Int × Int × (List (Int)) × (List (ACode)))
  | 0, [⟨(.int .i64), a0⟩, ⟨(.int .i64), a1⟩, ⟨(.slc (.int .i64)), a2⟩, ⟨(.slc (.st 1036)), a3⟩] => some (a0, a1, a2, a3)
  | _, _ => none
def qaz_dec5 : Int × Int × (List (Int)) × (List (ACode)) → Nat × List (TV U) := fun x => (0, [⟨(.int .i64), x.1⟩, ⟨(.int .i64), x.2.1⟩, ⟨(.slc (.int .i64)), x.2.2.1⟩, ⟨(.slc (.st 1036)), x.2.2.2⟩])
def qaz_tr5 : Int × Int × (List (Int)) × (List (ACode)) → Tr (Nat × List (TV U)) := fun x => .ret (0, [⟨(.int .i64), x.1⟩, ⟨(.int .i64), x.2.1⟩, ⟨(.slc (.int .i64)), x.2.2.1⟩, ⟨(.slc (.st 1036)), x.2.2.2⟩])
def qaz_lp5 : Lift.Loop U := ⟨qaz_sh5, qaz_o5, fun ls => .get (qaz_rec5 qaz_l5 ls) qaz_tr5⟩
theorem qaz_ok5 : LoopR kk env0 Tryz.f8.ntmps qaz_b5 qaz_lp5 :=
  loop_of qaz_enc5 qaz_dec5 (fun n => qaz_rec5 (qaz_i5 n)) (kitOk_of eqOk mixed known75) (L := jnL) (loopsOk_of (bs := []) (by kernel_rfl) trivial) (fun _ => rfl) (by intro i qs r h; unfold qaz_enc5 at h; split at h <;> cases h <;> rfl)
    (by intro ls r h; unfold qaz_rec5 at h; split at h <;> cases h)
    (by intro n ls r h; unfold qaz_rec5 at h; split at h; exact (show _ = qaz_t5 (qaz_i5 n) _ _ _ _ _ _ _ from by kernel_rfl).trans h; cases h) (by rw [qaz_l5, sealF_eq])
def qaz_sh : StSh := ⟨⟨[0], [], []⟩, [.t (.st 25)], []⟩
def qaz_os : List StSh := [⟨⟨[0, 1], [], [⟨.sub 0 0, 100100, 3, (.int .i64)⟩, ⟨.sub 0 2, 100300, 36, (.st 1036)⟩]⟩, [.agg [.oslc 100100, .t (.int .i64), .oslc 100300], .t (.int .i64)], [.row 3 (.int .i64), .row 36 (.st 1036)]⟩]
def qaz_tr : Int × Int × (List (Int)) × (List (ACode)) → Tr (Nat × List (TV U)) := fun x => .ret (0, [⟨(.int .i64), x.1⟩, ⟨(.int .i64), x.2.1⟩, ⟨(.slc (.int .i64)), x.2.2.1⟩, ⟨(.slc (.st 1036)), x.2.2.2⟩])
def qaz_L : Nat → Option (Lift.Loop U) := fun n => bif Nat.beq n joinKey then some joinMark else bif Nat.beq n 5 then some qaz_lp5 else none
def qaz_enc : Nat → List (TV U) → Option (Int × Int × (List (Int)) × (List (ACode)))
  | 0, [⟨(.int .i64), a0⟩, ⟨(.int .i64), a1⟩, ⟨(.slc (.int .i64)), a2⟩, ⟨(.slc (.st 1036)), a3⟩] => some (a0, a1, a2, a3)
  | _, _ => none
def qaz_dec : Int × Int × (List (Int)) × (List (ACode)) → Nat × List (TV U) := fun x => (0, [⟨(.int .i64), x.1⟩, ⟨(.int .i64), x.2.1⟩, ⟨(.slc (.int .i64)), x.2.2.1⟩, ⟨(.slc (.st 1036)), x.2.2.2⟩])
def qaz_in : List (TV U) → Option (Int × Int × (List (Int)) × (List (ACode)))
  | [⟨(.st 25), a0⟩] => qaz a0
  | _ => none
def qaz_md : Mode U := ⟨qaz_sh, [], qaz_os, fun ls => .get (qaz_in ls) qaz_tr⟩
theorem qaz_post : ModeOk kk env0 8 qaz_md :=
  fn_of (fn := Tryz.f8) qaz_enc qaz_dec (kitOk_of eqOk mixed known75) (by kernel_rfl) (L := qaz_L) (loopsOk_of (bs := [qaz_b5]) (by kernel_rfl) ⟨.inr ⟨_, by kernel_rfl, LoopOk.of_round (qaz_ok5)⟩, trivial⟩) (fun _ => rfl) (by intro i qs r h; unfold qaz_enc at h; split at h <;> cases h <;> rfl)
    (by intro ls r h; unfold qaz_in at h; split at h; rw [qaz, sealF_eq] at h; exact Eq.trans (by kernel_rfl) h; cases h)
def ms76 : List (FuncId × Mode U) := (8, qaz_md) :: ms75
theorem known76 : Known kk env0 (modesOf ms76) := known_cons (by kernel_rfl) qaz_post known75
def qaG_sh : StSh := ⟨⟨[], [], []⟩, [], []⟩
def qaG_os : List StSh := [⟨⟨[0], [], []⟩, [.t .bool], []⟩]
def qaG_tr : Bool → Tr (Nat × List (TV U)) := fun x => .ret (0, [⟨.bool, x⟩])
def qaG_enc : Nat → List (TV U) → Option (Bool)
  | 0, [⟨.bool, a0⟩] => some a0
  | _, _ => none
def qaG_dec : Bool → Nat × List (TV U) := fun x => (0, [⟨.bool, x⟩])
def qaG_in : List (TV U) → Option (Bool)
  | [] => qaG
  | _ => none
def qaG_md : Mode U := ⟨qaG_sh, [], qaG_os, fun ls => .get (qaG_in ls) qaG_tr⟩
theorem qaG_post : ModeOk kk env0 6 qaG_md :=
  fn_of (fn := Tryz.f6) qaG_enc qaG_dec (kitOk_of eqOk mixed known76) (by kernel_rfl) (L := noL) (loopsOk_of (bs := []) (by kernel_rfl) trivial) (fun _ => rfl) (by intro i qs r h; unfold qaG_enc at h; split at h <;> cases h <;> rfl)
    (by intro ls r h; unfold qaG_in at h; split at h; rw [qaG, sealF_eq] at h; exact Eq.trans (by kernel_rfl) h; cases h)
def ms77 : List (FuncId × Mode U) := (6, qaG_md) :: ms76
theorem known77 : Known kk env0 (modesOf ms77) := known_cons (by kernel_rfl) qaG_post known76
def qaL_sh : StSh := ⟨⟨[0], [], []⟩, [.t (.int .i64)], []⟩
def qaL_os : List StSh := [⟨⟨[0, 1, 2, 3, 4, 5], [], []⟩, [.t .bool, .t .bool, .t .bool, .t .bool, .t .bool, .t .bool], []⟩]
def qaL_tr : Bool × Bool × Bool × Bool × Bool × Bool → Tr (Nat × List (TV U)) := fun x => .ret (0, [⟨.bool, x.1⟩, ⟨.bool, x.2.1⟩, ⟨.bool, x.2.2.1⟩, ⟨.bool, x.2.2.2.1⟩, ⟨.bool, x.2.2.2.2.1⟩, ⟨.bool, x.2.2.2.2.2⟩])
def qaL_enc : Nat → List (TV U) → Option (Bool × Bool × Bool × Bool × Bool × Bool)
  | 0, [⟨.bool, a0⟩, ⟨.bool, a1⟩, ⟨.bool, a2⟩, ⟨.bool, a3⟩, ⟨.bool, a4⟩, ⟨.bool, a5⟩] => some (a0, a1, a2, a3, a4, a5)
  | _, _ => none
def qaL_dec : Bool × Bool × Bool × Bool × Bool × Bool → Nat × List (TV U) := fun x => (0, [⟨.bool, x.1⟩, ⟨.bool, x.2.1⟩, ⟨.bool, x.2.2.1⟩, ⟨.bool, x.2.2.2.1⟩, ⟨.bool, x.2.2.2.2.1⟩, ⟨.bool, x.2.2.2.2.2⟩])
def qaL_in : List (TV U) → Option (Bool × Bool × Bool × Bool × Bool × Bool)
  | [⟨(.int .i64), a0⟩] => qaL a0
  | _ => none
def qaL_md : Mode U := ⟨qaL_sh, [], qaL_os, fun ls => .get (qaL_in ls) qaL_tr⟩
theorem qaL_post : ModeOk kk env0 51 qaL_md :=
  fn_of (fn := Tryz.f51) qaL_enc qaL_dec (kitOk_of eqOk mixed known77) (by kernel_rfl) (L := jnL) (loopsOk_of (bs := []) (by kernel_rfl) trivial) (fun _ => rfl) (by intro i qs r h; unfold qaL_enc at h; split at h <;> cases h <;> rfl)
    (by intro ls r h; unfold qaL_in at h; split at h; rw [qaL, sealF_eq] at h; exact Eq.trans (by kernel_rfl) h; cases h)
def ms78 : List (FuncId × Mode U) := (51, qaL_md) :: ms77
theorem known78 : Known kk env0 (modesOf ms78) := known_cons (by kernel_rfl) qaL_post known77
def qaU_sh : StSh := ⟨⟨[0, 1], [], []⟩, [.t (.st 57), .t (.int .i64)], []⟩
def qaU_os : List StSh := [⟨⟨[0], [], []⟩, [.t .bool], []⟩]
def qaU_tr : Bool → Tr (Nat × List (TV U)) := fun x => .ret (0, [⟨.bool, x⟩])
def qaU_in (rec_qaU : TExpr → Int → Option (Bool)) : List (TV U) → Option (Bool)
  | [⟨(.st 57), a0⟩, ⟨(.int .i64), a1⟩] => rec_qaU a0 a1
  | _ => none
def qaU_rmd (rec_qaU : TExpr → Int → Option (Bool)) : Mode U := ⟨qaU_sh, [], qaU_os, fun ls => .get (qaU_in rec_qaU ls) qaU_tr⟩
def ms79 (rec_qaU : TExpr → Int → Option (Bool)) : List (FuncId × Mode U) := (52, (qaU_rmd rec_qaU)) :: ms78
theorem known79 (rec_qaU : TExpr → Int → Option (Bool)) (hrec_qaU : ModeOk kk env0 52 (qaU_rmd rec_qaU)) : Known kk env0 (modesOf (ms79 rec_qaU)) := known_cons (by kernel_rfl) hrec_qaU known78
def qaU_sh13 : StSh := ⟨⟨[1, 2, 6], [2], []⟩, [.t (.int .i64), .ptr 2 0, .t (.int .i64)], [.blk 57 [.t (.int .i64), .t (.int .i64), .t .str, .t (.slc (.st 57))]]⟩
def qaU_o13 : List Out := [⟨.ret, ⟨⟨[4], [], []⟩, [.t .bool], []⟩⟩, ⟨.exit 1, ⟨⟨[], [], []⟩, [], []⟩⟩]
def qaU_b13 : Code := (nthLoop (bodyOf Tryz.f52) 0)
def qaU_rec13 (rec : Int → Int → Int → Int → List UInt8 → List (TExpr) → Option ((Bool) ⊕ (Unit))) : List (TV U) → Option ((Bool) ⊕ (Unit))
  | [⟨(.int .i64), a0⟩, ⟨(.int .i64), a1⟩, ⟨(.int .i64), a2⟩, ⟨(.int .i64), a3⟩, ⟨.str, a4⟩, ⟨(.slc (.st 57)), a5⟩] => rec a0 a1 a2 a3 a4 a5
  | _ => none
def qaU_enc13 : Nat → List (TV U) → Option ((Bool) ⊕ (Unit))
  | 0, [⟨.bool, a0⟩] => some (.inl a0)
  | 1, [] => some (.inr ())
  | _, _ => none
def qaU_dec13 : (Bool) ⊕ (Unit) → Nat × List (TV U) := fun r => match r with | (.inl x) => (0, [⟨.bool, x⟩]) | (.inr x) => (1, [])
def qaU_tr13 : (Bool) ⊕ (Unit) → Tr (Nat × List (TV U)) := fun r => .alt r (fun x => .ret (0, [⟨.bool, x⟩])) (fun y => (fun x => .ret (1, [])) y)
def qaU_lp13 (rec_qaU : TExpr → Int → Option (Bool)) : Lift.Loop U := ⟨qaU_sh13, qaU_o13, fun ls => .get (qaU_rec13 (qaU_l13 rec_qaU) ls) qaU_tr13⟩
theorem qaU_ok13 (rec_qaU : TExpr → Int → Option (Bool)) (hrec_qaU : ModeOk kk env0 52 (qaU_rmd rec_qaU)) : LoopR kk env0 Tryz.f52.ntmps qaU_b13 (qaU_lp13 rec_qaU) :=
  loop_of qaU_enc13 qaU_dec13 (fun n => qaU_rec13 (qaU_i13 rec_qaU n)) (kitOk_of eqOk mixed (known79 rec_qaU hrec_qaU)) (L := jnL) (loopsOk_of (bs := []) (by kernel_rfl) trivial) (by intro r; rcases r with r | r <;> rfl) (by intro i qs r h; unfold qaU_enc13 at h; split at h <;> cases h <;> rfl)
    (by intro ls r h; unfold qaU_rec13 at h; split at h <;> cases h)
    (by intro n ls r h; unfold qaU_rec13 at h; split at h; exact (show _ = qaU_t13 rec_qaU (qaU_i13 rec_qaU n) _ _ _ _ _ _ from by kernel_rfl).trans h; cases h) (by rw [qaU_l13, sealF_eq])
def qaU_L (rec_qaU : TExpr → Int → Option (Bool)) : Nat → Option (Lift.Loop U) := fun n => bif Nat.beq n joinKey then some joinMark else bif Nat.beq n 13 then some (qaU_lp13 rec_qaU) else none
def qaU_enc : Nat → List (TV U) → Option (Bool)
  | 0, [⟨.bool, a0⟩] => some a0
  | _, _ => none
def qaU_dec : Bool → Nat × List (TV U) := fun x => (0, [⟨.bool, x⟩])
def qaU_md : Mode U := qaU_rmd qaU
theorem qaU_step (rec_qaU : TExpr → Int → Option (Bool)) (hrec_qaU : ModeOk kk env0 52 (qaU_rmd rec_qaU)) : LoopsOk (Kit.withModes kk (modesOf (ms79 rec_qaU))) env0 Tryz.f52.ntmps (qaU_L rec_qaU) (bodyOf Tryz.f52) := loopsOk_of (bs := [qaU_b13]) (by kernel_rfl) ⟨.inr ⟨_, by kernel_rfl, LoopOk.of_round (qaU_ok13 rec_qaU hrec_qaU)⟩, trivial⟩
theorem qaU_post : ModeOk kk env0 52 (qaU_rmd qaU) :=
  rec_of (K := kk) (F := qaU) qaU_rmd qaU_i (by rw [qaU, sealF_eq]) (rec_zero (by intro ls r h; unfold qaU_in at h; split at h <;> cases h)) (fun n ih => fn_of (fn := Tryz.f52) qaU_enc qaU_dec (kitOk_of eqOk mixed (known79 (qaU_i n) ih)) (by kernel_rfl) (qaU_step (qaU_i n) ih) (fun _ => rfl) (by intro i qs r h; unfold qaU_enc at h; split at h <;> cases h <;> rfl)
    (by intro ls r h; unfold qaU_in at h; split at h; exact (show _ = qaU_f (qaU_i n) _ _ from by kernel_rfl).trans h; cases h))
def ms80 : List (FuncId × Mode U) := (52, qaU_md) :: ms78
theorem known80 : Known kk env0 (modesOf ms80) := known_cons (by kernel_rfl) qaU_post known78
def qaM_sh : StSh := ⟨⟨[0], [], []⟩, [.t (.st 57)], []⟩
def qaM_os : List StSh := [⟨⟨[0], [], []⟩, [.t .bool], []⟩]
def qaM_tr : Bool → Tr (Nat × List (TV U)) := fun x => .ret (0, [⟨.bool, x⟩])
def qaM_enc : Nat → List (TV U) → Option (Bool)
  | 0, [⟨.bool, a0⟩] => some a0
  | _, _ => none
def qaM_dec : Bool → Nat × List (TV U) := fun x => (0, [⟨.bool, x⟩])
def qaM_in : List (TV U) → Option (Bool)
  | [⟨(.st 57), a0⟩] => qaM a0
  | _ => none
def qaM_md : Mode U := ⟨qaM_sh, [], qaM_os, fun ls => .get (qaM_in ls) qaM_tr⟩
theorem qaM_post : ModeOk kk env0 53 qaM_md :=
  fn_of (fn := Tryz.f53) qaM_enc qaM_dec (kitOk_of eqOk mixed known80) (by kernel_rfl) (L := jnL) (loopsOk_of (bs := []) (by kernel_rfl) trivial) (fun _ => rfl) (by intro i qs r h; unfold qaM_enc at h; split at h <;> cases h <;> rfl)
    (by intro ls r h; unfold qaM_in at h; split at h; rw [qaM, sealF_eq] at h; exact Eq.trans (by kernel_rfl) h; cases h)
def ms81 : List (FuncId × Mode U) := (53, qaM_md) :: ms80
theorem known81 : Known kk env0 (modesOf ms81) := known_cons (by kernel_rfl) qaM_post known80
def qaV_sh : StSh := ⟨⟨[0, 1], [], []⟩, [.t (.int .i64), .t (.st 25)], []⟩
def qaV_os : List StSh := [⟨⟨[0], [], []⟩, [.t (.int .i64)], []⟩]
def qaV_tr : Int → Tr (Nat × List (TV U)) := fun x => .ret (0, [⟨(.int .i64), x⟩])
def qaV_enc : Nat → List (TV U) → Option (Int)
  | 0, [⟨(.int .i64), a0⟩] => some a0
  | _, _ => none
def qaV_dec : Int → Nat × List (TV U) := fun x => (0, [⟨(.int .i64), x⟩])
def qaV_in : List (TV U) → Option (Int)
  | [⟨(.int .i64), a0⟩, ⟨(.st 25), a1⟩] => qaV a0 a1
  | _ => none
def qaV_md : Mode U := ⟨qaV_sh, [], qaV_os, fun ls => .get (qaV_in ls) qaV_tr⟩
theorem qaV_post : ModeOk kk env0 54 qaV_md :=
  fn_of (fn := Tryz.f54) qaV_enc qaV_dec (kitOk_of eqOk mixed known81) (by kernel_rfl) (L := jnL) (loopsOk_of (bs := []) (by kernel_rfl) trivial) (fun _ => rfl) (by intro i qs r h; unfold qaV_enc at h; split at h <;> cases h <;> rfl)
    (by intro ls r h; unfold qaV_in at h; split at h; rw [qaV, sealF_eq] at h; exact Eq.trans (by kernel_rfl) h; cases h)
def ms82 : List (FuncId × Mode U) := (54, qaV_md) :: ms81
theorem known82 : Known kk env0 (modesOf ms82) := known_cons (by kernel_rfl) qaV_post known81
def qaT_sh : StSh := ⟨⟨[0, 1, 2], [], []⟩, [.t (.slc (.st 59)), .t (.int .i64), .t (.st 25)], []⟩
def qaT_os : List StSh := [⟨⟨[0], [], []⟩, [.t .bool], []⟩]
def qaT_tr : Bool → Tr (Nat × List (TV U)) := fun x => .ret (0, [⟨.bool, x⟩])
def qaT_in (rec_qaT : List (TAct) → Int → TUnit → Option (Bool)) : List (TV U) → Option (Bool)
  | [⟨(.slc (.st 59)), a0⟩, ⟨(.int .i64), a1⟩, ⟨(.st 25), a2⟩] => rec_qaT a0 a1 a2
  | _ => none
def qaT_rmd (rec_qaT : List (TAct) → Int → TUnit → Option (Bool)) : Mode U := ⟨qaT_sh, [], qaT_os, fun ls => .get (qaT_in rec_qaT ls) qaT_tr⟩
def ms83 (rec_qaT : List (TAct) → Int → TUnit → Option (Bool)) : List (FuncId × Mode U) := (26, (qaT_rmd rec_qaT)) :: ms82
theorem known83 (rec_qaT : List (TAct) → Int → TUnit → Option (Bool)) (hrec_qaT : ModeOk kk env0 26 (qaT_rmd rec_qaT)) : Known kk env0 (modesOf (ms83 rec_qaT)) := known_cons (by kernel_rfl) hrec_qaT known82
def qaS_sh : StSh := ⟨⟨[0, 1, 2], [], []⟩, [.t (.st 59), .t (.int .i64), .t (.st 25)], []⟩
def qaS_os : List StSh := [⟨⟨[0], [], []⟩, [.t .bool], []⟩]
def qaS_tr : Bool → Tr (Nat × List (TV U)) := fun x => .ret (0, [⟨.bool, x⟩])
def qaS_enc : Nat → List (TV U) → Option (Bool)
  | 0, [⟨.bool, a0⟩] => some a0
  | _, _ => none
def qaS_dec : Bool → Nat × List (TV U) := fun x => (0, [⟨.bool, x⟩])
def qaS_in (rec_qaT : List (TAct) → Int → TUnit → Option (Bool)) : List (TV U) → Option (Bool)
  | [⟨(.st 59), a0⟩, ⟨(.int .i64), a1⟩, ⟨(.st 25), a2⟩] => qaS rec_qaT a0 a1 a2
  | _ => none
def qaS_md (rec_qaT : List (TAct) → Int → TUnit → Option (Bool)) : Mode U := ⟨qaS_sh, [], qaS_os, fun ls => .get (qaS_in rec_qaT ls) qaS_tr⟩
theorem qaS_post (rec_qaT : List (TAct) → Int → TUnit → Option (Bool)) (hrec_qaT : ModeOk kk env0 26 (qaT_rmd rec_qaT)) : ModeOk kk env0 39 (qaS_md rec_qaT) :=
  fn_of (fn := Tryz.f39) qaS_enc qaS_dec (kitOk_of eqOk mixed (known83 rec_qaT hrec_qaT)) (by kernel_rfl) (L := jnL) (loopsOk_of (bs := []) (by kernel_rfl) trivial) (fun _ => rfl) (by intro i qs r h; unfold qaS_enc at h; split at h <;> cases h <;> rfl)
    (by intro ls r h; unfold qaS_in at h; split at h; rw [qaS, sealF_eq] at h; exact Eq.trans (by kernel_rfl) h; cases h)
def ms84 (rec_qaT : List (TAct) → Int → TUnit → Option (Bool)) : List (FuncId × Mode U) := (39, (qaS_md rec_qaT)) :: (ms83 rec_qaT)
theorem known84 (rec_qaT : List (TAct) → Int → TUnit → Option (Bool)) (hrec_qaT : ModeOk kk env0 26 (qaT_rmd rec_qaT)) : Known kk env0 (modesOf (ms84 rec_qaT)) := known_cons (by kernel_rfl) (qaS_post rec_qaT hrec_qaT) (known83 rec_qaT hrec_qaT)
def qaT_sh2 : StSh := ⟨⟨[0, 1, 5, 7], [5], []⟩, [.t (.slc (.st 59)), .t (.int .i64), .ptr 5 0, .t (.int .i64)], [.blk 25 [.t (.slc (.int .i64)), .t (.int .i64), .t (.slc (.st 51))]]⟩
def qaT_o2 : List Out := [⟨.ret, ⟨⟨[6], [], []⟩, [.t .bool], []⟩⟩, ⟨.exit 0, ⟨⟨[], [], []⟩, [], []⟩⟩]
def qaT_b2 : Code := (nthLoop (bodyOf Tryz.f26) 0)
def qaT_rec2 (rec : List (TAct) → Int → Int → List (Int) → Int → List (TBody) → Option ((Bool) ⊕ (Unit))) : List (TV U) → Option ((Bool) ⊕ (Unit))
  | [⟨(.slc (.st 59)), a0⟩, ⟨(.int .i64), a1⟩, ⟨(.int .i64), a2⟩, ⟨(.slc (.int .i64)), a3⟩, ⟨(.int .i64), a4⟩, ⟨(.slc (.st 51)), a5⟩] => rec a0 a1 a2 a3 a4 a5
  | _ => none
def qaT_enc2 : Nat → List (TV U) → Option ((Bool) ⊕ (Unit))
  | 0, [⟨.bool, a0⟩] => some (.inl a0)
  | 1, [] => some (.inr ())
  | _, _ => none
def qaT_dec2 : (Bool) ⊕ (Unit) → Nat × List (TV U) := fun r => match r with | (.inl x) => (0, [⟨.bool, x⟩]) | (.inr x) => (1, [])
def qaT_tr2 : (Bool) ⊕ (Unit) → Tr (Nat × List (TV U)) := fun r => .alt r (fun x => .ret (0, [⟨.bool, x⟩])) (fun y => (fun x => .ret (1, [])) y)
def qaT_lp2 (rec_qaT : List (TAct) → Int → TUnit → Option (Bool)) : Lift.Loop U := ⟨qaT_sh2, qaT_o2, fun ls => .get (qaT_rec2 (qaT_l2 rec_qaT) ls) qaT_tr2⟩
theorem qaT_ok2 (rec_qaT : List (TAct) → Int → TUnit → Option (Bool)) (hrec_qaT : ModeOk kk env0 26 (qaT_rmd rec_qaT)) : LoopR kk env0 Tryz.f26.ntmps qaT_b2 (qaT_lp2 rec_qaT) :=
  loop_of qaT_enc2 qaT_dec2 (fun n => qaT_rec2 (qaT_i2 rec_qaT n)) (kitOk_of eqOk mixed (known84 rec_qaT hrec_qaT)) (L := jnL) (loopsOk_of (bs := []) (by kernel_rfl) trivial) (by intro r; rcases r with r | r <;> rfl) (by intro i qs r h; unfold qaT_enc2 at h; split at h <;> cases h <;> rfl)
    (by intro ls r h; unfold qaT_rec2 at h; split at h <;> cases h)
    (by intro n ls r h; unfold qaT_rec2 at h; split at h; exact (show _ = qaT_t2 rec_qaT (qaT_i2 rec_qaT n) _ _ _ _ _ _ from by kernel_rfl).trans h; cases h) (by rw [qaT_l2, sealF_eq])
def qaT_L (rec_qaT : List (TAct) → Int → TUnit → Option (Bool)) : Nat → Option (Lift.Loop U) := fun n => bif Nat.beq n joinKey then some joinMark else bif Nat.beq n 2 then some (qaT_lp2 rec_qaT) else none
def qaT_enc : Nat → List (TV U) → Option (Bool)
  | 0, [⟨.bool, a0⟩] => some a0
  | _, _ => none
def qaT_dec : Bool → Nat × List (TV U) := fun x => (0, [⟨.bool, x⟩])
def qaT_md : Mode U := qaT_rmd qaT
theorem qaT_step (rec_qaT : List (TAct) → Int → TUnit → Option (Bool)) (hrec_qaT : ModeOk kk env0 26 (qaT_rmd rec_qaT)) : LoopsOk (Kit.withModes kk (modesOf (ms84 rec_qaT))) env0 Tryz.f26.ntmps (qaT_L rec_qaT) (bodyOf Tryz.f26) := loopsOk_of (bs := [qaT_b2]) (by kernel_rfl) ⟨.inr ⟨_, by kernel_rfl, LoopOk.of_round (qaT_ok2 rec_qaT hrec_qaT)⟩, trivial⟩
theorem qaT_post : ModeOk kk env0 26 (qaT_rmd qaT) :=
  rec_of (K := kk) (F := qaT) qaT_rmd qaT_i (by rw [qaT, sealF_eq]) (rec_zero (by intro ls r h; unfold qaT_in at h; split at h <;> cases h)) (fun n ih => fn_of (fn := Tryz.f26) qaT_enc qaT_dec (kitOk_of eqOk mixed (known84 (qaT_i n) ih)) (by kernel_rfl) (qaT_step (qaT_i n) ih) (fun _ => rfl) (by intro i qs r h; unfold qaT_enc at h; split at h <;> cases h <;> rfl)
    (by intro ls r h; unfold qaT_in at h; split at h; exact (show _ = qaT_f (qaT_i n) _ _ _ from by kernel_rfl).trans h; cases h))
def ms85 : List (FuncId × Mode U) := (26, qaT_md) :: ms82
theorem known85 : Known kk env0 (modesOf ms85) := known_cons (by kernel_rfl) qaT_post known82
def qaQ_sh : StSh := ⟨⟨[0], [], []⟩, [.t (.slc (.st 59))], []⟩
def qaQ_os : List StSh := [⟨⟨[0], [], [⟨.slot 0, 100000, 78, (.st 78)⟩]⟩, [.oslc 100000], [.row 78 (.st 78)]⟩]
def qaQ_tr : (List (TStmt)) → Tr (Nat × List (TV U)) := fun x => .ret (0, [⟨(.slc (.st 78)), x⟩])
def qaQ_in (rec_qaQ : List (TAct) → Option ((List (TStmt)))) : List (TV U) → Option ((List (TStmt)))
  | [⟨(.slc (.st 59)), a0⟩] => rec_qaQ a0
  | _ => none
def qaQ_rmd (rec_qaQ : List (TAct) → Option ((List (TStmt)))) : Mode U := ⟨qaQ_sh, [], qaQ_os, fun ls => .get (qaQ_in rec_qaQ ls) qaQ_tr⟩
def ms86 (rec_qaQ : List (TAct) → Option ((List (TStmt)))) : List (FuncId × Mode U) := (13, (qaQ_rmd rec_qaQ)) :: ms85
theorem known86 (rec_qaQ : List (TAct) → Option ((List (TStmt)))) (hrec_qaQ : ModeOk kk env0 13 (qaQ_rmd rec_qaQ)) : Known kk env0 (modesOf (ms86 rec_qaQ)) := known_cons (by kernel_rfl) hrec_qaQ known85
def qaQ_sh3 : StSh := ⟨⟨[0, 3, 4], [], [⟨.slot 3, 3, 78, (.st 78)⟩]⟩, [.t (.slc (.st 59)), .oslc 3, .t (.int .i64)], [.row 78 (.st 78)]⟩
def qaQ_o3 : List Out := [⟨.exit 0, ⟨⟨[3], [], [⟨.slot 3, 3, 78, (.st 78)⟩]⟩, [.oslc 3], [.row 78 (.st 78)]⟩⟩]
def qaQ_b3 : Code := (nthLoop (bodyOf Tryz.f13) 0)
def qaQ_rec3 (rec : List (TAct) → Int → List (TStmt) → Option ((List (TStmt)))) : List (TV U) → Option ((List (TStmt)))
  | [⟨(.slc (.st 59)), a0⟩, ⟨(.int .i64), a1⟩, ⟨(.slc (.st 78)), a2⟩] => rec a0 a1 a2
  | _ => none
def qaQ_enc3 : Nat → List (TV U) → Option ((List (TStmt)))
  | 0, [⟨(.slc (.st 78)), a0⟩] => some a0
  | _, _ => none
def qaQ_dec3 : (List (TStmt)) → Nat × List (TV U) := fun x => (0, [⟨(.slc (.st 78)), x⟩])
def qaQ_tr3 : (List (TStmt)) → Tr (Nat × List (TV U)) := fun x => .ret (0, [⟨(.slc (.st 78)), x⟩])
def qaQ_lp3 (rec_qaQ : List (TAct) → Option ((List (TStmt)))) : Lift.Loop U := ⟨qaQ_sh3, qaQ_o3, fun ls => .get (qaQ_rec3 (qaQ_l3 rec_qaQ) ls) qaQ_tr3⟩
theorem qaQ_ok3 (rec_qaQ : List (TAct) → Option ((List (TStmt)))) (hrec_qaQ : ModeOk kk env0 13 (qaQ_rmd rec_qaQ)) : LoopR kk env0 Tryz.f13.ntmps qaQ_b3 (qaQ_lp3 rec_qaQ) :=
  loop_of qaQ_enc3 qaQ_dec3 (fun n => qaQ_rec3 (qaQ_i3 rec_qaQ n)) (kitOk_of eqOk mixed (known86 rec_qaQ hrec_qaQ)) (L := jnL) (loopsOk_of (bs := []) (by kernel_rfl) trivial) (fun _ => rfl) (by intro i qs r h; unfold qaQ_enc3 at h; split at h <;> cases h <;> rfl)
    (by intro ls r h; unfold qaQ_rec3 at h; split at h <;> cases h)
    (by intro n ls r h; unfold qaQ_rec3 at h; split at h; exact (show _ = qaQ_t3 rec_qaQ (qaQ_i3 rec_qaQ n) _ _ _ from by kernel_rfl).trans h; cases h) (by rw [qaQ_l3, sealF_eq])
def qaQ_L (rec_qaQ : List (TAct) → Option ((List (TStmt)))) : Nat → Option (Lift.Loop U) := fun n => bif Nat.beq n joinKey then some joinMark else bif Nat.beq n 3 then some (qaQ_lp3 rec_qaQ) else none
def qaQ_enc : Nat → List (TV U) → Option ((List (TStmt)))
  | 0, [⟨(.slc (.st 78)), a0⟩] => some a0
  | _, _ => none
def qaQ_dec : (List (TStmt)) → Nat × List (TV U) := fun x => (0, [⟨(.slc (.st 78)), x⟩])
def qaQ_md : Mode U := qaQ_rmd qaQ
theorem qaQ_step (rec_qaQ : List (TAct) → Option ((List (TStmt)))) (hrec_qaQ : ModeOk kk env0 13 (qaQ_rmd rec_qaQ)) : LoopsOk (Kit.withModes kk (modesOf (ms86 rec_qaQ))) env0 Tryz.f13.ntmps (qaQ_L rec_qaQ) (bodyOf Tryz.f13) := loopsOk_of (bs := [qaQ_b3]) (by kernel_rfl) ⟨.inr ⟨_, by kernel_rfl, LoopOk.of_round (qaQ_ok3 rec_qaQ hrec_qaQ)⟩, trivial⟩
theorem qaQ_post : ModeOk kk env0 13 (qaQ_rmd qaQ) :=
  rec_of (K := kk) (F := qaQ) qaQ_rmd qaQ_i (by rw [qaQ, sealF_eq]) (rec_zero (by intro ls r h; unfold qaQ_in at h; split at h <;> cases h)) (fun n ih => fn_of (fn := Tryz.f13) qaQ_enc qaQ_dec (kitOk_of eqOk mixed (known86 (qaQ_i n) ih)) (by kernel_rfl) (qaQ_step (qaQ_i n) ih) (fun _ => rfl) (by intro i qs r h; unfold qaQ_enc at h; split at h <;> cases h <;> rfl)
    (by intro ls r h; unfold qaQ_in at h; split at h; exact (show _ = qaQ_f (qaQ_i n) _ from by kernel_rfl).trans h; cases h))
def ms87 : List (FuncId × Mode U) := (13, qaQ_md) :: ms85
theorem known87 : Known kk env0 (modesOf ms87) := known_cons (by kernel_rfl) qaQ_post known85
def qaP_sh : StSh := ⟨⟨[0], [], []⟩, [.t (.st 57)], []⟩
def qaP_os : List StSh := [⟨⟨[0], [], []⟩, [.t .bool], []⟩]
def qaP_tr : Bool → Tr (Nat × List (TV U)) := fun x => .ret (0, [⟨.bool, x⟩])
def qaP_enc : Nat → List (TV U) → Option (Bool)
  | 0, [⟨.bool, a0⟩] => some a0
  | _, _ => none
def qaP_dec : Bool → Nat × List (TV U) := fun x => (0, [⟨.bool, x⟩])
def qaP_in : List (TV U) → Option (Bool)
  | [⟨(.st 57), a0⟩] => qaP a0
  | _ => none
def qaP_md : Mode U := ⟨qaP_sh, [], qaP_os, fun ls => .get (qaP_in ls) qaP_tr⟩
theorem qaP_post : ModeOk kk env0 41 qaP_md :=
  fn_of (fn := Tryz.f41) qaP_enc qaP_dec (kitOk_of eqOk mixed known87) (by kernel_rfl) (L := jnL) (loopsOk_of (bs := []) (by kernel_rfl) trivial) (fun _ => rfl) (by intro i qs r h; unfold qaP_enc at h; split at h <;> cases h <;> rfl)
    (by intro ls r h; unfold qaP_in at h; split at h; rw [qaP, sealF_eq] at h; exact Eq.trans (by kernel_rfl) h; cases h)
def ms88 : List (FuncId × Mode U) := (41, qaP_md) :: ms87
theorem known88 : Known kk env0 (modesOf ms88) := known_cons (by kernel_rfl) qaP_post known87
def qaK_sh : StSh := ⟨⟨[0], [], []⟩, [.t (.st 57)], []⟩
def qaK_os : List StSh := [⟨⟨[0], [], []⟩, [.t (.int .i64)], []⟩]
def qaK_tr : Int → Tr (Nat × List (TV U)) := fun x => .ret (0, [⟨(.int .i64), x⟩])
def qaK_in (rec_qaK : TExpr → Option (Int)) : List (TV U) → Option (Int)
  | [⟨(.st 57), a0⟩] => rec_qaK a0
  | _ => none
def qaK_rmd (rec_qaK : TExpr → Option (Int)) : Mode U := ⟨qaK_sh, [], qaK_os, fun ls => .get (qaK_in rec_qaK ls) qaK_tr⟩
def ms89 (rec_qaK : TExpr → Option (Int)) : List (FuncId × Mode U) := (55, (qaK_rmd rec_qaK)) :: ms88
theorem known89 (rec_qaK : TExpr → Option (Int)) (hrec_qaK : ModeOk kk env0 55 (qaK_rmd rec_qaK)) : Known kk env0 (modesOf (ms89 rec_qaK)) := known_cons (by kernel_rfl) hrec_qaK known88
def qaK_sh3 : StSh := ⟨⟨[1, 3, 4], [1], []⟩, [.ptr 1 0, .t (.int .i64), .t (.int .i64)], [.blk 57 [.t (.int .i64), .t (.int .i64), .t .str, .t (.slc (.st 57))]]⟩
def qaK_o3 : List Out := [⟨.exit 0, ⟨⟨[3], [], []⟩, [.t (.int .i64)], []⟩⟩]
def qaK_b3 : Code := (nthLoop (bodyOf Tryz.f55) 0)
def qaK_rec3 (rec : Int → Int → Int → Int → List UInt8 → List (TExpr) → Option (Int)) : List (TV U) → Option (Int)
  | [⟨(.int .i64), a0⟩, ⟨(.int .i64), a1⟩, ⟨(.int .i64), a2⟩, ⟨(.int .i64), a3⟩, ⟨.str, a4⟩, ⟨(.slc (.st 57)), a5⟩] => rec a0 a1 a2 a3 a4 a5
  | _ => none
def qaK_enc3 : Nat → List (TV U) → Option (Int)
  | 0, [⟨(.int .i64), a0⟩] => some a0
  | _, _ => none
def qaK_dec3 : Int → Nat × List (TV U) := fun x => (0, [⟨(.int .i64), x⟩])
def qaK_tr3 : Int → Tr (Nat × List (TV U)) := fun x => .ret (0, [⟨(.int .i64), x⟩])
def qaK_lp3 (rec_qaK : TExpr → Option (Int)) : Lift.Loop U := ⟨qaK_sh3, qaK_o3, fun ls => .get (qaK_rec3 (qaK_l3 rec_qaK) ls) qaK_tr3⟩
theorem qaK_ok3 (rec_qaK : TExpr → Option (Int)) (hrec_qaK : ModeOk kk env0 55 (qaK_rmd rec_qaK)) : LoopR kk env0 Tryz.f55.ntmps qaK_b3 (qaK_lp3 rec_qaK) :=
  loop_of qaK_enc3 qaK_dec3 (fun n => qaK_rec3 (qaK_i3 rec_qaK n)) (kitOk_of eqOk mixed (known89 rec_qaK hrec_qaK)) (L := jnL) (loopsOk_of (bs := []) (by kernel_rfl) trivial) (fun _ => rfl) (by intro i qs r h; unfold qaK_enc3 at h; split at h <;> cases h <;> rfl)
    (by intro ls r h; unfold qaK_rec3 at h; split at h <;> cases h)
    (by intro n ls r h; unfold qaK_rec3 at h; split at h; exact (show _ = qaK_t3 rec_qaK (qaK_i3 rec_qaK n) _ _ _ _ _ _ from by kernel_rfl).trans h; cases h) (by rw [qaK_l3, sealF_eq])
def qaK_L (rec_qaK : TExpr → Option (Int)) : Nat → Option (Lift.Loop U) := fun n => bif Nat.beq n joinKey then some joinMark else bif Nat.beq n 3 then some (qaK_lp3 rec_qaK) else none
def qaK_enc : Nat → List (TV U) → Option (Int)
  | 0, [⟨(.int .i64), a0⟩] => some a0
  | _, _ => none
def qaK_dec : Int → Nat × List (TV U) := fun x => (0, [⟨(.int .i64), x⟩])
def qaK_md : Mode U := qaK_rmd qaK
theorem qaK_step (rec_qaK : TExpr → Option (Int)) (hrec_qaK : ModeOk kk env0 55 (qaK_rmd rec_qaK)) : LoopsOk (Kit.withModes kk (modesOf (ms89 rec_qaK))) env0 Tryz.f55.ntmps (qaK_L rec_qaK) (bodyOf Tryz.f55) := loopsOk_of (bs := [qaK_b3]) (by kernel_rfl) ⟨.inr ⟨_, by kernel_rfl, LoopOk.of_round (qaK_ok3 rec_qaK hrec_qaK)⟩, trivial⟩
theorem qaK_post : ModeOk kk env0 55 (qaK_rmd qaK) :=
  rec_of (K := kk) (F := qaK) qaK_rmd qaK_i (by rw [qaK, sealF_eq]) (rec_zero (by intro ls r h; unfold qaK_in at h; split at h <;> cases h)) (fun n ih => fn_of (fn := Tryz.f55) qaK_enc qaK_dec (kitOk_of eqOk mixed (known89 (qaK_i n) ih)) (by kernel_rfl) (qaK_step (qaK_i n) ih) (fun _ => rfl) (by intro i qs r h; unfold qaK_enc at h; split at h <;> cases h <;> rfl)
    (by intro ls r h; unfold qaK_in at h; split at h; exact (show _ = qaK_f (qaK_i n) _ from by kernel_rfl).trans h; cases h))
def ms90 : List (FuncId × Mode U) := (55, qaK_md) :: ms88
theorem known90 : Known kk env0 (modesOf ms90) := known_cons (by kernel_rfl) qaK_post known88
def qaO_sh : StSh := ⟨⟨[0, 1], [], []⟩, [.t (.slc (.st 78)), .t (.int .i64)], []⟩
def qaO_os : List StSh := [⟨⟨[0], [], []⟩, [.t (.int .i64)], []⟩]
def qaO_tr : Int → Tr (Nat × List (TV U)) := fun x => .ret (0, [⟨(.int .i64), x⟩])
def qaO_in (rec_qaO : List (TStmt) → Int → Option (Int)) : List (TV U) → Option (Int)
  | [⟨(.slc (.st 78)), a0⟩, ⟨(.int .i64), a1⟩] => rec_qaO a0 a1
  | _ => none
def qaO_rmd (rec_qaO : List (TStmt) → Int → Option (Int)) : Mode U := ⟨qaO_sh, [], qaO_os, fun ls => .get (qaO_in rec_qaO ls) qaO_tr⟩
def ms91 (rec_qaO : List (TStmt) → Int → Option (Int)) : List (FuncId × Mode U) := (40, (qaO_rmd rec_qaO)) :: ms90
theorem known91 (rec_qaO : List (TStmt) → Int → Option (Int)) (hrec_qaO : ModeOk kk env0 40 (qaO_rmd rec_qaO)) : Known kk env0 (modesOf (ms91 rec_qaO)) := known_cons (by kernel_rfl) hrec_qaO known90
def qaO_sh3 : StSh := ⟨⟨[0, 1, 5, 6], [], []⟩, [.t (.slc (.st 78)), .t (.int .i64), .t (.int .i64), .t (.int .i64)], []⟩
def qaO_o3 : List Out := [⟨.exit 0, ⟨⟨[5], [], []⟩, [.t (.int .i64)], []⟩⟩]
def qaO_b3 : Code := (nthLoop (bodyOf Tryz.f40) 0)
def qaO_rec3 (rec : List (TStmt) → Int → Int → Int → Option (Int)) : List (TV U) → Option (Int)
  | [⟨(.slc (.st 78)), a0⟩, ⟨(.int .i64), a1⟩, ⟨(.int .i64), a2⟩, ⟨(.int .i64), a3⟩] => rec a0 a1 a2 a3
  | _ => none
def qaO_enc3 : Nat → List (TV U) → Option (Int)
  | 0, [⟨(.int .i64), a0⟩] => some a0
  | _, _ => none
def qaO_dec3 : Int → Nat × List (TV U) := fun x => (0, [⟨(.int .i64), x⟩])
def qaO_tr3 : Int → Tr (Nat × List (TV U)) := fun x => .ret (0, [⟨(.int .i64), x⟩])
def qaO_lp3 (rec_qaO : List (TStmt) → Int → Option (Int)) : Lift.Loop U := ⟨qaO_sh3, qaO_o3, fun ls => .get (qaO_rec3 (qaO_l3 rec_qaO) ls) qaO_tr3⟩
theorem qaO_ok3 (rec_qaO : List (TStmt) → Int → Option (Int)) (hrec_qaO : ModeOk kk env0 40 (qaO_rmd rec_qaO)) : LoopR kk env0 Tryz.f40.ntmps qaO_b3 (qaO_lp3 rec_qaO) :=
  loop_of qaO_enc3 qaO_dec3 (fun n => qaO_rec3 (qaO_i3 rec_qaO n)) (kitOk_of eqOk mixed (known91 rec_qaO hrec_qaO)) (L := jnL) (loopsOk_of (bs := []) (by kernel_rfl) trivial) (fun _ => rfl) (by intro i qs r h; unfold qaO_enc3 at h; split at h <;> cases h <;> rfl)
    (by intro ls r h; unfold qaO_rec3 at h; split at h <;> cases h)
    (by intro n ls r h; unfold qaO_rec3 at h; split at h; exact (show _ = qaO_t3 rec_qaO (qaO_i3 rec_qaO n) _ _ _ _ from by kernel_rfl).trans h; cases h) (by rw [qaO_l3, sealF_eq])
def qaO_L (rec_qaO : List (TStmt) → Int → Option (Int)) : Nat → Option (Lift.Loop U) := fun n => bif Nat.beq n joinKey then some joinMark else bif Nat.beq n 3 then some (qaO_lp3 rec_qaO) else none
def qaO_enc : Nat → List (TV U) → Option (Int)
  | 0, [⟨(.int .i64), a0⟩] => some a0
  | _, _ => none
def qaO_dec : Int → Nat × List (TV U) := fun x => (0, [⟨(.int .i64), x⟩])
def qaO_md : Mode U := qaO_rmd qaO
theorem qaO_step (rec_qaO : List (TStmt) → Int → Option (Int)) (hrec_qaO : ModeOk kk env0 40 (qaO_rmd rec_qaO)) : LoopsOk (Kit.withModes kk (modesOf (ms91 rec_qaO))) env0 Tryz.f40.ntmps (qaO_L rec_qaO) (bodyOf Tryz.f40) := loopsOk_of (bs := [qaO_b3]) (by kernel_rfl) ⟨.inr ⟨_, by kernel_rfl, LoopOk.of_round (qaO_ok3 rec_qaO hrec_qaO)⟩, trivial⟩
theorem qaO_post : ModeOk kk env0 40 (qaO_rmd qaO) :=
  rec_of (K := kk) (F := qaO) qaO_rmd qaO_i (by rw [qaO, sealF_eq]) (rec_zero (by intro ls r h; unfold qaO_in at h; split at h <;> cases h)) (fun n ih => fn_of (fn := Tryz.f40) qaO_enc qaO_dec (kitOk_of eqOk mixed (known91 (qaO_i n) ih)) (by kernel_rfl) (qaO_step (qaO_i n) ih) (fun _ => rfl) (by intro i qs r h; unfold qaO_enc at h; split at h <;> cases h <;> rfl)
    (by intro ls r h; unfold qaO_in at h; split at h; exact (show _ = qaO_f (qaO_i n) _ _ from by kernel_rfl).trans h; cases h))
def ms92 : List (FuncId × Mode U) := (40, qaO_md) :: ms90
theorem known92 : Known kk env0 (modesOf ms92) := known_cons (by kernel_rfl) qaO_post known90
def qaI_sh3 : StSh := ⟨⟨[1, 3, 4], [1], []⟩, [.ptr 1 0, .t (.int .i64), .t (.int .i64)], [.blk 44 [.t (.slc (.st 73)), .t (.slc .str), .t (.slc (.st 53))]]⟩
def qaI_o3 : List Out := [⟨.exit 0, ⟨⟨[3], [], []⟩, [.t (.int .i64)], []⟩⟩]
def qaI_b3 : Code := (nthLoop (bodyOf Tryz.f27) 0)
def qaI_rec3 (rec : Int → Int → List (TCell) → List (List UInt8) → List (TThread) → Option (Int)) : List (TV U) → Option (Int)
  | [⟨(.int .i64), a0⟩, ⟨(.int .i64), a1⟩, ⟨(.slc (.st 73)), a2⟩, ⟨(.slc .str), a3⟩, ⟨(.slc (.st 53)), a4⟩] => rec a0 a1 a2 a3 a4
  | _ => none
def qaI_enc3 : Nat → List (TV U) → Option (Int)
  | 0, [⟨(.int .i64), a0⟩] => some a0
  | _, _ => none
def qaI_dec3 : Int → Nat × List (TV U) := fun x => (0, [⟨(.int .i64), x⟩])
def qaI_tr3 : Int → Tr (Nat × List (TV U)) := fun x => .ret (0, [⟨(.int .i64), x⟩])
def qaI_lp3 : Lift.Loop U := ⟨qaI_sh3, qaI_o3, fun ls => .get (qaI_rec3 qaI_l3 ls) qaI_tr3⟩
theorem qaI_ok3 : LoopR kk env0 Tryz.f27.ntmps qaI_b3 qaI_lp3 :=
  loop_of qaI_enc3 qaI_dec3 (fun n => qaI_rec3 (qaI_i3 n)) (kitOk_of eqOk mixed known92) (L := jnL) (loopsOk_of (bs := []) (by kernel_rfl) trivial) (fun _ => rfl) (by intro i qs r h; unfold qaI_enc3 at h; split at h <;> cases h <;> rfl)
    (by intro ls r h; unfold qaI_rec3 at h; split at h <;> cases h)
    (by intro n ls r h; unfold qaI_rec3 at h; split at h; exact (show _ = qaI_t3 (qaI_i3 n) _ _ _ _ _ from by kernel_rfl).trans h; cases h) (by rw [qaI_l3, sealF_eq])
def qaI_sh : StSh := ⟨⟨[0], [], []⟩, [.t (.st 44)], []⟩
def qaI_os : List StSh := [⟨⟨[0], [], []⟩, [.t (.int .i64)], []⟩]
def qaI_tr : Int → Tr (Nat × List (TV U)) := fun x => .ret (0, [⟨(.int .i64), x⟩])
def qaI_L : Nat → Option (Lift.Loop U) := fun n => bif Nat.beq n joinKey then some joinMark else bif Nat.beq n 3 then some qaI_lp3 else none
def qaI_enc : Nat → List (TV U) → Option (Int)
  | 0, [⟨(.int .i64), a0⟩] => some a0
  | _, _ => none
def qaI_dec : Int → Nat × List (TV U) := fun x => (0, [⟨(.int .i64), x⟩])
def qaI_in : List (TV U) → Option (Int)
  | [⟨(.st 44), a0⟩] => qaI a0
  | _ => none
def qaI_md : Mode U := ⟨qaI_sh, [], qaI_os, fun ls => .get (qaI_in ls) qaI_tr⟩
theorem qaI_post : ModeOk kk env0 27 qaI_md :=
  fn_of (fn := Tryz.f27) qaI_enc qaI_dec (kitOk_of eqOk mixed known92) (by kernel_rfl) (L := qaI_L) (loopsOk_of (bs := [qaI_b3]) (by kernel_rfl) ⟨.inr ⟨_, by kernel_rfl, LoopOk.of_round (qaI_ok3)⟩, trivial⟩) (fun _ => rfl) (by intro i qs r h; unfold qaI_enc at h; split at h <;> cases h <;> rfl)
    (by intro ls r h; unfold qaI_in at h; split at h; rw [qaI, sealF_eq] at h; exact Eq.trans (by kernel_rfl) h; cases h)
def ms93 : List (FuncId × Mode U) := (27, qaI_md) :: ms92
theorem known93 : Known kk env0 (modesOf ms93) := known_cons (by kernel_rfl) qaI_post known92
def qaJ_sh : StSh := ⟨⟨[0], [], []⟩, [.t (.st 57)], []⟩
def qaJ_os : List StSh := [⟨⟨[0], [], []⟩, [.t (.int .i64)], []⟩]
def qaJ_tr : Int → Tr (Nat × List (TV U)) := fun x => .ret (0, [⟨(.int .i64), x⟩])
def qaJ_in (rec_qaJ : TExpr → Option (Int)) : List (TV U) → Option (Int)
  | [⟨(.st 57), a0⟩] => rec_qaJ a0
  | _ => none
def qaJ_rmd (rec_qaJ : TExpr → Option (Int)) : Mode U := ⟨qaJ_sh, [], qaJ_os, fun ls => .get (qaJ_in rec_qaJ ls) qaJ_tr⟩
def ms94 (rec_qaJ : TExpr → Option (Int)) : List (FuncId × Mode U) := (42, (qaJ_rmd rec_qaJ)) :: ms93
theorem known94 (rec_qaJ : TExpr → Option (Int)) (hrec_qaJ : ModeOk kk env0 42 (qaJ_rmd rec_qaJ)) : Known kk env0 (modesOf (ms94 rec_qaJ)) := known_cons (by kernel_rfl) hrec_qaJ known93
def qaJ_sh3 : StSh := ⟨⟨[1, 3, 4], [1], []⟩, [.ptr 1 0, .t (.int .i64), .t (.int .i64)], [.blk 57 [.t (.int .i64), .t (.int .i64), .t .str, .t (.slc (.st 57))]]⟩
def qaJ_o3 : List Out := [⟨.exit 0, ⟨⟨[3], [], []⟩, [.t (.int .i64)], []⟩⟩]
def qaJ_b3 : Code := (nthLoop (bodyOf Tryz.f42) 0)
def qaJ_rec3 (rec : Int → Int → Int → Int → List UInt8 → List (TExpr) → Option (Int)) : List (TV U) → Option (Int)
  | [⟨(.int .i64), a0⟩, ⟨(.int .i64), a1⟩, ⟨(.int .i64), a2⟩, ⟨(.int .i64), a3⟩, ⟨.str, a4⟩, ⟨(.slc (.st 57)), a5⟩] => rec a0 a1 a2 a3 a4 a5
  | _ => none
def qaJ_enc3 : Nat → List (TV U) → Option (Int)
  | 0, [⟨(.int .i64), a0⟩] => some a0
  | _, _ => none
def qaJ_dec3 : Int → Nat × List (TV U) := fun x => (0, [⟨(.int .i64), x⟩])
def qaJ_tr3 : Int → Tr (Nat × List (TV U)) := fun x => .ret (0, [⟨(.int .i64), x⟩])
def qaJ_lp3 (rec_qaJ : TExpr → Option (Int)) : Lift.Loop U := ⟨qaJ_sh3, qaJ_o3, fun ls => .get (qaJ_rec3 (qaJ_l3 rec_qaJ) ls) qaJ_tr3⟩
theorem qaJ_ok3 (rec_qaJ : TExpr → Option (Int)) (hrec_qaJ : ModeOk kk env0 42 (qaJ_rmd rec_qaJ)) : LoopR kk env0 Tryz.f42.ntmps qaJ_b3 (qaJ_lp3 rec_qaJ) :=
  loop_of qaJ_enc3 qaJ_dec3 (fun n => qaJ_rec3 (qaJ_i3 rec_qaJ n)) (kitOk_of eqOk mixed (known94 rec_qaJ hrec_qaJ)) (L := jnL) (loopsOk_of (bs := []) (by kernel_rfl) trivial) (fun _ => rfl) (by intro i qs r h; unfold qaJ_enc3 at h; split at h <;> cases h <;> rfl)
    (by intro ls r h; unfold qaJ_rec3 at h; split at h <;> cases h)
    (by intro n ls r h; unfold qaJ_rec3 at h; split at h; exact (show _ = qaJ_t3 rec_qaJ (qaJ_i3 rec_qaJ n) _ _ _ _ _ _ from by kernel_rfl).trans h; cases h) (by rw [qaJ_l3, sealF_eq])
def qaJ_L (rec_qaJ : TExpr → Option (Int)) : Nat → Option (Lift.Loop U) := fun n => bif Nat.beq n joinKey then some joinMark else bif Nat.beq n 3 then some (qaJ_lp3 rec_qaJ) else none
def qaJ_enc : Nat → List (TV U) → Option (Int)
  | 0, [⟨(.int .i64), a0⟩] => some a0
  | _, _ => none
def qaJ_dec : Int → Nat × List (TV U) := fun x => (0, [⟨(.int .i64), x⟩])
def qaJ_md : Mode U := qaJ_rmd qaJ
theorem qaJ_step (rec_qaJ : TExpr → Option (Int)) (hrec_qaJ : ModeOk kk env0 42 (qaJ_rmd rec_qaJ)) : LoopsOk (Kit.withModes kk (modesOf (ms94 rec_qaJ))) env0 Tryz.f42.ntmps (qaJ_L rec_qaJ) (bodyOf Tryz.f42) := loopsOk_of (bs := [qaJ_b3]) (by kernel_rfl) ⟨.inr ⟨_, by kernel_rfl, LoopOk.of_round (qaJ_ok3 rec_qaJ hrec_qaJ)⟩, trivial⟩
theorem qaJ_post : ModeOk kk env0 42 (qaJ_rmd qaJ) :=
  rec_of (K := kk) (F := qaJ) qaJ_rmd qaJ_i (by rw [qaJ, sealF_eq]) (rec_zero (by intro ls r h; unfold qaJ_in at h; split at h <;> cases h)) (fun n ih => fn_of (fn := Tryz.f42) qaJ_enc qaJ_dec (kitOk_of eqOk mixed (known94 (qaJ_i n) ih)) (by kernel_rfl) (qaJ_step (qaJ_i n) ih) (fun _ => rfl) (by intro i qs r h; unfold qaJ_enc at h; split at h <;> cases h <;> rfl)
    (by intro ls r h; unfold qaJ_in at h; split at h; exact (show _ = qaJ_f (qaJ_i n) _ from by kernel_rfl).trans h; cases h))
def ms95 : List (FuncId × Mode U) := (42, qaJ_md) :: ms93
theorem known95 : Known kk env0 (modesOf ms95) := known_cons (by kernel_rfl) qaJ_post known93
def qaN_sh : StSh := ⟨⟨[0], [], []⟩, [.t (.slc (.st 78))], []⟩
def qaN_os : List StSh := [⟨⟨[0], [], []⟩, [.t (.int .i64)], []⟩]
def qaN_tr : Int → Tr (Nat × List (TV U)) := fun x => .ret (0, [⟨(.int .i64), x⟩])
def qaN_in (rec_qaN : List (TStmt) → Option (Int)) : List (TV U) → Option (Int)
  | [⟨(.slc (.st 78)), a0⟩] => rec_qaN a0
  | _ => none
def qaN_rmd (rec_qaN : List (TStmt) → Option (Int)) : Mode U := ⟨qaN_sh, [], qaN_os, fun ls => .get (qaN_in rec_qaN ls) qaN_tr⟩
def ms96 (rec_qaN : List (TStmt) → Option (Int)) : List (FuncId × Mode U) := (28, (qaN_rmd rec_qaN)) :: ms95
theorem known96 (rec_qaN : List (TStmt) → Option (Int)) (hrec_qaN : ModeOk kk env0 28 (qaN_rmd rec_qaN)) : Known kk env0 (modesOf (ms96 rec_qaN)) := known_cons (by kernel_rfl) hrec_qaN known95
def qaN_sh3 : StSh := ⟨⟨[0, 3, 4], [], []⟩, [.t (.slc (.st 78)), .t (.int .i64), .t (.int .i64)], []⟩
def qaN_o3 : List Out := [⟨.exit 0, ⟨⟨[3], [], []⟩, [.t (.int .i64)], []⟩⟩]
def qaN_b3 : Code := (nthLoop (bodyOf Tryz.f28) 0)
def qaN_rec3 (rec : List (TStmt) → Int → Int → Option (Int)) : List (TV U) → Option (Int)
  | [⟨(.slc (.st 78)), a0⟩, ⟨(.int .i64), a1⟩, ⟨(.int .i64), a2⟩] => rec a0 a1 a2
  | _ => none
def qaN_enc3 : Nat → List (TV U) → Option (Int)
  | 0, [⟨(.int .i64), a0⟩] => some a0
  | _, _ => none
def qaN_dec3 : Int → Nat × List (TV U) := fun x => (0, [⟨(.int .i64), x⟩])
def qaN_tr3 : Int → Tr (Nat × List (TV U)) := fun x => .ret (0, [⟨(.int .i64), x⟩])
def qaN_lp3 (rec_qaN : List (TStmt) → Option (Int)) : Lift.Loop U := ⟨qaN_sh3, qaN_o3, fun ls => .get (qaN_rec3 (qaN_l3 rec_qaN) ls) qaN_tr3⟩
theorem qaN_ok3 (rec_qaN : List (TStmt) → Option (Int)) (hrec_qaN : ModeOk kk env0 28 (qaN_rmd rec_qaN)) : LoopR kk env0 Tryz.f28.ntmps qaN_b3 (qaN_lp3 rec_qaN) :=
  loop_of qaN_enc3 qaN_dec3 (fun n => qaN_rec3 (qaN_i3 rec_qaN n)) (kitOk_of eqOk mixed (known96 rec_qaN hrec_qaN)) (L := jnL) (loopsOk_of (bs := []) (by kernel_rfl) trivial) (fun _ => rfl) (by intro i qs r h; unfold qaN_enc3 at h; split at h <;> cases h <;> rfl)
    (by intro ls r h; unfold qaN_rec3 at h; split at h <;> cases h)
    (by intro n ls r h; unfold qaN_rec3 at h; split at h; exact (show _ = qaN_t3 rec_qaN (qaN_i3 rec_qaN n) _ _ _ from by kernel_rfl).trans h; cases h) (by rw [qaN_l3, sealF_eq])
def qaN_L (rec_qaN : List (TStmt) → Option (Int)) : Nat → Option (Lift.Loop U) := fun n => bif Nat.beq n joinKey then some joinMark else bif Nat.beq n 3 then some (qaN_lp3 rec_qaN) else none
def qaN_enc : Nat → List (TV U) → Option (Int)
  | 0, [⟨(.int .i64), a0⟩] => some a0
  | _, _ => none
def qaN_dec : Int → Nat × List (TV U) := fun x => (0, [⟨(.int .i64), x⟩])
def qaN_md : Mode U := qaN_rmd qaN
theorem qaN_step (rec_qaN : List (TStmt) → Option (Int)) (hrec_qaN : ModeOk kk env0 28 (qaN_rmd rec_qaN)) : LoopsOk (Kit.withModes kk (modesOf (ms96 rec_qaN))) env0 Tryz.f28.ntmps (qaN_L rec_qaN) (bodyOf Tryz.f28) := loopsOk_of (bs := [qaN_b3]) (by kernel_rfl) ⟨.inr ⟨_, by kernel_rfl, LoopOk.of_round (qaN_ok3 rec_qaN hrec_qaN)⟩, trivial⟩
theorem qaN_post : ModeOk kk env0 28 (qaN_rmd qaN) :=
  rec_of (K := kk) (F := qaN) qaN_rmd qaN_i (by rw [qaN, sealF_eq]) (rec_zero (by intro ls r h; unfold qaN_in at h; split at h <;> cases h)) (fun n ih => fn_of (fn := Tryz.f28) qaN_enc qaN_dec (kitOk_of eqOk mixed (known96 (qaN_i n) ih)) (by kernel_rfl) (qaN_step (qaN_i n) ih) (fun _ => rfl) (by intro i qs r h; unfold qaN_enc at h; split at h <;> cases h <;> rfl)
    (by intro ls r h; unfold qaN_in at h; split at h; exact (show _ = qaN_f (qaN_i n) _ from by kernel_rfl).trans h; cases h))
def ms97 : List (FuncId × Mode U) := (28, qaN_md) :: ms95
theorem known97 : Known kk env0 (modesOf ms97) := known_cons (by kernel_rfl) qaN_post known95
def qaH_sh3 : StSh := ⟨⟨[1, 3, 4], [1], []⟩, [.ptr 1 0, .t (.int .i64), .t (.int .i64)], [.blk 44 [.t (.slc (.st 73)), .t (.slc .str), .t (.slc (.st 53))]]⟩
def qaH_o3 : List Out := [⟨.exit 0, ⟨⟨[3], [], []⟩, [.t (.int .i64)], []⟩⟩]
def qaH_b3 : Code := (nthLoop (bodyOf Tryz.f14) 0)
def qaH_rec3 (rec : Int → Int → List (TCell) → List (List UInt8) → List (TThread) → Option (Int)) : List (TV U) → Option (Int)
  | [⟨(.int .i64), a0⟩, ⟨(.int .i64), a1⟩, ⟨(.slc (.st 73)), a2⟩, ⟨(.slc .str), a3⟩, ⟨(.slc (.st 53)), a4⟩] => rec a0 a1 a2 a3 a4
  | _ => none
def qaH_enc3 : Nat → List (TV U) → Option (Int)
  | 0, [⟨(.int .i64), a0⟩] => some a0
  | _, _ => none
def qaH_dec3 : Int → Nat × List (TV U) := fun x => (0, [⟨(.int .i64), x⟩])
def qaH_tr3 : Int → Tr (Nat × List (TV U)) := fun x => .ret (0, [⟨(.int .i64), x⟩])
def qaH_lp3 : Lift.Loop U := ⟨qaH_sh3, qaH_o3, fun ls => .get (qaH_rec3 qaH_l3 ls) qaH_tr3⟩
theorem qaH_ok3 : LoopR kk env0 Tryz.f14.ntmps qaH_b3 qaH_lp3 :=
  loop_of qaH_enc3 qaH_dec3 (fun n => qaH_rec3 (qaH_i3 n)) (kitOk_of eqOk mixed known97) (L := jnL) (loopsOk_of (bs := []) (by kernel_rfl) trivial) (fun _ => rfl) (by intro i qs r h; unfold qaH_enc3 at h; split at h <;> cases h <;> rfl)
    (by intro ls r h; unfold qaH_rec3 at h; split at h <;> cases h)
    (by intro n ls r h; unfold qaH_rec3 at h; split at h; exact (show _ = qaH_t3 (qaH_i3 n) _ _ _ _ _ from by kernel_rfl).trans h; cases h) (by rw [qaH_l3, sealF_eq])
def qaH_sh : StSh := ⟨⟨[0], [], []⟩, [.t (.st 44)], []⟩
def qaH_os : List StSh := [⟨⟨[0], [], []⟩, [.t (.int .i64)], []⟩]
def qaH_tr : Int → Tr (Nat × List (TV U)) := fun x => .ret (0, [⟨(.int .i64), x⟩])
def qaH_L : Nat → Option (Lift.Loop U) := fun n => bif Nat.beq n joinKey then some joinMark else bif Nat.beq n 3 then some qaH_lp3 else none
def qaH_enc : Nat → List (TV U) → Option (Int)
  | 0, [⟨(.int .i64), a0⟩] => some a0
  | _, _ => none
def qaH_dec : Int → Nat × List (TV U) := fun x => (0, [⟨(.int .i64), x⟩])
def qaH_in : List (TV U) → Option (Int)
  | [⟨(.st 44), a0⟩] => qaH a0
  | _ => none
def qaH_md : Mode U := ⟨qaH_sh, [], qaH_os, fun ls => .get (qaH_in ls) qaH_tr⟩
theorem qaH_post : ModeOk kk env0 14 qaH_md :=
  fn_of (fn := Tryz.f14) qaH_enc qaH_dec (kitOk_of eqOk mixed known97) (by kernel_rfl) (L := qaH_L) (loopsOk_of (bs := [qaH_b3]) (by kernel_rfl) ⟨.inr ⟨_, by kernel_rfl, LoopOk.of_round (qaH_ok3)⟩, trivial⟩) (fun _ => rfl) (by intro i qs r h; unfold qaH_enc at h; split at h <;> cases h <;> rfl)
    (by intro ls r h; unfold qaH_in at h; split at h; rw [qaH, sealF_eq] at h; exact Eq.trans (by kernel_rfl) h; cases h)
def ms98 : List (FuncId × Mode U) := (14, qaH_md) :: ms97
theorem known98 : Known kk env0 (modesOf ms98) := known_cons (by kernel_rfl) qaH_post known97
def qaR_sh4 : StSh := ⟨⟨[1, 3], [1], []⟩, [.ptr 1 0, .t (.int .i64)], [.blk 25 [.t (.slc (.int .i64)), .t (.int .i64), .t (.slc (.st 51))]]⟩
def qaR_o4 : List Out := [⟨.ret, ⟨⟨[2], [], []⟩, [.t .bool], []⟩⟩, ⟨.exit 0, ⟨⟨[1], [1], []⟩, [.ptr 1 0], [.blk 25 [.t (.slc (.int .i64)), .t (.int .i64), .t (.slc (.st 51))]]⟩⟩]
def qaR_b4 : Code := (nthLoop (bodyOf Tryz.f12) 0)
def qaR_rec4 (rec : Int → List (Int) → Int → List (TBody) → Option ((Bool) ⊕ ((List (Int)) × Int × (List (TBody))))) : List (TV U) → Option ((Bool) ⊕ ((List (Int)) × Int × (List (TBody))))
  | [⟨(.int .i64), a0⟩, ⟨(.slc (.int .i64)), a1⟩, ⟨(.int .i64), a2⟩, ⟨(.slc (.st 51)), a3⟩] => rec a0 a1 a2 a3
  | _ => none
def qaR_enc4 : Nat → List (TV U) → Option ((Bool) ⊕ ((List (Int)) × Int × (List (TBody))))
  | 0, [⟨.bool, a0⟩] => some (.inl a0)
  | 1, [⟨(.slc (.int .i64)), a0⟩, ⟨(.int .i64), a1⟩, ⟨(.slc (.st 51)), a2⟩] => some (.inr (a0, a1, a2))
  | _, _ => none
def qaR_dec4 : (Bool) ⊕ ((List (Int)) × Int × (List (TBody))) → Nat × List (TV U) := fun r => match r with | (.inl x) => (0, [⟨.bool, x⟩]) | (.inr x) => (1, [⟨(.slc (.int .i64)), x.1⟩, ⟨(.int .i64), x.2.1⟩, ⟨(.slc (.st 51)), x.2.2⟩])
def qaR_tr4 : (Bool) ⊕ ((List (Int)) × Int × (List (TBody))) → Tr (Nat × List (TV U)) := fun r => .alt r (fun x => .ret (0, [⟨.bool, x⟩])) (fun y => (fun x => .ret (1, [⟨(.slc (.int .i64)), x.1⟩, ⟨(.int .i64), x.2.1⟩, ⟨(.slc (.st 51)), x.2.2⟩])) y)
def qaR_lp4 : Lift.Loop U := ⟨qaR_sh4, qaR_o4, fun ls => .get (qaR_rec4 qaR_l4 ls) qaR_tr4⟩
theorem qaR_ok4 : LoopR kk env0 Tryz.f12.ntmps qaR_b4 qaR_lp4 :=
  loop_of qaR_enc4 qaR_dec4 (fun n => qaR_rec4 (qaR_i4 n)) (kitOk_of eqOk mixed known98) (L := jnL) (loopsOk_of (bs := []) (by kernel_rfl) trivial) (by intro r; rcases r with r | r <;> rfl) (by intro i qs r h; unfold qaR_enc4 at h; split at h <;> cases h <;> rfl)
    (by intro ls r h; unfold qaR_rec4 at h; split at h <;> cases h)
    (by intro n ls r h; unfold qaR_rec4 at h; split at h; exact (show _ = qaR_t4 (qaR_i4 n) _ _ _ _ from by kernel_rfl).trans h; cases h) (by rw [qaR_l4, sealF_eq])
def qaR_sh10 : StSh := ⟨⟨[1, 4, 5], [1, 4], [⟨.cell 4 2, 20202, 53, (.st 53)⟩]⟩, [.ptr 1 0, .ptr 4 0, .t (.int .i64)], [.blk 25 [.t (.slc (.int .i64)), .t (.int .i64), .t (.slc (.st 51))], .blk 44 [.nil, .nil, .oslc 20202], .row 53 (.st 53)]⟩
def qaR_o10 : List Out := [⟨.ret, ⟨⟨[2], [], []⟩, [.t .bool], []⟩⟩, ⟨.exit 2, ⟨⟨[4], [4], [⟨.cell 4 2, 20202, 53, (.st 53)⟩]⟩, [.ptr 4 0], [.blk 44 [.nil, .nil, .oslc 20202], .row 53 (.st 53)]⟩⟩]
def qaR_b10 : Code := (nthLoop (bodyOf Tryz.f12) 1)
def qaR_rec10 (rec : Int → List (Int) → Int → List (TBody) → List (TThread) → Option ((Bool) ⊕ ((List (TThread))))) : List (TV U) → Option ((Bool) ⊕ ((List (TThread))))
  | [⟨(.int .i64), a0⟩, ⟨(.slc (.int .i64)), a1⟩, ⟨(.int .i64), a2⟩, ⟨(.slc (.st 51)), a3⟩, ⟨(.slc (.st 53)), a4⟩] => rec a0 a1 a2 a3 a4
  | _ => none
def qaR_enc10 : Nat → List (TV U) → Option ((Bool) ⊕ ((List (TThread))))
  | 0, [⟨.bool, a0⟩] => some (.inl a0)
  | 1, [⟨(.slc (.st 53)), a0⟩] => some (.inr a0)
  | _, _ => none
def qaR_dec10 : (Bool) ⊕ ((List (TThread))) → Nat × List (TV U) := fun r => match r with | (.inl x) => (0, [⟨.bool, x⟩]) | (.inr x) => (1, [⟨(.slc (.st 53)), x⟩])
def qaR_tr10 : (Bool) ⊕ ((List (TThread))) → Tr (Nat × List (TV U)) := fun r => .alt r (fun x => .ret (0, [⟨.bool, x⟩])) (fun y => (fun x => .ret (1, [⟨(.slc (.st 53)), x⟩])) y)
def qaR_lp10 : Lift.Loop U := ⟨qaR_sh10, qaR_o10, fun ls => .get (qaR_rec10 qaR_l10 ls) qaR_tr10⟩
theorem qaR_ok10 : LoopR kk env0 Tryz.f12.ntmps qaR_b10 qaR_lp10 :=
  loop_of qaR_enc10 qaR_dec10 (fun n => qaR_rec10 (qaR_i10 n)) (kitOk_of eqOk mixed known98) (L := jnL) (loopsOk_of (bs := []) (by kernel_rfl) trivial) (by intro r; rcases r with r | r <;> rfl) (by intro i qs r h; unfold qaR_enc10 at h; split at h <;> cases h <;> rfl)
    (by intro ls r h; unfold qaR_rec10 at h; split at h <;> cases h)
    (by intro n ls r h; unfold qaR_rec10 at h; split at h; exact (show _ = qaR_t10 (qaR_i10 n) _ _ _ _ _ from by kernel_rfl).trans h; cases h) (by rw [qaR_l10, sealF_eq])
def qaR_sh : StSh := ⟨⟨[0], [], []⟩, [.t (.st 25)], []⟩
def qaR_os : List StSh := [⟨⟨[0], [], []⟩, [.t .bool], []⟩]
def qaR_tr : Bool → Tr (Nat × List (TV U)) := fun x => .ret (0, [⟨.bool, x⟩])
def qaR_L : Nat → Option (Lift.Loop U) := fun n => bif Nat.beq n joinKey then some joinMark else bif Nat.beq n 4 then some qaR_lp4 else bif Nat.beq n 10 then some qaR_lp10 else none
def qaR_enc : Nat → List (TV U) → Option (Bool)
  | 0, [⟨.bool, a0⟩] => some a0
  | _, _ => none
def qaR_dec : Bool → Nat × List (TV U) := fun x => (0, [⟨.bool, x⟩])
def qaR_in : List (TV U) → Option (Bool)
  | [⟨(.st 25), a0⟩] => qaR a0
  | _ => none
def qaR_md : Mode U := ⟨qaR_sh, [], qaR_os, fun ls => .get (qaR_in ls) qaR_tr⟩
theorem qaR_post : ModeOk kk env0 12 qaR_md :=
  fn_of (fn := Tryz.f12) qaR_enc qaR_dec (kitOk_of eqOk mixed known98) (by kernel_rfl) (L := qaR_L) (loopsOk_of (bs := [qaR_b4, qaR_b10]) (by kernel_rfl) ⟨.inr ⟨_, by kernel_rfl, LoopOk.of_round (qaR_ok4)⟩, .inr ⟨_, by kernel_rfl, LoopOk.of_round (qaR_ok10)⟩, trivial⟩) (fun _ => rfl) (by intro i qs r h; unfold qaR_enc at h; split at h <;> cases h <;> rfl)
    (by intro ls r h; unfold qaR_in at h; split at h; rw [qaR, sealF_eq] at h; exact Eq.trans (by kernel_rfl) h; cases h)
def ms99 : List (FuncId × Mode U) := (12, qaR_md) :: ms98
theorem known99 : Known kk env0 (modesOf ms99) := known_cons (by kernel_rfl) qaR_post known98
def qaF_sh22 : StSh := ⟨⟨[1, 5, 7, 11, 13], [1, 5], [⟨.slot 11, 11, 38, (.st 38)⟩, ⟨.cell 5 0, 20250, 3, (.int .i64)⟩, ⟨.cell 5 2, 20252, 36, (.st 1036)⟩]⟩, [.ptr 1 0, .ptr 5 0, .t (.int .i64), .oslc 11, .t (.int .i64)], [.blk 25 [.t (.slc (.int .i64)), .t (.int .i64), .t (.slc (.st 51))], .blk 29 [.oslc 20250, .t (.int .i64), .oslc 20252], .row 38 (.st 38), .row 3 (.int .i64), .opn 36 (.st 1036) [.t (.int .i64), .oslc 11]]⟩
def qaF_o22 : List Out := [⟨.ret, ⟨⟨[2], [], []⟩, [.t .bool], []⟩⟩, ⟨.exit 2, ⟨⟨[1, 5, 7], [1, 5], [⟨.cell 5 0, 20250, 3, (.int .i64)⟩, ⟨.cell 5 2, 20252, 36, (.st 1036)⟩]⟩, [.ptr 1 0, .ptr 5 0, .t (.int .i64)], [.blk 25 [.t (.slc (.int .i64)), .t (.int .i64), .t (.slc (.st 51))], .blk 29 [.oslc 20250, .t (.int .i64), .oslc 20252], .row 3 (.int .i64), .row 36 (.st 1036)]⟩⟩]
def qaF_b22 : Code := (nthLoop (nthLoop (bodyOf Tryz.f5) 0) 0)
def qaF_rec22 (rec : Int → Int → List (Int) → Int → List (TBody) → Int → List (Instr) → List (Int) → List (ACode) → Nat → Int → Option ((Bool) ⊕ (Int × (List (Int)) × Int × (List (TBody)) × Int × (List (Int)) × (List (ACode))))) : List (TV U) → Option ((Bool) ⊕ (Int × (List (Int)) × Int × (List (TBody)) × Int × (List (Int)) × (List (ACode))))
  | [⟨(.int .i64), a0⟩, ⟨(.int .i64), a1⟩, ⟨(.slc (.int .i64)), a2⟩, ⟨(.int .i64), a3⟩, ⟨(.slc (.st 51)), a4⟩, ⟨(.int .i64), a5⟩, ⟨(.slc (.st 38)), a6⟩, ⟨(.slc (.int .i64)), a7⟩, ⟨(.slc (.st 1036)), a8⟩, ⟨.fn, a9⟩, ⟨(.int .i64), a10⟩] => rec a0 a1 a2 a3 a4 a5 a6 a7 a8 a9 a10
  | _ => none
def qaF_enc22 : Nat → List (TV U) → Option ((Bool) ⊕ (Int × (List (Int)) × Int × (List (TBody)) × Int × (List (Int)) × (List (ACode))))
  | 0, [⟨.bool, a0⟩] => some (.inl a0)
  | 1, [⟨(.int .i64), a0⟩, ⟨(.slc (.int .i64)), a1⟩, ⟨(.int .i64), a2⟩, ⟨(.slc (.st 51)), a3⟩, ⟨(.int .i64), a4⟩, ⟨(.slc (.int .i64)), a5⟩, ⟨(.slc (.st 1036)), a6⟩] => some (.inr (a0, a1, a2, a3, a4, a5, a6))
  | _, _ => none
def qaF_dec22 : (Bool) ⊕ (Int × (List (Int)) × Int × (List (TBody)) × Int × (List (Int)) × (List (ACode))) → Nat × List (TV U) := fun r => match r with | (.inl x) => (0, [⟨.bool, x⟩]) | (.inr x) => (1, [⟨(.int .i64), x.1⟩, ⟨(.slc (.int .i64)), x.2.1⟩, ⟨(.int .i64), x.2.2.1⟩, ⟨(.slc (.st 51)), x.2.2.2.1⟩, ⟨(.int .i64), x.2.2.2.2.1⟩, ⟨(.slc (.int .i64)), x.2.2.2.2.2.1⟩, ⟨(.slc (.st 1036)), x.2.2.2.2.2.2⟩])
def qaF_tr22 : (Bool) ⊕ (Int × (List (Int)) × Int × (List (TBody)) × Int × (List (Int)) × (List (ACode))) → Tr (Nat × List (TV U)) := fun r => .alt r (fun x => .ret (0, [⟨.bool, x⟩])) (fun y => (fun x => .ret (1, [⟨(.int .i64), x.1⟩, ⟨(.slc (.int .i64)), x.2.1⟩, ⟨(.int .i64), x.2.2.1⟩, ⟨(.slc (.st 51)), x.2.2.2.1⟩, ⟨(.int .i64), x.2.2.2.2.1⟩, ⟨(.slc (.int .i64)), x.2.2.2.2.2.1⟩, ⟨(.slc (.st 1036)), x.2.2.2.2.2.2⟩])) y)
def qaF_lp22 : Lift.Loop U := ⟨qaF_sh22, qaF_o22, fun ls => .get (qaF_rec22 qaF_l22 ls) qaF_tr22⟩
theorem qaF_ok22 : LoopR kk env0 Tryz.f5.ntmps qaF_b22 qaF_lp22 :=
  loop_of qaF_enc22 qaF_dec22 (fun n => qaF_rec22 (qaF_i22 n)) (kitOk_of eqOk mixed known99) (L := jnL) (loopsOk_of (bs := []) (by kernel_rfl) trivial) (by intro r; rcases r with r | r <;> rfl) (by intro i qs r h; unfold qaF_enc22 at h; split at h <;> cases h <;> rfl)
    (by intro ls r h; unfold qaF_rec22 at h; split at h <;> cases h)
    (by intro n ls r h; unfold qaF_rec22 at h; split at h; exact (show _ = qaF_t22 (qaF_i22 n) _ _ _ _ _ _ _ _ _ _ _ from by kernel_rfl).trans h; cases h) (by rw [qaF_l22, sealF_eq])
def qaF_sh11 : StSh := ⟨⟨[1, 5, 7], [1, 5], [⟨.cell 5 0, 20250, 3, (.int .i64)⟩, ⟨.cell 5 2, 20252, 36, (.st 1036)⟩]⟩, [.ptr 1 0, .ptr 5 0, .t (.int .i64)], [.blk 25 [.t (.slc (.int .i64)), .t (.int .i64), .t (.slc (.st 51))], .blk 29 [.oslc 20250, .t (.int .i64), .oslc 20252], .row 3 (.int .i64), .row 36 (.st 1036)]⟩
def qaF_o11 : List Out := [⟨.ret, ⟨⟨[2], [], []⟩, [.t .bool], []⟩⟩, ⟨.exit 0, ⟨⟨[], [], []⟩, [], []⟩⟩]
def qaF_b11 : Code := (nthLoop (bodyOf Tryz.f5) 0)
def qaF_L11 : Nat → Option (Lift.Loop U) := fun n => bif Nat.beq n joinKey then some joinMark else bif Nat.beq n 22 then some qaF_lp22 else none
def qaF_rec11 (rec : Int → List (Int) → Int → List (TBody) → Int → List (Int) → List (ACode) → Option ((Bool) ⊕ (Unit))) : List (TV U) → Option ((Bool) ⊕ (Unit))
  | [⟨(.int .i64), a0⟩, ⟨(.slc (.int .i64)), a1⟩, ⟨(.int .i64), a2⟩, ⟨(.slc (.st 51)), a3⟩, ⟨(.int .i64), a4⟩, ⟨(.slc (.int .i64)), a5⟩, ⟨(.slc (.st 1036)), a6⟩] => rec a0 a1 a2 a3 a4 a5 a6
  | _ => none
def qaF_enc11 : Nat → List (TV U) → Option ((Bool) ⊕ (Unit))
  | 0, [⟨.bool, a0⟩] => some (.inl a0)
  | 1, [] => some (.inr ())
  | _, _ => none
def qaF_dec11 : (Bool) ⊕ (Unit) → Nat × List (TV U) := fun r => match r with | (.inl x) => (0, [⟨.bool, x⟩]) | (.inr x) => (1, [])
def qaF_tr11 : (Bool) ⊕ (Unit) → Tr (Nat × List (TV U)) := fun r => .alt r (fun x => .ret (0, [⟨.bool, x⟩])) (fun y => (fun x => .ret (1, [])) y)
def qaF_lp11 : Lift.Loop U := ⟨qaF_sh11, qaF_o11, fun ls => .get (qaF_rec11 qaF_l11 ls) qaF_tr11⟩
theorem qaF_ok11 : LoopR kk env0 Tryz.f5.ntmps qaF_b11 qaF_lp11 :=
  loop_of qaF_enc11 qaF_dec11 (fun n => qaF_rec11 (qaF_i11 n)) (kitOk_of eqOk mixed known99) (L := qaF_L11) (loopsOk_of (bs := [qaF_b22]) (by kernel_rfl) ⟨.inr ⟨_, by kernel_rfl, LoopOk.of_round (qaF_ok22)⟩, trivial⟩) (by intro r; rcases r with r | r <;> rfl) (by intro i qs r h; unfold qaF_enc11 at h; split at h <;> cases h <;> rfl)
    (by intro ls r h; unfold qaF_rec11 at h; split at h <;> cases h)
    (by intro n ls r h; unfold qaF_rec11 at h; split at h; exact (show _ = qaF_t11 (qaF_i11 n) _ _ _ _ _ _ _ from by kernel_rfl).trans h; cases h) (by rw [qaF_l11, sealF_eq])
def qaF_sh : StSh := ⟨⟨[0], [], []⟩, [.t (.st 25)], []⟩
def qaF_os : List StSh := [⟨⟨[0], [], []⟩, [.t .bool], []⟩]
def qaF_tr : Bool → Tr (Nat × List (TV U)) := fun x => .ret (0, [⟨.bool, x⟩])
def qaF_L : Nat → Option (Lift.Loop U) := fun n => bif Nat.beq n joinKey then some joinMark else bif Nat.beq n 11 then some qaF_lp11 else none
def qaF_enc : Nat → List (TV U) → Option (Bool)
  | 0, [⟨.bool, a0⟩] => some a0
  | _, _ => none
def qaF_dec : Bool → Nat × List (TV U) := fun x => (0, [⟨.bool, x⟩])
def qaF_in : List (TV U) → Option (Bool)
  | [⟨(.st 25), a0⟩] => qaF a0
  | _ => none
def qaF_md : Mode U := ⟨qaF_sh, [], qaF_os, fun ls => .get (qaF_in ls) qaF_tr⟩
theorem qaF_post : ModeOk kk env0 5 qaF_md :=
  fn_of (fn := Tryz.f5) qaF_enc qaF_dec (kitOk_of eqOk mixed known99) (by kernel_rfl) (L := qaF_L) (loopsOk_of (bs := [qaF_b11]) (by kernel_rfl) ⟨.inr ⟨_, by kernel_rfl, LoopOk.of_round (qaF_ok11)⟩, trivial⟩) (fun _ => rfl) (by intro i qs r h; unfold qaF_enc at h; split at h <;> cases h <;> rfl)
    (by intro ls r h; unfold qaF_in at h; split at h; rw [qaF, sealF_eq] at h; exact Eq.trans (by kernel_rfl) h; cases h)
end
end Lift.F9
