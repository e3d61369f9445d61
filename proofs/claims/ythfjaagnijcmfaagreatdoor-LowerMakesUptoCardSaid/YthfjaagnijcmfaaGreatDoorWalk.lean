/-
  DERIVED. Each function of this seat computes its Lean function. Conditions: as each theorem says.
-/
import Derived.Test.YthfjaagnijcmfaaGreatDoorDefs
set_option linter.unusedVariables false
set_option linter.unusedSimpArgs false
set_option linter.unusedSectionVars false
namespace Lift.F9
noncomputable section
open Go Go.RowKit Go.Proofs Lift Lift.Fn
def qaq_sh3 : StSh := ⟨⟨[3, 4, 5], [], [⟨.slot 3, 3, 9, .str⟩]⟩, [.oslc 3, .t (.int .i64), .t (.int .i64)], [.row 9 .str]⟩
def qaq_o3 : List Out := [⟨.exit 0, ⟨⟨[3], [], [⟨.slot 3, 3, 9, .str⟩]⟩, [.oslc 3], [.row 9 .str]⟩⟩]
def qaq_b3 : Code := (zaai (zaag Tryz.f33) 0)
def qaq_rec3 (rec : Int → Int → List (List UInt8) → Option ((List (List UInt8)))) : List (TV U) → Option ((List (List UInt8)))
  | [⟨(.int .i64), a0⟩, ⟨(.int .i64), a1⟩, ⟨(.slc .str), a2⟩] => rec a0 a1 a2
  | _ => none
def qaq_enc3 : Nat → List (TV U) → Option ((List (List UInt8)))
  | 0, [⟨(.slc .str), a0⟩] => some a0
  | _, _ => none
def qaq_dec3 : (List (List UInt8)) → Nat × List (TV U) := fun x => (0, [⟨(.slc .str), x⟩])
def qaq_tr3 : (List (List UInt8)) → Tr (Nat × List (TV U)) := fun x => .ret (0, [⟨(.slc .str), x⟩])
def qaq_lp3 : Lift.Loop U := ⟨qaq_sh3, qaq_o3, fun ls => .get (qaq_rec3 qaq_l3 ls) qaq_tr3⟩
theorem qaq_ok3 : LoopR kk env0 Tryz.f33.ntmps qaq_b3 qaq_lp3 :=
  zaaj qaq_enc3 qaq_dec3 (fun n => qaq_rec3 (qaq_i3 n)) (zaac eqOk mixed known5) (L := jnL) (zaab (bs := []) (by kernel_rfl) trivial) (fun _ => rfl) (by intro i qs r h; unfold qaq_enc3 at h; split at h <;> cases h <;> rfl)
    (by intro ls r h; unfold qaq_rec3 at h; split at h <;> cases h)
    (by intro n ls r h; unfold qaq_rec3 at h; split at h; exact (show _ = qaq_t3 (qaq_i3 n) _ _ _ from by kernel_rfl).trans h; cases h) (by rw [qaq_l3, zaaa])
def qaq_sh : StSh := ⟨⟨[0], [], []⟩, [.t (.int .i64)], []⟩
def qaq_os : List StSh := [⟨⟨[0], [], [⟨.slot 0, 100000, 9, .str⟩]⟩, [.oslc 100000], [.row 9 .str]⟩]
def qaq_tr : (List (List UInt8)) → Tr (Nat × List (TV U)) := fun x => .ret (0, [⟨(.slc .str), x⟩])
def qaq_L : Nat → Option (Lift.Loop U) := fun n => bif Nat.beq n zaap then some zaam else bif Nat.beq n 3 then some qaq_lp3 else none
def qaq_enc : Nat → List (TV U) → Option ((List (List UInt8)))
  | 0, [⟨(.slc .str), a0⟩] => some a0
  | _, _ => none
def qaq_dec : (List (List UInt8)) → Nat × List (TV U) := fun x => (0, [⟨(.slc .str), x⟩])
def qaq_in : List (TV U) → Option ((List (List UInt8)))
  | [⟨(.int .i64), a0⟩] => qaq a0
  | _ => none
def qaq_md : Mode U := ⟨qaq_sh, [], qaq_os, fun ls => .get (qaq_in ls) qaq_tr⟩
theorem qaq_post : zaad kk env0 33 qaq_md :=
  fn_of (fn := Tryz.f33) qaq_enc qaq_dec (zaac eqOk mixed known5) (by kernel_rfl) (L := qaq_L) (zaab (bs := [qaq_b3]) (by kernel_rfl) ⟨.inr ⟨_, by kernel_rfl, zaak.of_round (qaq_ok3)⟩, trivial⟩) (fun _ => rfl) (by intro i qs r h; unfold qaq_enc at h; split at h <;> cases h <;> rfl)
    (by intro ls r h; unfold qaq_in at h; split at h; rw [qaq, zaaa] at h; exact Eq.trans (by kernel_rfl) h; cases h)
def ms6 : List (FuncId × Mode U) := (33, qaq_md) :: ms5
theorem known6 : Known kk env0 (zaae ms6) := known_cons (by kernel_rfl) qaq_post known5
def qbf_sh : StSh := ⟨⟨[0], [], []⟩, [.t (.slc .str)], []⟩
def qbf_os : List StSh := [⟨⟨[0], [], [⟨.slot 0, 100000, 9, .str⟩]⟩, [.oslc 100000], [.row 9 .str]⟩]
def qbf_tr : (List (List UInt8)) → Tr (Nat × List (TV U)) := fun x => .ret (0, [⟨(.slc .str), x⟩])
def qbf_enc : Nat → List (TV U) → Option ((List (List UInt8)))
  | 0, [⟨(.slc .str), a0⟩] => some a0
  | _, _ => none
def qbf_dec : (List (List UInt8)) → Nat × List (TV U) := fun x => (0, [⟨(.slc .str), x⟩])
def qbf_in : List (TV U) → Option ((List (List UInt8)))
  | [⟨(.slc .str), a0⟩] => qbf a0
  | _ => none
def qbf_md : Mode U := ⟨qbf_sh, [], qbf_os, fun ls => .get (qbf_in ls) qbf_tr⟩
theorem qbf_post : zaad kk env0 47 qbf_md :=
  fn_of (fn := Tryz.f47) qbf_enc qbf_dec (zaac eqOk mixed known6) (by kernel_rfl) (L := jnL) (zaab (bs := []) (by kernel_rfl) trivial) (fun _ => rfl) (by intro i qs r h; unfold qbf_enc at h; split at h <;> cases h <;> rfl)
    (by intro ls r h; unfold qbf_in at h; split at h; rw [qbf, zaaa] at h; exact Eq.trans (by kernel_rfl) h; cases h)
def ms7 : List (FuncId × Mode U) := (47, qbf_md) :: ms6
theorem known7 : Known kk env0 (zaae ms7) := known_cons (by kernel_rfl) qbf_post known6
def qbd_sh : StSh := ⟨⟨[0], [], [⟨.slot 0, 0, 9, .str⟩]⟩, [.oslc 0], [.row 9 .str]⟩
def qbd_os : List StSh := [⟨⟨[0], [], [⟨.slot 0, 100000, 9, .str⟩]⟩, [.oslc 100000], [.row 9 .str]⟩]
def qbd_tr : (List (List UInt8)) → Tr (Nat × List (TV U)) := fun x => .ret (0, [⟨(.slc .str), x⟩])
def qbd_enc : Nat → List (TV U) → Option ((List (List UInt8)))
  | 0, [⟨(.slc .str), a0⟩] => some a0
  | _, _ => none
def qbd_dec : (List (List UInt8)) → Nat × List (TV U) := fun x => (0, [⟨(.slc .str), x⟩])
def qbd_in : List (TV U) → Option ((List (List UInt8)))
  | [⟨(.slc .str), a0⟩] => qbd a0
  | _ => none
def qbd_md : Mode U := ⟨qbd_sh, [], qbd_os, fun ls => .get (qbd_in ls) qbd_tr⟩
theorem qbd_post : zaad kk env0 46 qbd_md :=
  fn_of (fn := Tryz.f46) qbd_enc qbd_dec (zaac eqOk mixed known7) (by kernel_rfl) (L := jnL) (zaab (bs := []) (by kernel_rfl) trivial) (fun _ => rfl) (by intro i qs r h; unfold qbd_enc at h; split at h <;> cases h <;> rfl)
    (by intro ls r h; unfold qbd_in at h; split at h; rw [qbd, zaaa] at h; exact Eq.trans (by kernel_rfl) h; cases h)
def ms8 : List (FuncId × Mode U) := (46, qbd_md) :: ms7
theorem known8 : Known kk env0 (zaae ms8) := known_cons (by kernel_rfl) qbd_post known7
def qam_sh : StSh := ⟨⟨[0, 1], [], []⟩, [.t (.slc .str), .t (.int .i64)], []⟩
def qam_os : List StSh := [⟨⟨[0], [], []⟩, [.t .str], []⟩]
def qam_tr : (List UInt8) → Tr (Nat × List (TV U)) := fun x => .ret (0, [⟨.str, x⟩])
def qam_enc : Nat → List (TV U) → Option ((List UInt8))
  | 0, [⟨.str, a0⟩] => some a0
  | _, _ => none
def qam_dec : (List UInt8) → Nat × List (TV U) := fun x => (0, [⟨.str, x⟩])
def qam_in : List (TV U) → Option ((List UInt8))
  | [⟨(.slc .str), a0⟩, ⟨(.int .i64), a1⟩] => qam a0 a1
  | _ => none
def qam_md : Mode U := ⟨qam_sh, [], qam_os, fun ls => .get (qam_in ls) qam_tr⟩
theorem qam_post : zaad kk env0 68 qam_md :=
  fn_of (fn := Tryz.f68) qam_enc qam_dec (zaac eqOk mixed known8) (by kernel_rfl) (L := jnL) (zaab (bs := []) (by kernel_rfl) trivial) (fun _ => rfl) (by intro i qs r h; unfold qam_enc at h; split at h <;> cases h <;> rfl)
    (by intro ls r h; unfold qam_in at h; split at h; rw [qam, zaaa] at h; exact Eq.trans (by kernel_rfl) h; cases h)
def ms9 : List (FuncId × Mode U) := (68, qam_md) :: ms8
theorem known9 : Known kk env0 (zaae ms9) := known_cons (by kernel_rfl) qam_post known8
def qaa_sh : StSh := ⟨⟨[0, 1], [], []⟩, [.t (.st 100), .t (.st 57)], []⟩
def qaa_os : List StSh := [⟨⟨[0], [], [⟨.sub 0 3, 100400, 57, (.st 1057)⟩]⟩, [.agg [.t (.int .i64), .t (.int .i64), .t .str, .oslc 100400]], [.row 57 (.st 1057)]⟩]
def qaa_tr : Int × Int × (List UInt8) × (List TExpr) → Tr (Nat × List (TV U)) := fun x => .ret (0, [⟨(.int .i64), x.1⟩, ⟨(.int .i64), x.2.1⟩, ⟨.str, x.2.2.1⟩, ⟨(.slc (.st 1057)), x.2.2.2⟩])
def qaa_in (rec_qaa : Namer → TExpr → Option (Int × Int × (List UInt8) × (List TExpr))) : List (TV U) → Option (Int × Int × (List UInt8) × (List TExpr))
  | [⟨(.st 100), a0⟩, ⟨(.st 57), a1⟩] => rec_qaa a0 a1
  | _ => none
def qaa_rmd (rec_qaa : Namer → TExpr → Option (Int × Int × (List UInt8) × (List TExpr))) : Mode U := ⟨qaa_sh, [], qaa_os, fun ls => .get (qaa_in rec_qaa ls) qaa_tr⟩
def ms10 (rec_qaa : Namer → TExpr → Option (Int × Int × (List UInt8) × (List TExpr))) : List (FuncId × Mode U) := (66, (qaa_rmd rec_qaa)) :: ms9
theorem known10 (rec_qaa : Namer → TExpr → Option (Int × Int × (List UInt8) × (List TExpr))) (hrec_qaa : zaad kk env0 66 (qaa_rmd rec_qaa)) : Known kk env0 (zaae (ms10 rec_qaa)) := known_cons (by kernel_rfl) hrec_qaa known9
def qaa_sh8 : StSh := ⟨⟨[2, 4, 5, 30, 31, 32], [2, 4, 5], [⟨.cell 5 3, 20253, 57, (.st 1057)⟩]⟩, [.ptr 2 0, .ptr 4 0, .ptr 5 0, .t (.slc (.st 57)), .t (.int .i64), .t (.int .i64)], [.blk 100 [.t (.slc .str), .t (.slc .str), .t (.slc .str), .t (.slc .str)], .blk 57 [.t (.int .i64), .t (.int .i64), .t .str, .nil], .blk 57 [.t (.int .i64), .t (.int .i64), .t .str, .oslc 20253], .row 57 (.st 1057)]⟩
def qaa_o8 : List Out := [⟨.exit 0, ⟨⟨[4, 5], [4, 5], [⟨.cell 5 3, 20253, 57, (.st 1057)⟩]⟩, [.ptr 4 0, .ptr 5 0], [.blk 57 [.t (.int .i64), .t (.int .i64), .t .str, .nil], .blk 57 [.t (.int .i64), .t (.int .i64), .t .str, .oslc 20253], .row 57 (.st 1057)]⟩⟩]
def qaa_b8 : Code := (zaai (zaag Tryz.f66) 0)
def qaa_rec8 (rec : List TExpr → Int → Int → List (List UInt8) → List (List UInt8) → List (List UInt8) → List (List UInt8) → Int → Int → List UInt8 → Int → Int → List UInt8 → List TExpr → Option (Int × Int × (List UInt8) × Int × Int × (List UInt8) × (List TExpr))) : List (TV U) → Option (Int × Int × (List UInt8) × Int × Int × (List UInt8) × (List TExpr))
  | [⟨(.slc (.st 57)), a0⟩, ⟨(.int .i64), a1⟩, ⟨(.int .i64), a2⟩, ⟨(.slc .str), a3⟩, ⟨(.slc .str), a4⟩, ⟨(.slc .str), a5⟩, ⟨(.slc .str), a6⟩, ⟨(.int .i64), a7⟩, ⟨(.int .i64), a8⟩, ⟨.str, a9⟩, ⟨(.int .i64), a10⟩, ⟨(.int .i64), a11⟩, ⟨.str, a12⟩, ⟨(.slc (.st 1057)), a13⟩] => rec a0 a1 a2 a3 a4 a5 a6 a7 a8 a9 a10 a11 a12 a13
  | _ => none
def qaa_enc8 : Nat → List (TV U) → Option (Int × Int × (List UInt8) × Int × Int × (List UInt8) × (List TExpr))
  | 0, [⟨(.int .i64), a0⟩, ⟨(.int .i64), a1⟩, ⟨.str, a2⟩, ⟨(.int .i64), a3⟩, ⟨(.int .i64), a4⟩, ⟨.str, a5⟩, ⟨(.slc (.st 1057)), a6⟩] => some (a0, a1, a2, a3, a4, a5, a6)
  | _, _ => none
def qaa_dec8 : Int × Int × (List UInt8) × Int × Int × (List UInt8) × (List TExpr) → Nat × List (TV U) := fun x => (0, [⟨(.int .i64), x.1⟩, ⟨(.int .i64), x.2.1⟩, ⟨.str, x.2.2.1⟩, ⟨(.int .i64), x.2.2.2.1⟩, ⟨(.int .i64), x.2.2.2.2.1⟩, ⟨.str, x.2.2.2.2.2.1⟩, ⟨(.slc (.st 1057)), x.2.2.2.2.2.2⟩])
def qaa_tr8 : Int × Int × (List UInt8) × Int × Int × (List UInt8) × (List TExpr) → Tr (Nat × List (TV U)) := fun x => .ret (0, [⟨(.int .i64), x.1⟩, ⟨(.int .i64), x.2.1⟩, ⟨.str, x.2.2.1⟩, ⟨(.int .i64), x.2.2.2.1⟩, ⟨(.int .i64), x.2.2.2.2.1⟩, ⟨.str, x.2.2.2.2.2.1⟩, ⟨(.slc (.st 1057)), x.2.2.2.2.2.2⟩])
def qaa_lp8 (rec_qaa : Namer → TExpr → Option (Int × Int × (List UInt8) × (List TExpr))) : Lift.Loop U := ⟨qaa_sh8, qaa_o8, fun ls => .get (qaa_rec8 (qaa_l8 rec_qaa) ls) qaa_tr8⟩
theorem qaa_ok8 (rec_qaa : Namer → TExpr → Option (Int × Int × (List UInt8) × (List TExpr))) (hrec_qaa : zaad kk env0 66 (qaa_rmd rec_qaa)) : LoopR kk env0 Tryz.f66.ntmps qaa_b8 (qaa_lp8 rec_qaa) :=
  zaaj qaa_enc8 qaa_dec8 (fun n => qaa_rec8 (qaa_i8 rec_qaa n)) (zaac eqOk mixed (known10 rec_qaa hrec_qaa)) (L := jnL) (zaab (bs := []) (by kernel_rfl) trivial) (fun _ => rfl) (by intro i qs r h; unfold qaa_enc8 at h; split at h <;> cases h <;> rfl)
    (by intro ls r h; unfold qaa_rec8 at h; split at h <;> cases h)
    (by intro n ls r h; unfold qaa_rec8 at h; split at h; exact (show _ = qaa_t8 rec_qaa (qaa_i8 rec_qaa n) _ _ _ _ _ _ _ _ _ _ _ _ _ _ from by kernel_rfl).trans h; cases h) (by rw [qaa_l8, zaaa])
def qaa_L (rec_qaa : Namer → TExpr → Option (Int × Int × (List UInt8) × (List TExpr))) : Nat → Option (Lift.Loop U) := fun n => bif Nat.beq n zaap then some zaam else bif Nat.beq n 8 then some (qaa_lp8 rec_qaa) else none
def qaa_enc : Nat → List (TV U) → Option (Int × Int × (List UInt8) × (List TExpr))
  | 0, [⟨(.int .i64), a0⟩, ⟨(.int .i64), a1⟩, ⟨.str, a2⟩, ⟨(.slc (.st 1057)), a3⟩] => some (a0, a1, a2, a3)
  | _, _ => none
def qaa_dec : Int × Int × (List UInt8) × (List TExpr) → Nat × List (TV U) := fun x => (0, [⟨(.int .i64), x.1⟩, ⟨(.int .i64), x.2.1⟩, ⟨.str, x.2.2.1⟩, ⟨(.slc (.st 1057)), x.2.2.2⟩])
def qaa_md : Mode U := qaa_rmd qaa
theorem qaa_step (rec_qaa : Namer → TExpr → Option (Int × Int × (List UInt8) × (List TExpr))) (hrec_qaa : zaad kk env0 66 (qaa_rmd rec_qaa)) : zaau (Kit.withModes kk (zaae (ms10 rec_qaa))) env0 Tryz.f66.ntmps (qaa_L rec_qaa) (zaag Tryz.f66) := zaab (bs := [qaa_b8]) (by kernel_rfl) ⟨.inr ⟨_, by kernel_rfl, zaak.of_round (qaa_ok8 rec_qaa hrec_qaa)⟩, trivial⟩
theorem qaa_post : zaad kk env0 66 (qaa_rmd qaa) :=
  zabr (K := kk) (F := qaa) qaa_rmd qaa_i (by rw [qaa, zaaa]) (zaa5 (by intro ls r h; unfold qaa_in at h; split at h <;> cases h)) (fun n ih => fn_of (fn := Tryz.f66) qaa_enc qaa_dec (zaac eqOk mixed (known10 (qaa_i n) ih)) (by kernel_rfl) (qaa_step (qaa_i n) ih) (fun _ => rfl) (by intro i qs r h; unfold qaa_enc at h; split at h <;> cases h <;> rfl)
    (by intro ls r h; unfold qaa_in at h; split at h; exact (show _ = qaa_f (qaa_i n) _ _ from by kernel_rfl).trans h; cases h))
def ms11 : List (FuncId × Mode U) := (66, qaa_md) :: ms9
theorem known11 : Known kk env0 (zaae ms11) := known_cons (by kernel_rfl) qaa_post known9
def qab_sh : StSh := ⟨⟨[0, 1], [], []⟩, [.t (.st 100), .t (.slc (.st 59))], []⟩
def qab_os : List StSh := [⟨⟨[0], [], [⟨.slot 0, 100000, 78, (.st 1078)⟩]⟩, [.oslc 100000], [.row 78 (.st 1078)]⟩]
def qab_tr : (List TStmt) → Tr (Nat × List (TV U)) := fun x => .ret (0, [⟨(.slc (.st 1078)), x⟩])
def qab_in (rec_qab : Namer → List TAct → Option ((List TStmt))) : List (TV U) → Option ((List TStmt))
  | [⟨(.st 100), a0⟩, ⟨(.slc (.st 59)), a1⟩] => rec_qab a0 a1
  | _ => none
def qab_rmd (rec_qab : Namer → List TAct → Option ((List TStmt))) : Mode U := ⟨qab_sh, [], qab_os, fun ls => .get (qab_in rec_qab ls) qab_tr⟩
def ms12 (rec_qab : Namer → List TAct → Option ((List TStmt))) : List (FuncId × Mode U) := (48, (qab_rmd rec_qab)) :: ms11
theorem known12 (rec_qab : Namer → List TAct → Option ((List TStmt))) (hrec_qab : zaad kk env0 48 (qab_rmd rec_qab)) : Known kk env0 (zaae (ms12 rec_qab)) := known_cons (by kernel_rfl) hrec_qab known11
def qan_sh : StSh := ⟨⟨[0], [], []⟩, [.t (.int .i64)], []⟩
def qan_os : List StSh := [⟨⟨[0], [], []⟩, [.t .bool], []⟩]
def qan_tr : Bool → Tr (Nat × List (TV U)) := fun x => .ret (0, [⟨.bool, x⟩])
def qan_enc : Nat → List (TV U) → Option (Bool)
  | 0, [⟨.bool, a0⟩] => some a0
  | _, _ => none
def qan_dec : Bool → Nat × List (TV U) := fun x => (0, [⟨.bool, x⟩])
def qan_in (rec_qab : Namer → List TAct → Option ((List TStmt))) : List (TV U) → Option (Bool)
  | [⟨(.int .i64), a0⟩] => qan rec_qab a0
  | _ => none
def qan_md (rec_qab : Namer → List TAct → Option ((List TStmt))) : Mode U := ⟨qan_sh, [], qan_os, fun ls => .get (qan_in rec_qab ls) qan_tr⟩
theorem qan_post (rec_qab : Namer → List TAct → Option ((List TStmt))) (hrec_qab : zaad kk env0 48 (qab_rmd rec_qab)) : zaad kk env0 67 (qan_md rec_qab) :=
  fn_of (fn := Tryz.f67) qan_enc qan_dec (zaac eqOk mixed (known12 rec_qab hrec_qab)) (by kernel_rfl) (L := jnL) (zaab (bs := []) (by kernel_rfl) trivial) (fun _ => rfl) (by intro i qs r h; unfold qan_enc at h; split at h <;> cases h <;> rfl)
    (by intro ls r h; unfold qan_in at h; split at h; rw [qan, zaaa] at h; exact Eq.trans (by kernel_rfl) h; cases h)
def ms13 (rec_qab : Namer → List TAct → Option ((List TStmt))) : List (FuncId × Mode U) := (67, (qan_md rec_qab)) :: (ms12 rec_qab)
theorem known13 (rec_qab : Namer → List TAct → Option ((List TStmt))) (hrec_qab : zaad kk env0 48 (qab_rmd rec_qab)) : Known kk env0 (zaae (ms13 rec_qab)) := known_cons (by kernel_rfl) (qan_post rec_qab hrec_qab) (known12 rec_qab hrec_qab)
def qao_sh : StSh := ⟨⟨[0], [], []⟩, [.t (.int .i64)], []⟩
def qao_os : List StSh := [⟨⟨[0], [], []⟩, [.t (.int .i64)], []⟩]
def qao_tr : Int → Tr (Nat × List (TV U)) := fun x => .ret (0, [⟨(.int .i64), x⟩])
def qao_enc : Nat → List (TV U) → Option (Int)
  | 0, [⟨(.int .i64), a0⟩] => some a0
  | _, _ => none
def qao_dec : Int → Nat × List (TV U) := fun x => (0, [⟨(.int .i64), x⟩])
def qao_in (rec_qab : Namer → List TAct → Option ((List TStmt))) : List (TV U) → Option (Int)
  | [⟨(.int .i64), a0⟩] => qao rec_qab a0
  | _ => none
def qao_md (rec_qab : Namer → List TAct → Option ((List TStmt))) : Mode U := ⟨qao_sh, [], qao_os, fun ls => .get (qao_in rec_qab ls) qao_tr⟩
theorem qao_post (rec_qab : Namer → List TAct → Option ((List TStmt))) (hrec_qab : zaad kk env0 48 (qab_rmd rec_qab)) : zaad kk env0 69 (qao_md rec_qab) :=
  fn_of (fn := Tryz.f69) qao_enc qao_dec (zaac eqOk mixed (known13 rec_qab hrec_qab)) (by kernel_rfl) (L := jnL) (zaab (bs := []) (by kernel_rfl) trivial) (fun _ => rfl) (by intro i qs r h; unfold qao_enc at h; split at h <;> cases h <;> rfl)
    (by intro ls r h; unfold qao_in at h; split at h; rw [qao, zaaa] at h; exact Eq.trans (by kernel_rfl) h; cases h)
def ms14 (rec_qab : Namer → List TAct → Option ((List TStmt))) : List (FuncId × Mode U) := (69, (qao_md rec_qab)) :: (ms13 rec_qab)
theorem known14 (rec_qab : Namer → List TAct → Option ((List TStmt))) (hrec_qab : zaad kk env0 48 (qab_rmd rec_qab)) : Known kk env0 (zaae (ms14 rec_qab)) := known_cons (by kernel_rfl) (qao_post rec_qab hrec_qab) (known13 rec_qab hrec_qab)
def qab_sh3 : StSh := ⟨⟨[2, 5, 9, 10, 11], [2], [⟨.slot 5, 5, 78, (.st 1078)⟩]⟩, [.ptr 2 0, .oslc 5, .t (.slc (.st 59)), .t (.int .i64), .t (.int .i64)], [.blk 100 [.t (.slc .str), .t (.slc .str), .t (.slc .str), .t (.slc .str)], .row 78 (.st 1078)]⟩
def qab_o3 : List Out := [⟨.exit 0, ⟨⟨[5], [], [⟨.slot 5, 5, 78, (.st 1078)⟩]⟩, [.oslc 5], [.row 78 (.st 1078)]⟩⟩]
def qab_b3 : Code := (zaai (zaag Tryz.f48) 0)
def qab_rec3 (rec : List TAct → Int → Int → List (List UInt8) → List (List UInt8) → List (List UInt8) → List (List UInt8) → List TStmt → Option ((List TStmt))) : List (TV U) → Option ((List TStmt))
  | [⟨(.slc (.st 59)), a0⟩, ⟨(.int .i64), a1⟩, ⟨(.int .i64), a2⟩, ⟨(.slc .str), a3⟩, ⟨(.slc .str), a4⟩, ⟨(.slc .str), a5⟩, ⟨(.slc .str), a6⟩, ⟨(.slc (.st 1078)), a7⟩] => rec a0 a1 a2 a3 a4 a5 a6 a7
  | _ => none
def qab_enc3 : Nat → List (TV U) → Option ((List TStmt))
  | 0, [⟨(.slc (.st 1078)), a0⟩] => some a0
  | _, _ => none
def qab_dec3 : (List TStmt) → Nat × List (TV U) := fun x => (0, [⟨(.slc (.st 1078)), x⟩])
def qab_tr3 : (List TStmt) → Tr (Nat × List (TV U)) := fun x => .ret (0, [⟨(.slc (.st 1078)), x⟩])
def qab_lp3 (rec_qab : Namer → List TAct → Option ((List TStmt))) : Lift.Loop U := ⟨qab_sh3, qab_o3, fun ls => .get (qab_rec3 (qab_l3 rec_qab) ls) qab_tr3⟩
theorem qab_ok3 (rec_qab : Namer → List TAct → Option ((List TStmt))) (hrec_qab : zaad kk env0 48 (qab_rmd rec_qab)) : LoopR kk env0 Tryz.f48.ntmps qab_b3 (qab_lp3 rec_qab) :=
  zaaj qab_enc3 qab_dec3 (fun n => qab_rec3 (qab_i3 rec_qab n)) (zaac eqOk mixed (known14 rec_qab hrec_qab)) (L := jnL) (zaab (bs := []) (by kernel_rfl) trivial) (fun _ => rfl) (by intro i qs r h; unfold qab_enc3 at h; split at h <;> cases h <;> rfl)
    (by intro ls r h; unfold qab_rec3 at h; split at h <;> cases h)
    (by intro n ls r h; unfold qab_rec3 at h; split at h; exact (show _ = qab_t3 rec_qab (qab_i3 rec_qab n) _ _ _ _ _ _ _ _ from by kernel_rfl).trans h; cases h) (by rw [qab_l3, zaaa])
def qab_L (rec_qab : Namer → List TAct → Option ((List TStmt))) : Nat → Option (Lift.Loop U) := fun n => bif Nat.beq n zaap then some zaam else bif Nat.beq n 3 then some (qab_lp3 rec_qab) else none
def qab_enc : Nat → List (TV U) → Option ((List TStmt))
  | 0, [⟨(.slc (.st 1078)), a0⟩] => some a0
  | _, _ => none
def qab_dec : (List TStmt) → Nat × List (TV U) := fun x => (0, [⟨(.slc (.st 1078)), x⟩])
def qab_md : Mode U := qab_rmd qab
theorem qab_step (rec_qab : Namer → List TAct → Option ((List TStmt))) (hrec_qab : zaad kk env0 48 (qab_rmd rec_qab)) : zaau (Kit.withModes kk (zaae (ms14 rec_qab))) env0 Tryz.f48.ntmps (qab_L rec_qab) (zaag Tryz.f48) := zaab (bs := [qab_b3]) (by kernel_rfl) ⟨.inr ⟨_, by kernel_rfl, zaak.of_round (qab_ok3 rec_qab hrec_qab)⟩, trivial⟩
theorem qab_post : zaad kk env0 48 (qab_rmd qab) :=
  zabr (K := kk) (F := qab) qab_rmd qab_i (by rw [qab, zaaa]) (zaa5 (by intro ls r h; unfold qab_in at h; split at h <;> cases h)) (fun n ih => fn_of (fn := Tryz.f48) qab_enc qab_dec (zaac eqOk mixed (known14 (qab_i n) ih)) (by kernel_rfl) (qab_step (qab_i n) ih) (fun _ => rfl) (by intro i qs r h; unfold qab_enc at h; split at h <;> cases h <;> rfl)
    (by intro ls r h; unfold qab_in at h; split at h; exact (show _ = qab_f (qab_i n) _ _ from by kernel_rfl).trans h; cases h))
def ms15 : List (FuncId × Mode U) := (48, qab_md) :: ms11
theorem known15 : Known kk env0 (zaae ms15) := known_cons (by kernel_rfl) qab_post known11
def qap_sh3 : StSh := ⟨⟨[2, 3, 4, 5, 12, 13, 14], [2, 3, 4, 5], [⟨.cell 5 0, 20250, 73, (.st 73)⟩]⟩, [.ptr 2 0, .ptr 3 0, .ptr 4 0, .ptr 5 0, .t (.slc (.int .i64)), .t (.int .i64), .t (.int .i64)], [.blk 25 [.t (.slc (.int .i64)), .t (.int .i64), .t (.slc (.st 51))], .blk 88 [.t (.slc .str), .t (.slc .str), .t (.slc .str), .t (.slc (.slc .str))], .blk 44 [.nil, .nil, .nil], .blk 44 [.oslc 20250, .nil, .nil], .row 73 (.st 73)]⟩
def qap_o3 : List Out := [⟨.exit 0, ⟨⟨[2, 3, 4, 5], [2, 3, 4, 5], [⟨.cell 5 0, 20250, 73, (.st 73)⟩]⟩, [.ptr 2 0, .ptr 3 0, .ptr 4 0, .ptr 5 0], [.blk 25 [.t (.slc (.int .i64)), .t (.int .i64), .t (.slc (.st 51))], .blk 88 [.t (.slc .str), .t (.slc .str), .t (.slc .str), .t (.slc (.slc .str))], .blk 44 [.nil, .nil, .nil], .blk 44 [.oslc 20250, .nil, .nil], .row 73 (.st 73)]⟩⟩]
def qap_b3 : Code := (zaai (zaag Tryz.f35) 0)
def qap_rec3 (rec : List Int → Int → Int → List Int → Int → List TBody → List (List UInt8) → List (List UInt8) → List (List UInt8) → List (List (List UInt8)) → List TCell → Option ((List Int) × Int × (List TBody) × (List (List UInt8)) × (List (List UInt8)) × (List (List UInt8)) × (List (List (List UInt8))) × (List TCell))) : List (TV U) → Option ((List Int) × Int × (List TBody) × (List (List UInt8)) × (List (List UInt8)) × (List (List UInt8)) × (List (List (List UInt8))) × (List TCell))
  | [⟨(.slc (.int .i64)), a0⟩, ⟨(.int .i64), a1⟩, ⟨(.int .i64), a2⟩, ⟨(.slc (.int .i64)), a3⟩, ⟨(.int .i64), a4⟩, ⟨(.slc (.st 51)), a5⟩, ⟨(.slc .str), a6⟩, ⟨(.slc .str), a7⟩, ⟨(.slc .str), a8⟩, ⟨(.slc (.slc .str)), a9⟩, ⟨(.slc (.st 73)), a10⟩] => rec a0 a1 a2 a3 a4 a5 a6 a7 a8 a9 a10
  | _ => none
def qap_enc3 : Nat → List (TV U) → Option ((List Int) × Int × (List TBody) × (List (List UInt8)) × (List (List UInt8)) × (List (List UInt8)) × (List (List (List UInt8))) × (List TCell))
  | 0, [⟨(.slc (.int .i64)), a0⟩, ⟨(.int .i64), a1⟩, ⟨(.slc (.st 51)), a2⟩, ⟨(.slc .str), a3⟩, ⟨(.slc .str), a4⟩, ⟨(.slc .str), a5⟩, ⟨(.slc (.slc .str)), a6⟩, ⟨(.slc (.st 73)), a7⟩] => some (a0, a1, a2, a3, a4, a5, a6, a7)
  | _, _ => none
def qap_dec3 : (List Int) × Int × (List TBody) × (List (List UInt8)) × (List (List UInt8)) × (List (List UInt8)) × (List (List (List UInt8))) × (List TCell) → Nat × List (TV U) := fun x => (0, [⟨(.slc (.int .i64)), x.1⟩, ⟨(.int .i64), x.2.1⟩, ⟨(.slc (.st 51)), x.2.2.1⟩, ⟨(.slc .str), x.2.2.2.1⟩, ⟨(.slc .str), x.2.2.2.2.1⟩, ⟨(.slc .str), x.2.2.2.2.2.1⟩, ⟨(.slc (.slc .str)), x.2.2.2.2.2.2.1⟩, ⟨(.slc (.st 73)), x.2.2.2.2.2.2.2⟩])
def qap_tr3 : (List Int) × Int × (List TBody) × (List (List UInt8)) × (List (List UInt8)) × (List (List UInt8)) × (List (List (List UInt8))) × (List TCell) → Tr (Nat × List (TV U)) := fun x => .ret (0, [⟨(.slc (.int .i64)), x.1⟩, ⟨(.int .i64), x.2.1⟩, ⟨(.slc (.st 51)), x.2.2.1⟩, ⟨(.slc .str), x.2.2.2.1⟩, ⟨(.slc .str), x.2.2.2.2.1⟩, ⟨(.slc .str), x.2.2.2.2.2.1⟩, ⟨(.slc (.slc .str)), x.2.2.2.2.2.2.1⟩, ⟨(.slc (.st 73)), x.2.2.2.2.2.2.2⟩])
def qap_lp3 : Lift.Loop U := ⟨qap_sh3, qap_o3, fun ls => .get (qap_rec3 qap_l3 ls) qap_tr3⟩
theorem qap_ok3 : LoopR kk env0 Tryz.f35.ntmps qap_b3 qap_lp3 :=
  zaaj qap_enc3 qap_dec3 (fun n => qap_rec3 (qap_i3 n)) (zaac eqOk mixed known15) (L := jnL) (zaab (bs := []) (by kernel_rfl) trivial) (fun _ => rfl) (by intro i qs r h; unfold qap_enc3 at h; split at h <;> cases h <;> rfl)
    (by intro ls r h; unfold qap_rec3 at h; split at h <;> cases h)
    (by intro n ls r h; unfold qap_rec3 at h; split at h; exact (show _ = qap_t3 (qap_i3 n) _ _ _ _ _ _ _ _ _ _ _ from by kernel_rfl).trans h; cases h) (by rw [qap_l3, zaaa])
def qap_sh9 : StSh := ⟨⟨[3, 4, 5, 38, 39, 40], [3, 4, 5], [⟨.cell 5 0, 20250, 73, (.st 73)⟩, ⟨.cell 5 1, 20251, 9, .str⟩, ⟨.cell 5 2, 20252, 53, (.st 1053)⟩]⟩, [.ptr 3 0, .ptr 4 0, .ptr 5 0, .t (.slc (.st 51)), .t (.int .i64), .t (.int .i64)], [.blk 88 [.t (.slc .str), .t (.slc .str), .t (.slc .str), .t (.slc (.slc .str))], .blk 44 [.nil, .nil, .nil], .blk 44 [.oslc 20250, .oslc 20251, .oslc 20252], .row 73 (.st 73), .row 9 .str, .row 53 (.st 1053)]⟩
def qap_o9 : List Out := [⟨.exit 2, ⟨⟨[4, 5], [4, 5], [⟨.cell 5 0, 20250, 73, (.st 73)⟩, ⟨.cell 5 1, 20251, 9, .str⟩, ⟨.cell 5 2, 20252, 53, (.st 1053)⟩]⟩, [.ptr 4 0, .ptr 5 0], [.blk 44 [.nil, .nil, .nil], .blk 44 [.oslc 20250, .oslc 20251, .oslc 20252], .row 73 (.st 73), .row 9 .str, .row 53 (.st 1053)]⟩⟩]
def qap_b9 : Code := (zaai (zaag Tryz.f35) 1)
def qap_rec9 (rec : List TBody → Int → Int → List (List UInt8) → List (List UInt8) → List (List UInt8) → List (List (List UInt8)) → List TCell → List (List UInt8) → List TThread → Option ((List TCell) × (List (List UInt8)) × (List TThread))) : List (TV U) → Option ((List TCell) × (List (List UInt8)) × (List TThread))
  | [⟨(.slc (.st 51)), a0⟩, ⟨(.int .i64), a1⟩, ⟨(.int .i64), a2⟩, ⟨(.slc .str), a3⟩, ⟨(.slc .str), a4⟩, ⟨(.slc .str), a5⟩, ⟨(.slc (.slc .str)), a6⟩, ⟨(.slc (.st 73)), a7⟩, ⟨(.slc .str), a8⟩, ⟨(.slc (.st 1053)), a9⟩] => rec a0 a1 a2 a3 a4 a5 a6 a7 a8 a9
  | _ => none
def qap_enc9 : Nat → List (TV U) → Option ((List TCell) × (List (List UInt8)) × (List TThread))
  | 0, [⟨(.slc (.st 73)), a0⟩, ⟨(.slc .str), a1⟩, ⟨(.slc (.st 1053)), a2⟩] => some (a0, a1, a2)
  | _, _ => none
def qap_dec9 : (List TCell) × (List (List UInt8)) × (List TThread) → Nat × List (TV U) := fun x => (0, [⟨(.slc (.st 73)), x.1⟩, ⟨(.slc .str), x.2.1⟩, ⟨(.slc (.st 1053)), x.2.2⟩])
def qap_tr9 : (List TCell) × (List (List UInt8)) × (List TThread) → Tr (Nat × List (TV U)) := fun x => .ret (0, [⟨(.slc (.st 73)), x.1⟩, ⟨(.slc .str), x.2.1⟩, ⟨(.slc (.st 1053)), x.2.2⟩])
def qap_lp9 : Lift.Loop U := ⟨qap_sh9, qap_o9, fun ls => .get (qap_rec9 qap_l9 ls) qap_tr9⟩
theorem qap_ok9 : LoopR kk env0 Tryz.f35.ntmps qap_b9 qap_lp9 :=
  zaaj qap_enc9 qap_dec9 (fun n => qap_rec9 (qap_i9 n)) (zaac eqOk mixed known15) (L := jnL) (zaab (bs := []) (by kernel_rfl) trivial) (fun _ => rfl) (by intro i qs r h; unfold qap_enc9 at h; split at h <;> cases h <;> rfl)
    (by intro ls r h; unfold qap_rec9 at h; split at h <;> cases h)
    (by intro n ls r h; unfold qap_rec9 at h; split at h; exact (show _ = qap_t9 (qap_i9 n) _ _ _ _ _ _ _ _ _ _ from by kernel_rfl).trans h; cases h) (by rw [qap_l9, zaaa])
def qap_sh : StSh := ⟨⟨[0, 1], [], []⟩, [.t (.st 25), .t (.st 88)], []⟩
def qap_os : List StSh := [⟨⟨[0], [], [⟨.sub 0 0, 100100, 73, (.st 73)⟩, ⟨.sub 0 1, 100200, 9, .str⟩, ⟨.sub 0 2, 100300, 53, (.st 1053)⟩]⟩, [.agg [.oslc 100100, .oslc 100200, .oslc 100300]], [.row 73 (.st 73), .row 9 .str, .row 53 (.st 1053)]⟩]
def qap_tr : (List TCell) × (List (List UInt8)) × (List TThread) → Tr (Nat × List (TV U)) := fun x => .ret (0, [⟨(.slc (.st 73)), x.1⟩, ⟨(.slc .str), x.2.1⟩, ⟨(.slc (.st 1053)), x.2.2⟩])
def qap_L : Nat → Option (Lift.Loop U) := fun n => bif Nat.beq n zaap then some zaam else bif Nat.beq n 3 then some qap_lp3 else bif Nat.beq n 9 then some qap_lp9 else none
def qap_enc : Nat → List (TV U) → Option ((List TCell) × (List (List UInt8)) × (List TThread))
  | 0, [⟨(.slc (.st 73)), a0⟩, ⟨(.slc .str), a1⟩, ⟨(.slc (.st 1053)), a2⟩] => some (a0, a1, a2)
  | _, _ => none
def qap_dec : (List TCell) × (List (List UInt8)) × (List TThread) → Nat × List (TV U) := fun x => (0, [⟨(.slc (.st 73)), x.1⟩, ⟨(.slc .str), x.2.1⟩, ⟨(.slc (.st 1053)), x.2.2⟩])
def qap_in : List (TV U) → Option ((List TCell) × (List (List UInt8)) × (List TThread))
  | [⟨(.st 25), a0⟩, ⟨(.st 88), a1⟩] => qap a0 a1
  | _ => none
def qap_md : Mode U := ⟨qap_sh, [], qap_os, fun ls => .get (qap_in ls) qap_tr⟩
theorem qap_post : zaad kk env0 35 qap_md :=
  fn_of (fn := Tryz.f35) qap_enc qap_dec (zaac eqOk mixed known15) (by kernel_rfl) (L := qap_L) (zaab (bs := [qap_b3, qap_b9]) (by kernel_rfl) ⟨.inr ⟨_, by kernel_rfl, zaak.of_round (qap_ok3)⟩, .inr ⟨_, by kernel_rfl, zaak.of_round (qap_ok9)⟩, trivial⟩) (fun _ => rfl) (by intro i qs r h; unfold qap_enc at h; split at h <;> cases h <;> rfl)
    (by intro ls r h; unfold qap_in at h; split at h; rw [qap, zaaa] at h; exact Eq.trans (by kernel_rfl) h; cases h)
def ms16 : List (FuncId × Mode U) := (35, qap_md) :: ms15
theorem known16 : Known kk env0 (zaae ms16) := known_cons (by kernel_rfl) qap_post known15
def qbx_sh : StSh := ⟨⟨[0], [], []⟩, [.t (.int .i32)], []⟩
def qbx_os : List StSh := [⟨⟨[0], [], []⟩, [.t (.int .i64)], []⟩]
def qbx_tr : Int → Tr (Nat × List (TV U)) := fun x => .ret (0, [⟨(.int .i64), x⟩])
def qbx_enc : Nat → List (TV U) → Option (Int)
  | 0, [⟨(.int .i64), a0⟩] => some a0
  | _, _ => none
def qbx_dec : Int → Nat × List (TV U) := fun x => (0, [⟨(.int .i64), x⟩])
def qbx_in : List (TV U) → Option (Int)
  | [⟨(.int .i32), a0⟩] => qbx a0
  | _ => none
def qbx_md : Mode U := ⟨qbx_sh, [], qbx_os, fun ls => .get (qbx_in ls) qbx_tr⟩
theorem qbx_post : zaad kk env0 89 qbx_md :=
  fn_of (fn := Tryz.f89) qbx_enc qbx_dec (zaac eqOk mixed known16) (by kernel_rfl) (L := noL) (zaab (bs := []) (by kernel_rfl) trivial) (fun _ => rfl) (by intro i qs r h; unfold qbx_enc at h; split at h <;> cases h <;> rfl)
    (by intro ls r h; unfold qbx_in at h; split at h; rw [qbx, zaaa] at h; exact Eq.trans (by kernel_rfl) h; cases h)
def ms17 : List (FuncId × Mode U) := (89, qbx_md) :: ms16
theorem known17 : Known kk env0 (zaae ms17) := known_cons (by kernel_rfl) qbx_post known16
def qa9_sh4 : StSh := ⟨⟨[0, 3, 4, 5, 10], [3, 5, 10], [⟨.slot 4, 4, 136, (.st 136)⟩]⟩, [.t .str, .ptr 3 0, .oslc 4, .ptr 5 0, .ptr 10 0], [.blk 136 [.t (.int .i64), .t (.int .i64), .t (.int .i64), .t (.int .i64)], .blk 136 [.t (.int .i64), .t (.int .i64), .t (.int .i64), .t (.int .i64)], .sit, .row 136 (.st 136)]⟩
def qa9_o4 : List Out := [⟨.ret, ⟨⟨[2, 3], [3], [⟨.slot 2, 2, 136, (.st 136)⟩]⟩, [.oslc 2, .ptr 3 0], [.blk 136 [.t (.int .i64), .t (.int .i64), .t (.int .i64), .t (.int .i64)], .row 136 (.st 136)]⟩⟩, ⟨.exit 0, ⟨⟨[3, 4, 5], [3, 5], [⟨.slot 4, 4, 136, (.st 136)⟩]⟩, [.ptr 3 0, .oslc 4, .ptr 5 0], [.blk 136 [.t (.int .i64), .t (.int .i64), .t (.int .i64), .t (.int .i64)], .blk 136 [.t (.int .i64), .t (.int .i64), .t (.int .i64), .t (.int .i64)], .row 136 (.st 136)]⟩⟩]
def qa9_b4 : Code := (zaai (zaag Tryz.f78) 0)
def qa9_rec4 (rec : List UInt8 → Int → Int → Int → Int → Int → Int → Int → Int → List UInt8 → Nat → List Spot → Option ((Int × Int × Int × Int × (List Spot)) ⊕ (Int × Int × Int × Int × Int × Int × Int × Int × (List Spot)))) : List (TV U) → Option ((Int × Int × Int × Int × (List Spot)) ⊕ (Int × Int × Int × Int × Int × Int × Int × Int × (List Spot)))
  | [⟨.str, a0⟩, ⟨(.int .i64), a1⟩, ⟨(.int .i64), a2⟩, ⟨(.int .i64), a3⟩, ⟨(.int .i64), a4⟩, ⟨(.int .i64), a5⟩, ⟨(.int .i64), a6⟩, ⟨(.int .i64), a7⟩, ⟨(.int .i64), a8⟩, ⟨.str, a9⟩, ⟨.fn, a10⟩, ⟨(.slc (.st 136)), a11⟩] => rec a0 a1 a2 a3 a4 a5 a6 a7 a8 a9 a10 a11
  | _ => none
def qa9_enc4 : Nat → List (TV U) → Option ((Int × Int × Int × Int × (List Spot)) ⊕ (Int × Int × Int × Int × Int × Int × Int × Int × (List Spot)))
  | 0, [⟨(.int .i64), a0⟩, ⟨(.int .i64), a1⟩, ⟨(.int .i64), a2⟩, ⟨(.int .i64), a3⟩, ⟨(.slc (.st 136)), a4⟩] => some (.inl (a0, a1, a2, a3, a4))
  | 1, [⟨(.int .i64), a0⟩, ⟨(.int .i64), a1⟩, ⟨(.int .i64), a2⟩, ⟨(.int .i64), a3⟩, ⟨(.int .i64), a4⟩, ⟨(.int .i64), a5⟩, ⟨(.int .i64), a6⟩, ⟨(.int .i64), a7⟩, ⟨(.slc (.st 136)), a8⟩] => some (.inr (a0, a1, a2, a3, a4, a5, a6, a7, a8))
  | _, _ => none
def qa9_dec4 : (Int × Int × Int × Int × (List Spot)) ⊕ (Int × Int × Int × Int × Int × Int × Int × Int × (List Spot)) → Nat × List (TV U) := fun r => match r with | (.inl x) => (0, [⟨(.int .i64), x.1⟩, ⟨(.int .i64), x.2.1⟩, ⟨(.int .i64), x.2.2.1⟩, ⟨(.int .i64), x.2.2.2.1⟩, ⟨(.slc (.st 136)), x.2.2.2.2⟩]) | (.inr x) => (1, [⟨(.int .i64), x.1⟩, ⟨(.int .i64), x.2.1⟩, ⟨(.int .i64), x.2.2.1⟩, ⟨(.int .i64), x.2.2.2.1⟩, ⟨(.int .i64), x.2.2.2.2.1⟩, ⟨(.int .i64), x.2.2.2.2.2.1⟩, ⟨(.int .i64), x.2.2.2.2.2.2.1⟩, ⟨(.int .i64), x.2.2.2.2.2.2.2.1⟩, ⟨(.slc (.st 136)), x.2.2.2.2.2.2.2.2⟩])
def qa9_tr4 : (Int × Int × Int × Int × (List Spot)) ⊕ (Int × Int × Int × Int × Int × Int × Int × Int × (List Spot)) → Tr (Nat × List (TV U)) := fun r => .alt r (fun x => .ret (0, [⟨(.int .i64), x.1⟩, ⟨(.int .i64), x.2.1⟩, ⟨(.int .i64), x.2.2.1⟩, ⟨(.int .i64), x.2.2.2.1⟩, ⟨(.slc (.st 136)), x.2.2.2.2⟩])) (fun y => (fun x => .ret (1, [⟨(.int .i64), x.1⟩, ⟨(.int .i64), x.2.1⟩, ⟨(.int .i64), x.2.2.1⟩, ⟨(.int .i64), x.2.2.2.1⟩, ⟨(.int .i64), x.2.2.2.2.1⟩, ⟨(.int .i64), x.2.2.2.2.2.1⟩, ⟨(.int .i64), x.2.2.2.2.2.2.1⟩, ⟨(.int .i64), x.2.2.2.2.2.2.2.1⟩, ⟨(.slc (.st 136)), x.2.2.2.2.2.2.2.2⟩])) y)
def qa9_lp4 : Lift.Loop U := ⟨qa9_sh4, qa9_o4, fun ls => .get (qa9_rec4 qa9_l4 ls) qa9_tr4⟩
theorem qa9_ok4 : LoopR kk env0 Tryz.f78.ntmps qa9_b4 qa9_lp4 :=
  zaaj qa9_enc4 qa9_dec4 (fun n => qa9_rec4 (qa9_i4 n)) (zaac eqOk mixed known17) (L := noL) (zaab (bs := []) (by kernel_rfl) trivial) (by intro r; rcases r with r | r <;> rfl) (by intro i qs r h; unfold qa9_enc4 at h; split at h <;> cases h <;> rfl)
    (by intro ls r h; unfold qa9_rec4 at h; split at h <;> cases h)
    (by intro n ls r h; unfold qa9_rec4 at h; split at h; exact (show _ = qa9_t4 (qa9_i4 n) _ _ _ _ _ _ _ _ _ _ _ _ from by kernel_rfl).trans h; cases h) (by rw [qa9_l4, zaaa])
def qa9_sh : StSh := ⟨⟨[0], [], []⟩, [.t .str], []⟩
def qa9_os : List StSh := [⟨⟨[0, 1], [], [⟨.slot 0, 100000, 136, (.st 136)⟩]⟩, [.oslc 100000, .t (.st 136)], [.row 136 (.st 136)]⟩]
def qa9_tr : Spot × (List Spot) → Tr (Nat × List (TV U)) := fun x => .ret (0, [⟨(.st 136), x.1⟩, ⟨(.slc (.st 136)), x.2⟩])
def qa9_L : Nat → Option (Lift.Loop U) := fun n => bif Nat.beq n 4 then some qa9_lp4 else none
def qa9_enc : Nat → List (TV U) → Option (Spot × (List Spot))
  | 0, [⟨(.st 136), a0⟩, ⟨(.slc (.st 136)), a1⟩] => some (a0, a1)
  | _, _ => none
def qa9_dec : Spot × (List Spot) → Nat × List (TV U) := fun x => (0, [⟨(.st 136), x.1⟩, ⟨(.slc (.st 136)), x.2⟩])
def qa9_in : List (TV U) → Option (Spot × (List Spot))
  | [⟨.str, a0⟩] => qa9 a0
  | _ => none
def qa9_md : Mode U := ⟨qa9_sh, [], qa9_os, fun ls => .get (qa9_in ls) qa9_tr⟩
theorem qa9_post : zaad kk env0 78 qa9_md :=
  fn_of (fn := Tryz.f78) qa9_enc qa9_dec (zaac eqOk mixed known17) (by kernel_rfl) (L := qa9_L) (zaab (bs := [qa9_b4]) (by kernel_rfl) ⟨.inr ⟨_, by kernel_rfl, zaak.of_round (qa9_ok4)⟩, trivial⟩) (fun _ => rfl) (by intro i qs r h; unfold qa9_enc at h; split at h <;> cases h <;> rfl)
    (by intro ls r h; unfold qa9_in at h; split at h; rw [qa9, zaaa] at h; exact Eq.trans (by kernel_rfl) h; cases h)
def ms18 : List (FuncId × Mode U) := (78, qa9_md) :: ms17
theorem known18 : Known kk env0 (zaae ms18) := known_cons (by kernel_rfl) qa9_post known17
def qa8_sh : StSh := ⟨⟨[0], [], []⟩, [.t .str], []⟩
def qa8_os : List StSh := [⟨⟨[0, 1], [], [⟨.slot 0, 100000, 136, (.st 136)⟩]⟩, [.oslc 100000, .t (.st 117)], [.row 136 (.st 136)]⟩]
def qa8_tr : Fault × (List Spot) → Tr (Nat × List (TV U)) := fun x => .ret (0, [⟨(.st 117), x.1⟩, ⟨(.slc (.st 136)), x.2⟩])
def qa8_enc : Nat → List (TV U) → Option (Fault × (List Spot))
  | 0, [⟨(.st 117), a0⟩, ⟨(.slc (.st 136)), a1⟩] => some (a0, a1)
  | _, _ => none
def qa8_dec : Fault × (List Spot) → Nat × List (TV U) := fun x => (0, [⟨(.st 117), x.1⟩, ⟨(.slc (.st 136)), x.2⟩])
def qa8_in : List (TV U) → Option (Fault × (List Spot))
  | [⟨.str, a0⟩] => qa8 a0
  | _ => none
def qa8_md : Mode U := ⟨qa8_sh, [], qa8_os, fun ls => .get (qa8_in ls) qa8_tr⟩
theorem qa8_post : zaad kk env0 74 qa8_md :=
  fn_of (fn := Tryz.f74) qa8_enc qa8_dec (zaac eqOk mixed known18) (by kernel_rfl) (L := noL) (zaab (bs := []) (by kernel_rfl) trivial) (fun _ => rfl) (by intro i qs r h; unfold qa8_enc at h; split at h <;> cases h <;> rfl)
    (by intro ls r h; unfold qa8_in at h; split at h; rw [qa8, zaaa] at h; exact Eq.trans (by kernel_rfl) h; cases h)
def ms19 : List (FuncId × Mode U) := (74, qa8_md) :: ms18
theorem known19 : Known kk env0 (zaae ms19) := known_cons (by kernel_rfl) qa8_post known18
def qa5_sh : StSh := ⟨⟨[0], [], []⟩, [.t (.int .i64)], []⟩
def qa5_os : List StSh := [⟨⟨[0], [], []⟩, [.t .bool], []⟩]
def qa5_tr : Bool → Tr (Nat × List (TV U)) := fun x => .ret (0, [⟨.bool, x⟩])
def qa5_enc : Nat → List (TV U) → Option (Bool)
  | 0, [⟨.bool, a0⟩] => some a0
  | _, _ => none
def qa5_dec : Bool → Nat × List (TV U) := fun x => (0, [⟨.bool, x⟩])
def qa5_in : List (TV U) → Option (Bool)
  | [⟨(.int .i64), a0⟩] => qa5 a0
  | _ => none
def qa5_md : Mode U := ⟨qa5_sh, [], qa5_os, fun ls => .get (qa5_in ls) qa5_tr⟩
theorem qa5_post : zaad kk env0 79 qa5_md :=
  fn_of (fn := Tryz.f79) qa5_enc qa5_dec (zaac eqOk mixed known19) (by kernel_rfl) (L := noL) (zaab (bs := []) (by kernel_rfl) trivial) (fun _ => rfl) (by intro i qs r h; unfold qa5_enc at h; split at h <;> cases h <;> rfl)
    (by intro ls r h; unfold qa5_in at h; split at h; rw [qa5, zaaa] at h; exact Eq.trans (by kernel_rfl) h; cases h)
def ms20 : List (FuncId × Mode U) := (79, qa5_md) :: ms19
theorem known20 : Known kk env0 (zaae ms20) := known_cons (by kernel_rfl) qa5_post known19
def qav_sh3 : StSh := ⟨⟨[0, 3, 7], [7], []⟩, [.t .str, .t .bool, .ptr 7 0], [.sit]⟩
def qav_o3 : List Out := [⟨.ret, ⟨⟨[2], [], []⟩, [.t (.int .i64)], []⟩⟩, ⟨.exit 0, ⟨⟨[0], [], []⟩, [.t .str], []⟩⟩]
def qav_b3 : Code := (zaai (zaag Tryz.f75) 0)
def qav_rec3 (rec : List UInt8 → Bool → List UInt8 → Nat → Option ((Int) ⊕ ((List UInt8)))) : List (TV U) → Option ((Int) ⊕ ((List UInt8)))
  | [⟨.str, a0⟩, ⟨.bool, a1⟩, ⟨.str, a2⟩, ⟨.fn, a3⟩] => rec a0 a1 a2 a3
  | _ => none
def qav_enc3 : Nat → List (TV U) → Option ((Int) ⊕ ((List UInt8)))
  | 0, [⟨(.int .i64), a0⟩] => some (.inl a0)
  | 1, [⟨.str, a0⟩] => some (.inr a0)
  | _, _ => none
def qav_dec3 : (Int) ⊕ ((List UInt8)) → Nat × List (TV U) := fun r => match r with | (.inl x) => (0, [⟨(.int .i64), x⟩]) | (.inr x) => (1, [⟨.str, x⟩])
def qav_tr3 : (Int) ⊕ ((List UInt8)) → Tr (Nat × List (TV U)) := fun r => .alt r (fun x => .ret (0, [⟨(.int .i64), x⟩])) (fun y => (fun x => .ret (1, [⟨.str, x⟩])) y)
def qav_lp3 : Lift.Loop U := ⟨qav_sh3, qav_o3, fun ls => .get (qav_rec3 qav_l3 ls) qav_tr3⟩
theorem qav_ok3 : LoopR kk env0 Tryz.f75.ntmps qav_b3 qav_lp3 :=
  zaaj qav_enc3 qav_dec3 (fun n => qav_rec3 (qav_i3 n)) (zaac eqOk mixed known20) (L := noL) (zaab (bs := []) (by kernel_rfl) trivial) (by intro r; rcases r with r | r <;> rfl) (by intro i qs r h; unfold qav_enc3 at h; split at h <;> cases h <;> rfl)
    (by intro ls r h; unfold qav_rec3 at h; split at h <;> cases h)
    (by intro n ls r h; unfold qav_rec3 at h; split at h; exact (show _ = qav_t3 (qav_i3 n) _ _ _ _ from by kernel_rfl).trans h; cases h) (by rw [qav_l3, zaaa])
def qav_sh : StSh := ⟨⟨[0], [], []⟩, [.t .str], []⟩
def qav_os : List StSh := [⟨⟨[0], [], []⟩, [.t (.int .i64)], []⟩]
def qav_tr : Int → Tr (Nat × List (TV U)) := fun x => .ret (0, [⟨(.int .i64), x⟩])
def qav_L : Nat → Option (Lift.Loop U) := fun n => bif Nat.beq n 3 then some qav_lp3 else none
def qav_enc : Nat → List (TV U) → Option (Int)
  | 0, [⟨(.int .i64), a0⟩] => some a0
  | _, _ => none
def qav_dec : Int → Nat × List (TV U) := fun x => (0, [⟨(.int .i64), x⟩])
def qav_in : List (TV U) → Option (Int)
  | [⟨.str, a0⟩] => qav a0
  | _ => none
def qav_md : Mode U := ⟨qav_sh, [], qav_os, fun ls => .get (qav_in ls) qav_tr⟩
theorem qav_post : zaad kk env0 75 qav_md :=
  fn_of (fn := Tryz.f75) qav_enc qav_dec (zaac eqOk mixed known20) (by kernel_rfl) (L := qav_L) (zaab (bs := [qav_b3]) (by kernel_rfl) ⟨.inr ⟨_, by kernel_rfl, zaak.of_round (qav_ok3)⟩, trivial⟩) (fun _ => rfl) (by intro i qs r h; unfold qav_enc at h; split at h <;> cases h <;> rfl)
    (by intro ls r h; unfold qav_in at h; split at h; rw [qav, zaaa] at h; exact Eq.trans (by kernel_rfl) h; cases h)
def ms21 : List (FuncId × Mode U) := (75, qav_md) :: ms20
theorem known21 : Known kk env0 (zaae ms21) := known_cons (by kernel_rfl) qav_post known20
def qby_sh : StSh := ⟨⟨[0], [], []⟩, [.t (.int .i32)], []⟩
def qby_os : List StSh := [⟨⟨[0], [], []⟩, [.t .bool], []⟩]
def qby_tr : Bool → Tr (Nat × List (TV U)) := fun x => .ret (0, [⟨.bool, x⟩])
def qby_enc : Nat → List (TV U) → Option (Bool)
  | 0, [⟨.bool, a0⟩] => some a0
  | _, _ => none
def qby_dec : Bool → Nat × List (TV U) := fun x => (0, [⟨.bool, x⟩])
def qby_in : List (TV U) → Option (Bool)
  | [⟨(.int .i32), a0⟩] => qby a0
  | _ => none
def qby_md : Mode U := ⟨qby_sh, [], qby_os, fun ls => .get (qby_in ls) qby_tr⟩
theorem qby_post : zaad kk env0 107 qby_md :=
  fn_of (fn := Tryz.f107) qby_enc qby_dec (zaac eqOk mixed known21) (by kernel_rfl) (L := noL) (zaab (bs := []) (by kernel_rfl) trivial) (fun _ => rfl) (by intro i qs r h; unfold qby_enc at h; split at h <;> cases h <;> rfl)
    (by intro ls r h; unfold qby_in at h; split at h; rw [qby, zaaa] at h; exact Eq.trans (by kernel_rfl) h; cases h)
def ms22 : List (FuncId × Mode U) := (107, qby_md) :: ms21
theorem known22 : Known kk env0 (zaae ms22) := known_cons (by kernel_rfl) qby_post known21
def qba_sh : StSh := ⟨⟨[0], [], []⟩, [.t (.int .i64)], []⟩
def qba_os : List StSh := [⟨⟨[0], [], []⟩, [.t .bool], []⟩]
def qba_tr : Bool → Tr (Nat × List (TV U)) := fun x => .ret (0, [⟨.bool, x⟩])
def qba_enc : Nat → List (TV U) → Option (Bool)
  | 0, [⟨.bool, a0⟩] => some a0
  | _, _ => none
def qba_dec : Bool → Nat × List (TV U) := fun x => (0, [⟨.bool, x⟩])
def qba_in : List (TV U) → Option (Bool)
  | [⟨(.int .i64), a0⟩] => qba a0
  | _ => none
def qba_md : Mode U := ⟨qba_sh, [], qba_os, fun ls => .get (qba_in ls) qba_tr⟩
theorem qba_post : zaad kk env0 96 qba_md :=
  fn_of (fn := Tryz.f96) qba_enc qba_dec (zaac eqOk mixed known22) (by kernel_rfl) (L := noL) (zaab (bs := []) (by kernel_rfl) trivial) (fun _ => rfl) (by intro i qs r h; unfold qba_enc at h; split at h <;> cases h <;> rfl)
    (by intro ls r h; unfold qba_in at h; split at h; rw [qba, zaaa] at h; exact Eq.trans (by kernel_rfl) h; cases h)
def ms23 : List (FuncId × Mode U) := (96, qba_md) :: ms22
theorem known23 : Known kk env0 (zaae ms23) := known_cons (by kernel_rfl) qba_post known22
def qa7_sh : StSh := ⟨⟨[0], [], []⟩, [.t (.int .i64)], []⟩
def qa7_os : List StSh := [⟨⟨[0], [], []⟩, [.t .bool], []⟩]
def qa7_tr : Bool → Tr (Nat × List (TV U)) := fun x => .ret (0, [⟨.bool, x⟩])
def qa7_enc : Nat → List (TV U) → Option (Bool)
  | 0, [⟨.bool, a0⟩] => some a0
  | _, _ => none
def qa7_dec : Bool → Nat × List (TV U) := fun x => (0, [⟨.bool, x⟩])
def qa7_in : List (TV U) → Option (Bool)
  | [⟨(.int .i64), a0⟩] => qa7 a0
  | _ => none
def qa7_md : Mode U := ⟨qa7_sh, [], qa7_os, fun ls => .get (qa7_in ls) qa7_tr⟩
theorem qa7_post : zaad kk env0 91 qa7_md :=
  fn_of (fn := Tryz.f91) qa7_enc qa7_dec (zaac eqOk mixed known23) (by kernel_rfl) (L := noL) (zaab (bs := []) (by kernel_rfl) trivial) (fun _ => rfl) (by intro i qs r h; unfold qa7_enc at h; split at h <;> cases h <;> rfl)
    (by intro ls r h; unfold qa7_in at h; split at h; rw [qa7, zaaa] at h; exact Eq.trans (by kernel_rfl) h; cases h)
def ms24 : List (FuncId × Mode U) := (91, qa7_md) :: ms23
theorem known24 : Known kk env0 (zaae ms24) := known_cons (by kernel_rfl) qa7_post known23
def qa6_sh : StSh := ⟨⟨[0], [], []⟩, [.t (.int .i64)], []⟩
def qa6_os : List StSh := [⟨⟨[0], [], []⟩, [.t .bool], []⟩]
def qa6_tr : Bool → Tr (Nat × List (TV U)) := fun x => .ret (0, [⟨.bool, x⟩])
def qa6_enc : Nat → List (TV U) → Option (Bool)
  | 0, [⟨.bool, a0⟩] => some a0
  | _, _ => none
def qa6_dec : Bool → Nat × List (TV U) := fun x => (0, [⟨.bool, x⟩])
def qa6_in : List (TV U) → Option (Bool)
  | [⟨(.int .i64), a0⟩] => qa6 a0
  | _ => none
def qa6_md : Mode U := ⟨qa6_sh, [], qa6_os, fun ls => .get (qa6_in ls) qa6_tr⟩
theorem qa6_post : zaad kk env0 84 qa6_md :=
  fn_of (fn := Tryz.f84) qa6_enc qa6_dec (zaac eqOk mixed known24) (by kernel_rfl) (L := noL) (zaab (bs := []) (by kernel_rfl) trivial) (fun _ => rfl) (by intro i qs r h; unfold qa6_enc at h; split at h <;> cases h <;> rfl)
    (by intro ls r h; unfold qa6_in at h; split at h; rw [qa6, zaaa] at h; exact Eq.trans (by kernel_rfl) h; cases h)
def ms25 : List (FuncId × Mode U) := (84, qa6_md) :: ms24
theorem known25 : Known kk env0 (zaae ms25) := known_cons (by kernel_rfl) qa6_post known24
def qat_sh : StSh := ⟨⟨[0], [], []⟩, [.t (.int .i32)], []⟩
def qat_os : List StSh := [⟨⟨[0], [], []⟩, [.t .bool], []⟩]
def qat_tr : Bool → Tr (Nat × List (TV U)) := fun x => .ret (0, [⟨.bool, x⟩])
def qat_enc : Nat → List (TV U) → Option (Bool)
  | 0, [⟨.bool, a0⟩] => some a0
  | _, _ => none
def qat_dec : Bool → Nat × List (TV U) := fun x => (0, [⟨.bool, x⟩])
def qat_in : List (TV U) → Option (Bool)
  | [⟨(.int .i32), a0⟩] => qat a0
  | _ => none
def qat_md : Mode U := ⟨qat_sh, [], qat_os, fun ls => .get (qat_in ls) qat_tr⟩
theorem qat_post : zaad kk env0 81 qat_md :=
  fn_of (fn := Tryz.f81) qat_enc qat_dec (zaac eqOk mixed known25) (by kernel_rfl) (L := noL) (zaab (bs := []) (by kernel_rfl) trivial) (fun _ => rfl) (by intro i qs r h; unfold qat_enc at h; split at h <;> cases h <;> rfl)
    (by intro ls r h; unfold qat_in at h; split at h; rw [qat, zaaa] at h; exact Eq.trans (by kernel_rfl) h; cases h)
def ms26 : List (FuncId × Mode U) := (81, qat_md) :: ms25
theorem known26 : Known kk env0 (zaae ms26) := known_cons (by kernel_rfl) qat_post known25
def qbh_sh2 : StSh := ⟨⟨[0, 1, 7, 8], [], []⟩, [.t (.slc .str), .t .str, .t (.int .i64), .t (.int .i64)], []⟩
def qbh_o2 : List Out := [⟨.ret, ⟨⟨[4], [], []⟩, [.t (.int .i64)], []⟩⟩, ⟨.exit 0, ⟨⟨[], [], []⟩, [], []⟩⟩]
def qbh_b2 : Code := (zaai (zaag Tryz.f95) 0)
def qbh_rec2 (rec : List (List UInt8) → List UInt8 → Int → Int → Option ((Int) ⊕ (Unit))) : List (TV U) → Option ((Int) ⊕ (Unit))
  | [⟨(.slc .str), a0⟩, ⟨.str, a1⟩, ⟨(.int .i64), a2⟩, ⟨(.int .i64), a3⟩] => rec a0 a1 a2 a3
  | _ => none
def qbh_enc2 : Nat → List (TV U) → Option ((Int) ⊕ (Unit))
  | 0, [⟨(.int .i64), a0⟩] => some (.inl a0)
  | 1, [] => some (.inr ())
  | _, _ => none
def qbh_dec2 : (Int) ⊕ (Unit) → Nat × List (TV U) := fun r => match r with | (.inl x) => (0, [⟨(.int .i64), x⟩]) | (.inr x) => (1, [])
def qbh_tr2 : (Int) ⊕ (Unit) → Tr (Nat × List (TV U)) := fun r => .alt r (fun x => .ret (0, [⟨(.int .i64), x⟩])) (fun y => (fun x => .ret (1, [])) y)
def qbh_lp2 : Lift.Loop U := ⟨qbh_sh2, qbh_o2, fun ls => .get (qbh_rec2 qbh_l2 ls) qbh_tr2⟩
theorem qbh_ok2 : LoopR kk env0 Tryz.f95.ntmps qbh_b2 qbh_lp2 :=
  zaaj qbh_enc2 qbh_dec2 (fun n => qbh_rec2 (qbh_i2 n)) (zaac eqOk mixed known26) (L := noL) (zaab (bs := []) (by kernel_rfl) trivial) (by intro r; rcases r with r | r <;> rfl) (by intro i qs r h; unfold qbh_enc2 at h; split at h <;> cases h <;> rfl)
    (by intro ls r h; unfold qbh_rec2 at h; split at h <;> cases h)
    (by intro n ls r h; unfold qbh_rec2 at h; split at h; exact (show _ = qbh_t2 (qbh_i2 n) _ _ _ _ from by kernel_rfl).trans h; cases h) (by rw [qbh_l2, zaaa])
def qbh_sh : StSh := ⟨⟨[0, 1], [], []⟩, [.t (.slc .str), .t .str], []⟩
def qbh_os : List StSh := [⟨⟨[0], [], []⟩, [.t (.int .i64)], []⟩]
def qbh_tr : Int → Tr (Nat × List (TV U)) := fun x => .ret (0, [⟨(.int .i64), x⟩])
def qbh_L : Nat → Option (Lift.Loop U) := fun n => bif Nat.beq n 2 then some qbh_lp2 else none
def qbh_enc : Nat → List (TV U) → Option (Int)
  | 0, [⟨(.int .i64), a0⟩] => some a0
  | _, _ => none
def qbh_dec : Int → Nat × List (TV U) := fun x => (0, [⟨(.int .i64), x⟩])
def qbh_in : List (TV U) → Option (Int)
  | [⟨(.slc .str), a0⟩, ⟨.str, a1⟩] => qbh a0 a1
  | _ => none
def qbh_md : Mode U := ⟨qbh_sh, [], qbh_os, fun ls => .get (qbh_in ls) qbh_tr⟩
theorem qbh_post : zaad kk env0 95 qbh_md :=
  fn_of (fn := Tryz.f95) qbh_enc qbh_dec (zaac eqOk mixed known26) (by kernel_rfl) (L := qbh_L) (zaab (bs := [qbh_b2]) (by kernel_rfl) ⟨.inr ⟨_, by kernel_rfl, zaak.of_round (qbh_ok2)⟩, trivial⟩) (fun _ => rfl) (by intro i qs r h; unfold qbh_enc at h; split at h <;> cases h <;> rfl)
    (by intro ls r h; unfold qbh_in at h; split at h; rw [qbh, zaaa] at h; exact Eq.trans (by kernel_rfl) h; cases h)
def ms27 : List (FuncId × Mode U) := (95, qbh_md) :: ms26
theorem known27 : Known kk env0 (zaae ms27) := known_cons (by kernel_rfl) qbh_post known26
def qbg_sh : StSh := ⟨⟨[0, 1], [], []⟩, [.t (.slc .str), .t .str], []⟩
def qbg_os : List StSh := [⟨⟨[0], [], []⟩, [.t .bool], []⟩]
def qbg_tr : Bool → Tr (Nat × List (TV U)) := fun x => .ret (0, [⟨.bool, x⟩])
def qbg_enc : Nat → List (TV U) → Option (Bool)
  | 0, [⟨.bool, a0⟩] => some a0
  | _, _ => none
def qbg_dec : Bool → Nat × List (TV U) := fun x => (0, [⟨.bool, x⟩])
def qbg_in : List (TV U) → Option (Bool)
  | [⟨(.slc .str), a0⟩, ⟨.str, a1⟩] => qbg a0 a1
  | _ => none
def qbg_md : Mode U := ⟨qbg_sh, [], qbg_os, fun ls => .get (qbg_in ls) qbg_tr⟩
theorem qbg_post : zaad kk env0 86 qbg_md :=
  fn_of (fn := Tryz.f86) qbg_enc qbg_dec (zaac eqOk mixed known27) (by kernel_rfl) (L := noL) (zaab (bs := []) (by kernel_rfl) trivial) (fun _ => rfl) (by intro i qs r h; unfold qbg_enc at h; split at h <;> cases h <;> rfl)
    (by intro ls r h; unfold qbg_in at h; split at h; rw [qbg, zaaa] at h; exact Eq.trans (by kernel_rfl) h; cases h)
def ms28 : List (FuncId × Mode U) := (86, qbg_md) :: ms27
theorem known28 : Known kk env0 (zaae ms28) := known_cons (by kernel_rfl) qbg_post known27
def qaw_sh : StSh := ⟨⟨[0], [], []⟩, [.t .str], []⟩
def qaw_os : List StSh := [⟨⟨[0], [], []⟩, [.t .str], []⟩]
def qaw_tr : (List UInt8) → Tr (Nat × List (TV U)) := fun x => .ret (0, [⟨.str, x⟩])
def qaw_enc : Nat → List (TV U) → Option ((List UInt8))
  | 0, [⟨.str, a0⟩] => some a0
  | _, _ => none
def qaw_dec : (List UInt8) → Nat × List (TV U) := fun x => (0, [⟨.str, x⟩])
def qaw_in : List (TV U) → Option ((List UInt8))
  | [⟨.str, a0⟩] => qaw a0
  | _ => none
def qaw_md : Mode U := ⟨qaw_sh, [], qaw_os, fun ls => .get (qaw_in ls) qaw_tr⟩
theorem qaw_post : zaad kk env0 82 qaw_md :=
  fn_of (fn := Tryz.f82) qaw_enc qaw_dec (zaac eqOk mixed known28) (by kernel_rfl) (L := noL) (zaab (bs := []) (by kernel_rfl) trivial) (fun _ => rfl) (by intro i qs r h; unfold qaw_enc at h; split at h <;> cases h <;> rfl)
    (by intro ls r h; unfold qaw_in at h; split at h; rw [qaw, zaaa] at h; exact Eq.trans (by kernel_rfl) h; cases h)
def ms29 : List (FuncId × Mode U) := (82, qaw_md) :: ms28
theorem known29 : Known kk env0 (zaae ms29) := known_cons (by kernel_rfl) qaw_post known28
def qay_sh2 : StSh := ⟨⟨[0, 6], [6], []⟩, [.t .str, .ptr 6 0], [.sit]⟩
def qay_o2 : List Out := [⟨.ret, ⟨⟨[2], [], []⟩, [.t .str], []⟩⟩, ⟨.exit 0, ⟨⟨[0], [], []⟩, [.t .str], []⟩⟩]
def qay_b2 : Code := (zaai (zaag Tryz.f83) 0)
def qay_rec2 (rec : List UInt8 → List UInt8 → Nat → Option (((List UInt8)) ⊕ ((List UInt8)))) : List (TV U) → Option (((List UInt8)) ⊕ ((List UInt8)))
  | [⟨.str, a0⟩, ⟨.str, a1⟩, ⟨.fn, a2⟩] => rec a0 a1 a2
  | _ => none
def qay_enc2 : Nat → List (TV U) → Option (((List UInt8)) ⊕ ((List UInt8)))
  | 0, [⟨.str, a0⟩] => some (.inl a0)
  | 1, [⟨.str, a0⟩] => some (.inr a0)
  | _, _ => none
def qay_dec2 : ((List UInt8)) ⊕ ((List UInt8)) → Nat × List (TV U) := fun r => match r with | (.inl x) => (0, [⟨.str, x⟩]) | (.inr x) => (1, [⟨.str, x⟩])
def qay_tr2 : ((List UInt8)) ⊕ ((List UInt8)) → Tr (Nat × List (TV U)) := fun r => .alt r (fun x => .ret (0, [⟨.str, x⟩])) (fun y => (fun x => .ret (1, [⟨.str, x⟩])) y)
def qay_lp2 : Lift.Loop U := ⟨qay_sh2, qay_o2, fun ls => .get (qay_rec2 qay_l2 ls) qay_tr2⟩
theorem qay_ok2 : LoopR kk env0 Tryz.f83.ntmps qay_b2 qay_lp2 :=
  zaaj qay_enc2 qay_dec2 (fun n => qay_rec2 (qay_i2 n)) (zaac eqOk mixed known29) (L := noL) (zaab (bs := []) (by kernel_rfl) trivial) (by intro r; rcases r with r | r <;> rfl) (by intro i qs r h; unfold qay_enc2 at h; split at h <;> cases h <;> rfl)
    (by intro ls r h; unfold qay_rec2 at h; split at h <;> cases h)
    (by intro n ls r h; unfold qay_rec2 at h; split at h; exact (show _ = qay_t2 (qay_i2 n) _ _ _ from by kernel_rfl).trans h; cases h) (by rw [qay_l2, zaaa])
def qay_sh : StSh := ⟨⟨[0], [], []⟩, [.t .str], []⟩
def qay_os : List StSh := [⟨⟨[0], [], []⟩, [.t .str], []⟩]
def qay_tr : (List UInt8) → Tr (Nat × List (TV U)) := fun x => .ret (0, [⟨.str, x⟩])
def qay_L : Nat → Option (Lift.Loop U) := fun n => bif Nat.beq n 2 then some qay_lp2 else none
def qay_enc : Nat → List (TV U) → Option ((List UInt8))
  | 0, [⟨.str, a0⟩] => some a0
  | _, _ => none
def qay_dec : (List UInt8) → Nat × List (TV U) := fun x => (0, [⟨.str, x⟩])
def qay_in : List (TV U) → Option ((List UInt8))
  | [⟨.str, a0⟩] => qay a0
  | _ => none
def qay_md : Mode U := ⟨qay_sh, [], qay_os, fun ls => .get (qay_in ls) qay_tr⟩
theorem qay_post : zaad kk env0 83 qay_md :=
  fn_of (fn := Tryz.f83) qay_enc qay_dec (zaac eqOk mixed known29) (by kernel_rfl) (L := qay_L) (zaab (bs := [qay_b2]) (by kernel_rfl) ⟨.inr ⟨_, by kernel_rfl, zaak.of_round (qay_ok2)⟩, trivial⟩) (fun _ => rfl) (by intro i qs r h; unfold qay_enc at h; split at h <;> cases h <;> rfl)
    (by intro ls r h; unfold qay_in at h; split at h; rw [qay, zaaa] at h; exact Eq.trans (by kernel_rfl) h; cases h)
def ms30 : List (FuncId × Mode U) := (83, qay_md) :: ms29
theorem known30 : Known kk env0 (zaae ms30) := known_cons (by kernel_rfl) qay_post known29
def qau_sh : StSh := ⟨⟨[0], [], []⟩, [.t .str], []⟩
def qau_os : List StSh := [⟨⟨[0, 1], [], []⟩, [.t (.int .i64), .t .bool], []⟩]
def qau_tr : Int × Bool → Tr (Nat × List (TV U)) := fun x => .ret (0, [⟨(.int .i64), x.1⟩, ⟨.bool, x.2⟩])
def qau_enc : Nat → List (TV U) → Option (Int × Bool)
  | 0, [⟨(.int .i64), a0⟩, ⟨.bool, a1⟩] => some (a0, a1)
  | _, _ => none
def qau_dec : Int × Bool → Nat × List (TV U) := fun x => (0, [⟨(.int .i64), x.1⟩, ⟨.bool, x.2⟩])
def qau_in : List (TV U) → Option (Int × Bool)
  | [⟨.str, a0⟩] => qau a0
  | _ => none
def qau_md : Mode U := ⟨qau_sh, [], qau_os, fun ls => .get (qau_in ls) qau_tr⟩
theorem qau_post : zaad kk env0 85 qau_md :=
  fn_of (fn := Tryz.f85) qau_enc qau_dec (zaac eqOk mixed known30) (by kernel_rfl) (L := noL) (zaab (bs := []) (by kernel_rfl) trivial) (fun _ => rfl) (by intro i qs r h; unfold qau_enc at h; split at h <;> cases h <;> rfl)
    (by intro ls r h; unfold qau_in at h; split at h; rw [qau, zaaa] at h; exact Eq.trans (by kernel_rfl) h; cases h)
def ms31 : List (FuncId × Mode U) := (85, qau_md) :: ms30
theorem known31 : Known kk env0 (zaae ms31) := known_cons (by kernel_rfl) qau_post known30
def qas_sh : StSh := ⟨⟨[], [], []⟩, [], []⟩
def qas_os : List StSh := [⟨⟨[0], [], [⟨.slot 0, 100000, 9, .str⟩]⟩, [.oslc 100000], [.row 9 .str]⟩]
def qas_tr : (List (List UInt8)) → Tr (Nat × List (TV U)) := fun x => .ret (0, [⟨(.slc .str), x⟩])
def qas_enc : Nat → List (TV U) → Option ((List (List UInt8)))
  | 0, [⟨(.slc .str), a0⟩] => some a0
  | _, _ => none
def qas_dec : (List (List UInt8)) → Nat × List (TV U) := fun x => (0, [⟨(.slc .str), x⟩])
def qas_in : List (TV U) → Option ((List (List UInt8)))
  | [] => qas
  | _ => none
def qas_md : Mode U := ⟨qas_sh, [], qas_os, fun ls => .get (qas_in ls) qas_tr⟩
theorem qas_post : zaad kk env0 87 qas_md :=
  fn_of (fn := Tryz.f87) qas_enc qas_dec (zaac eqOk mixed known31) (by kernel_rfl) (L := noL) (zaab (bs := []) (by kernel_rfl) trivial) (fun _ => rfl) (by intro i qs r h; unfold qas_enc at h; split at h <;> cases h <;> rfl)
    (by intro ls r h; unfold qas_in at h; split at h; rw [qas, zaaa] at h; exact Eq.trans (by kernel_rfl) h; cases h)
def ms32 : List (FuncId × Mode U) := (87, qas_md) :: ms31
theorem known32 : Known kk env0 (zaae ms32) := known_cons (by kernel_rfl) qas_post known31
def qax_sh : StSh := ⟨⟨[0], [], []⟩, [.t .str], []⟩
def qax_os : List StSh := [⟨⟨[0, 1], [], []⟩, [.t (.st 121), .t (.int .i64)], []⟩]
def qax_tr : Token × Int → Tr (Nat × List (TV U)) := fun x => .ret (0, [⟨(.st 121), x.1⟩, ⟨(.int .i64), x.2⟩])
def qax_enc : Nat → List (TV U) → Option (Token × Int)
  | 0, [⟨(.st 121), a0⟩, ⟨(.int .i64), a1⟩] => some (a0, a1)
  | _, _ => none
def qax_dec : Token × Int → Nat × List (TV U) := fun x => (0, [⟨(.st 121), x.1⟩, ⟨(.int .i64), x.2⟩])
def qax_in : List (TV U) → Option (Token × Int)
  | [⟨.str, a0⟩] => qax a0
  | _ => none
def qax_md : Mode U := ⟨qax_sh, [], qax_os, fun ls => .get (qax_in ls) qax_tr⟩
theorem qax_post : zaad kk env0 76 qax_md :=
  fn_of (fn := Tryz.f76) qax_enc qax_dec (zaac eqOk mixed known32) (by kernel_rfl) (L := noL) (zaab (bs := []) (by kernel_rfl) trivial) (fun _ => rfl) (by intro i qs r h; unfold qax_enc at h; split at h <;> cases h <;> rfl)
    (by intro ls r h; unfold qax_in at h; split at h; rw [qax, zaaa] at h; exact Eq.trans (by kernel_rfl) h; cases h)
def ms33 : List (FuncId × Mode U) := (76, qax_md) :: ms32
theorem known33 : Known kk env0 (zaae ms33) := known_cons (by kernel_rfl) qax_post known32
def qar_sh6 : StSh := ⟨⟨[0, 3, 6, 7], [3], [⟨.slot 6, 6, 121, (.st 121)⟩]⟩, [.t .str, .ptr 3 0, .oslc 6, .t (.int .i64)], [.blk 117 [.t (.int .i64), .t (.int .i64), .t .str], .row 121 (.st 121)]⟩
def qar_o6 : List Out := [⟨.ret, ⟨⟨[2, 3], [3], []⟩, [.nil, .ptr 3 0], [.blk 117 [.t (.int .i64), .t (.int .i64), .t .str]]⟩⟩, ⟨.exit 0, ⟨⟨[0, 3, 6], [3], [⟨.slot 6, 6, 121, (.st 121)⟩]⟩, [.t .str, .ptr 3 0, .oslc 6], [.blk 117 [.t (.int .i64), .t (.int .i64), .t .str], .row 121 (.st 121)]⟩⟩]
def qar_b6 : Code := (zaai (zaag Tryz.f70) 0)
def qar_rec6 (rec : List UInt8 → Int → Int → Int → List UInt8 → List Token → Option ((Int × Int × (List UInt8)) ⊕ ((List UInt8) × Int × Int × (List UInt8) × (List Token)))) : List (TV U) → Option ((Int × Int × (List UInt8)) ⊕ ((List UInt8) × Int × Int × (List UInt8) × (List Token)))
  | [⟨.str, a0⟩, ⟨(.int .i64), a1⟩, ⟨(.int .i64), a2⟩, ⟨(.int .i64), a3⟩, ⟨.str, a4⟩, ⟨(.slc (.st 121)), a5⟩] => rec a0 a1 a2 a3 a4 a5
  | _ => none
def qar_enc6 : Nat → List (TV U) → Option ((Int × Int × (List UInt8)) ⊕ ((List UInt8) × Int × Int × (List UInt8) × (List Token)))
  | 0, [⟨(.int .i64), a0⟩, ⟨(.int .i64), a1⟩, ⟨.str, a2⟩] => some (.inl (a0, a1, a2))
  | 1, [⟨.str, a0⟩, ⟨(.int .i64), a1⟩, ⟨(.int .i64), a2⟩, ⟨.str, a3⟩, ⟨(.slc (.st 121)), a4⟩] => some (.inr (a0, a1, a2, a3, a4))
  | _, _ => none
def qar_dec6 : (Int × Int × (List UInt8)) ⊕ ((List UInt8) × Int × Int × (List UInt8) × (List Token)) → Nat × List (TV U) := fun r => match r with | (.inl x) => (0, [⟨(.int .i64), x.1⟩, ⟨(.int .i64), x.2.1⟩, ⟨.str, x.2.2⟩]) | (.inr x) => (1, [⟨.str, x.1⟩, ⟨(.int .i64), x.2.1⟩, ⟨(.int .i64), x.2.2.1⟩, ⟨.str, x.2.2.2.1⟩, ⟨(.slc (.st 121)), x.2.2.2.2⟩])
def qar_tr6 : (Int × Int × (List UInt8)) ⊕ ((List UInt8) × Int × Int × (List UInt8) × (List Token)) → Tr (Nat × List (TV U)) := fun r => .alt r (fun x => .ret (0, [⟨(.int .i64), x.1⟩, ⟨(.int .i64), x.2.1⟩, ⟨.str, x.2.2⟩])) (fun y => (fun x => .ret (1, [⟨.str, x.1⟩, ⟨(.int .i64), x.2.1⟩, ⟨(.int .i64), x.2.2.1⟩, ⟨.str, x.2.2.2.1⟩, ⟨(.slc (.st 121)), x.2.2.2.2⟩])) y)
def qar_lp6 : Lift.Loop U := ⟨qar_sh6, qar_o6, fun ls => .get (qar_rec6 qar_l6 ls) qar_tr6⟩
theorem qar_ok6 : LoopR kk env0 Tryz.f70.ntmps qar_b6 qar_lp6 :=
  zaaj qar_enc6 qar_dec6 (fun n => qar_rec6 (qar_i6 n)) (zaac eqOk mixed known33) (L := noL) (zaab (bs := []) (by kernel_rfl) trivial) (by intro r; rcases r with r | r <;> rfl) (by intro i qs r h; unfold qar_enc6 at h; split at h <;> cases h <;> rfl)
    (by intro ls r h; unfold qar_rec6 at h; split at h <;> cases h)
    (by intro n ls r h; unfold qar_rec6 at h; split at h; exact (show _ = qar_t6 (qar_i6 n) _ _ _ _ _ _ from by kernel_rfl).trans h; cases h) (by rw [qar_l6, zaaa])
def qar_sh : StSh := ⟨⟨[0], [], []⟩, [.t .str], []⟩
def qar_os : List StSh := [⟨⟨[0, 1], [], [⟨.slot 0, 100000, 121, (.st 121)⟩]⟩, [.oslc 100000, .t (.st 117)], [.row 121 (.st 121)]⟩]
def qar_tr : Fault × (List Token) → Tr (Nat × List (TV U)) := fun x => .ret (0, [⟨(.st 117), x.1⟩, ⟨(.slc (.st 121)), x.2⟩])
def qar_L : Nat → Option (Lift.Loop U) := fun n => bif Nat.beq n 6 then some qar_lp6 else none
def qar_enc : Nat → List (TV U) → Option (Fault × (List Token))
  | 0, [⟨(.st 117), a0⟩, ⟨(.slc (.st 121)), a1⟩] => some (a0, a1)
  | _, _ => none
def qar_dec : Fault × (List Token) → Nat × List (TV U) := fun x => (0, [⟨(.st 117), x.1⟩, ⟨(.slc (.st 121)), x.2⟩])
def qar_in : List (TV U) → Option (Fault × (List Token))
  | [⟨.str, a0⟩] => qar a0
  | _ => none
def qar_md : Mode U := ⟨qar_sh, [], qar_os, fun ls => .get (qar_in ls) qar_tr⟩
theorem qar_post : zaad kk env0 70 qar_md :=
  fn_of (fn := Tryz.f70) qar_enc qar_dec (zaac eqOk mixed known33) (by kernel_rfl) (L := qar_L) (zaab (bs := [qar_b6]) (by kernel_rfl) ⟨.inr ⟨_, by kernel_rfl, zaak.of_round (qar_ok6)⟩, trivial⟩) (fun _ => rfl) (by intro i qs r h; unfold qar_enc at h; split at h <;> cases h <;> rfl)
    (by intro ls r h; unfold qar_in at h; split at h; rw [qar, zaaa] at h; exact Eq.trans (by kernel_rfl) h; cases h)
def ms34 : List (FuncId × Mode U) := (70, qar_md) :: ms33
theorem known34 : Known kk env0 (zaae ms34) := known_cons (by kernel_rfl) qar_post known33
def qbu_sh : StSh := ⟨⟨[0], [], []⟩, [.t .str], []⟩
def qbu_os : List StSh := [⟨⟨[0], [], []⟩, [.t .bool], []⟩]
def qbu_tr : Bool → Tr (Nat × List (TV U)) := fun x => .ret (0, [⟨.bool, x⟩])
def qbu_enc : Nat → List (TV U) → Option (Bool)
  | 0, [⟨.bool, a0⟩] => some a0
  | _, _ => none
def qbu_dec : Bool → Nat × List (TV U) := fun x => (0, [⟨.bool, x⟩])
def qbu_in : List (TV U) → Option (Bool)
  | [⟨.str, a0⟩] => qbu a0
  | _ => none
def qbu_md : Mode U := ⟨qbu_sh, [], qbu_os, fun ls => .get (qbu_in ls) qbu_tr⟩
theorem qbu_post : zaad kk env0 56 qbu_md :=
  fn_of (fn := Tryz.f56) qbu_enc qbu_dec (zaac eqOk mixed known34) (by kernel_rfl) (L := jnL) (zaab (bs := []) (by kernel_rfl) trivial) (fun _ => rfl) (by intro i qs r h; unfold qbu_enc at h; split at h <;> cases h <;> rfl)
    (by intro ls r h; unfold qbu_in at h; split at h; rw [qbu, zaaa] at h; exact Eq.trans (by kernel_rfl) h; cases h)
def ms35 : List (FuncId × Mode U) := (56, qbu_md) :: ms34
theorem known35 : Known kk env0 (zaae ms35) := known_cons (by kernel_rfl) qbu_post known34
def qbv_sh : StSh := ⟨⟨[], [], []⟩, [], []⟩
def qbv_os : List StSh := [⟨⟨[0], [], []⟩, [.t (.map (.int .i64) (.st 123))], []⟩]
def qbv_tr : (List ((Int) × (Shape))) → Tr (Nat × List (TV U)) := fun x => .ret (0, [⟨(.map (.int .i64) (.st 123)), x⟩])
def qbv_enc : Nat → List (TV U) → Option ((List ((Int) × (Shape))))
  | 0, [⟨(.map (.int .i64) (.st 123)), a0⟩] => some a0
  | _, _ => none
def qbv_dec : (List ((Int) × (Shape))) → Nat × List (TV U) := fun x => (0, [⟨(.map (.int .i64) (.st 123)), x⟩])
def qbv_in : List (TV U) → Option ((List ((Int) × (Shape))))
  | [] => qbv
  | _ => none
def qbv_md : Mode U := ⟨qbv_sh, [], qbv_os, fun ls => .get (qbv_in ls) qbv_tr⟩
theorem qbv_post : zaad kk env0 71 qbv_md :=
  fn_of (fn := Tryz.f71) qbv_enc qbv_dec (zaac eqOk mixed known35) (by kernel_rfl) (L := jnL) (zaab (bs := []) (by kernel_rfl) trivial) (fun _ => rfl) (by intro i qs r h; unfold qbv_enc at h; split at h <;> cases h <;> rfl)
    (by intro ls r h; unfold qbv_in at h; split at h; rw [qbv, zaaa] at h; exact Eq.trans (by kernel_rfl) h; cases h)
def ms36 : List (FuncId × Mode U) := (71, qbv_md) :: ms35
theorem known36 : Known kk env0 (zaae ms36) := known_cons (by kernel_rfl) qbv_post known35
def qbt_sh : StSh := ⟨⟨[0, 1], [], []⟩, [.t .str, .t .bool], []⟩
def qbt_os : List StSh := [⟨⟨[0], [], []⟩, [.t .bool], []⟩]
def qbt_tr : Bool → Tr (Nat × List (TV U)) := fun x => .ret (0, [⟨.bool, x⟩])
def qbt_enc : Nat → List (TV U) → Option (Bool)
  | 0, [⟨.bool, a0⟩] => some a0
  | _, _ => none
def qbt_dec : Bool → Nat × List (TV U) := fun x => (0, [⟨.bool, x⟩])
def qbt_in : List (TV U) → Option (Bool)
  | [⟨.str, a0⟩, ⟨.bool, a1⟩] => qbt a0 a1
  | _ => none
def qbt_md : Mode U := ⟨qbt_sh, [], qbt_os, fun ls => .get (qbt_in ls) qbt_tr⟩
theorem qbt_post : zaad kk env0 72 qbt_md :=
  fn_of (fn := Tryz.f72) qbt_enc qbt_dec (zaac eqOk mixed known36) (by kernel_rfl) (L := jnL) (zaab (bs := []) (by kernel_rfl) trivial) (fun _ => rfl) (by intro i qs r h; unfold qbt_enc at h; split at h <;> cases h <;> rfl)
    (by intro ls r h; unfold qbt_in at h; split at h; rw [qbt, zaaa] at h; exact Eq.trans (by kernel_rfl) h; cases h)
def ms37 : List (FuncId × Mode U) := (72, qbt_md) :: ms36
theorem known37 : Known kk env0 (zaae ms37) := known_cons (by kernel_rfl) qbt_post known36
def qbw_sh : StSh := ⟨⟨[0], [], []⟩, [.t (.st 78)], []⟩
def qbw_os : List StSh := [⟨⟨[0], [], []⟩, [.t .bool], []⟩]
def qbw_tr : Bool → Tr (Nat × List (TV U)) := fun x => .ret (0, [⟨.bool, x⟩])
def qbw_enc : Nat → List (TV U) → Option (Bool)
  | 0, [⟨.bool, a0⟩] => some a0
  | _, _ => none
def qbw_dec : Bool → Nat × List (TV U) := fun x => (0, [⟨.bool, x⟩])
def qbw_in : List (TV U) → Option (Bool)
  | [⟨(.st 78), a0⟩] => qbw a0
  | _ => none
def qbw_md : Mode U := ⟨qbw_sh, [], qbw_os, fun ls => .get (qbw_in ls) qbw_tr⟩
theorem qbw_post : zaad kk env0 58 qbw_md :=
  fn_of (fn := Tryz.f58) qbw_enc qbw_dec (zaac eqOk mixed known37) (by kernel_rfl) (L := jnL) (zaab (bs := []) (by kernel_rfl) trivial) (fun _ => rfl) (by intro i qs r h; unfold qbw_enc at h; split at h <;> cases h <;> rfl)
    (by intro ls r h; unfold qbw_in at h; split at h; rw [qbw, zaaa] at h; exact Eq.trans (by kernel_rfl) h; cases h)
def ms38 : List (FuncId × Mode U) := (58, qbw_md) :: ms37
theorem known38 : Known kk env0 (zaae ms38) := known_cons (by kernel_rfl) qbw_post known37
def qbr_sh : StSh := ⟨⟨[0, 1, 2], [100000], []⟩, [.t (.st 78), .t (.int .i64), .ptr 100000 0], [.blk 4 [.t .bool]]⟩
def qbr_os : List StSh := [⟨⟨[], [100000], []⟩, [], [.blk 4 [.t .bool]]⟩]
def qbr_tr : Bool → Tr (Nat × List (TV U)) := fun x => .ret (0, [⟨.bool, x⟩])
def qbr_enc : Nat → List (TV U) → Option (Bool)
  | 0, [⟨.bool, a0⟩] => some a0
  | _, _ => none
def qbr_dec : Bool → Nat × List (TV U) := fun x => (0, [⟨.bool, x⟩])
def qbr_in : List (TV U) → Option (Bool)
  | [⟨(.st 78), a0⟩, ⟨(.int .i64), a1⟩, ⟨.bool, a2⟩] => qbr a0 a1 a2
  | _ => none
def qbr_md : Mode U := ⟨qbr_sh, [⟨100000, .slot 2, []⟩], qbr_os, fun ls => .get (qbr_in ls) qbr_tr⟩
theorem qbr_post : zaad kk env0 57 qbr_md :=
  fn_of (fn := Tryz.f57) qbr_enc qbr_dec (zaac eqOk mixed known38) (by kernel_rfl) (L := jnL) (zaab (bs := []) (by kernel_rfl) trivial) (fun _ => rfl) (by intro i qs r h; unfold qbr_enc at h; split at h <;> cases h <;> rfl)
    (by intro ls r h; unfold qbr_in at h; split at h; rw [qbr, zaaa] at h; exact Eq.trans (by kernel_rfl) h; cases h)
def ms39 : List (FuncId × Mode U) := (57, qbr_md) :: ms38
theorem known39 : Known kk env0 (zaae ms39) := known_cons (by kernel_rfl) qbr_post known38
def qbp_sh : StSh := ⟨⟨[0], [], []⟩, [.t (.st 57)], []⟩
def qbp_os : List StSh := [⟨⟨[0], [], []⟩, [.t .bool], []⟩]
def qbp_tr : Bool → Tr (Nat × List (TV U)) := fun x => .ret (0, [⟨.bool, x⟩])
def qbp_enc : Nat → List (TV U) → Option (Bool)
  | 0, [⟨.bool, a0⟩] => some a0
  | _, _ => none
def qbp_dec : Bool → Nat × List (TV U) := fun x => (0, [⟨.bool, x⟩])
def qbp_in : List (TV U) → Option (Bool)
  | [⟨(.st 57), a0⟩] => qbp a0
  | _ => none
def qbp_md : Mode U := ⟨qbp_sh, [], qbp_os, fun ls => .get (qbp_in ls) qbp_tr⟩
theorem qbp_post : zaad kk env0 60 qbp_md :=
  fn_of (fn := Tryz.f60) qbp_enc qbp_dec (zaac eqOk mixed known39) (by kernel_rfl) (L := jnL) (zaab (bs := []) (by kernel_rfl) trivial) (fun _ => rfl) (by intro i qs r h; unfold qbp_enc at h; split at h <;> cases h <;> rfl)
    (by intro ls r h; unfold qbp_in at h; split at h; rw [qbp, zaaa] at h; exact Eq.trans (by kernel_rfl) h; cases h)
def ms40 : List (FuncId × Mode U) := (60, qbp_md) :: ms39
theorem known40 : Known kk env0 (zaae ms40) := known_cons (by kernel_rfl) qbp_post known39
def qbs_sh : StSh := ⟨⟨[0, 1, 2], [100000], []⟩, [.t (.st 57), .t (.int .i64), .ptr 100000 0], [.blk 4 [.t .bool]]⟩
def qbs_os : List StSh := [⟨⟨[], [100000], []⟩, [], [.blk 4 [.t .bool]]⟩]
def qbs_tr : Bool → Tr (Nat × List (TV U)) := fun x => .ret (0, [⟨.bool, x⟩])
def qbs_enc : Nat → List (TV U) → Option (Bool)
  | 0, [⟨.bool, a0⟩] => some a0
  | _, _ => none
def qbs_dec : Bool → Nat × List (TV U) := fun x => (0, [⟨.bool, x⟩])
def qbs_in : List (TV U) → Option (Bool)
  | [⟨(.st 57), a0⟩, ⟨(.int .i64), a1⟩, ⟨.bool, a2⟩] => qbs a0 a1 a2
  | _ => none
def qbs_md : Mode U := ⟨qbs_sh, [⟨100000, .slot 2, []⟩], qbs_os, fun ls => .get (qbs_in ls) qbs_tr⟩
theorem qbs_post : zaad kk env0 59 qbs_md :=
  fn_of (fn := Tryz.f59) qbs_enc qbs_dec (zaac eqOk mixed known40) (by kernel_rfl) (L := jnL) (zaab (bs := []) (by kernel_rfl) trivial) (fun _ => rfl) (by intro i qs r h; unfold qbs_enc at h; split at h <;> cases h <;> rfl)
    (by intro ls r h; unfold qbs_in at h; split at h; rw [qbs, zaaa] at h; exact Eq.trans (by kernel_rfl) h; cases h)
def ms41 : List (FuncId × Mode U) := (59, qbs_md) :: ms40
theorem known41 : Known kk env0 (zaae ms41) := known_cons (by kernel_rfl) qbs_post known40
def qac_sh : StSh := ⟨⟨[0, 1, 2], [100000], []⟩, [.agg [.clo 57 [.ptr 100000 0], .clo 59 [.ptr 100000 0]], .t (.st 57), .t (.int .i64)], [.blk 4 [.t .bool]]⟩
def qac_os : List StSh := [⟨⟨[], [100000], []⟩, [], [.blk 4 [.t .bool]]⟩]
def qac_tr : Bool → Tr (Nat × List (TV U)) := fun x => .ret (0, [⟨.bool, x⟩])
def qac_in (rec_qac : TExpr → Int → Bool → Option (Bool)) : List (TV U) → Option (Bool)
  | [⟨(.st 57), a0⟩, ⟨(.int .i64), a1⟩, ⟨.bool, a2⟩] => rec_qac a0 a1 a2
  | _ => none
def qac_rmd (rec_qac : TExpr → Int → Bool → Option (Bool)) : Mode U := ⟨qac_sh, [⟨100000, .slot 0, [0, 0]⟩], qac_os, fun ls => .get (qac_in rec_qac ls) qac_tr⟩
def ms42 (rec_qac : TExpr → Int → Bool → Option (Bool)) : List (FuncId × Mode U) := (77, (qac_rmd rec_qac)) :: ms41
theorem known42 (rec_qac : TExpr → Int → Bool → Option (Bool)) (hrec_qac : zaad kk env0 77 (qac_rmd rec_qac)) : Known kk env0 (zaae (ms42 rec_qac)) := known_cons (by kernel_rfl) hrec_qac known41
def qac_sh3 : StSh := ⟨⟨[2, 3, 14, 15, 16], [100000, 3], []⟩, [.t (.int .i64), .ptr 3 0, .t (.slc (.st 57)), .t (.int .i64), .t (.int .i64)], [.blk 4 [.t .bool], .blk 111 [.clo 57 [.ptr 100000 0], .clo 59 [.ptr 100000 0]]]⟩
def qac_o3 : List Out := [⟨.exit 0, ⟨⟨[], [100000], []⟩, [], [.blk 4 [.t .bool]]⟩⟩]
def qac_b3 : Code := (zaai (zaag Tryz.f77) 0)
def qac_rec3 (rec : Int → List TExpr → Int → Int → Bool → Option (Bool)) : List (TV U) → Option (Bool)
  | [⟨(.int .i64), a0⟩, ⟨(.slc (.st 57)), a1⟩, ⟨(.int .i64), a2⟩, ⟨(.int .i64), a3⟩, ⟨.bool, a4⟩] => rec a0 a1 a2 a3 a4
  | _ => none
def qac_enc3 : Nat → List (TV U) → Option (Bool)
  | 0, [⟨.bool, a0⟩] => some a0
  | _, _ => none
def qac_dec3 : Bool → Nat × List (TV U) := fun x => (0, [⟨.bool, x⟩])
def qac_tr3 : Bool → Tr (Nat × List (TV U)) := fun x => .ret (0, [⟨.bool, x⟩])
def qac_lp3 (rec_qac : TExpr → Int → Bool → Option (Bool)) : Lift.Loop U := ⟨qac_sh3, qac_o3, fun ls => .get (qac_rec3 (qac_l3 rec_qac) ls) qac_tr3⟩
theorem qac_ok3 (rec_qac : TExpr → Int → Bool → Option (Bool)) (hrec_qac : zaad kk env0 77 (qac_rmd rec_qac)) : LoopR kk env0 Tryz.f77.ntmps qac_b3 (qac_lp3 rec_qac) :=
  zaaj qac_enc3 qac_dec3 (fun n => qac_rec3 (qac_i3 rec_qac n)) (zaac eqOk mixed (known42 rec_qac hrec_qac)) (L := jnL) (zaab (bs := []) (by kernel_rfl) trivial) (fun _ => rfl) (by intro i qs r h; unfold qac_enc3 at h; split at h <;> cases h <;> rfl)
    (by intro ls r h; unfold qac_rec3 at h; split at h <;> cases h)
    (by intro n ls r h; unfold qac_rec3 at h; split at h; exact (show _ = qac_t3 rec_qac (qac_i3 rec_qac n) _ _ _ _ _ from by kernel_rfl).trans h; cases h) (by rw [qac_l3, zaaa])
def qac_L (rec_qac : TExpr → Int → Bool → Option (Bool)) : Nat → Option (Lift.Loop U) := fun n => bif Nat.beq n zaap then some zaam else bif Nat.beq n 3 then some (qac_lp3 rec_qac) else none
def qac_enc : Nat → List (TV U) → Option (Bool)
  | 0, [⟨.bool, a0⟩] => some a0
  | _, _ => none
def qac_dec : Bool → Nat × List (TV U) := fun x => (0, [⟨.bool, x⟩])
def qac_md : Mode U := qac_rmd qac
theorem qac_step (rec_qac : TExpr → Int → Bool → Option (Bool)) (hrec_qac : zaad kk env0 77 (qac_rmd rec_qac)) : zaau (Kit.withModes kk (zaae (ms42 rec_qac))) env0 Tryz.f77.ntmps (qac_L rec_qac) (zaag Tryz.f77) := zaab (bs := [qac_b3]) (by kernel_rfl) ⟨.inr ⟨_, by kernel_rfl, zaak.of_round (qac_ok3 rec_qac hrec_qac)⟩, trivial⟩
theorem qac_post : zaad kk env0 77 (qac_rmd qac) :=
  zabr (K := kk) (F := qac) qac_rmd qac_i (by rw [qac, zaaa]) (zaa5 (by intro ls r h; unfold qac_in at h; split at h <;> cases h)) (fun n ih => fn_of (fn := Tryz.f77) qac_enc qac_dec (zaac eqOk mixed (known42 (qac_i n) ih)) (by kernel_rfl) (qac_step (qac_i n) ih) (fun _ => rfl) (by intro i qs r h; unfold qac_enc at h; split at h <;> cases h <;> rfl)
    (by intro ls r h; unfold qac_in at h; split at h; exact (show _ = qac_f (qac_i n) _ _ _ from by kernel_rfl).trans h; cases h))
def ms43 : List (FuncId × Mode U) := (77, qac_md) :: ms41
theorem known43 : Known kk env0 (zaae ms43) := known_cons (by kernel_rfl) qac_post known41
def qai_sh : StSh := ⟨⟨[0, 1, 2], [100000], []⟩, [.agg [.clo 57 [.ptr 100000 0], .clo 59 [.ptr 100000 0]], .t (.slc (.st 78)), .t (.int .i64)], [.blk 4 [.t .bool]]⟩
def qai_os : List StSh := [⟨⟨[], [100000], []⟩, [], [.blk 4 [.t .bool]]⟩]
def qai_tr : Bool → Tr (Nat × List (TV U)) := fun x => .ret (0, [⟨.bool, x⟩])
def qai_in (rec_qai : List TStmt → Int → Bool → Option (Bool)) : List (TV U) → Option (Bool)
  | [⟨(.slc (.st 78)), a0⟩, ⟨(.int .i64), a1⟩, ⟨.bool, a2⟩] => rec_qai a0 a1 a2
  | _ => none
def qai_rmd (rec_qai : List TStmt → Int → Bool → Option (Bool)) : Mode U := ⟨qai_sh, [⟨100000, .slot 0, [0, 0]⟩], qai_os, fun ls => .get (qai_in rec_qai ls) qai_tr⟩
def ms44 (rec_qai : List TStmt → Int → Bool → Option (Bool)) : List (FuncId × Mode U) := (73, (qai_rmd rec_qai)) :: ms43
theorem known44 (rec_qai : List TStmt → Int → Bool → Option (Bool)) (hrec_qai : zaad kk env0 73 (qai_rmd rec_qai)) : Known kk env0 (zaae (ms44 rec_qai)) := known_cons (by kernel_rfl) hrec_qai known43
def qai_sh2 : StSh := ⟨⟨[2, 3, 8, 9, 10], [100000, 3], []⟩, [.t (.int .i64), .ptr 3 0, .t (.slc (.st 78)), .t (.int .i64), .t (.int .i64)], [.blk 4 [.t .bool], .blk 111 [.clo 57 [.ptr 100000 0], .clo 59 [.ptr 100000 0]]]⟩
def qai_o2 : List Out := [⟨.exit 0, ⟨⟨[], [100000], []⟩, [], [.blk 4 [.t .bool]]⟩⟩]
def qai_b2 : Code := (zaai (zaag Tryz.f73) 0)
def qai_rec2 (rec : Int → List TStmt → Int → Int → Bool → Option (Bool)) : List (TV U) → Option (Bool)
  | [⟨(.int .i64), a0⟩, ⟨(.slc (.st 78)), a1⟩, ⟨(.int .i64), a2⟩, ⟨(.int .i64), a3⟩, ⟨.bool, a4⟩] => rec a0 a1 a2 a3 a4
  | _ => none
def qai_enc2 : Nat → List (TV U) → Option (Bool)
  | 0, [⟨.bool, a0⟩] => some a0
  | _, _ => none
def qai_dec2 : Bool → Nat × List (TV U) := fun x => (0, [⟨.bool, x⟩])
def qai_tr2 : Bool → Tr (Nat × List (TV U)) := fun x => .ret (0, [⟨.bool, x⟩])
def qai_lp2 (rec_qai : List TStmt → Int → Bool → Option (Bool)) : Lift.Loop U := ⟨qai_sh2, qai_o2, fun ls => .get (qai_rec2 (qai_l2 rec_qai) ls) qai_tr2⟩
theorem qai_ok2 (rec_qai : List TStmt → Int → Bool → Option (Bool)) (hrec_qai : zaad kk env0 73 (qai_rmd rec_qai)) : LoopR kk env0 Tryz.f73.ntmps qai_b2 (qai_lp2 rec_qai) :=
  zaaj qai_enc2 qai_dec2 (fun n => qai_rec2 (qai_i2 rec_qai n)) (zaac eqOk mixed (known44 rec_qai hrec_qai)) (L := jnL) (zaab (bs := []) (by kernel_rfl) trivial) (fun _ => rfl) (by intro i qs r h; unfold qai_enc2 at h; split at h <;> cases h <;> rfl)
    (by intro ls r h; unfold qai_rec2 at h; split at h <;> cases h)
    (by intro n ls r h; unfold qai_rec2 at h; split at h; exact (show _ = qai_t2 rec_qai (qai_i2 rec_qai n) _ _ _ _ _ from by kernel_rfl).trans h; cases h) (by rw [qai_l2, zaaa])
def qai_L (rec_qai : List TStmt → Int → Bool → Option (Bool)) : Nat → Option (Lift.Loop U) := fun n => bif Nat.beq n zaap then some zaam else bif Nat.beq n 2 then some (qai_lp2 rec_qai) else none
def qai_enc : Nat → List (TV U) → Option (Bool)
  | 0, [⟨.bool, a0⟩] => some a0
  | _, _ => none
def qai_dec : Bool → Nat × List (TV U) := fun x => (0, [⟨.bool, x⟩])
def qai_md : Mode U := qai_rmd qai
theorem qai_step (rec_qai : List TStmt → Int → Bool → Option (Bool)) (hrec_qai : zaad kk env0 73 (qai_rmd rec_qai)) : zaau (Kit.withModes kk (zaae (ms44 rec_qai))) env0 Tryz.f73.ntmps (qai_L rec_qai) (zaag Tryz.f73) := zaab (bs := [qai_b2]) (by kernel_rfl) ⟨.inr ⟨_, by kernel_rfl, zaak.of_round (qai_ok2 rec_qai hrec_qai)⟩, trivial⟩
theorem qai_post : zaad kk env0 73 (qai_rmd qai) :=
  zabr (K := kk) (F := qai) qai_rmd qai_i (by rw [qai, zaaa]) (zaa5 (by intro ls r h; unfold qai_in at h; split at h <;> cases h)) (fun n ih => fn_of (fn := Tryz.f73) qai_enc qai_dec (zaac eqOk mixed (known44 (qai_i n) ih)) (by kernel_rfl) (qai_step (qai_i n) ih) (fun _ => rfl) (by intro i qs r h; unfold qai_enc at h; split at h <;> cases h <;> rfl)
    (by intro ls r h; unfold qai_in at h; split at h; exact (show _ = qai_f (qai_i n) _ _ _ from by kernel_rfl).trans h; cases h))
def ms45 : List (FuncId × Mode U) := (73, qai_md) :: ms43
theorem known45 : Known kk env0 (zaae ms45) := known_cons (by kernel_rfl) qai_post known43
def qaf_sh2 : StSh := ⟨⟨[2, 7, 8, 9], [100000, 2], []⟩, [.ptr 2 0, .t (.slc (.st 53)), .t (.int .i64), .t (.int .i64)], [.blk 4 [.t .bool], .blk 111 [.clo 57 [.ptr 100000 0], .clo 59 [.ptr 100000 0]]]⟩
def qaf_o2 : List Out := [⟨.exit 0, ⟨⟨[], [100000], []⟩, [], [.blk 4 [.t .bool]]⟩⟩]
def qaf_b2 : Code := (zaai (zaag Tryz.f61) 0)
def qaf_rec2 (rec : List TThread → Int → Int → Bool → Option (Bool)) : List (TV U) → Option (Bool)
  | [⟨(.slc (.st 53)), a0⟩, ⟨(.int .i64), a1⟩, ⟨(.int .i64), a2⟩, ⟨.bool, a3⟩] => rec a0 a1 a2 a3
  | _ => none
def qaf_enc2 : Nat → List (TV U) → Option (Bool)
  | 0, [⟨.bool, a0⟩] => some a0
  | _, _ => none
def qaf_dec2 : Bool → Nat × List (TV U) := fun x => (0, [⟨.bool, x⟩])
def qaf_tr2 : Bool → Tr (Nat × List (TV U)) := fun x => .ret (0, [⟨.bool, x⟩])
def qaf_lp2 : Lift.Loop U := ⟨qaf_sh2, qaf_o2, fun ls => .get (qaf_rec2 qaf_l2 ls) qaf_tr2⟩
theorem qaf_ok2 : LoopR kk env0 Tryz.f61.ntmps qaf_b2 qaf_lp2 :=
  zaaj qaf_enc2 qaf_dec2 (fun n => qaf_rec2 (qaf_i2 n)) (zaac eqOk mixed known45) (L := jnL) (zaab (bs := []) (by kernel_rfl) trivial) (fun _ => rfl) (by intro i qs r h; unfold qaf_enc2 at h; split at h <;> cases h <;> rfl)
    (by intro ls r h; unfold qaf_rec2 at h; split at h <;> cases h)
    (by intro n ls r h; unfold qaf_rec2 at h; split at h; exact (show _ = qaf_t2 (qaf_i2 n) _ _ _ _ from by kernel_rfl).trans h; cases h) (by rw [qaf_l2, zaaa])
def qaf_sh : StSh := ⟨⟨[0, 1], [100000], []⟩, [.agg [.clo 57 [.ptr 100000 0], .clo 59 [.ptr 100000 0]], .t (.st 44)], [.blk 4 [.t .bool]]⟩
def qaf_os : List StSh := [⟨⟨[], [100000], []⟩, [], [.blk 4 [.t .bool]]⟩]
def qaf_tr : Bool → Tr (Nat × List (TV U)) := fun x => .ret (0, [⟨.bool, x⟩])
def qaf_L : Nat → Option (Lift.Loop U) := fun n => bif Nat.beq n zaap then some zaam else bif Nat.beq n 2 then some qaf_lp2 else none
def qaf_enc : Nat → List (TV U) → Option (Bool)
  | 0, [⟨.bool, a0⟩] => some a0
  | _, _ => none
def qaf_dec : Bool → Nat × List (TV U) := fun x => (0, [⟨.bool, x⟩])
def qaf_in : List (TV U) → Option (Bool)
  | [⟨(.st 44), a0⟩, ⟨.bool, a1⟩] => qaf a0 a1
  | _ => none
def qaf_md : Mode U := ⟨qaf_sh, [⟨100000, .slot 0, [0, 0]⟩], qaf_os, fun ls => .get (qaf_in ls) qaf_tr⟩
theorem qaf_post : zaad kk env0 61 qaf_md :=
  fn_of (fn := Tryz.f61) qaf_enc qaf_dec (zaac eqOk mixed known45) (by kernel_rfl) (L := qaf_L) (zaab (bs := [qaf_b2]) (by kernel_rfl) ⟨.inr ⟨_, by kernel_rfl, zaak.of_round (qaf_ok2)⟩, trivial⟩) (fun _ => rfl) (by intro i qs r h; unfold qaf_enc at h; split at h <;> cases h <;> rfl)
    (by intro ls r h; unfold qaf_in at h; split at h; rw [qaf, zaaa] at h; exact Eq.trans (by kernel_rfl) h; cases h)
def ms46 : List (FuncId × Mode U) := (61, qaf_md) :: ms45
theorem known46 : Known kk env0 (zaae ms46) := known_cons (by kernel_rfl) qaf_post known45
def qbq_sh3 : StSh := ⟨⟨[1, 3, 11, 12, 13], [1, 3], []⟩, [.ptr 1 0, .ptr 3 0, .t (.slc (.st 73)), .t (.int .i64), .t (.int .i64)], [.blk 44 [.t (.slc (.st 73)), .t (.slc .str), .t (.slc (.st 53))], .blk 4 [.t .bool]]⟩
def qbq_o3 : List Out := [⟨.exit 0, ⟨⟨[1, 3], [1, 3], []⟩, [.ptr 1 0, .ptr 3 0], [.blk 44 [.t (.slc (.st 73)), .t (.slc .str), .t (.slc (.st 53))], .blk 4 [.t .bool]]⟩⟩]
def qbq_b3 : Code := (zaai (zaag Tryz.f43) 0)
def qbq_rec3 (rec : List TCell → Int → Int → List TCell → List (List UInt8) → List TThread → Bool → Option ((List TCell) × (List (List UInt8)) × (List TThread) × Bool)) : List (TV U) → Option ((List TCell) × (List (List UInt8)) × (List TThread) × Bool)
  | [⟨(.slc (.st 73)), a0⟩, ⟨(.int .i64), a1⟩, ⟨(.int .i64), a2⟩, ⟨(.slc (.st 73)), a3⟩, ⟨(.slc .str), a4⟩, ⟨(.slc (.st 53)), a5⟩, ⟨.bool, a6⟩] => rec a0 a1 a2 a3 a4 a5 a6
  | _ => none
def qbq_enc3 : Nat → List (TV U) → Option ((List TCell) × (List (List UInt8)) × (List TThread) × Bool)
  | 0, [⟨(.slc (.st 73)), a0⟩, ⟨(.slc .str), a1⟩, ⟨(.slc (.st 53)), a2⟩, ⟨.bool, a3⟩] => some (a0, a1, a2, a3)
  | _, _ => none
def qbq_dec3 : (List TCell) × (List (List UInt8)) × (List TThread) × Bool → Nat × List (TV U) := fun x => (0, [⟨(.slc (.st 73)), x.1⟩, ⟨(.slc .str), x.2.1⟩, ⟨(.slc (.st 53)), x.2.2.1⟩, ⟨.bool, x.2.2.2⟩])
def qbq_tr3 : (List TCell) × (List (List UInt8)) × (List TThread) × Bool → Tr (Nat × List (TV U)) := fun x => .ret (0, [⟨(.slc (.st 73)), x.1⟩, ⟨(.slc .str), x.2.1⟩, ⟨(.slc (.st 53)), x.2.2.1⟩, ⟨.bool, x.2.2.2⟩])
def qbq_lp3 : Lift.Loop U := ⟨qbq_sh3, qbq_o3, fun ls => .get (qbq_rec3 qbq_l3 ls) qbq_tr3⟩
theorem qbq_ok3 : LoopR kk env0 Tryz.f43.ntmps qbq_b3 qbq_lp3 :=
  zaaj qbq_enc3 qbq_dec3 (fun n => qbq_rec3 (qbq_i3 n)) (zaac eqOk mixed known46) (L := jnL) (zaab (bs := []) (by kernel_rfl) trivial) (fun _ => rfl) (by intro i qs r h; unfold qbq_enc3 at h; split at h <;> cases h <;> rfl)
    (by intro ls r h; unfold qbq_rec3 at h; split at h <;> cases h)
    (by intro n ls r h; unfold qbq_rec3 at h; split at h; exact (show _ = qbq_t3 (qbq_i3 n) _ _ _ _ _ _ _ from by kernel_rfl).trans h; cases h) (by rw [qbq_l3, zaaa])
def qbq_sh8 : StSh := ⟨⟨[1, 3, 35, 36, 37], [1, 3], []⟩, [.ptr 1 0, .ptr 3 0, .t (.slc .str), .t (.int .i64), .t (.int .i64)], [.blk 44 [.t (.slc (.st 73)), .t (.slc .str), .t (.slc (.st 53))], .blk 4 [.t .bool]]⟩
def qbq_o8 : List Out := [⟨.exit 2, ⟨⟨[1, 3], [1, 3], []⟩, [.ptr 1 0, .ptr 3 0], [.blk 44 [.t (.slc (.st 73)), .t (.slc .str), .t (.slc (.st 53))], .blk 4 [.t .bool]]⟩⟩]
def qbq_b8 : Code := (zaai (zaag Tryz.f43) 1)
def qbq_rec8 (rec : List (List UInt8) → Int → Int → List TCell → List (List UInt8) → List TThread → Bool → Option ((List TCell) × (List (List UInt8)) × (List TThread) × Bool)) : List (TV U) → Option ((List TCell) × (List (List UInt8)) × (List TThread) × Bool)
  | [⟨(.slc .str), a0⟩, ⟨(.int .i64), a1⟩, ⟨(.int .i64), a2⟩, ⟨(.slc (.st 73)), a3⟩, ⟨(.slc .str), a4⟩, ⟨(.slc (.st 53)), a5⟩, ⟨.bool, a6⟩] => rec a0 a1 a2 a3 a4 a5 a6
  | _ => none
def qbq_enc8 : Nat → List (TV U) → Option ((List TCell) × (List (List UInt8)) × (List TThread) × Bool)
  | 0, [⟨(.slc (.st 73)), a0⟩, ⟨(.slc .str), a1⟩, ⟨(.slc (.st 53)), a2⟩, ⟨.bool, a3⟩] => some (a0, a1, a2, a3)
  | _, _ => none
def qbq_dec8 : (List TCell) × (List (List UInt8)) × (List TThread) × Bool → Nat × List (TV U) := fun x => (0, [⟨(.slc (.st 73)), x.1⟩, ⟨(.slc .str), x.2.1⟩, ⟨(.slc (.st 53)), x.2.2.1⟩, ⟨.bool, x.2.2.2⟩])
def qbq_tr8 : (List TCell) × (List (List UInt8)) × (List TThread) × Bool → Tr (Nat × List (TV U)) := fun x => .ret (0, [⟨(.slc (.st 73)), x.1⟩, ⟨(.slc .str), x.2.1⟩, ⟨(.slc (.st 53)), x.2.2.1⟩, ⟨.bool, x.2.2.2⟩])
def qbq_lp8 : Lift.Loop U := ⟨qbq_sh8, qbq_o8, fun ls => .get (qbq_rec8 qbq_l8 ls) qbq_tr8⟩
theorem qbq_ok8 : LoopR kk env0 Tryz.f43.ntmps qbq_b8 qbq_lp8 :=
  zaaj qbq_enc8 qbq_dec8 (fun n => qbq_rec8 (qbq_i8 n)) (zaac eqOk mixed known46) (L := jnL) (zaab (bs := []) (by kernel_rfl) trivial) (fun _ => rfl) (by intro i qs r h; unfold qbq_enc8 at h; split at h <;> cases h <;> rfl)
    (by intro ls r h; unfold qbq_rec8 at h; split at h <;> cases h)
    (by intro n ls r h; unfold qbq_rec8 at h; split at h; exact (show _ = qbq_t8 (qbq_i8 n) _ _ _ _ _ _ _ from by kernel_rfl).trans h; cases h) (by rw [qbq_l8, zaaa])
def qbq_sh13 : StSh := ⟨⟨[1, 3, 48, 49, 50], [1, 3], []⟩, [.ptr 1 0, .ptr 3 0, .t (.slc (.st 53)), .t (.int .i64), .t (.int .i64)], [.blk 44 [.t (.slc (.st 73)), .t (.slc .str), .t (.slc (.st 53))], .blk 4 [.t .bool]]⟩
def qbq_o13 : List Out := [⟨.exit 4, ⟨⟨[1, 3], [1, 3], []⟩, [.ptr 1 0, .ptr 3 0], [.blk 44 [.t (.slc (.st 73)), .t (.slc .str), .t (.slc (.st 53))], .blk 4 [.t .bool]]⟩⟩]
def qbq_b13 : Code := (zaai (zaag Tryz.f43) 2)
def qbq_rec13 (rec : List TThread → Int → Int → List TCell → List (List UInt8) → List TThread → Bool → Option ((List TCell) × (List (List UInt8)) × (List TThread) × Bool)) : List (TV U) → Option ((List TCell) × (List (List UInt8)) × (List TThread) × Bool)
  | [⟨(.slc (.st 53)), a0⟩, ⟨(.int .i64), a1⟩, ⟨(.int .i64), a2⟩, ⟨(.slc (.st 73)), a3⟩, ⟨(.slc .str), a4⟩, ⟨(.slc (.st 53)), a5⟩, ⟨.bool, a6⟩] => rec a0 a1 a2 a3 a4 a5 a6
  | _ => none
def qbq_enc13 : Nat → List (TV U) → Option ((List TCell) × (List (List UInt8)) × (List TThread) × Bool)
  | 0, [⟨(.slc (.st 73)), a0⟩, ⟨(.slc .str), a1⟩, ⟨(.slc (.st 53)), a2⟩, ⟨.bool, a3⟩] => some (a0, a1, a2, a3)
  | _, _ => none
def qbq_dec13 : (List TCell) × (List (List UInt8)) × (List TThread) × Bool → Nat × List (TV U) := fun x => (0, [⟨(.slc (.st 73)), x.1⟩, ⟨(.slc .str), x.2.1⟩, ⟨(.slc (.st 53)), x.2.2.1⟩, ⟨.bool, x.2.2.2⟩])
def qbq_tr13 : (List TCell) × (List (List UInt8)) × (List TThread) × Bool → Tr (Nat × List (TV U)) := fun x => .ret (0, [⟨(.slc (.st 73)), x.1⟩, ⟨(.slc .str), x.2.1⟩, ⟨(.slc (.st 53)), x.2.2.1⟩, ⟨.bool, x.2.2.2⟩])
def qbq_lp13 : Lift.Loop U := ⟨qbq_sh13, qbq_o13, fun ls => .get (qbq_rec13 qbq_l13 ls) qbq_tr13⟩
theorem qbq_ok13 : LoopR kk env0 Tryz.f43.ntmps qbq_b13 qbq_lp13 :=
  zaaj qbq_enc13 qbq_dec13 (fun n => qbq_rec13 (qbq_i13 n)) (zaac eqOk mixed known46) (L := jnL) (zaab (bs := []) (by kernel_rfl) trivial) (fun _ => rfl) (by intro i qs r h; unfold qbq_enc13 at h; split at h <;> cases h <;> rfl)
    (by intro ls r h; unfold qbq_rec13 at h; split at h <;> cases h)
    (by intro n ls r h; unfold qbq_rec13 at h; split at h; exact (show _ = qbq_t13 (qbq_i13 n) _ _ _ _ _ _ _ from by kernel_rfl).trans h; cases h) (by rw [qbq_l13, zaaa])
def qbq_sh : StSh := ⟨⟨[0], [], []⟩, [.t (.st 44)], []⟩
def qbq_os : List StSh := [⟨⟨[0], [], []⟩, [.t .bool], []⟩]
def qbq_tr : Bool → Tr (Nat × List (TV U)) := fun x => .ret (0, [⟨.bool, x⟩])
def qbq_L : Nat → Option (Lift.Loop U) := fun n => bif Nat.beq n zaap then some zaam else bif Nat.beq n 3 then some qbq_lp3 else bif Nat.beq n 8 then some qbq_lp8 else bif Nat.beq n 13 then some qbq_lp13 else none
def qbq_enc : Nat → List (TV U) → Option (Bool)
  | 0, [⟨.bool, a0⟩] => some a0
  | _, _ => none
def qbq_dec : Bool → Nat × List (TV U) := fun x => (0, [⟨.bool, x⟩])
def qbq_in : List (TV U) → Option (Bool)
  | [⟨(.st 44), a0⟩] => qbq a0
  | _ => none
def qbq_md : Mode U := ⟨qbq_sh, [], qbq_os, fun ls => .get (qbq_in ls) qbq_tr⟩
theorem qbq_post : zaad kk env0 43 qbq_md :=
  fn_of (fn := Tryz.f43) qbq_enc qbq_dec (zaac eqOk mixed known46) (by kernel_rfl) (L := qbq_L) (zaab (bs := [qbq_b3, qbq_b8, qbq_b13]) (by kernel_rfl) ⟨.inr ⟨_, by kernel_rfl, zaak.of_round (qbq_ok3)⟩, .inr ⟨_, by kernel_rfl, zaak.of_round (qbq_ok8)⟩, .inr ⟨_, by kernel_rfl, zaak.of_round (qbq_ok13)⟩, trivial⟩) (fun _ => rfl) (by intro i qs r h; unfold qbq_enc at h; split at h <;> cases h <;> rfl)
    (by intro ls r h; unfold qbq_in at h; split at h; rw [qbq, zaaa] at h; exact Eq.trans (by kernel_rfl) h; cases h)
def ms47 : List (FuncId × Mode U) := (43, qbq_md) :: ms46
theorem known47 : Known kk env0 (zaae ms47) := known_cons (by kernel_rfl) qbq_post known46
def qbm_sh : StSh := ⟨⟨[0, 1, 2], [100000], []⟩, [.t (.st 78), .t (.int .i64), .ptr 100000 0], [.blk 3 [.t (.int .i64)]]⟩
def qbm_os : List StSh := [⟨⟨[], [100000], []⟩, [], [.blk 3 [.t (.int .i64)]]⟩]
def qbm_tr : Int → Tr (Nat × List (TV U)) := fun x => .ret (0, [⟨(.int .i64), x⟩])
def qbm_enc : Nat → List (TV U) → Option (Int)
  | 0, [⟨(.int .i64), a0⟩] => some a0
  | _, _ => none
def qbm_dec : Int → Nat × List (TV U) := fun x => (0, [⟨(.int .i64), x⟩])
def qbm_in : List (TV U) → Option (Int)
  | [⟨(.st 78), a0⟩, ⟨(.int .i64), a1⟩, ⟨(.int .i64), a2⟩] => qbm a0 a1 a2
  | _ => none
def qbm_md : Mode U := ⟨qbm_sh, [⟨100000, .slot 2, []⟩], qbm_os, fun ls => .get (qbm_in ls) qbm_tr⟩
theorem qbm_post : zaad kk env0 62 qbm_md :=
  fn_of (fn := Tryz.f62) qbm_enc qbm_dec (zaac eqOk mixed known47) (by kernel_rfl) (L := jnL) (zaab (bs := []) (by kernel_rfl) trivial) (fun _ => rfl) (by intro i qs r h; unfold qbm_enc at h; split at h <;> cases h <;> rfl)
    (by intro ls r h; unfold qbm_in at h; split at h; rw [qbm, zaaa] at h; exact Eq.trans (by kernel_rfl) h; cases h)
def ms48 : List (FuncId × Mode U) := (62, qbm_md) :: ms47
theorem known48 : Known kk env0 (zaae ms48) := known_cons (by kernel_rfl) qbm_post known47
def qbn_sh : StSh := ⟨⟨[0, 1, 2], [100000], []⟩, [.t (.st 57), .t (.int .i64), .ptr 100000 0], [.blk 3 [.t (.int .i64)]]⟩
def qbn_os : List StSh := [⟨⟨[], [100000], []⟩, [], [.blk 3 [.t (.int .i64)]]⟩]
def qbn_tr : Int → Tr (Nat × List (TV U)) := fun x => .ret (0, [⟨(.int .i64), x⟩])
def qbn_enc : Nat → List (TV U) → Option (Int)
  | 0, [⟨(.int .i64), a0⟩] => some a0
  | _, _ => none
def qbn_dec : Int → Nat × List (TV U) := fun x => (0, [⟨(.int .i64), x⟩])
def qbn_in : List (TV U) → Option (Int)
  | [⟨(.st 57), a0⟩, ⟨(.int .i64), a1⟩, ⟨(.int .i64), a2⟩] => qbn a0 a1 a2
  | _ => none
def qbn_md : Mode U := ⟨qbn_sh, [⟨100000, .slot 2, []⟩], qbn_os, fun ls => .get (qbn_in ls) qbn_tr⟩
theorem qbn_post : zaad kk env0 63 qbn_md :=
  fn_of (fn := Tryz.f63) qbn_enc qbn_dec (zaac eqOk mixed known48) (by kernel_rfl) (L := jnL) (zaab (bs := []) (by kernel_rfl) trivial) (fun _ => rfl) (by intro i qs r h; unfold qbn_enc at h; split at h <;> cases h <;> rfl)
    (by intro ls r h; unfold qbn_in at h; split at h; rw [qbn, zaaa] at h; exact Eq.trans (by kernel_rfl) h; cases h)
def ms49 : List (FuncId × Mode U) := (63, qbn_md) :: ms48
theorem known49 : Known kk env0 (zaae ms49) := known_cons (by kernel_rfl) qbn_post known48
def qad_sh : StSh := ⟨⟨[0, 1, 2], [100000], []⟩, [.agg [.clo 62 [.ptr 100000 0], .clo 63 [.ptr 100000 0]], .t (.st 57), .t (.int .i64)], [.blk 3 [.t (.int .i64)]]⟩
def qad_os : List StSh := [⟨⟨[], [100000], []⟩, [], [.blk 3 [.t (.int .i64)]]⟩]
def qad_tr : Int → Tr (Nat × List (TV U)) := fun x => .ret (0, [⟨(.int .i64), x⟩])
def qad_in (rec_qad : TExpr → Int → Int → Option (Int)) : List (TV U) → Option (Int)
  | [⟨(.st 57), a0⟩, ⟨(.int .i64), a1⟩, ⟨(.int .i64), a2⟩] => rec_qad a0 a1 a2
  | _ => none
def qad_rmd (rec_qad : TExpr → Int → Int → Option (Int)) : Mode U := ⟨qad_sh, [⟨100000, .slot 0, [0, 0]⟩], qad_os, fun ls => .get (qad_in rec_qad ls) qad_tr⟩
def ms50 (rec_qad : TExpr → Int → Int → Option (Int)) : List (FuncId × Mode U) := (77, (qad_rmd rec_qad)) :: ms49
theorem known50 (rec_qad : TExpr → Int → Int → Option (Int)) (hrec_qad : zaad kk env0 77 (qad_rmd rec_qad)) : Known kk env0 (zaae (ms50 rec_qad)) := known_cons (by kernel_rfl) hrec_qad known49
def qad_sh3 : StSh := ⟨⟨[2, 3, 14, 15, 16], [100000, 3], []⟩, [.t (.int .i64), .ptr 3 0, .t (.slc (.st 57)), .t (.int .i64), .t (.int .i64)], [.blk 3 [.t (.int .i64)], .blk 111 [.clo 62 [.ptr 100000 0], .clo 63 [.ptr 100000 0]]]⟩
def qad_o3 : List Out := [⟨.exit 0, ⟨⟨[], [100000], []⟩, [], [.blk 3 [.t (.int .i64)]]⟩⟩]
def qad_b3 : Code := (zaai (zaag Tryz.f77) 0)
def qad_rec3 (rec : Int → List TExpr → Int → Int → Int → Option (Int)) : List (TV U) → Option (Int)
  | [⟨(.int .i64), a0⟩, ⟨(.slc (.st 57)), a1⟩, ⟨(.int .i64), a2⟩, ⟨(.int .i64), a3⟩, ⟨(.int .i64), a4⟩] => rec a0 a1 a2 a3 a4
  | _ => none
def qad_enc3 : Nat → List (TV U) → Option (Int)
  | 0, [⟨(.int .i64), a0⟩] => some a0
  | _, _ => none
def qad_dec3 : Int → Nat × List (TV U) := fun x => (0, [⟨(.int .i64), x⟩])
def qad_tr3 : Int → Tr (Nat × List (TV U)) := fun x => .ret (0, [⟨(.int .i64), x⟩])
def qad_lp3 (rec_qad : TExpr → Int → Int → Option (Int)) : Lift.Loop U := ⟨qad_sh3, qad_o3, fun ls => .get (qad_rec3 (qad_l3 rec_qad) ls) qad_tr3⟩
theorem qad_ok3 (rec_qad : TExpr → Int → Int → Option (Int)) (hrec_qad : zaad kk env0 77 (qad_rmd rec_qad)) : LoopR kk env0 Tryz.f77.ntmps qad_b3 (qad_lp3 rec_qad) :=
  zaaj qad_enc3 qad_dec3 (fun n => qad_rec3 (qad_i3 rec_qad n)) (zaac eqOk mixed (known50 rec_qad hrec_qad)) (L := jnL) (zaab (bs := []) (by kernel_rfl) trivial) (fun _ => rfl) (by intro i qs r h; unfold qad_enc3 at h; split at h <;> cases h <;> rfl)
    (by intro ls r h; unfold qad_rec3 at h; split at h <;> cases h)
    (by intro n ls r h; unfold qad_rec3 at h; split at h; exact (show _ = qad_t3 rec_qad (qad_i3 rec_qad n) _ _ _ _ _ from by kernel_rfl).trans h; cases h) (by rw [qad_l3, zaaa])
def qad_L (rec_qad : TExpr → Int → Int → Option (Int)) : Nat → Option (Lift.Loop U) := fun n => bif Nat.beq n zaap then some zaam else bif Nat.beq n 3 then some (qad_lp3 rec_qad) else none
def qad_enc : Nat → List (TV U) → Option (Int)
  | 0, [⟨(.int .i64), a0⟩] => some a0
  | _, _ => none
def qad_dec : Int → Nat × List (TV U) := fun x => (0, [⟨(.int .i64), x⟩])
def qad_md : Mode U := qad_rmd qad
theorem qad_step (rec_qad : TExpr → Int → Int → Option (Int)) (hrec_qad : zaad kk env0 77 (qad_rmd rec_qad)) : zaau (Kit.withModes kk (zaae (ms50 rec_qad))) env0 Tryz.f77.ntmps (qad_L rec_qad) (zaag Tryz.f77) := zaab (bs := [qad_b3]) (by kernel_rfl) ⟨.inr ⟨_, by kernel_rfl, zaak.of_round (qad_ok3 rec_qad hrec_qad)⟩, trivial⟩
theorem qad_post : zaad kk env0 77 (qad_rmd qad) :=
  zabr (K := kk) (F := qad) qad_rmd qad_i (by rw [qad, zaaa]) (zaa5 (by intro ls r h; unfold qad_in at h; split at h <;> cases h)) (fun n ih => fn_of (fn := Tryz.f77) qad_enc qad_dec (zaac eqOk mixed (known50 (qad_i n) ih)) (by kernel_rfl) (qad_step (qad_i n) ih) (fun _ => rfl) (by intro i qs r h; unfold qad_enc at h; split at h <;> cases h <;> rfl)
    (by intro ls r h; unfold qad_in at h; split at h; exact (show _ = qad_f (qad_i n) _ _ _ from by kernel_rfl).trans h; cases h))
def ms51 : List (FuncId × Mode U) := (77, qad_md) :: ms49
theorem known51 : Known kk env0 (zaae ms51) := known_cons (by kernel_rfl) qad_post known49
def qaj_sh : StSh := ⟨⟨[0, 1, 2], [100000], []⟩, [.agg [.clo 62 [.ptr 100000 0], .clo 63 [.ptr 100000 0]], .t (.slc (.st 78)), .t (.int .i64)], [.blk 3 [.t (.int .i64)]]⟩
def qaj_os : List StSh := [⟨⟨[], [100000], []⟩, [], [.blk 3 [.t (.int .i64)]]⟩]
def qaj_tr : Int → Tr (Nat × List (TV U)) := fun x => .ret (0, [⟨(.int .i64), x⟩])
def qaj_in (rec_qaj : List TStmt → Int → Int → Option (Int)) : List (TV U) → Option (Int)
  | [⟨(.slc (.st 78)), a0⟩, ⟨(.int .i64), a1⟩, ⟨(.int .i64), a2⟩] => rec_qaj a0 a1 a2
  | _ => none
def qaj_rmd (rec_qaj : List TStmt → Int → Int → Option (Int)) : Mode U := ⟨qaj_sh, [⟨100000, .slot 0, [0, 0]⟩], qaj_os, fun ls => .get (qaj_in rec_qaj ls) qaj_tr⟩
def ms52 (rec_qaj : List TStmt → Int → Int → Option (Int)) : List (FuncId × Mode U) := (73, (qaj_rmd rec_qaj)) :: ms51
theorem known52 (rec_qaj : List TStmt → Int → Int → Option (Int)) (hrec_qaj : zaad kk env0 73 (qaj_rmd rec_qaj)) : Known kk env0 (zaae (ms52 rec_qaj)) := known_cons (by kernel_rfl) hrec_qaj known51
def qaj_sh2 : StSh := ⟨⟨[2, 3, 8, 9, 10], [100000, 3], []⟩, [.t (.int .i64), .ptr 3 0, .t (.slc (.st 78)), .t (.int .i64), .t (.int .i64)], [.blk 3 [.t (.int .i64)], .blk 111 [.clo 62 [.ptr 100000 0], .clo 63 [.ptr 100000 0]]]⟩
def qaj_o2 : List Out := [⟨.exit 0, ⟨⟨[], [100000], []⟩, [], [.blk 3 [.t (.int .i64)]]⟩⟩]
def qaj_b2 : Code := (zaai (zaag Tryz.f73) 0)
def qaj_rec2 (rec : Int → List TStmt → Int → Int → Int → Option (Int)) : List (TV U) → Option (Int)
  | [⟨(.int .i64), a0⟩, ⟨(.slc (.st 78)), a1⟩, ⟨(.int .i64), a2⟩, ⟨(.int .i64), a3⟩, ⟨(.int .i64), a4⟩] => rec a0 a1 a2 a3 a4
  | _ => none
def qaj_enc2 : Nat → List (TV U) → Option (Int)
  | 0, [⟨(.int .i64), a0⟩] => some a0
  | _, _ => none
def qaj_dec2 : Int → Nat × List (TV U) := fun x => (0, [⟨(.int .i64), x⟩])
def qaj_tr2 : Int → Tr (Nat × List (TV U)) := fun x => .ret (0, [⟨(.int .i64), x⟩])
def qaj_lp2 (rec_qaj : List TStmt → Int → Int → Option (Int)) : Lift.Loop U := ⟨qaj_sh2, qaj_o2, fun ls => .get (qaj_rec2 (qaj_l2 rec_qaj) ls) qaj_tr2⟩
theorem qaj_ok2 (rec_qaj : List TStmt → Int → Int → Option (Int)) (hrec_qaj : zaad kk env0 73 (qaj_rmd rec_qaj)) : LoopR kk env0 Tryz.f73.ntmps qaj_b2 (qaj_lp2 rec_qaj) :=
  zaaj qaj_enc2 qaj_dec2 (fun n => qaj_rec2 (qaj_i2 rec_qaj n)) (zaac eqOk mixed (known52 rec_qaj hrec_qaj)) (L := jnL) (zaab (bs := []) (by kernel_rfl) trivial) (fun _ => rfl) (by intro i qs r h; unfold qaj_enc2 at h; split at h <;> cases h <;> rfl)
    (by intro ls r h; unfold qaj_rec2 at h; split at h <;> cases h)
    (by intro n ls r h; unfold qaj_rec2 at h; split at h; exact (show _ = qaj_t2 rec_qaj (qaj_i2 rec_qaj n) _ _ _ _ _ from by kernel_rfl).trans h; cases h) (by rw [qaj_l2, zaaa])
def qaj_L (rec_qaj : List TStmt → Int → Int → Option (Int)) : Nat → Option (Lift.Loop U) := fun n => bif Nat.beq n zaap then some zaam else bif Nat.beq n 2 then some (qaj_lp2 rec_qaj) else none
def qaj_enc : Nat → List (TV U) → Option (Int)
  | 0, [⟨(.int .i64), a0⟩] => some a0
  | _, _ => none
def qaj_dec : Int → Nat × List (TV U) := fun x => (0, [⟨(.int .i64), x⟩])
def qaj_md : Mode U := qaj_rmd qaj
theorem qaj_step (rec_qaj : List TStmt → Int → Int → Option (Int)) (hrec_qaj : zaad kk env0 73 (qaj_rmd rec_qaj)) : zaau (Kit.withModes kk (zaae (ms52 rec_qaj))) env0 Tryz.f73.ntmps (qaj_L rec_qaj) (zaag Tryz.f73) := zaab (bs := [qaj_b2]) (by kernel_rfl) ⟨.inr ⟨_, by kernel_rfl, zaak.of_round (qaj_ok2 rec_qaj hrec_qaj)⟩, trivial⟩
theorem qaj_post : zaad kk env0 73 (qaj_rmd qaj) :=
  zabr (K := kk) (F := qaj) qaj_rmd qaj_i (by rw [qaj, zaaa]) (zaa5 (by intro ls r h; unfold qaj_in at h; split at h <;> cases h)) (fun n ih => fn_of (fn := Tryz.f73) qaj_enc qaj_dec (zaac eqOk mixed (known52 (qaj_i n) ih)) (by kernel_rfl) (qaj_step (qaj_i n) ih) (fun _ => rfl) (by intro i qs r h; unfold qaj_enc at h; split at h <;> cases h <;> rfl)
    (by intro ls r h; unfold qaj_in at h; split at h; exact (show _ = qaj_f (qaj_i n) _ _ _ from by kernel_rfl).trans h; cases h))
def ms53 : List (FuncId × Mode U) := (73, qaj_md) :: ms51
theorem known53 : Known kk env0 (zaae ms53) := known_cons (by kernel_rfl) qaj_post known51
def qag_sh2 : StSh := ⟨⟨[2, 7, 8, 9], [100000, 2], []⟩, [.ptr 2 0, .t (.slc (.st 53)), .t (.int .i64), .t (.int .i64)], [.blk 3 [.t (.int .i64)], .blk 111 [.clo 62 [.ptr 100000 0], .clo 63 [.ptr 100000 0]]]⟩
def qag_o2 : List Out := [⟨.exit 0, ⟨⟨[], [100000], []⟩, [], [.blk 3 [.t (.int .i64)]]⟩⟩]
def qag_b2 : Code := (zaai (zaag Tryz.f61) 0)
def qag_rec2 (rec : List TThread → Int → Int → Int → Option (Int)) : List (TV U) → Option (Int)
  | [⟨(.slc (.st 53)), a0⟩, ⟨(.int .i64), a1⟩, ⟨(.int .i64), a2⟩, ⟨(.int .i64), a3⟩] => rec a0 a1 a2 a3
  | _ => none
def qag_enc2 : Nat → List (TV U) → Option (Int)
  | 0, [⟨(.int .i64), a0⟩] => some a0
  | _, _ => none
def qag_dec2 : Int → Nat × List (TV U) := fun x => (0, [⟨(.int .i64), x⟩])
def qag_tr2 : Int → Tr (Nat × List (TV U)) := fun x => .ret (0, [⟨(.int .i64), x⟩])
def qag_lp2 : Lift.Loop U := ⟨qag_sh2, qag_o2, fun ls => .get (qag_rec2 qag_l2 ls) qag_tr2⟩
theorem qag_ok2 : LoopR kk env0 Tryz.f61.ntmps qag_b2 qag_lp2 :=
  zaaj qag_enc2 qag_dec2 (fun n => qag_rec2 (qag_i2 n)) (zaac eqOk mixed known53) (L := jnL) (zaab (bs := []) (by kernel_rfl) trivial) (fun _ => rfl) (by intro i qs r h; unfold qag_enc2 at h; split at h <;> cases h <;> rfl)
    (by intro ls r h; unfold qag_rec2 at h; split at h <;> cases h)
    (by intro n ls r h; unfold qag_rec2 at h; split at h; exact (show _ = qag_t2 (qag_i2 n) _ _ _ _ from by kernel_rfl).trans h; cases h) (by rw [qag_l2, zaaa])
def qag_sh : StSh := ⟨⟨[0, 1], [100000], []⟩, [.agg [.clo 62 [.ptr 100000 0], .clo 63 [.ptr 100000 0]], .t (.st 44)], [.blk 3 [.t (.int .i64)]]⟩
def qag_os : List StSh := [⟨⟨[], [100000], []⟩, [], [.blk 3 [.t (.int .i64)]]⟩]
def qag_tr : Int → Tr (Nat × List (TV U)) := fun x => .ret (0, [⟨(.int .i64), x⟩])
def qag_L : Nat → Option (Lift.Loop U) := fun n => bif Nat.beq n zaap then some zaam else bif Nat.beq n 2 then some qag_lp2 else none
def qag_enc : Nat → List (TV U) → Option (Int)
  | 0, [⟨(.int .i64), a0⟩] => some a0
  | _, _ => none
def qag_dec : Int → Nat × List (TV U) := fun x => (0, [⟨(.int .i64), x⟩])
def qag_in : List (TV U) → Option (Int)
  | [⟨(.st 44), a0⟩, ⟨(.int .i64), a1⟩] => qag a0 a1
  | _ => none
def qag_md : Mode U := ⟨qag_sh, [⟨100000, .slot 0, [0, 0]⟩], qag_os, fun ls => .get (qag_in ls) qag_tr⟩
theorem qag_post : zaad kk env0 61 qag_md :=
  fn_of (fn := Tryz.f61) qag_enc qag_dec (zaac eqOk mixed known53) (by kernel_rfl) (L := qag_L) (zaab (bs := [qag_b2]) (by kernel_rfl) ⟨.inr ⟨_, by kernel_rfl, zaak.of_round (qag_ok2)⟩, trivial⟩) (fun _ => rfl) (by intro i qs r h; unfold qag_enc at h; split at h <;> cases h <;> rfl)
    (by intro ls r h; unfold qag_in at h; split at h; rw [qag, zaaa] at h; exact Eq.trans (by kernel_rfl) h; cases h)
def ms54 : List (FuncId × Mode U) := (61, qag_md) :: ms53
theorem known54 : Known kk env0 (zaae ms54) := known_cons (by kernel_rfl) qag_post known53
def qbl_sh : StSh := ⟨⟨[0], [], []⟩, [.t (.st 44)], []⟩
def qbl_os : List StSh := [⟨⟨[0], [], []⟩, [.t (.int .i64)], []⟩]
def qbl_tr : Int → Tr (Nat × List (TV U)) := fun x => .ret (0, [⟨(.int .i64), x⟩])
def qbl_enc : Nat → List (TV U) → Option (Int)
  | 0, [⟨(.int .i64), a0⟩] => some a0
  | _, _ => none
def qbl_dec : Int → Nat × List (TV U) := fun x => (0, [⟨(.int .i64), x⟩])
def qbl_in : List (TV U) → Option (Int)
  | [⟨(.st 44), a0⟩] => qbl a0
  | _ => none
def qbl_md : Mode U := ⟨qbl_sh, [], qbl_os, fun ls => .get (qbl_in ls) qbl_tr⟩
theorem qbl_post : zaad kk env0 44 qbl_md :=
  fn_of (fn := Tryz.f44) qbl_enc qbl_dec (zaac eqOk mixed known54) (by kernel_rfl) (L := jnL) (zaab (bs := []) (by kernel_rfl) trivial) (fun _ => rfl) (by intro i qs r h; unfold qbl_enc at h; split at h <;> cases h <;> rfl)
    (by intro ls r h; unfold qbl_in at h; split at h; rw [qbl, zaaa] at h; exact Eq.trans (by kernel_rfl) h; cases h)
def ms55 : List (FuncId × Mode U) := (44, qbl_md) :: ms54
theorem known55 : Known kk env0 (zaae ms55) := known_cons (by kernel_rfl) qbl_post known54
def qbj_sh : StSh := ⟨⟨[0, 1, 2], [100000], []⟩, [.t (.st 78), .t (.int .i64), .ptr 100000 0], [.blk 3 [.t (.int .i64)]]⟩
def qbj_os : List StSh := [⟨⟨[], [100000], []⟩, [], [.blk 3 [.t (.int .i64)]]⟩]
def qbj_tr : Int → Tr (Nat × List (TV U)) := fun x => .ret (0, [⟨(.int .i64), x⟩])
def qbj_enc : Nat → List (TV U) → Option (Int)
  | 0, [⟨(.int .i64), a0⟩] => some a0
  | _, _ => none
def qbj_dec : Int → Nat × List (TV U) := fun x => (0, [⟨(.int .i64), x⟩])
def qbj_in : List (TV U) → Option (Int)
  | [⟨(.st 78), a0⟩, ⟨(.int .i64), a1⟩, ⟨(.int .i64), a2⟩] => qbj a0 a1 a2
  | _ => none
def qbj_md : Mode U := ⟨qbj_sh, [⟨100000, .slot 2, []⟩], qbj_os, fun ls => .get (qbj_in ls) qbj_tr⟩
theorem qbj_post : zaad kk env0 64 qbj_md :=
  fn_of (fn := Tryz.f64) qbj_enc qbj_dec (zaac eqOk mixed known55) (by kernel_rfl) (L := jnL) (zaab (bs := []) (by kernel_rfl) trivial) (fun _ => rfl) (by intro i qs r h; unfold qbj_enc at h; split at h <;> cases h <;> rfl)
    (by intro ls r h; unfold qbj_in at h; split at h; rw [qbj, zaaa] at h; exact Eq.trans (by kernel_rfl) h; cases h)
def ms56 : List (FuncId × Mode U) := (64, qbj_md) :: ms55
theorem known56 : Known kk env0 (zaae ms56) := known_cons (by kernel_rfl) qbj_post known55
def qbk_sh : StSh := ⟨⟨[0, 1, 2], [100000], []⟩, [.t (.st 57), .t (.int .i64), .ptr 100000 0], [.blk 3 [.t (.int .i64)]]⟩
def qbk_os : List StSh := [⟨⟨[], [100000], []⟩, [], [.blk 3 [.t (.int .i64)]]⟩]
def qbk_tr : Int → Tr (Nat × List (TV U)) := fun x => .ret (0, [⟨(.int .i64), x⟩])
def qbk_enc : Nat → List (TV U) → Option (Int)
  | 0, [⟨(.int .i64), a0⟩] => some a0
  | _, _ => none
def qbk_dec : Int → Nat × List (TV U) := fun x => (0, [⟨(.int .i64), x⟩])
def qbk_in : List (TV U) → Option (Int)
  | [⟨(.st 57), a0⟩, ⟨(.int .i64), a1⟩, ⟨(.int .i64), a2⟩] => qbk a0 a1 a2
  | _ => none
def qbk_md : Mode U := ⟨qbk_sh, [⟨100000, .slot 2, []⟩], qbk_os, fun ls => .get (qbk_in ls) qbk_tr⟩
theorem qbk_post : zaad kk env0 65 qbk_md :=
  fn_of (fn := Tryz.f65) qbk_enc qbk_dec (zaac eqOk mixed known56) (by kernel_rfl) (L := jnL) (zaab (bs := []) (by kernel_rfl) trivial) (fun _ => rfl) (by intro i qs r h; unfold qbk_enc at h; split at h <;> cases h <;> rfl)
    (by intro ls r h; unfold qbk_in at h; split at h; rw [qbk, zaaa] at h; exact Eq.trans (by kernel_rfl) h; cases h)
def ms57 : List (FuncId × Mode U) := (65, qbk_md) :: ms56
theorem known57 : Known kk env0 (zaae ms57) := known_cons (by kernel_rfl) qbk_post known56
def qae_sh : StSh := ⟨⟨[0, 1, 2], [100000], []⟩, [.agg [.clo 64 [.ptr 100000 0], .clo 65 [.ptr 100000 0]], .t (.st 57), .t (.int .i64)], [.blk 3 [.t (.int .i64)]]⟩
def qae_os : List StSh := [⟨⟨[], [100000], []⟩, [], [.blk 3 [.t (.int .i64)]]⟩]
def qae_tr : Int → Tr (Nat × List (TV U)) := fun x => .ret (0, [⟨(.int .i64), x⟩])
def qae_in (rec_qae : TExpr → Int → Int → Option (Int)) : List (TV U) → Option (Int)
  | [⟨(.st 57), a0⟩, ⟨(.int .i64), a1⟩, ⟨(.int .i64), a2⟩] => rec_qae a0 a1 a2
  | _ => none
def qae_rmd (rec_qae : TExpr → Int → Int → Option (Int)) : Mode U := ⟨qae_sh, [⟨100000, .slot 0, [0, 0]⟩], qae_os, fun ls => .get (qae_in rec_qae ls) qae_tr⟩
def ms58 (rec_qae : TExpr → Int → Int → Option (Int)) : List (FuncId × Mode U) := (77, (qae_rmd rec_qae)) :: ms57
theorem known58 (rec_qae : TExpr → Int → Int → Option (Int)) (hrec_qae : zaad kk env0 77 (qae_rmd rec_qae)) : Known kk env0 (zaae (ms58 rec_qae)) := known_cons (by kernel_rfl) hrec_qae known57
def qae_sh3 : StSh := ⟨⟨[2, 3, 14, 15, 16], [100000, 3], []⟩, [.t (.int .i64), .ptr 3 0, .t (.slc (.st 57)), .t (.int .i64), .t (.int .i64)], [.blk 3 [.t (.int .i64)], .blk 111 [.clo 64 [.ptr 100000 0], .clo 65 [.ptr 100000 0]]]⟩
def qae_o3 : List Out := [⟨.exit 0, ⟨⟨[], [100000], []⟩, [], [.blk 3 [.t (.int .i64)]]⟩⟩]
def qae_b3 : Code := (zaai (zaag Tryz.f77) 0)
def qae_rec3 (rec : Int → List TExpr → Int → Int → Int → Option (Int)) : List (TV U) → Option (Int)
  | [⟨(.int .i64), a0⟩, ⟨(.slc (.st 57)), a1⟩, ⟨(.int .i64), a2⟩, ⟨(.int .i64), a3⟩, ⟨(.int .i64), a4⟩] => rec a0 a1 a2 a3 a4
  | _ => none
def qae_enc3 : Nat → List (TV U) → Option (Int)
  | 0, [⟨(.int .i64), a0⟩] => some a0
  | _, _ => none
def qae_dec3 : Int → Nat × List (TV U) := fun x => (0, [⟨(.int .i64), x⟩])
def qae_tr3 : Int → Tr (Nat × List (TV U)) := fun x => .ret (0, [⟨(.int .i64), x⟩])
def qae_lp3 (rec_qae : TExpr → Int → Int → Option (Int)) : Lift.Loop U := ⟨qae_sh3, qae_o3, fun ls => .get (qae_rec3 (qae_l3 rec_qae) ls) qae_tr3⟩
theorem qae_ok3 (rec_qae : TExpr → Int → Int → Option (Int)) (hrec_qae : zaad kk env0 77 (qae_rmd rec_qae)) : LoopR kk env0 Tryz.f77.ntmps qae_b3 (qae_lp3 rec_qae) :=
  zaaj qae_enc3 qae_dec3 (fun n => qae_rec3 (qae_i3 rec_qae n)) (zaac eqOk mixed (known58 rec_qae hrec_qae)) (L := jnL) (zaab (bs := []) (by kernel_rfl) trivial) (fun _ => rfl) (by intro i qs r h; unfold qae_enc3 at h; split at h <;> cases h <;> rfl)
    (by intro ls r h; unfold qae_rec3 at h; split at h <;> cases h)
    (by intro n ls r h; unfold qae_rec3 at h; split at h; exact (show _ = qae_t3 rec_qae (qae_i3 rec_qae n) _ _ _ _ _ from by kernel_rfl).trans h; cases h) (by rw [qae_l3, zaaa])
def qae_L (rec_qae : TExpr → Int → Int → Option (Int)) : Nat → Option (Lift.Loop U) := fun n => bif Nat.beq n zaap then some zaam else bif Nat.beq n 3 then some (qae_lp3 rec_qae) else none
def qae_enc : Nat → List (TV U) → Option (Int)
  | 0, [⟨(.int .i64), a0⟩] => some a0
  | _, _ => none
def qae_dec : Int → Nat × List (TV U) := fun x => (0, [⟨(.int .i64), x⟩])
def qae_md : Mode U := qae_rmd qae
theorem qae_step (rec_qae : TExpr → Int → Int → Option (Int)) (hrec_qae : zaad kk env0 77 (qae_rmd rec_qae)) : zaau (Kit.withModes kk (zaae (ms58 rec_qae))) env0 Tryz.f77.ntmps (qae_L rec_qae) (zaag Tryz.f77) := zaab (bs := [qae_b3]) (by kernel_rfl) ⟨.inr ⟨_, by kernel_rfl, zaak.of_round (qae_ok3 rec_qae hrec_qae)⟩, trivial⟩
theorem qae_post : zaad kk env0 77 (qae_rmd qae) :=
  zabr (K := kk) (F := qae) qae_rmd qae_i (by rw [qae, zaaa]) (zaa5 (by intro ls r h; unfold qae_in at h; split at h <;> cases h)) (fun n ih => fn_of (fn := Tryz.f77) qae_enc qae_dec (zaac eqOk mixed (known58 (qae_i n) ih)) (by kernel_rfl) (qae_step (qae_i n) ih) (fun _ => rfl) (by intro i qs r h; unfold qae_enc at h; split at h <;> cases h <;> rfl)
    (by intro ls r h; unfold qae_in at h; split at h; exact (show _ = qae_f (qae_i n) _ _ _ from by kernel_rfl).trans h; cases h))
def ms59 : List (FuncId × Mode U) := (77, qae_md) :: ms57
theorem known59 : Known kk env0 (zaae ms59) := known_cons (by kernel_rfl) qae_post known57
def qak_sh : StSh := ⟨⟨[0, 1, 2], [100000], []⟩, [.agg [.clo 64 [.ptr 100000 0], .clo 65 [.ptr 100000 0]], .t (.slc (.st 78)), .t (.int .i64)], [.blk 3 [.t (.int .i64)]]⟩
def qak_os : List StSh := [⟨⟨[], [100000], []⟩, [], [.blk 3 [.t (.int .i64)]]⟩]
def qak_tr : Int → Tr (Nat × List (TV U)) := fun x => .ret (0, [⟨(.int .i64), x⟩])
def qak_in (rec_qak : List TStmt → Int → Int → Option (Int)) : List (TV U) → Option (Int)
  | [⟨(.slc (.st 78)), a0⟩, ⟨(.int .i64), a1⟩, ⟨(.int .i64), a2⟩] => rec_qak a0 a1 a2
  | _ => none
def qak_rmd (rec_qak : List TStmt → Int → Int → Option (Int)) : Mode U := ⟨qak_sh, [⟨100000, .slot 0, [0, 0]⟩], qak_os, fun ls => .get (qak_in rec_qak ls) qak_tr⟩
def ms60 (rec_qak : List TStmt → Int → Int → Option (Int)) : List (FuncId × Mode U) := (73, (qak_rmd rec_qak)) :: ms59
theorem known60 (rec_qak : List TStmt → Int → Int → Option (Int)) (hrec_qak : zaad kk env0 73 (qak_rmd rec_qak)) : Known kk env0 (zaae (ms60 rec_qak)) := known_cons (by kernel_rfl) hrec_qak known59
def qak_sh2 : StSh := ⟨⟨[2, 3, 8, 9, 10], [100000, 3], []⟩, [.t (.int .i64), .ptr 3 0, .t (.slc (.st 78)), .t (.int .i64), .t (.int .i64)], [.blk 3 [.t (.int .i64)], .blk 111 [.clo 64 [.ptr 100000 0], .clo 65 [.ptr 100000 0]]]⟩
def qak_o2 : List Out := [⟨.exit 0, ⟨⟨[], [100000], []⟩, [], [.blk 3 [.t (.int .i64)]]⟩⟩]
def qak_b2 : Code := (zaai (zaag Tryz.f73) 0)
def qak_rec2 (rec : Int → List TStmt → Int → Int → Int → Option (Int)) : List (TV U) → Option (Int)
  | [⟨(.int .i64), a0⟩, ⟨(.slc (.st 78)), a1⟩, ⟨(.int .i64), a2⟩, ⟨(.int .i64), a3⟩, ⟨(.int .i64), a4⟩] => rec a0 a1 a2 a3 a4
  | _ => none
def qak_enc2 : Nat → List (TV U) → Option (Int)
  | 0, [⟨(.int .i64), a0⟩] => some a0
  | _, _ => none
def qak_dec2 : Int → Nat × List (TV U) := fun x => (0, [⟨(.int .i64), x⟩])
def qak_tr2 : Int → Tr (Nat × List (TV U)) := fun x => .ret (0, [⟨(.int .i64), x⟩])
def qak_lp2 (rec_qak : List TStmt → Int → Int → Option (Int)) : Lift.Loop U := ⟨qak_sh2, qak_o2, fun ls => .get (qak_rec2 (qak_l2 rec_qak) ls) qak_tr2⟩
theorem qak_ok2 (rec_qak : List TStmt → Int → Int → Option (Int)) (hrec_qak : zaad kk env0 73 (qak_rmd rec_qak)) : LoopR kk env0 Tryz.f73.ntmps qak_b2 (qak_lp2 rec_qak) :=
  zaaj qak_enc2 qak_dec2 (fun n => qak_rec2 (qak_i2 rec_qak n)) (zaac eqOk mixed (known60 rec_qak hrec_qak)) (L := jnL) (zaab (bs := []) (by kernel_rfl) trivial) (fun _ => rfl) (by intro i qs r h; unfold qak_enc2 at h; split at h <;> cases h <;> rfl)
    (by intro ls r h; unfold qak_rec2 at h; split at h <;> cases h)
    (by intro n ls r h; unfold qak_rec2 at h; split at h; exact (show _ = qak_t2 rec_qak (qak_i2 rec_qak n) _ _ _ _ _ from by kernel_rfl).trans h; cases h) (by rw [qak_l2, zaaa])
def qak_L (rec_qak : List TStmt → Int → Int → Option (Int)) : Nat → Option (Lift.Loop U) := fun n => bif Nat.beq n zaap then some zaam else bif Nat.beq n 2 then some (qak_lp2 rec_qak) else none
def qak_enc : Nat → List (TV U) → Option (Int)
  | 0, [⟨(.int .i64), a0⟩] => some a0
  | _, _ => none
def qak_dec : Int → Nat × List (TV U) := fun x => (0, [⟨(.int .i64), x⟩])
def qak_md : Mode U := qak_rmd qak
theorem qak_step (rec_qak : List TStmt → Int → Int → Option (Int)) (hrec_qak : zaad kk env0 73 (qak_rmd rec_qak)) : zaau (Kit.withModes kk (zaae (ms60 rec_qak))) env0 Tryz.f73.ntmps (qak_L rec_qak) (zaag Tryz.f73) := zaab (bs := [qak_b2]) (by kernel_rfl) ⟨.inr ⟨_, by kernel_rfl, zaak.of_round (qak_ok2 rec_qak hrec_qak)⟩, trivial⟩
theorem qak_post : zaad kk env0 73 (qak_rmd qak) :=
  zabr (K := kk) (F := qak) qak_rmd qak_i (by rw [qak, zaaa]) (zaa5 (by intro ls r h; unfold qak_in at h; split at h <;> cases h)) (fun n ih => fn_of (fn := Tryz.f73) qak_enc qak_dec (zaac eqOk mixed (known60 (qak_i n) ih)) (by kernel_rfl) (qak_step (qak_i n) ih) (fun _ => rfl) (by intro i qs r h; unfold qak_enc at h; split at h <;> cases h <;> rfl)
    (by intro ls r h; unfold qak_in at h; split at h; exact (show _ = qak_f (qak_i n) _ _ _ from by kernel_rfl).trans h; cases h))
def ms61 : List (FuncId × Mode U) := (73, qak_md) :: ms59
theorem known61 : Known kk env0 (zaae ms61) := known_cons (by kernel_rfl) qak_post known59
def qah_sh2 : StSh := ⟨⟨[2, 7, 8, 9], [100000, 2], []⟩, [.ptr 2 0, .t (.slc (.st 53)), .t (.int .i64), .t (.int .i64)], [.blk 3 [.t (.int .i64)], .blk 111 [.clo 64 [.ptr 100000 0], .clo 65 [.ptr 100000 0]]]⟩
def qah_o2 : List Out := [⟨.exit 0, ⟨⟨[], [100000], []⟩, [], [.blk 3 [.t (.int .i64)]]⟩⟩]
def qah_b2 : Code := (zaai (zaag Tryz.f61) 0)
def qah_rec2 (rec : List TThread → Int → Int → Int → Option (Int)) : List (TV U) → Option (Int)
  | [⟨(.slc (.st 53)), a0⟩, ⟨(.int .i64), a1⟩, ⟨(.int .i64), a2⟩, ⟨(.int .i64), a3⟩] => rec a0 a1 a2 a3
  | _ => none
def qah_enc2 : Nat → List (TV U) → Option (Int)
  | 0, [⟨(.int .i64), a0⟩] => some a0
  | _, _ => none
def qah_dec2 : Int → Nat × List (TV U) := fun x => (0, [⟨(.int .i64), x⟩])
def qah_tr2 : Int → Tr (Nat × List (TV U)) := fun x => .ret (0, [⟨(.int .i64), x⟩])
def qah_lp2 : Lift.Loop U := ⟨qah_sh2, qah_o2, fun ls => .get (qah_rec2 qah_l2 ls) qah_tr2⟩
theorem qah_ok2 : LoopR kk env0 Tryz.f61.ntmps qah_b2 qah_lp2 :=
  zaaj qah_enc2 qah_dec2 (fun n => qah_rec2 (qah_i2 n)) (zaac eqOk mixed known61) (L := jnL) (zaab (bs := []) (by kernel_rfl) trivial) (fun _ => rfl) (by intro i qs r h; unfold qah_enc2 at h; split at h <;> cases h <;> rfl)
    (by intro ls r h; unfold qah_rec2 at h; split at h <;> cases h)
    (by intro n ls r h; unfold qah_rec2 at h; split at h; exact (show _ = qah_t2 (qah_i2 n) _ _ _ _ from by kernel_rfl).trans h; cases h) (by rw [qah_l2, zaaa])
def qah_sh : StSh := ⟨⟨[0, 1], [100000], []⟩, [.agg [.clo 64 [.ptr 100000 0], .clo 65 [.ptr 100000 0]], .t (.st 44)], [.blk 3 [.t (.int .i64)]]⟩
def qah_os : List StSh := [⟨⟨[], [100000], []⟩, [], [.blk 3 [.t (.int .i64)]]⟩]
def qah_tr : Int → Tr (Nat × List (TV U)) := fun x => .ret (0, [⟨(.int .i64), x⟩])
def qah_L : Nat → Option (Lift.Loop U) := fun n => bif Nat.beq n zaap then some zaam else bif Nat.beq n 2 then some qah_lp2 else none
def qah_enc : Nat → List (TV U) → Option (Int)
  | 0, [⟨(.int .i64), a0⟩] => some a0
  | _, _ => none
def qah_dec : Int → Nat × List (TV U) := fun x => (0, [⟨(.int .i64), x⟩])
def qah_in : List (TV U) → Option (Int)
  | [⟨(.st 44), a0⟩, ⟨(.int .i64), a1⟩] => qah a0 a1
  | _ => none
def qah_md : Mode U := ⟨qah_sh, [⟨100000, .slot 0, [0, 0]⟩], qah_os, fun ls => .get (qah_in ls) qah_tr⟩
theorem qah_post : zaad kk env0 61 qah_md :=
  fn_of (fn := Tryz.f61) qah_enc qah_dec (zaac eqOk mixed known61) (by kernel_rfl) (L := qah_L) (zaab (bs := [qah_b2]) (by kernel_rfl) ⟨.inr ⟨_, by kernel_rfl, zaak.of_round (qah_ok2)⟩, trivial⟩) (fun _ => rfl) (by intro i qs r h; unfold qah_enc at h; split at h <;> cases h <;> rfl)
    (by intro ls r h; unfold qah_in at h; split at h; rw [qah, zaaa] at h; exact Eq.trans (by kernel_rfl) h; cases h)
def ms62 : List (FuncId × Mode U) := (61, qah_md) :: ms61
theorem known62 : Known kk env0 (zaae ms62) := known_cons (by kernel_rfl) qah_post known61
def qbi_sh : StSh := ⟨⟨[0], [], []⟩, [.t (.st 44)], []⟩
def qbi_os : List StSh := [⟨⟨[0], [], []⟩, [.t (.int .i64)], []⟩]
def qbi_tr : Int → Tr (Nat × List (TV U)) := fun x => .ret (0, [⟨(.int .i64), x⟩])
def qbi_enc : Nat → List (TV U) → Option (Int)
  | 0, [⟨(.int .i64), a0⟩] => some a0
  | _, _ => none
def qbi_dec : Int → Nat × List (TV U) := fun x => (0, [⟨(.int .i64), x⟩])
def qbi_in : List (TV U) → Option (Int)
  | [⟨(.st 44), a0⟩] => qbi a0
  | _ => none
def qbi_md : Mode U := ⟨qbi_sh, [], qbi_os, fun ls => .get (qbi_in ls) qbi_tr⟩
theorem qbi_post : zaad kk env0 45 qbi_md :=
  fn_of (fn := Tryz.f45) qbi_enc qbi_dec (zaac eqOk mixed known62) (by kernel_rfl) (L := jnL) (zaab (bs := []) (by kernel_rfl) trivial) (fun _ => rfl) (by intro i qs r h; unfold qbi_enc at h; split at h <;> cases h <;> rfl)
    (by intro ls r h; unfold qbi_in at h; split at h; rw [qbi, zaaa] at h; exact Eq.trans (by kernel_rfl) h; cases h)
def ms63 : List (FuncId × Mode U) := (45, qbi_md) :: ms62
theorem known63 : Known kk env0 (zaae ms63) := known_cons (by kernel_rfl) qbi_post known62
def qbo_sh : StSh := ⟨⟨[0], [], []⟩, [.t (.st 44)], []⟩
def qbo_os : List StSh := [⟨⟨[0], [], []⟩, [.t (.int .i64)], []⟩]
def qbo_tr : Int → Tr (Nat × List (TV U)) := fun x => .ret (0, [⟨(.int .i64), x⟩])
def qbo_enc : Nat → List (TV U) → Option (Int)
  | 0, [⟨(.int .i64), a0⟩] => some a0
  | _, _ => none
def qbo_dec : Int → Nat × List (TV U) := fun x => (0, [⟨(.int .i64), x⟩])
def qbo_in : List (TV U) → Option (Int)
  | [⟨(.st 44), a0⟩] => qbo a0
  | _ => none
def qbo_md : Mode U := ⟨qbo_sh, [], qbo_os, fun ls => .get (qbo_in ls) qbo_tr⟩
theorem qbo_post : zaad kk env0 34 qbo_md :=
  fn_of (fn := Tryz.f34) qbo_enc qbo_dec (zaac eqOk mixed known63) (by kernel_rfl) (L := jnL) (zaab (bs := []) (by kernel_rfl) trivial) (fun _ => rfl) (by intro i qs r h; unfold qbo_enc at h; split at h <;> cases h <;> rfl)
    (by intro ls r h; unfold qbo_in at h; split at h; rw [qbo, zaaa] at h; exact Eq.trans (by kernel_rfl) h; cases h)
def ms64 : List (FuncId × Mode U) := (34, qbo_md) :: ms63
theorem known64 : Known kk env0 (zaae ms64) := known_cons (by kernel_rfl) qbo_post known63
def qal_sh5 : StSh := ⟨⟨[1, 3, 45, 46, 47], [1, 3], [⟨.cell 3 0, 20150, 9, .str⟩, ⟨.cell 3 1, 20151, 9, .str⟩, ⟨.cell 3 2, 20152, 9, .str⟩, ⟨.cell 3 3, 20153, 41, (.own 9 .str)⟩]⟩, [.ptr 1 0, .ptr 3 0, .t (.slc (.st 51)), .t (.int .i64), .t (.int .i64)], [.blk 25 [.t (.slc (.int .i64)), .t (.int .i64), .t (.slc (.st 51))], .blk 88 [.oslc 20150, .oslc 20151, .oslc 20152, .oslc 20153], .row 9 .str, .row 9 .str, .row 9 .str, .row 41 (.own 9 .str)]⟩
def qal_o5 : List Out := [⟨.ret, ⟨⟨[2], [], []⟩, [.t .bool], []⟩⟩, ⟨.exit 0, ⟨⟨[1, 3], [1, 3], [⟨.cell 3 0, 20150, 9, .str⟩, ⟨.cell 3 1, 20151, 9, .str⟩, ⟨.cell 3 2, 20152, 9, .str⟩, ⟨.cell 3 3, 20153, 41, (.own 9 .str)⟩]⟩, [.ptr 1 0, .ptr 3 0], [.blk 25 [.t (.slc (.int .i64)), .t (.int .i64), .t (.slc (.st 51))], .blk 88 [.oslc 20150, .oslc 20151, .oslc 20152, .oslc 20153], .row 9 .str, .row 9 .str, .row 9 .str, .row 41 (.own 9 .str)]⟩⟩]
def qal_b5 : Code := (zaai (zaag Tryz.f18) 0)
def qal_rec5 (rec : List TBody → Int → Int → List Int → Int → List TBody → List (List UInt8) → List (List UInt8) → List (List UInt8) → List (List (List UInt8)) → Option ((Bool) ⊕ ((List Int) × Int × (List TBody) × (List (List UInt8)) × (List (List UInt8)) × (List (List UInt8)) × (List (List (List UInt8)))))) : List (TV U) → Option ((Bool) ⊕ ((List Int) × Int × (List TBody) × (List (List UInt8)) × (List (List UInt8)) × (List (List UInt8)) × (List (List (List UInt8)))))
  | [⟨(.slc (.st 51)), a0⟩, ⟨(.int .i64), a1⟩, ⟨(.int .i64), a2⟩, ⟨(.slc (.int .i64)), a3⟩, ⟨(.int .i64), a4⟩, ⟨(.slc (.st 51)), a5⟩, ⟨(.slc .str), a6⟩, ⟨(.slc .str), a7⟩, ⟨(.slc .str), a8⟩, ⟨(.slc (.own 9 .str)), a9⟩] => rec a0 a1 a2 a3 a4 a5 a6 a7 a8 a9
  | _ => none
def qal_enc5 : Nat → List (TV U) → Option ((Bool) ⊕ ((List Int) × Int × (List TBody) × (List (List UInt8)) × (List (List UInt8)) × (List (List UInt8)) × (List (List (List UInt8)))))
  | 0, [⟨.bool, a0⟩] => some (.inl a0)
  | 1, [⟨(.slc (.int .i64)), a0⟩, ⟨(.int .i64), a1⟩, ⟨(.slc (.st 51)), a2⟩, ⟨(.slc .str), a3⟩, ⟨(.slc .str), a4⟩, ⟨(.slc .str), a5⟩, ⟨(.slc (.own 9 .str)), a6⟩] => some (.inr (a0, a1, a2, a3, a4, a5, a6))
  | _, _ => none
def qal_dec5 : (Bool) ⊕ ((List Int) × Int × (List TBody) × (List (List UInt8)) × (List (List UInt8)) × (List (List UInt8)) × (List (List (List UInt8)))) → Nat × List (TV U) := fun r => match r with | (.inl x) => (0, [⟨.bool, x⟩]) | (.inr x) => (1, [⟨(.slc (.int .i64)), x.1⟩, ⟨(.int .i64), x.2.1⟩, ⟨(.slc (.st 51)), x.2.2.1⟩, ⟨(.slc .str), x.2.2.2.1⟩, ⟨(.slc .str), x.2.2.2.2.1⟩, ⟨(.slc .str), x.2.2.2.2.2.1⟩, ⟨(.slc (.own 9 .str)), x.2.2.2.2.2.2⟩])
def qal_tr5 : (Bool) ⊕ ((List Int) × Int × (List TBody) × (List (List UInt8)) × (List (List UInt8)) × (List (List UInt8)) × (List (List (List UInt8)))) → Tr (Nat × List (TV U)) := fun r => .alt r (fun x => .ret (0, [⟨.bool, x⟩])) (fun y => (fun x => .ret (1, [⟨(.slc (.int .i64)), x.1⟩, ⟨(.int .i64), x.2.1⟩, ⟨(.slc (.st 51)), x.2.2.1⟩, ⟨(.slc .str), x.2.2.2.1⟩, ⟨(.slc .str), x.2.2.2.2.1⟩, ⟨(.slc .str), x.2.2.2.2.2.1⟩, ⟨(.slc (.own 9 .str)), x.2.2.2.2.2.2⟩])) y)
def qal_lp5 : Lift.Loop U := ⟨qal_sh5, qal_o5, fun ls => .get (qal_rec5 qal_l5 ls) qal_tr5⟩
theorem qal_ok5 : LoopR kk env0 Tryz.f18.ntmps qal_b5 qal_lp5 :=
  zaaj qal_enc5 qal_dec5 (fun n => qal_rec5 (qal_i5 n)) (zaac eqOk mixed known64) (L := jnL) (zaab (bs := []) (by kernel_rfl) trivial) (by intro r; rcases r with r | r <;> rfl) (by intro i qs r h; unfold qal_enc5 at h; split at h <;> cases h <;> rfl)
    (by intro ls r h; unfold qal_rec5 at h; split at h <;> cases h)
    (by intro n ls r h; unfold qal_rec5 at h; split at h; exact (show _ = qal_t5 (qal_i5 n) _ _ _ _ _ _ _ _ _ _ from by kernel_rfl).trans h; cases h) (by rw [qal_l5, zaaa])
def qal_sh : StSh := ⟨⟨[0], [], []⟩, [.t (.st 25)], []⟩
def qal_os : List StSh := [⟨⟨[0], [], []⟩, [.t .bool], []⟩]
def qal_tr : Bool → Tr (Nat × List (TV U)) := fun x => .ret (0, [⟨.bool, x⟩])
def qal_L : Nat → Option (Lift.Loop U) := fun n => bif Nat.beq n zaap then some zaam else bif Nat.beq n 5 then some qal_lp5 else none
def qal_enc : Nat → List (TV U) → Option (Bool)
  | 0, [⟨.bool, a0⟩] => some a0
  | _, _ => none
def qal_dec : Bool → Nat × List (TV U) := fun x => (0, [⟨.bool, x⟩])
def qal_in : List (TV U) → Option (Bool)
  | [⟨(.st 25), a0⟩] => qal a0
  | _ => none
def qal_md : Mode U := ⟨qal_sh, [], qal_os, fun ls => .get (qal_in ls) qal_tr⟩
theorem qal_post : zaad kk env0 18 qal_md :=
  fn_of (fn := Tryz.f18) qal_enc qal_dec (zaac eqOk mixed known64) (by kernel_rfl) (L := qal_L) (zaab (bs := [qal_b5]) (by kernel_rfl) ⟨.inr ⟨_, by kernel_rfl, zaak.of_round (qal_ok5)⟩, trivial⟩) (fun _ => rfl) (by intro i qs r h; unfold qal_enc at h; split at h <;> cases h <;> rfl)
    (by intro ls r h; unfold qal_in at h; split at h; rw [qal, zaaa] at h; exact Eq.trans (by kernel_rfl) h; cases h)
def ms65 : List (FuncId × Mode U) := (18, qal_md) :: ms64
theorem known65 : Known kk env0 (zaae ms65) := known_cons (by kernel_rfl) qal_post known64
def qbe_sh : StSh := ⟨⟨[0], [], []⟩, [.t (.slc (.int .i64))], []⟩
def qbe_os : List StSh := [⟨⟨[0], [], [⟨.slot 0, 100000, 3, (.int .i64)⟩]⟩, [.oslc 100000], [.row 3 (.int .i64)]⟩]
def qbe_tr : (List Int) → Tr (Nat × List (TV U)) := fun x => .ret (0, [⟨(.slc (.int .i64)), x⟩])
def qbe_enc : Nat → List (TV U) → Option ((List Int))
  | 0, [⟨(.slc (.int .i64)), a0⟩] => some a0
  | _, _ => none
def qbe_dec : (List Int) → Nat × List (TV U) := fun x => (0, [⟨(.slc (.int .i64)), x⟩])
def qbe_in : List (TV U) → Option ((List Int))
  | [⟨(.slc (.int .i64)), a0⟩] => qbe a0
  | _ => none
def qbe_md : Mode U := ⟨qbe_sh, [], qbe_os, fun ls => .get (qbe_in ls) qbe_tr⟩
theorem qbe_post : zaad kk env0 20 qbe_md :=
  fn_of (fn := Tryz.f20) qbe_enc qbe_dec (zaac eqOk mixed known65) (by kernel_rfl) (L := jnL) (zaab (bs := []) (by kernel_rfl) trivial) (fun _ => rfl) (by intro i qs r h; unfold qbe_enc at h; split at h <;> cases h <;> rfl)
    (by intro ls r h; unfold qbe_in at h; split at h; rw [qbe, zaaa] at h; exact Eq.trans (by kernel_rfl) h; cases h)
def ms66 : List (FuncId × Mode U) := (20, qbe_md) :: ms65
theorem known66 : Known kk env0 (zaae ms66) := known_cons (by kernel_rfl) qbe_post known65
def qbc_sh : StSh := ⟨⟨[0], [], [⟨.slot 0, 0, 3, (.int .i64)⟩]⟩, [.oslc 0], [.row 3 (.int .i64)]⟩
def qbc_os : List StSh := [⟨⟨[0], [], [⟨.slot 0, 100000, 3, (.int .i64)⟩]⟩, [.oslc 100000], [.row 3 (.int .i64)]⟩]
def qbc_tr : (List Int) → Tr (Nat × List (TV U)) := fun x => .ret (0, [⟨(.slc (.int .i64)), x⟩])
def qbc_enc : Nat → List (TV U) → Option ((List Int))
  | 0, [⟨(.slc (.int .i64)), a0⟩] => some a0
  | _, _ => none
def qbc_dec : (List Int) → Nat × List (TV U) := fun x => (0, [⟨(.slc (.int .i64)), x⟩])
def qbc_in : List (TV U) → Option ((List Int))
  | [⟨(.slc (.int .i64)), a0⟩] => qbc a0
  | _ => none
def qbc_md : Mode U := ⟨qbc_sh, [], qbc_os, fun ls => .get (qbc_in ls) qbc_tr⟩
theorem qbc_post : zaad kk env0 19 qbc_md :=
  fn_of (fn := Tryz.f19) qbc_enc qbc_dec (zaac eqOk mixed known66) (by kernel_rfl) (L := jnL) (zaab (bs := []) (by kernel_rfl) trivial) (fun _ => rfl) (by intro i qs r h; unfold qbc_enc at h; split at h <;> cases h <;> rfl)
    (by intro ls r h; unfold qbc_in at h; split at h; rw [qbc, zaaa] at h; exact Eq.trans (by kernel_rfl) h; cases h)
def ms67 : List (FuncId × Mode U) := (19, qbc_md) :: ms66
theorem known67 : Known kk env0 (zaae ms67) := known_cons (by kernel_rfl) qbc_post known66
def qaE_sh2 : StSh := ⟨⟨[0, 4, 9, 10, 11], [100000, 4], [⟨.cell 100000 2, 200002, 38, (.st 38)⟩]⟩, [.ptr 100000 0, .ptr 4 0, .t (.slc (.int .i64)), .t (.int .i64), .t (.int .i64)], [.blk 69 [.t (.int .i64), .t (.int .i64), .oslc 200002], .blk 38 [.t (.int .i64), .t (.int .i64), .t (.int .i64), .t (.int .i64)], .row 38 (.st 38)]⟩
def qaE_o2 : List Out := [⟨.exit 0, ⟨⟨[0, 4], [100000, 4], [⟨.cell 100000 2, 200002, 38, (.st 38)⟩]⟩, [.ptr 100000 0, .ptr 4 0], [.blk 69 [.t (.int .i64), .t (.int .i64), .oslc 200002], .blk 38 [.t (.int .i64), .t (.int .i64), .t (.int .i64), .t (.int .i64)], .row 38 (.st 38)]⟩⟩]
def qaE_b2 : Code := (zaai (zaag Tryz.f22) 0)
def qaE_rec2 (rec : List Int → Int → Int → Int → Int → Int → Int → Int → Int → List Instr → Option (Int × Int × Int × Int × Int × Int × (List Instr))) : List (TV U) → Option (Int × Int × Int × Int × Int × Int × (List Instr))
  | [⟨(.slc (.int .i64)), a0⟩, ⟨(.int .i64), a1⟩, ⟨(.int .i64), a2⟩, ⟨(.int .i64), a3⟩, ⟨(.int .i64), a4⟩, ⟨(.int .i64), a5⟩, ⟨(.int .i64), a6⟩, ⟨(.int .i64), a7⟩, ⟨(.int .i64), a8⟩, ⟨(.slc (.st 38)), a9⟩] => rec a0 a1 a2 a3 a4 a5 a6 a7 a8 a9
  | _ => none
def qaE_enc2 : Nat → List (TV U) → Option (Int × Int × Int × Int × Int × Int × (List Instr))
  | 0, [⟨(.int .i64), a0⟩, ⟨(.int .i64), a1⟩, ⟨(.int .i64), a2⟩, ⟨(.int .i64), a3⟩, ⟨(.int .i64), a4⟩, ⟨(.int .i64), a5⟩, ⟨(.slc (.st 38)), a6⟩] => some (a0, a1, a2, a3, a4, a5, a6)
  | _, _ => none
def qaE_dec2 : Int × Int × Int × Int × Int × Int × (List Instr) → Nat × List (TV U) := fun x => (0, [⟨(.int .i64), x.1⟩, ⟨(.int .i64), x.2.1⟩, ⟨(.int .i64), x.2.2.1⟩, ⟨(.int .i64), x.2.2.2.1⟩, ⟨(.int .i64), x.2.2.2.2.1⟩, ⟨(.int .i64), x.2.2.2.2.2.1⟩, ⟨(.slc (.st 38)), x.2.2.2.2.2.2⟩])
def qaE_tr2 : Int × Int × Int × Int × Int × Int × (List Instr) → Tr (Nat × List (TV U)) := fun x => .ret (0, [⟨(.int .i64), x.1⟩, ⟨(.int .i64), x.2.1⟩, ⟨(.int .i64), x.2.2.1⟩, ⟨(.int .i64), x.2.2.2.1⟩, ⟨(.int .i64), x.2.2.2.2.1⟩, ⟨(.int .i64), x.2.2.2.2.2.1⟩, ⟨(.slc (.st 38)), x.2.2.2.2.2.2⟩])
def qaE_lp2 : Lift.Loop U := ⟨qaE_sh2, qaE_o2, fun ls => .get (qaE_rec2 qaE_l2 ls) qaE_tr2⟩
theorem qaE_ok2 : LoopR kk env0 Tryz.f22.ntmps qaE_b2 qaE_lp2 :=
  zaaj qaE_enc2 qaE_dec2 (fun n => qaE_rec2 (qaE_i2 n)) (zaac eqOk mixed known67) (L := jnL) (zaab (bs := []) (by kernel_rfl) trivial) (fun _ => rfl) (by intro i qs r h; unfold qaE_enc2 at h; split at h <;> cases h <;> rfl)
    (by intro ls r h; unfold qaE_rec2 at h; split at h <;> cases h)
    (by intro n ls r h; unfold qaE_rec2 at h; split at h; exact (show _ = qaE_t2 (qaE_i2 n) _ _ _ _ _ _ _ _ _ _ from by kernel_rfl).trans h; cases h) (by rw [qaE_l2, zaaa])
def qaE_sh : StSh := ⟨⟨[0, 1, 2], [100000], [⟨.cell 100000 2, 200002, 38, (.st 38)⟩]⟩, [.ptr 100000 0, .t (.st 38), .t (.slc (.int .i64))], [.blk 69 [.t (.int .i64), .t (.int .i64), .oslc 200002], .row 38 (.st 38)]⟩
def qaE_os : List StSh := [⟨⟨[0], [100000], [⟨.cell 100000 2, 200002, 38, (.st 38)⟩]⟩, [.t (.int .i64)], [.blk 69 [.t (.int .i64), .t (.int .i64), .oslc 200002], .row 38 (.st 38)]⟩]
def qaE_tr : Int × Int × Int × (List Instr) → Tr (Nat × List (TV U)) := fun x => .ret (0, [⟨(.int .i64), x.1⟩, ⟨(.int .i64), x.2.1⟩, ⟨(.int .i64), x.2.2.1⟩, ⟨(.slc (.st 38)), x.2.2.2⟩])
def qaE_L : Nat → Option (Lift.Loop U) := fun n => bif Nat.beq n zaap then some zaam else bif Nat.beq n 2 then some qaE_lp2 else none
def qaE_enc : Nat → List (TV U) → Option (Int × Int × Int × (List Instr))
  | 0, [⟨(.int .i64), a0⟩, ⟨(.int .i64), a1⟩, ⟨(.int .i64), a2⟩, ⟨(.slc (.st 38)), a3⟩] => some (a0, a1, a2, a3)
  | _, _ => none
def qaE_dec : Int × Int × Int × (List Instr) → Nat × List (TV U) := fun x => (0, [⟨(.int .i64), x.1⟩, ⟨(.int .i64), x.2.1⟩, ⟨(.int .i64), x.2.2.1⟩, ⟨(.slc (.st 38)), x.2.2.2⟩])
def qaE_in : List (TV U) → Option (Int × Int × Int × (List Instr))
  | [⟨(.st 38), a0⟩, ⟨(.slc (.int .i64)), a1⟩, ⟨(.int .i64), a2⟩, ⟨(.int .i64), a3⟩, ⟨(.slc (.st 38)), a4⟩] => qaE a0 a1 a2 a3 a4
  | _ => none
def qaE_md : Mode U := ⟨qaE_sh, [⟨100000, .slot 0, []⟩], qaE_os, fun ls => .get (qaE_in ls) qaE_tr⟩
theorem qaE_post : zaad kk env0 22 qaE_md :=
  fn_of (fn := Tryz.f22) qaE_enc qaE_dec (zaac eqOk mixed known67) (by kernel_rfl) (L := qaE_L) (zaab (bs := [qaE_b2]) (by kernel_rfl) ⟨.inr ⟨_, by kernel_rfl, zaak.of_round (qaE_ok2)⟩, trivial⟩) (fun _ => rfl) (by intro i qs r h; unfold qaE_enc at h; split at h <;> cases h <;> rfl)
    (by intro ls r h; unfold qaE_in at h; split at h; rw [qaE, zaaa] at h; exact Eq.trans (by kernel_rfl) h; cases h)
def ms68 : List (FuncId × Mode U) := (22, qaE_md) :: ms67
theorem known68 : Known kk env0 (zaae ms68) := known_cons (by kernel_rfl) qaE_post known67
def qaD_sh : StSh := ⟨⟨[0, 1, 2], [100000], [⟨.cell 100000 2, 200002, 38, (.st 38)⟩]⟩, [.ptr 100000 0, .t (.int .i64), .t (.st 57)], [.blk 69 [.t (.int .i64), .t (.int .i64), .oslc 200002], .row 38 (.st 38)]⟩
def qaD_os : List StSh := [⟨⟨[], [100000], [⟨.cell 100000 2, 200002, 38, (.st 38)⟩]⟩, [], [.blk 69 [.t (.int .i64), .t (.int .i64), .oslc 200002], .row 38 (.st 38)]⟩]
def qaD_tr : Int × Int × (List Instr) → Tr (Nat × List (TV U)) := fun x => .ret (0, [⟨(.int .i64), x.1⟩, ⟨(.int .i64), x.2.1⟩, ⟨(.slc (.st 38)), x.2.2⟩])
def qaD_in (rec_qaD : Int → TExpr → Int → Int → List Instr → Option (Int × Int × (List Instr))) : List (TV U) → Option (Int × Int × (List Instr))
  | [⟨(.int .i64), a0⟩, ⟨(.st 57), a1⟩, ⟨(.int .i64), a2⟩, ⟨(.int .i64), a3⟩, ⟨(.slc (.st 38)), a4⟩] => rec_qaD a0 a1 a2 a3 a4
  | _ => none
def qaD_rmd (rec_qaD : Int → TExpr → Int → Int → List Instr → Option (Int × Int × (List Instr))) : Mode U := ⟨qaD_sh, [⟨100000, .slot 0, []⟩], qaD_os, fun ls => .get (qaD_in rec_qaD ls) qaD_tr⟩
def ms69 (rec_qaD : Int → TExpr → Int → Int → List Instr → Option (Int × Int × (List Instr))) : List (FuncId × Mode U) := (49, (qaD_rmd rec_qaD)) :: ms68
theorem known69 (rec_qaD : Int → TExpr → Int → Int → List Instr → Option (Int × Int × (List Instr))) (hrec_qaD : zaad kk env0 49 (qaD_rmd rec_qaD)) : Known kk env0 (zaae (ms69 rec_qaD)) := known_cons (by kernel_rfl) hrec_qaD known68
def qaD_enc : Nat → List (TV U) → Option (Int × Int × (List Instr))
  | 0, [⟨(.int .i64), a0⟩, ⟨(.int .i64), a1⟩, ⟨(.slc (.st 38)), a2⟩] => some (a0, a1, a2)
  | _, _ => none
def qaD_dec : Int × Int × (List Instr) → Nat × List (TV U) := fun x => (0, [⟨(.int .i64), x.1⟩, ⟨(.int .i64), x.2.1⟩, ⟨(.slc (.st 38)), x.2.2⟩])
def qaD_md : Mode U := qaD_rmd qaD
theorem qaD_step (rec_qaD : Int → TExpr → Int → Int → List Instr → Option (Int × Int × (List Instr))) (hrec_qaD : zaad kk env0 49 (qaD_rmd rec_qaD)) : zaau (Kit.withModes kk (zaae (ms69 rec_qaD))) env0 Tryz.f49.ntmps jnL (zaag Tryz.f49) := zaab (bs := []) (by kernel_rfl) trivial
theorem qaD_post : zaad kk env0 49 (qaD_rmd qaD) :=
  zabr (K := kk) (F := qaD) qaD_rmd qaD_i (by rw [qaD, zaaa]) (zaa5 (by intro ls r h; unfold qaD_in at h; split at h <;> cases h)) (fun n ih => fn_of (fn := Tryz.f49) qaD_enc qaD_dec (zaac eqOk mixed (known69 (qaD_i n) ih)) (by kernel_rfl) (qaD_step (qaD_i n) ih) (fun _ => rfl) (by intro i qs r h; unfold qaD_enc at h; split at h <;> cases h <;> rfl)
    (by intro ls r h; unfold qaD_in at h; split at h; exact (show _ = qaD_f (qaD_i n) _ _ _ _ _ from by kernel_rfl).trans h; cases h))
def ms70 : List (FuncId × Mode U) := (49, qaD_md) :: ms68
theorem known70 : Known kk env0 (zaae ms70) := known_cons (by kernel_rfl) qaD_post known68
def qaB_sh : StSh := ⟨⟨[0, 1, 2], [100000], [⟨.cell 100000 2, 200002, 38, (.st 38)⟩]⟩, [.ptr 100000 0, .t (.slc (.st 59)), .t (.int .i64)], [.blk 69 [.t (.int .i64), .t (.int .i64), .oslc 200002], .row 38 (.st 38)]⟩
def qaB_os : List StSh := [⟨⟨[], [100000], [⟨.cell 100000 2, 200002, 38, (.st 38)⟩]⟩, [], [.blk 69 [.t (.int .i64), .t (.int .i64), .oslc 200002], .row 38 (.st 38)]⟩]
def qaB_tr : Int × Int × (List Instr) → Tr (Nat × List (TV U)) := fun x => .ret (0, [⟨(.int .i64), x.1⟩, ⟨(.int .i64), x.2.1⟩, ⟨(.slc (.st 38)), x.2.2⟩])
def qaB_in (rec_qaB : List TAct → Int → Int → Int → List Instr → Option (Int × Int × (List Instr))) : List (TV U) → Option (Int × Int × (List Instr))
  | [⟨(.slc (.st 59)), a0⟩, ⟨(.int .i64), a1⟩, ⟨(.int .i64), a2⟩, ⟨(.int .i64), a3⟩, ⟨(.slc (.st 38)), a4⟩] => rec_qaB a0 a1 a2 a3 a4
  | _ => none
def qaB_rmd (rec_qaB : List TAct → Int → Int → Int → List Instr → Option (Int × Int × (List Instr))) : Mode U := ⟨qaB_sh, [⟨100000, .slot 0, []⟩], qaB_os, fun ls => .get (qaB_in rec_qaB ls) qaB_tr⟩
def ms71 (rec_qaB : List TAct → Int → Int → Int → List Instr → Option (Int × Int × (List Instr))) : List (FuncId × Mode U) := (21, (qaB_rmd rec_qaB)) :: ms70
theorem known71 (rec_qaB : List TAct → Int → Int → Int → List Instr → Option (Int × Int × (List Instr))) (hrec_qaB : zaad kk env0 21 (qaB_rmd rec_qaB)) : Known kk env0 (zaae (ms71 rec_qaB)) := known_cons (by kernel_rfl) hrec_qaB known70
def qaC_sh : StSh := ⟨⟨[0, 1, 2, 3], [100000], [⟨.cell 100000 2, 200002, 38, (.st 38)⟩]⟩, [.ptr 100000 0, .t (.st 59), .t (.int .i64), .t (.int .i64)], [.blk 69 [.t (.int .i64), .t (.int .i64), .oslc 200002], .row 38 (.st 38)]⟩
def qaC_os : List StSh := [⟨⟨[], [100000], [⟨.cell 100000 2, 200002, 38, (.st 38)⟩]⟩, [], [.blk 69 [.t (.int .i64), .t (.int .i64), .oslc 200002], .row 38 (.st 38)]⟩]
def qaC_tr : Int × Int × (List Instr) → Tr (Nat × List (TV U)) := fun x => .ret (0, [⟨(.int .i64), x.1⟩, ⟨(.int .i64), x.2.1⟩, ⟨(.slc (.st 38)), x.2.2⟩])
def qaC_enc : Nat → List (TV U) → Option (Int × Int × (List Instr))
  | 0, [⟨(.int .i64), a0⟩, ⟨(.int .i64), a1⟩, ⟨(.slc (.st 38)), a2⟩] => some (a0, a1, a2)
  | _, _ => none
def qaC_dec : Int × Int × (List Instr) → Nat × List (TV U) := fun x => (0, [⟨(.int .i64), x.1⟩, ⟨(.int .i64), x.2.1⟩, ⟨(.slc (.st 38)), x.2.2⟩])
def qaC_in (rec_qaB : List TAct → Int → Int → Int → List Instr → Option (Int × Int × (List Instr))) : List (TV U) → Option (Int × Int × (List Instr))
  | [⟨(.st 59), a0⟩, ⟨(.int .i64), a1⟩, ⟨(.int .i64), a2⟩, ⟨(.int .i64), a3⟩, ⟨(.int .i64), a4⟩, ⟨(.slc (.st 38)), a5⟩] => qaC rec_qaB a0 a1 a2 a3 a4 a5
  | _ => none
def qaC_md (rec_qaB : List TAct → Int → Int → Int → List Instr → Option (Int × Int × (List Instr))) : Mode U := ⟨qaC_sh, [⟨100000, .slot 0, []⟩], qaC_os, fun ls => .get (qaC_in rec_qaB ls) qaC_tr⟩
theorem qaC_post (rec_qaB : List TAct → Int → Int → Int → List Instr → Option (Int × Int × (List Instr))) (hrec_qaB : zaad kk env0 21 (qaB_rmd rec_qaB)) : zaad kk env0 50 (qaC_md rec_qaB) :=
  fn_of (fn := Tryz.f50) qaC_enc qaC_dec (zaac eqOk mixed (known71 rec_qaB hrec_qaB)) (by kernel_rfl) (L := jnL) (zaab (bs := []) (by kernel_rfl) trivial) (fun _ => rfl) (by intro i qs r h; unfold qaC_enc at h; split at h <;> cases h <;> rfl)
    (by intro ls r h; unfold qaC_in at h; split at h; rw [qaC, zaaa] at h; exact Eq.trans (by kernel_rfl) h; cases h)
def ms72 (rec_qaB : List TAct → Int → Int → Int → List Instr → Option (Int × Int × (List Instr))) : List (FuncId × Mode U) := (50, (qaC_md rec_qaB)) :: (ms71 rec_qaB)
theorem known72 (rec_qaB : List TAct → Int → Int → Int → List Instr → Option (Int × Int × (List Instr))) (hrec_qaB : zaad kk env0 21 (qaB_rmd rec_qaB)) : Known kk env0 (zaae (ms72 rec_qaB)) := known_cons (by kernel_rfl) (qaC_post rec_qaB hrec_qaB) (known71 rec_qaB hrec_qaB)
def qaA_sh : StSh := ⟨⟨[0, 1, 2], [100000], [⟨.cell 100000 2, 200002, 38, (.st 38)⟩]⟩, [.ptr 100000 0, .t (.st 59), .t (.int .i64)], [.blk 69 [.t (.int .i64), .t (.int .i64), .oslc 200002], .row 38 (.st 38)]⟩
def qaA_os : List StSh := [⟨⟨[], [100000], [⟨.cell 100000 2, 200002, 38, (.st 38)⟩]⟩, [], [.blk 69 [.t (.int .i64), .t (.int .i64), .oslc 200002], .row 38 (.st 38)]⟩]
def qaA_tr : Int × Int × (List Instr) → Tr (Nat × List (TV U)) := fun x => .ret (0, [⟨(.int .i64), x.1⟩, ⟨(.int .i64), x.2.1⟩, ⟨(.slc (.st 38)), x.2.2⟩])
def qaA_enc : Nat → List (TV U) → Option (Int × Int × (List Instr))
  | 0, [⟨(.int .i64), a0⟩, ⟨(.int .i64), a1⟩, ⟨(.slc (.st 38)), a2⟩] => some (a0, a1, a2)
  | _, _ => none
def qaA_dec : Int × Int × (List Instr) → Nat × List (TV U) := fun x => (0, [⟨(.int .i64), x.1⟩, ⟨(.int .i64), x.2.1⟩, ⟨(.slc (.st 38)), x.2.2⟩])
def qaA_in (rec_qaB : List TAct → Int → Int → Int → List Instr → Option (Int × Int × (List Instr))) : List (TV U) → Option (Int × Int × (List Instr))
  | [⟨(.st 59), a0⟩, ⟨(.int .i64), a1⟩, ⟨(.int .i64), a2⟩, ⟨(.int .i64), a3⟩, ⟨(.slc (.st 38)), a4⟩] => qaA rec_qaB a0 a1 a2 a3 a4
  | _ => none
def qaA_md (rec_qaB : List TAct → Int → Int → Int → List Instr → Option (Int × Int × (List Instr))) : Mode U := ⟨qaA_sh, [⟨100000, .slot 0, []⟩], qaA_os, fun ls => .get (qaA_in rec_qaB ls) qaA_tr⟩
theorem qaA_post (rec_qaB : List TAct → Int → Int → Int → List Instr → Option (Int × Int × (List Instr))) (hrec_qaB : zaad kk env0 21 (qaB_rmd rec_qaB)) : zaad kk env0 36 (qaA_md rec_qaB) :=
  fn_of (fn := Tryz.f36) qaA_enc qaA_dec (zaac eqOk mixed (known72 rec_qaB hrec_qaB)) (by kernel_rfl) (L := jnL) (zaab (bs := []) (by kernel_rfl) trivial) (fun _ => rfl) (by intro i qs r h; unfold qaA_enc at h; split at h <;> cases h <;> rfl)
    (by intro ls r h; unfold qaA_in at h; split at h; rw [qaA, zaaa] at h; exact Eq.trans (by kernel_rfl) h; cases h)
def ms73 (rec_qaB : List TAct → Int → Int → Int → List Instr → Option (Int × Int × (List Instr))) : List (FuncId × Mode U) := (36, (qaA_md rec_qaB)) :: (ms72 rec_qaB)
theorem known73 (rec_qaB : List TAct → Int → Int → Int → List Instr → Option (Int × Int × (List Instr))) (hrec_qaB : zaad kk env0 21 (qaB_rmd rec_qaB)) : Known kk env0 (zaae (ms73 rec_qaB)) := known_cons (by kernel_rfl) (qaA_post rec_qaB hrec_qaB) (known72 rec_qaB hrec_qaB)
def qaB_sh1 : StSh := ⟨⟨[0, 2, 8, 9, 10], [100000], [⟨.cell 100000 2, 200002, 38, (.st 38)⟩]⟩, [.ptr 100000 0, .t (.int .i64), .t (.slc (.st 59)), .t (.int .i64), .t (.int .i64)], [.blk 69 [.t (.int .i64), .t (.int .i64), .oslc 200002], .row 38 (.st 38)]⟩
def qaB_o1 : List Out := [⟨.exit 0, ⟨⟨[], [100000], [⟨.cell 100000 2, 200002, 38, (.st 38)⟩]⟩, [], [.blk 69 [.t (.int .i64), .t (.int .i64), .oslc 200002], .row 38 (.st 38)]⟩⟩]
def qaB_b1 : Code := (zaai (zaag Tryz.f21) 0)
def qaB_rec1 (rec : Int → List TAct → Int → Int → Int → Int → List Instr → Option (Int × Int × (List Instr))) : List (TV U) → Option (Int × Int × (List Instr))
  | [⟨(.int .i64), a0⟩, ⟨(.slc (.st 59)), a1⟩, ⟨(.int .i64), a2⟩, ⟨(.int .i64), a3⟩, ⟨(.int .i64), a4⟩, ⟨(.int .i64), a5⟩, ⟨(.slc (.st 38)), a6⟩] => rec a0 a1 a2 a3 a4 a5 a6
  | _ => none
def qaB_enc1 : Nat → List (TV U) → Option (Int × Int × (List Instr))
  | 0, [⟨(.int .i64), a0⟩, ⟨(.int .i64), a1⟩, ⟨(.slc (.st 38)), a2⟩] => some (a0, a1, a2)
  | _, _ => none
def qaB_dec1 : Int × Int × (List Instr) → Nat × List (TV U) := fun x => (0, [⟨(.int .i64), x.1⟩, ⟨(.int .i64), x.2.1⟩, ⟨(.slc (.st 38)), x.2.2⟩])
def qaB_tr1 : Int × Int × (List Instr) → Tr (Nat × List (TV U)) := fun x => .ret (0, [⟨(.int .i64), x.1⟩, ⟨(.int .i64), x.2.1⟩, ⟨(.slc (.st 38)), x.2.2⟩])
def qaB_lp1 (rec_qaB : List TAct → Int → Int → Int → List Instr → Option (Int × Int × (List Instr))) : Lift.Loop U := ⟨qaB_sh1, qaB_o1, fun ls => .get (qaB_rec1 (qaB_l1 rec_qaB) ls) qaB_tr1⟩
theorem qaB_ok1 (rec_qaB : List TAct → Int → Int → Int → List Instr → Option (Int × Int × (List Instr))) (hrec_qaB : zaad kk env0 21 (qaB_rmd rec_qaB)) : LoopR kk env0 Tryz.f21.ntmps qaB_b1 (qaB_lp1 rec_qaB) :=
  zaaj qaB_enc1 qaB_dec1 (fun n => qaB_rec1 (qaB_i1 rec_qaB n)) (zaac eqOk mixed (known73 rec_qaB hrec_qaB)) (L := jnL) (zaab (bs := []) (by kernel_rfl) trivial) (fun _ => rfl) (by intro i qs r h; unfold qaB_enc1 at h; split at h <;> cases h <;> rfl)
    (by intro ls r h; unfold qaB_rec1 at h; split at h <;> cases h)
    (by intro n ls r h; unfold qaB_rec1 at h; split at h; exact (show _ = qaB_t1 rec_qaB (qaB_i1 rec_qaB n) _ _ _ _ _ _ _ from by kernel_rfl).trans h; cases h) (by rw [qaB_l1, zaaa])
def qaB_L (rec_qaB : List TAct → Int → Int → Int → List Instr → Option (Int × Int × (List Instr))) : Nat → Option (Lift.Loop U) := fun n => bif Nat.beq n zaap then some zaam else bif Nat.beq n 1 then some (qaB_lp1 rec_qaB) else none
def qaB_enc : Nat → List (TV U) → Option (Int × Int × (List Instr))
  | 0, [⟨(.int .i64), a0⟩, ⟨(.int .i64), a1⟩, ⟨(.slc (.st 38)), a2⟩] => some (a0, a1, a2)
  | _, _ => none
def qaB_dec : Int × Int × (List Instr) → Nat × List (TV U) := fun x => (0, [⟨(.int .i64), x.1⟩, ⟨(.int .i64), x.2.1⟩, ⟨(.slc (.st 38)), x.2.2⟩])
def qaB_md : Mode U := qaB_rmd qaB
theorem qaB_step (rec_qaB : List TAct → Int → Int → Int → List Instr → Option (Int × Int × (List Instr))) (hrec_qaB : zaad kk env0 21 (qaB_rmd rec_qaB)) : zaau (Kit.withModes kk (zaae (ms73 rec_qaB))) env0 Tryz.f21.ntmps (qaB_L rec_qaB) (zaag Tryz.f21) := zaab (bs := [qaB_b1]) (by kernel_rfl) ⟨.inr ⟨_, by kernel_rfl, zaak.of_round (qaB_ok1 rec_qaB hrec_qaB)⟩, trivial⟩
theorem qaB_post : zaad kk env0 21 (qaB_rmd qaB) :=
  zabr (K := kk) (F := qaB) qaB_rmd qaB_i (by rw [qaB, zaaa]) (zaa5 (by intro ls r h; unfold qaB_in at h; split at h <;> cases h)) (fun n ih => fn_of (fn := Tryz.f21) qaB_enc qaB_dec (zaac eqOk mixed (known73 (qaB_i n) ih)) (by kernel_rfl) (qaB_step (qaB_i n) ih) (fun _ => rfl) (by intro i qs r h; unfold qaB_enc at h; split at h <;> cases h <;> rfl)
    (by intro ls r h; unfold qaB_in at h; split at h; exact (show _ = qaB_f (qaB_i n) _ _ _ _ _ from by kernel_rfl).trans h; cases h))
def ms74 : List (FuncId × Mode U) := (21, qaB_md) :: ms70
theorem known74 : Known kk env0 (zaae ms74) := known_cons (by kernel_rfl) qaB_post known70
def qbb_sh : StSh := ⟨⟨[0], [], [⟨.slot 0, 0, 38, (.st 38)⟩]⟩, [.oslc 0], [.row 38 (.st 38)]⟩
def qbb_os : List StSh := [⟨⟨[0], [], [⟨.slot 0, 100000, 38, (.st 38)⟩]⟩, [.oslc 100000], [.row 38 (.st 38)]⟩]
def qbb_tr : (List Instr) → Tr (Nat × List (TV U)) := fun x => .ret (0, [⟨(.slc (.st 38)), x⟩])
def qbb_enc : Nat → List (TV U) → Option ((List Instr))
  | 0, [⟨(.slc (.st 38)), a0⟩] => some a0
  | _, _ => none
def qbb_dec : (List Instr) → Nat × List (TV U) := fun x => (0, [⟨(.slc (.st 38)), x⟩])
def qbb_in : List (TV U) → Option ((List Instr))
  | [⟨(.slc (.st 38)), a0⟩] => qbb a0
  | _ => none
def qbb_md : Mode U := ⟨qbb_sh, [], qbb_os, fun ls => .get (qbb_in ls) qbb_tr⟩
theorem qbb_post : zaad kk env0 23 qbb_md :=
  fn_of (fn := Tryz.f23) qbb_enc qbb_dec (zaac eqOk mixed known74) (by kernel_rfl) (L := jnL) (zaab (bs := []) (by kernel_rfl) trivial) (fun _ => rfl) (by intro i qs r h; unfold qbb_enc at h; split at h <;> cases h <;> rfl)
    (by intro ls r h; unfold qbb_in at h; split at h; rw [qbb, zaaa] at h; exact Eq.trans (by kernel_rfl) h; cases h)
def ms75 : List (FuncId × Mode U) := (23, qbb_md) :: ms74
theorem known75 : Known kk env0 (zaae ms75) := known_cons (by kernel_rfl) qbb_post known74
def qaz_sh5 : StSh := ⟨⟨[2, 4, 20, 21, 22], [2, 4], [⟨.cell 4 0, 20200, 3, (.int .i64)⟩, ⟨.cell 4 2, 20202, 36, (.st 1036)⟩]⟩, [.ptr 2 0, .ptr 4 0, .t (.slc (.st 51)), .t (.int .i64), .t (.int .i64)], [.blk 29 [.nil, .t (.int .i64), .nil], .blk 29 [.oslc 20200, .t (.int .i64), .oslc 20202], .row 3 (.int .i64), .row 36 (.st 1036)]⟩
def qaz_o5 : List Out := [⟨.exit 0, ⟨⟨[2, 4], [2, 4], [⟨.cell 4 0, 20200, 3, (.int .i64)⟩, ⟨.cell 4 2, 20202, 36, (.st 1036)⟩]⟩, [.ptr 2 0, .ptr 4 0], [.blk 29 [.nil, .t (.int .i64), .nil], .blk 29 [.oslc 20200, .t (.int .i64), .oslc 20202], .row 3 (.int .i64), .row 36 (.st 1036)]⟩⟩]
def qaz_b5 : Code := (zaai (zaag Tryz.f8) 0)
def qaz_rec5 (rec : List TBody → Int → Int → Int → Int → List Int → List ACode → Option (Int × Int × (List Int) × (List ACode))) : List (TV U) → Option (Int × Int × (List Int) × (List ACode))
  | [⟨(.slc (.st 51)), a0⟩, ⟨(.int .i64), a1⟩, ⟨(.int .i64), a2⟩, ⟨(.int .i64), a3⟩, ⟨(.int .i64), a4⟩, ⟨(.slc (.int .i64)), a5⟩, ⟨(.slc (.st 1036)), a6⟩] => rec a0 a1 a2 a3 a4 a5 a6
  | _ => none
def qaz_enc5 : Nat → List (TV U) → Option (Int × Int × (List Int) × (List ACode))
  | 0, [⟨(.int .i64), a0⟩, ⟨(.int .i64), a1⟩, ⟨(.slc (.int .i64)), a2⟩, ⟨(.slc (.st 1036)), a3⟩] => some (a0, a1, a2, a3)
  | _, _ => none
def qaz_dec5 : Int × Int × (List Int) × (List ACode) → Nat × List (TV U) := fun x => (0, [⟨(.int .i64), x.1⟩, ⟨(.int .i64), x.2.1⟩, ⟨(.slc (.int .i64)), x.2.2.1⟩, ⟨(.slc (.st 1036)), x.2.2.2⟩])
def qaz_tr5 : Int × Int × (List Int) × (List ACode) → Tr (Nat × List (TV U)) := fun x => .ret (0, [⟨(.int .i64), x.1⟩, ⟨(.int .i64), x.2.1⟩, ⟨(.slc (.int .i64)), x.2.2.1⟩, ⟨(.slc (.st 1036)), x.2.2.2⟩])
def qaz_lp5 : Lift.Loop U := ⟨qaz_sh5, qaz_o5, fun ls => .get (qaz_rec5 qaz_l5 ls) qaz_tr5⟩
theorem qaz_ok5 : LoopR kk env0 Tryz.f8.ntmps qaz_b5 qaz_lp5 :=
  zaaj qaz_enc5 qaz_dec5 (fun n => qaz_rec5 (qaz_i5 n)) (zaac eqOk mixed known75) (L := jnL) (zaab (bs := []) (by kernel_rfl) trivial) (fun _ => rfl) (by intro i qs r h; unfold qaz_enc5 at h; split at h <;> cases h <;> rfl)
    (by intro ls r h; unfold qaz_rec5 at h; split at h <;> cases h)
    (by intro n ls r h; unfold qaz_rec5 at h; split at h; exact (show _ = qaz_t5 (qaz_i5 n) _ _ _ _ _ _ _ from by kernel_rfl).trans h; cases h) (by rw [qaz_l5, zaaa])
def qaz_sh : StSh := ⟨⟨[0], [], []⟩, [.t (.st 25)], []⟩
def qaz_os : List StSh := [⟨⟨[0, 1], [], [⟨.sub 0 0, 100100, 3, (.int .i64)⟩, ⟨.sub 0 2, 100300, 36, (.st 1036)⟩]⟩, [.agg [.oslc 100100, .t (.int .i64), .oslc 100300], .t (.int .i64)], [.row 3 (.int .i64), .row 36 (.st 1036)]⟩]
def qaz_tr : Int × Int × (List Int) × (List ACode) → Tr (Nat × List (TV U)) := fun x => .ret (0, [⟨(.int .i64), x.1⟩, ⟨(.int .i64), x.2.1⟩, ⟨(.slc (.int .i64)), x.2.2.1⟩, ⟨(.slc (.st 1036)), x.2.2.2⟩])
def qaz_L : Nat → Option (Lift.Loop U) := fun n => bif Nat.beq n zaap then some zaam else bif Nat.beq n 5 then some qaz_lp5 else none
def qaz_enc : Nat → List (TV U) → Option (Int × Int × (List Int) × (List ACode))
  | 0, [⟨(.int .i64), a0⟩, ⟨(.int .i64), a1⟩, ⟨(.slc (.int .i64)), a2⟩, ⟨(.slc (.st 1036)), a3⟩] => some (a0, a1, a2, a3)
  | _, _ => none
def qaz_dec : Int × Int × (List Int) × (List ACode) → Nat × List (TV U) := fun x => (0, [⟨(.int .i64), x.1⟩, ⟨(.int .i64), x.2.1⟩, ⟨(.slc (.int .i64)), x.2.2.1⟩, ⟨(.slc (.st 1036)), x.2.2.2⟩])
def qaz_in : List (TV U) → Option (Int × Int × (List Int) × (List ACode))
  | [⟨(.st 25), a0⟩] => qaz a0
  | _ => none
def qaz_md : Mode U := ⟨qaz_sh, [], qaz_os, fun ls => .get (qaz_in ls) qaz_tr⟩
theorem qaz_post : zaad kk env0 8 qaz_md :=
  fn_of (fn := Tryz.f8) qaz_enc qaz_dec (zaac eqOk mixed known75) (by kernel_rfl) (L := qaz_L) (zaab (bs := [qaz_b5]) (by kernel_rfl) ⟨.inr ⟨_, by kernel_rfl, zaak.of_round (qaz_ok5)⟩, trivial⟩) (fun _ => rfl) (by intro i qs r h; unfold qaz_enc at h; split at h <;> cases h <;> rfl)
    (by intro ls r h; unfold qaz_in at h; split at h; rw [qaz, zaaa] at h; exact Eq.trans (by kernel_rfl) h; cases h)
def ms76 : List (FuncId × Mode U) := (8, qaz_md) :: ms75
theorem known76 : Known kk env0 (zaae ms76) := known_cons (by kernel_rfl) qaz_post known75
def qaG_sh : StSh := ⟨⟨[], [], []⟩, [], []⟩
def qaG_os : List StSh := [⟨⟨[0], [], []⟩, [.t .bool], []⟩]
def qaG_tr : Bool → Tr (Nat × List (TV U)) := fun x => .ret (0, [⟨.bool, x⟩])
def qaG_enc : Nat → List (TV U) → Option (Bool)
  | 0, [⟨.bool, a0⟩] => some a0
  | _, _ => none
def qaG_dec : Bool → Nat × List (TV U) := fun x => (0, [⟨.bool, x⟩])
def qaG_in : List (TV U) → Option (Bool)
  | [] => qaG
  | _ => none
def qaG_md : Mode U := ⟨qaG_sh, [], qaG_os, fun ls => .get (qaG_in ls) qaG_tr⟩
theorem qaG_post : zaad kk env0 6 qaG_md :=
  fn_of (fn := Tryz.f6) qaG_enc qaG_dec (zaac eqOk mixed known76) (by kernel_rfl) (L := noL) (zaab (bs := []) (by kernel_rfl) trivial) (fun _ => rfl) (by intro i qs r h; unfold qaG_enc at h; split at h <;> cases h <;> rfl)
    (by intro ls r h; unfold qaG_in at h; split at h; rw [qaG, zaaa] at h; exact Eq.trans (by kernel_rfl) h; cases h)
def ms77 : List (FuncId × Mode U) := (6, qaG_md) :: ms76
theorem known77 : Known kk env0 (zaae ms77) := known_cons (by kernel_rfl) qaG_post known76
def qaL_sh : StSh := ⟨⟨[0], [], []⟩, [.t (.int .i64)], []⟩
def qaL_os : List StSh := [⟨⟨[0, 1, 2, 3, 4, 5], [], []⟩, [.t .bool, .t .bool, .t .bool, .t .bool, .t .bool, .t .bool], []⟩]
def qaL_tr : Bool × Bool × Bool × Bool × Bool × Bool → Tr (Nat × List (TV U)) := fun x => .ret (0, [⟨.bool, x.1⟩, ⟨.bool, x.2.1⟩, ⟨.bool, x.2.2.1⟩, ⟨.bool, x.2.2.2.1⟩, ⟨.bool, x.2.2.2.2.1⟩, ⟨.bool, x.2.2.2.2.2⟩])
def qaL_enc : Nat → List (TV U) → Option (Bool × Bool × Bool × Bool × Bool × Bool)
  | 0, [⟨.bool, a0⟩, ⟨.bool, a1⟩, ⟨.bool, a2⟩, ⟨.bool, a3⟩, ⟨.bool, a4⟩, ⟨.bool, a5⟩] => some (a0, a1, a2, a3, a4, a5)
  | _, _ => none
def qaL_dec : Bool × Bool × Bool × Bool × Bool × Bool → Nat × List (TV U) := fun x => (0, [⟨.bool, x.1⟩, ⟨.bool, x.2.1⟩, ⟨.bool, x.2.2.1⟩, ⟨.bool, x.2.2.2.1⟩, ⟨.bool, x.2.2.2.2.1⟩, ⟨.bool, x.2.2.2.2.2⟩])
def qaL_in : List (TV U) → Option (Bool × Bool × Bool × Bool × Bool × Bool)
  | [⟨(.int .i64), a0⟩] => qaL a0
  | _ => none
def qaL_md : Mode U := ⟨qaL_sh, [], qaL_os, fun ls => .get (qaL_in ls) qaL_tr⟩
theorem qaL_post : zaad kk env0 51 qaL_md :=
  fn_of (fn := Tryz.f51) qaL_enc qaL_dec (zaac eqOk mixed known77) (by kernel_rfl) (L := jnL) (zaab (bs := []) (by kernel_rfl) trivial) (fun _ => rfl) (by intro i qs r h; unfold qaL_enc at h; split at h <;> cases h <;> rfl)
    (by intro ls r h; unfold qaL_in at h; split at h; rw [qaL, zaaa] at h; exact Eq.trans (by kernel_rfl) h; cases h)
def ms78 : List (FuncId × Mode U) := (51, qaL_md) :: ms77
theorem known78 : Known kk env0 (zaae ms78) := known_cons (by kernel_rfl) qaL_post known77
def qaU_sh : StSh := ⟨⟨[0, 1], [], []⟩, [.t (.st 57), .t (.int .i64)], []⟩
def qaU_os : List StSh := [⟨⟨[0], [], []⟩, [.t .bool], []⟩]
def qaU_tr : Bool → Tr (Nat × List (TV U)) := fun x => .ret (0, [⟨.bool, x⟩])
def qaU_in (rec_qaU : TExpr → Int → Option (Bool)) : List (TV U) → Option (Bool)
  | [⟨(.st 57), a0⟩, ⟨(.int .i64), a1⟩] => rec_qaU a0 a1
  | _ => none
def qaU_rmd (rec_qaU : TExpr → Int → Option (Bool)) : Mode U := ⟨qaU_sh, [], qaU_os, fun ls => .get (qaU_in rec_qaU ls) qaU_tr⟩
def ms79 (rec_qaU : TExpr → Int → Option (Bool)) : List (FuncId × Mode U) := (52, (qaU_rmd rec_qaU)) :: ms78
theorem known79 (rec_qaU : TExpr → Int → Option (Bool)) (hrec_qaU : zaad kk env0 52 (qaU_rmd rec_qaU)) : Known kk env0 (zaae (ms79 rec_qaU)) := known_cons (by kernel_rfl) hrec_qaU known78
def qaU_sh13 : StSh := ⟨⟨[1, 2, 6], [2], []⟩, [.t (.int .i64), .ptr 2 0, .t (.int .i64)], [.blk 57 [.t (.int .i64), .t (.int .i64), .t .str, .t (.slc (.st 57))]]⟩
def qaU_o13 : List Out := [⟨.ret, ⟨⟨[4], [], []⟩, [.t .bool], []⟩⟩, ⟨.exit 1, ⟨⟨[], [], []⟩, [], []⟩⟩]
def qaU_b13 : Code := (zaai (zaag Tryz.f52) 0)
def qaU_rec13 (rec : Int → Int → Int → Int → List UInt8 → List TExpr → Option ((Bool) ⊕ (Unit))) : List (TV U) → Option ((Bool) ⊕ (Unit))
  | [⟨(.int .i64), a0⟩, ⟨(.int .i64), a1⟩, ⟨(.int .i64), a2⟩, ⟨(.int .i64), a3⟩, ⟨.str, a4⟩, ⟨(.slc (.st 57)), a5⟩] => rec a0 a1 a2 a3 a4 a5
  | _ => none
def qaU_enc13 : Nat → List (TV U) → Option ((Bool) ⊕ (Unit))
  | 0, [⟨.bool, a0⟩] => some (.inl a0)
  | 1, [] => some (.inr ())
  | _, _ => none
def qaU_dec13 : (Bool) ⊕ (Unit) → Nat × List (TV U) := fun r => match r with | (.inl x) => (0, [⟨.bool, x⟩]) | (.inr x) => (1, [])
def qaU_tr13 : (Bool) ⊕ (Unit) → Tr (Nat × List (TV U)) := fun r => .alt r (fun x => .ret (0, [⟨.bool, x⟩])) (fun y => (fun x => .ret (1, [])) y)
def qaU_lp13 (rec_qaU : TExpr → Int → Option (Bool)) : Lift.Loop U := ⟨qaU_sh13, qaU_o13, fun ls => .get (qaU_rec13 (qaU_l13 rec_qaU) ls) qaU_tr13⟩
theorem qaU_ok13 (rec_qaU : TExpr → Int → Option (Bool)) (hrec_qaU : zaad kk env0 52 (qaU_rmd rec_qaU)) : LoopR kk env0 Tryz.f52.ntmps qaU_b13 (qaU_lp13 rec_qaU) :=
  zaaj qaU_enc13 qaU_dec13 (fun n => qaU_rec13 (qaU_i13 rec_qaU n)) (zaac eqOk mixed (known79 rec_qaU hrec_qaU)) (L := jnL) (zaab (bs := []) (by kernel_rfl) trivial) (by intro r; rcases r with r | r <;> rfl) (by intro i qs r h; unfold qaU_enc13 at h; split at h <;> cases h <;> rfl)
    (by intro ls r h; unfold qaU_rec13 at h; split at h <;> cases h)
    (by intro n ls r h; unfold qaU_rec13 at h; split at h; exact (show _ = qaU_t13 rec_qaU (qaU_i13 rec_qaU n) _ _ _ _ _ _ from by kernel_rfl).trans h; cases h) (by rw [qaU_l13, zaaa])
def qaU_L (rec_qaU : TExpr → Int → Option (Bool)) : Nat → Option (Lift.Loop U) := fun n => bif Nat.beq n zaap then some zaam else bif Nat.beq n 13 then some (qaU_lp13 rec_qaU) else none
def qaU_enc : Nat → List (TV U) → Option (Bool)
  | 0, [⟨.bool, a0⟩] => some a0
  | _, _ => none
def qaU_dec : Bool → Nat × List (TV U) := fun x => (0, [⟨.bool, x⟩])
def qaU_md : Mode U := qaU_rmd qaU
theorem qaU_step (rec_qaU : TExpr → Int → Option (Bool)) (hrec_qaU : zaad kk env0 52 (qaU_rmd rec_qaU)) : zaau (Kit.withModes kk (zaae (ms79 rec_qaU))) env0 Tryz.f52.ntmps (qaU_L rec_qaU) (zaag Tryz.f52) := zaab (bs := [qaU_b13]) (by kernel_rfl) ⟨.inr ⟨_, by kernel_rfl, zaak.of_round (qaU_ok13 rec_qaU hrec_qaU)⟩, trivial⟩
theorem qaU_post : zaad kk env0 52 (qaU_rmd qaU) :=
  zabr (K := kk) (F := qaU) qaU_rmd qaU_i (by rw [qaU, zaaa]) (zaa5 (by intro ls r h; unfold qaU_in at h; split at h <;> cases h)) (fun n ih => fn_of (fn := Tryz.f52) qaU_enc qaU_dec (zaac eqOk mixed (known79 (qaU_i n) ih)) (by kernel_rfl) (qaU_step (qaU_i n) ih) (fun _ => rfl) (by intro i qs r h; unfold qaU_enc at h; split at h <;> cases h <;> rfl)
    (by intro ls r h; unfold qaU_in at h; split at h; exact (show _ = qaU_f (qaU_i n) _ _ from by kernel_rfl).trans h; cases h))
def ms80 : List (FuncId × Mode U) := (52, qaU_md) :: ms78
theorem known80 : Known kk env0 (zaae ms80) := known_cons (by kernel_rfl) qaU_post known78
def qaM_sh : StSh := ⟨⟨[0], [], []⟩, [.t (.st 57)], []⟩
def qaM_os : List StSh := [⟨⟨[0], [], []⟩, [.t .bool], []⟩]
def qaM_tr : Bool → Tr (Nat × List (TV U)) := fun x => .ret (0, [⟨.bool, x⟩])
def qaM_enc : Nat → List (TV U) → Option (Bool)
  | 0, [⟨.bool, a0⟩] => some a0
  | _, _ => none
def qaM_dec : Bool → Nat × List (TV U) := fun x => (0, [⟨.bool, x⟩])
def qaM_in : List (TV U) → Option (Bool)
  | [⟨(.st 57), a0⟩] => qaM a0
  | _ => none
def qaM_md : Mode U := ⟨qaM_sh, [], qaM_os, fun ls => .get (qaM_in ls) qaM_tr⟩
theorem qaM_post : zaad kk env0 53 qaM_md :=
  fn_of (fn := Tryz.f53) qaM_enc qaM_dec (zaac eqOk mixed known80) (by kernel_rfl) (L := jnL) (zaab (bs := []) (by kernel_rfl) trivial) (fun _ => rfl) (by intro i qs r h; unfold qaM_enc at h; split at h <;> cases h <;> rfl)
    (by intro ls r h; unfold qaM_in at h; split at h; rw [qaM, zaaa] at h; exact Eq.trans (by kernel_rfl) h; cases h)
def ms81 : List (FuncId × Mode U) := (53, qaM_md) :: ms80
theorem known81 : Known kk env0 (zaae ms81) := known_cons (by kernel_rfl) qaM_post known80
def qaV_sh : StSh := ⟨⟨[0, 1], [], []⟩, [.t (.int .i64), .t (.st 25)], []⟩
def qaV_os : List StSh := [⟨⟨[0], [], []⟩, [.t (.int .i64)], []⟩]
def qaV_tr : Int → Tr (Nat × List (TV U)) := fun x => .ret (0, [⟨(.int .i64), x⟩])
def qaV_enc : Nat → List (TV U) → Option (Int)
  | 0, [⟨(.int .i64), a0⟩] => some a0
  | _, _ => none
def qaV_dec : Int → Nat × List (TV U) := fun x => (0, [⟨(.int .i64), x⟩])
def qaV_in : List (TV U) → Option (Int)
  | [⟨(.int .i64), a0⟩, ⟨(.st 25), a1⟩] => qaV a0 a1
  | _ => none
def qaV_md : Mode U := ⟨qaV_sh, [], qaV_os, fun ls => .get (qaV_in ls) qaV_tr⟩
theorem qaV_post : zaad kk env0 54 qaV_md :=
  fn_of (fn := Tryz.f54) qaV_enc qaV_dec (zaac eqOk mixed known81) (by kernel_rfl) (L := jnL) (zaab (bs := []) (by kernel_rfl) trivial) (fun _ => rfl) (by intro i qs r h; unfold qaV_enc at h; split at h <;> cases h <;> rfl)
    (by intro ls r h; unfold qaV_in at h; split at h; rw [qaV, zaaa] at h; exact Eq.trans (by kernel_rfl) h; cases h)
def ms82 : List (FuncId × Mode U) := (54, qaV_md) :: ms81
theorem known82 : Known kk env0 (zaae ms82) := known_cons (by kernel_rfl) qaV_post known81
def qaT_sh : StSh := ⟨⟨[0, 1, 2], [], []⟩, [.t (.slc (.st 59)), .t (.int .i64), .t (.st 25)], []⟩
def qaT_os : List StSh := [⟨⟨[0], [], []⟩, [.t .bool], []⟩]
def qaT_tr : Bool → Tr (Nat × List (TV U)) := fun x => .ret (0, [⟨.bool, x⟩])
def qaT_in (rec_qaT : List TAct → Int → TUnit → Option (Bool)) : List (TV U) → Option (Bool)
  | [⟨(.slc (.st 59)), a0⟩, ⟨(.int .i64), a1⟩, ⟨(.st 25), a2⟩] => rec_qaT a0 a1 a2
  | _ => none
def qaT_rmd (rec_qaT : List TAct → Int → TUnit → Option (Bool)) : Mode U := ⟨qaT_sh, [], qaT_os, fun ls => .get (qaT_in rec_qaT ls) qaT_tr⟩
def ms83 (rec_qaT : List TAct → Int → TUnit → Option (Bool)) : List (FuncId × Mode U) := (26, (qaT_rmd rec_qaT)) :: ms82
theorem known83 (rec_qaT : List TAct → Int → TUnit → Option (Bool)) (hrec_qaT : zaad kk env0 26 (qaT_rmd rec_qaT)) : Known kk env0 (zaae (ms83 rec_qaT)) := known_cons (by kernel_rfl) hrec_qaT known82
def qaS_sh : StSh := ⟨⟨[0, 1, 2], [], []⟩, [.t (.st 59), .t (.int .i64), .t (.st 25)], []⟩
def qaS_os : List StSh := [⟨⟨[0], [], []⟩, [.t .bool], []⟩]
def qaS_tr : Bool → Tr (Nat × List (TV U)) := fun x => .ret (0, [⟨.bool, x⟩])
def qaS_enc : Nat → List (TV U) → Option (Bool)
  | 0, [⟨.bool, a0⟩] => some a0
  | _, _ => none
def qaS_dec : Bool → Nat × List (TV U) := fun x => (0, [⟨.bool, x⟩])
def qaS_in (rec_qaT : List TAct → Int → TUnit → Option (Bool)) : List (TV U) → Option (Bool)
  | [⟨(.st 59), a0⟩, ⟨(.int .i64), a1⟩, ⟨(.st 25), a2⟩] => qaS rec_qaT a0 a1 a2
  | _ => none
def qaS_md (rec_qaT : List TAct → Int → TUnit → Option (Bool)) : Mode U := ⟨qaS_sh, [], qaS_os, fun ls => .get (qaS_in rec_qaT ls) qaS_tr⟩
theorem qaS_post (rec_qaT : List TAct → Int → TUnit → Option (Bool)) (hrec_qaT : zaad kk env0 26 (qaT_rmd rec_qaT)) : zaad kk env0 39 (qaS_md rec_qaT) :=
  fn_of (fn := Tryz.f39) qaS_enc qaS_dec (zaac eqOk mixed (known83 rec_qaT hrec_qaT)) (by kernel_rfl) (L := jnL) (zaab (bs := []) (by kernel_rfl) trivial) (fun _ => rfl) (by intro i qs r h; unfold qaS_enc at h; split at h <;> cases h <;> rfl)
    (by intro ls r h; unfold qaS_in at h; split at h; rw [qaS, zaaa] at h; exact Eq.trans (by kernel_rfl) h; cases h)
def ms84 (rec_qaT : List TAct → Int → TUnit → Option (Bool)) : List (FuncId × Mode U) := (39, (qaS_md rec_qaT)) :: (ms83 rec_qaT)
theorem known84 (rec_qaT : List TAct → Int → TUnit → Option (Bool)) (hrec_qaT : zaad kk env0 26 (qaT_rmd rec_qaT)) : Known kk env0 (zaae (ms84 rec_qaT)) := known_cons (by kernel_rfl) (qaS_post rec_qaT hrec_qaT) (known83 rec_qaT hrec_qaT)
def qaT_sh2 : StSh := ⟨⟨[0, 1, 5, 7], [5], []⟩, [.t (.slc (.st 59)), .t (.int .i64), .ptr 5 0, .t (.int .i64)], [.blk 25 [.t (.slc (.int .i64)), .t (.int .i64), .t (.slc (.st 51))]]⟩
def qaT_o2 : List Out := [⟨.ret, ⟨⟨[6], [], []⟩, [.t .bool], []⟩⟩, ⟨.exit 0, ⟨⟨[], [], []⟩, [], []⟩⟩]
def qaT_b2 : Code := (zaai (zaag Tryz.f26) 0)
def qaT_rec2 (rec : List TAct → Int → Int → List Int → Int → List TBody → Option ((Bool) ⊕ (Unit))) : List (TV U) → Option ((Bool) ⊕ (Unit))
  | [⟨(.slc (.st 59)), a0⟩, ⟨(.int .i64), a1⟩, ⟨(.int .i64), a2⟩, ⟨(.slc (.int .i64)), a3⟩, ⟨(.int .i64), a4⟩, ⟨(.slc (.st 51)), a5⟩] => rec a0 a1 a2 a3 a4 a5
  | _ => none
def qaT_enc2 : Nat → List (TV U) → Option ((Bool) ⊕ (Unit))
  | 0, [⟨.bool, a0⟩] => some (.inl a0)
  | 1, [] => some (.inr ())
  | _, _ => none
def qaT_dec2 : (Bool) ⊕ (Unit) → Nat × List (TV U) := fun r => match r with | (.inl x) => (0, [⟨.bool, x⟩]) | (.inr x) => (1, [])
def qaT_tr2 : (Bool) ⊕ (Unit) → Tr (Nat × List (TV U)) := fun r => .alt r (fun x => .ret (0, [⟨.bool, x⟩])) (fun y => (fun x => .ret (1, [])) y)
def qaT_lp2 (rec_qaT : List TAct → Int → TUnit → Option (Bool)) : Lift.Loop U := ⟨qaT_sh2, qaT_o2, fun ls => .get (qaT_rec2 (qaT_l2 rec_qaT) ls) qaT_tr2⟩
theorem qaT_ok2 (rec_qaT : List TAct → Int → TUnit → Option (Bool)) (hrec_qaT : zaad kk env0 26 (qaT_rmd rec_qaT)) : LoopR kk env0 Tryz.f26.ntmps qaT_b2 (qaT_lp2 rec_qaT) :=
  zaaj qaT_enc2 qaT_dec2 (fun n => qaT_rec2 (qaT_i2 rec_qaT n)) (zaac eqOk mixed (known84 rec_qaT hrec_qaT)) (L := jnL) (zaab (bs := []) (by kernel_rfl) trivial) (by intro r; rcases r with r | r <;> rfl) (by intro i qs r h; unfold qaT_enc2 at h; split at h <;> cases h <;> rfl)
    (by intro ls r h; unfold qaT_rec2 at h; split at h <;> cases h)
    (by intro n ls r h; unfold qaT_rec2 at h; split at h; exact (show _ = qaT_t2 rec_qaT (qaT_i2 rec_qaT n) _ _ _ _ _ _ from by kernel_rfl).trans h; cases h) (by rw [qaT_l2, zaaa])
def qaT_L (rec_qaT : List TAct → Int → TUnit → Option (Bool)) : Nat → Option (Lift.Loop U) := fun n => bif Nat.beq n zaap then some zaam else bif Nat.beq n 2 then some (qaT_lp2 rec_qaT) else none
def qaT_enc : Nat → List (TV U) → Option (Bool)
  | 0, [⟨.bool, a0⟩] => some a0
  | _, _ => none
def qaT_dec : Bool → Nat × List (TV U) := fun x => (0, [⟨.bool, x⟩])
def qaT_md : Mode U := qaT_rmd qaT
theorem qaT_step (rec_qaT : List TAct → Int → TUnit → Option (Bool)) (hrec_qaT : zaad kk env0 26 (qaT_rmd rec_qaT)) : zaau (Kit.withModes kk (zaae (ms84 rec_qaT))) env0 Tryz.f26.ntmps (qaT_L rec_qaT) (zaag Tryz.f26) := zaab (bs := [qaT_b2]) (by kernel_rfl) ⟨.inr ⟨_, by kernel_rfl, zaak.of_round (qaT_ok2 rec_qaT hrec_qaT)⟩, trivial⟩
theorem qaT_post : zaad kk env0 26 (qaT_rmd qaT) :=
  zabr (K := kk) (F := qaT) qaT_rmd qaT_i (by rw [qaT, zaaa]) (zaa5 (by intro ls r h; unfold qaT_in at h; split at h <;> cases h)) (fun n ih => fn_of (fn := Tryz.f26) qaT_enc qaT_dec (zaac eqOk mixed (known84 (qaT_i n) ih)) (by kernel_rfl) (qaT_step (qaT_i n) ih) (fun _ => rfl) (by intro i qs r h; unfold qaT_enc at h; split at h <;> cases h <;> rfl)
    (by intro ls r h; unfold qaT_in at h; split at h; exact (show _ = qaT_f (qaT_i n) _ _ _ from by kernel_rfl).trans h; cases h))
def ms85 : List (FuncId × Mode U) := (26, qaT_md) :: ms82
theorem known85 : Known kk env0 (zaae ms85) := known_cons (by kernel_rfl) qaT_post known82
def qaQ_sh : StSh := ⟨⟨[0], [], []⟩, [.t (.slc (.st 59))], []⟩
def qaQ_os : List StSh := [⟨⟨[0], [], [⟨.slot 0, 100000, 78, (.st 78)⟩]⟩, [.oslc 100000], [.row 78 (.st 78)]⟩]
def qaQ_tr : (List TStmt) → Tr (Nat × List (TV U)) := fun x => .ret (0, [⟨(.slc (.st 78)), x⟩])
def qaQ_in (rec_qaQ : List TAct → Option ((List TStmt))) : List (TV U) → Option ((List TStmt))
  | [⟨(.slc (.st 59)), a0⟩] => rec_qaQ a0
  | _ => none
def qaQ_rmd (rec_qaQ : List TAct → Option ((List TStmt))) : Mode U := ⟨qaQ_sh, [], qaQ_os, fun ls => .get (qaQ_in rec_qaQ ls) qaQ_tr⟩
def ms86 (rec_qaQ : List TAct → Option ((List TStmt))) : List (FuncId × Mode U) := (13, (qaQ_rmd rec_qaQ)) :: ms85
theorem known86 (rec_qaQ : List TAct → Option ((List TStmt))) (hrec_qaQ : zaad kk env0 13 (qaQ_rmd rec_qaQ)) : Known kk env0 (zaae (ms86 rec_qaQ)) := known_cons (by kernel_rfl) hrec_qaQ known85
def qaQ_sh3 : StSh := ⟨⟨[0, 3, 4], [], [⟨.slot 3, 3, 78, (.st 78)⟩]⟩, [.t (.slc (.st 59)), .oslc 3, .t (.int .i64)], [.row 78 (.st 78)]⟩
def qaQ_o3 : List Out := [⟨.exit 0, ⟨⟨[3], [], [⟨.slot 3, 3, 78, (.st 78)⟩]⟩, [.oslc 3], [.row 78 (.st 78)]⟩⟩]
def qaQ_b3 : Code := (zaai (zaag Tryz.f13) 0)
def qaQ_rec3 (rec : List TAct → Int → List TStmt → Option ((List TStmt))) : List (TV U) → Option ((List TStmt))
  | [⟨(.slc (.st 59)), a0⟩, ⟨(.int .i64), a1⟩, ⟨(.slc (.st 78)), a2⟩] => rec a0 a1 a2
  | _ => none
def qaQ_enc3 : Nat → List (TV U) → Option ((List TStmt))
  | 0, [⟨(.slc (.st 78)), a0⟩] => some a0
  | _, _ => none
def qaQ_dec3 : (List TStmt) → Nat × List (TV U) := fun x => (0, [⟨(.slc (.st 78)), x⟩])
def qaQ_tr3 : (List TStmt) → Tr (Nat × List (TV U)) := fun x => .ret (0, [⟨(.slc (.st 78)), x⟩])
def qaQ_lp3 (rec_qaQ : List TAct → Option ((List TStmt))) : Lift.Loop U := ⟨qaQ_sh3, qaQ_o3, fun ls => .get (qaQ_rec3 (qaQ_l3 rec_qaQ) ls) qaQ_tr3⟩
theorem qaQ_ok3 (rec_qaQ : List TAct → Option ((List TStmt))) (hrec_qaQ : zaad kk env0 13 (qaQ_rmd rec_qaQ)) : LoopR kk env0 Tryz.f13.ntmps qaQ_b3 (qaQ_lp3 rec_qaQ) :=
  zaaj qaQ_enc3 qaQ_dec3 (fun n => qaQ_rec3 (qaQ_i3 rec_qaQ n)) (zaac eqOk mixed (known86 rec_qaQ hrec_qaQ)) (L := jnL) (zaab (bs := []) (by kernel_rfl) trivial) (fun _ => rfl) (by intro i qs r h; unfold qaQ_enc3 at h; split at h <;> cases h <;> rfl)
    (by intro ls r h; unfold qaQ_rec3 at h; split at h <;> cases h)
    (by intro n ls r h; unfold qaQ_rec3 at h; split at h; exact (show _ = qaQ_t3 rec_qaQ (qaQ_i3 rec_qaQ n) _ _ _ from by kernel_rfl).trans h; cases h) (by rw [qaQ_l3, zaaa])
def qaQ_L (rec_qaQ : List TAct → Option ((List TStmt))) : Nat → Option (Lift.Loop U) := fun n => bif Nat.beq n zaap then some zaam else bif Nat.beq n 3 then some (qaQ_lp3 rec_qaQ) else none
def qaQ_enc : Nat → List (TV U) → Option ((List TStmt))
  | 0, [⟨(.slc (.st 78)), a0⟩] => some a0
  | _, _ => none
def qaQ_dec : (List TStmt) → Nat × List (TV U) := fun x => (0, [⟨(.slc (.st 78)), x⟩])
def qaQ_md : Mode U := qaQ_rmd qaQ
theorem qaQ_step (rec_qaQ : List TAct → Option ((List TStmt))) (hrec_qaQ : zaad kk env0 13 (qaQ_rmd rec_qaQ)) : zaau (Kit.withModes kk (zaae (ms86 rec_qaQ))) env0 Tryz.f13.ntmps (qaQ_L rec_qaQ) (zaag Tryz.f13) := zaab (bs := [qaQ_b3]) (by kernel_rfl) ⟨.inr ⟨_, by kernel_rfl, zaak.of_round (qaQ_ok3 rec_qaQ hrec_qaQ)⟩, trivial⟩
theorem qaQ_post : zaad kk env0 13 (qaQ_rmd qaQ) :=
  zabr (K := kk) (F := qaQ) qaQ_rmd qaQ_i (by rw [qaQ, zaaa]) (zaa5 (by intro ls r h; unfold qaQ_in at h; split at h <;> cases h)) (fun n ih => fn_of (fn := Tryz.f13) qaQ_enc qaQ_dec (zaac eqOk mixed (known86 (qaQ_i n) ih)) (by kernel_rfl) (qaQ_step (qaQ_i n) ih) (fun _ => rfl) (by intro i qs r h; unfold qaQ_enc at h; split at h <;> cases h <;> rfl)
    (by intro ls r h; unfold qaQ_in at h; split at h; exact (show _ = qaQ_f (qaQ_i n) _ from by kernel_rfl).trans h; cases h))
def ms87 : List (FuncId × Mode U) := (13, qaQ_md) :: ms85
theorem known87 : Known kk env0 (zaae ms87) := known_cons (by kernel_rfl) qaQ_post known85
def qaP_sh : StSh := ⟨⟨[0], [], []⟩, [.t (.st 57)], []⟩
def qaP_os : List StSh := [⟨⟨[0], [], []⟩, [.t .bool], []⟩]
def qaP_tr : Bool → Tr (Nat × List (TV U)) := fun x => .ret (0, [⟨.bool, x⟩])
def qaP_enc : Nat → List (TV U) → Option (Bool)
  | 0, [⟨.bool, a0⟩] => some a0
  | _, _ => none
def qaP_dec : Bool → Nat × List (TV U) := fun x => (0, [⟨.bool, x⟩])
def qaP_in : List (TV U) → Option (Bool)
  | [⟨(.st 57), a0⟩] => qaP a0
  | _ => none
def qaP_md : Mode U := ⟨qaP_sh, [], qaP_os, fun ls => .get (qaP_in ls) qaP_tr⟩
theorem qaP_post : zaad kk env0 41 qaP_md :=
  fn_of (fn := Tryz.f41) qaP_enc qaP_dec (zaac eqOk mixed known87) (by kernel_rfl) (L := jnL) (zaab (bs := []) (by kernel_rfl) trivial) (fun _ => rfl) (by intro i qs r h; unfold qaP_enc at h; split at h <;> cases h <;> rfl)
    (by intro ls r h; unfold qaP_in at h; split at h; rw [qaP, zaaa] at h; exact Eq.trans (by kernel_rfl) h; cases h)
def ms88 : List (FuncId × Mode U) := (41, qaP_md) :: ms87
theorem known88 : Known kk env0 (zaae ms88) := known_cons (by kernel_rfl) qaP_post known87
def qaK_sh : StSh := ⟨⟨[0], [], []⟩, [.t (.st 57)], []⟩
def qaK_os : List StSh := [⟨⟨[0], [], []⟩, [.t (.int .i64)], []⟩]
def qaK_tr : Int → Tr (Nat × List (TV U)) := fun x => .ret (0, [⟨(.int .i64), x⟩])
def qaK_in (rec_qaK : TExpr → Option (Int)) : List (TV U) → Option (Int)
  | [⟨(.st 57), a0⟩] => rec_qaK a0
  | _ => none
def qaK_rmd (rec_qaK : TExpr → Option (Int)) : Mode U := ⟨qaK_sh, [], qaK_os, fun ls => .get (qaK_in rec_qaK ls) qaK_tr⟩
def ms89 (rec_qaK : TExpr → Option (Int)) : List (FuncId × Mode U) := (55, (qaK_rmd rec_qaK)) :: ms88
theorem known89 (rec_qaK : TExpr → Option (Int)) (hrec_qaK : zaad kk env0 55 (qaK_rmd rec_qaK)) : Known kk env0 (zaae (ms89 rec_qaK)) := known_cons (by kernel_rfl) hrec_qaK known88
def qaK_sh3 : StSh := ⟨⟨[1, 3, 4], [1], []⟩, [.ptr 1 0, .t (.int .i64), .t (.int .i64)], [.blk 57 [.t (.int .i64), .t (.int .i64), .t .str, .t (.slc (.st 57))]]⟩
def qaK_o3 : List Out := [⟨.exit 0, ⟨⟨[3], [], []⟩, [.t (.int .i64)], []⟩⟩]
def qaK_b3 : Code := (zaai (zaag Tryz.f55) 0)
def qaK_rec3 (rec : Int → Int → Int → Int → List UInt8 → List TExpr → Option (Int)) : List (TV U) → Option (Int)
  | [⟨(.int .i64), a0⟩, ⟨(.int .i64), a1⟩, ⟨(.int .i64), a2⟩, ⟨(.int .i64), a3⟩, ⟨.str, a4⟩, ⟨(.slc (.st 57)), a5⟩] => rec a0 a1 a2 a3 a4 a5
  | _ => none
def qaK_enc3 : Nat → List (TV U) → Option (Int)
  | 0, [⟨(.int .i64), a0⟩] => some a0
  | _, _ => none
def qaK_dec3 : Int → Nat × List (TV U) := fun x => (0, [⟨(.int .i64), x⟩])
def qaK_tr3 : Int → Tr (Nat × List (TV U)) := fun x => .ret (0, [⟨(.int .i64), x⟩])
def qaK_lp3 (rec_qaK : TExpr → Option (Int)) : Lift.Loop U := ⟨qaK_sh3, qaK_o3, fun ls => .get (qaK_rec3 (qaK_l3 rec_qaK) ls) qaK_tr3⟩
theorem qaK_ok3 (rec_qaK : TExpr → Option (Int)) (hrec_qaK : zaad kk env0 55 (qaK_rmd rec_qaK)) : LoopR kk env0 Tryz.f55.ntmps qaK_b3 (qaK_lp3 rec_qaK) :=
  zaaj qaK_enc3 qaK_dec3 (fun n => qaK_rec3 (qaK_i3 rec_qaK n)) (zaac eqOk mixed (known89 rec_qaK hrec_qaK)) (L := jnL) (zaab (bs := []) (by kernel_rfl) trivial) (fun _ => rfl) (by intro i qs r h; unfold qaK_enc3 at h; split at h <;> cases h <;> rfl)
    (by intro ls r h; unfold qaK_rec3 at h; split at h <;> cases h)
    (by intro n ls r h; unfold qaK_rec3 at h; split at h; exact (show _ = qaK_t3 rec_qaK (qaK_i3 rec_qaK n) _ _ _ _ _ _ from by kernel_rfl).trans h; cases h) (by rw [qaK_l3, zaaa])
def qaK_L (rec_qaK : TExpr → Option (Int)) : Nat → Option (Lift.Loop U) := fun n => bif Nat.beq n zaap then some zaam else bif Nat.beq n 3 then some (qaK_lp3 rec_qaK) else none
def qaK_enc : Nat → List (TV U) → Option (Int)
  | 0, [⟨(.int .i64), a0⟩] => some a0
  | _, _ => none
def qaK_dec : Int → Nat × List (TV U) := fun x => (0, [⟨(.int .i64), x⟩])
def qaK_md : Mode U := qaK_rmd qaK
theorem qaK_step (rec_qaK : TExpr → Option (Int)) (hrec_qaK : zaad kk env0 55 (qaK_rmd rec_qaK)) : zaau (Kit.withModes kk (zaae (ms89 rec_qaK))) env0 Tryz.f55.ntmps (qaK_L rec_qaK) (zaag Tryz.f55) := zaab (bs := [qaK_b3]) (by kernel_rfl) ⟨.inr ⟨_, by kernel_rfl, zaak.of_round (qaK_ok3 rec_qaK hrec_qaK)⟩, trivial⟩
theorem qaK_post : zaad kk env0 55 (qaK_rmd qaK) :=
  zabr (K := kk) (F := qaK) qaK_rmd qaK_i (by rw [qaK, zaaa]) (zaa5 (by intro ls r h; unfold qaK_in at h; split at h <;> cases h)) (fun n ih => fn_of (fn := Tryz.f55) qaK_enc qaK_dec (zaac eqOk mixed (known89 (qaK_i n) ih)) (by kernel_rfl) (qaK_step (qaK_i n) ih) (fun _ => rfl) (by intro i qs r h; unfold qaK_enc at h; split at h <;> cases h <;> rfl)
    (by intro ls r h; unfold qaK_in at h; split at h; exact (show _ = qaK_f (qaK_i n) _ from by kernel_rfl).trans h; cases h))
def ms90 : List (FuncId × Mode U) := (55, qaK_md) :: ms88
theorem known90 : Known kk env0 (zaae ms90) := known_cons (by kernel_rfl) qaK_post known88
def qaO_sh : StSh := ⟨⟨[0, 1], [], []⟩, [.t (.slc (.st 78)), .t (.int .i64)], []⟩
def qaO_os : List StSh := [⟨⟨[0], [], []⟩, [.t (.int .i64)], []⟩]
def qaO_tr : Int → Tr (Nat × List (TV U)) := fun x => .ret (0, [⟨(.int .i64), x⟩])
def qaO_in (rec_qaO : List TStmt → Int → Option (Int)) : List (TV U) → Option (Int)
  | [⟨(.slc (.st 78)), a0⟩, ⟨(.int .i64), a1⟩] => rec_qaO a0 a1
  | _ => none
def qaO_rmd (rec_qaO : List TStmt → Int → Option (Int)) : Mode U := ⟨qaO_sh, [], qaO_os, fun ls => .get (qaO_in rec_qaO ls) qaO_tr⟩
def ms91 (rec_qaO : List TStmt → Int → Option (Int)) : List (FuncId × Mode U) := (40, (qaO_rmd rec_qaO)) :: ms90
theorem known91 (rec_qaO : List TStmt → Int → Option (Int)) (hrec_qaO : zaad kk env0 40 (qaO_rmd rec_qaO)) : Known kk env0 (zaae (ms91 rec_qaO)) := known_cons (by kernel_rfl) hrec_qaO known90
def qaO_sh3 : StSh := ⟨⟨[0, 1, 5, 6], [], []⟩, [.t (.slc (.st 78)), .t (.int .i64), .t (.int .i64), .t (.int .i64)], []⟩
def qaO_o3 : List Out := [⟨.exit 0, ⟨⟨[5], [], []⟩, [.t (.int .i64)], []⟩⟩]
def qaO_b3 : Code := (zaai (zaag Tryz.f40) 0)
def qaO_rec3 (rec : List TStmt → Int → Int → Int → Option (Int)) : List (TV U) → Option (Int)
  | [⟨(.slc (.st 78)), a0⟩, ⟨(.int .i64), a1⟩, ⟨(.int .i64), a2⟩, ⟨(.int .i64), a3⟩] => rec a0 a1 a2 a3
  | _ => none
def qaO_enc3 : Nat → List (TV U) → Option (Int)
  | 0, [⟨(.int .i64), a0⟩] => some a0
  | _, _ => none
def qaO_dec3 : Int → Nat × List (TV U) := fun x => (0, [⟨(.int .i64), x⟩])
def qaO_tr3 : Int → Tr (Nat × List (TV U)) := fun x => .ret (0, [⟨(.int .i64), x⟩])
def qaO_lp3 (rec_qaO : List TStmt → Int → Option (Int)) : Lift.Loop U := ⟨qaO_sh3, qaO_o3, fun ls => .get (qaO_rec3 (qaO_l3 rec_qaO) ls) qaO_tr3⟩
theorem qaO_ok3 (rec_qaO : List TStmt → Int → Option (Int)) (hrec_qaO : zaad kk env0 40 (qaO_rmd rec_qaO)) : LoopR kk env0 Tryz.f40.ntmps qaO_b3 (qaO_lp3 rec_qaO) :=
  zaaj qaO_enc3 qaO_dec3 (fun n => qaO_rec3 (qaO_i3 rec_qaO n)) (zaac eqOk mixed (known91 rec_qaO hrec_qaO)) (L := jnL) (zaab (bs := []) (by kernel_rfl) trivial) (fun _ => rfl) (by intro i qs r h; unfold qaO_enc3 at h; split at h <;> cases h <;> rfl)
    (by intro ls r h; unfold qaO_rec3 at h; split at h <;> cases h)
    (by intro n ls r h; unfold qaO_rec3 at h; split at h; exact (show _ = qaO_t3 rec_qaO (qaO_i3 rec_qaO n) _ _ _ _ from by kernel_rfl).trans h; cases h) (by rw [qaO_l3, zaaa])
def qaO_L (rec_qaO : List TStmt → Int → Option (Int)) : Nat → Option (Lift.Loop U) := fun n => bif Nat.beq n zaap then some zaam else bif Nat.beq n 3 then some (qaO_lp3 rec_qaO) else none
def qaO_enc : Nat → List (TV U) → Option (Int)
  | 0, [⟨(.int .i64), a0⟩] => some a0
  | _, _ => none
def qaO_dec : Int → Nat × List (TV U) := fun x => (0, [⟨(.int .i64), x⟩])
def qaO_md : Mode U := qaO_rmd qaO
theorem qaO_step (rec_qaO : List TStmt → Int → Option (Int)) (hrec_qaO : zaad kk env0 40 (qaO_rmd rec_qaO)) : zaau (Kit.withModes kk (zaae (ms91 rec_qaO))) env0 Tryz.f40.ntmps (qaO_L rec_qaO) (zaag Tryz.f40) := zaab (bs := [qaO_b3]) (by kernel_rfl) ⟨.inr ⟨_, by kernel_rfl, zaak.of_round (qaO_ok3 rec_qaO hrec_qaO)⟩, trivial⟩
theorem qaO_post : zaad kk env0 40 (qaO_rmd qaO) :=
  zabr (K := kk) (F := qaO) qaO_rmd qaO_i (by rw [qaO, zaaa]) (zaa5 (by intro ls r h; unfold qaO_in at h; split at h <;> cases h)) (fun n ih => fn_of (fn := Tryz.f40) qaO_enc qaO_dec (zaac eqOk mixed (known91 (qaO_i n) ih)) (by kernel_rfl) (qaO_step (qaO_i n) ih) (fun _ => rfl) (by intro i qs r h; unfold qaO_enc at h; split at h <;> cases h <;> rfl)
    (by intro ls r h; unfold qaO_in at h; split at h; exact (show _ = qaO_f (qaO_i n) _ _ from by kernel_rfl).trans h; cases h))
def ms92 : List (FuncId × Mode U) := (40, qaO_md) :: ms90
theorem known92 : Known kk env0 (zaae ms92) := known_cons (by kernel_rfl) qaO_post known90
def qaI_sh3 : StSh := ⟨⟨[1, 3, 4], [1], []⟩, [.ptr 1 0, .t (.int .i64), .t (.int .i64)], [.blk 44 [.t (.slc (.st 73)), .t (.slc .str), .t (.slc (.st 53))]]⟩
def qaI_o3 : List Out := [⟨.exit 0, ⟨⟨[3], [], []⟩, [.t (.int .i64)], []⟩⟩]
def qaI_b3 : Code := (zaai (zaag Tryz.f27) 0)
def qaI_rec3 (rec : Int → Int → List TCell → List (List UInt8) → List TThread → Option (Int)) : List (TV U) → Option (Int)
  | [⟨(.int .i64), a0⟩, ⟨(.int .i64), a1⟩, ⟨(.slc (.st 73)), a2⟩, ⟨(.slc .str), a3⟩, ⟨(.slc (.st 53)), a4⟩] => rec a0 a1 a2 a3 a4
  | _ => none
def qaI_enc3 : Nat → List (TV U) → Option (Int)
  | 0, [⟨(.int .i64), a0⟩] => some a0
  | _, _ => none
def qaI_dec3 : Int → Nat × List (TV U) := fun x => (0, [⟨(.int .i64), x⟩])
def qaI_tr3 : Int → Tr (Nat × List (TV U)) := fun x => .ret (0, [⟨(.int .i64), x⟩])
def qaI_lp3 : Lift.Loop U := ⟨qaI_sh3, qaI_o3, fun ls => .get (qaI_rec3 qaI_l3 ls) qaI_tr3⟩
theorem qaI_ok3 : LoopR kk env0 Tryz.f27.ntmps qaI_b3 qaI_lp3 :=
  zaaj qaI_enc3 qaI_dec3 (fun n => qaI_rec3 (qaI_i3 n)) (zaac eqOk mixed known92) (L := jnL) (zaab (bs := []) (by kernel_rfl) trivial) (fun _ => rfl) (by intro i qs r h; unfold qaI_enc3 at h; split at h <;> cases h <;> rfl)
    (by intro ls r h; unfold qaI_rec3 at h; split at h <;> cases h)
    (by intro n ls r h; unfold qaI_rec3 at h; split at h; exact (show _ = qaI_t3 (qaI_i3 n) _ _ _ _ _ from by kernel_rfl).trans h; cases h) (by rw [qaI_l3, zaaa])
def qaI_sh : StSh := ⟨⟨[0], [], []⟩, [.t (.st 44)], []⟩
def qaI_os : List StSh := [⟨⟨[0], [], []⟩, [.t (.int .i64)], []⟩]
def qaI_tr : Int → Tr (Nat × List (TV U)) := fun x => .ret (0, [⟨(.int .i64), x⟩])
def qaI_L : Nat → Option (Lift.Loop U) := fun n => bif Nat.beq n zaap then some zaam else bif Nat.beq n 3 then some qaI_lp3 else none
def qaI_enc : Nat → List (TV U) → Option (Int)
  | 0, [⟨(.int .i64), a0⟩] => some a0
  | _, _ => none
def qaI_dec : Int → Nat × List (TV U) := fun x => (0, [⟨(.int .i64), x⟩])
def qaI_in : List (TV U) → Option (Int)
  | [⟨(.st 44), a0⟩] => qaI a0
  | _ => none
def qaI_md : Mode U := ⟨qaI_sh, [], qaI_os, fun ls => .get (qaI_in ls) qaI_tr⟩
theorem qaI_post : zaad kk env0 27 qaI_md :=
  fn_of (fn := Tryz.f27) qaI_enc qaI_dec (zaac eqOk mixed known92) (by kernel_rfl) (L := qaI_L) (zaab (bs := [qaI_b3]) (by kernel_rfl) ⟨.inr ⟨_, by kernel_rfl, zaak.of_round (qaI_ok3)⟩, trivial⟩) (fun _ => rfl) (by intro i qs r h; unfold qaI_enc at h; split at h <;> cases h <;> rfl)
    (by intro ls r h; unfold qaI_in at h; split at h; rw [qaI, zaaa] at h; exact Eq.trans (by kernel_rfl) h; cases h)
def ms93 : List (FuncId × Mode U) := (27, qaI_md) :: ms92
theorem known93 : Known kk env0 (zaae ms93) := known_cons (by kernel_rfl) qaI_post known92
def qaJ_sh : StSh := ⟨⟨[0], [], []⟩, [.t (.st 57)], []⟩
def qaJ_os : List StSh := [⟨⟨[0], [], []⟩, [.t (.int .i64)], []⟩]
def qaJ_tr : Int → Tr (Nat × List (TV U)) := fun x => .ret (0, [⟨(.int .i64), x⟩])
def qaJ_in (rec_qaJ : TExpr → Option (Int)) : List (TV U) → Option (Int)
  | [⟨(.st 57), a0⟩] => rec_qaJ a0
  | _ => none
def qaJ_rmd (rec_qaJ : TExpr → Option (Int)) : Mode U := ⟨qaJ_sh, [], qaJ_os, fun ls => .get (qaJ_in rec_qaJ ls) qaJ_tr⟩
def ms94 (rec_qaJ : TExpr → Option (Int)) : List (FuncId × Mode U) := (42, (qaJ_rmd rec_qaJ)) :: ms93
theorem known94 (rec_qaJ : TExpr → Option (Int)) (hrec_qaJ : zaad kk env0 42 (qaJ_rmd rec_qaJ)) : Known kk env0 (zaae (ms94 rec_qaJ)) := known_cons (by kernel_rfl) hrec_qaJ known93
def qaJ_sh3 : StSh := ⟨⟨[1, 3, 4], [1], []⟩, [.ptr 1 0, .t (.int .i64), .t (.int .i64)], [.blk 57 [.t (.int .i64), .t (.int .i64), .t .str, .t (.slc (.st 57))]]⟩
def qaJ_o3 : List Out := [⟨.exit 0, ⟨⟨[3], [], []⟩, [.t (.int .i64)], []⟩⟩]
def qaJ_b3 : Code := (zaai (zaag Tryz.f42) 0)
def qaJ_rec3 (rec : Int → Int → Int → Int → List UInt8 → List TExpr → Option (Int)) : List (TV U) → Option (Int)
  | [⟨(.int .i64), a0⟩, ⟨(.int .i64), a1⟩, ⟨(.int .i64), a2⟩, ⟨(.int .i64), a3⟩, ⟨.str, a4⟩, ⟨(.slc (.st 57)), a5⟩] => rec a0 a1 a2 a3 a4 a5
  | _ => none
def qaJ_enc3 : Nat → List (TV U) → Option (Int)
  | 0, [⟨(.int .i64), a0⟩] => some a0
  | _, _ => none
def qaJ_dec3 : Int → Nat × List (TV U) := fun x => (0, [⟨(.int .i64), x⟩])
def qaJ_tr3 : Int → Tr (Nat × List (TV U)) := fun x => .ret (0, [⟨(.int .i64), x⟩])
def qaJ_lp3 (rec_qaJ : TExpr → Option (Int)) : Lift.Loop U := ⟨qaJ_sh3, qaJ_o3, fun ls => .get (qaJ_rec3 (qaJ_l3 rec_qaJ) ls) qaJ_tr3⟩
theorem qaJ_ok3 (rec_qaJ : TExpr → Option (Int)) (hrec_qaJ : zaad kk env0 42 (qaJ_rmd rec_qaJ)) : LoopR kk env0 Tryz.f42.ntmps qaJ_b3 (qaJ_lp3 rec_qaJ) :=
  zaaj qaJ_enc3 qaJ_dec3 (fun n => qaJ_rec3 (qaJ_i3 rec_qaJ n)) (zaac eqOk mixed (known94 rec_qaJ hrec_qaJ)) (L := jnL) (zaab (bs := []) (by kernel_rfl) trivial) (fun _ => rfl) (by intro i qs r h; unfold qaJ_enc3 at h; split at h <;> cases h <;> rfl)
    (by intro ls r h; unfold qaJ_rec3 at h; split at h <;> cases h)
    (by intro n ls r h; unfold qaJ_rec3 at h; split at h; exact (show _ = qaJ_t3 rec_qaJ (qaJ_i3 rec_qaJ n) _ _ _ _ _ _ from by kernel_rfl).trans h; cases h) (by rw [qaJ_l3, zaaa])
def qaJ_L (rec_qaJ : TExpr → Option (Int)) : Nat → Option (Lift.Loop U) := fun n => bif Nat.beq n zaap then some zaam else bif Nat.beq n 3 then some (qaJ_lp3 rec_qaJ) else none
def qaJ_enc : Nat → List (TV U) → Option (Int)
  | 0, [⟨(.int .i64), a0⟩] => some a0
  | _, _ => none
def qaJ_dec : Int → Nat × List (TV U) := fun x => (0, [⟨(.int .i64), x⟩])
def qaJ_md : Mode U := qaJ_rmd qaJ
theorem qaJ_step (rec_qaJ : TExpr → Option (Int)) (hrec_qaJ : zaad kk env0 42 (qaJ_rmd rec_qaJ)) : zaau (Kit.withModes kk (zaae (ms94 rec_qaJ))) env0 Tryz.f42.ntmps (qaJ_L rec_qaJ) (zaag Tryz.f42) := zaab (bs := [qaJ_b3]) (by kernel_rfl) ⟨.inr ⟨_, by kernel_rfl, zaak.of_round (qaJ_ok3 rec_qaJ hrec_qaJ)⟩, trivial⟩
theorem qaJ_post : zaad kk env0 42 (qaJ_rmd qaJ) :=
  zabr (K := kk) (F := qaJ) qaJ_rmd qaJ_i (by rw [qaJ, zaaa]) (zaa5 (by intro ls r h; unfold qaJ_in at h; split at h <;> cases h)) (fun n ih => fn_of (fn := Tryz.f42) qaJ_enc qaJ_dec (zaac eqOk mixed (known94 (qaJ_i n) ih)) (by kernel_rfl) (qaJ_step (qaJ_i n) ih) (fun _ => rfl) (by intro i qs r h; unfold qaJ_enc at h; split at h <;> cases h <;> rfl)
    (by intro ls r h; unfold qaJ_in at h; split at h; exact (show _ = qaJ_f (qaJ_i n) _ from by kernel_rfl).trans h; cases h))
def ms95 : List (FuncId × Mode U) := (42, qaJ_md) :: ms93
theorem known95 : Known kk env0 (zaae ms95) := known_cons (by kernel_rfl) qaJ_post known93
def qaN_sh : StSh := ⟨⟨[0], [], []⟩, [.t (.slc (.st 78))], []⟩
def qaN_os : List StSh := [⟨⟨[0], [], []⟩, [.t (.int .i64)], []⟩]
def qaN_tr : Int → Tr (Nat × List (TV U)) := fun x => .ret (0, [⟨(.int .i64), x⟩])
def qaN_in (rec_qaN : List TStmt → Option (Int)) : List (TV U) → Option (Int)
  | [⟨(.slc (.st 78)), a0⟩] => rec_qaN a0
  | _ => none
def qaN_rmd (rec_qaN : List TStmt → Option (Int)) : Mode U := ⟨qaN_sh, [], qaN_os, fun ls => .get (qaN_in rec_qaN ls) qaN_tr⟩
def ms96 (rec_qaN : List TStmt → Option (Int)) : List (FuncId × Mode U) := (28, (qaN_rmd rec_qaN)) :: ms95
theorem known96 (rec_qaN : List TStmt → Option (Int)) (hrec_qaN : zaad kk env0 28 (qaN_rmd rec_qaN)) : Known kk env0 (zaae (ms96 rec_qaN)) := known_cons (by kernel_rfl) hrec_qaN known95
def qaN_sh3 : StSh := ⟨⟨[0, 3, 4], [], []⟩, [.t (.slc (.st 78)), .t (.int .i64), .t (.int .i64)], []⟩
def qaN_o3 : List Out := [⟨.exit 0, ⟨⟨[3], [], []⟩, [.t (.int .i64)], []⟩⟩]
def qaN_b3 : Code := (zaai (zaag Tryz.f28) 0)
def qaN_rec3 (rec : List TStmt → Int → Int → Option (Int)) : List (TV U) → Option (Int)
  | [⟨(.slc (.st 78)), a0⟩, ⟨(.int .i64), a1⟩, ⟨(.int .i64), a2⟩] => rec a0 a1 a2
  | _ => none
def qaN_enc3 : Nat → List (TV U) → Option (Int)
  | 0, [⟨(.int .i64), a0⟩] => some a0
  | _, _ => none
def qaN_dec3 : Int → Nat × List (TV U) := fun x => (0, [⟨(.int .i64), x⟩])
def qaN_tr3 : Int → Tr (Nat × List (TV U)) := fun x => .ret (0, [⟨(.int .i64), x⟩])
def qaN_lp3 (rec_qaN : List TStmt → Option (Int)) : Lift.Loop U := ⟨qaN_sh3, qaN_o3, fun ls => .get (qaN_rec3 (qaN_l3 rec_qaN) ls) qaN_tr3⟩
theorem qaN_ok3 (rec_qaN : List TStmt → Option (Int)) (hrec_qaN : zaad kk env0 28 (qaN_rmd rec_qaN)) : LoopR kk env0 Tryz.f28.ntmps qaN_b3 (qaN_lp3 rec_qaN) :=
  zaaj qaN_enc3 qaN_dec3 (fun n => qaN_rec3 (qaN_i3 rec_qaN n)) (zaac eqOk mixed (known96 rec_qaN hrec_qaN)) (L := jnL) (zaab (bs := []) (by kernel_rfl) trivial) (fun _ => rfl) (by intro i qs r h; unfold qaN_enc3 at h; split at h <;> cases h <;> rfl)
    (by intro ls r h; unfold qaN_rec3 at h; split at h <;> cases h)
    (by intro n ls r h; unfold qaN_rec3 at h; split at h; exact (show _ = qaN_t3 rec_qaN (qaN_i3 rec_qaN n) _ _ _ from by kernel_rfl).trans h; cases h) (by rw [qaN_l3, zaaa])
def qaN_L (rec_qaN : List TStmt → Option (Int)) : Nat → Option (Lift.Loop U) := fun n => bif Nat.beq n zaap then some zaam else bif Nat.beq n 3 then some (qaN_lp3 rec_qaN) else none
def qaN_enc : Nat → List (TV U) → Option (Int)
  | 0, [⟨(.int .i64), a0⟩] => some a0
  | _, _ => none
def qaN_dec : Int → Nat × List (TV U) := fun x => (0, [⟨(.int .i64), x⟩])
def qaN_md : Mode U := qaN_rmd qaN
theorem qaN_step (rec_qaN : List TStmt → Option (Int)) (hrec_qaN : zaad kk env0 28 (qaN_rmd rec_qaN)) : zaau (Kit.withModes kk (zaae (ms96 rec_qaN))) env0 Tryz.f28.ntmps (qaN_L rec_qaN) (zaag Tryz.f28) := zaab (bs := [qaN_b3]) (by kernel_rfl) ⟨.inr ⟨_, by kernel_rfl, zaak.of_round (qaN_ok3 rec_qaN hrec_qaN)⟩, trivial⟩
theorem qaN_post : zaad kk env0 28 (qaN_rmd qaN) :=
  zabr (K := kk) (F := qaN) qaN_rmd qaN_i (by rw [qaN, zaaa]) (zaa5 (by intro ls r h; unfold qaN_in at h; split at h <;> cases h)) (fun n ih => fn_of (fn := Tryz.f28) qaN_enc qaN_dec (zaac eqOk mixed (known96 (qaN_i n) ih)) (by kernel_rfl) (qaN_step (qaN_i n) ih) (fun _ => rfl) (by intro i qs r h; unfold qaN_enc at h; split at h <;> cases h <;> rfl)
    (by intro ls r h; unfold qaN_in at h; split at h; exact (show _ = qaN_f (qaN_i n) _ from by kernel_rfl).trans h; cases h))
def ms97 : List (FuncId × Mode U) := (28, qaN_md) :: ms95
theorem known97 : Known kk env0 (zaae ms97) := known_cons (by kernel_rfl) qaN_post known95
def qaH_sh3 : StSh := ⟨⟨[1, 3, 4], [1], []⟩, [.ptr 1 0, .t (.int .i64), .t (.int .i64)], [.blk 44 [.t (.slc (.st 73)), .t (.slc .str), .t (.slc (.st 53))]]⟩
def qaH_o3 : List Out := [⟨.exit 0, ⟨⟨[3], [], []⟩, [.t (.int .i64)], []⟩⟩]
def qaH_b3 : Code := (zaai (zaag Tryz.f14) 0)
def qaH_rec3 (rec : Int → Int → List TCell → List (List UInt8) → List TThread → Option (Int)) : List (TV U) → Option (Int)
  | [⟨(.int .i64), a0⟩, ⟨(.int .i64), a1⟩, ⟨(.slc (.st 73)), a2⟩, ⟨(.slc .str), a3⟩, ⟨(.slc (.st 53)), a4⟩] => rec a0 a1 a2 a3 a4
  | _ => none
def qaH_enc3 : Nat → List (TV U) → Option (Int)
  | 0, [⟨(.int .i64), a0⟩] => some a0
  | _, _ => none
def qaH_dec3 : Int → Nat × List (TV U) := fun x => (0, [⟨(.int .i64), x⟩])
def qaH_tr3 : Int → Tr (Nat × List (TV U)) := fun x => .ret (0, [⟨(.int .i64), x⟩])
def qaH_lp3 : Lift.Loop U := ⟨qaH_sh3, qaH_o3, fun ls => .get (qaH_rec3 qaH_l3 ls) qaH_tr3⟩
theorem qaH_ok3 : LoopR kk env0 Tryz.f14.ntmps qaH_b3 qaH_lp3 :=
  zaaj qaH_enc3 qaH_dec3 (fun n => qaH_rec3 (qaH_i3 n)) (zaac eqOk mixed known97) (L := jnL) (zaab (bs := []) (by kernel_rfl) trivial) (fun _ => rfl) (by intro i qs r h; unfold qaH_enc3 at h; split at h <;> cases h <;> rfl)
    (by intro ls r h; unfold qaH_rec3 at h; split at h <;> cases h)
    (by intro n ls r h; unfold qaH_rec3 at h; split at h; exact (show _ = qaH_t3 (qaH_i3 n) _ _ _ _ _ from by kernel_rfl).trans h; cases h) (by rw [qaH_l3, zaaa])
def qaH_sh : StSh := ⟨⟨[0], [], []⟩, [.t (.st 44)], []⟩
def qaH_os : List StSh := [⟨⟨[0], [], []⟩, [.t (.int .i64)], []⟩]
def qaH_tr : Int → Tr (Nat × List (TV U)) := fun x => .ret (0, [⟨(.int .i64), x⟩])
def qaH_L : Nat → Option (Lift.Loop U) := fun n => bif Nat.beq n zaap then some zaam else bif Nat.beq n 3 then some qaH_lp3 else none
def qaH_enc : Nat → List (TV U) → Option (Int)
  | 0, [⟨(.int .i64), a0⟩] => some a0
  | _, _ => none
def qaH_dec : Int → Nat × List (TV U) := fun x => (0, [⟨(.int .i64), x⟩])
def qaH_in : List (TV U) → Option (Int)
  | [⟨(.st 44), a0⟩] => qaH a0
  | _ => none
def qaH_md : Mode U := ⟨qaH_sh, [], qaH_os, fun ls => .get (qaH_in ls) qaH_tr⟩
theorem qaH_post : zaad kk env0 14 qaH_md :=
  fn_of (fn := Tryz.f14) qaH_enc qaH_dec (zaac eqOk mixed known97) (by kernel_rfl) (L := qaH_L) (zaab (bs := [qaH_b3]) (by kernel_rfl) ⟨.inr ⟨_, by kernel_rfl, zaak.of_round (qaH_ok3)⟩, trivial⟩) (fun _ => rfl) (by intro i qs r h; unfold qaH_enc at h; split at h <;> cases h <;> rfl)
    (by intro ls r h; unfold qaH_in at h; split at h; rw [qaH, zaaa] at h; exact Eq.trans (by kernel_rfl) h; cases h)
def ms98 : List (FuncId × Mode U) := (14, qaH_md) :: ms97
theorem known98 : Known kk env0 (zaae ms98) := known_cons (by kernel_rfl) qaH_post known97
def qaR_sh4 : StSh := ⟨⟨[1, 3], [1], []⟩, [.ptr 1 0, .t (.int .i64)], [.blk 25 [.t (.slc (.int .i64)), .t (.int .i64), .t (.slc (.st 51))]]⟩
def qaR_o4 : List Out := [⟨.ret, ⟨⟨[2], [], []⟩, [.t .bool], []⟩⟩, ⟨.exit 0, ⟨⟨[1], [1], []⟩, [.ptr 1 0], [.blk 25 [.t (.slc (.int .i64)), .t (.int .i64), .t (.slc (.st 51))]]⟩⟩]
def qaR_b4 : Code := (zaai (zaag Tryz.f12) 0)
def qaR_rec4 (rec : Int → List Int → Int → List TBody → Option ((Bool) ⊕ ((List Int) × Int × (List TBody)))) : List (TV U) → Option ((Bool) ⊕ ((List Int) × Int × (List TBody)))
  | [⟨(.int .i64), a0⟩, ⟨(.slc (.int .i64)), a1⟩, ⟨(.int .i64), a2⟩, ⟨(.slc (.st 51)), a3⟩] => rec a0 a1 a2 a3
  | _ => none
def qaR_enc4 : Nat → List (TV U) → Option ((Bool) ⊕ ((List Int) × Int × (List TBody)))
  | 0, [⟨.bool, a0⟩] => some (.inl a0)
  | 1, [⟨(.slc (.int .i64)), a0⟩, ⟨(.int .i64), a1⟩, ⟨(.slc (.st 51)), a2⟩] => some (.inr (a0, a1, a2))
  | _, _ => none
def qaR_dec4 : (Bool) ⊕ ((List Int) × Int × (List TBody)) → Nat × List (TV U) := fun r => match r with | (.inl x) => (0, [⟨.bool, x⟩]) | (.inr x) => (1, [⟨(.slc (.int .i64)), x.1⟩, ⟨(.int .i64), x.2.1⟩, ⟨(.slc (.st 51)), x.2.2⟩])
def qaR_tr4 : (Bool) ⊕ ((List Int) × Int × (List TBody)) → Tr (Nat × List (TV U)) := fun r => .alt r (fun x => .ret (0, [⟨.bool, x⟩])) (fun y => (fun x => .ret (1, [⟨(.slc (.int .i64)), x.1⟩, ⟨(.int .i64), x.2.1⟩, ⟨(.slc (.st 51)), x.2.2⟩])) y)
def qaR_lp4 : Lift.Loop U := ⟨qaR_sh4, qaR_o4, fun ls => .get (qaR_rec4 qaR_l4 ls) qaR_tr4⟩
theorem qaR_ok4 : LoopR kk env0 Tryz.f12.ntmps qaR_b4 qaR_lp4 :=
  zaaj qaR_enc4 qaR_dec4 (fun n => qaR_rec4 (qaR_i4 n)) (zaac eqOk mixed known98) (L := jnL) (zaab (bs := []) (by kernel_rfl) trivial) (by intro r; rcases r with r | r <;> rfl) (by intro i qs r h; unfold qaR_enc4 at h; split at h <;> cases h <;> rfl)
    (by intro ls r h; unfold qaR_rec4 at h; split at h <;> cases h)
    (by intro n ls r h; unfold qaR_rec4 at h; split at h; exact (show _ = qaR_t4 (qaR_i4 n) _ _ _ _ from by kernel_rfl).trans h; cases h) (by rw [qaR_l4, zaaa])
def qaR_sh10 : StSh := ⟨⟨[1, 4, 5], [1, 4], [⟨.cell 4 2, 20202, 53, (.st 53)⟩]⟩, [.ptr 1 0, .ptr 4 0, .t (.int .i64)], [.blk 25 [.t (.slc (.int .i64)), .t (.int .i64), .t (.slc (.st 51))], .blk 44 [.nil, .nil, .oslc 20202], .row 53 (.st 53)]⟩
def qaR_o10 : List Out := [⟨.ret, ⟨⟨[2], [], []⟩, [.t .bool], []⟩⟩, ⟨.exit 2, ⟨⟨[4], [4], [⟨.cell 4 2, 20202, 53, (.st 53)⟩]⟩, [.ptr 4 0], [.blk 44 [.nil, .nil, .oslc 20202], .row 53 (.st 53)]⟩⟩]
def qaR_b10 : Code := (zaai (zaag Tryz.f12) 1)
def qaR_rec10 (rec : Int → List Int → Int → List TBody → List TThread → Option ((Bool) ⊕ ((List TThread)))) : List (TV U) → Option ((Bool) ⊕ ((List TThread)))
  | [⟨(.int .i64), a0⟩, ⟨(.slc (.int .i64)), a1⟩, ⟨(.int .i64), a2⟩, ⟨(.slc (.st 51)), a3⟩, ⟨(.slc (.st 53)), a4⟩] => rec a0 a1 a2 a3 a4
  | _ => none
def qaR_enc10 : Nat → List (TV U) → Option ((Bool) ⊕ ((List TThread)))
  | 0, [⟨.bool, a0⟩] => some (.inl a0)
  | 1, [⟨(.slc (.st 53)), a0⟩] => some (.inr a0)
  | _, _ => none
def qaR_dec10 : (Bool) ⊕ ((List TThread)) → Nat × List (TV U) := fun r => match r with | (.inl x) => (0, [⟨.bool, x⟩]) | (.inr x) => (1, [⟨(.slc (.st 53)), x⟩])
def qaR_tr10 : (Bool) ⊕ ((List TThread)) → Tr (Nat × List (TV U)) := fun r => .alt r (fun x => .ret (0, [⟨.bool, x⟩])) (fun y => (fun x => .ret (1, [⟨(.slc (.st 53)), x⟩])) y)
def qaR_lp10 : Lift.Loop U := ⟨qaR_sh10, qaR_o10, fun ls => .get (qaR_rec10 qaR_l10 ls) qaR_tr10⟩
theorem qaR_ok10 : LoopR kk env0 Tryz.f12.ntmps qaR_b10 qaR_lp10 :=
  zaaj qaR_enc10 qaR_dec10 (fun n => qaR_rec10 (qaR_i10 n)) (zaac eqOk mixed known98) (L := jnL) (zaab (bs := []) (by kernel_rfl) trivial) (by intro r; rcases r with r | r <;> rfl) (by intro i qs r h; unfold qaR_enc10 at h; split at h <;> cases h <;> rfl)
    (by intro ls r h; unfold qaR_rec10 at h; split at h <;> cases h)
    (by intro n ls r h; unfold qaR_rec10 at h; split at h; exact (show _ = qaR_t10 (qaR_i10 n) _ _ _ _ _ from by kernel_rfl).trans h; cases h) (by rw [qaR_l10, zaaa])
def qaR_sh : StSh := ⟨⟨[0], [], []⟩, [.t (.st 25)], []⟩
def qaR_os : List StSh := [⟨⟨[0], [], []⟩, [.t .bool], []⟩]
def qaR_tr : Bool → Tr (Nat × List (TV U)) := fun x => .ret (0, [⟨.bool, x⟩])
def qaR_L : Nat → Option (Lift.Loop U) := fun n => bif Nat.beq n zaap then some zaam else bif Nat.beq n 4 then some qaR_lp4 else bif Nat.beq n 10 then some qaR_lp10 else none
def qaR_enc : Nat → List (TV U) → Option (Bool)
  | 0, [⟨.bool, a0⟩] => some a0
  | _, _ => none
def qaR_dec : Bool → Nat × List (TV U) := fun x => (0, [⟨.bool, x⟩])
def qaR_in : List (TV U) → Option (Bool)
  | [⟨(.st 25), a0⟩] => qaR a0
  | _ => none
def qaR_md : Mode U := ⟨qaR_sh, [], qaR_os, fun ls => .get (qaR_in ls) qaR_tr⟩
theorem qaR_post : zaad kk env0 12 qaR_md :=
  fn_of (fn := Tryz.f12) qaR_enc qaR_dec (zaac eqOk mixed known98) (by kernel_rfl) (L := qaR_L) (zaab (bs := [qaR_b4, qaR_b10]) (by kernel_rfl) ⟨.inr ⟨_, by kernel_rfl, zaak.of_round (qaR_ok4)⟩, .inr ⟨_, by kernel_rfl, zaak.of_round (qaR_ok10)⟩, trivial⟩) (fun _ => rfl) (by intro i qs r h; unfold qaR_enc at h; split at h <;> cases h <;> rfl)
    (by intro ls r h; unfold qaR_in at h; split at h; rw [qaR, zaaa] at h; exact Eq.trans (by kernel_rfl) h; cases h)
def ms99 : List (FuncId × Mode U) := (12, qaR_md) :: ms98
theorem known99 : Known kk env0 (zaae ms99) := known_cons (by kernel_rfl) qaR_post known98
def qa4_sh : StSh := ⟨⟨[0, 1, 2, 3, 4], [100000], [⟨.cell 100000 1, 200001, 38, (.st 38)⟩]⟩, [.ptr 100000 0, .t (.int .i64), .t (.int .i64), .t (.int .i64), .t (.int .i64)], [.blk 62 [.t (.int .i64), .oslc 200001], .row 38 (.st 38)]⟩
def qa4_os : List StSh := [⟨⟨[0], [100000], [⟨.cell 100000 1, 200001, 38, (.st 38)⟩]⟩, [.t (.int .i64)], [.blk 62 [.t (.int .i64), .oslc 200001], .row 38 (.st 38)]⟩]
def qa4_tr : Int × Int × (List Instr) → Tr (Nat × List (TV U)) := fun x => .ret (0, [⟨(.int .i64), x.1⟩, ⟨(.int .i64), x.2.1⟩, ⟨(.slc (.st 38)), x.2.2⟩])
def qa4_enc : Nat → List (TV U) → Option (Int × Int × (List Instr))
  | 0, [⟨(.int .i64), a0⟩, ⟨(.int .i64), a1⟩, ⟨(.slc (.st 38)), a2⟩] => some (a0, a1, a2)
  | _, _ => none
def qa4_dec : Int × Int × (List Instr) → Nat × List (TV U) := fun x => (0, [⟨(.int .i64), x.1⟩, ⟨(.int .i64), x.2.1⟩, ⟨(.slc (.st 38)), x.2.2⟩])
def qa4_in : List (TV U) → Option (Int × Int × (List Instr))
  | [⟨(.int .i64), a0⟩, ⟨(.int .i64), a1⟩, ⟨(.int .i64), a2⟩, ⟨(.int .i64), a3⟩, ⟨(.int .i64), a4⟩, ⟨(.slc (.st 38)), a5⟩] => qa4 a0 a1 a2 a3 a4 a5
  | _ => none
def qa4_md : Mode U := ⟨qa4_sh, [⟨100000, .slot 0, []⟩], qa4_os, fun ls => .get (qa4_in ls) qa4_tr⟩
theorem qa4_post : zaad kk env0 16 qa4_md :=
  fn_of (fn := Tryz.f16) qa4_enc qa4_dec (zaac eqOk mixed known99) (by kernel_rfl) (L := jnL) (zaab (bs := []) (by kernel_rfl) trivial) (fun _ => rfl) (by intro i qs r h; unfold qa4_enc at h; split at h <;> cases h <;> rfl)
    (by intro ls r h; unfold qa4_in at h; split at h; rw [qa4, zaaa] at h; exact Eq.trans (by kernel_rfl) h; cases h)
def ms100 : List (FuncId × Mode U) := (16, qa4_md) :: ms99
theorem known100 : Known kk env0 (zaae ms100) := known_cons (by kernel_rfl) qa4_post known99
def qa3_sh : StSh := ⟨⟨[0, 1, 2], [100000], [⟨.cell 100000 1, 200001, 38, (.st 38)⟩]⟩, [.ptr 100000 0, .t (.st 57), .t (.int .i64)], [.blk 62 [.t (.int .i64), .oslc 200001], .row 38 (.st 38)]⟩
def qa3_os : List StSh := [⟨⟨[], [100000], [⟨.cell 100000 1, 200001, 38, (.st 38)⟩]⟩, [], [.blk 62 [.t (.int .i64), .oslc 200001], .row 38 (.st 38)]⟩]
def qa3_tr : Int × (List Instr) → Tr (Nat × List (TV U)) := fun x => .ret (0, [⟨(.int .i64), x.1⟩, ⟨(.slc (.st 38)), x.2⟩])
def qa3_in (rec_qa3 : TExpr → Int → Int → List Instr → Option (Int × (List Instr))) : List (TV U) → Option (Int × (List Instr))
  | [⟨(.st 57), a0⟩, ⟨(.int .i64), a1⟩, ⟨(.int .i64), a2⟩, ⟨(.slc (.st 38)), a3⟩] => rec_qa3 a0 a1 a2 a3
  | _ => none
def qa3_rmd (rec_qa3 : TExpr → Int → Int → List Instr → Option (Int × (List Instr))) : Mode U := ⟨qa3_sh, [⟨100000, .slot 0, []⟩], qa3_os, fun ls => .get (qa3_in rec_qa3 ls) qa3_tr⟩
def ms101 (rec_qa3 : TExpr → Int → Int → List Instr → Option (Int × (List Instr))) : List (FuncId × Mode U) := (29, (qa3_rmd rec_qa3)) :: ms100
theorem known101 (rec_qa3 : TExpr → Int → Int → List Instr → Option (Int × (List Instr))) (hrec_qa3 : zaad kk env0 29 (qa3_rmd rec_qa3)) : Known kk env0 (zaae (ms101 rec_qa3)) := known_cons (by kernel_rfl) hrec_qa3 known100
def qa3_enc : Nat → List (TV U) → Option (Int × (List Instr))
  | 0, [⟨(.int .i64), a0⟩, ⟨(.slc (.st 38)), a1⟩] => some (a0, a1)
  | _, _ => none
def qa3_dec : Int × (List Instr) → Nat × List (TV U) := fun x => (0, [⟨(.int .i64), x.1⟩, ⟨(.slc (.st 38)), x.2⟩])
def qa3_md : Mode U := qa3_rmd qa3
theorem qa3_step (rec_qa3 : TExpr → Int → Int → List Instr → Option (Int × (List Instr))) (hrec_qa3 : zaad kk env0 29 (qa3_rmd rec_qa3)) : zaau (Kit.withModes kk (zaae (ms101 rec_qa3))) env0 Tryz.f29.ntmps jnL (zaag Tryz.f29) := zaab (bs := []) (by kernel_rfl) trivial
theorem qa3_post : zaad kk env0 29 (qa3_rmd qa3) :=
  zabr (K := kk) (F := qa3) qa3_rmd qa3_i (by rw [qa3, zaaa]) (zaa5 (by intro ls r h; unfold qa3_in at h; split at h <;> cases h)) (fun n ih => fn_of (fn := Tryz.f29) qa3_enc qa3_dec (zaac eqOk mixed (known101 (qa3_i n) ih)) (by kernel_rfl) (qa3_step (qa3_i n) ih) (fun _ => rfl) (by intro i qs r h; unfold qa3_enc at h; split at h <;> cases h <;> rfl)
    (by intro ls r h; unfold qa3_in at h; split at h; exact (show _ = qa3_f (qa3_i n) _ _ _ _ from by kernel_rfl).trans h; cases h))
def ms102 : List (FuncId × Mode U) := (29, qa3_md) :: ms100
theorem known102 : Known kk env0 (zaae ms102) := known_cons (by kernel_rfl) qa3_post known100
def qa1_sh : StSh := ⟨⟨[0, 1, 2], [100000], [⟨.cell 100000 1, 200001, 38, (.st 38)⟩]⟩, [.ptr 100000 0, .t (.slc (.st 59)), .t (.int .i64)], [.blk 62 [.t (.int .i64), .oslc 200001], .row 38 (.st 38)]⟩
def qa1_os : List StSh := [⟨⟨[], [100000], [⟨.cell 100000 1, 200001, 38, (.st 38)⟩]⟩, [], [.blk 62 [.t (.int .i64), .oslc 200001], .row 38 (.st 38)]⟩]
def qa1_tr : Int × (List Instr) → Tr (Nat × List (TV U)) := fun x => .ret (0, [⟨(.int .i64), x.1⟩, ⟨(.slc (.st 38)), x.2⟩])
def qa1_in (rec_qa1 : List TAct → Int → Int → List Instr → Option (Int × (List Instr))) : List (TV U) → Option (Int × (List Instr))
  | [⟨(.slc (.st 59)), a0⟩, ⟨(.int .i64), a1⟩, ⟨(.int .i64), a2⟩, ⟨(.slc (.st 38)), a3⟩] => rec_qa1 a0 a1 a2 a3
  | _ => none
def qa1_rmd (rec_qa1 : List TAct → Int → Int → List Instr → Option (Int × (List Instr))) : Mode U := ⟨qa1_sh, [⟨100000, .slot 0, []⟩], qa1_os, fun ls => .get (qa1_in rec_qa1 ls) qa1_tr⟩
def ms103 (rec_qa1 : List TAct → Int → Int → List Instr → Option (Int × (List Instr))) : List (FuncId × Mode U) := (15, (qa1_rmd rec_qa1)) :: ms102
theorem known103 (rec_qa1 : List TAct → Int → Int → List Instr → Option (Int × (List Instr))) (hrec_qa1 : zaad kk env0 15 (qa1_rmd rec_qa1)) : Known kk env0 (zaae (ms103 rec_qa1)) := known_cons (by kernel_rfl) hrec_qa1 known102
def qa2_sh : StSh := ⟨⟨[0, 1, 2], [100000], [⟨.cell 100000 1, 200001, 38, (.st 38)⟩]⟩, [.ptr 100000 0, .t (.st 59), .t (.int .i64)], [.blk 62 [.t (.int .i64), .oslc 200001], .row 38 (.st 38)]⟩
def qa2_os : List StSh := [⟨⟨[], [100000], [⟨.cell 100000 1, 200001, 38, (.st 38)⟩]⟩, [], [.blk 62 [.t (.int .i64), .oslc 200001], .row 38 (.st 38)]⟩]
def qa2_tr : Int × (List Instr) → Tr (Nat × List (TV U)) := fun x => .ret (0, [⟨(.int .i64), x.1⟩, ⟨(.slc (.st 38)), x.2⟩])
def qa2_enc : Nat → List (TV U) → Option (Int × (List Instr))
  | 0, [⟨(.int .i64), a0⟩, ⟨(.slc (.st 38)), a1⟩] => some (a0, a1)
  | _, _ => none
def qa2_dec : Int × (List Instr) → Nat × List (TV U) := fun x => (0, [⟨(.int .i64), x.1⟩, ⟨(.slc (.st 38)), x.2⟩])
def qa2_in (rec_qa1 : List TAct → Int → Int → List Instr → Option (Int × (List Instr))) : List (TV U) → Option (Int × (List Instr))
  | [⟨(.st 59), a0⟩, ⟨(.int .i64), a1⟩, ⟨(.int .i64), a2⟩, ⟨(.slc (.st 38)), a3⟩] => qa2 rec_qa1 a0 a1 a2 a3
  | _ => none
def qa2_md (rec_qa1 : List TAct → Int → Int → List Instr → Option (Int × (List Instr))) : Mode U := ⟨qa2_sh, [⟨100000, .slot 0, []⟩], qa2_os, fun ls => .get (qa2_in rec_qa1 ls) qa2_tr⟩
theorem qa2_post (rec_qa1 : List TAct → Int → Int → List Instr → Option (Int × (List Instr))) (hrec_qa1 : zaad kk env0 15 (qa1_rmd rec_qa1)) : zaad kk env0 30 (qa2_md rec_qa1) :=
  fn_of (fn := Tryz.f30) qa2_enc qa2_dec (zaac eqOk mixed (known103 rec_qa1 hrec_qa1)) (by kernel_rfl) (L := jnL) (zaab (bs := []) (by kernel_rfl) trivial) (fun _ => rfl) (by intro i qs r h; unfold qa2_enc at h; split at h <;> cases h <;> rfl)
    (by intro ls r h; unfold qa2_in at h; split at h; rw [qa2, zaaa] at h; exact Eq.trans (by kernel_rfl) h; cases h)
def ms104 (rec_qa1 : List TAct → Int → Int → List Instr → Option (Int × (List Instr))) : List (FuncId × Mode U) := (30, (qa2_md rec_qa1)) :: (ms103 rec_qa1)
theorem known104 (rec_qa1 : List TAct → Int → Int → List Instr → Option (Int × (List Instr))) (hrec_qa1 : zaad kk env0 15 (qa1_rmd rec_qa1)) : Known kk env0 (zaae (ms104 rec_qa1)) := known_cons (by kernel_rfl) (qa2_post rec_qa1 hrec_qa1) (known103 rec_qa1 hrec_qa1)
def qaZ_sh : StSh := ⟨⟨[0], [], []⟩, [.t (.int .i64)], []⟩
def qaZ_os : List StSh := [⟨⟨[0], [], []⟩, [.t (.int .i64)], []⟩]
def qaZ_tr : Int → Tr (Nat × List (TV U)) := fun x => .ret (0, [⟨(.int .i64), x⟩])
def qaZ_enc : Nat → List (TV U) → Option (Int)
  | 0, [⟨(.int .i64), a0⟩] => some a0
  | _, _ => none
def qaZ_dec : Int → Nat × List (TV U) := fun x => (0, [⟨(.int .i64), x⟩])
def qaZ_in (rec_qa1 : List TAct → Int → Int → List Instr → Option (Int × (List Instr))) : List (TV U) → Option (Int)
  | [⟨(.int .i64), a0⟩] => qaZ rec_qa1 a0
  | _ => none
def qaZ_md (rec_qa1 : List TAct → Int → Int → List Instr → Option (Int × (List Instr))) : Mode U := ⟨qaZ_sh, [], qaZ_os, fun ls => .get (qaZ_in rec_qa1 ls) qaZ_tr⟩
theorem qaZ_post (rec_qa1 : List TAct → Int → Int → List Instr → Option (Int × (List Instr))) (hrec_qa1 : zaad kk env0 15 (qa1_rmd rec_qa1)) : zaad kk env0 31 (qaZ_md rec_qa1) :=
  fn_of (fn := Tryz.f31) qaZ_enc qaZ_dec (zaac eqOk mixed (known104 rec_qa1 hrec_qa1)) (by kernel_rfl) (L := jnL) (zaab (bs := []) (by kernel_rfl) trivial) (fun _ => rfl) (by intro i qs r h; unfold qaZ_enc at h; split at h <;> cases h <;> rfl)
    (by intro ls r h; unfold qaZ_in at h; split at h; rw [qaZ, zaaa] at h; exact Eq.trans (by kernel_rfl) h; cases h)
def ms105 (rec_qa1 : List TAct → Int → Int → List Instr → Option (Int × (List Instr))) : List (FuncId × Mode U) := (31, (qaZ_md rec_qa1)) :: (ms104 rec_qa1)
theorem known105 (rec_qa1 : List TAct → Int → Int → List Instr → Option (Int × (List Instr))) (hrec_qa1 : zaad kk env0 15 (qa1_rmd rec_qa1)) : Known kk env0 (zaae (ms105 rec_qa1)) := known_cons (by kernel_rfl) (qaZ_post rec_qa1 hrec_qa1) (known104 rec_qa1 hrec_qa1)
def qa1_sh2 : StSh := ⟨⟨[0, 1, 2, 6, 7], [100000], [⟨.cell 100000 1, 200001, 38, (.st 38)⟩]⟩, [.ptr 100000 0, .t (.slc (.st 59)), .t (.int .i64), .t (.int .i64), .t (.int .i64)], [.blk 62 [.t (.int .i64), .oslc 200001], .row 38 (.st 38)]⟩
def qa1_o2 : List Out := [⟨.exit 0, ⟨⟨[], [100000], [⟨.cell 100000 1, 200001, 38, (.st 38)⟩]⟩, [], [.blk 62 [.t (.int .i64), .oslc 200001], .row 38 (.st 38)]⟩⟩]
def qa1_b2 : Code := (zaai (zaag Tryz.f15) 0)
def qa1_rec2 (rec : List TAct → Int → Int → Int → Int → List Instr → Option (Int × (List Instr))) : List (TV U) → Option (Int × (List Instr))
  | [⟨(.slc (.st 59)), a0⟩, ⟨(.int .i64), a1⟩, ⟨(.int .i64), a2⟩, ⟨(.int .i64), a3⟩, ⟨(.int .i64), a4⟩, ⟨(.slc (.st 38)), a5⟩] => rec a0 a1 a2 a3 a4 a5
  | _ => none
def qa1_enc2 : Nat → List (TV U) → Option (Int × (List Instr))
  | 0, [⟨(.int .i64), a0⟩, ⟨(.slc (.st 38)), a1⟩] => some (a0, a1)
  | _, _ => none
def qa1_dec2 : Int × (List Instr) → Nat × List (TV U) := fun x => (0, [⟨(.int .i64), x.1⟩, ⟨(.slc (.st 38)), x.2⟩])
def qa1_tr2 : Int × (List Instr) → Tr (Nat × List (TV U)) := fun x => .ret (0, [⟨(.int .i64), x.1⟩, ⟨(.slc (.st 38)), x.2⟩])
def qa1_lp2 (rec_qa1 : List TAct → Int → Int → List Instr → Option (Int × (List Instr))) : Lift.Loop U := ⟨qa1_sh2, qa1_o2, fun ls => .get (qa1_rec2 (qa1_l2 rec_qa1) ls) qa1_tr2⟩
theorem qa1_ok2 (rec_qa1 : List TAct → Int → Int → List Instr → Option (Int × (List Instr))) (hrec_qa1 : zaad kk env0 15 (qa1_rmd rec_qa1)) : LoopR kk env0 Tryz.f15.ntmps qa1_b2 (qa1_lp2 rec_qa1) :=
  zaaj qa1_enc2 qa1_dec2 (fun n => qa1_rec2 (qa1_i2 rec_qa1 n)) (zaac eqOk mixed (known105 rec_qa1 hrec_qa1)) (L := jnL) (zaab (bs := []) (by kernel_rfl) trivial) (fun _ => rfl) (by intro i qs r h; unfold qa1_enc2 at h; split at h <;> cases h <;> rfl)
    (by intro ls r h; unfold qa1_rec2 at h; split at h <;> cases h)
    (by intro n ls r h; unfold qa1_rec2 at h; split at h; exact (show _ = qa1_t2 rec_qa1 (qa1_i2 rec_qa1 n) _ _ _ _ _ _ from by kernel_rfl).trans h; cases h) (by rw [qa1_l2, zaaa])
def qa1_L (rec_qa1 : List TAct → Int → Int → List Instr → Option (Int × (List Instr))) : Nat → Option (Lift.Loop U) := fun n => bif Nat.beq n zaap then some zaam else bif Nat.beq n 2 then some (qa1_lp2 rec_qa1) else none
def qa1_enc : Nat → List (TV U) → Option (Int × (List Instr))
  | 0, [⟨(.int .i64), a0⟩, ⟨(.slc (.st 38)), a1⟩] => some (a0, a1)
  | _, _ => none
def qa1_dec : Int × (List Instr) → Nat × List (TV U) := fun x => (0, [⟨(.int .i64), x.1⟩, ⟨(.slc (.st 38)), x.2⟩])
def qa1_md : Mode U := qa1_rmd qa1
theorem qa1_step (rec_qa1 : List TAct → Int → Int → List Instr → Option (Int × (List Instr))) (hrec_qa1 : zaad kk env0 15 (qa1_rmd rec_qa1)) : zaau (Kit.withModes kk (zaae (ms105 rec_qa1))) env0 Tryz.f15.ntmps (qa1_L rec_qa1) (zaag Tryz.f15) := zaab (bs := [qa1_b2]) (by kernel_rfl) ⟨.inr ⟨_, by kernel_rfl, zaak.of_round (qa1_ok2 rec_qa1 hrec_qa1)⟩, trivial⟩
theorem qa1_post : zaad kk env0 15 (qa1_rmd qa1) :=
  zabr (K := kk) (F := qa1) qa1_rmd qa1_i (by rw [qa1, zaaa]) (zaa5 (by intro ls r h; unfold qa1_in at h; split at h <;> cases h)) (fun n ih => fn_of (fn := Tryz.f15) qa1_enc qa1_dec (zaac eqOk mixed (known105 (qa1_i n) ih)) (by kernel_rfl) (qa1_step (qa1_i n) ih) (fun _ => rfl) (by intro i qs r h; unfold qa1_enc at h; split at h <;> cases h <;> rfl)
    (by intro ls r h; unfold qa1_in at h; split at h; exact (show _ = qa1_f (qa1_i n) _ _ _ _ from by kernel_rfl).trans h; cases h))
def ms106 : List (FuncId × Mode U) := (15, qa1_md) :: ms102
theorem known106 : Known kk env0 (zaae ms106) := known_cons (by kernel_rfl) qa1_post known102
def qaY_sh : StSh := ⟨⟨[0], [], []⟩, [.t (.int .i64)], []⟩
def qaY_os : List StSh := [⟨⟨[0, 1, 2], [], []⟩, [.t .bool, .t .bool, .t .bool], []⟩]
def qaY_tr : Bool × Bool × Bool → Tr (Nat × List (TV U)) := fun x => .ret (0, [⟨.bool, x.1⟩, ⟨.bool, x.2.1⟩, ⟨.bool, x.2.2⟩])
def qaY_enc : Nat → List (TV U) → Option (Bool × Bool × Bool)
  | 0, [⟨.bool, a0⟩, ⟨.bool, a1⟩, ⟨.bool, a2⟩] => some (a0, a1, a2)
  | _, _ => none
def qaY_dec : Bool × Bool × Bool → Nat × List (TV U) := fun x => (0, [⟨.bool, x.1⟩, ⟨.bool, x.2.1⟩, ⟨.bool, x.2.2⟩])
def qaY_in : List (TV U) → Option (Bool × Bool × Bool)
  | [⟨(.int .i64), a0⟩] => qaY a0
  | _ => none
def qaY_md : Mode U := ⟨qaY_sh, [], qaY_os, fun ls => .get (qaY_in ls) qaY_tr⟩
theorem qaY_post : zaad kk env0 32 qaY_md :=
  fn_of (fn := Tryz.f32) qaY_enc qaY_dec (zaac eqOk mixed known106) (by kernel_rfl) (L := jnL) (zaab (bs := []) (by kernel_rfl) trivial) (fun _ => rfl) (by intro i qs r h; unfold qaY_enc at h; split at h <;> cases h <;> rfl)
    (by intro ls r h; unfold qaY_in at h; split at h; rw [qaY, zaaa] at h; exact Eq.trans (by kernel_rfl) h; cases h)
def ms107 : List (FuncId × Mode U) := (32, qaY_md) :: ms106
theorem known107 : Known kk env0 (zaae ms107) := known_cons (by kernel_rfl) qaY_post known106
def qa0_sh3 : StSh := ⟨⟨[0, 5, 6], [], []⟩, [.t (.slc (.st 38)), .t (.int .i64), .t (.int .i64)], []⟩
def qa0_o3 : List Out := [⟨.exit 0, ⟨⟨[5], [], []⟩, [.t (.int .i64)], []⟩⟩]
def qa0_b3 : Code := (zaai (zaag Tryz.f17) 0)
def qa0_rec3 (rec : List Instr → Int → Int → Option (Int)) : List (TV U) → Option (Int)
  | [⟨(.slc (.st 38)), a0⟩, ⟨(.int .i64), a1⟩, ⟨(.int .i64), a2⟩] => rec a0 a1 a2
  | _ => none
def qa0_enc3 : Nat → List (TV U) → Option (Int)
  | 0, [⟨(.int .i64), a0⟩] => some a0
  | _, _ => none
def qa0_dec3 : Int → Nat × List (TV U) := fun x => (0, [⟨(.int .i64), x⟩])
def qa0_tr3 : Int → Tr (Nat × List (TV U)) := fun x => .ret (0, [⟨(.int .i64), x⟩])
def qa0_lp3 : Lift.Loop U := ⟨qa0_sh3, qa0_o3, fun ls => .get (qa0_rec3 qa0_l3 ls) qa0_tr3⟩
theorem qa0_ok3 : LoopR kk env0 Tryz.f17.ntmps qa0_b3 qa0_lp3 :=
  zaaj qa0_enc3 qa0_dec3 (fun n => qa0_rec3 (qa0_i3 n)) (zaac eqOk mixed known107) (L := jnL) (zaab (bs := []) (by kernel_rfl) trivial) (fun _ => rfl) (by intro i qs r h; unfold qa0_enc3 at h; split at h <;> cases h <;> rfl)
    (by intro ls r h; unfold qa0_rec3 at h; split at h <;> cases h)
    (by intro n ls r h; unfold qa0_rec3 at h; split at h; exact (show _ = qa0_t3 (qa0_i3 n) _ _ _ from by kernel_rfl).trans h; cases h) (by rw [qa0_l3, zaaa])
def qa0_sh : StSh := ⟨⟨[0, 1], [], []⟩, [.t (.slc (.st 38)), .t (.int .i64)], []⟩
def qa0_os : List StSh := [⟨⟨[0], [], []⟩, [.t (.int .i64)], []⟩]
def qa0_tr : Int → Tr (Nat × List (TV U)) := fun x => .ret (0, [⟨(.int .i64), x⟩])
def qa0_L : Nat → Option (Lift.Loop U) := fun n => bif Nat.beq n zaap then some zaam else bif Nat.beq n 3 then some qa0_lp3 else none
def qa0_enc : Nat → List (TV U) → Option (Int)
  | 0, [⟨(.int .i64), a0⟩] => some a0
  | _, _ => none
def qa0_dec : Int → Nat × List (TV U) := fun x => (0, [⟨(.int .i64), x⟩])
def qa0_in : List (TV U) → Option (Int)
  | [⟨(.slc (.st 38)), a0⟩, ⟨(.int .i64), a1⟩] => qa0 a0 a1
  | _ => none
def qa0_md : Mode U := ⟨qa0_sh, [], qa0_os, fun ls => .get (qa0_in ls) qa0_tr⟩
theorem qa0_post : zaad kk env0 17 qa0_md :=
  fn_of (fn := Tryz.f17) qa0_enc qa0_dec (zaac eqOk mixed known107) (by kernel_rfl) (L := qa0_L) (zaab (bs := [qa0_b3]) (by kernel_rfl) ⟨.inr ⟨_, by kernel_rfl, zaak.of_round (qa0_ok3)⟩, trivial⟩) (fun _ => rfl) (by intro i qs r h; unfold qa0_enc at h; split at h <;> cases h <;> rfl)
    (by intro ls r h; unfold qa0_in at h; split at h; rw [qa0, zaaa] at h; exact Eq.trans (by kernel_rfl) h; cases h)
def ms108 : List (FuncId × Mode U) := (17, qa0_md) :: ms107
theorem known108 : Known kk env0 (zaae ms108) := known_cons (by kernel_rfl) qa0_post known107
def qaW_sh7 : StSh := ⟨⟨[1, 2, 5, 6], [1, 2, 5], [⟨.cell 5 0, 20250, 3, (.int .i64)⟩, ⟨.cell 5 2, 20252, 36, (.st 1036)⟩]⟩, [.ptr 1 0, .ptr 2 0, .ptr 5 0, .t (.int .i64)], [.blk 25 [.t (.slc (.int .i64)), .t (.int .i64), .t (.slc (.st 51))], .blk 29 [.nil, .t (.int .i64), .nil], .blk 29 [.oslc 20250, .t (.int .i64), .oslc 20252], .row 3 (.int .i64), .row 36 (.st 1036)]⟩
def qaW_o7 : List Out := [⟨.exit 0, ⟨⟨[2, 5], [2, 5], [⟨.cell 5 0, 20250, 3, (.int .i64)⟩, ⟨.cell 5 2, 20252, 36, (.st 1036)⟩]⟩, [.ptr 2 0, .ptr 5 0], [.blk 29 [.nil, .t (.int .i64), .nil], .blk 29 [.oslc 20250, .t (.int .i64), .oslc 20252], .row 3 (.int .i64), .row 36 (.st 1036)]⟩⟩]
def qaW_b7 : Code := (zaai (zaag Tryz.f7) 0)
def qaW_rec7 (rec : Int → List Int → Int → List TBody → Int → Int → List Int → List ACode → Option (Int × Int × (List Int) × (List ACode))) : List (TV U) → Option (Int × Int × (List Int) × (List ACode))
  | [⟨(.int .i64), a0⟩, ⟨(.slc (.int .i64)), a1⟩, ⟨(.int .i64), a2⟩, ⟨(.slc (.st 51)), a3⟩, ⟨(.int .i64), a4⟩, ⟨(.int .i64), a5⟩, ⟨(.slc (.int .i64)), a6⟩, ⟨(.slc (.st 1036)), a7⟩] => rec a0 a1 a2 a3 a4 a5 a6 a7
  | _ => none
def qaW_enc7 : Nat → List (TV U) → Option (Int × Int × (List Int) × (List ACode))
  | 0, [⟨(.int .i64), a0⟩, ⟨(.int .i64), a1⟩, ⟨(.slc (.int .i64)), a2⟩, ⟨(.slc (.st 1036)), a3⟩] => some (a0, a1, a2, a3)
  | _, _ => none
def qaW_dec7 : Int × Int × (List Int) × (List ACode) → Nat × List (TV U) := fun x => (0, [⟨(.int .i64), x.1⟩, ⟨(.int .i64), x.2.1⟩, ⟨(.slc (.int .i64)), x.2.2.1⟩, ⟨(.slc (.st 1036)), x.2.2.2⟩])
def qaW_tr7 : Int × Int × (List Int) × (List ACode) → Tr (Nat × List (TV U)) := fun x => .ret (0, [⟨(.int .i64), x.1⟩, ⟨(.int .i64), x.2.1⟩, ⟨(.slc (.int .i64)), x.2.2.1⟩, ⟨(.slc (.st 1036)), x.2.2.2⟩])
def qaW_lp7 : Lift.Loop U := ⟨qaW_sh7, qaW_o7, fun ls => .get (qaW_rec7 qaW_l7 ls) qaW_tr7⟩
theorem qaW_ok7 : LoopR kk env0 Tryz.f7.ntmps qaW_b7 qaW_lp7 :=
  zaaj qaW_enc7 qaW_dec7 (fun n => qaW_rec7 (qaW_i7 n)) (zaac eqOk mixed known108) (L := jnL) (zaab (bs := []) (by kernel_rfl) trivial) (fun _ => rfl) (by intro i qs r h; unfold qaW_enc7 at h; split at h <;> cases h <;> rfl)
    (by intro ls r h; unfold qaW_rec7 at h; split at h <;> cases h)
    (by intro n ls r h; unfold qaW_rec7 at h; split at h; exact (show _ = qaW_t7 (qaW_i7 n) _ _ _ _ _ _ _ _ from by kernel_rfl).trans h; cases h) (by rw [qaW_l7, zaaa])
def qaW_sh : StSh := ⟨⟨[0], [], []⟩, [.t (.st 25)], []⟩
def qaW_os : List StSh := [⟨⟨[0, 1], [], [⟨.sub 0 0, 100100, 3, (.int .i64)⟩, ⟨.sub 0 2, 100300, 36, (.st 1036)⟩]⟩, [.agg [.oslc 100100, .t (.int .i64), .oslc 100300], .t (.int .i64)], [.row 3 (.int .i64), .row 36 (.st 1036)]⟩]
def qaW_tr : Int × Int × (List Int) × (List ACode) → Tr (Nat × List (TV U)) := fun x => .ret (0, [⟨(.int .i64), x.1⟩, ⟨(.int .i64), x.2.1⟩, ⟨(.slc (.int .i64)), x.2.2.1⟩, ⟨(.slc (.st 1036)), x.2.2.2⟩])
def qaW_L : Nat → Option (Lift.Loop U) := fun n => bif Nat.beq n zaap then some zaam else bif Nat.beq n 7 then some qaW_lp7 else none
def qaW_enc : Nat → List (TV U) → Option (Int × Int × (List Int) × (List ACode))
  | 0, [⟨(.int .i64), a0⟩, ⟨(.int .i64), a1⟩, ⟨(.slc (.int .i64)), a2⟩, ⟨(.slc (.st 1036)), a3⟩] => some (a0, a1, a2, a3)
  | _, _ => none
def qaW_dec : Int × Int × (List Int) × (List ACode) → Nat × List (TV U) := fun x => (0, [⟨(.int .i64), x.1⟩, ⟨(.int .i64), x.2.1⟩, ⟨(.slc (.int .i64)), x.2.2.1⟩, ⟨(.slc (.st 1036)), x.2.2.2⟩])
def qaW_in : List (TV U) → Option (Int × Int × (List Int) × (List ACode))
  | [⟨(.st 25), a0⟩] => qaW a0
  | _ => none
def qaW_md : Mode U := ⟨qaW_sh, [], qaW_os, fun ls => .get (qaW_in ls) qaW_tr⟩
theorem qaW_post : zaad kk env0 7 qaW_md :=
  fn_of (fn := Tryz.f7) qaW_enc qaW_dec (zaac eqOk mixed known108) (by kernel_rfl) (L := qaW_L) (zaab (bs := [qaW_b7]) (by kernel_rfl) ⟨.inr ⟨_, by kernel_rfl, zaak.of_round (qaW_ok7)⟩, trivial⟩) (fun _ => rfl) (by intro i qs r h; unfold qaW_enc at h; split at h <;> cases h <;> rfl)
    (by intro ls r h; unfold qaW_in at h; split at h; rw [qaW, zaaa] at h; exact Eq.trans (by kernel_rfl) h; cases h)
def ms109 : List (FuncId × Mode U) := (7, qaW_md) :: ms108
theorem known109 : Known kk env0 (zaae ms109) := known_cons (by kernel_rfl) qaW_post known108
def qaX_sh4 : StSh := ⟨⟨[2, 3, 5], [2, 3], []⟩, [.ptr 2 0, .ptr 3 0, .t (.int .i64)], [.blk 29 [.t (.slc (.int .i64)), .t (.int .i64), .t (.slc (.st 36))], .blk 29 [.t (.slc (.int .i64)), .t (.int .i64), .t (.slc (.st 36))]]⟩
def qaX_o4 : List Out := [⟨.ret, ⟨⟨[4], [], []⟩, [.t .bool], []⟩⟩, ⟨.exit 0, ⟨⟨[2, 3], [2, 3], []⟩, [.ptr 2 0, .ptr 3 0], [.blk 29 [.t (.slc (.int .i64)), .t (.int .i64), .t (.slc (.st 36))], .blk 29 [.t (.slc (.int .i64)), .t (.int .i64), .t (.slc (.st 36))]]⟩⟩]
def qaX_b4 : Code := (zaai (zaag Tryz.f9) 0)
def qaX_rec4 (rec : Int → List Int → Int → List ACode → List Int → Int → List ACode → Option ((Bool) ⊕ ((List Int) × Int × (List ACode) × (List Int) × Int × (List ACode)))) : List (TV U) → Option ((Bool) ⊕ ((List Int) × Int × (List ACode) × (List Int) × Int × (List ACode)))
  | [⟨(.int .i64), a0⟩, ⟨(.slc (.int .i64)), a1⟩, ⟨(.int .i64), a2⟩, ⟨(.slc (.st 36)), a3⟩, ⟨(.slc (.int .i64)), a4⟩, ⟨(.int .i64), a5⟩, ⟨(.slc (.st 36)), a6⟩] => rec a0 a1 a2 a3 a4 a5 a6
  | _ => none
def qaX_enc4 : Nat → List (TV U) → Option ((Bool) ⊕ ((List Int) × Int × (List ACode) × (List Int) × Int × (List ACode)))
  | 0, [⟨.bool, a0⟩] => some (.inl a0)
  | 1, [⟨(.slc (.int .i64)), a0⟩, ⟨(.int .i64), a1⟩, ⟨(.slc (.st 36)), a2⟩, ⟨(.slc (.int .i64)), a3⟩, ⟨(.int .i64), a4⟩, ⟨(.slc (.st 36)), a5⟩] => some (.inr (a0, a1, a2, a3, a4, a5))
  | _, _ => none
def qaX_dec4 : (Bool) ⊕ ((List Int) × Int × (List ACode) × (List Int) × Int × (List ACode)) → Nat × List (TV U) := fun r => match r with | (.inl x) => (0, [⟨.bool, x⟩]) | (.inr x) => (1, [⟨(.slc (.int .i64)), x.1⟩, ⟨(.int .i64), x.2.1⟩, ⟨(.slc (.st 36)), x.2.2.1⟩, ⟨(.slc (.int .i64)), x.2.2.2.1⟩, ⟨(.int .i64), x.2.2.2.2.1⟩, ⟨(.slc (.st 36)), x.2.2.2.2.2⟩])
def qaX_tr4 : (Bool) ⊕ ((List Int) × Int × (List ACode) × (List Int) × Int × (List ACode)) → Tr (Nat × List (TV U)) := fun r => .alt r (fun x => .ret (0, [⟨.bool, x⟩])) (fun y => (fun x => .ret (1, [⟨(.slc (.int .i64)), x.1⟩, ⟨(.int .i64), x.2.1⟩, ⟨(.slc (.st 36)), x.2.2.1⟩, ⟨(.slc (.int .i64)), x.2.2.2.1⟩, ⟨(.int .i64), x.2.2.2.2.1⟩, ⟨(.slc (.st 36)), x.2.2.2.2.2⟩])) y)
def qaX_lp4 : Lift.Loop U := ⟨qaX_sh4, qaX_o4, fun ls => .get (qaX_rec4 qaX_l4 ls) qaX_tr4⟩
theorem qaX_ok4 : LoopR kk env0 Tryz.f9.ntmps qaX_b4 qaX_lp4 :=
  zaaj qaX_enc4 qaX_dec4 (fun n => qaX_rec4 (qaX_i4 n)) (zaac eqOk mixed known109) (L := jnL) (zaab (bs := []) (by kernel_rfl) trivial) (by intro r; rcases r with r | r <;> rfl) (by intro i qs r h; unfold qaX_enc4 at h; split at h <;> cases h <;> rfl)
    (by intro ls r h; unfold qaX_rec4 at h; split at h <;> cases h)
    (by intro n ls r h; unfold qaX_rec4 at h; split at h; exact (show _ = qaX_t4 (qaX_i4 n) _ _ _ _ _ _ _ from by kernel_rfl).trans h; cases h) (by rw [qaX_l4, zaaa])
def qaX_sh16 : StSh := ⟨⟨[2, 3, 6, 7, 8, 9], [2, 3, 7, 8], []⟩, [.ptr 2 0, .ptr 3 0, .t (.int .i64), .ptr 7 0, .ptr 8 0, .t (.int .i64)], [.blk 29 [.t (.slc (.int .i64)), .t (.int .i64), .t (.slc (.st 36))], .blk 29 [.t (.slc (.int .i64)), .t (.int .i64), .t (.slc (.st 36))], .blk 36 [.t (.int .i64), .t (.slc (.st 38))], .blk 36 [.t (.int .i64), .t (.slc (.st 38))]]⟩
def qaX_o16 : List Out := [⟨.ret, ⟨⟨[4], [], []⟩, [.t .bool], []⟩⟩, ⟨.exit 4, ⟨⟨[2, 3, 6], [2, 3], []⟩, [.ptr 2 0, .ptr 3 0, .t (.int .i64)], [.blk 29 [.t (.slc (.int .i64)), .t (.int .i64), .t (.slc (.st 36))], .blk 29 [.t (.slc (.int .i64)), .t (.int .i64), .t (.slc (.st 36))]]⟩⟩]
def qaX_b16 : Code := (zaai (zaai (zaag Tryz.f9) 1) 0)
def qaX_rec16 (rec : Int → Int → List Int → Int → List ACode → List Int → Int → List ACode → Int → List Instr → Int → List Instr → Option ((Bool) ⊕ (Int × (List Int) × Int × (List ACode) × (List Int) × Int × (List ACode)))) : List (TV U) → Option ((Bool) ⊕ (Int × (List Int) × Int × (List ACode) × (List Int) × Int × (List ACode)))
  | [⟨(.int .i64), a0⟩, ⟨(.int .i64), a1⟩, ⟨(.slc (.int .i64)), a2⟩, ⟨(.int .i64), a3⟩, ⟨(.slc (.st 36)), a4⟩, ⟨(.slc (.int .i64)), a5⟩, ⟨(.int .i64), a6⟩, ⟨(.slc (.st 36)), a7⟩, ⟨(.int .i64), a8⟩, ⟨(.slc (.st 38)), a9⟩, ⟨(.int .i64), a10⟩, ⟨(.slc (.st 38)), a11⟩] => rec a0 a1 a2 a3 a4 a5 a6 a7 a8 a9 a10 a11
  | _ => none
def qaX_enc16 : Nat → List (TV U) → Option ((Bool) ⊕ (Int × (List Int) × Int × (List ACode) × (List Int) × Int × (List ACode)))
  | 0, [⟨.bool, a0⟩] => some (.inl a0)
  | 1, [⟨(.int .i64), a0⟩, ⟨(.slc (.int .i64)), a1⟩, ⟨(.int .i64), a2⟩, ⟨(.slc (.st 36)), a3⟩, ⟨(.slc (.int .i64)), a4⟩, ⟨(.int .i64), a5⟩, ⟨(.slc (.st 36)), a6⟩] => some (.inr (a0, a1, a2, a3, a4, a5, a6))
  | _, _ => none
def qaX_dec16 : (Bool) ⊕ (Int × (List Int) × Int × (List ACode) × (List Int) × Int × (List ACode)) → Nat × List (TV U) := fun r => match r with | (.inl x) => (0, [⟨.bool, x⟩]) | (.inr x) => (1, [⟨(.int .i64), x.1⟩, ⟨(.slc (.int .i64)), x.2.1⟩, ⟨(.int .i64), x.2.2.1⟩, ⟨(.slc (.st 36)), x.2.2.2.1⟩, ⟨(.slc (.int .i64)), x.2.2.2.2.1⟩, ⟨(.int .i64), x.2.2.2.2.2.1⟩, ⟨(.slc (.st 36)), x.2.2.2.2.2.2⟩])
def qaX_tr16 : (Bool) ⊕ (Int × (List Int) × Int × (List ACode) × (List Int) × Int × (List ACode)) → Tr (Nat × List (TV U)) := fun r => .alt r (fun x => .ret (0, [⟨.bool, x⟩])) (fun y => (fun x => .ret (1, [⟨(.int .i64), x.1⟩, ⟨(.slc (.int .i64)), x.2.1⟩, ⟨(.int .i64), x.2.2.1⟩, ⟨(.slc (.st 36)), x.2.2.2.1⟩, ⟨(.slc (.int .i64)), x.2.2.2.2.1⟩, ⟨(.int .i64), x.2.2.2.2.2.1⟩, ⟨(.slc (.st 36)), x.2.2.2.2.2.2⟩])) y)
def qaX_lp16 : Lift.Loop U := ⟨qaX_sh16, qaX_o16, fun ls => .get (qaX_rec16 qaX_l16 ls) qaX_tr16⟩
theorem qaX_ok16 : LoopR kk env0 Tryz.f9.ntmps qaX_b16 qaX_lp16 :=
  zaaj qaX_enc16 qaX_dec16 (fun n => qaX_rec16 (qaX_i16 n)) (zaac eqOk mixed known109) (L := jnL) (zaab (bs := []) (by kernel_rfl) trivial) (by intro r; rcases r with r | r <;> rfl) (by intro i qs r h; unfold qaX_enc16 at h; split at h <;> cases h <;> rfl)
    (by intro ls r h; unfold qaX_rec16 at h; split at h <;> cases h)
    (by intro n ls r h; unfold qaX_rec16 at h; split at h; exact (show _ = qaX_t16 (qaX_i16 n) _ _ _ _ _ _ _ _ _ _ _ _ from by kernel_rfl).trans h; cases h) (by rw [qaX_l16, zaaa])
def qaX_sh9 : StSh := ⟨⟨[2, 3, 6], [2, 3], []⟩, [.ptr 2 0, .ptr 3 0, .t (.int .i64)], [.blk 29 [.t (.slc (.int .i64)), .t (.int .i64), .t (.slc (.st 36))], .blk 29 [.t (.slc (.int .i64)), .t (.int .i64), .t (.slc (.st 36))]]⟩
def qaX_o9 : List Out := [⟨.ret, ⟨⟨[4], [], []⟩, [.t .bool], []⟩⟩, ⟨.exit 2, ⟨⟨[], [], []⟩, [], []⟩⟩]
def qaX_b9 : Code := (zaai (zaag Tryz.f9) 1)
def qaX_L9 : Nat → Option (Lift.Loop U) := fun n => bif Nat.beq n zaap then some zaam else bif Nat.beq n 16 then some qaX_lp16 else none
def qaX_rec9 (rec : Int → List Int → Int → List ACode → List Int → Int → List ACode → Option ((Bool) ⊕ (Unit))) : List (TV U) → Option ((Bool) ⊕ (Unit))
  | [⟨(.int .i64), a0⟩, ⟨(.slc (.int .i64)), a1⟩, ⟨(.int .i64), a2⟩, ⟨(.slc (.st 36)), a3⟩, ⟨(.slc (.int .i64)), a4⟩, ⟨(.int .i64), a5⟩, ⟨(.slc (.st 36)), a6⟩] => rec a0 a1 a2 a3 a4 a5 a6
  | _ => none
def qaX_enc9 : Nat → List (TV U) → Option ((Bool) ⊕ (Unit))
  | 0, [⟨.bool, a0⟩] => some (.inl a0)
  | 1, [] => some (.inr ())
  | _, _ => none
def qaX_dec9 : (Bool) ⊕ (Unit) → Nat × List (TV U) := fun r => match r with | (.inl x) => (0, [⟨.bool, x⟩]) | (.inr x) => (1, [])
def qaX_tr9 : (Bool) ⊕ (Unit) → Tr (Nat × List (TV U)) := fun r => .alt r (fun x => .ret (0, [⟨.bool, x⟩])) (fun y => (fun x => .ret (1, [])) y)
def qaX_lp9 : Lift.Loop U := ⟨qaX_sh9, qaX_o9, fun ls => .get (qaX_rec9 qaX_l9 ls) qaX_tr9⟩
theorem qaX_ok9 : LoopR kk env0 Tryz.f9.ntmps qaX_b9 qaX_lp9 :=
  zaaj qaX_enc9 qaX_dec9 (fun n => qaX_rec9 (qaX_i9 n)) (zaac eqOk mixed known109) (L := qaX_L9) (zaab (bs := [qaX_b16]) (by kernel_rfl) ⟨.inr ⟨_, by kernel_rfl, zaak.of_round (qaX_ok16)⟩, trivial⟩) (by intro r; rcases r with r | r <;> rfl) (by intro i qs r h; unfold qaX_enc9 at h; split at h <;> cases h <;> rfl)
    (by intro ls r h; unfold qaX_rec9 at h; split at h <;> cases h)
    (by intro n ls r h; unfold qaX_rec9 at h; split at h; exact (show _ = qaX_t9 (qaX_i9 n) _ _ _ _ _ _ _ from by kernel_rfl).trans h; cases h) (by rw [qaX_l9, zaaa])
def qaX_sh : StSh := ⟨⟨[0, 1], [], []⟩, [.t (.st 29), .t (.st 29)], []⟩
def qaX_os : List StSh := [⟨⟨[0], [], []⟩, [.t .bool], []⟩]
def qaX_tr : Bool → Tr (Nat × List (TV U)) := fun x => .ret (0, [⟨.bool, x⟩])
def qaX_L : Nat → Option (Lift.Loop U) := fun n => bif Nat.beq n zaap then some zaam else bif Nat.beq n 4 then some qaX_lp4 else bif Nat.beq n 9 then some qaX_lp9 else none
def qaX_enc : Nat → List (TV U) → Option (Bool)
  | 0, [⟨.bool, a0⟩] => some a0
  | _, _ => none
def qaX_dec : Bool → Nat × List (TV U) := fun x => (0, [⟨.bool, x⟩])
def qaX_in : List (TV U) → Option (Bool)
  | [⟨(.st 29), a0⟩, ⟨(.st 29), a1⟩] => qaX a0 a1
  | _ => none
def qaX_md : Mode U := ⟨qaX_sh, [], qaX_os, fun ls => .get (qaX_in ls) qaX_tr⟩
theorem qaX_post : zaad kk env0 9 qaX_md :=
  fn_of (fn := Tryz.f9) qaX_enc qaX_dec (zaac eqOk mixed known109) (by kernel_rfl) (L := qaX_L) (zaab (bs := [qaX_b4, qaX_b9]) (by kernel_rfl) ⟨.inr ⟨_, by kernel_rfl, zaak.of_round (qaX_ok4)⟩, .inr ⟨_, by kernel_rfl, zaak.of_round (qaX_ok9)⟩, trivial⟩) (fun _ => rfl) (by intro i qs r h; unfold qaX_enc at h; split at h <;> cases h <;> rfl)
    (by intro ls r h; unfold qaX_in at h; split at h; rw [qaX, zaaa] at h; exact Eq.trans (by kernel_rfl) h; cases h)
def ms110 : List (FuncId × Mode U) := (9, qaX_md) :: ms109
theorem known110 : Known kk env0 (zaae ms110) := known_cons (by kernel_rfl) qaX_post known109
def qaF_sh6 : StSh := ⟨⟨[1, 3, 4, 5, 6, 7, 8, 9], [1, 4, 6], [⟨.cell 4 0, 20200, 3, (.int .i64)⟩, ⟨.cell 4 2, 20202, 36, (.st 1036)⟩, ⟨.cell 6 0, 20300, 3, (.int .i64)⟩, ⟨.cell 6 2, 20302, 36, (.st 1036)⟩]⟩, [.ptr 1 0, .t .bool, .ptr 4 0, .t (.int .i64), .ptr 6 0, .t (.int .i64), .t .bool, .t (.int .i64)], [.blk 25 [.t (.slc (.int .i64)), .t (.int .i64), .t (.slc (.st 51))], .blk 29 [.oslc 20200, .t (.int .i64), .oslc 20202], .blk 29 [.oslc 20300, .t (.int .i64), .oslc 20302], .row 3 (.int .i64), .row 36 (.st 1036), .row 3 (.int .i64), .row 36 (.st 1036)]⟩
def qaF_o6 : List Out := [⟨.exit 0, ⟨⟨[1, 3, 4, 5, 6, 7, 8], [1, 4, 6], [⟨.cell 4 0, 20200, 3, (.int .i64)⟩, ⟨.cell 4 2, 20202, 36, (.st 1036)⟩, ⟨.cell 6 0, 20300, 3, (.int .i64)⟩, ⟨.cell 6 2, 20302, 36, (.st 1036)⟩]⟩, [.ptr 1 0, .t .bool, .ptr 4 0, .t (.int .i64), .ptr 6 0, .t (.int .i64), .t .bool], [.blk 25 [.t (.slc (.int .i64)), .t (.int .i64), .t (.slc (.st 51))], .blk 29 [.oslc 20200, .t (.int .i64), .oslc 20202], .blk 29 [.oslc 20300, .t (.int .i64), .oslc 20302], .row 3 (.int .i64), .row 36 (.st 1036), .row 3 (.int .i64), .row 36 (.st 1036)]⟩⟩]
def qaF_b6 : Code := (zaai (zaag Tryz.f3) 0)
def qaF_rec6 (rec : Bool → Int → Int → Bool → Int → List Int → Int → List TBody → Int → Int → List Int → List ACode → List Int → List ACode → Option (Bool × Int × Int × Bool × (List Int) × Int × (List TBody) × Int × Int × (List Int) × (List ACode) × (List Int) × (List ACode))) : List (TV U) → Option (Bool × Int × Int × Bool × (List Int) × Int × (List TBody) × Int × Int × (List Int) × (List ACode) × (List Int) × (List ACode))
  | [⟨.bool, a0⟩, ⟨(.int .i64), a1⟩, ⟨(.int .i64), a2⟩, ⟨.bool, a3⟩, ⟨(.int .i64), a4⟩, ⟨(.slc (.int .i64)), a5⟩, ⟨(.int .i64), a6⟩, ⟨(.slc (.st 51)), a7⟩, ⟨(.int .i64), a8⟩, ⟨(.int .i64), a9⟩, ⟨(.slc (.int .i64)), a10⟩, ⟨(.slc (.st 1036)), a11⟩, ⟨(.slc (.int .i64)), a12⟩, ⟨(.slc (.st 1036)), a13⟩] => rec a0 a1 a2 a3 a4 a5 a6 a7 a8 a9 a10 a11 a12 a13
  | _ => none
def qaF_enc6 : Nat → List (TV U) → Option (Bool × Int × Int × Bool × (List Int) × Int × (List TBody) × Int × Int × (List Int) × (List ACode) × (List Int) × (List ACode))
  | 0, [⟨.bool, a0⟩, ⟨(.int .i64), a1⟩, ⟨(.int .i64), a2⟩, ⟨.bool, a3⟩, ⟨(.slc (.int .i64)), a4⟩, ⟨(.int .i64), a5⟩, ⟨(.slc (.st 51)), a6⟩, ⟨(.int .i64), a7⟩, ⟨(.int .i64), a8⟩, ⟨(.slc (.int .i64)), a9⟩, ⟨(.slc (.st 1036)), a10⟩, ⟨(.slc (.int .i64)), a11⟩, ⟨(.slc (.st 1036)), a12⟩] => some (a0, a1, a2, a3, a4, a5, a6, a7, a8, a9, a10, a11, a12)
  | _, _ => none
def qaF_dec6 : Bool × Int × Int × Bool × (List Int) × Int × (List TBody) × Int × Int × (List Int) × (List ACode) × (List Int) × (List ACode) → Nat × List (TV U) := fun x => (0, [⟨.bool, x.1⟩, ⟨(.int .i64), x.2.1⟩, ⟨(.int .i64), x.2.2.1⟩, ⟨.bool, x.2.2.2.1⟩, ⟨(.slc (.int .i64)), x.2.2.2.2.1⟩, ⟨(.int .i64), x.2.2.2.2.2.1⟩, ⟨(.slc (.st 51)), x.2.2.2.2.2.2.1⟩, ⟨(.int .i64), x.2.2.2.2.2.2.2.1⟩, ⟨(.int .i64), x.2.2.2.2.2.2.2.2.1⟩, ⟨(.slc (.int .i64)), x.2.2.2.2.2.2.2.2.2.1⟩, ⟨(.slc (.st 1036)), x.2.2.2.2.2.2.2.2.2.2.1⟩, ⟨(.slc (.int .i64)), x.2.2.2.2.2.2.2.2.2.2.2.1⟩, ⟨(.slc (.st 1036)), x.2.2.2.2.2.2.2.2.2.2.2.2⟩])
def qaF_tr6 : Bool × Int × Int × Bool × (List Int) × Int × (List TBody) × Int × Int × (List Int) × (List ACode) × (List Int) × (List ACode) → Tr (Nat × List (TV U)) := fun x => .ret (0, [⟨.bool, x.1⟩, ⟨(.int .i64), x.2.1⟩, ⟨(.int .i64), x.2.2.1⟩, ⟨.bool, x.2.2.2.1⟩, ⟨(.slc (.int .i64)), x.2.2.2.2.1⟩, ⟨(.int .i64), x.2.2.2.2.2.1⟩, ⟨(.slc (.st 51)), x.2.2.2.2.2.2.1⟩, ⟨(.int .i64), x.2.2.2.2.2.2.2.1⟩, ⟨(.int .i64), x.2.2.2.2.2.2.2.2.1⟩, ⟨(.slc (.int .i64)), x.2.2.2.2.2.2.2.2.2.1⟩, ⟨(.slc (.st 1036)), x.2.2.2.2.2.2.2.2.2.2.1⟩, ⟨(.slc (.int .i64)), x.2.2.2.2.2.2.2.2.2.2.2.1⟩, ⟨(.slc (.st 1036)), x.2.2.2.2.2.2.2.2.2.2.2.2⟩])
def qaF_lp6 : Lift.Loop U := ⟨qaF_sh6, qaF_o6, fun ls => .get (qaF_rec6 qaF_l6 ls) qaF_tr6⟩
theorem qaF_ok6 : LoopR kk env0 Tryz.f3.ntmps qaF_b6 qaF_lp6 :=
  zaaj qaF_enc6 qaF_dec6 (fun n => qaF_rec6 (qaF_i6 n)) (zaac eqOk mixed known110) (L := jnL) (zaab (bs := []) (by kernel_rfl) trivial) (fun _ => rfl) (by intro i qs r h; unfold qaF_enc6 at h; split at h <;> cases h <;> rfl)
    (by intro ls r h; unfold qaF_rec6 at h; split at h <;> cases h)
    (by intro n ls r h; unfold qaF_rec6 at h; split at h; exact (show _ = qaF_t6 (qaF_i6 n) _ _ _ _ _ _ _ _ _ _ _ _ _ _ from by kernel_rfl).trans h; cases h) (by rw [qaF_l6, zaaa])
def qaF_sh15 : StSh := ⟨⟨[1, 3, 4, 5, 6, 7, 8, 10, 11, 12], [1, 4, 6], [⟨.slot 11, 11, 38, (.st 38)⟩, ⟨.cell 4 0, 20200, 3, (.int .i64)⟩, ⟨.cell 4 2, 20202, 36, (.st 1036)⟩, ⟨.cell 6 0, 20300, 3, (.int .i64)⟩, ⟨.cell 6 2, 20302, 36, (.st 1036)⟩]⟩, [.ptr 1 0, .t .bool, .ptr 4 0, .t (.int .i64), .ptr 6 0, .t (.int .i64), .t .bool, .t (.int .i64), .oslc 11, .t (.int .i64)], [.blk 25 [.t (.slc (.int .i64)), .t (.int .i64), .t (.slc (.st 51))], .blk 29 [.oslc 20200, .t (.int .i64), .oslc 20202], .blk 29 [.oslc 20300, .t (.int .i64), .oslc 20302], .row 38 (.st 38), .row 3 (.int .i64), .row 36 (.st 1036), .row 3 (.int .i64), .opn 36 (.st 1036) [.t (.int .i64), .oslc 11]]⟩
def qaF_o15 : List Out := [⟨.exit 4, ⟨⟨[1, 3, 4, 5, 6, 7, 8, 10], [1, 4, 6], [⟨.cell 4 0, 20200, 3, (.int .i64)⟩, ⟨.cell 4 2, 20202, 36, (.st 1036)⟩, ⟨.cell 6 0, 20300, 3, (.int .i64)⟩, ⟨.cell 6 2, 20302, 36, (.st 1036)⟩]⟩, [.ptr 1 0, .t .bool, .ptr 4 0, .t (.int .i64), .ptr 6 0, .t (.int .i64), .t .bool, .t (.int .i64)], [.blk 25 [.t (.slc (.int .i64)), .t (.int .i64), .t (.slc (.st 51))], .blk 29 [.oslc 20200, .t (.int .i64), .oslc 20202], .blk 29 [.oslc 20300, .t (.int .i64), .oslc 20302], .row 3 (.int .i64), .row 36 (.st 1036), .row 3 (.int .i64), .row 36 (.st 1036)]⟩⟩]
def qaF_b15 : Code := (zaai (zaai (zaag Tryz.f3) 1) 0)
def qaF_rec15 (rec : Bool → Int → Int → Bool → Int → Int → List Int → Int → List TBody → Int → Int → List Instr → List Int → List ACode → List Int → List ACode → Nat → Int → Option (Bool × Int × Int × Bool × Int × (List Int) × Int × (List TBody) × Int × Int × (List Int) × (List ACode) × (List Int) × (List ACode))) : List (TV U) → Option (Bool × Int × Int × Bool × Int × (List Int) × Int × (List TBody) × Int × Int × (List Int) × (List ACode) × (List Int) × (List ACode))
  | [⟨.bool, a0⟩, ⟨(.int .i64), a1⟩, ⟨(.int .i64), a2⟩, ⟨.bool, a3⟩, ⟨(.int .i64), a4⟩, ⟨(.int .i64), a5⟩, ⟨(.slc (.int .i64)), a6⟩, ⟨(.int .i64), a7⟩, ⟨(.slc (.st 51)), a8⟩, ⟨(.int .i64), a9⟩, ⟨(.int .i64), a10⟩, ⟨(.slc (.st 38)), a11⟩, ⟨(.slc (.int .i64)), a12⟩, ⟨(.slc (.st 1036)), a13⟩, ⟨(.slc (.int .i64)), a14⟩, ⟨(.slc (.st 1036)), a15⟩, ⟨.fn, a16⟩, ⟨(.int .i64), a17⟩] => rec a0 a1 a2 a3 a4 a5 a6 a7 a8 a9 a10 a11 a12 a13 a14 a15 a16 a17
  | _ => none
def qaF_enc15 : Nat → List (TV U) → Option (Bool × Int × Int × Bool × Int × (List Int) × Int × (List TBody) × Int × Int × (List Int) × (List ACode) × (List Int) × (List ACode))
  | 0, [⟨.bool, a0⟩, ⟨(.int .i64), a1⟩, ⟨(.int .i64), a2⟩, ⟨.bool, a3⟩, ⟨(.int .i64), a4⟩, ⟨(.slc (.int .i64)), a5⟩, ⟨(.int .i64), a6⟩, ⟨(.slc (.st 51)), a7⟩, ⟨(.int .i64), a8⟩, ⟨(.int .i64), a9⟩, ⟨(.slc (.int .i64)), a10⟩, ⟨(.slc (.st 1036)), a11⟩, ⟨(.slc (.int .i64)), a12⟩, ⟨(.slc (.st 1036)), a13⟩] => some (a0, a1, a2, a3, a4, a5, a6, a7, a8, a9, a10, a11, a12, a13)
  | _, _ => none
def qaF_dec15 : Bool × Int × Int × Bool × Int × (List Int) × Int × (List TBody) × Int × Int × (List Int) × (List ACode) × (List Int) × (List ACode) → Nat × List (TV U) := fun x => (0, [⟨.bool, x.1⟩, ⟨(.int .i64), x.2.1⟩, ⟨(.int .i64), x.2.2.1⟩, ⟨.bool, x.2.2.2.1⟩, ⟨(.int .i64), x.2.2.2.2.1⟩, ⟨(.slc (.int .i64)), x.2.2.2.2.2.1⟩, ⟨(.int .i64), x.2.2.2.2.2.2.1⟩, ⟨(.slc (.st 51)), x.2.2.2.2.2.2.2.1⟩, ⟨(.int .i64), x.2.2.2.2.2.2.2.2.1⟩, ⟨(.int .i64), x.2.2.2.2.2.2.2.2.2.1⟩, ⟨(.slc (.int .i64)), x.2.2.2.2.2.2.2.2.2.2.1⟩, ⟨(.slc (.st 1036)), x.2.2.2.2.2.2.2.2.2.2.2.1⟩, ⟨(.slc (.int .i64)), x.2.2.2.2.2.2.2.2.2.2.2.2.1⟩, ⟨(.slc (.st 1036)), x.2.2.2.2.2.2.2.2.2.2.2.2.2⟩])
def qaF_tr15 : Bool × Int × Int × Bool × Int × (List Int) × Int × (List TBody) × Int × Int × (List Int) × (List ACode) × (List Int) × (List ACode) → Tr (Nat × List (TV U)) := fun x => .ret (0, [⟨.bool, x.1⟩, ⟨(.int .i64), x.2.1⟩, ⟨(.int .i64), x.2.2.1⟩, ⟨.bool, x.2.2.2.1⟩, ⟨(.int .i64), x.2.2.2.2.1⟩, ⟨(.slc (.int .i64)), x.2.2.2.2.2.1⟩, ⟨(.int .i64), x.2.2.2.2.2.2.1⟩, ⟨(.slc (.st 51)), x.2.2.2.2.2.2.2.1⟩, ⟨(.int .i64), x.2.2.2.2.2.2.2.2.1⟩, ⟨(.int .i64), x.2.2.2.2.2.2.2.2.2.1⟩, ⟨(.slc (.int .i64)), x.2.2.2.2.2.2.2.2.2.2.1⟩, ⟨(.slc (.st 1036)), x.2.2.2.2.2.2.2.2.2.2.2.1⟩, ⟨(.slc (.int .i64)), x.2.2.2.2.2.2.2.2.2.2.2.2.1⟩, ⟨(.slc (.st 1036)), x.2.2.2.2.2.2.2.2.2.2.2.2.2⟩])
def qaF_lp15 : Lift.Loop U := ⟨qaF_sh15, qaF_o15, fun ls => .get (qaF_rec15 qaF_l15 ls) qaF_tr15⟩
theorem qaF_ok15 : LoopR kk env0 Tryz.f3.ntmps qaF_b15 qaF_lp15 :=
  zaaj qaF_enc15 qaF_dec15 (fun n => qaF_rec15 (qaF_i15 n)) (zaac eqOk mixed known110) (L := jnL) (zaab (bs := []) (by kernel_rfl) trivial) (fun _ => rfl) (by intro i qs r h; unfold qaF_enc15 at h; split at h <;> cases h <;> rfl)
    (by intro ls r h; unfold qaF_rec15 at h; split at h <;> cases h)
    (by intro n ls r h; unfold qaF_rec15 at h; split at h; exact (show _ = qaF_t15 (qaF_i15 n) _ _ _ _ _ _ _ _ _ _ _ _ _ _ _ _ _ _ from by kernel_rfl).trans h; cases h) (by rw [qaF_l15, zaaa])
def qaF_sh11 : StSh := ⟨⟨[1, 3, 4, 5, 6, 7, 8, 10], [1, 4, 6], [⟨.cell 4 0, 20200, 3, (.int .i64)⟩, ⟨.cell 4 2, 20202, 36, (.st 1036)⟩, ⟨.cell 6 0, 20300, 3, (.int .i64)⟩, ⟨.cell 6 2, 20302, 36, (.st 1036)⟩]⟩, [.ptr 1 0, .t .bool, .ptr 4 0, .t (.int .i64), .ptr 6 0, .t (.int .i64), .t .bool, .t (.int .i64)], [.blk 25 [.t (.slc (.int .i64)), .t (.int .i64), .t (.slc (.st 51))], .blk 29 [.oslc 20200, .t (.int .i64), .oslc 20202], .blk 29 [.oslc 20300, .t (.int .i64), .oslc 20302], .row 3 (.int .i64), .row 36 (.st 1036), .row 3 (.int .i64), .row 36 (.st 1036)]⟩
def qaF_o11 : List Out := [⟨.exit 2, ⟨⟨[1, 3, 4, 5, 6, 7, 8], [1, 4, 6], [⟨.cell 4 0, 20200, 3, (.int .i64)⟩, ⟨.cell 4 2, 20202, 36, (.st 1036)⟩, ⟨.cell 6 0, 20300, 3, (.int .i64)⟩, ⟨.cell 6 2, 20302, 36, (.st 1036)⟩]⟩, [.ptr 1 0, .t .bool, .ptr 4 0, .t (.int .i64), .ptr 6 0, .t (.int .i64), .t .bool], [.blk 25 [.t (.slc (.int .i64)), .t (.int .i64), .t (.slc (.st 51))], .blk 29 [.oslc 20200, .t (.int .i64), .oslc 20202], .blk 29 [.oslc 20300, .t (.int .i64), .oslc 20302], .row 3 (.int .i64), .row 36 (.st 1036), .row 3 (.int .i64), .row 36 (.st 1036)]⟩⟩]
def qaF_b11 : Code := (zaai (zaag Tryz.f3) 1)
def qaF_L11 : Nat → Option (Lift.Loop U) := fun n => bif Nat.beq n zaap then some zaam else bif Nat.beq n 15 then some qaF_lp15 else none
def qaF_rec11 (rec : Bool → Int → Int → Bool → Int → List Int → Int → List TBody → Int → Int → List Int → List ACode → List Int → List ACode → Option (Bool × Int × Int × Bool × (List Int) × Int × (List TBody) × Int × Int × (List Int) × (List ACode) × (List Int) × (List ACode))) : List (TV U) → Option (Bool × Int × Int × Bool × (List Int) × Int × (List TBody) × Int × Int × (List Int) × (List ACode) × (List Int) × (List ACode))
  | [⟨.bool, a0⟩, ⟨(.int .i64), a1⟩, ⟨(.int .i64), a2⟩, ⟨.bool, a3⟩, ⟨(.int .i64), a4⟩, ⟨(.slc (.int .i64)), a5⟩, ⟨(.int .i64), a6⟩, ⟨(.slc (.st 51)), a7⟩, ⟨(.int .i64), a8⟩, ⟨(.int .i64), a9⟩, ⟨(.slc (.int .i64)), a10⟩, ⟨(.slc (.st 1036)), a11⟩, ⟨(.slc (.int .i64)), a12⟩, ⟨(.slc (.st 1036)), a13⟩] => rec a0 a1 a2 a3 a4 a5 a6 a7 a8 a9 a10 a11 a12 a13
  | _ => none
def qaF_enc11 : Nat → List (TV U) → Option (Bool × Int × Int × Bool × (List Int) × Int × (List TBody) × Int × Int × (List Int) × (List ACode) × (List Int) × (List ACode))
  | 0, [⟨.bool, a0⟩, ⟨(.int .i64), a1⟩, ⟨(.int .i64), a2⟩, ⟨.bool, a3⟩, ⟨(.slc (.int .i64)), a4⟩, ⟨(.int .i64), a5⟩, ⟨(.slc (.st 51)), a6⟩, ⟨(.int .i64), a7⟩, ⟨(.int .i64), a8⟩, ⟨(.slc (.int .i64)), a9⟩, ⟨(.slc (.st 1036)), a10⟩, ⟨(.slc (.int .i64)), a11⟩, ⟨(.slc (.st 1036)), a12⟩] => some (a0, a1, a2, a3, a4, a5, a6, a7, a8, a9, a10, a11, a12)
  | _, _ => none
def qaF_dec11 : Bool × Int × Int × Bool × (List Int) × Int × (List TBody) × Int × Int × (List Int) × (List ACode) × (List Int) × (List ACode) → Nat × List (TV U) := fun x => (0, [⟨.bool, x.1⟩, ⟨(.int .i64), x.2.1⟩, ⟨(.int .i64), x.2.2.1⟩, ⟨.bool, x.2.2.2.1⟩, ⟨(.slc (.int .i64)), x.2.2.2.2.1⟩, ⟨(.int .i64), x.2.2.2.2.2.1⟩, ⟨(.slc (.st 51)), x.2.2.2.2.2.2.1⟩, ⟨(.int .i64), x.2.2.2.2.2.2.2.1⟩, ⟨(.int .i64), x.2.2.2.2.2.2.2.2.1⟩, ⟨(.slc (.int .i64)), x.2.2.2.2.2.2.2.2.2.1⟩, ⟨(.slc (.st 1036)), x.2.2.2.2.2.2.2.2.2.2.1⟩, ⟨(.slc (.int .i64)), x.2.2.2.2.2.2.2.2.2.2.2.1⟩, ⟨(.slc (.st 1036)), x.2.2.2.2.2.2.2.2.2.2.2.2⟩])
def qaF_tr11 : Bool × Int × Int × Bool × (List Int) × Int × (List TBody) × Int × Int × (List Int) × (List ACode) × (List Int) × (List ACode) → Tr (Nat × List (TV U)) := fun x => .ret (0, [⟨.bool, x.1⟩, ⟨(.int .i64), x.2.1⟩, ⟨(.int .i64), x.2.2.1⟩, ⟨.bool, x.2.2.2.1⟩, ⟨(.slc (.int .i64)), x.2.2.2.2.1⟩, ⟨(.int .i64), x.2.2.2.2.2.1⟩, ⟨(.slc (.st 51)), x.2.2.2.2.2.2.1⟩, ⟨(.int .i64), x.2.2.2.2.2.2.2.1⟩, ⟨(.int .i64), x.2.2.2.2.2.2.2.2.1⟩, ⟨(.slc (.int .i64)), x.2.2.2.2.2.2.2.2.2.1⟩, ⟨(.slc (.st 1036)), x.2.2.2.2.2.2.2.2.2.2.1⟩, ⟨(.slc (.int .i64)), x.2.2.2.2.2.2.2.2.2.2.2.1⟩, ⟨(.slc (.st 1036)), x.2.2.2.2.2.2.2.2.2.2.2.2⟩])
def qaF_lp11 : Lift.Loop U := ⟨qaF_sh11, qaF_o11, fun ls => .get (qaF_rec11 qaF_l11 ls) qaF_tr11⟩
theorem qaF_ok11 : LoopR kk env0 Tryz.f3.ntmps qaF_b11 qaF_lp11 :=
  zaaj qaF_enc11 qaF_dec11 (fun n => qaF_rec11 (qaF_i11 n)) (zaac eqOk mixed known110) (L := qaF_L11) (zaab (bs := [qaF_b15]) (by kernel_rfl) ⟨.inr ⟨_, by kernel_rfl, zaak.of_round (qaF_ok15)⟩, trivial⟩) (fun _ => rfl) (by intro i qs r h; unfold qaF_enc11 at h; split at h <;> cases h <;> rfl)
    (by intro ls r h; unfold qaF_rec11 at h; split at h <;> cases h)
    (by intro n ls r h; unfold qaF_rec11 at h; split at h; exact (show _ = qaF_t11 (qaF_i11 n) _ _ _ _ _ _ _ _ _ _ _ _ _ _ from by kernel_rfl).trans h; cases h) (by rw [qaF_l11, zaaa])
def qaF_sh : StSh := ⟨⟨[0], [], []⟩, [.t (.st 25)], []⟩
def qaF_os : List StSh := [⟨⟨[0], [], []⟩, [.t .bool], []⟩]
def qaF_tr : Bool → Tr (Nat × List (TV U)) := fun x => .ret (0, [⟨.bool, x⟩])
def qaF_L : Nat → Option (Lift.Loop U) := fun n => bif Nat.beq n zaap then some zaam else bif Nat.beq n 6 then some qaF_lp6 else bif Nat.beq n 11 then some qaF_lp11 else none
def qaF_enc : Nat → List (TV U) → Option (Bool)
  | 0, [⟨.bool, a0⟩] => some a0
  | _, _ => none
def qaF_dec : Bool → Nat × List (TV U) := fun x => (0, [⟨.bool, x⟩])
def qaF_in : List (TV U) → Option (Bool)
  | [⟨(.st 25), a0⟩] => qaF a0
  | _ => none
def qaF_md : Mode U := ⟨qaF_sh, [], qaF_os, fun ls => .get (qaF_in ls) qaF_tr⟩
theorem qaF_post : zaad kk env0 3 qaF_md :=
  fn_of (fn := Tryz.f3) qaF_enc qaF_dec (zaac eqOk mixed known110) (by kernel_rfl) (L := qaF_L) (zaab (bs := [qaF_b6, qaF_b11]) (by kernel_rfl) ⟨.inr ⟨_, by kernel_rfl, zaak.of_round (qaF_ok6)⟩, .inr ⟨_, by kernel_rfl, zaak.of_round (qaF_ok11)⟩, trivial⟩) (fun _ => rfl) (by intro i qs r h; unfold qaF_enc at h; split at h <;> cases h <;> rfl)
    (by intro ls r h; unfold qaF_in at h; split at h; rw [qaF, zaaa] at h; exact Eq.trans (by kernel_rfl) h; cases h)
end
end Lift.F9
