/-
  DERIVED. Each function of this seat computes its Lean function. Conditions: as each theorem says.
-/
import Derived.Test.YthbhphfmnlchoaaGreatDoorWalkA
set_option linter.unusedVariables false
set_option linter.unusedSimpArgs false
set_option linter.unusedSectionVars false
namespace Lift.F3
noncomputable section
open Go Go.RowKit Go.Proofs Lift Lift.Fn
theorem qbS_step (rec_qbS : List (TStmt) → Option ((List (TStmt)))) (hrec_qbS : ModeOk kk env0 46 (qbS_rmd rec_qbS)) : LoopsOk (Kit.withModes kk (modesOf (ms75 rec_qbS))) env0 Tryz.f46.ntmps (qbS_L rec_qbS) (bodyOf Tryz.f46) := loopsOk_of (bs := [qbS_b3]) (by kernel_rfl) ⟨.inr ⟨_, by kernel_rfl, LoopOk.of_round (qbS_ok3 rec_qbS hrec_qbS)⟩, trivial⟩
theorem qbS_post : ModeOk kk env0 46 (qbS_rmd qbS) :=
  rec_of (K := kk) (F := qbS) qbS_rmd qbS_i (by rw [qbS, sealF_eq]) (rec_zero (by intro ls r h; unfold qbS_in at h; split at h <;> cases h)) (fun n ih => fn_of (fn := Tryz.f46) qbS_enc qbS_dec (kitOk_of eqOk mixed (known75 (qbS_i n) ih)) (by kernel_rfl) (qbS_step (qbS_i n) ih) (fun _ => rfl) (by intro i qs r h; unfold qbS_enc at h; split at h <;> cases h <;> rfl)
    (by intro ls r h; unfold qbS_in at h; split at h; exact (show _ = qbS_f (qbS_i n) _ from by kernel_rfl).trans h; cases h))
def ms76 : List (FuncId × Mode U) := (46, qbS_md) :: ms72
theorem known76 : Known kk env0 (modesOf ms76) := known_cons (by kernel_rfl) qbS_post known72
def qbu_sh : StSh := ⟨⟨[0], [], []⟩, [.t (.st 38)], []⟩
def qbu_os : List StSh := [⟨⟨[0], [], [⟨.sub 0 1, 100200, 43, (.st 1043)⟩]⟩, [.agg [.t .str, .oslc 100200]], [.row 43 (.st 1043)]⟩]
def qbu_tr : (List UInt8) × (List (TStmt)) → Tr (Nat × List (TV U)) := fun x => .ret (0, [⟨.str, x.1⟩, ⟨(.slc (.st 1043)), x.2⟩])
def qbu_enc : Nat → List (TV U) → Option ((List UInt8) × (List (TStmt)))
  | 0, [⟨.str, a0⟩, ⟨(.slc (.st 1043)), a1⟩] => some (a0, a1)
  | _, _ => none
def qbu_dec : (List UInt8) × (List (TStmt)) → Nat × List (TV U) := fun x => (0, [⟨.str, x.1⟩, ⟨(.slc (.st 1043)), x.2⟩])
def qbu_in : List (TV U) → Option ((List UInt8) × (List (TStmt)))
  | [⟨(.st 38), a0⟩] => qbu a0
  | _ => none
def qbu_md : Mode U := ⟨qbu_sh, [], qbu_os, fun ls => .get (qbu_in ls) qbu_tr⟩
theorem qbu_post : ModeOk kk env0 45 qbu_md :=
  fn_of (fn := Tryz.f45) qbu_enc qbu_dec (kitOk_of eqOk mixed known76) (by kernel_rfl) (L := jnL) (loopsOk_of (bs := []) (by kernel_rfl) trivial) (fun _ => rfl) (by intro i qs r h; unfold qbu_enc at h; split at h <;> cases h <;> rfl)
    (by intro ls r h; unfold qbu_in at h; split at h; rw [qbu, sealF_eq] at h; exact Eq.trans (by kernel_rfl) h; cases h)
def ms77 : List (FuncId × Mode U) := (45, qbu_md) :: ms76
theorem known77 : Known kk env0 (modesOf ms77) := known_cons (by kernel_rfl) qbu_post known76
def qbi_sh : StSh := ⟨⟨[0], [], [⟨.slot 0, 0, 38, (.st 1038)⟩]⟩, [.oslc 0], [.row 38 (.st 1038)]⟩
def qbi_os : List StSh := [⟨⟨[0], [], [⟨.slot 0, 100000, 38, (.st 1038)⟩]⟩, [.oslc 100000], [.row 38 (.st 1038)]⟩]
def qbi_tr : (List (TThread)) → Tr (Nat × List (TV U)) := fun x => .ret (0, [⟨(.slc (.st 1038)), x⟩])
def qbi_enc : Nat → List (TV U) → Option ((List (TThread)))
  | 0, [⟨(.slc (.st 1038)), a0⟩] => some a0
  | _, _ => none
def qbi_dec : (List (TThread)) → Nat × List (TV U) := fun x => (0, [⟨(.slc (.st 1038)), x⟩])
def qbi_in : List (TV U) → Option ((List (TThread)))
  | [⟨(.slc (.st 1038)), a0⟩] => qbi a0
  | _ => none
def qbi_md : Mode U := ⟨qbi_sh, [], qbi_os, fun ls => .get (qbi_in ls) qbi_tr⟩
theorem qbi_post : ModeOk kk env0 70 qbi_md :=
  fn_of (fn := Tryz.f70) qbi_enc qbi_dec (kitOk_of eqOk mixed known77) (by kernel_rfl) (L := jnL) (loopsOk_of (bs := []) (by kernel_rfl) trivial) (fun _ => rfl) (by intro i qs r h; unfold qbi_enc at h; split at h <;> cases h <;> rfl)
    (by intro ls r h; unfold qbi_in at h; split at h; rw [qbi, sealF_eq] at h; exact Eq.trans (by kernel_rfl) h; cases h)
def ms78 : List (FuncId × Mode U) := (70, qbi_md) :: ms77
theorem known78 : Known kk env0 (modesOf ms78) := known_cons (by kernel_rfl) qbi_post known77
def qbT_sh3 : StSh := ⟨⟨[1, 5, 8, 9, 10], [], [⟨.slot 5, 5, 38, (.st 1038)⟩]⟩, [.fnc 45, .oslc 5, .t (.slc (.st 38)), .t (.int .i64), .t (.int .i64)], [.row 38 (.st 1038)]⟩
def qbT_o3 : List Out := [⟨.exit 0, ⟨⟨[5], [], [⟨.slot 5, 5, 38, (.st 1038)⟩]⟩, [.oslc 5], [.row 38 (.st 1038)]⟩⟩]
def qbT_b3 : Code := (nthLoop (bodyOf Tryz.f44) 0)
def qbT_rec3 (rec : List (TThread) → Int → Int → List (TThread) → Option ((List (TThread)))) : List (TV U) → Option ((List (TThread)))
  | [⟨(.slc (.st 38)), a0⟩, ⟨(.int .i64), a1⟩, ⟨(.int .i64), a2⟩, ⟨(.slc (.st 1038)), a3⟩] => rec a0 a1 a2 a3
  | _ => none
def qbT_enc3 : Nat → List (TV U) → Option ((List (TThread)))
  | 0, [⟨(.slc (.st 1038)), a0⟩] => some a0
  | _, _ => none
def qbT_dec3 : (List (TThread)) → Nat × List (TV U) := fun x => (0, [⟨(.slc (.st 1038)), x⟩])
def qbT_tr3 : (List (TThread)) → Tr (Nat × List (TV U)) := fun x => .ret (0, [⟨(.slc (.st 1038)), x⟩])
def qbT_lp3 : Lift.Loop U := ⟨qbT_sh3, qbT_o3, fun ls => .get (qbT_rec3 qbT_l3 ls) qbT_tr3⟩
theorem qbT_ok3 : LoopR kk env0 Tryz.f44.ntmps qbT_b3 qbT_lp3 :=
  loop_of qbT_enc3 qbT_dec3 (fun n => qbT_rec3 (qbT_i3 n)) (kitOk_of eqOk mixed known78) (L := jnL) (loopsOk_of (bs := []) (by kernel_rfl) trivial) (fun _ => rfl) (by intro i qs r h; unfold qbT_enc3 at h; split at h <;> cases h <;> rfl)
    (by intro ls r h; unfold qbT_rec3 at h; split at h <;> cases h)
    (by intro n ls r h; unfold qbT_rec3 at h; split at h; exact (show _ = qbT_t3 (qbT_i3 n) _ _ _ _ from by kernel_rfl).trans h; cases h) (by rw [qbT_l3, sealF_eq])
def qbT_sh : StSh := ⟨⟨[0, 1], [], []⟩, [.t (.slc (.st 38)), .fnc 45], []⟩
def qbT_os : List StSh := [⟨⟨[0], [], [⟨.slot 0, 100000, 38, (.st 1038)⟩]⟩, [.oslc 100000], [.row 38 (.st 1038)]⟩]
def qbT_tr : (List (TThread)) → Tr (Nat × List (TV U)) := fun x => .ret (0, [⟨(.slc (.st 1038)), x⟩])
def qbT_L : Nat → Option (Lift.Loop U) := fun n => bif Nat.beq n joinKey then some joinMark else bif Nat.beq n 3 then some qbT_lp3 else none
def qbT_enc : Nat → List (TV U) → Option ((List (TThread)))
  | 0, [⟨(.slc (.st 1038)), a0⟩] => some a0
  | _, _ => none
def qbT_dec : (List (TThread)) → Nat × List (TV U) := fun x => (0, [⟨(.slc (.st 1038)), x⟩])
def qbT_in : List (TV U) → Option ((List (TThread)))
  | [⟨(.slc (.st 38)), a0⟩] => qbT a0
  | _ => none
def qbT_md : Mode U := ⟨qbT_sh, [], qbT_os, fun ls => .get (qbT_in ls) qbT_tr⟩
theorem qbT_post : ModeOk kk env0 44 qbT_md :=
  fn_of (fn := Tryz.f44) qbT_enc qbT_dec (kitOk_of eqOk mixed known78) (by kernel_rfl) (L := qbT_L) (loopsOk_of (bs := [qbT_b3]) (by kernel_rfl) ⟨.inr ⟨_, by kernel_rfl, LoopOk.of_round (qbT_ok3)⟩, trivial⟩) (fun _ => rfl) (by intro i qs r h; unfold qbT_enc at h; split at h <;> cases h <;> rfl)
    (by intro ls r h; unfold qbT_in at h; split at h; rw [qbT, sealF_eq] at h; exact Eq.trans (by kernel_rfl) h; cases h)
def ms79 : List (FuncId × Mode U) := (44, qbT_md) :: ms78
theorem known79 : Known kk env0 (modesOf ms79) := known_cons (by kernel_rfl) qbT_post known78
def qbr_sh : StSh := ⟨⟨[0], [], []⟩, [.t (.st 26)], []⟩
def qbr_os : List StSh := [⟨⟨[0], [], [⟨.sub 0 0, 100100, 46, (.st 46)⟩, ⟨.sub 0 1, 100200, 9, .str⟩, ⟨.sub 0 2, 100300, 38, (.st 1038)⟩]⟩, [.agg [.oslc 100100, .oslc 100200, .oslc 100300]], [.row 46 (.st 46), .row 9 .str, .row 38 (.st 1038)]⟩]
def qbr_tr : (List (TCell)) × (List (List UInt8)) × (List (TThread)) → Tr (Nat × List (TV U)) := fun x => .ret (0, [⟨(.slc (.st 46)), x.1⟩, ⟨(.slc .str), x.2.1⟩, ⟨(.slc (.st 1038)), x.2.2⟩])
def qbr_enc : Nat → List (TV U) → Option ((List (TCell)) × (List (List UInt8)) × (List (TThread)))
  | 0, [⟨(.slc (.st 46)), a0⟩, ⟨(.slc .str), a1⟩, ⟨(.slc (.st 1038)), a2⟩] => some (a0, a1, a2)
  | _, _ => none
def qbr_dec : (List (TCell)) × (List (List UInt8)) × (List (TThread)) → Nat × List (TV U) := fun x => (0, [⟨(.slc (.st 46)), x.1⟩, ⟨(.slc .str), x.2.1⟩, ⟨(.slc (.st 1038)), x.2.2⟩])
def qbr_in : List (TV U) → Option ((List (TCell)) × (List (List UInt8)) × (List (TThread)))
  | [⟨(.st 26), a0⟩] => qbr a0
  | _ => none
def qbr_md : Mode U := ⟨qbr_sh, [], qbr_os, fun ls => .get (qbr_in ls) qbr_tr⟩
theorem qbr_post : ModeOk kk env0 19 qbr_md :=
  fn_of (fn := Tryz.f19) qbr_enc qbr_dec (kitOk_of eqOk mixed known79) (by kernel_rfl) (L := jnL) (loopsOk_of (bs := []) (by kernel_rfl) trivial) (fun _ => rfl) (by intro i qs r h; unfold qbr_enc at h; split at h <;> cases h <;> rfl)
    (by intro ls r h; unfold qbr_in at h; split at h; rw [qbr, sealF_eq] at h; exact Eq.trans (by kernel_rfl) h; cases h)
def ms80 : List (FuncId × Mode U) := (19, qbr_md) :: ms79
theorem known80 : Known kk env0 (modesOf ms80) := known_cons (by kernel_rfl) qbr_post known79
def qbo_sh4 : StSh := ⟨⟨[0, 1, 12, 13], [], []⟩, [.t (.slc (.st 46)), .t (.slc (.st 46)), .t (.int .i64), .t (.int .i64)], []⟩
def qbo_o4 : List Out := [⟨.ret, ⟨⟨[4], [], []⟩, [.t .bool], []⟩⟩, ⟨.exit 0, ⟨⟨[], [], []⟩, [], []⟩⟩]
def qbo_b4 : Code := (nthLoop (bodyOf Tryz.f34) 0)
def qbo_rec4 (rec : List (TCell) → List (TCell) → Int → Int → Option ((Bool) ⊕ (Unit))) : List (TV U) → Option ((Bool) ⊕ (Unit))
  | [⟨(.slc (.st 46)), a0⟩, ⟨(.slc (.st 46)), a1⟩, ⟨(.int .i64), a2⟩, ⟨(.int .i64), a3⟩] => rec a0 a1 a2 a3
  | _ => none
def qbo_enc4 : Nat → List (TV U) → Option ((Bool) ⊕ (Unit))
  | 0, [⟨.bool, a0⟩] => some (.inl a0)
  | 1, [] => some (.inr ())
  | _, _ => none
def qbo_dec4 : (Bool) ⊕ (Unit) → Nat × List (TV U) := fun r => match r with | (.inl x) => (0, [⟨.bool, x⟩]) | (.inr x) => (1, [])
def qbo_tr4 : (Bool) ⊕ (Unit) → Tr (Nat × List (TV U)) := fun r => .alt r (fun x => .ret (0, [⟨.bool, x⟩])) (fun y => (fun x => .ret (1, [])) y)
def qbo_lp4 : Lift.Loop U := ⟨qbo_sh4, qbo_o4, fun ls => .get (qbo_rec4 qbo_l4 ls) qbo_tr4⟩
theorem qbo_ok4 : LoopR kk env0 Tryz.f34.ntmps qbo_b4 qbo_lp4 :=
  loop_of qbo_enc4 qbo_dec4 (fun n => qbo_rec4 (qbo_i4 n)) (kitOk_of eqOk mixed known80) (L := jnL) (loopsOk_of (bs := []) (by kernel_rfl) trivial) (by intro r; rcases r with r | r <;> rfl) (by intro i qs r h; unfold qbo_enc4 at h; split at h <;> cases h <;> rfl)
    (by intro ls r h; unfold qbo_rec4 at h; split at h <;> cases h)
    (by intro n ls r h; unfold qbo_rec4 at h; split at h; exact (show _ = qbo_t4 (qbo_i4 n) _ _ _ _ from by kernel_rfl).trans h; cases h) (by rw [qbo_l4, sealF_eq])
def qbo_sh : StSh := ⟨⟨[0, 1], [], []⟩, [.t (.slc (.st 46)), .t (.slc (.st 46))], []⟩
def qbo_os : List StSh := [⟨⟨[0], [], []⟩, [.t .bool], []⟩]
def qbo_tr : Bool → Tr (Nat × List (TV U)) := fun x => .ret (0, [⟨.bool, x⟩])
def qbo_L : Nat → Option (Lift.Loop U) := fun n => bif Nat.beq n joinKey then some joinMark else bif Nat.beq n 4 then some qbo_lp4 else none
def qbo_enc : Nat → List (TV U) → Option (Bool)
  | 0, [⟨.bool, a0⟩] => some a0
  | _, _ => none
def qbo_dec : Bool → Nat × List (TV U) := fun x => (0, [⟨.bool, x⟩])
def qbo_in : List (TV U) → Option (Bool)
  | [⟨(.slc (.st 46)), a0⟩, ⟨(.slc (.st 46)), a1⟩] => qbo a0 a1
  | _ => none
def qbo_md : Mode U := ⟨qbo_sh, [], qbo_os, fun ls => .get (qbo_in ls) qbo_tr⟩
theorem qbo_post : ModeOk kk env0 34 qbo_md :=
  fn_of (fn := Tryz.f34) qbo_enc qbo_dec (kitOk_of eqOk mixed known80) (by kernel_rfl) (L := qbo_L) (loopsOk_of (bs := [qbo_b4]) (by kernel_rfl) ⟨.inr ⟨_, by kernel_rfl, LoopOk.of_round (qbo_ok4)⟩, trivial⟩) (fun _ => rfl) (by intro i qs r h; unfold qbo_enc at h; split at h <;> cases h <;> rfl)
    (by intro ls r h; unfold qbo_in at h; split at h; rw [qbo, sealF_eq] at h; exact Eq.trans (by kernel_rfl) h; cases h)
def ms81 : List (FuncId × Mode U) := (34, qbo_md) :: ms80
theorem known81 : Known kk env0 (modesOf ms81) := known_cons (by kernel_rfl) qbo_post known80
def qbp_sh4 : StSh := ⟨⟨[0, 1, 12, 13], [], []⟩, [.t (.slc .str), .t (.slc .str), .t (.int .i64), .t (.int .i64)], []⟩
def qbp_o4 : List Out := [⟨.ret, ⟨⟨[4], [], []⟩, [.t .bool], []⟩⟩, ⟨.exit 0, ⟨⟨[], [], []⟩, [], []⟩⟩]
def qbp_b4 : Code := (nthLoop (bodyOf Tryz.f35) 0)
def qbp_rec4 (rec : List (List UInt8) → List (List UInt8) → Int → Int → Option ((Bool) ⊕ (Unit))) : List (TV U) → Option ((Bool) ⊕ (Unit))
  | [⟨(.slc .str), a0⟩, ⟨(.slc .str), a1⟩, ⟨(.int .i64), a2⟩, ⟨(.int .i64), a3⟩] => rec a0 a1 a2 a3
  | _ => none
def qbp_enc4 : Nat → List (TV U) → Option ((Bool) ⊕ (Unit))
  | 0, [⟨.bool, a0⟩] => some (.inl a0)
  | 1, [] => some (.inr ())
  | _, _ => none
def qbp_dec4 : (Bool) ⊕ (Unit) → Nat × List (TV U) := fun r => match r with | (.inl x) => (0, [⟨.bool, x⟩]) | (.inr x) => (1, [])
def qbp_tr4 : (Bool) ⊕ (Unit) → Tr (Nat × List (TV U)) := fun r => .alt r (fun x => .ret (0, [⟨.bool, x⟩])) (fun y => (fun x => .ret (1, [])) y)
def qbp_lp4 : Lift.Loop U := ⟨qbp_sh4, qbp_o4, fun ls => .get (qbp_rec4 qbp_l4 ls) qbp_tr4⟩
theorem qbp_ok4 : LoopR kk env0 Tryz.f35.ntmps qbp_b4 qbp_lp4 :=
  loop_of qbp_enc4 qbp_dec4 (fun n => qbp_rec4 (qbp_i4 n)) (kitOk_of eqOk mixed known81) (L := jnL) (loopsOk_of (bs := []) (by kernel_rfl) trivial) (by intro r; rcases r with r | r <;> rfl) (by intro i qs r h; unfold qbp_enc4 at h; split at h <;> cases h <;> rfl)
    (by intro ls r h; unfold qbp_rec4 at h; split at h <;> cases h)
    (by intro n ls r h; unfold qbp_rec4 at h; split at h; exact (show _ = qbp_t4 (qbp_i4 n) _ _ _ _ from by kernel_rfl).trans h; cases h) (by rw [qbp_l4, sealF_eq])
def qbp_sh : StSh := ⟨⟨[0, 1], [], []⟩, [.t (.slc .str), .t (.slc .str)], []⟩
def qbp_os : List StSh := [⟨⟨[0], [], []⟩, [.t .bool], []⟩]
def qbp_tr : Bool → Tr (Nat × List (TV U)) := fun x => .ret (0, [⟨.bool, x⟩])
def qbp_L : Nat → Option (Lift.Loop U) := fun n => bif Nat.beq n joinKey then some joinMark else bif Nat.beq n 4 then some qbp_lp4 else none
def qbp_enc : Nat → List (TV U) → Option (Bool)
  | 0, [⟨.bool, a0⟩] => some a0
  | _, _ => none
def qbp_dec : Bool → Nat × List (TV U) := fun x => (0, [⟨.bool, x⟩])
def qbp_in : List (TV U) → Option (Bool)
  | [⟨(.slc .str), a0⟩, ⟨(.slc .str), a1⟩] => qbp a0 a1
  | _ => none
def qbp_md : Mode U := ⟨qbp_sh, [], qbp_os, fun ls => .get (qbp_in ls) qbp_tr⟩
theorem qbp_post : ModeOk kk env0 35 qbp_md :=
  fn_of (fn := Tryz.f35) qbp_enc qbp_dec (kitOk_of eqOk mixed known81) (by kernel_rfl) (L := qbp_L) (loopsOk_of (bs := [qbp_b4]) (by kernel_rfl) ⟨.inr ⟨_, by kernel_rfl, LoopOk.of_round (qbp_ok4)⟩, trivial⟩) (fun _ => rfl) (by intro i qs r h; unfold qbp_enc at h; split at h <;> cases h <;> rfl)
    (by intro ls r h; unfold qbp_in at h; split at h; rw [qbp, sealF_eq] at h; exact Eq.trans (by kernel_rfl) h; cases h)
def ms82 : List (FuncId × Mode U) := (35, qbp_md) :: ms81
theorem known82 : Known kk env0 (modesOf ms82) := known_cons (by kernel_rfl) qbp_post known81
def qbV_sh : StSh := ⟨⟨[0, 1], [], []⟩, [.t (.st 41), .t (.st 41)], []⟩
def qbV_os : List StSh := [⟨⟨[0], [], []⟩, [.t .bool], []⟩]
def qbV_tr : Bool → Tr (Nat × List (TV U)) := fun x => .ret (0, [⟨.bool, x⟩])
def qbV_in (rec_qbV : TExpr → TExpr → Option (Bool)) : List (TV U) → Option (Bool)
  | [⟨(.st 41), a0⟩, ⟨(.st 41), a1⟩] => rec_qbV a0 a1
  | _ => none
def qbV_rmd (rec_qbV : TExpr → TExpr → Option (Bool)) : Mode U := ⟨qbV_sh, [], qbV_os, fun ls => .get (qbV_in rec_qbV ls) qbV_tr⟩
def ms83 (rec_qbV : TExpr → TExpr → Option (Bool)) : List (FuncId × Mode U) := (68, (qbV_rmd rec_qbV)) :: ms82
theorem known83 (rec_qbV : TExpr → TExpr → Option (Bool)) (hrec_qbV : ModeOk kk env0 68 (qbV_rmd rec_qbV)) : Known kk env0 (modesOf (ms83 rec_qbV)) := known_cons (by kernel_rfl) hrec_qbV known82
def qbl_sh4 : StSh := ⟨⟨[1, 2, 15, 16, 17], [], []⟩, [.t (.slc (.st 41)), .fnc 68, .t (.slc (.st 41)), .t (.int .i64), .t (.int .i64)], []⟩
def qbl_o4 : List Out := [⟨.ret, ⟨⟨[6], [], []⟩, [.t .bool], []⟩⟩, ⟨.exit 0, ⟨⟨[], [], []⟩, [], []⟩⟩]
def qbl_b4 : Code := (nthLoop (bodyOf Tryz.f82) 0)
def qbl_rec4 (rec : List (TExpr) → List (TExpr) → Int → Int → Option ((Bool) ⊕ (Unit))) : List (TV U) → Option ((Bool) ⊕ (Unit))
  | [⟨(.slc (.st 41)), a0⟩, ⟨(.slc (.st 41)), a1⟩, ⟨(.int .i64), a2⟩, ⟨(.int .i64), a3⟩] => rec a0 a1 a2 a3
  | _ => none
def qbl_enc4 : Nat → List (TV U) → Option ((Bool) ⊕ (Unit))
  | 0, [⟨.bool, a0⟩] => some (.inl a0)
  | 1, [] => some (.inr ())
  | _, _ => none
def qbl_dec4 : (Bool) ⊕ (Unit) → Nat × List (TV U) := fun r => match r with | (.inl x) => (0, [⟨.bool, x⟩]) | (.inr x) => (1, [])
def qbl_tr4 : (Bool) ⊕ (Unit) → Tr (Nat × List (TV U)) := fun r => .alt r (fun x => .ret (0, [⟨.bool, x⟩])) (fun y => (fun x => .ret (1, [])) y)
def qbl_lp4 (rec_qbV : TExpr → TExpr → Option (Bool)) : Lift.Loop U := ⟨qbl_sh4, qbl_o4, fun ls => .get (qbl_rec4 (qbl_l4 rec_qbV) ls) qbl_tr4⟩
theorem qbl_ok4 (rec_qbV : TExpr → TExpr → Option (Bool)) (hrec_qbV : ModeOk kk env0 68 (qbV_rmd rec_qbV)) : LoopR kk env0 Tryz.f82.ntmps qbl_b4 (qbl_lp4 rec_qbV) :=
  loop_of qbl_enc4 qbl_dec4 (fun n => qbl_rec4 (qbl_i4 rec_qbV n)) (kitOk_of eqOk mixed (known83 rec_qbV hrec_qbV)) (L := jnL) (loopsOk_of (bs := []) (by kernel_rfl) trivial) (by intro r; rcases r with r | r <;> rfl) (by intro i qs r h; unfold qbl_enc4 at h; split at h <;> cases h <;> rfl)
    (by intro ls r h; unfold qbl_rec4 at h; split at h <;> cases h)
    (by intro n ls r h; unfold qbl_rec4 at h; split at h; exact (show _ = qbl_t4 rec_qbV (qbl_i4 rec_qbV n) _ _ _ _ from by kernel_rfl).trans h; cases h) (by rw [qbl_l4, sealF_eq])
def qbl_sh : StSh := ⟨⟨[0, 1, 2], [], []⟩, [.t (.slc (.st 41)), .t (.slc (.st 41)), .fnc 68], []⟩
def qbl_os : List StSh := [⟨⟨[0], [], []⟩, [.t .bool], []⟩]
def qbl_tr : Bool → Tr (Nat × List (TV U)) := fun x => .ret (0, [⟨.bool, x⟩])
def qbl_L (rec_qbV : TExpr → TExpr → Option (Bool)) : Nat → Option (Lift.Loop U) := fun n => bif Nat.beq n joinKey then some joinMark else bif Nat.beq n 4 then some (qbl_lp4 rec_qbV) else none
def qbl_enc : Nat → List (TV U) → Option (Bool)
  | 0, [⟨.bool, a0⟩] => some a0
  | _, _ => none
def qbl_dec : Bool → Nat × List (TV U) := fun x => (0, [⟨.bool, x⟩])
def qbl_in (rec_qbV : TExpr → TExpr → Option (Bool)) : List (TV U) → Option (Bool)
  | [⟨(.slc (.st 41)), a0⟩, ⟨(.slc (.st 41)), a1⟩] => qbl rec_qbV a0 a1
  | _ => none
def qbl_md (rec_qbV : TExpr → TExpr → Option (Bool)) : Mode U := ⟨qbl_sh, [], qbl_os, fun ls => .get (qbl_in rec_qbV ls) qbl_tr⟩
theorem qbl_post (rec_qbV : TExpr → TExpr → Option (Bool)) (hrec_qbV : ModeOk kk env0 68 (qbV_rmd rec_qbV)) : ModeOk kk env0 82 (qbl_md rec_qbV) :=
  fn_of (fn := Tryz.f82) qbl_enc qbl_dec (kitOk_of eqOk mixed (known83 rec_qbV hrec_qbV)) (by kernel_rfl) (L := (qbl_L rec_qbV)) (loopsOk_of (bs := [qbl_b4]) (by kernel_rfl) ⟨.inr ⟨_, by kernel_rfl, LoopOk.of_round (qbl_ok4 rec_qbV hrec_qbV)⟩, trivial⟩) (fun _ => rfl) (by intro i qs r h; unfold qbl_enc at h; split at h <;> cases h <;> rfl)
    (by intro ls r h; unfold qbl_in at h; split at h; rw [qbl, sealF_eq] at h; exact Eq.trans (by kernel_rfl) h; cases h)
def ms84 (rec_qbV : TExpr → TExpr → Option (Bool)) : List (FuncId × Mode U) := (82, (qbl_md rec_qbV)) :: (ms83 rec_qbV)
theorem known84 (rec_qbV : TExpr → TExpr → Option (Bool)) (hrec_qbV : ModeOk kk env0 68 (qbV_rmd rec_qbV)) : Known kk env0 (modesOf (ms84 rec_qbV)) := known_cons (by kernel_rfl) (qbl_post rec_qbV hrec_qbV) (known83 rec_qbV hrec_qbV)
def qbV_enc : Nat → List (TV U) → Option (Bool)
  | 0, [⟨.bool, a0⟩] => some a0
  | _, _ => none
def qbV_dec : Bool → Nat × List (TV U) := fun x => (0, [⟨.bool, x⟩])
def qbV_md : Mode U := qbV_rmd qbV
theorem qbV_step (rec_qbV : TExpr → TExpr → Option (Bool)) (hrec_qbV : ModeOk kk env0 68 (qbV_rmd rec_qbV)) : LoopsOk (Kit.withModes kk (modesOf (ms84 rec_qbV))) env0 Tryz.f68.ntmps jnL (bodyOf Tryz.f68) := loopsOk_of (bs := []) (by kernel_rfl) trivial
theorem qbV_post : ModeOk kk env0 68 (qbV_rmd qbV) :=
  rec_of (K := kk) (F := qbV) qbV_rmd qbV_i (by rw [qbV, sealF_eq]) (rec_zero (by intro ls r h; unfold qbV_in at h; split at h <;> cases h)) (fun n ih => fn_of (fn := Tryz.f68) qbV_enc qbV_dec (kitOk_of eqOk mixed (known84 (qbV_i n) ih)) (by kernel_rfl) (qbV_step (qbV_i n) ih) (fun _ => rfl) (by intro i qs r h; unfold qbV_enc at h; split at h <;> cases h <;> rfl)
    (by intro ls r h; unfold qbV_in at h; split at h; exact (show _ = qbV_f (qbV_i n) _ _ from by kernel_rfl).trans h; cases h))
def ms85 : List (FuncId × Mode U) := (68, qbV_md) :: ms82
theorem known85 : Known kk env0 (modesOf ms85) := known_cons (by kernel_rfl) qbV_post known82
def qbm_sh : StSh := ⟨⟨[0, 1, 2], [], []⟩, [.t (.slc (.st 43)), .t (.slc (.st 43)), .fnc 39], []⟩
def qbm_os : List StSh := [⟨⟨[0], [], []⟩, [.t .bool], []⟩]
def qbm_tr : Bool → Tr (Nat × List (TV U)) := fun x => .ret (0, [⟨.bool, x⟩])
def qbm_in (rec_qbm : List (TStmt) → List (TStmt) → Option (Bool)) : List (TV U) → Option (Bool)
  | [⟨(.slc (.st 43)), a0⟩, ⟨(.slc (.st 43)), a1⟩] => rec_qbm a0 a1
  | _ => none
def qbm_rmd (rec_qbm : List (TStmt) → List (TStmt) → Option (Bool)) : Mode U := ⟨qbm_sh, [], qbm_os, fun ls => .get (qbm_in rec_qbm ls) qbm_tr⟩
def ms86 (rec_qbm : List (TStmt) → List (TStmt) → Option (Bool)) : List (FuncId × Mode U) := (38, (qbm_rmd rec_qbm)) :: ms85
theorem known86 (rec_qbm : List (TStmt) → List (TStmt) → Option (Bool)) (hrec_qbm : ModeOk kk env0 38 (qbm_rmd rec_qbm)) : Known kk env0 (modesOf (ms86 rec_qbm)) := known_cons (by kernel_rfl) hrec_qbm known85
def qbW_sh : StSh := ⟨⟨[0, 1], [], []⟩, [.t (.st 43), .t (.st 43)], []⟩
def qbW_os : List StSh := [⟨⟨[0], [], []⟩, [.t .bool], []⟩]
def qbW_tr : Bool → Tr (Nat × List (TV U)) := fun x => .ret (0, [⟨.bool, x⟩])
def qbW_enc : Nat → List (TV U) → Option (Bool)
  | 0, [⟨.bool, a0⟩] => some a0
  | _, _ => none
def qbW_dec : Bool → Nat × List (TV U) := fun x => (0, [⟨.bool, x⟩])
def qbW_in (rec_qbm : List (TStmt) → List (TStmt) → Option (Bool)) : List (TV U) → Option (Bool)
  | [⟨(.st 43), a0⟩, ⟨(.st 43), a1⟩] => qbW rec_qbm a0 a1
  | _ => none
def qbW_md (rec_qbm : List (TStmt) → List (TStmt) → Option (Bool)) : Mode U := ⟨qbW_sh, [], qbW_os, fun ls => .get (qbW_in rec_qbm ls) qbW_tr⟩
theorem qbW_post (rec_qbm : List (TStmt) → List (TStmt) → Option (Bool)) (hrec_qbm : ModeOk kk env0 38 (qbm_rmd rec_qbm)) : ModeOk kk env0 39 (qbW_md rec_qbm) :=
  fn_of (fn := Tryz.f39) qbW_enc qbW_dec (kitOk_of eqOk mixed (known86 rec_qbm hrec_qbm)) (by kernel_rfl) (L := jnL) (loopsOk_of (bs := []) (by kernel_rfl) trivial) (fun _ => rfl) (by intro i qs r h; unfold qbW_enc at h; split at h <;> cases h <;> rfl)
    (by intro ls r h; unfold qbW_in at h; split at h; rw [qbW, sealF_eq] at h; exact Eq.trans (by kernel_rfl) h; cases h)
def ms87 (rec_qbm : List (TStmt) → List (TStmt) → Option (Bool)) : List (FuncId × Mode U) := (39, (qbW_md rec_qbm)) :: (ms86 rec_qbm)
theorem known87 (rec_qbm : List (TStmt) → List (TStmt) → Option (Bool)) (hrec_qbm : ModeOk kk env0 38 (qbm_rmd rec_qbm)) : Known kk env0 (modesOf (ms87 rec_qbm)) := known_cons (by kernel_rfl) (qbW_post rec_qbm hrec_qbm) (known86 rec_qbm hrec_qbm)
def qbm_sh4 : StSh := ⟨⟨[1, 2, 15, 16, 17], [], []⟩, [.t (.slc (.st 43)), .fnc 39, .t (.slc (.st 43)), .t (.int .i64), .t (.int .i64)], []⟩
def qbm_o4 : List Out := [⟨.ret, ⟨⟨[6], [], []⟩, [.t .bool], []⟩⟩, ⟨.exit 0, ⟨⟨[], [], []⟩, [], []⟩⟩]
def qbm_b4 : Code := (nthLoop (bodyOf Tryz.f38) 0)
def qbm_rec4 (rec : List (TStmt) → List (TStmt) → Int → Int → Option ((Bool) ⊕ (Unit))) : List (TV U) → Option ((Bool) ⊕ (Unit))
  | [⟨(.slc (.st 43)), a0⟩, ⟨(.slc (.st 43)), a1⟩, ⟨(.int .i64), a2⟩, ⟨(.int .i64), a3⟩] => rec a0 a1 a2 a3
  | _ => none
def qbm_enc4 : Nat → List (TV U) → Option ((Bool) ⊕ (Unit))
  | 0, [⟨.bool, a0⟩] => some (.inl a0)
  | 1, [] => some (.inr ())
  | _, _ => none
def qbm_dec4 : (Bool) ⊕ (Unit) → Nat × List (TV U) := fun r => match r with | (.inl x) => (0, [⟨.bool, x⟩]) | (.inr x) => (1, [])
def qbm_tr4 : (Bool) ⊕ (Unit) → Tr (Nat × List (TV U)) := fun r => .alt r (fun x => .ret (0, [⟨.bool, x⟩])) (fun y => (fun x => .ret (1, [])) y)
def qbm_lp4 (rec_qbm : List (TStmt) → List (TStmt) → Option (Bool)) : Lift.Loop U := ⟨qbm_sh4, qbm_o4, fun ls => .get (qbm_rec4 (qbm_l4 rec_qbm) ls) qbm_tr4⟩
theorem qbm_ok4 (rec_qbm : List (TStmt) → List (TStmt) → Option (Bool)) (hrec_qbm : ModeOk kk env0 38 (qbm_rmd rec_qbm)) : LoopR kk env0 Tryz.f38.ntmps qbm_b4 (qbm_lp4 rec_qbm) :=
  loop_of qbm_enc4 qbm_dec4 (fun n => qbm_rec4 (qbm_i4 rec_qbm n)) (kitOk_of eqOk mixed (known87 rec_qbm hrec_qbm)) (L := jnL) (loopsOk_of (bs := []) (by kernel_rfl) trivial) (by intro r; rcases r with r | r <;> rfl) (by intro i qs r h; unfold qbm_enc4 at h; split at h <;> cases h <;> rfl)
    (by intro ls r h; unfold qbm_rec4 at h; split at h <;> cases h)
    (by intro n ls r h; unfold qbm_rec4 at h; split at h; exact (show _ = qbm_t4 rec_qbm (qbm_i4 rec_qbm n) _ _ _ _ from by kernel_rfl).trans h; cases h) (by rw [qbm_l4, sealF_eq])
def qbm_L (rec_qbm : List (TStmt) → List (TStmt) → Option (Bool)) : Nat → Option (Lift.Loop U) := fun n => bif Nat.beq n joinKey then some joinMark else bif Nat.beq n 4 then some (qbm_lp4 rec_qbm) else none
def qbm_enc : Nat → List (TV U) → Option (Bool)
  | 0, [⟨.bool, a0⟩] => some a0
  | _, _ => none
def qbm_dec : Bool → Nat × List (TV U) := fun x => (0, [⟨.bool, x⟩])
def qbm_md : Mode U := qbm_rmd qbm
theorem qbm_step (rec_qbm : List (TStmt) → List (TStmt) → Option (Bool)) (hrec_qbm : ModeOk kk env0 38 (qbm_rmd rec_qbm)) : LoopsOk (Kit.withModes kk (modesOf (ms87 rec_qbm))) env0 Tryz.f38.ntmps (qbm_L rec_qbm) (bodyOf Tryz.f38) := loopsOk_of (bs := [qbm_b4]) (by kernel_rfl) ⟨.inr ⟨_, by kernel_rfl, LoopOk.of_round (qbm_ok4 rec_qbm hrec_qbm)⟩, trivial⟩
theorem qbm_post : ModeOk kk env0 38 (qbm_rmd qbm) :=
  rec_of (K := kk) (F := qbm) qbm_rmd qbm_i (by rw [qbm, sealF_eq]) (rec_zero (by intro ls r h; unfold qbm_in at h; split at h <;> cases h)) (fun n ih => fn_of (fn := Tryz.f38) qbm_enc qbm_dec (kitOk_of eqOk mixed (known87 (qbm_i n) ih)) (by kernel_rfl) (qbm_step (qbm_i n) ih) (fun _ => rfl) (by intro i qs r h; unfold qbm_enc at h; split at h <;> cases h <;> rfl)
    (by intro ls r h; unfold qbm_in at h; split at h; exact (show _ = qbm_f (qbm_i n) _ _ from by kernel_rfl).trans h; cases h))
def ms88 : List (FuncId × Mode U) := (38, qbm_md) :: ms85
theorem known88 : Known kk env0 (modesOf ms88) := known_cons (by kernel_rfl) qbm_post known85
def qbH_sh : StSh := ⟨⟨[0, 1], [], []⟩, [.t (.st 38), .t (.st 38)], []⟩
def qbH_os : List StSh := [⟨⟨[0], [], []⟩, [.t .bool], []⟩]
def qbH_tr : Bool → Tr (Nat × List (TV U)) := fun x => .ret (0, [⟨.bool, x⟩])
def qbH_enc : Nat → List (TV U) → Option (Bool)
  | 0, [⟨.bool, a0⟩] => some a0
  | _, _ => none
def qbH_dec : Bool → Nat × List (TV U) := fun x => (0, [⟨.bool, x⟩])
def qbH_in : List (TV U) → Option (Bool)
  | [⟨(.st 38), a0⟩, ⟨(.st 38), a1⟩] => qbH a0 a1
  | _ => none
def qbH_md : Mode U := ⟨qbH_sh, [], qbH_os, fun ls => .get (qbH_in ls) qbH_tr⟩
theorem qbH_post : ModeOk kk env0 37 qbH_md :=
  fn_of (fn := Tryz.f37) qbH_enc qbH_dec (kitOk_of eqOk mixed known88) (by kernel_rfl) (L := jnL) (loopsOk_of (bs := []) (by kernel_rfl) trivial) (fun _ => rfl) (by intro i qs r h; unfold qbH_enc at h; split at h <;> cases h <;> rfl)
    (by intro ls r h; unfold qbH_in at h; split at h; rw [qbH, sealF_eq] at h; exact Eq.trans (by kernel_rfl) h; cases h)
def ms89 : List (FuncId × Mode U) := (37, qbH_md) :: ms88
theorem known89 : Known kk env0 (modesOf ms89) := known_cons (by kernel_rfl) qbH_post known88
def qbn_sh4 : StSh := ⟨⟨[1, 2, 15, 16, 17], [], []⟩, [.t (.slc (.st 38)), .fnc 37, .t (.slc (.st 38)), .t (.int .i64), .t (.int .i64)], []⟩
def qbn_o4 : List Out := [⟨.ret, ⟨⟨[6], [], []⟩, [.t .bool], []⟩⟩, ⟨.exit 0, ⟨⟨[], [], []⟩, [], []⟩⟩]
def qbn_b4 : Code := (nthLoop (bodyOf Tryz.f36) 0)
def qbn_rec4 (rec : List (TThread) → List (TThread) → Int → Int → Option ((Bool) ⊕ (Unit))) : List (TV U) → Option ((Bool) ⊕ (Unit))
  | [⟨(.slc (.st 38)), a0⟩, ⟨(.slc (.st 38)), a1⟩, ⟨(.int .i64), a2⟩, ⟨(.int .i64), a3⟩] => rec a0 a1 a2 a3
  | _ => none
def qbn_enc4 : Nat → List (TV U) → Option ((Bool) ⊕ (Unit))
  | 0, [⟨.bool, a0⟩] => some (.inl a0)
  | 1, [] => some (.inr ())
  | _, _ => none
def qbn_dec4 : (Bool) ⊕ (Unit) → Nat × List (TV U) := fun r => match r with | (.inl x) => (0, [⟨.bool, x⟩]) | (.inr x) => (1, [])
def qbn_tr4 : (Bool) ⊕ (Unit) → Tr (Nat × List (TV U)) := fun r => .alt r (fun x => .ret (0, [⟨.bool, x⟩])) (fun y => (fun x => .ret (1, [])) y)
def qbn_lp4 : Lift.Loop U := ⟨qbn_sh4, qbn_o4, fun ls => .get (qbn_rec4 qbn_l4 ls) qbn_tr4⟩
theorem qbn_ok4 : LoopR kk env0 Tryz.f36.ntmps qbn_b4 qbn_lp4 :=
  loop_of qbn_enc4 qbn_dec4 (fun n => qbn_rec4 (qbn_i4 n)) (kitOk_of eqOk mixed known89) (L := jnL) (loopsOk_of (bs := []) (by kernel_rfl) trivial) (by intro r; rcases r with r | r <;> rfl) (by intro i qs r h; unfold qbn_enc4 at h; split at h <;> cases h <;> rfl)
    (by intro ls r h; unfold qbn_rec4 at h; split at h <;> cases h)
    (by intro n ls r h; unfold qbn_rec4 at h; split at h; exact (show _ = qbn_t4 (qbn_i4 n) _ _ _ _ from by kernel_rfl).trans h; cases h) (by rw [qbn_l4, sealF_eq])
def qbn_sh : StSh := ⟨⟨[0, 1, 2], [], []⟩, [.t (.slc (.st 38)), .t (.slc (.st 38)), .fnc 37], []⟩
def qbn_os : List StSh := [⟨⟨[0], [], []⟩, [.t .bool], []⟩]
def qbn_tr : Bool → Tr (Nat × List (TV U)) := fun x => .ret (0, [⟨.bool, x⟩])
def qbn_L : Nat → Option (Lift.Loop U) := fun n => bif Nat.beq n joinKey then some joinMark else bif Nat.beq n 4 then some qbn_lp4 else none
def qbn_enc : Nat → List (TV U) → Option (Bool)
  | 0, [⟨.bool, a0⟩] => some a0
  | _, _ => none
def qbn_dec : Bool → Nat × List (TV U) := fun x => (0, [⟨.bool, x⟩])
def qbn_in : List (TV U) → Option (Bool)
  | [⟨(.slc (.st 38)), a0⟩, ⟨(.slc (.st 38)), a1⟩] => qbn a0 a1
  | _ => none
def qbn_md : Mode U := ⟨qbn_sh, [], qbn_os, fun ls => .get (qbn_in ls) qbn_tr⟩
theorem qbn_post : ModeOk kk env0 36 qbn_md :=
  fn_of (fn := Tryz.f36) qbn_enc qbn_dec (kitOk_of eqOk mixed known89) (by kernel_rfl) (L := qbn_L) (loopsOk_of (bs := [qbn_b4]) (by kernel_rfl) ⟨.inr ⟨_, by kernel_rfl, LoopOk.of_round (qbn_ok4)⟩, trivial⟩) (fun _ => rfl) (by intro i qs r h; unfold qbn_enc at h; split at h <;> cases h <;> rfl)
    (by intro ls r h; unfold qbn_in at h; split at h; rw [qbn, sealF_eq] at h; exact Eq.trans (by kernel_rfl) h; cases h)
def ms90 : List (FuncId × Mode U) := (36, qbn_md) :: ms89
theorem known90 : Known kk env0 (modesOf ms90) := known_cons (by kernel_rfl) qbn_post known89
def qbG_sh : StSh := ⟨⟨[0, 1], [], []⟩, [.t (.st 26), .t (.st 26)], []⟩
def qbG_os : List StSh := [⟨⟨[0], [], []⟩, [.t .bool], []⟩]
def qbG_tr : Bool → Tr (Nat × List (TV U)) := fun x => .ret (0, [⟨.bool, x⟩])
def qbG_enc : Nat → List (TV U) → Option (Bool)
  | 0, [⟨.bool, a0⟩] => some a0
  | _, _ => none
def qbG_dec : Bool → Nat × List (TV U) := fun x => (0, [⟨.bool, x⟩])
def qbG_in : List (TV U) → Option (Bool)
  | [⟨(.st 26), a0⟩, ⟨(.st 26), a1⟩] => qbG a0 a1
  | _ => none
def qbG_md : Mode U := ⟨qbG_sh, [], qbG_os, fun ls => .get (qbG_in ls) qbG_tr⟩
theorem qbG_post : ModeOk kk env0 18 qbG_md :=
  fn_of (fn := Tryz.f18) qbG_enc qbG_dec (kitOk_of eqOk mixed known90) (by kernel_rfl) (L := jnL) (loopsOk_of (bs := []) (by kernel_rfl) trivial) (fun _ => rfl) (by intro i qs r h; unfold qbG_enc at h; split at h <;> cases h <;> rfl)
    (by intro ls r h; unfold qbG_in at h; split at h; rw [qbG, sealF_eq] at h; exact Eq.trans (by kernel_rfl) h; cases h)
def ms91 : List (FuncId × Mode U) := (18, qbG_md) :: ms90
theorem known91 : Known kk env0 (modesOf ms91) := known_cons (by kernel_rfl) qbG_post known90
def qav_sh : StSh := ⟨⟨[], [], []⟩, [], []⟩
def qav_os : List StSh := [⟨⟨[0], [], []⟩, [.t .bool], []⟩]
def qav_tr : Bool → Tr (Nat × List (TV U)) := fun x => .ret (0, [⟨.bool, x⟩])
def qav_enc : Nat → List (TV U) → Option (Bool)
  | 0, [⟨.bool, a0⟩] => some a0
  | _, _ => none
def qav_dec : Bool → Nat × List (TV U) := fun x => (0, [⟨.bool, x⟩])
def qav_in : List (TV U) → Option (Bool)
  | [] => qav
  | _ => none
def qav_md : Mode U := ⟨qav_sh, [], qav_os, fun ls => .get (qav_in ls) qav_tr⟩
theorem qav_post : ModeOk kk env0 9 qav_md :=
  fn_of (fn := Tryz.f9) qav_enc qav_dec (kitOk_of eqOk mixed known91) (by kernel_rfl) (L := jnL) (loopsOk_of (bs := []) (by kernel_rfl) trivial) (fun _ => rfl) (by intro i qs r h; unfold qav_enc at h; split at h <;> cases h <;> rfl)
    (by intro ls r h; unfold qav_in at h; split at h; rw [qav, sealF_eq] at h; exact Eq.trans (by kernel_rfl) h; cases h)
def ms92 : List (FuncId × Mode U) := (9, qav_md) :: ms91
theorem known92 : Known kk env0 (modesOf ms92) := known_cons (by kernel_rfl) qav_post known91
def qaQ_sh : StSh := ⟨⟨[0], [], []⟩, [.t (.st 41)], []⟩
def qaQ_os : List StSh := [⟨⟨[0], [], [⟨.sub 0 3, 100400, 41, (.st 1041)⟩]⟩, [.agg [.t (.int .i64), .t (.int .i64), .t .str, .oslc 100400]], [.row 41 (.st 1041)]⟩]
def qaQ_tr : Int × Int × (List UInt8) × (List (TExpr)) → Tr (Nat × List (TV U)) := fun x => .ret (0, [⟨(.int .i64), x.1⟩, ⟨(.int .i64), x.2.1⟩, ⟨.str, x.2.2.1⟩, ⟨(.slc (.st 1041)), x.2.2.2⟩])
def qaQ_in (rec_qaQ : TExpr → Option (Int × Int × (List UInt8) × (List (TExpr)))) : List (TV U) → Option (Int × Int × (List UInt8) × (List (TExpr)))
  | [⟨(.st 41), a0⟩] => rec_qaQ a0
  | _ => none
def qaQ_rmd (rec_qaQ : TExpr → Option (Int × Int × (List UInt8) × (List (TExpr)))) : Mode U := ⟨qaQ_sh, [], qaQ_os, fun ls => .get (qaQ_in rec_qaQ ls) qaQ_tr⟩
def ms93 (rec_qaQ : TExpr → Option (Int × Int × (List UInt8) × (List (TExpr)))) : List (FuncId × Mode U) := (55, (qaQ_rmd rec_qaQ)) :: ms92
theorem known93 (rec_qaQ : TExpr → Option (Int × Int × (List UInt8) × (List (TExpr)))) (hrec_qaQ : ModeOk kk env0 55 (qaQ_rmd rec_qaQ)) : Known kk env0 (modesOf (ms93 rec_qaQ)) := known_cons (by kernel_rfl) hrec_qaQ known92
def qaQ_sh3 : StSh := ⟨⟨[1, 2, 3, 4], [1, 2, 3], [⟨.cell 3 3, 20153, 41, (.st 1041)⟩]⟩, [.ptr 1 0, .ptr 2 0, .ptr 3 0, .t (.int .i64)], [.blk 41 [.t (.int .i64), .t (.int .i64), .t .str, .t (.slc (.st 41))], .blk 41 [.t (.int .i64), .t (.int .i64), .t .str, .nil], .blk 41 [.t (.int .i64), .t (.int .i64), .t .str, .oslc 20153], .row 41 (.st 1041)]⟩
def qaQ_o3 : List Out := [⟨.exit 0, ⟨⟨[2, 3], [2, 3], [⟨.cell 3 3, 20153, 41, (.st 1041)⟩]⟩, [.ptr 2 0, .ptr 3 0], [.blk 41 [.t (.int .i64), .t (.int .i64), .t .str, .nil], .blk 41 [.t (.int .i64), .t (.int .i64), .t .str, .oslc 20153], .row 41 (.st 1041)]⟩⟩]
def qaQ_b3 : Code := (nthLoop (bodyOf Tryz.f55) 0)
def qaQ_rec3 (rec : Int → Int → Int → List UInt8 → List (TExpr) → Int → Int → List UInt8 → Int → Int → List UInt8 → List (TExpr) → Option (Int × Int × (List UInt8) × Int × Int × (List UInt8) × (List (TExpr)))) : List (TV U) → Option (Int × Int × (List UInt8) × Int × Int × (List UInt8) × (List (TExpr)))
  | [⟨(.int .i64), a0⟩, ⟨(.int .i64), a1⟩, ⟨(.int .i64), a2⟩, ⟨.str, a3⟩, ⟨(.slc (.st 41)), a4⟩, ⟨(.int .i64), a5⟩, ⟨(.int .i64), a6⟩, ⟨.str, a7⟩, ⟨(.int .i64), a8⟩, ⟨(.int .i64), a9⟩, ⟨.str, a10⟩, ⟨(.slc (.st 1041)), a11⟩] => rec a0 a1 a2 a3 a4 a5 a6 a7 a8 a9 a10 a11
  | _ => none
def qaQ_enc3 : Nat → List (TV U) → Option (Int × Int × (List UInt8) × Int × Int × (List UInt8) × (List (TExpr)))
  | 0, [⟨(.int .i64), a0⟩, ⟨(.int .i64), a1⟩, ⟨.str, a2⟩, ⟨(.int .i64), a3⟩, ⟨(.int .i64), a4⟩, ⟨.str, a5⟩, ⟨(.slc (.st 1041)), a6⟩] => some (a0, a1, a2, a3, a4, a5, a6)
  | _, _ => none
def qaQ_dec3 : Int × Int × (List UInt8) × Int × Int × (List UInt8) × (List (TExpr)) → Nat × List (TV U) := fun x => (0, [⟨(.int .i64), x.1⟩, ⟨(.int .i64), x.2.1⟩, ⟨.str, x.2.2.1⟩, ⟨(.int .i64), x.2.2.2.1⟩, ⟨(.int .i64), x.2.2.2.2.1⟩, ⟨.str, x.2.2.2.2.2.1⟩, ⟨(.slc (.st 1041)), x.2.2.2.2.2.2⟩])
def qaQ_tr3 : Int × Int × (List UInt8) × Int × Int × (List UInt8) × (List (TExpr)) → Tr (Nat × List (TV U)) := fun x => .ret (0, [⟨(.int .i64), x.1⟩, ⟨(.int .i64), x.2.1⟩, ⟨.str, x.2.2.1⟩, ⟨(.int .i64), x.2.2.2.1⟩, ⟨(.int .i64), x.2.2.2.2.1⟩, ⟨.str, x.2.2.2.2.2.1⟩, ⟨(.slc (.st 1041)), x.2.2.2.2.2.2⟩])
def qaQ_lp3 (rec_qaQ : TExpr → Option (Int × Int × (List UInt8) × (List (TExpr)))) : Lift.Loop U := ⟨qaQ_sh3, qaQ_o3, fun ls => .get (qaQ_rec3 (qaQ_l3 rec_qaQ) ls) qaQ_tr3⟩
theorem qaQ_ok3 (rec_qaQ : TExpr → Option (Int × Int × (List UInt8) × (List (TExpr)))) (hrec_qaQ : ModeOk kk env0 55 (qaQ_rmd rec_qaQ)) : LoopR kk env0 Tryz.f55.ntmps qaQ_b3 (qaQ_lp3 rec_qaQ) :=
  loop_of qaQ_enc3 qaQ_dec3 (fun n => qaQ_rec3 (qaQ_i3 rec_qaQ n)) (kitOk_of eqOk mixed (known93 rec_qaQ hrec_qaQ)) (L := jnL) (loopsOk_of (bs := []) (by kernel_rfl) trivial) (fun _ => rfl) (by intro i qs r h; unfold qaQ_enc3 at h; split at h <;> cases h <;> rfl)
    (by intro ls r h; unfold qaQ_rec3 at h; split at h <;> cases h)
    (by intro n ls r h; unfold qaQ_rec3 at h; split at h; exact (show _ = qaQ_t3 rec_qaQ (qaQ_i3 rec_qaQ n) _ _ _ _ _ _ _ _ _ _ _ _ from by kernel_rfl).trans h; cases h) (by rw [qaQ_l3, sealF_eq])
def qaQ_L (rec_qaQ : TExpr → Option (Int × Int × (List UInt8) × (List (TExpr)))) : Nat → Option (Lift.Loop U) := fun n => bif Nat.beq n joinKey then some joinMark else bif Nat.beq n 3 then some (qaQ_lp3 rec_qaQ) else none
def qaQ_enc : Nat → List (TV U) → Option (Int × Int × (List UInt8) × (List (TExpr)))
  | 0, [⟨(.int .i64), a0⟩, ⟨(.int .i64), a1⟩, ⟨.str, a2⟩, ⟨(.slc (.st 1041)), a3⟩] => some (a0, a1, a2, a3)
  | _, _ => none
def qaQ_dec : Int × Int × (List UInt8) × (List (TExpr)) → Nat × List (TV U) := fun x => (0, [⟨(.int .i64), x.1⟩, ⟨(.int .i64), x.2.1⟩, ⟨.str, x.2.2.1⟩, ⟨(.slc (.st 1041)), x.2.2.2⟩])
def qaQ_md : Mode U := qaQ_rmd qaQ
theorem qaQ_step (rec_qaQ : TExpr → Option (Int × Int × (List UInt8) × (List (TExpr)))) (hrec_qaQ : ModeOk kk env0 55 (qaQ_rmd rec_qaQ)) : LoopsOk (Kit.withModes kk (modesOf (ms93 rec_qaQ))) env0 Tryz.f55.ntmps (qaQ_L rec_qaQ) (bodyOf Tryz.f55) := loopsOk_of (bs := [qaQ_b3]) (by kernel_rfl) ⟨.inr ⟨_, by kernel_rfl, LoopOk.of_round (qaQ_ok3 rec_qaQ hrec_qaQ)⟩, trivial⟩
theorem qaQ_post : ModeOk kk env0 55 (qaQ_rmd qaQ) :=
  rec_of (K := kk) (F := qaQ) qaQ_rmd qaQ_i (by rw [qaQ, sealF_eq]) (rec_zero (by intro ls r h; unfold qaQ_in at h; split at h <;> cases h)) (fun n ih => fn_of (fn := Tryz.f55) qaQ_enc qaQ_dec (kitOk_of eqOk mixed (known93 (qaQ_i n) ih)) (by kernel_rfl) (qaQ_step (qaQ_i n) ih) (fun _ => rfl) (by intro i qs r h; unfold qaQ_enc at h; split at h <;> cases h <;> rfl)
    (by intro ls r h; unfold qaQ_in at h; split at h; exact (show _ = qaQ_f (qaQ_i n) _ from by kernel_rfl).trans h; cases h))
def ms94 : List (FuncId × Mode U) := (55, qaQ_md) :: ms92
theorem known94 : Known kk env0 (modesOf ms94) := known_cons (by kernel_rfl) qaQ_post known92
def qaR_sh : StSh := ⟨⟨[0], [], []⟩, [.t (.slc (.st 43))], []⟩
def qaR_os : List StSh := [⟨⟨[0], [], [⟨.slot 0, 100000, 43, (.st 1043)⟩]⟩, [.oslc 100000], [.row 43 (.st 1043)]⟩]
def qaR_tr : (List (TStmt)) → Tr (Nat × List (TV U)) := fun x => .ret (0, [⟨(.slc (.st 1043)), x⟩])
def qaR_in (rec_qaR : List (TStmt) → Option ((List (TStmt)))) : List (TV U) → Option ((List (TStmt)))
  | [⟨(.slc (.st 43)), a0⟩] => rec_qaR a0
  | _ => none
def qaR_rmd (rec_qaR : List (TStmt) → Option ((List (TStmt)))) : Mode U := ⟨qaR_sh, [], qaR_os, fun ls => .get (qaR_in rec_qaR ls) qaR_tr⟩
def ms95 (rec_qaR : List (TStmt) → Option ((List (TStmt)))) : List (FuncId × Mode U) := (23, (qaR_rmd rec_qaR)) :: ms94
theorem known95 (rec_qaR : List (TStmt) → Option ((List (TStmt)))) (hrec_qaR : ModeOk kk env0 23 (qaR_rmd rec_qaR)) : Known kk env0 (modesOf (ms95 rec_qaR)) := known_cons (by kernel_rfl) hrec_qaR known94
def qaR_sh3 : StSh := ⟨⟨[0, 3, 4], [], [⟨.slot 3, 3, 43, (.st 1043)⟩]⟩, [.t (.slc (.st 43)), .oslc 3, .t (.int .i64)], [.row 43 (.st 1043)]⟩
def qaR_o3 : List Out := [⟨.exit 0, ⟨⟨[3], [], [⟨.slot 3, 3, 43, (.st 1043)⟩]⟩, [.oslc 3], [.row 43 (.st 1043)]⟩⟩]
def qaR_b3 : Code := (nthLoop (bodyOf Tryz.f23) 0)
def qaR_rec3 (rec : List (TStmt) → Int → List (TStmt) → Option ((List (TStmt)))) : List (TV U) → Option ((List (TStmt)))
  | [⟨(.slc (.st 43)), a0⟩, ⟨(.int .i64), a1⟩, ⟨(.slc (.st 1043)), a2⟩] => rec a0 a1 a2
  | _ => none
def qaR_enc3 : Nat → List (TV U) → Option ((List (TStmt)))
  | 0, [⟨(.slc (.st 1043)), a0⟩] => some a0
  | _, _ => none
def qaR_dec3 : (List (TStmt)) → Nat × List (TV U) := fun x => (0, [⟨(.slc (.st 1043)), x⟩])
def qaR_tr3 : (List (TStmt)) → Tr (Nat × List (TV U)) := fun x => .ret (0, [⟨(.slc (.st 1043)), x⟩])
def qaR_lp3 (rec_qaR : List (TStmt) → Option ((List (TStmt)))) : Lift.Loop U := ⟨qaR_sh3, qaR_o3, fun ls => .get (qaR_rec3 (qaR_l3 rec_qaR) ls) qaR_tr3⟩
theorem qaR_ok3 (rec_qaR : List (TStmt) → Option ((List (TStmt)))) (hrec_qaR : ModeOk kk env0 23 (qaR_rmd rec_qaR)) : LoopR kk env0 Tryz.f23.ntmps qaR_b3 (qaR_lp3 rec_qaR) :=
  loop_of qaR_enc3 qaR_dec3 (fun n => qaR_rec3 (qaR_i3 rec_qaR n)) (kitOk_of eqOk mixed (known95 rec_qaR hrec_qaR)) (L := jnL) (loopsOk_of (bs := []) (by kernel_rfl) trivial) (fun _ => rfl) (by intro i qs r h; unfold qaR_enc3 at h; split at h <;> cases h <;> rfl)
    (by intro ls r h; unfold qaR_rec3 at h; split at h <;> cases h)
    (by intro n ls r h; unfold qaR_rec3 at h; split at h; exact (show _ = qaR_t3 rec_qaR (qaR_i3 rec_qaR n) _ _ _ from by kernel_rfl).trans h; cases h) (by rw [qaR_l3, sealF_eq])
def qaR_L (rec_qaR : List (TStmt) → Option ((List (TStmt)))) : Nat → Option (Lift.Loop U) := fun n => bif Nat.beq n joinKey then some joinMark else bif Nat.beq n 3 then some (qaR_lp3 rec_qaR) else none
def qaR_enc : Nat → List (TV U) → Option ((List (TStmt)))
  | 0, [⟨(.slc (.st 1043)), a0⟩] => some a0
  | _, _ => none
def qaR_dec : (List (TStmt)) → Nat × List (TV U) := fun x => (0, [⟨(.slc (.st 1043)), x⟩])
def qaR_md : Mode U := qaR_rmd qaR
theorem qaR_step (rec_qaR : List (TStmt) → Option ((List (TStmt)))) (hrec_qaR : ModeOk kk env0 23 (qaR_rmd rec_qaR)) : LoopsOk (Kit.withModes kk (modesOf (ms95 rec_qaR))) env0 Tryz.f23.ntmps (qaR_L rec_qaR) (bodyOf Tryz.f23) := loopsOk_of (bs := [qaR_b3]) (by kernel_rfl) ⟨.inr ⟨_, by kernel_rfl, LoopOk.of_round (qaR_ok3 rec_qaR hrec_qaR)⟩, trivial⟩
theorem qaR_post : ModeOk kk env0 23 (qaR_rmd qaR) :=
  rec_of (K := kk) (F := qaR) qaR_rmd qaR_i (by rw [qaR, sealF_eq]) (rec_zero (by intro ls r h; unfold qaR_in at h; split at h <;> cases h)) (fun n ih => fn_of (fn := Tryz.f23) qaR_enc qaR_dec (kitOk_of eqOk mixed (known95 (qaR_i n) ih)) (by kernel_rfl) (qaR_step (qaR_i n) ih) (fun _ => rfl) (by intro i qs r h; unfold qaR_enc at h; split at h <;> cases h <;> rfl)
    (by intro ls r h; unfold qaR_in at h; split at h; exact (show _ = qaR_f (qaR_i n) _ from by kernel_rfl).trans h; cases h))
def ms96 : List (FuncId × Mode U) := (23, qaR_md) :: ms94
theorem known96 : Known kk env0 (modesOf ms96) := known_cons (by kernel_rfl) qaR_post known94
def qaP_sh5 : StSh := ⟨⟨[1, 2, 3, 4], [1, 2, 3], [⟨.cell 3 0, 20150, 46, (.st 46)⟩, ⟨.cell 3 1, 20151, 9, .str⟩, ⟨.cell 3 2, 20152, 38, (.st 1038)⟩]⟩, [.ptr 1 0, .ptr 2 0, .ptr 3 0, .t (.int .i64)], [.blk 26 [.t (.slc (.st 46)), .t (.slc .str), .t (.slc (.st 38))], .blk 26 [.nil, .nil, .nil], .blk 26 [.oslc 20150, .oslc 20151, .oslc 20152], .row 46 (.st 46), .row 9 .str, .row 38 (.st 1038)]⟩
def qaP_o5 : List Out := [⟨.exit 0, ⟨⟨[2, 3], [2, 3], [⟨.cell 3 0, 20150, 46, (.st 46)⟩, ⟨.cell 3 1, 20151, 9, .str⟩, ⟨.cell 3 2, 20152, 38, (.st 1038)⟩]⟩, [.ptr 2 0, .ptr 3 0], [.blk 26 [.nil, .nil, .nil], .blk 26 [.oslc 20150, .oslc 20151, .oslc 20152], .row 46 (.st 46), .row 9 .str, .row 38 (.st 1038)]⟩⟩]
def qaP_b5 : Code := (nthLoop (bodyOf Tryz.f10) 0)
def qaP_rec5 (rec : Int → List (TCell) → List (List UInt8) → List (TThread) → List (TCell) → List (List UInt8) → List (TThread) → Option ((List (TCell)) × (List (List UInt8)) × (List (TThread)))) : List (TV U) → Option ((List (TCell)) × (List (List UInt8)) × (List (TThread)))
  | [⟨(.int .i64), a0⟩, ⟨(.slc (.st 46)), a1⟩, ⟨(.slc .str), a2⟩, ⟨(.slc (.st 38)), a3⟩, ⟨(.slc (.st 46)), a4⟩, ⟨(.slc .str), a5⟩, ⟨(.slc (.st 1038)), a6⟩] => rec a0 a1 a2 a3 a4 a5 a6
  | _ => none
def qaP_enc5 : Nat → List (TV U) → Option ((List (TCell)) × (List (List UInt8)) × (List (TThread)))
  | 0, [⟨(.slc (.st 46)), a0⟩, ⟨(.slc .str), a1⟩, ⟨(.slc (.st 1038)), a2⟩] => some (a0, a1, a2)
  | _, _ => none
def qaP_dec5 : (List (TCell)) × (List (List UInt8)) × (List (TThread)) → Nat × List (TV U) := fun x => (0, [⟨(.slc (.st 46)), x.1⟩, ⟨(.slc .str), x.2.1⟩, ⟨(.slc (.st 1038)), x.2.2⟩])
def qaP_tr5 : (List (TCell)) × (List (List UInt8)) × (List (TThread)) → Tr (Nat × List (TV U)) := fun x => .ret (0, [⟨(.slc (.st 46)), x.1⟩, ⟨(.slc .str), x.2.1⟩, ⟨(.slc (.st 1038)), x.2.2⟩])
def qaP_lp5 : Lift.Loop U := ⟨qaP_sh5, qaP_o5, fun ls => .get (qaP_rec5 qaP_l5 ls) qaP_tr5⟩
theorem qaP_ok5 : LoopR kk env0 Tryz.f10.ntmps qaP_b5 qaP_lp5 :=
  loop_of qaP_enc5 qaP_dec5 (fun n => qaP_rec5 (qaP_i5 n)) (kitOk_of eqOk mixed known96) (L := jnL) (loopsOk_of (bs := []) (by kernel_rfl) trivial) (fun _ => rfl) (by intro i qs r h; unfold qaP_enc5 at h; split at h <;> cases h <;> rfl)
    (by intro ls r h; unfold qaP_rec5 at h; split at h <;> cases h)
    (by intro n ls r h; unfold qaP_rec5 at h; split at h; exact (show _ = qaP_t5 (qaP_i5 n) _ _ _ _ _ _ _ from by kernel_rfl).trans h; cases h) (by rw [qaP_l5, sealF_eq])
def qaP_sh : StSh := ⟨⟨[0], [], []⟩, [.t (.st 26)], []⟩
def qaP_os : List StSh := [⟨⟨[0], [], [⟨.sub 0 0, 100100, 46, (.st 46)⟩, ⟨.sub 0 1, 100200, 9, .str⟩, ⟨.sub 0 2, 100300, 38, (.st 1038)⟩]⟩, [.agg [.oslc 100100, .oslc 100200, .oslc 100300]], [.row 46 (.st 46), .row 9 .str, .row 38 (.st 1038)]⟩]
def qaP_tr : (List (TCell)) × (List (List UInt8)) × (List (TThread)) → Tr (Nat × List (TV U)) := fun x => .ret (0, [⟨(.slc (.st 46)), x.1⟩, ⟨(.slc .str), x.2.1⟩, ⟨(.slc (.st 1038)), x.2.2⟩])
def qaP_L : Nat → Option (Lift.Loop U) := fun n => bif Nat.beq n joinKey then some joinMark else bif Nat.beq n 5 then some qaP_lp5 else none
def qaP_enc : Nat → List (TV U) → Option ((List (TCell)) × (List (List UInt8)) × (List (TThread)))
  | 0, [⟨(.slc (.st 46)), a0⟩, ⟨(.slc .str), a1⟩, ⟨(.slc (.st 1038)), a2⟩] => some (a0, a1, a2)
  | _, _ => none
def qaP_dec : (List (TCell)) × (List (List UInt8)) × (List (TThread)) → Nat × List (TV U) := fun x => (0, [⟨(.slc (.st 46)), x.1⟩, ⟨(.slc .str), x.2.1⟩, ⟨(.slc (.st 1038)), x.2.2⟩])
def qaP_in : List (TV U) → Option ((List (TCell)) × (List (List UInt8)) × (List (TThread)))
  | [⟨(.st 26), a0⟩] => qaP a0
  | _ => none
def qaP_md : Mode U := ⟨qaP_sh, [], qaP_os, fun ls => .get (qaP_in ls) qaP_tr⟩
theorem qaP_post : ModeOk kk env0 10 qaP_md :=
  fn_of (fn := Tryz.f10) qaP_enc qaP_dec (kitOk_of eqOk mixed known96) (by kernel_rfl) (L := qaP_L) (loopsOk_of (bs := [qaP_b5]) (by kernel_rfl) ⟨.inr ⟨_, by kernel_rfl, LoopOk.of_round (qaP_ok5)⟩, trivial⟩) (fun _ => rfl) (by intro i qs r h; unfold qaP_enc at h; split at h <;> cases h <;> rfl)
    (by intro ls r h; unfold qaP_in at h; split at h; rw [qaP, sealF_eq] at h; exact Eq.trans (by kernel_rfl) h; cases h)
def ms97 : List (FuncId × Mode U) := (10, qaP_md) :: ms96
theorem known97 : Known kk env0 (modesOf ms97) := known_cons (by kernel_rfl) qaP_post known96
def qaz_sh : StSh := ⟨⟨[0], [], []⟩, [.t (.int .i64)], []⟩
def qaz_os : List StSh := [⟨⟨[0], [], []⟩, [.t .bool], []⟩]
def qaz_tr : Bool → Tr (Nat × List (TV U)) := fun x => .ret (0, [⟨.bool, x⟩])
def qaz_enc : Nat → List (TV U) → Option (Bool)
  | 0, [⟨.bool, a0⟩] => some a0
  | _, _ => none
def qaz_dec : Bool → Nat × List (TV U) := fun x => (0, [⟨.bool, x⟩])
def qaz_in : List (TV U) → Option (Bool)
  | [⟨(.int .i64), a0⟩] => qaz a0
  | _ => none
def qaz_md : Mode U := ⟨qaz_sh, [], qaz_os, fun ls => .get (qaz_in ls) qaz_tr⟩
theorem qaz_post : ModeOk kk env0 115 qaz_md :=
  fn_of (fn := Tryz.f115) qaz_enc qaz_dec (kitOk_of eqOk mixed known97) (by kernel_rfl) (L := noL) (loopsOk_of (bs := []) (by kernel_rfl) trivial) (fun _ => rfl) (by intro i qs r h; unfold qaz_enc at h; split at h <;> cases h <;> rfl)
    (by intro ls r h; unfold qaz_in at h; split at h; rw [qaz, sealF_eq] at h; exact Eq.trans (by kernel_rfl) h; cases h)
def ms98 : List (FuncId × Mode U) := (115, qaz_md) :: ms97
theorem known98 : Known kk env0 (modesOf ms98) := known_cons (by kernel_rfl) qaz_post known97
def qaC_sh : StSh := ⟨⟨[0], [], []⟩, [.t (.int .i64)], []⟩
def qaC_os : List StSh := [⟨⟨[0], [], []⟩, [.t (.int .i64)], []⟩]
def qaC_tr : Int → Tr (Nat × List (TV U)) := fun x => .ret (0, [⟨(.int .i64), x⟩])
def qaC_enc : Nat → List (TV U) → Option (Int)
  | 0, [⟨(.int .i64), a0⟩] => some a0
  | _, _ => none
def qaC_dec : Int → Nat × List (TV U) := fun x => (0, [⟨(.int .i64), x⟩])
def qaC_in : List (TV U) → Option (Int)
  | [⟨(.int .i64), a0⟩] => qaC a0
  | _ => none
def qaC_md : Mode U := ⟨qaC_sh, [], qaC_os, fun ls => .get (qaC_in ls) qaC_tr⟩
theorem qaC_post : ModeOk kk env0 124 qaC_md :=
  fn_of (fn := Tryz.f124) qaC_enc qaC_dec (kitOk_of eqOk mixed known98) (by kernel_rfl) (L := noL) (loopsOk_of (bs := []) (by kernel_rfl) trivial) (fun _ => rfl) (by intro i qs r h; unfold qaC_enc at h; split at h <;> cases h <;> rfl)
    (by intro ls r h; unfold qaC_in at h; split at h; rw [qaC, sealF_eq] at h; exact Eq.trans (by kernel_rfl) h; cases h)
def ms99 : List (FuncId × Mode U) := (124, qaC_md) :: ms98
theorem known99 : Known kk env0 (modesOf ms99) := known_cons (by kernel_rfl) qaC_post known98
def qaw_sh18 : StSh := ⟨⟨[0, 1, 7, 8, 9], [], []⟩, [.t .str, .t (.int .i64), .t (.int .i64), .t (.int .i64), .t (.int .i64)], []⟩
def qaw_o18 : List Out := [⟨.ret, ⟨⟨[4, 5], [], []⟩, [.t (.int .i64), .t (.int .i64)], []⟩⟩, ⟨.exit 1, ⟨⟨[7, 8], [], []⟩, [.t (.int .i64), .t (.int .i64)], []⟩⟩]
def qaw_b18 : Code := (nthLoop (bodyOf Tryz.f113) 0)
def qaw_rec18 (rec : List UInt8 → Int → Int → Int → Int → Option ((Int × Int) ⊕ (Int × Int))) : List (TV U) → Option ((Int × Int) ⊕ (Int × Int))
  | [⟨.str, a0⟩, ⟨(.int .i64), a1⟩, ⟨(.int .i64), a2⟩, ⟨(.int .i64), a3⟩, ⟨(.int .i64), a4⟩] => rec a0 a1 a2 a3 a4
  | _ => none
def qaw_enc18 : Nat → List (TV U) → Option ((Int × Int) ⊕ (Int × Int))
  | 0, [⟨(.int .i64), a0⟩, ⟨(.int .i64), a1⟩] => some (.inl (a0, a1))
  | 1, [⟨(.int .i64), a0⟩, ⟨(.int .i64), a1⟩] => some (.inr (a0, a1))
  | _, _ => none
def qaw_dec18 : (Int × Int) ⊕ (Int × Int) → Nat × List (TV U) := fun r => match r with | (.inl x) => (0, [⟨(.int .i64), x.1⟩, ⟨(.int .i64), x.2⟩]) | (.inr x) => (1, [⟨(.int .i64), x.1⟩, ⟨(.int .i64), x.2⟩])
def qaw_tr18 : (Int × Int) ⊕ (Int × Int) → Tr (Nat × List (TV U)) := fun r => .alt r (fun x => .ret (0, [⟨(.int .i64), x.1⟩, ⟨(.int .i64), x.2⟩])) (fun y => (fun x => .ret (1, [⟨(.int .i64), x.1⟩, ⟨(.int .i64), x.2⟩])) y)
def qaw_lp18 : Lift.Loop U := ⟨qaw_sh18, qaw_o18, fun ls => .get (qaw_rec18 qaw_l18 ls) qaw_tr18⟩
theorem qaw_ok18 : LoopR kk env0 Tryz.f113.ntmps qaw_b18 qaw_lp18 :=
  loop_of qaw_enc18 qaw_dec18 (fun n => qaw_rec18 (qaw_i18 n)) (kitOk_of eqOk mixed known99) (L := noL) (loopsOk_of (bs := []) (by kernel_rfl) trivial) (by intro r; rcases r with r | r <;> rfl) (by intro i qs r h; unfold qaw_enc18 at h; split at h <;> cases h <;> rfl)
    (by intro ls r h; unfold qaw_rec18 at h; split at h <;> cases h)
    (by intro n ls r h; unfold qaw_rec18 at h; split at h; exact (show _ = qaw_t18 (qaw_i18 n) _ _ _ _ _ from by kernel_rfl).trans h; cases h) (by rw [qaw_l18, sealF_eq])
def qaw_sh : StSh := ⟨⟨[0, 1], [], []⟩, [.t .str, .t (.int .i64)], []⟩
def qaw_os : List StSh := [⟨⟨[0, 1], [], []⟩, [.t (.int .i64), .t (.int .i64)], []⟩]
def qaw_tr : Int × Int → Tr (Nat × List (TV U)) := fun x => .ret (0, [⟨(.int .i64), x.1⟩, ⟨(.int .i64), x.2⟩])
def qaw_L : Nat → Option (Lift.Loop U) := fun n => bif Nat.beq n 18 then some qaw_lp18 else none
def qaw_enc : Nat → List (TV U) → Option (Int × Int)
  | 0, [⟨(.int .i64), a0⟩, ⟨(.int .i64), a1⟩] => some (a0, a1)
  | _, _ => none
def qaw_dec : Int × Int → Nat × List (TV U) := fun x => (0, [⟨(.int .i64), x.1⟩, ⟨(.int .i64), x.2⟩])
def qaw_in : List (TV U) → Option (Int × Int)
  | [⟨.str, a0⟩, ⟨(.int .i64), a1⟩] => qaw a0 a1
  | _ => none
def qaw_md : Mode U := ⟨qaw_sh, [], qaw_os, fun ls => .get (qaw_in ls) qaw_tr⟩
theorem qaw_post : ModeOk kk env0 113 qaw_md :=
  fn_of (fn := Tryz.f113) qaw_enc qaw_dec (kitOk_of eqOk mixed known99) (by kernel_rfl) (L := qaw_L) (loopsOk_of (bs := [qaw_b18]) (by kernel_rfl) ⟨.inr ⟨_, by kernel_rfl, LoopOk.of_round (qaw_ok18)⟩, trivial⟩) (fun _ => rfl) (by intro i qs r h; unfold qaw_enc at h; split at h <;> cases h <;> rfl)
    (by intro ls r h; unfold qaw_in at h; split at h; rw [qaw, sealF_eq] at h; exact Eq.trans (by kernel_rfl) h; cases h)
def ms100 : List (FuncId × Mode U) := (113, qaw_md) :: ms99
theorem known100 : Known kk env0 (modesOf ms100) := known_cons (by kernel_rfl) qaw_post known99
def qaD_sh : StSh := ⟨⟨[0, 1, 2], [], []⟩, [.t (.st 108), .t (.int .i64), .t (.int .i64)], []⟩
def qaD_os : List StSh := [⟨⟨[0], [], []⟩, [.t (.st 108)], []⟩]
def qaD_tr : Spot → Tr (Nat × List (TV U)) := fun x => .ret (0, [⟨(.st 108), x⟩])
def qaD_enc : Nat → List (TV U) → Option (Spot)
  | 0, [⟨(.st 108), a0⟩] => some a0
  | _, _ => none
def qaD_dec : Spot → Nat × List (TV U) := fun x => (0, [⟨(.st 108), x⟩])
def qaD_in : List (TV U) → Option (Spot)
  | [⟨(.st 108), a0⟩, ⟨(.int .i64), a1⟩, ⟨(.int .i64), a2⟩] => qaD a0 a1 a2
  | _ => none
def qaD_md : Mode U := ⟨qaD_sh, [], qaD_os, fun ls => .get (qaD_in ls) qaD_tr⟩
theorem qaD_post : ModeOk kk env0 114 qaD_md :=
  fn_of (fn := Tryz.f114) qaD_enc qaD_dec (kitOk_of eqOk mixed known100) (by kernel_rfl) (L := noL) (loopsOk_of (bs := []) (by kernel_rfl) trivial) (fun _ => rfl) (by intro i qs r h; unfold qaD_enc at h; split at h <;> cases h <;> rfl)
    (by intro ls r h; unfold qaD_in at h; split at h; rw [qaD, sealF_eq] at h; exact Eq.trans (by kernel_rfl) h; cases h)
def ms101 : List (FuncId × Mode U) := (114, qaD_md) :: ms100
theorem known101 : Known kk env0 (modesOf ms101) := known_cons (by kernel_rfl) qaD_post known100
def qaE_sh3 : StSh := ⟨⟨[0, 3, 4, 5], [3, 5], [⟨.slot 4, 4, 108, (.st 108)⟩]⟩, [.t .str, .ptr 3 0, .oslc 4, .ptr 5 0], [.blk 108 [.t (.int .i64), .t (.int .i64), .t (.int .i64), .t (.int .i64)], .blk 108 [.t (.int .i64), .t (.int .i64), .t (.int .i64), .t (.int .i64)], .row 108 (.st 108)]⟩
def qaE_o3 : List Out := [⟨.exit 0, ⟨⟨[3, 4, 5], [3, 5], [⟨.slot 4, 4, 108, (.st 108)⟩]⟩, [.ptr 3 0, .oslc 4, .ptr 5 0], [.blk 108 [.t (.int .i64), .t (.int .i64), .t (.int .i64), .t (.int .i64)], .blk 108 [.t (.int .i64), .t (.int .i64), .t (.int .i64), .t (.int .i64)], .row 108 (.st 108)]⟩⟩]
def qaE_b3 : Code := (nthLoop (bodyOf Tryz.f94) 0)
def qaE_rec3 (rec : List UInt8 → Int → Int → Int → Int → Int → Int → Int → Int → List (Spot) → Option (Int × Int × Int × Int × Int × Int × Int × Int × (List (Spot)))) : List (TV U) → Option (Int × Int × Int × Int × Int × Int × Int × Int × (List (Spot)))
  | [⟨.str, a0⟩, ⟨(.int .i64), a1⟩, ⟨(.int .i64), a2⟩, ⟨(.int .i64), a3⟩, ⟨(.int .i64), a4⟩, ⟨(.int .i64), a5⟩, ⟨(.int .i64), a6⟩, ⟨(.int .i64), a7⟩, ⟨(.int .i64), a8⟩, ⟨(.slc (.st 108)), a9⟩] => rec a0 a1 a2 a3 a4 a5 a6 a7 a8 a9
  | _ => none
def qaE_enc3 : Nat → List (TV U) → Option (Int × Int × Int × Int × Int × Int × Int × Int × (List (Spot)))
  | 0, [⟨(.int .i64), a0⟩, ⟨(.int .i64), a1⟩, ⟨(.int .i64), a2⟩, ⟨(.int .i64), a3⟩, ⟨(.int .i64), a4⟩, ⟨(.int .i64), a5⟩, ⟨(.int .i64), a6⟩, ⟨(.int .i64), a7⟩, ⟨(.slc (.st 108)), a8⟩] => some (a0, a1, a2, a3, a4, a5, a6, a7, a8)
  | _, _ => none
def qaE_dec3 : Int × Int × Int × Int × Int × Int × Int × Int × (List (Spot)) → Nat × List (TV U) := fun x => (0, [⟨(.int .i64), x.1⟩, ⟨(.int .i64), x.2.1⟩, ⟨(.int .i64), x.2.2.1⟩, ⟨(.int .i64), x.2.2.2.1⟩, ⟨(.int .i64), x.2.2.2.2.1⟩, ⟨(.int .i64), x.2.2.2.2.2.1⟩, ⟨(.int .i64), x.2.2.2.2.2.2.1⟩, ⟨(.int .i64), x.2.2.2.2.2.2.2.1⟩, ⟨(.slc (.st 108)), x.2.2.2.2.2.2.2.2⟩])
def qaE_tr3 : Int × Int × Int × Int × Int × Int × Int × Int × (List (Spot)) → Tr (Nat × List (TV U)) := fun x => .ret (0, [⟨(.int .i64), x.1⟩, ⟨(.int .i64), x.2.1⟩, ⟨(.int .i64), x.2.2.1⟩, ⟨(.int .i64), x.2.2.2.1⟩, ⟨(.int .i64), x.2.2.2.2.1⟩, ⟨(.int .i64), x.2.2.2.2.2.1⟩, ⟨(.int .i64), x.2.2.2.2.2.2.1⟩, ⟨(.int .i64), x.2.2.2.2.2.2.2.1⟩, ⟨(.slc (.st 108)), x.2.2.2.2.2.2.2.2⟩])
def qaE_lp3 : Lift.Loop U := ⟨qaE_sh3, qaE_o3, fun ls => .get (qaE_rec3 qaE_l3 ls) qaE_tr3⟩
theorem qaE_ok3 : LoopR kk env0 Tryz.f94.ntmps qaE_b3 qaE_lp3 :=
  loop_of qaE_enc3 qaE_dec3 (fun n => qaE_rec3 (qaE_i3 n)) (kitOk_of eqOk mixed known101) (L := noL) (loopsOk_of (bs := []) (by kernel_rfl) trivial) (fun _ => rfl) (by intro i qs r h; unfold qaE_enc3 at h; split at h <;> cases h <;> rfl)
    (by intro ls r h; unfold qaE_rec3 at h; split at h <;> cases h)
    (by intro n ls r h; unfold qaE_rec3 at h; split at h; exact (show _ = qaE_t3 (qaE_i3 n) _ _ _ _ _ _ _ _ _ _ from by kernel_rfl).trans h; cases h) (by rw [qaE_l3, sealF_eq])
def qaE_sh : StSh := ⟨⟨[0], [], []⟩, [.t .str], []⟩
def qaE_os : List StSh := [⟨⟨[0, 1], [], [⟨.slot 0, 100000, 108, (.st 108)⟩]⟩, [.oslc 100000, .t (.st 108)], [.row 108 (.st 108)]⟩]
def qaE_tr : Spot × (List (Spot)) → Tr (Nat × List (TV U)) := fun x => .ret (0, [⟨(.st 108), x.1⟩, ⟨(.slc (.st 108)), x.2⟩])
def qaE_L : Nat → Option (Lift.Loop U) := fun n => bif Nat.beq n 3 then some qaE_lp3 else none
def qaE_enc : Nat → List (TV U) → Option (Spot × (List (Spot)))
  | 0, [⟨(.st 108), a0⟩, ⟨(.slc (.st 108)), a1⟩] => some (a0, a1)
  | _, _ => none
def qaE_dec : Spot × (List (Spot)) → Nat × List (TV U) := fun x => (0, [⟨(.st 108), x.1⟩, ⟨(.slc (.st 108)), x.2⟩])
def qaE_in : List (TV U) → Option (Spot × (List (Spot)))
  | [⟨.str, a0⟩] => qaE a0
  | _ => none
def qaE_md : Mode U := ⟨qaE_sh, [], qaE_os, fun ls => .get (qaE_in ls) qaE_tr⟩
theorem qaE_post : ModeOk kk env0 94 qaE_md :=
  fn_of (fn := Tryz.f94) qaE_enc qaE_dec (kitOk_of eqOk mixed known101) (by kernel_rfl) (L := qaE_L) (loopsOk_of (bs := [qaE_b3]) (by kernel_rfl) ⟨.inr ⟨_, by kernel_rfl, LoopOk.of_round (qaE_ok3)⟩, trivial⟩) (fun _ => rfl) (by intro i qs r h; unfold qaE_enc at h; split at h <;> cases h <;> rfl)
    (by intro ls r h; unfold qaE_in at h; split at h; rw [qaE, sealF_eq] at h; exact Eq.trans (by kernel_rfl) h; cases h)
def ms102 : List (FuncId × Mode U) := (94, qaE_md) :: ms101
theorem known102 : Known kk env0 (modesOf ms102) := known_cons (by kernel_rfl) qaE_post known101
def qaB_sh : StSh := ⟨⟨[0], [], []⟩, [.t .str], []⟩
def qaB_os : List StSh := [⟨⟨[0, 1], [], [⟨.slot 0, 100000, 108, (.st 108)⟩]⟩, [.oslc 100000, .t (.st 90)], [.row 108 (.st 108)]⟩]
def qaB_tr : Fault × (List (Spot)) → Tr (Nat × List (TV U)) := fun x => .ret (0, [⟨(.st 90), x.1⟩, ⟨(.slc (.st 108)), x.2⟩])
def qaB_enc : Nat → List (TV U) → Option (Fault × (List (Spot)))
  | 0, [⟨(.st 90), a0⟩, ⟨(.slc (.st 108)), a1⟩] => some (a0, a1)
  | _, _ => none
def qaB_dec : Fault × (List (Spot)) → Nat × List (TV U) := fun x => (0, [⟨(.st 90), x.1⟩, ⟨(.slc (.st 108)), x.2⟩])
def qaB_in : List (TV U) → Option (Fault × (List (Spot)))
  | [⟨.str, a0⟩] => qaB a0
  | _ => none
def qaB_md : Mode U := ⟨qaB_sh, [], qaB_os, fun ls => .get (qaB_in ls) qaB_tr⟩
theorem qaB_post : ModeOk kk env0 84 qaB_md :=
  fn_of (fn := Tryz.f84) qaB_enc qaB_dec (kitOk_of eqOk mixed known102) (by kernel_rfl) (L := noL) (loopsOk_of (bs := []) (by kernel_rfl) trivial) (fun _ => rfl) (by intro i qs r h; unfold qaB_enc at h; split at h <;> cases h <;> rfl)
    (by intro ls r h; unfold qaB_in at h; split at h; rw [qaB, sealF_eq] at h; exact Eq.trans (by kernel_rfl) h; cases h)
def ms103 : List (FuncId × Mode U) := (84, qaB_md) :: ms102
theorem known103 : Known kk env0 (modesOf ms103) := known_cons (by kernel_rfl) qaB_post known102
def qax_sh : StSh := ⟨⟨[0], [], []⟩, [.t (.int .i64)], []⟩
def qax_os : List StSh := [⟨⟨[0], [], []⟩, [.t .bool], []⟩]
def qax_tr : Bool → Tr (Nat × List (TV U)) := fun x => .ret (0, [⟨.bool, x⟩])
def qax_enc : Nat → List (TV U) → Option (Bool)
  | 0, [⟨.bool, a0⟩] => some a0
  | _, _ => none
def qax_dec : Bool → Nat × List (TV U) := fun x => (0, [⟨.bool, x⟩])
def qax_in : List (TV U) → Option (Bool)
  | [⟨(.int .i64), a0⟩] => qax a0
  | _ => none
def qax_md : Mode U := ⟨qax_sh, [], qax_os, fun ls => .get (qax_in ls) qax_tr⟩
theorem qax_post : ModeOk kk env0 85 qax_md :=
  fn_of (fn := Tryz.f85) qax_enc qax_dec (kitOk_of eqOk mixed known103) (by kernel_rfl) (L := noL) (loopsOk_of (bs := []) (by kernel_rfl) trivial) (fun _ => rfl) (by intro i qs r h; unfold qax_enc at h; split at h <;> cases h <;> rfl)
    (by intro ls r h; unfold qax_in at h; split at h; rw [qax, sealF_eq] at h; exact Eq.trans (by kernel_rfl) h; cases h)
def ms104 : List (FuncId × Mode U) := (85, qax_md) :: ms103
theorem known104 : Known kk env0 (modesOf ms104) := known_cons (by kernel_rfl) qax_post known103
def qaA_sh : StSh := ⟨⟨[0], [], []⟩, [.t (.int .i64)], []⟩
def qaA_os : List StSh := [⟨⟨[0], [], []⟩, [.t .bool], []⟩]
def qaA_tr : Bool → Tr (Nat × List (TV U)) := fun x => .ret (0, [⟨.bool, x⟩])
def qaA_enc : Nat → List (TV U) → Option (Bool)
  | 0, [⟨.bool, a0⟩] => some a0
  | _, _ => none
def qaA_dec : Bool → Nat × List (TV U) := fun x => (0, [⟨.bool, x⟩])
def qaA_in : List (TV U) → Option (Bool)
  | [⟨(.int .i64), a0⟩] => qaA a0
  | _ => none
def qaA_md : Mode U := ⟨qaA_sh, [], qaA_os, fun ls => .get (qaA_in ls) qaA_tr⟩
theorem qaA_post : ModeOk kk env0 95 qaA_md :=
  fn_of (fn := Tryz.f95) qaA_enc qaA_dec (kitOk_of eqOk mixed known104) (by kernel_rfl) (L := noL) (loopsOk_of (bs := []) (by kernel_rfl) trivial) (fun _ => rfl) (by intro i qs r h; unfold qaA_enc at h; split at h <;> cases h <;> rfl)
    (by intro ls r h; unfold qaA_in at h; split at h; rw [qaA, sealF_eq] at h; exact Eq.trans (by kernel_rfl) h; cases h)
def ms105 : List (FuncId × Mode U) := (95, qaA_md) :: ms104
theorem known105 : Known kk env0 (modesOf ms105) := known_cons (by kernel_rfl) qaA_post known104
def qay_sh : StSh := ⟨⟨[0], [], []⟩, [.t (.int .i64)], []⟩
def qay_os : List StSh := [⟨⟨[0], [], []⟩, [.t .bool], []⟩]
def qay_tr : Bool → Tr (Nat × List (TV U)) := fun x => .ret (0, [⟨.bool, x⟩])
def qay_enc : Nat → List (TV U) → Option (Bool)
  | 0, [⟨.bool, a0⟩] => some a0
  | _, _ => none
def qay_dec : Bool → Nat × List (TV U) := fun x => (0, [⟨.bool, x⟩])
def qay_in : List (TV U) → Option (Bool)
  | [⟨(.int .i64), a0⟩] => qay a0
  | _ => none
def qay_md : Mode U := ⟨qay_sh, [], qay_os, fun ls => .get (qay_in ls) qay_tr⟩
theorem qay_post : ModeOk kk env0 96 qay_md :=
  fn_of (fn := Tryz.f96) qay_enc qay_dec (kitOk_of eqOk mixed known105) (by kernel_rfl) (L := noL) (loopsOk_of (bs := []) (by kernel_rfl) trivial) (fun _ => rfl) (by intro i qs r h; unfold qay_enc at h; split at h <;> cases h <;> rfl)
    (by intro ls r h; unfold qay_in at h; split at h; rw [qay, sealF_eq] at h; exact Eq.trans (by kernel_rfl) h; cases h)
def ms106 : List (FuncId × Mode U) := (96, qay_md) :: ms105
theorem known106 : Known kk env0 (modesOf ms106) := known_cons (by kernel_rfl) qay_post known105
def qaL_sh2 : StSh := ⟨⟨[0, 5], [], []⟩, [.t (.slc (.st 108)), .t (.int .i64)], []⟩
def qaL_o2 : List Out := [⟨.exit 0, ⟨⟨[5], [], []⟩, [.t (.int .i64)], []⟩⟩]
def qaL_b2 : Code := (nthLoop (bodyOf Tryz.f97) 0)
def qaL_rec2 (rec : List (Spot) → Int → Option (Int)) : List (TV U) → Option (Int)
  | [⟨(.slc (.st 108)), a0⟩, ⟨(.int .i64), a1⟩] => rec a0 a1
  | _ => none
def qaL_enc2 : Nat → List (TV U) → Option (Int)
  | 0, [⟨(.int .i64), a0⟩] => some a0
  | _, _ => none
def qaL_dec2 : Int → Nat × List (TV U) := fun x => (0, [⟨(.int .i64), x⟩])
def qaL_tr2 : Int → Tr (Nat × List (TV U)) := fun x => .ret (0, [⟨(.int .i64), x⟩])
def qaL_lp2 : Lift.Loop U := ⟨qaL_sh2, qaL_o2, fun ls => .get (qaL_rec2 qaL_l2 ls) qaL_tr2⟩
theorem qaL_ok2 : LoopR kk env0 Tryz.f97.ntmps qaL_b2 qaL_lp2 :=
  loop_of qaL_enc2 qaL_dec2 (fun n => qaL_rec2 (qaL_i2 n)) (kitOk_of eqOk mixed known106) (L := noL) (loopsOk_of (bs := []) (by kernel_rfl) trivial) (fun _ => rfl) (by intro i qs r h; unfold qaL_enc2 at h; split at h <;> cases h <;> rfl)
    (by intro ls r h; unfold qaL_rec2 at h; split at h <;> cases h)
    (by intro n ls r h; unfold qaL_rec2 at h; split at h; exact (show _ = qaL_t2 (qaL_i2 n) _ _ from by kernel_rfl).trans h; cases h) (by rw [qaL_l2, sealF_eq])
def qaL_sh : StSh := ⟨⟨[0, 1], [], []⟩, [.t (.slc (.st 108)), .t (.int .i64)], []⟩
def qaL_os : List StSh := [⟨⟨[0], [], []⟩, [.t (.int .i64)], []⟩]
def qaL_tr : Int → Tr (Nat × List (TV U)) := fun x => .ret (0, [⟨(.int .i64), x⟩])
def qaL_L : Nat → Option (Lift.Loop U) := fun n => bif Nat.beq n 2 then some qaL_lp2 else none
def qaL_enc : Nat → List (TV U) → Option (Int)
  | 0, [⟨(.int .i64), a0⟩] => some a0
  | _, _ => none
def qaL_dec : Int → Nat × List (TV U) := fun x => (0, [⟨(.int .i64), x⟩])
def qaL_in : List (TV U) → Option (Int)
  | [⟨(.slc (.st 108)), a0⟩, ⟨(.int .i64), a1⟩] => qaL a0 a1
  | _ => none
def qaL_md : Mode U := ⟨qaL_sh, [], qaL_os, fun ls => .get (qaL_in ls) qaL_tr⟩
theorem qaL_post : ModeOk kk env0 97 qaL_md :=
  fn_of (fn := Tryz.f97) qaL_enc qaL_dec (kitOk_of eqOk mixed known106) (by kernel_rfl) (L := qaL_L) (loopsOk_of (bs := [qaL_b2]) (by kernel_rfl) ⟨.inr ⟨_, by kernel_rfl, LoopOk.of_round (qaL_ok2)⟩, trivial⟩) (fun _ => rfl) (by intro i qs r h; unfold qaL_enc at h; split at h <;> cases h <;> rfl)
    (by intro ls r h; unfold qaL_in at h; split at h; rw [qaL, sealF_eq] at h; exact Eq.trans (by kernel_rfl) h; cases h)
def ms107 : List (FuncId × Mode U) := (97, qaL_md) :: ms106
theorem known107 : Known kk env0 (modesOf ms107) := known_cons (by kernel_rfl) qaL_post known106
def qaK_sh : StSh := ⟨⟨[0, 1, 2, 3], [], []⟩, [.t (.slc (.st 108)), .t .str, .t (.int .i64), .t (.int .i64)], []⟩
def qaK_os : List StSh := [⟨⟨[0], [], []⟩, [.t .str], []⟩]
def qaK_tr : (List UInt8) → Tr (Nat × List (TV U)) := fun x => .ret (0, [⟨.str, x⟩])
def qaK_enc : Nat → List (TV U) → Option ((List UInt8))
  | 0, [⟨.str, a0⟩] => some a0
  | _, _ => none
def qaK_dec : (List UInt8) → Nat × List (TV U) := fun x => (0, [⟨.str, x⟩])
def qaK_in : List (TV U) → Option ((List UInt8))
  | [⟨(.slc (.st 108)), a0⟩, ⟨.str, a1⟩, ⟨(.int .i64), a2⟩, ⟨(.int .i64), a3⟩] => qaK a0 a1 a2 a3
  | _ => none
def qaK_md : Mode U := ⟨qaK_sh, [], qaK_os, fun ls => .get (qaK_in ls) qaK_tr⟩
theorem qaK_post : ModeOk kk env0 98 qaK_md :=
  fn_of (fn := Tryz.f98) qaK_enc qaK_dec (kitOk_of eqOk mixed known107) (by kernel_rfl) (L := noL) (loopsOk_of (bs := []) (by kernel_rfl) trivial) (fun _ => rfl) (by intro i qs r h; unfold qaK_enc at h; split at h <;> cases h <;> rfl)
    (by intro ls r h; unfold qaK_in at h; split at h; rw [qaK, sealF_eq] at h; exact Eq.trans (by kernel_rfl) h; cases h)
def ms108 : List (FuncId × Mode U) := (98, qaK_md) :: ms107
theorem known108 : Known kk env0 (modesOf ms108) := known_cons (by kernel_rfl) qaK_post known107
def qaI_sh : StSh := ⟨⟨[], [], []⟩, [], []⟩
def qaI_os : List StSh := [⟨⟨[0], [], [⟨.slot 0, 100000, 9, .str⟩]⟩, [.oslc 100000], [.row 9 .str]⟩]
def qaI_tr : (List (List UInt8)) → Tr (Nat × List (TV U)) := fun x => .ret (0, [⟨(.slc .str), x⟩])
def qaI_enc : Nat → List (TV U) → Option ((List (List UInt8)))
  | 0, [⟨(.slc .str), a0⟩] => some a0
  | _, _ => none
def qaI_dec : (List (List UInt8)) → Nat × List (TV U) := fun x => (0, [⟨(.slc .str), x⟩])
def qaI_in : List (TV U) → Option ((List (List UInt8)))
  | [] => qaI
  | _ => none
def qaI_md : Mode U := ⟨qaI_sh, [], qaI_os, fun ls => .get (qaI_in ls) qaI_tr⟩
theorem qaI_post : ModeOk kk env0 99 qaI_md :=
  fn_of (fn := Tryz.f99) qaI_enc qaI_dec (kitOk_of eqOk mixed known108) (by kernel_rfl) (L := noL) (loopsOk_of (bs := []) (by kernel_rfl) trivial) (fun _ => rfl) (by intro i qs r h; unfold qaI_enc at h; split at h <;> cases h <;> rfl)
    (by intro ls r h; unfold qaI_in at h; split at h; rw [qaI, sealF_eq] at h; exact Eq.trans (by kernel_rfl) h; cases h)
def ms109 : List (FuncId × Mode U) := (99, qaI_md) :: ms108
theorem known109 : Known kk env0 (modesOf ms109) := known_cons (by kernel_rfl) qaI_post known108
def qaF_sh2 : StSh := ⟨⟨[0, 1, 5], [], []⟩, [.t (.slc .str), .t .str, .t (.int .i64)], []⟩
def qaF_o2 : List Out := [⟨.ret, ⟨⟨[4], [], []⟩, [.t .bool], []⟩⟩, ⟨.exit 0, ⟨⟨[], [], []⟩, [], []⟩⟩]
def qaF_b2 : Code := (nthLoop (bodyOf Tryz.f74) 0)
def qaF_rec2 (rec : List (List UInt8) → List UInt8 → Int → Option ((Bool) ⊕ (Unit))) : List (TV U) → Option ((Bool) ⊕ (Unit))
  | [⟨(.slc .str), a0⟩, ⟨.str, a1⟩, ⟨(.int .i64), a2⟩] => rec a0 a1 a2
  | _ => none
def qaF_enc2 : Nat → List (TV U) → Option ((Bool) ⊕ (Unit))
  | 0, [⟨.bool, a0⟩] => some (.inl a0)
  | 1, [] => some (.inr ())
  | _, _ => none
def qaF_dec2 : (Bool) ⊕ (Unit) → Nat × List (TV U) := fun r => match r with | (.inl x) => (0, [⟨.bool, x⟩]) | (.inr x) => (1, [])
def qaF_tr2 : (Bool) ⊕ (Unit) → Tr (Nat × List (TV U)) := fun r => .alt r (fun x => .ret (0, [⟨.bool, x⟩])) (fun y => (fun x => .ret (1, [])) y)
def qaF_lp2 : Lift.Loop U := ⟨qaF_sh2, qaF_o2, fun ls => .get (qaF_rec2 qaF_l2 ls) qaF_tr2⟩
theorem qaF_ok2 : LoopR kk env0 Tryz.f74.ntmps qaF_b2 qaF_lp2 :=
  loop_of qaF_enc2 qaF_dec2 (fun n => qaF_rec2 (qaF_i2 n)) (kitOk_of eqOk mixed known109) (L := noL) (loopsOk_of (bs := []) (by kernel_rfl) trivial) (by intro r; rcases r with r | r <;> rfl) (by intro i qs r h; unfold qaF_enc2 at h; split at h <;> cases h <;> rfl)
    (by intro ls r h; unfold qaF_rec2 at h; split at h <;> cases h)
    (by intro n ls r h; unfold qaF_rec2 at h; split at h; exact (show _ = qaF_t2 (qaF_i2 n) _ _ _ from by kernel_rfl).trans h; cases h) (by rw [qaF_l2, sealF_eq])
def qaF_sh : StSh := ⟨⟨[0, 1], [], []⟩, [.t (.slc .str), .t .str], []⟩
def qaF_os : List StSh := [⟨⟨[0], [], []⟩, [.t .bool], []⟩]
def qaF_tr : Bool → Tr (Nat × List (TV U)) := fun x => .ret (0, [⟨.bool, x⟩])
def qaF_L : Nat → Option (Lift.Loop U) := fun n => bif Nat.beq n 2 then some qaF_lp2 else none
def qaF_enc : Nat → List (TV U) → Option (Bool)
  | 0, [⟨.bool, a0⟩] => some a0
  | _, _ => none
def qaF_dec : Bool → Nat × List (TV U) := fun x => (0, [⟨.bool, x⟩])
def qaF_in : List (TV U) → Option (Bool)
  | [⟨(.slc .str), a0⟩, ⟨.str, a1⟩] => qaF a0 a1
  | _ => none
def qaF_md : Mode U := ⟨qaF_sh, [], qaF_os, fun ls => .get (qaF_in ls) qaF_tr⟩
theorem qaF_post : ModeOk kk env0 74 qaF_md :=
  fn_of (fn := Tryz.f74) qaF_enc qaF_dec (kitOk_of eqOk mixed known109) (by kernel_rfl) (L := qaF_L) (loopsOk_of (bs := [qaF_b2]) (by kernel_rfl) ⟨.inr ⟨_, by kernel_rfl, LoopOk.of_round (qaF_ok2)⟩, trivial⟩) (fun _ => rfl) (by intro i qs r h; unfold qaF_enc at h; split at h <;> cases h <;> rfl)
    (by intro ls r h; unfold qaF_in at h; split at h; rw [qaF, sealF_eq] at h; exact Eq.trans (by kernel_rfl) h; cases h)
def ms110 : List (FuncId × Mode U) := (74, qaF_md) :: ms109
theorem known110 : Known kk env0 (modesOf ms110) := known_cons (by kernel_rfl) qaF_post known109
def qaJ_sh5 : StSh := ⟨⟨[0, 4, 5], [], []⟩, [.t .str, .t (.int .i64), .t (.int .i64)], []⟩
def qaJ_o5 : List Out := [⟨.ret, ⟨⟨[2, 3], [], []⟩, [.t (.int .i64), .t .bool], []⟩⟩, ⟨.exit 0, ⟨⟨[4], [], []⟩, [.t (.int .i64)], []⟩⟩]
def qaJ_b5 : Code := (nthLoop (bodyOf Tryz.f100) 0)
def qaJ_rec5 (rec : List UInt8 → Int → Int → Option ((Int × Bool) ⊕ (Int))) : List (TV U) → Option ((Int × Bool) ⊕ (Int))
  | [⟨.str, a0⟩, ⟨(.int .i64), a1⟩, ⟨(.int .i64), a2⟩] => rec a0 a1 a2
  | _ => none
def qaJ_enc5 : Nat → List (TV U) → Option ((Int × Bool) ⊕ (Int))
  | 0, [⟨(.int .i64), a0⟩, ⟨.bool, a1⟩] => some (.inl (a0, a1))
  | 1, [⟨(.int .i64), a0⟩] => some (.inr a0)
  | _, _ => none
def qaJ_dec5 : (Int × Bool) ⊕ (Int) → Nat × List (TV U) := fun r => match r with | (.inl x) => (0, [⟨(.int .i64), x.1⟩, ⟨.bool, x.2⟩]) | (.inr x) => (1, [⟨(.int .i64), x⟩])
def qaJ_tr5 : (Int × Bool) ⊕ (Int) → Tr (Nat × List (TV U)) := fun r => .alt r (fun x => .ret (0, [⟨(.int .i64), x.1⟩, ⟨.bool, x.2⟩])) (fun y => (fun x => .ret (1, [⟨(.int .i64), x⟩])) y)
def qaJ_lp5 : Lift.Loop U := ⟨qaJ_sh5, qaJ_o5, fun ls => .get (qaJ_rec5 qaJ_l5 ls) qaJ_tr5⟩
theorem qaJ_ok5 : LoopR kk env0 Tryz.f100.ntmps qaJ_b5 qaJ_lp5 :=
  loop_of qaJ_enc5 qaJ_dec5 (fun n => qaJ_rec5 (qaJ_i5 n)) (kitOk_of eqOk mixed known110) (L := noL) (loopsOk_of (bs := []) (by kernel_rfl) trivial) (by intro r; rcases r with r | r <;> rfl) (by intro i qs r h; unfold qaJ_enc5 at h; split at h <;> cases h <;> rfl)
    (by intro ls r h; unfold qaJ_rec5 at h; split at h <;> cases h)
    (by intro n ls r h; unfold qaJ_rec5 at h; split at h; exact (show _ = qaJ_t5 (qaJ_i5 n) _ _ _ from by kernel_rfl).trans h; cases h) (by rw [qaJ_l5, sealF_eq])
def qaJ_sh : StSh := ⟨⟨[0], [], []⟩, [.t .str], []⟩
def qaJ_os : List StSh := [⟨⟨[0, 1], [], []⟩, [.t (.int .i64), .t .bool], []⟩]
def qaJ_tr : Int × Bool → Tr (Nat × List (TV U)) := fun x => .ret (0, [⟨(.int .i64), x.1⟩, ⟨.bool, x.2⟩])
def qaJ_L : Nat → Option (Lift.Loop U) := fun n => bif Nat.beq n 5 then some qaJ_lp5 else none
def qaJ_enc : Nat → List (TV U) → Option (Int × Bool)
  | 0, [⟨(.int .i64), a0⟩, ⟨.bool, a1⟩] => some (a0, a1)
  | _, _ => none
def qaJ_dec : Int × Bool → Nat × List (TV U) := fun x => (0, [⟨(.int .i64), x.1⟩, ⟨.bool, x.2⟩])
def qaJ_in : List (TV U) → Option (Int × Bool)
  | [⟨.str, a0⟩] => qaJ a0
  | _ => none
def qaJ_md : Mode U := ⟨qaJ_sh, [], qaJ_os, fun ls => .get (qaJ_in ls) qaJ_tr⟩
theorem qaJ_post : ModeOk kk env0 100 qaJ_md :=
  fn_of (fn := Tryz.f100) qaJ_enc qaJ_dec (kitOk_of eqOk mixed known110) (by kernel_rfl) (L := qaJ_L) (loopsOk_of (bs := [qaJ_b5]) (by kernel_rfl) ⟨.inr ⟨_, by kernel_rfl, LoopOk.of_round (qaJ_ok5)⟩, trivial⟩) (fun _ => rfl) (by intro i qs r h; unfold qaJ_enc at h; split at h <;> cases h <;> rfl)
    (by intro ls r h; unfold qaJ_in at h; split at h; rw [qaJ, sealF_eq] at h; exact Eq.trans (by kernel_rfl) h; cases h)
def ms111 : List (FuncId × Mode U) := (100, qaJ_md) :: ms110
theorem known111 : Known kk env0 (modesOf ms111) := known_cons (by kernel_rfl) qaJ_post known110
def qaN_sh : StSh := ⟨⟨[], [], []⟩, [], []⟩
def qaN_os : List StSh := [⟨⟨[0], [], [⟨.slot 0, 100000, 9, .str⟩]⟩, [.oslc 100000], [.row 9 .str]⟩]
def qaN_tr : (List (List UInt8)) → Tr (Nat × List (TV U)) := fun x => .ret (0, [⟨(.slc .str), x⟩])
def qaN_enc : Nat → List (TV U) → Option ((List (List UInt8)))
  | 0, [⟨(.slc .str), a0⟩] => some a0
  | _, _ => none
def qaN_dec : (List (List UInt8)) → Nat × List (TV U) := fun x => (0, [⟨(.slc .str), x⟩])
def qaN_in : List (TV U) → Option ((List (List UInt8)))
  | [] => qaN
  | _ => none
def qaN_md : Mode U := ⟨qaN_sh, [], qaN_os, fun ls => .get (qaN_in ls) qaN_tr⟩
theorem qaN_post : ModeOk kk env0 116 qaN_md :=
  fn_of (fn := Tryz.f116) qaN_enc qaN_dec (kitOk_of eqOk mixed known111) (by kernel_rfl) (L := noL) (loopsOk_of (bs := []) (by kernel_rfl) trivial) (fun _ => rfl) (by intro i qs r h; unfold qaN_enc at h; split at h <;> cases h <;> rfl)
    (by intro ls r h; unfold qaN_in at h; split at h; rw [qaN, sealF_eq] at h; exact Eq.trans (by kernel_rfl) h; cases h)
def ms112 : List (FuncId × Mode U) := (116, qaN_md) :: ms111
theorem known112 : Known kk env0 (modesOf ms112) := known_cons (by kernel_rfl) qaN_post known111
def qaM_sh3 : StSh := ⟨⟨[0, 1, 5, 6], [], [⟨.slot 5, 5, 9, .str⟩]⟩, [.t .str, .t (.int .i64), .oslc 5, .t (.int .i64)], [.row 9 .str]⟩
def qaM_o3 : List Out := [⟨.ret, ⟨⟨[4], [], []⟩, [.t .str], []⟩⟩, ⟨.exit 0, ⟨⟨[], [], []⟩, [], []⟩⟩]
def qaM_b3 : Code := (nthLoop (bodyOf Tryz.f101) 0)
def qaM_rec3 (rec : List UInt8 → Int → Int → List (List UInt8) → Option (((List UInt8)) ⊕ (Unit))) : List (TV U) → Option (((List UInt8)) ⊕ (Unit))
  | [⟨.str, a0⟩, ⟨(.int .i64), a1⟩, ⟨(.int .i64), a2⟩, ⟨(.slc .str), a3⟩] => rec a0 a1 a2 a3
  | _ => none
def qaM_enc3 : Nat → List (TV U) → Option (((List UInt8)) ⊕ (Unit))
  | 0, [⟨.str, a0⟩] => some (.inl a0)
  | 1, [] => some (.inr ())
  | _, _ => none
def qaM_dec3 : ((List UInt8)) ⊕ (Unit) → Nat × List (TV U) := fun r => match r with | (.inl x) => (0, [⟨.str, x⟩]) | (.inr x) => (1, [])
def qaM_tr3 : ((List UInt8)) ⊕ (Unit) → Tr (Nat × List (TV U)) := fun r => .alt r (fun x => .ret (0, [⟨.str, x⟩])) (fun y => (fun x => .ret (1, [])) y)
def qaM_lp3 : Lift.Loop U := ⟨qaM_sh3, qaM_o3, fun ls => .get (qaM_rec3 qaM_l3 ls) qaM_tr3⟩
theorem qaM_ok3 : LoopR kk env0 Tryz.f101.ntmps qaM_b3 qaM_lp3 :=
  loop_of qaM_enc3 qaM_dec3 (fun n => qaM_rec3 (qaM_i3 n)) (kitOk_of eqOk mixed known112) (L := noL) (loopsOk_of (bs := []) (by kernel_rfl) trivial) (by intro r; rcases r with r | r <;> rfl) (by intro i qs r h; unfold qaM_enc3 at h; split at h <;> cases h <;> rfl)
    (by intro ls r h; unfold qaM_rec3 at h; split at h <;> cases h)
    (by intro n ls r h; unfold qaM_rec3 at h; split at h; exact (show _ = qaM_t3 (qaM_i3 n) _ _ _ _ from by kernel_rfl).trans h; cases h) (by rw [qaM_l3, sealF_eq])
def qaM_sh : StSh := ⟨⟨[0, 1], [], []⟩, [.t .str, .t (.int .i64)], []⟩
def qaM_os : List StSh := [⟨⟨[0], [], []⟩, [.t .str], []⟩]
def qaM_tr : (List UInt8) → Tr (Nat × List (TV U)) := fun x => .ret (0, [⟨.str, x⟩])
def qaM_L : Nat → Option (Lift.Loop U) := fun n => bif Nat.beq n 3 then some qaM_lp3 else none
def qaM_enc : Nat → List (TV U) → Option ((List UInt8))
  | 0, [⟨.str, a0⟩] => some a0
  | _, _ => none
def qaM_dec : (List UInt8) → Nat × List (TV U) := fun x => (0, [⟨.str, x⟩])
def qaM_in : List (TV U) → Option ((List UInt8))
  | [⟨.str, a0⟩, ⟨(.int .i64), a1⟩] => qaM a0 a1
  | _ => none
def qaM_md : Mode U := ⟨qaM_sh, [], qaM_os, fun ls => .get (qaM_in ls) qaM_tr⟩
theorem qaM_post : ModeOk kk env0 101 qaM_md :=
  fn_of (fn := Tryz.f101) qaM_enc qaM_dec (kitOk_of eqOk mixed known112) (by kernel_rfl) (L := qaM_L) (loopsOk_of (bs := [qaM_b3]) (by kernel_rfl) ⟨.inr ⟨_, by kernel_rfl, LoopOk.of_round (qaM_ok3)⟩, trivial⟩) (fun _ => rfl) (by intro i qs r h; unfold qaM_enc at h; split at h <;> cases h <;> rfl)
    (by intro ls r h; unfold qaM_in at h; split at h; rw [qaM, sealF_eq] at h; exact Eq.trans (by kernel_rfl) h; cases h)
def ms113 : List (FuncId × Mode U) := (101, qaM_md) :: ms112
theorem known113 : Known kk env0 (modesOf ms113) := known_cons (by kernel_rfl) qaM_post known112
def qaO_sh : StSh := ⟨⟨[0, 1, 2], [], []⟩, [.t (.slc (.st 108)), .t .str, .t (.int .i64)], []⟩
def qaO_os : List StSh := [⟨⟨[0, 1, 2], [], []⟩, [.t (.st 94), .t (.int .i64), .t (.int .i64)], []⟩]
def qaO_tr : Token × Int × Int → Tr (Nat × List (TV U)) := fun x => .ret (0, [⟨(.st 94), x.1⟩, ⟨(.int .i64), x.2.1⟩, ⟨(.int .i64), x.2.2⟩])
def qaO_enc : Nat → List (TV U) → Option (Token × Int × Int)
  | 0, [⟨(.st 94), a0⟩, ⟨(.int .i64), a1⟩, ⟨(.int .i64), a2⟩] => some (a0, a1, a2)
  | _, _ => none
def qaO_dec : Token × Int × Int → Nat × List (TV U) := fun x => (0, [⟨(.st 94), x.1⟩, ⟨(.int .i64), x.2.1⟩, ⟨(.int .i64), x.2.2⟩])
def qaO_in : List (TV U) → Option (Token × Int × Int)
  | [⟨(.slc (.st 108)), a0⟩, ⟨.str, a1⟩, ⟨(.int .i64), a2⟩] => qaO a0 a1 a2
  | _ => none
def qaO_md : Mode U := ⟨qaO_sh, [], qaO_os, fun ls => .get (qaO_in ls) qaO_tr⟩
theorem qaO_post : ModeOk kk env0 86 qaO_md :=
  fn_of (fn := Tryz.f86) qaO_enc qaO_dec (kitOk_of eqOk mixed known113) (by kernel_rfl) (L := noL) (loopsOk_of (bs := []) (by kernel_rfl) trivial) (fun _ => rfl) (by intro i qs r h; unfold qaO_enc at h; split at h <;> cases h <;> rfl)
    (by intro ls r h; unfold qaO_in at h; split at h; rw [qaO, sealF_eq] at h; exact Eq.trans (by kernel_rfl) h; cases h)
def ms114 : List (FuncId × Mode U) := (86, qaO_md) :: ms113
theorem known114 : Known kk env0 (modesOf ms114) := known_cons (by kernel_rfl) qaO_post known113
def qaH_sh11 : StSh := ⟨⟨[0, 3, 4, 6, 7], [3], [⟨.slot 6, 6, 94, (.st 94)⟩]⟩, [.t .str, .ptr 3 0, .t (.slc (.st 108)), .oslc 6, .t (.int .i64)], [.blk 90 [.t (.int .i64), .t (.int .i64), .t .str], .row 94 (.st 94)]⟩
def qaH_o11 : List Out := [⟨.exit 2, ⟨⟨[0, 3, 4, 6, 7], [3], [⟨.slot 6, 6, 94, (.st 94)⟩]⟩, [.t .str, .ptr 3 0, .t (.slc (.st 108)), .oslc 6, .t (.int .i64)], [.blk 90 [.t (.int .i64), .t (.int .i64), .t .str], .row 94 (.st 94)]⟩⟩]
def qaH_b11 : Code := (nthLoop (nthLoop (bodyOf Tryz.f76) 0) 0)
def qaH_rec11 (rec : List UInt8 → List (Spot) → Int → Int → Int → List UInt8 → List (Token) → Option ((List UInt8) × (List (Spot)) × Int × Int × Int × (List UInt8) × (List (Token)))) : List (TV U) → Option ((List UInt8) × (List (Spot)) × Int × Int × Int × (List UInt8) × (List (Token)))
  | [⟨.str, a0⟩, ⟨(.slc (.st 108)), a1⟩, ⟨(.int .i64), a2⟩, ⟨(.int .i64), a3⟩, ⟨(.int .i64), a4⟩, ⟨.str, a5⟩, ⟨(.slc (.st 94)), a6⟩] => rec a0 a1 a2 a3 a4 a5 a6
  | _ => none
def qaH_enc11 : Nat → List (TV U) → Option ((List UInt8) × (List (Spot)) × Int × Int × Int × (List UInt8) × (List (Token)))
  | 0, [⟨.str, a0⟩, ⟨(.slc (.st 108)), a1⟩, ⟨(.int .i64), a2⟩, ⟨(.int .i64), a3⟩, ⟨(.int .i64), a4⟩, ⟨.str, a5⟩, ⟨(.slc (.st 94)), a6⟩] => some (a0, a1, a2, a3, a4, a5, a6)
  | _, _ => none
def qaH_dec11 : (List UInt8) × (List (Spot)) × Int × Int × Int × (List UInt8) × (List (Token)) → Nat × List (TV U) := fun x => (0, [⟨.str, x.1⟩, ⟨(.slc (.st 108)), x.2.1⟩, ⟨(.int .i64), x.2.2.1⟩, ⟨(.int .i64), x.2.2.2.1⟩, ⟨(.int .i64), x.2.2.2.2.1⟩, ⟨.str, x.2.2.2.2.2.1⟩, ⟨(.slc (.st 94)), x.2.2.2.2.2.2⟩])
def qaH_tr11 : (List UInt8) × (List (Spot)) × Int × Int × Int × (List UInt8) × (List (Token)) → Tr (Nat × List (TV U)) := fun x => .ret (0, [⟨.str, x.1⟩, ⟨(.slc (.st 108)), x.2.1⟩, ⟨(.int .i64), x.2.2.1⟩, ⟨(.int .i64), x.2.2.2.1⟩, ⟨(.int .i64), x.2.2.2.2.1⟩, ⟨.str, x.2.2.2.2.2.1⟩, ⟨(.slc (.st 94)), x.2.2.2.2.2.2⟩])
def qaH_lp11 : Lift.Loop U := ⟨qaH_sh11, qaH_o11, fun ls => .get (qaH_rec11 qaH_l11 ls) qaH_tr11⟩
theorem qaH_ok11 : LoopR kk env0 Tryz.f76.ntmps qaH_b11 qaH_lp11 :=
  loop_of qaH_enc11 qaH_dec11 (fun n => qaH_rec11 (qaH_i11 n)) (kitOk_of eqOk mixed known114) (L := noL) (loopsOk_of (bs := []) (by kernel_rfl) trivial) (fun _ => rfl) (by intro i qs r h; unfold qaH_enc11 at h; split at h <;> cases h <;> rfl)
    (by intro ls r h; unfold qaH_rec11 at h; split at h <;> cases h)
    (by intro n ls r h; unfold qaH_rec11 at h; split at h; exact (show _ = qaH_t11 (qaH_i11 n) _ _ _ _ _ _ _ from by kernel_rfl).trans h; cases h) (by rw [qaH_l11, sealF_eq])
def qaH_sh6 : StSh := ⟨⟨[0, 3, 4, 6, 7], [3], [⟨.slot 6, 6, 94, (.st 94)⟩]⟩, [.t .str, .ptr 3 0, .t (.slc (.st 108)), .oslc 6, .t (.int .i64)], [.blk 90 [.t (.int .i64), .t (.int .i64), .t .str], .row 94 (.st 94)]⟩
def qaH_o6 : List Out := [⟨.ret, ⟨⟨[2, 3], [3], []⟩, [.nil, .ptr 3 0], [.blk 90 [.t (.int .i64), .t (.int .i64), .t .str]]⟩⟩, ⟨.exit 0, ⟨⟨[0, 3, 6], [3], [⟨.slot 6, 6, 94, (.st 94)⟩]⟩, [.t .str, .ptr 3 0, .oslc 6], [.blk 90 [.t (.int .i64), .t (.int .i64), .t .str], .row 94 (.st 94)]⟩⟩]
def qaH_b6 : Code := (nthLoop (bodyOf Tryz.f76) 0)
def qaH_L6 : Nat → Option (Lift.Loop U) := fun n => bif Nat.beq n 11 then some qaH_lp11 else none
def qaH_rec6 (rec : List UInt8 → List (Spot) → Int → Int → Int → List UInt8 → List (Token) → Option ((Int × Int × (List UInt8)) ⊕ ((List UInt8) × Int × Int × (List UInt8) × (List (Token))))) : List (TV U) → Option ((Int × Int × (List UInt8)) ⊕ ((List UInt8) × Int × Int × (List UInt8) × (List (Token))))
  | [⟨.str, a0⟩, ⟨(.slc (.st 108)), a1⟩, ⟨(.int .i64), a2⟩, ⟨(.int .i64), a3⟩, ⟨(.int .i64), a4⟩, ⟨.str, a5⟩, ⟨(.slc (.st 94)), a6⟩] => rec a0 a1 a2 a3 a4 a5 a6
  | _ => none
def qaH_enc6 : Nat → List (TV U) → Option ((Int × Int × (List UInt8)) ⊕ ((List UInt8) × Int × Int × (List UInt8) × (List (Token))))
  | 0, [⟨(.int .i64), a0⟩, ⟨(.int .i64), a1⟩, ⟨.str, a2⟩] => some (.inl (a0, a1, a2))
  | 1, [⟨.str, a0⟩, ⟨(.int .i64), a1⟩, ⟨(.int .i64), a2⟩, ⟨.str, a3⟩, ⟨(.slc (.st 94)), a4⟩] => some (.inr (a0, a1, a2, a3, a4))
  | _, _ => none
def qaH_dec6 : (Int × Int × (List UInt8)) ⊕ ((List UInt8) × Int × Int × (List UInt8) × (List (Token))) → Nat × List (TV U) := fun r => match r with | (.inl x) => (0, [⟨(.int .i64), x.1⟩, ⟨(.int .i64), x.2.1⟩, ⟨.str, x.2.2⟩]) | (.inr x) => (1, [⟨.str, x.1⟩, ⟨(.int .i64), x.2.1⟩, ⟨(.int .i64), x.2.2.1⟩, ⟨.str, x.2.2.2.1⟩, ⟨(.slc (.st 94)), x.2.2.2.2⟩])
def qaH_tr6 : (Int × Int × (List UInt8)) ⊕ ((List UInt8) × Int × Int × (List UInt8) × (List (Token))) → Tr (Nat × List (TV U)) := fun r => .alt r (fun x => .ret (0, [⟨(.int .i64), x.1⟩, ⟨(.int .i64), x.2.1⟩, ⟨.str, x.2.2⟩])) (fun y => (fun x => .ret (1, [⟨.str, x.1⟩, ⟨(.int .i64), x.2.1⟩, ⟨(.int .i64), x.2.2.1⟩, ⟨.str, x.2.2.2.1⟩, ⟨(.slc (.st 94)), x.2.2.2.2⟩])) y)
def qaH_lp6 : Lift.Loop U := ⟨qaH_sh6, qaH_o6, fun ls => .get (qaH_rec6 qaH_l6 ls) qaH_tr6⟩
theorem qaH_ok6 : LoopR kk env0 Tryz.f76.ntmps qaH_b6 qaH_lp6 :=
  loop_of qaH_enc6 qaH_dec6 (fun n => qaH_rec6 (qaH_i6 n)) (kitOk_of eqOk mixed known114) (L := qaH_L6) (loopsOk_of (bs := [qaH_b11]) (by kernel_rfl) ⟨.inr ⟨_, by kernel_rfl, LoopOk.of_round (qaH_ok11)⟩, trivial⟩) (by intro r; rcases r with r | r <;> rfl) (by intro i qs r h; unfold qaH_enc6 at h; split at h <;> cases h <;> rfl)
    (by intro ls r h; unfold qaH_rec6 at h; split at h <;> cases h)
    (by intro n ls r h; unfold qaH_rec6 at h; split at h; exact (show _ = qaH_t6 (qaH_i6 n) _ _ _ _ _ _ _ from by kernel_rfl).trans h; cases h) (by rw [qaH_l6, sealF_eq])
def qaH_sh : StSh := ⟨⟨[0], [], []⟩, [.t .str], []⟩
def qaH_os : List StSh := [⟨⟨[0, 1], [], [⟨.slot 0, 100000, 94, (.st 94)⟩]⟩, [.oslc 100000, .t (.st 90)], [.row 94 (.st 94)]⟩]
def qaH_tr : Fault × (List (Token)) → Tr (Nat × List (TV U)) := fun x => .ret (0, [⟨(.st 90), x.1⟩, ⟨(.slc (.st 94)), x.2⟩])
def qaH_L : Nat → Option (Lift.Loop U) := fun n => bif Nat.beq n 6 then some qaH_lp6 else none
def qaH_enc : Nat → List (TV U) → Option (Fault × (List (Token)))
  | 0, [⟨(.st 90), a0⟩, ⟨(.slc (.st 94)), a1⟩] => some (a0, a1)
  | _, _ => none
def qaH_dec : Fault × (List (Token)) → Nat × List (TV U) := fun x => (0, [⟨(.st 90), x.1⟩, ⟨(.slc (.st 94)), x.2⟩])
def qaH_in : List (TV U) → Option (Fault × (List (Token)))
  | [⟨.str, a0⟩] => qaH a0
  | _ => none
def qaH_md : Mode U := ⟨qaH_sh, [], qaH_os, fun ls => .get (qaH_in ls) qaH_tr⟩
theorem qaH_post : ModeOk kk env0 76 qaH_md :=
  fn_of (fn := Tryz.f76) qaH_enc qaH_dec (kitOk_of eqOk mixed known114) (by kernel_rfl) (L := qaH_L) (loopsOk_of (bs := [qaH_b6]) (by kernel_rfl) ⟨.inr ⟨_, by kernel_rfl, LoopOk.of_round (qaH_ok6)⟩, trivial⟩) (fun _ => rfl) (by intro i qs r h; unfold qaH_enc at h; split at h <;> cases h <;> rfl)
    (by intro ls r h; unfold qaH_in at h; split at h; rw [qaH, sealF_eq] at h; exact Eq.trans (by kernel_rfl) h; cases h)
def ms115 : List (FuncId × Mode U) := (76, qaH_md) :: ms114
theorem known115 : Known kk env0 (modesOf ms115) := known_cons (by kernel_rfl) qaH_post known114
def qaG_sh : StSh := ⟨⟨[0], [], []⟩, [.t .str], []⟩
def qaG_os : List StSh := [⟨⟨[0], [], []⟩, [.t .bool], []⟩]
def qaG_tr : Bool → Tr (Nat × List (TV U)) := fun x => .ret (0, [⟨.bool, x⟩])
def qaG_enc : Nat → List (TV U) → Option (Bool)
  | 0, [⟨.bool, a0⟩] => some a0
  | _, _ => none
def qaG_dec : Bool → Nat × List (TV U) := fun x => (0, [⟨.bool, x⟩])
def qaG_in : List (TV U) → Option (Bool)
  | [⟨.str, a0⟩] => qaG a0
  | _ => none
def qaG_md : Mode U := ⟨qaG_sh, [], qaG_os, fun ls => .get (qaG_in ls) qaG_tr⟩
theorem qaG_post : ModeOk kk env0 56 qaG_md :=
  fn_of (fn := Tryz.f56) qaG_enc qaG_dec (kitOk_of eqOk mixed known115) (by kernel_rfl) (L := noL) (loopsOk_of (bs := []) (by kernel_rfl) trivial) (fun _ => rfl) (by intro i qs r h; unfold qaG_enc at h; split at h <;> cases h <;> rfl)
    (by intro ls r h; unfold qaG_in at h; split at h; rw [qaG, sealF_eq] at h; exact Eq.trans (by kernel_rfl) h; cases h)
def ms116 : List (FuncId × Mode U) := (56, qaG_md) :: ms115
theorem known116 : Known kk env0 (modesOf ms116) := known_cons (by kernel_rfl) qaG_post known115
def qaX_sh : StSh := ⟨⟨[0], [], []⟩, [.t (.int .i64)], []⟩
def qaX_os : List StSh := [⟨⟨[0, 1, 2, 3, 4, 5], [], []⟩, [.t .bool, .t .bool, .t .bool, .t .bool, .t .bool, .t .bool], []⟩]
def qaX_tr : Bool × Bool × Bool × Bool × Bool × Bool → Tr (Nat × List (TV U)) := fun x => .ret (0, [⟨.bool, x.1⟩, ⟨.bool, x.2.1⟩, ⟨.bool, x.2.2.1⟩, ⟨.bool, x.2.2.2.1⟩, ⟨.bool, x.2.2.2.2.1⟩, ⟨.bool, x.2.2.2.2.2⟩])
def qaX_enc : Nat → List (TV U) → Option (Bool × Bool × Bool × Bool × Bool × Bool)
  | 0, [⟨.bool, a0⟩, ⟨.bool, a1⟩, ⟨.bool, a2⟩, ⟨.bool, a3⟩, ⟨.bool, a4⟩, ⟨.bool, a5⟩] => some (a0, a1, a2, a3, a4, a5)
  | _, _ => none
def qaX_dec : Bool × Bool × Bool × Bool × Bool × Bool → Nat × List (TV U) := fun x => (0, [⟨.bool, x.1⟩, ⟨.bool, x.2.1⟩, ⟨.bool, x.2.2.1⟩, ⟨.bool, x.2.2.2.1⟩, ⟨.bool, x.2.2.2.2.1⟩, ⟨.bool, x.2.2.2.2.2⟩])
def qaX_in : List (TV U) → Option (Bool × Bool × Bool × Bool × Bool × Bool)
  | [⟨(.int .i64), a0⟩] => qaX a0
  | _ => none
def qaX_md : Mode U := ⟨qaX_sh, [], qaX_os, fun ls => .get (qaX_in ls) qaX_tr⟩
theorem qaX_post : ModeOk kk env0 87 qaX_md :=
  fn_of (fn := Tryz.f87) qaX_enc qaX_dec (kitOk_of eqOk mixed known116) (by kernel_rfl) (L := jnL) (loopsOk_of (bs := []) (by kernel_rfl) trivial) (fun _ => rfl) (by intro i qs r h; unfold qaX_enc at h; split at h <;> cases h <;> rfl)
    (by intro ls r h; unfold qaX_in at h; split at h; rw [qaX, sealF_eq] at h; exact Eq.trans (by kernel_rfl) h; cases h)
def ms117 : List (FuncId × Mode U) := (87, qaX_md) :: ms116
theorem known117 : Known kk env0 (modesOf ms117) := known_cons (by kernel_rfl) qaX_post known116
def qaW_sh : StSh := ⟨⟨[0], [], []⟩, [.t (.st 41)], []⟩
def qaW_os : List StSh := [⟨⟨[0], [], []⟩, [.t .bool], []⟩]
def qaW_tr : Bool → Tr (Nat × List (TV U)) := fun x => .ret (0, [⟨.bool, x⟩])
def qaW_in (rec_qaW : TExpr → Option (Bool)) : List (TV U) → Option (Bool)
  | [⟨(.st 41), a0⟩] => rec_qaW a0
  | _ => none
def qaW_rmd (rec_qaW : TExpr → Option (Bool)) : Mode U := ⟨qaW_sh, [], qaW_os, fun ls => .get (qaW_in rec_qaW ls) qaW_tr⟩
def ms118 (rec_qaW : TExpr → Option (Bool)) : List (FuncId × Mode U) := (88, (qaW_rmd rec_qaW)) :: ms117
theorem known118 (rec_qaW : TExpr → Option (Bool)) (hrec_qaW : ModeOk kk env0 88 (qaW_rmd rec_qaW)) : Known kk env0 (modesOf (ms118 rec_qaW)) := known_cons (by kernel_rfl) hrec_qaW known117
def qaW_sh14 : StSh := ⟨⟨[1, 5], [1], []⟩, [.ptr 1 0, .t (.int .i64)], [.blk 41 [.t (.int .i64), .t (.int .i64), .t .str, .t (.slc (.st 41))]]⟩
def qaW_o14 : List Out := [⟨.ret, ⟨⟨[2], [], []⟩, [.t .bool], []⟩⟩, ⟨.exit 1, ⟨⟨[], [], []⟩, [], []⟩⟩]
def qaW_b14 : Code := (nthLoop (bodyOf Tryz.f88) 0)
def qaW_rec14 (rec : Int → Int → Int → List UInt8 → List (TExpr) → Option ((Bool) ⊕ (Unit))) : List (TV U) → Option ((Bool) ⊕ (Unit))
  | [⟨(.int .i64), a0⟩, ⟨(.int .i64), a1⟩, ⟨(.int .i64), a2⟩, ⟨.str, a3⟩, ⟨(.slc (.st 41)), a4⟩] => rec a0 a1 a2 a3 a4
  | _ => none
def qaW_enc14 : Nat → List (TV U) → Option ((Bool) ⊕ (Unit))
  | 0, [⟨.bool, a0⟩] => some (.inl a0)
  | 1, [] => some (.inr ())
  | _, _ => none
def qaW_dec14 : (Bool) ⊕ (Unit) → Nat × List (TV U) := fun r => match r with | (.inl x) => (0, [⟨.bool, x⟩]) | (.inr x) => (1, [])
def qaW_tr14 : (Bool) ⊕ (Unit) → Tr (Nat × List (TV U)) := fun r => .alt r (fun x => .ret (0, [⟨.bool, x⟩])) (fun y => (fun x => .ret (1, [])) y)
def qaW_lp14 (rec_qaW : TExpr → Option (Bool)) : Lift.Loop U := ⟨qaW_sh14, qaW_o14, fun ls => .get (qaW_rec14 (qaW_l14 rec_qaW) ls) qaW_tr14⟩
theorem qaW_ok14 (rec_qaW : TExpr → Option (Bool)) (hrec_qaW : ModeOk kk env0 88 (qaW_rmd rec_qaW)) : LoopR kk env0 Tryz.f88.ntmps qaW_b14 (qaW_lp14 rec_qaW) :=
  loop_of qaW_enc14 qaW_dec14 (fun n => qaW_rec14 (qaW_i14 rec_qaW n)) (kitOk_of eqOk mixed (known118 rec_qaW hrec_qaW)) (L := jnL) (loopsOk_of (bs := []) (by kernel_rfl) trivial) (by intro r; rcases r with r | r <;> rfl) (by intro i qs r h; unfold qaW_enc14 at h; split at h <;> cases h <;> rfl)
    (by intro ls r h; unfold qaW_rec14 at h; split at h <;> cases h)
    (by intro n ls r h; unfold qaW_rec14 at h; split at h; exact (show _ = qaW_t14 rec_qaW (qaW_i14 rec_qaW n) _ _ _ _ _ from by kernel_rfl).trans h; cases h) (by rw [qaW_l14, sealF_eq])
def qaW_L (rec_qaW : TExpr → Option (Bool)) : Nat → Option (Lift.Loop U) := fun n => bif Nat.beq n joinKey then some joinMark else bif Nat.beq n 14 then some (qaW_lp14 rec_qaW) else none
def qaW_enc : Nat → List (TV U) → Option (Bool)
  | 0, [⟨.bool, a0⟩] => some a0
  | _, _ => none
def qaW_dec : Bool → Nat × List (TV U) := fun x => (0, [⟨.bool, x⟩])
def qaW_md : Mode U := qaW_rmd qaW
theorem qaW_step (rec_qaW : TExpr → Option (Bool)) (hrec_qaW : ModeOk kk env0 88 (qaW_rmd rec_qaW)) : LoopsOk (Kit.withModes kk (modesOf (ms118 rec_qaW))) env0 Tryz.f88.ntmps (qaW_L rec_qaW) (bodyOf Tryz.f88) := loopsOk_of (bs := [qaW_b14]) (by kernel_rfl) ⟨.inr ⟨_, by kernel_rfl, LoopOk.of_round (qaW_ok14 rec_qaW hrec_qaW)⟩, trivial⟩
theorem qaW_post : ModeOk kk env0 88 (qaW_rmd qaW) :=
  rec_of (K := kk) (F := qaW) qaW_rmd qaW_i (by rw [qaW, sealF_eq]) (rec_zero (by intro ls r h; unfold qaW_in at h; split at h <;> cases h)) (fun n ih => fn_of (fn := Tryz.f88) qaW_enc qaW_dec (kitOk_of eqOk mixed (known118 (qaW_i n) ih)) (by kernel_rfl) (qaW_step (qaW_i n) ih) (fun _ => rfl) (by intro i qs r h; unfold qaW_enc at h; split at h <;> cases h <;> rfl)
    (by intro ls r h; unfold qaW_in at h; split at h; exact (show _ = qaW_f (qaW_i n) _ from by kernel_rfl).trans h; cases h))
def ms119 : List (FuncId × Mode U) := (88, qaW_md) :: ms117
theorem known119 : Known kk env0 (modesOf ms119) := known_cons (by kernel_rfl) qaW_post known117
def qaY_sh : StSh := ⟨⟨[0], [], []⟩, [.t (.st 41)], []⟩
def qaY_os : List StSh := [⟨⟨[0], [], []⟩, [.t .bool], []⟩]
def qaY_tr : Bool → Tr (Nat × List (TV U)) := fun x => .ret (0, [⟨.bool, x⟩])
def qaY_enc : Nat → List (TV U) → Option (Bool)
  | 0, [⟨.bool, a0⟩] => some a0
  | _, _ => none
def qaY_dec : Bool → Nat × List (TV U) := fun x => (0, [⟨.bool, x⟩])
def qaY_in : List (TV U) → Option (Bool)
  | [⟨(.st 41), a0⟩] => qaY a0
  | _ => none
def qaY_md : Mode U := ⟨qaY_sh, [], qaY_os, fun ls => .get (qaY_in ls) qaY_tr⟩
theorem qaY_post : ModeOk kk env0 89 qaY_md :=
  fn_of (fn := Tryz.f89) qaY_enc qaY_dec (kitOk_of eqOk mixed known119) (by kernel_rfl) (L := jnL) (loopsOk_of (bs := []) (by kernel_rfl) trivial) (fun _ => rfl) (by intro i qs r h; unfold qaY_enc at h; split at h <;> cases h <;> rfl)
    (by intro ls r h; unfold qaY_in at h; split at h; rw [qaY, sealF_eq] at h; exact Eq.trans (by kernel_rfl) h; cases h)
def ms120 : List (FuncId × Mode U) := (89, qaY_md) :: ms119
theorem known120 : Known kk env0 (modesOf ms120) := known_cons (by kernel_rfl) qaY_post known119
def qa7_sh : StSh := ⟨⟨[0], [], []⟩, [.t (.slc (.st 43))], []⟩
def qa7_os : List StSh := [⟨⟨[0], [], []⟩, [.t .bool], []⟩]
def qa7_tr : Bool → Tr (Nat × List (TV U)) := fun x => .ret (0, [⟨.bool, x⟩])
def qa7_in (rec_qa7 : List (TStmt) → Option (Bool)) : List (TV U) → Option (Bool)
  | [⟨(.slc (.st 43)), a0⟩] => rec_qa7 a0
  | _ => none
def qa7_rmd (rec_qa7 : List (TStmt) → Option (Bool)) : Mode U := ⟨qa7_sh, [], qa7_os, fun ls => .get (qa7_in rec_qa7 ls) qa7_tr⟩
def ms121 (rec_qa7 : List (TStmt) → Option (Bool)) : List (FuncId × Mode U) := (57, (qa7_rmd rec_qa7)) :: ms120
theorem known121 (rec_qa7 : List (TStmt) → Option (Bool)) (hrec_qa7 : ModeOk kk env0 57 (qa7_rmd rec_qa7)) : Known kk env0 (modesOf (ms121 rec_qa7)) := known_cons (by kernel_rfl) hrec_qa7 known120
def qa6_sh : StSh := ⟨⟨[0], [], []⟩, [.t (.st 43)], []⟩
def qa6_os : List StSh := [⟨⟨[0], [], []⟩, [.t .bool], []⟩]
def qa6_tr : Bool → Tr (Nat × List (TV U)) := fun x => .ret (0, [⟨.bool, x⟩])
def qa6_enc : Nat → List (TV U) → Option (Bool)
  | 0, [⟨.bool, a0⟩] => some a0
  | _, _ => none
def qa6_dec : Bool → Nat × List (TV U) := fun x => (0, [⟨.bool, x⟩])
def qa6_in (rec_qa7 : List (TStmt) → Option (Bool)) : List (TV U) → Option (Bool)
  | [⟨(.st 43), a0⟩] => qa6 rec_qa7 a0
  | _ => none
def qa6_md (rec_qa7 : List (TStmt) → Option (Bool)) : Mode U := ⟨qa6_sh, [], qa6_os, fun ls => .get (qa6_in rec_qa7 ls) qa6_tr⟩
theorem qa6_post (rec_qa7 : List (TStmt) → Option (Bool)) (hrec_qa7 : ModeOk kk env0 57 (qa7_rmd rec_qa7)) : ModeOk kk env0 77 (qa6_md rec_qa7) :=
  fn_of (fn := Tryz.f77) qa6_enc qa6_dec (kitOk_of eqOk mixed (known121 rec_qa7 hrec_qa7)) (by kernel_rfl) (L := jnL) (loopsOk_of (bs := []) (by kernel_rfl) trivial) (fun _ => rfl) (by intro i qs r h; unfold qa6_enc at h; split at h <;> cases h <;> rfl)
    (by intro ls r h; unfold qa6_in at h; split at h; rw [qa6, sealF_eq] at h; exact Eq.trans (by kernel_rfl) h; cases h)
def ms122 (rec_qa7 : List (TStmt) → Option (Bool)) : List (FuncId × Mode U) := (77, (qa6_md rec_qa7)) :: (ms121 rec_qa7)
theorem known122 (rec_qa7 : List (TStmt) → Option (Bool)) (hrec_qa7 : ModeOk kk env0 57 (qa7_rmd rec_qa7)) : Known kk env0 (modesOf (ms122 rec_qa7)) := known_cons (by kernel_rfl) (qa6_post rec_qa7 hrec_qa7) (known121 rec_qa7 hrec_qa7)
def qa7_sh2 : StSh := ⟨⟨[0, 3], [], []⟩, [.t (.slc (.st 43)), .t (.int .i64)], []⟩
def qa7_o2 : List Out := [⟨.ret, ⟨⟨[2], [], []⟩, [.t .bool], []⟩⟩, ⟨.exit 0, ⟨⟨[], [], []⟩, [], []⟩⟩]
def qa7_b2 : Code := (nthLoop (bodyOf Tryz.f57) 0)
def qa7_rec2 (rec : List (TStmt) → Int → Option ((Bool) ⊕ (Unit))) : List (TV U) → Option ((Bool) ⊕ (Unit))
  | [⟨(.slc (.st 43)), a0⟩, ⟨(.int .i64), a1⟩] => rec a0 a1
  | _ => none
def qa7_enc2 : Nat → List (TV U) → Option ((Bool) ⊕ (Unit))
  | 0, [⟨.bool, a0⟩] => some (.inl a0)
  | 1, [] => some (.inr ())
  | _, _ => none
def qa7_dec2 : (Bool) ⊕ (Unit) → Nat × List (TV U) := fun r => match r with | (.inl x) => (0, [⟨.bool, x⟩]) | (.inr x) => (1, [])
def qa7_tr2 : (Bool) ⊕ (Unit) → Tr (Nat × List (TV U)) := fun r => .alt r (fun x => .ret (0, [⟨.bool, x⟩])) (fun y => (fun x => .ret (1, [])) y)
def qa7_lp2 (rec_qa7 : List (TStmt) → Option (Bool)) : Lift.Loop U := ⟨qa7_sh2, qa7_o2, fun ls => .get (qa7_rec2 (qa7_l2 rec_qa7) ls) qa7_tr2⟩
theorem qa7_ok2 (rec_qa7 : List (TStmt) → Option (Bool)) (hrec_qa7 : ModeOk kk env0 57 (qa7_rmd rec_qa7)) : LoopR kk env0 Tryz.f57.ntmps qa7_b2 (qa7_lp2 rec_qa7) :=
  loop_of qa7_enc2 qa7_dec2 (fun n => qa7_rec2 (qa7_i2 rec_qa7 n)) (kitOk_of eqOk mixed (known122 rec_qa7 hrec_qa7)) (L := jnL) (loopsOk_of (bs := []) (by kernel_rfl) trivial) (by intro r; rcases r with r | r <;> rfl) (by intro i qs r h; unfold qa7_enc2 at h; split at h <;> cases h <;> rfl)
    (by intro ls r h; unfold qa7_rec2 at h; split at h <;> cases h)
    (by intro n ls r h; unfold qa7_rec2 at h; split at h; exact (show _ = qa7_t2 rec_qa7 (qa7_i2 rec_qa7 n) _ _ from by kernel_rfl).trans h; cases h) (by rw [qa7_l2, sealF_eq])
def qa7_L (rec_qa7 : List (TStmt) → Option (Bool)) : Nat → Option (Lift.Loop U) := fun n => bif Nat.beq n joinKey then some joinMark else bif Nat.beq n 2 then some (qa7_lp2 rec_qa7) else none
def qa7_enc : Nat → List (TV U) → Option (Bool)
  | 0, [⟨.bool, a0⟩] => some a0
  | _, _ => none
def qa7_dec : Bool → Nat × List (TV U) := fun x => (0, [⟨.bool, x⟩])
def qa7_md : Mode U := qa7_rmd qa7
theorem qa7_step (rec_qa7 : List (TStmt) → Option (Bool)) (hrec_qa7 : ModeOk kk env0 57 (qa7_rmd rec_qa7)) : LoopsOk (Kit.withModes kk (modesOf (ms122 rec_qa7))) env0 Tryz.f57.ntmps (qa7_L rec_qa7) (bodyOf Tryz.f57) := loopsOk_of (bs := [qa7_b2]) (by kernel_rfl) ⟨.inr ⟨_, by kernel_rfl, LoopOk.of_round (qa7_ok2 rec_qa7 hrec_qa7)⟩, trivial⟩
theorem qa7_post : ModeOk kk env0 57 (qa7_rmd qa7) :=
  rec_of (K := kk) (F := qa7) qa7_rmd qa7_i (by rw [qa7, sealF_eq]) (rec_zero (by intro ls r h; unfold qa7_in at h; split at h <;> cases h)) (fun n ih => fn_of (fn := Tryz.f57) qa7_enc qa7_dec (kitOk_of eqOk mixed (known122 (qa7_i n) ih)) (by kernel_rfl) (qa7_step (qa7_i n) ih) (fun _ => rfl) (by intro i qs r h; unfold qa7_enc at h; split at h <;> cases h <;> rfl)
    (by intro ls r h; unfold qa7_in at h; split at h; exact (show _ = qa7_f (qa7_i n) _ from by kernel_rfl).trans h; cases h))
def ms123 : List (FuncId × Mode U) := (57, qa7_md) :: ms120
theorem known123 : Known kk env0 (modesOf ms123) := known_cons (by kernel_rfl) qa7_post known120
def qa4_sh2 : StSh := ⟨⟨[1, 3], [1], []⟩, [.ptr 1 0, .t (.int .i64)], [.blk 26 [.t (.slc (.st 46)), .t (.slc .str), .t (.slc (.st 38))]]⟩
def qa4_o2 : List Out := [⟨.ret, ⟨⟨[2], [], []⟩, [.t .bool], []⟩⟩, ⟨.exit 0, ⟨⟨[1], [1], []⟩, [.ptr 1 0], [.blk 26 [.t (.slc (.st 46)), .t (.slc .str), .t (.slc (.st 38))]]⟩⟩]
def qa4_b2 : Code := (nthLoop (bodyOf Tryz.f24) 0)
def qa4_rec2 (rec : Int → List (TCell) → List (List UInt8) → List (TThread) → Option ((Bool) ⊕ ((List (TCell)) × (List (List UInt8)) × (List (TThread))))) : List (TV U) → Option ((Bool) ⊕ ((List (TCell)) × (List (List UInt8)) × (List (TThread))))
  | [⟨(.int .i64), a0⟩, ⟨(.slc (.st 46)), a1⟩, ⟨(.slc .str), a2⟩, ⟨(.slc (.st 38)), a3⟩] => rec a0 a1 a2 a3
  | _ => none
def qa4_enc2 : Nat → List (TV U) → Option ((Bool) ⊕ ((List (TCell)) × (List (List UInt8)) × (List (TThread))))
  | 0, [⟨.bool, a0⟩] => some (.inl a0)
  | 1, [⟨(.slc (.st 46)), a0⟩, ⟨(.slc .str), a1⟩, ⟨(.slc (.st 38)), a2⟩] => some (.inr (a0, a1, a2))
  | _, _ => none
def qa4_dec2 : (Bool) ⊕ ((List (TCell)) × (List (List UInt8)) × (List (TThread))) → Nat × List (TV U) := fun r => match r with | (.inl x) => (0, [⟨.bool, x⟩]) | (.inr x) => (1, [⟨(.slc (.st 46)), x.1⟩, ⟨(.slc .str), x.2.1⟩, ⟨(.slc (.st 38)), x.2.2⟩])
def qa4_tr2 : (Bool) ⊕ ((List (TCell)) × (List (List UInt8)) × (List (TThread))) → Tr (Nat × List (TV U)) := fun r => .alt r (fun x => .ret (0, [⟨.bool, x⟩])) (fun y => (fun x => .ret (1, [⟨(.slc (.st 46)), x.1⟩, ⟨(.slc .str), x.2.1⟩, ⟨(.slc (.st 38)), x.2.2⟩])) y)
def qa4_lp2 : Lift.Loop U := ⟨qa4_sh2, qa4_o2, fun ls => .get (qa4_rec2 qa4_l2 ls) qa4_tr2⟩
theorem qa4_ok2 : LoopR kk env0 Tryz.f24.ntmps qa4_b2 qa4_lp2 :=
  loop_of qa4_enc2 qa4_dec2 (fun n => qa4_rec2 (qa4_i2 n)) (kitOk_of eqOk mixed known123) (L := jnL) (loopsOk_of (bs := []) (by kernel_rfl) trivial) (by intro r; rcases r with r | r <;> rfl) (by intro i qs r h; unfold qa4_enc2 at h; split at h <;> cases h <;> rfl)
    (by intro ls r h; unfold qa4_rec2 at h; split at h <;> cases h)
    (by intro n ls r h; unfold qa4_rec2 at h; split at h; exact (show _ = qa4_t2 (qa4_i2 n) _ _ _ _ from by kernel_rfl).trans h; cases h) (by rw [qa4_l2, sealF_eq])
def qa4_sh8 : StSh := ⟨⟨[1, 5], [1], []⟩, [.ptr 1 0, .t (.int .i64)], [.blk 26 [.t (.slc (.st 46)), .t (.slc .str), .t (.slc (.st 38))]]⟩
def qa4_o8 : List Out := [⟨.ret, ⟨⟨[2], [], []⟩, [.t .bool], []⟩⟩, ⟨.exit 2, ⟨⟨[1], [1], []⟩, [.ptr 1 0], [.blk 26 [.t (.slc (.st 46)), .t (.slc .str), .t (.slc (.st 38))]]⟩⟩]
def qa4_b8 : Code := (nthLoop (bodyOf Tryz.f24) 1)
def qa4_rec8 (rec : Int → List (TCell) → List (List UInt8) → List (TThread) → Option ((Bool) ⊕ ((List (TCell)) × (List (List UInt8)) × (List (TThread))))) : List (TV U) → Option ((Bool) ⊕ ((List (TCell)) × (List (List UInt8)) × (List (TThread))))
  | [⟨(.int .i64), a0⟩, ⟨(.slc (.st 46)), a1⟩, ⟨(.slc .str), a2⟩, ⟨(.slc (.st 38)), a3⟩] => rec a0 a1 a2 a3
  | _ => none
def qa4_enc8 : Nat → List (TV U) → Option ((Bool) ⊕ ((List (TCell)) × (List (List UInt8)) × (List (TThread))))
  | 0, [⟨.bool, a0⟩] => some (.inl a0)
  | 1, [⟨(.slc (.st 46)), a0⟩, ⟨(.slc .str), a1⟩, ⟨(.slc (.st 38)), a2⟩] => some (.inr (a0, a1, a2))
  | _, _ => none
def qa4_dec8 : (Bool) ⊕ ((List (TCell)) × (List (List UInt8)) × (List (TThread))) → Nat × List (TV U) := fun r => match r with | (.inl x) => (0, [⟨.bool, x⟩]) | (.inr x) => (1, [⟨(.slc (.st 46)), x.1⟩, ⟨(.slc .str), x.2.1⟩, ⟨(.slc (.st 38)), x.2.2⟩])
def qa4_tr8 : (Bool) ⊕ ((List (TCell)) × (List (List UInt8)) × (List (TThread))) → Tr (Nat × List (TV U)) := fun r => .alt r (fun x => .ret (0, [⟨.bool, x⟩])) (fun y => (fun x => .ret (1, [⟨(.slc (.st 46)), x.1⟩, ⟨(.slc .str), x.2.1⟩, ⟨(.slc (.st 38)), x.2.2⟩])) y)
def qa4_lp8 : Lift.Loop U := ⟨qa4_sh8, qa4_o8, fun ls => .get (qa4_rec8 qa4_l8 ls) qa4_tr8⟩
theorem qa4_ok8 : LoopR kk env0 Tryz.f24.ntmps qa4_b8 qa4_lp8 :=
  loop_of qa4_enc8 qa4_dec8 (fun n => qa4_rec8 (qa4_i8 n)) (kitOk_of eqOk mixed known123) (L := jnL) (loopsOk_of (bs := []) (by kernel_rfl) trivial) (by intro r; rcases r with r | r <;> rfl) (by intro i qs r h; unfold qa4_enc8 at h; split at h <;> cases h <;> rfl)
    (by intro ls r h; unfold qa4_rec8 at h; split at h <;> cases h)
    (by intro n ls r h; unfold qa4_rec8 at h; split at h; exact (show _ = qa4_t8 (qa4_i8 n) _ _ _ _ from by kernel_rfl).trans h; cases h) (by rw [qa4_l8, sealF_eq])
def qa4_sh14 : StSh := ⟨⟨[1, 7], [1], []⟩, [.ptr 1 0, .t (.int .i64)], [.blk 26 [.t (.slc (.st 46)), .t (.slc .str), .t (.slc (.st 38))]]⟩
def qa4_o14 : List Out := [⟨.ret, ⟨⟨[2], [], []⟩, [.t .bool], []⟩⟩, ⟨.exit 4, ⟨⟨[], [], []⟩, [], []⟩⟩]
def qa4_b14 : Code := (nthLoop (bodyOf Tryz.f24) 2)
def qa4_rec14 (rec : Int → List (TCell) → List (List UInt8) → List (TThread) → Option ((Bool) ⊕ (Unit))) : List (TV U) → Option ((Bool) ⊕ (Unit))
  | [⟨(.int .i64), a0⟩, ⟨(.slc (.st 46)), a1⟩, ⟨(.slc .str), a2⟩, ⟨(.slc (.st 38)), a3⟩] => rec a0 a1 a2 a3
  | _ => none
def qa4_enc14 : Nat → List (TV U) → Option ((Bool) ⊕ (Unit))
  | 0, [⟨.bool, a0⟩] => some (.inl a0)
  | 1, [] => some (.inr ())
  | _, _ => none
def qa4_dec14 : (Bool) ⊕ (Unit) → Nat × List (TV U) := fun r => match r with | (.inl x) => (0, [⟨.bool, x⟩]) | (.inr x) => (1, [])
def qa4_tr14 : (Bool) ⊕ (Unit) → Tr (Nat × List (TV U)) := fun r => .alt r (fun x => .ret (0, [⟨.bool, x⟩])) (fun y => (fun x => .ret (1, [])) y)
def qa4_lp14 : Lift.Loop U := ⟨qa4_sh14, qa4_o14, fun ls => .get (qa4_rec14 qa4_l14 ls) qa4_tr14⟩
theorem qa4_ok14 : LoopR kk env0 Tryz.f24.ntmps qa4_b14 qa4_lp14 :=
  loop_of qa4_enc14 qa4_dec14 (fun n => qa4_rec14 (qa4_i14 n)) (kitOk_of eqOk mixed known123) (L := jnL) (loopsOk_of (bs := []) (by kernel_rfl) trivial) (by intro r; rcases r with r | r <;> rfl) (by intro i qs r h; unfold qa4_enc14 at h; split at h <;> cases h <;> rfl)
    (by intro ls r h; unfold qa4_rec14 at h; split at h <;> cases h)
    (by intro n ls r h; unfold qa4_rec14 at h; split at h; exact (show _ = qa4_t14 (qa4_i14 n) _ _ _ _ from by kernel_rfl).trans h; cases h) (by rw [qa4_l14, sealF_eq])
def qa4_sh : StSh := ⟨⟨[0], [], []⟩, [.t (.st 26)], []⟩
def qa4_os : List StSh := [⟨⟨[0], [], []⟩, [.t .bool], []⟩]
def qa4_tr : Bool → Tr (Nat × List (TV U)) := fun x => .ret (0, [⟨.bool, x⟩])
def qa4_L : Nat → Option (Lift.Loop U) := fun n => bif Nat.beq n joinKey then some joinMark else bif Nat.beq n 2 then some qa4_lp2 else bif Nat.beq n 8 then some qa4_lp8 else bif Nat.beq n 14 then some qa4_lp14 else none
def qa4_enc : Nat → List (TV U) → Option (Bool)
  | 0, [⟨.bool, a0⟩] => some a0
  | _, _ => none
def qa4_dec : Bool → Nat × List (TV U) := fun x => (0, [⟨.bool, x⟩])
def qa4_in : List (TV U) → Option (Bool)
  | [⟨(.st 26), a0⟩] => qa4 a0
  | _ => none
def qa4_md : Mode U := ⟨qa4_sh, [], qa4_os, fun ls => .get (qa4_in ls) qa4_tr⟩
theorem qa4_post : ModeOk kk env0 24 qa4_md :=
  fn_of (fn := Tryz.f24) qa4_enc qa4_dec (kitOk_of eqOk mixed known123) (by kernel_rfl) (L := qa4_L) (loopsOk_of (bs := [qa4_b2, qa4_b8, qa4_b14]) (by kernel_rfl) ⟨.inr ⟨_, by kernel_rfl, LoopOk.of_round (qa4_ok2)⟩, .inr ⟨_, by kernel_rfl, LoopOk.of_round (qa4_ok8)⟩, .inr ⟨_, by kernel_rfl, LoopOk.of_round (qa4_ok14)⟩, trivial⟩) (fun _ => rfl) (by intro i qs r h; unfold qa4_enc at h; split at h <;> cases h <;> rfl)
    (by intro ls r h; unfold qa4_in at h; split at h; rw [qa4, sealF_eq] at h; exact Eq.trans (by kernel_rfl) h; cases h)
def ms124 : List (FuncId × Mode U) := (24, qa4_md) :: ms123
theorem known124 : Known kk env0 (modesOf ms124) := known_cons (by kernel_rfl) qa4_post known123
def qa8_sh : StSh := ⟨⟨[0], [], []⟩, [.t (.st 41)], []⟩
def qa8_os : List StSh := [⟨⟨[0], [], []⟩, [.t .bool], []⟩]
def qa8_tr : Bool → Tr (Nat × List (TV U)) := fun x => .ret (0, [⟨.bool, x⟩])
def qa8_enc : Nat → List (TV U) → Option (Bool)
  | 0, [⟨.bool, a0⟩] => some a0
  | _, _ => none
def qa8_dec : Bool → Nat × List (TV U) := fun x => (0, [⟨.bool, x⟩])
def qa8_in : List (TV U) → Option (Bool)
  | [⟨(.st 41), a0⟩] => qa8 a0
  | _ => none
def qa8_md : Mode U := ⟨qa8_sh, [], qa8_os, fun ls => .get (qa8_in ls) qa8_tr⟩
theorem qa8_post : ModeOk kk env0 65 qa8_md :=
  fn_of (fn := Tryz.f65) qa8_enc qa8_dec (kitOk_of eqOk mixed known124) (by kernel_rfl) (L := jnL) (loopsOk_of (bs := []) (by kernel_rfl) trivial) (fun _ => rfl) (by intro i qs r h; unfold qa8_enc at h; split at h <;> cases h <;> rfl)
    (by intro ls r h; unfold qa8_in at h; split at h; rw [qa8, sealF_eq] at h; exact Eq.trans (by kernel_rfl) h; cases h)
def ms125 : List (FuncId × Mode U) := (65, qa8_md) :: ms124
theorem known125 : Known kk env0 (modesOf ms125) := known_cons (by kernel_rfl) qa8_post known124
def qaV_sh : StSh := ⟨⟨[0], [], []⟩, [.t (.st 41)], []⟩
def qaV_os : List StSh := [⟨⟨[0], [], []⟩, [.t (.int .i64)], []⟩]
def qaV_tr : Int → Tr (Nat × List (TV U)) := fun x => .ret (0, [⟨(.int .i64), x⟩])
def qaV_in (rec_qaV : TExpr → Option (Int)) : List (TV U) → Option (Int)
  | [⟨(.st 41), a0⟩] => rec_qaV a0
  | _ => none
def qaV_rmd (rec_qaV : TExpr → Option (Int)) : Mode U := ⟨qaV_sh, [], qaV_os, fun ls => .get (qaV_in rec_qaV ls) qaV_tr⟩
def ms126 (rec_qaV : TExpr → Option (Int)) : List (FuncId × Mode U) := (67, (qaV_rmd rec_qaV)) :: ms125
theorem known126 (rec_qaV : TExpr → Option (Int)) (hrec_qaV : ModeOk kk env0 67 (qaV_rmd rec_qaV)) : Known kk env0 (modesOf (ms126 rec_qaV)) := known_cons (by kernel_rfl) hrec_qaV known125
def qaV_sh3 : StSh := ⟨⟨[1, 3, 4], [1], []⟩, [.ptr 1 0, .t (.int .i64), .t (.int .i64)], [.blk 41 [.t (.int .i64), .t (.int .i64), .t .str, .t (.slc (.st 41))]]⟩
def qaV_o3 : List Out := [⟨.exit 0, ⟨⟨[3], [], []⟩, [.t (.int .i64)], []⟩⟩]
def qaV_b3 : Code := (nthLoop (bodyOf Tryz.f67) 0)
def qaV_rec3 (rec : Int → Int → Int → Int → List UInt8 → List (TExpr) → Option (Int)) : List (TV U) → Option (Int)
  | [⟨(.int .i64), a0⟩, ⟨(.int .i64), a1⟩, ⟨(.int .i64), a2⟩, ⟨(.int .i64), a3⟩, ⟨.str, a4⟩, ⟨(.slc (.st 41)), a5⟩] => rec a0 a1 a2 a3 a4 a5
  | _ => none
def qaV_enc3 : Nat → List (TV U) → Option (Int)
  | 0, [⟨(.int .i64), a0⟩] => some a0
  | _, _ => none
def qaV_dec3 : Int → Nat × List (TV U) := fun x => (0, [⟨(.int .i64), x⟩])
def qaV_tr3 : Int → Tr (Nat × List (TV U)) := fun x => .ret (0, [⟨(.int .i64), x⟩])
def qaV_lp3 (rec_qaV : TExpr → Option (Int)) : Lift.Loop U := ⟨qaV_sh3, qaV_o3, fun ls => .get (qaV_rec3 (qaV_l3 rec_qaV) ls) qaV_tr3⟩
theorem qaV_ok3 (rec_qaV : TExpr → Option (Int)) (hrec_qaV : ModeOk kk env0 67 (qaV_rmd rec_qaV)) : LoopR kk env0 Tryz.f67.ntmps qaV_b3 (qaV_lp3 rec_qaV) :=
  loop_of qaV_enc3 qaV_dec3 (fun n => qaV_rec3 (qaV_i3 rec_qaV n)) (kitOk_of eqOk mixed (known126 rec_qaV hrec_qaV)) (L := jnL) (loopsOk_of (bs := []) (by kernel_rfl) trivial) (fun _ => rfl) (by intro i qs r h; unfold qaV_enc3 at h; split at h <;> cases h <;> rfl)
    (by intro ls r h; unfold qaV_rec3 at h; split at h <;> cases h)
    (by intro n ls r h; unfold qaV_rec3 at h; split at h; exact (show _ = qaV_t3 rec_qaV (qaV_i3 rec_qaV n) _ _ _ _ _ _ from by kernel_rfl).trans h; cases h) (by rw [qaV_l3, sealF_eq])
def qaV_L (rec_qaV : TExpr → Option (Int)) : Nat → Option (Lift.Loop U) := fun n => bif Nat.beq n joinKey then some joinMark else bif Nat.beq n 3 then some (qaV_lp3 rec_qaV) else none
def qaV_enc : Nat → List (TV U) → Option (Int)
  | 0, [⟨(.int .i64), a0⟩] => some a0
  | _, _ => none
def qaV_dec : Int → Nat × List (TV U) := fun x => (0, [⟨(.int .i64), x⟩])
def qaV_md : Mode U := qaV_rmd qaV
theorem qaV_step (rec_qaV : TExpr → Option (Int)) (hrec_qaV : ModeOk kk env0 67 (qaV_rmd rec_qaV)) : LoopsOk (Kit.withModes kk (modesOf (ms126 rec_qaV))) env0 Tryz.f67.ntmps (qaV_L rec_qaV) (bodyOf Tryz.f67) := loopsOk_of (bs := [qaV_b3]) (by kernel_rfl) ⟨.inr ⟨_, by kernel_rfl, LoopOk.of_round (qaV_ok3 rec_qaV hrec_qaV)⟩, trivial⟩
theorem qaV_post : ModeOk kk env0 67 (qaV_rmd qaV) :=
  rec_of (K := kk) (F := qaV) qaV_rmd qaV_i (by rw [qaV, sealF_eq]) (rec_zero (by intro ls r h; unfold qaV_in at h; split at h <;> cases h)) (fun n ih => fn_of (fn := Tryz.f67) qaV_enc qaV_dec (kitOk_of eqOk mixed (known126 (qaV_i n) ih)) (by kernel_rfl) (qaV_step (qaV_i n) ih) (fun _ => rfl) (by intro i qs r h; unfold qaV_enc at h; split at h <;> cases h <;> rfl)
    (by intro ls r h; unfold qaV_in at h; split at h; exact (show _ = qaV_f (qaV_i n) _ from by kernel_rfl).trans h; cases h))
def ms127 : List (FuncId × Mode U) := (67, qaV_md) :: ms125
theorem known127 : Known kk env0 (modesOf ms127) := known_cons (by kernel_rfl) qaV_post known125
def qa3_sh : StSh := ⟨⟨[0, 1], [], []⟩, [.t (.slc (.st 43)), .t (.int .i64)], []⟩
def qa3_os : List StSh := [⟨⟨[0], [], []⟩, [.t (.int .i64)], []⟩]
def qa3_tr : Int → Tr (Nat × List (TV U)) := fun x => .ret (0, [⟨(.int .i64), x⟩])
def qa3_in (rec_qa3 : List (TStmt) → Int → Option (Int)) : List (TV U) → Option (Int)
  | [⟨(.slc (.st 43)), a0⟩, ⟨(.int .i64), a1⟩] => rec_qa3 a0 a1
  | _ => none
def qa3_rmd (rec_qa3 : List (TStmt) → Int → Option (Int)) : Mode U := ⟨qa3_sh, [], qa3_os, fun ls => .get (qa3_in rec_qa3 ls) qa3_tr⟩
def ms128 (rec_qa3 : List (TStmt) → Int → Option (Int)) : List (FuncId × Mode U) := (33, (qa3_rmd rec_qa3)) :: ms127
theorem known128 (rec_qa3 : List (TStmt) → Int → Option (Int)) (hrec_qa3 : ModeOk kk env0 33 (qa3_rmd rec_qa3)) : Known kk env0 (modesOf (ms128 rec_qa3)) := known_cons (by kernel_rfl) hrec_qa3 known127
def qa3_sh3 : StSh := ⟨⟨[0, 1, 5, 6], [], []⟩, [.t (.slc (.st 43)), .t (.int .i64), .t (.int .i64), .t (.int .i64)], []⟩
def qa3_o3 : List Out := [⟨.exit 0, ⟨⟨[5], [], []⟩, [.t (.int .i64)], []⟩⟩]
def qa3_b3 : Code := (nthLoop (bodyOf Tryz.f33) 0)
def qa3_rec3 (rec : List (TStmt) → Int → Int → Int → Option (Int)) : List (TV U) → Option (Int)
  | [⟨(.slc (.st 43)), a0⟩, ⟨(.int .i64), a1⟩, ⟨(.int .i64), a2⟩, ⟨(.int .i64), a3⟩] => rec a0 a1 a2 a3
  | _ => none
def qa3_enc3 : Nat → List (TV U) → Option (Int)
  | 0, [⟨(.int .i64), a0⟩] => some a0
  | _, _ => none
def qa3_dec3 : Int → Nat × List (TV U) := fun x => (0, [⟨(.int .i64), x⟩])
def qa3_tr3 : Int → Tr (Nat × List (TV U)) := fun x => .ret (0, [⟨(.int .i64), x⟩])
def qa3_lp3 (rec_qa3 : List (TStmt) → Int → Option (Int)) : Lift.Loop U := ⟨qa3_sh3, qa3_o3, fun ls => .get (qa3_rec3 (qa3_l3 rec_qa3) ls) qa3_tr3⟩
theorem qa3_ok3 (rec_qa3 : List (TStmt) → Int → Option (Int)) (hrec_qa3 : ModeOk kk env0 33 (qa3_rmd rec_qa3)) : LoopR kk env0 Tryz.f33.ntmps qa3_b3 (qa3_lp3 rec_qa3) :=
  loop_of qa3_enc3 qa3_dec3 (fun n => qa3_rec3 (qa3_i3 rec_qa3 n)) (kitOk_of eqOk mixed (known128 rec_qa3 hrec_qa3)) (L := jnL) (loopsOk_of (bs := []) (by kernel_rfl) trivial) (fun _ => rfl) (by intro i qs r h; unfold qa3_enc3 at h; split at h <;> cases h <;> rfl)
    (by intro ls r h; unfold qa3_rec3 at h; split at h <;> cases h)
    (by intro n ls r h; unfold qa3_rec3 at h; split at h; exact (show _ = qa3_t3 rec_qa3 (qa3_i3 rec_qa3 n) _ _ _ _ from by kernel_rfl).trans h; cases h) (by rw [qa3_l3, sealF_eq])
def qa3_L (rec_qa3 : List (TStmt) → Int → Option (Int)) : Nat → Option (Lift.Loop U) := fun n => bif Nat.beq n joinKey then some joinMark else bif Nat.beq n 3 then some (qa3_lp3 rec_qa3) else none
def qa3_enc : Nat → List (TV U) → Option (Int)
  | 0, [⟨(.int .i64), a0⟩] => some a0
  | _, _ => none
def qa3_dec : Int → Nat × List (TV U) := fun x => (0, [⟨(.int .i64), x⟩])
def qa3_md : Mode U := qa3_rmd qa3
theorem qa3_step (rec_qa3 : List (TStmt) → Int → Option (Int)) (hrec_qa3 : ModeOk kk env0 33 (qa3_rmd rec_qa3)) : LoopsOk (Kit.withModes kk (modesOf (ms128 rec_qa3))) env0 Tryz.f33.ntmps (qa3_L rec_qa3) (bodyOf Tryz.f33) := loopsOk_of (bs := [qa3_b3]) (by kernel_rfl) ⟨.inr ⟨_, by kernel_rfl, LoopOk.of_round (qa3_ok3 rec_qa3 hrec_qa3)⟩, trivial⟩
theorem qa3_post : ModeOk kk env0 33 (qa3_rmd qa3) :=
  rec_of (K := kk) (F := qa3) qa3_rmd qa3_i (by rw [qa3, sealF_eq]) (rec_zero (by intro ls r h; unfold qa3_in at h; split at h <;> cases h)) (fun n ih => fn_of (fn := Tryz.f33) qa3_enc qa3_dec (kitOk_of eqOk mixed (known128 (qa3_i n) ih)) (by kernel_rfl) (qa3_step (qa3_i n) ih) (fun _ => rfl) (by intro i qs r h; unfold qa3_enc at h; split at h <;> cases h <;> rfl)
    (by intro ls r h; unfold qa3_in at h; split at h; exact (show _ = qa3_f (qa3_i n) _ _ from by kernel_rfl).trans h; cases h))
def ms129 : List (FuncId × Mode U) := (33, qa3_md) :: ms127
theorem known129 : Known kk env0 (modesOf ms129) := known_cons (by kernel_rfl) qa3_post known127
def qaT_sh3 : StSh := ⟨⟨[1, 3, 4], [1], []⟩, [.ptr 1 0, .t (.int .i64), .t (.int .i64)], [.blk 26 [.t (.slc (.st 46)), .t (.slc .str), .t (.slc (.st 38))]]⟩
def qaT_o3 : List Out := [⟨.exit 0, ⟨⟨[3], [], []⟩, [.t (.int .i64)], []⟩⟩]
def qaT_b3 : Code := (nthLoop (bodyOf Tryz.f17) 0)
def qaT_rec3 (rec : Int → Int → List (TCell) → List (List UInt8) → List (TThread) → Option (Int)) : List (TV U) → Option (Int)
  | [⟨(.int .i64), a0⟩, ⟨(.int .i64), a1⟩, ⟨(.slc (.st 46)), a2⟩, ⟨(.slc .str), a3⟩, ⟨(.slc (.st 38)), a4⟩] => rec a0 a1 a2 a3 a4
  | _ => none
def qaT_enc3 : Nat → List (TV U) → Option (Int)
  | 0, [⟨(.int .i64), a0⟩] => some a0
  | _, _ => none
def qaT_dec3 : Int → Nat × List (TV U) := fun x => (0, [⟨(.int .i64), x⟩])
def qaT_tr3 : Int → Tr (Nat × List (TV U)) := fun x => .ret (0, [⟨(.int .i64), x⟩])
def qaT_lp3 : Lift.Loop U := ⟨qaT_sh3, qaT_o3, fun ls => .get (qaT_rec3 qaT_l3 ls) qaT_tr3⟩
theorem qaT_ok3 : LoopR kk env0 Tryz.f17.ntmps qaT_b3 qaT_lp3 :=
  loop_of qaT_enc3 qaT_dec3 (fun n => qaT_rec3 (qaT_i3 n)) (kitOk_of eqOk mixed known129) (L := jnL) (loopsOk_of (bs := []) (by kernel_rfl) trivial) (fun _ => rfl) (by intro i qs r h; unfold qaT_enc3 at h; split at h <;> cases h <;> rfl)
    (by intro ls r h; unfold qaT_rec3 at h; split at h <;> cases h)
    (by intro n ls r h; unfold qaT_rec3 at h; split at h; exact (show _ = qaT_t3 (qaT_i3 n) _ _ _ _ _ from by kernel_rfl).trans h; cases h) (by rw [qaT_l3, sealF_eq])
def qaT_sh : StSh := ⟨⟨[0], [], []⟩, [.t (.st 26)], []⟩
def qaT_os : List StSh := [⟨⟨[0], [], []⟩, [.t (.int .i64)], []⟩]
def qaT_tr : Int → Tr (Nat × List (TV U)) := fun x => .ret (0, [⟨(.int .i64), x⟩])
def qaT_L : Nat → Option (Lift.Loop U) := fun n => bif Nat.beq n joinKey then some joinMark else bif Nat.beq n 3 then some qaT_lp3 else none
def qaT_enc : Nat → List (TV U) → Option (Int)
  | 0, [⟨(.int .i64), a0⟩] => some a0
  | _, _ => none
def qaT_dec : Int → Nat × List (TV U) := fun x => (0, [⟨(.int .i64), x⟩])
def qaT_in : List (TV U) → Option (Int)
  | [⟨(.st 26), a0⟩] => qaT a0
  | _ => none
def qaT_md : Mode U := ⟨qaT_sh, [], qaT_os, fun ls => .get (qaT_in ls) qaT_tr⟩
theorem qaT_post : ModeOk kk env0 17 qaT_md :=
  fn_of (fn := Tryz.f17) qaT_enc qaT_dec (kitOk_of eqOk mixed known129) (by kernel_rfl) (L := qaT_L) (loopsOk_of (bs := [qaT_b3]) (by kernel_rfl) ⟨.inr ⟨_, by kernel_rfl, LoopOk.of_round (qaT_ok3)⟩, trivial⟩) (fun _ => rfl) (by intro i qs r h; unfold qaT_enc at h; split at h <;> cases h <;> rfl)
    (by intro ls r h; unfold qaT_in at h; split at h; rw [qaT, sealF_eq] at h; exact Eq.trans (by kernel_rfl) h; cases h)
def ms130 : List (FuncId × Mode U) := (17, qaT_md) :: ms129
theorem known130 : Known kk env0 (modesOf ms130) := known_cons (by kernel_rfl) qaT_post known129
def qaU_sh : StSh := ⟨⟨[0], [], []⟩, [.t (.st 41)], []⟩
def qaU_os : List StSh := [⟨⟨[0], [], []⟩, [.t (.int .i64)], []⟩]
def qaU_tr : Int → Tr (Nat × List (TV U)) := fun x => .ret (0, [⟨(.int .i64), x⟩])
def qaU_in (rec_qaU : TExpr → Option (Int)) : List (TV U) → Option (Int)
  | [⟨(.st 41), a0⟩] => rec_qaU a0
  | _ => none
def qaU_rmd (rec_qaU : TExpr → Option (Int)) : Mode U := ⟨qaU_sh, [], qaU_os, fun ls => .get (qaU_in rec_qaU ls) qaU_tr⟩
def ms131 (rec_qaU : TExpr → Option (Int)) : List (FuncId × Mode U) := (66, (qaU_rmd rec_qaU)) :: ms130
theorem known131 (rec_qaU : TExpr → Option (Int)) (hrec_qaU : ModeOk kk env0 66 (qaU_rmd rec_qaU)) : Known kk env0 (modesOf (ms131 rec_qaU)) := known_cons (by kernel_rfl) hrec_qaU known130
def qaU_sh3 : StSh := ⟨⟨[1, 3, 4], [1], []⟩, [.ptr 1 0, .t (.int .i64), .t (.int .i64)], [.blk 41 [.t (.int .i64), .t (.int .i64), .t .str, .t (.slc (.st 41))]]⟩
def qaU_o3 : List Out := [⟨.exit 0, ⟨⟨[3], [], []⟩, [.t (.int .i64)], []⟩⟩]
def qaU_b3 : Code := (nthLoop (bodyOf Tryz.f66) 0)
def qaU_rec3 (rec : Int → Int → Int → Int → List UInt8 → List (TExpr) → Option (Int)) : List (TV U) → Option (Int)
  | [⟨(.int .i64), a0⟩, ⟨(.int .i64), a1⟩, ⟨(.int .i64), a2⟩, ⟨(.int .i64), a3⟩, ⟨.str, a4⟩, ⟨(.slc (.st 41)), a5⟩] => rec a0 a1 a2 a3 a4 a5
  | _ => none
def qaU_enc3 : Nat → List (TV U) → Option (Int)
  | 0, [⟨(.int .i64), a0⟩] => some a0
  | _, _ => none
def qaU_dec3 : Int → Nat × List (TV U) := fun x => (0, [⟨(.int .i64), x⟩])
def qaU_tr3 : Int → Tr (Nat × List (TV U)) := fun x => .ret (0, [⟨(.int .i64), x⟩])
def qaU_lp3 (rec_qaU : TExpr → Option (Int)) : Lift.Loop U := ⟨qaU_sh3, qaU_o3, fun ls => .get (qaU_rec3 (qaU_l3 rec_qaU) ls) qaU_tr3⟩
theorem qaU_ok3 (rec_qaU : TExpr → Option (Int)) (hrec_qaU : ModeOk kk env0 66 (qaU_rmd rec_qaU)) : LoopR kk env0 Tryz.f66.ntmps qaU_b3 (qaU_lp3 rec_qaU) :=
  loop_of qaU_enc3 qaU_dec3 (fun n => qaU_rec3 (qaU_i3 rec_qaU n)) (kitOk_of eqOk mixed (known131 rec_qaU hrec_qaU)) (L := jnL) (loopsOk_of (bs := []) (by kernel_rfl) trivial) (fun _ => rfl) (by intro i qs r h; unfold qaU_enc3 at h; split at h <;> cases h <;> rfl)
    (by intro ls r h; unfold qaU_rec3 at h; split at h <;> cases h)
    (by intro n ls r h; unfold qaU_rec3 at h; split at h; exact (show _ = qaU_t3 rec_qaU (qaU_i3 rec_qaU n) _ _ _ _ _ _ from by kernel_rfl).trans h; cases h) (by rw [qaU_l3, sealF_eq])
def qaU_L (rec_qaU : TExpr → Option (Int)) : Nat → Option (Lift.Loop U) := fun n => bif Nat.beq n joinKey then some joinMark else bif Nat.beq n 3 then some (qaU_lp3 rec_qaU) else none
def qaU_enc : Nat → List (TV U) → Option (Int)
  | 0, [⟨(.int .i64), a0⟩] => some a0
  | _, _ => none
def qaU_dec : Int → Nat × List (TV U) := fun x => (0, [⟨(.int .i64), x⟩])
def qaU_md : Mode U := qaU_rmd qaU
theorem qaU_step (rec_qaU : TExpr → Option (Int)) (hrec_qaU : ModeOk kk env0 66 (qaU_rmd rec_qaU)) : LoopsOk (Kit.withModes kk (modesOf (ms131 rec_qaU))) env0 Tryz.f66.ntmps (qaU_L rec_qaU) (bodyOf Tryz.f66) := loopsOk_of (bs := [qaU_b3]) (by kernel_rfl) ⟨.inr ⟨_, by kernel_rfl, LoopOk.of_round (qaU_ok3 rec_qaU hrec_qaU)⟩, trivial⟩
theorem qaU_post : ModeOk kk env0 66 (qaU_rmd qaU) :=
  rec_of (K := kk) (F := qaU) qaU_rmd qaU_i (by rw [qaU, sealF_eq]) (rec_zero (by intro ls r h; unfold qaU_in at h; split at h <;> cases h)) (fun n ih => fn_of (fn := Tryz.f66) qaU_enc qaU_dec (kitOk_of eqOk mixed (known131 (qaU_i n) ih)) (by kernel_rfl) (qaU_step (qaU_i n) ih) (fun _ => rfl) (by intro i qs r h; unfold qaU_enc at h; split at h <;> cases h <;> rfl)
    (by intro ls r h; unfold qaU_in at h; split at h; exact (show _ = qaU_f (qaU_i n) _ from by kernel_rfl).trans h; cases h))
def ms132 : List (FuncId × Mode U) := (66, qaU_md) :: ms130
theorem known132 : Known kk env0 (modesOf ms132) := known_cons (by kernel_rfl) qaU_post known130
def qa2_sh : StSh := ⟨⟨[0], [], []⟩, [.t (.slc (.st 43))], []⟩
def qa2_os : List StSh := [⟨⟨[0], [], []⟩, [.t (.int .i64)], []⟩]
def qa2_tr : Int → Tr (Nat × List (TV U)) := fun x => .ret (0, [⟨(.int .i64), x⟩])
def qa2_in (rec_qa2 : List (TStmt) → Option (Int)) : List (TV U) → Option (Int)
  | [⟨(.slc (.st 43)), a0⟩] => rec_qa2 a0
  | _ => none
def qa2_rmd (rec_qa2 : List (TStmt) → Option (Int)) : Mode U := ⟨qa2_sh, [], qa2_os, fun ls => .get (qa2_in rec_qa2 ls) qa2_tr⟩
def ms133 (rec_qa2 : List (TStmt) → Option (Int)) : List (FuncId × Mode U) := (32, (qa2_rmd rec_qa2)) :: ms132
theorem known133 (rec_qa2 : List (TStmt) → Option (Int)) (hrec_qa2 : ModeOk kk env0 32 (qa2_rmd rec_qa2)) : Known kk env0 (modesOf (ms133 rec_qa2)) := known_cons (by kernel_rfl) hrec_qa2 known132
def qa2_sh3 : StSh := ⟨⟨[0, 3, 4], [], []⟩, [.t (.slc (.st 43)), .t (.int .i64), .t (.int .i64)], []⟩
def qa2_o3 : List Out := [⟨.exit 0, ⟨⟨[3], [], []⟩, [.t (.int .i64)], []⟩⟩]
def qa2_b3 : Code := (nthLoop (bodyOf Tryz.f32) 0)
def qa2_rec3 (rec : List (TStmt) → Int → Int → Option (Int)) : List (TV U) → Option (Int)
  | [⟨(.slc (.st 43)), a0⟩, ⟨(.int .i64), a1⟩, ⟨(.int .i64), a2⟩] => rec a0 a1 a2
  | _ => none
def qa2_enc3 : Nat → List (TV U) → Option (Int)
  | 0, [⟨(.int .i64), a0⟩] => some a0
  | _, _ => none
def qa2_dec3 : Int → Nat × List (TV U) := fun x => (0, [⟨(.int .i64), x⟩])
def qa2_tr3 : Int → Tr (Nat × List (TV U)) := fun x => .ret (0, [⟨(.int .i64), x⟩])
def qa2_lp3 (rec_qa2 : List (TStmt) → Option (Int)) : Lift.Loop U := ⟨qa2_sh3, qa2_o3, fun ls => .get (qa2_rec3 (qa2_l3 rec_qa2) ls) qa2_tr3⟩
theorem qa2_ok3 (rec_qa2 : List (TStmt) → Option (Int)) (hrec_qa2 : ModeOk kk env0 32 (qa2_rmd rec_qa2)) : LoopR kk env0 Tryz.f32.ntmps qa2_b3 (qa2_lp3 rec_qa2) :=
  loop_of qa2_enc3 qa2_dec3 (fun n => qa2_rec3 (qa2_i3 rec_qa2 n)) (kitOk_of eqOk mixed (known133 rec_qa2 hrec_qa2)) (L := jnL) (loopsOk_of (bs := []) (by kernel_rfl) trivial) (fun _ => rfl) (by intro i qs r h; unfold qa2_enc3 at h; split at h <;> cases h <;> rfl)
    (by intro ls r h; unfold qa2_rec3 at h; split at h <;> cases h)
    (by intro n ls r h; unfold qa2_rec3 at h; split at h; exact (show _ = qa2_t3 rec_qa2 (qa2_i3 rec_qa2 n) _ _ _ from by kernel_rfl).trans h; cases h) (by rw [qa2_l3, sealF_eq])
def qa2_L (rec_qa2 : List (TStmt) → Option (Int)) : Nat → Option (Lift.Loop U) := fun n => bif Nat.beq n joinKey then some joinMark else bif Nat.beq n 3 then some (qa2_lp3 rec_qa2) else none
def qa2_enc : Nat → List (TV U) → Option (Int)
  | 0, [⟨(.int .i64), a0⟩] => some a0
  | _, _ => none
def qa2_dec : Int → Nat × List (TV U) := fun x => (0, [⟨(.int .i64), x⟩])
def qa2_md : Mode U := qa2_rmd qa2
theorem qa2_step (rec_qa2 : List (TStmt) → Option (Int)) (hrec_qa2 : ModeOk kk env0 32 (qa2_rmd rec_qa2)) : LoopsOk (Kit.withModes kk (modesOf (ms133 rec_qa2))) env0 Tryz.f32.ntmps (qa2_L rec_qa2) (bodyOf Tryz.f32) := loopsOk_of (bs := [qa2_b3]) (by kernel_rfl) ⟨.inr ⟨_, by kernel_rfl, LoopOk.of_round (qa2_ok3 rec_qa2 hrec_qa2)⟩, trivial⟩
theorem qa2_post : ModeOk kk env0 32 (qa2_rmd qa2) :=
  rec_of (K := kk) (F := qa2) qa2_rmd qa2_i (by rw [qa2, sealF_eq]) (rec_zero (by intro ls r h; unfold qa2_in at h; split at h <;> cases h)) (fun n ih => fn_of (fn := Tryz.f32) qa2_enc qa2_dec (kitOk_of eqOk mixed (known133 (qa2_i n) ih)) (by kernel_rfl) (qa2_step (qa2_i n) ih) (fun _ => rfl) (by intro i qs r h; unfold qa2_enc at h; split at h <;> cases h <;> rfl)
    (by intro ls r h; unfold qa2_in at h; split at h; exact (show _ = qa2_f (qa2_i n) _ from by kernel_rfl).trans h; cases h))
def ms134 : List (FuncId × Mode U) := (32, qa2_md) :: ms132
theorem known134 : Known kk env0 (modesOf ms134) := known_cons (by kernel_rfl) qa2_post known132
def qaS_sh3 : StSh := ⟨⟨[1, 3, 4], [1], []⟩, [.ptr 1 0, .t (.int .i64), .t (.int .i64)], [.blk 26 [.t (.slc (.st 46)), .t (.slc .str), .t (.slc (.st 38))]]⟩
def qaS_o3 : List Out := [⟨.exit 0, ⟨⟨[3], [], []⟩, [.t (.int .i64)], []⟩⟩]
def qaS_b3 : Code := (nthLoop (bodyOf Tryz.f16) 0)
def qaS_rec3 (rec : Int → Int → List (TCell) → List (List UInt8) → List (TThread) → Option (Int)) : List (TV U) → Option (Int)
  | [⟨(.int .i64), a0⟩, ⟨(.int .i64), a1⟩, ⟨(.slc (.st 46)), a2⟩, ⟨(.slc .str), a3⟩, ⟨(.slc (.st 38)), a4⟩] => rec a0 a1 a2 a3 a4
  | _ => none
def qaS_enc3 : Nat → List (TV U) → Option (Int)
  | 0, [⟨(.int .i64), a0⟩] => some a0
  | _, _ => none
def qaS_dec3 : Int → Nat × List (TV U) := fun x => (0, [⟨(.int .i64), x⟩])
def qaS_tr3 : Int → Tr (Nat × List (TV U)) := fun x => .ret (0, [⟨(.int .i64), x⟩])
def qaS_lp3 : Lift.Loop U := ⟨qaS_sh3, qaS_o3, fun ls => .get (qaS_rec3 qaS_l3 ls) qaS_tr3⟩
theorem qaS_ok3 : LoopR kk env0 Tryz.f16.ntmps qaS_b3 qaS_lp3 :=
  loop_of qaS_enc3 qaS_dec3 (fun n => qaS_rec3 (qaS_i3 n)) (kitOk_of eqOk mixed known134) (L := jnL) (loopsOk_of (bs := []) (by kernel_rfl) trivial) (fun _ => rfl) (by intro i qs r h; unfold qaS_enc3 at h; split at h <;> cases h <;> rfl)
    (by intro ls r h; unfold qaS_rec3 at h; split at h <;> cases h)
    (by intro n ls r h; unfold qaS_rec3 at h; split at h; exact (show _ = qaS_t3 (qaS_i3 n) _ _ _ _ _ from by kernel_rfl).trans h; cases h) (by rw [qaS_l3, sealF_eq])
def qaS_sh : StSh := ⟨⟨[0], [], []⟩, [.t (.st 26)], []⟩
def qaS_os : List StSh := [⟨⟨[0], [], []⟩, [.t (.int .i64)], []⟩]
def qaS_tr : Int → Tr (Nat × List (TV U)) := fun x => .ret (0, [⟨(.int .i64), x⟩])
def qaS_L : Nat → Option (Lift.Loop U) := fun n => bif Nat.beq n joinKey then some joinMark else bif Nat.beq n 3 then some qaS_lp3 else none
def qaS_enc : Nat → List (TV U) → Option (Int)
  | 0, [⟨(.int .i64), a0⟩] => some a0
  | _, _ => none
def qaS_dec : Int → Nat × List (TV U) := fun x => (0, [⟨(.int .i64), x⟩])
def qaS_in : List (TV U) → Option (Int)
  | [⟨(.st 26), a0⟩] => qaS a0
  | _ => none
def qaS_md : Mode U := ⟨qaS_sh, [], qaS_os, fun ls => .get (qaS_in ls) qaS_tr⟩
theorem qaS_post : ModeOk kk env0 16 qaS_md :=
  fn_of (fn := Tryz.f16) qaS_enc qaS_dec (kitOk_of eqOk mixed known134) (by kernel_rfl) (L := qaS_L) (loopsOk_of (bs := [qaS_b3]) (by kernel_rfl) ⟨.inr ⟨_, by kernel_rfl, LoopOk.of_round (qaS_ok3)⟩, trivial⟩) (fun _ => rfl) (by intro i qs r h; unfold qaS_enc at h; split at h <;> cases h <;> rfl)
    (by intro ls r h; unfold qaS_in at h; split at h; rw [qaS, sealF_eq] at h; exact Eq.trans (by kernel_rfl) h; cases h)
def ms135 : List (FuncId × Mode U) := (16, qaS_md) :: ms134
theorem known135 : Known kk env0 (modesOf ms135) := known_cons (by kernel_rfl) qaS_post known134
def qaZ_sh : StSh := ⟨⟨[0], [], []⟩, [.t (.st 26)], []⟩
def qaZ_os : List StSh := [⟨⟨[0], [], []⟩, [.t (.int .i64)], []⟩]
def qaZ_tr : Int → Tr (Nat × List (TV U)) := fun x => .ret (0, [⟨(.int .i64), x⟩])
def qaZ_enc : Nat → List (TV U) → Option (Int)
  | 0, [⟨(.int .i64), a0⟩] => some a0
  | _, _ => none
def qaZ_dec : Int → Nat × List (TV U) := fun x => (0, [⟨(.int .i64), x⟩])
def qaZ_in : List (TV U) → Option (Int)
  | [⟨(.st 26), a0⟩] => qaZ a0
  | _ => none
def qaZ_md : Mode U := ⟨qaZ_sh, [], qaZ_os, fun ls => .get (qaZ_in ls) qaZ_tr⟩
theorem qaZ_post : ModeOk kk env0 11 qaZ_md :=
  fn_of (fn := Tryz.f11) qaZ_enc qaZ_dec (kitOk_of eqOk mixed known135) (by kernel_rfl) (L := jnL) (loopsOk_of (bs := []) (by kernel_rfl) trivial) (fun _ => rfl) (by intro i qs r h; unfold qaZ_enc at h; split at h <;> cases h <;> rfl)
    (by intro ls r h; unfold qaZ_in at h; split at h; rw [qaZ, sealF_eq] at h; exact Eq.trans (by kernel_rfl) h; cases h)
def ms136 : List (FuncId × Mode U) := (11, qaZ_md) :: ms135
theorem known136 : Known kk env0 (modesOf ms136) := known_cons (by kernel_rfl) qaZ_post known135
def qa1_sh : StSh := ⟨⟨[0, 1], [], []⟩, [.t (.st 41), .t (.st 41)], []⟩
def qa1_os : List StSh := [⟨⟨[0], [], []⟩, [.t .bool], []⟩]
def qa1_tr : Bool → Tr (Nat × List (TV U)) := fun x => .ret (0, [⟨.bool, x⟩])
def qa1_in (rec_qa1 : TExpr → TExpr → Option (Bool)) : List (TV U) → Option (Bool)
  | [⟨(.st 41), a0⟩, ⟨(.st 41), a1⟩] => rec_qa1 a0 a1
  | _ => none
def qa1_rmd (rec_qa1 : TExpr → TExpr → Option (Bool)) : Mode U := ⟨qa1_sh, [], qa1_os, fun ls => .get (qa1_in rec_qa1 ls) qa1_tr⟩
def ms137 (rec_qa1 : TExpr → TExpr → Option (Bool)) : List (FuncId × Mode U) := (63, (qa1_rmd rec_qa1)) :: ms136
theorem known137 (rec_qa1 : TExpr → TExpr → Option (Bool)) (hrec_qa1 : ModeOk kk env0 63 (qa1_rmd rec_qa1)) : Known kk env0 (modesOf (ms137 rec_qa1)) := known_cons (by kernel_rfl) hrec_qa1 known136
def qa1_sh4 : StSh := ⟨⟨[2, 3, 5], [2, 3], []⟩, [.ptr 2 0, .ptr 3 0, .t (.int .i64)], [.blk 41 [.t (.int .i64), .t (.int .i64), .t .str, .t (.slc (.st 41))], .blk 41 [.t (.int .i64), .t (.int .i64), .t .str, .t (.slc (.st 41))]]⟩
def qa1_o4 : List Out := [⟨.ret, ⟨⟨[4], [], []⟩, [.t .bool], []⟩⟩, ⟨.exit 0, ⟨⟨[], [], []⟩, [], []⟩⟩]
def qa1_b4 : Code := (nthLoop (bodyOf Tryz.f63) 0)
def qa1_rec4 (rec : Int → Int → Int → List UInt8 → List (TExpr) → Int → Int → List UInt8 → List (TExpr) → Option ((Bool) ⊕ (Unit))) : List (TV U) → Option ((Bool) ⊕ (Unit))
  | [⟨(.int .i64), a0⟩, ⟨(.int .i64), a1⟩, ⟨(.int .i64), a2⟩, ⟨.str, a3⟩, ⟨(.slc (.st 41)), a4⟩, ⟨(.int .i64), a5⟩, ⟨(.int .i64), a6⟩, ⟨.str, a7⟩, ⟨(.slc (.st 41)), a8⟩] => rec a0 a1 a2 a3 a4 a5 a6 a7 a8
  | _ => none
def qa1_enc4 : Nat → List (TV U) → Option ((Bool) ⊕ (Unit))
  | 0, [⟨.bool, a0⟩] => some (.inl a0)
  | 1, [] => some (.inr ())
  | _, _ => none
def qa1_dec4 : (Bool) ⊕ (Unit) → Nat × List (TV U) := fun r => match r with | (.inl x) => (0, [⟨.bool, x⟩]) | (.inr x) => (1, [])
def qa1_tr4 : (Bool) ⊕ (Unit) → Tr (Nat × List (TV U)) := fun r => .alt r (fun x => .ret (0, [⟨.bool, x⟩])) (fun y => (fun x => .ret (1, [])) y)
def qa1_lp4 (rec_qa1 : TExpr → TExpr → Option (Bool)) : Lift.Loop U := ⟨qa1_sh4, qa1_o4, fun ls => .get (qa1_rec4 (qa1_l4 rec_qa1) ls) qa1_tr4⟩
theorem qa1_ok4 (rec_qa1 : TExpr → TExpr → Option (Bool)) (hrec_qa1 : ModeOk kk env0 63 (qa1_rmd rec_qa1)) : LoopR kk env0 Tryz.f63.ntmps qa1_b4 (qa1_lp4 rec_qa1) :=
  loop_of qa1_enc4 qa1_dec4 (fun n => qa1_rec4 (qa1_i4 rec_qa1 n)) (kitOk_of eqOk mixed (known137 rec_qa1 hrec_qa1)) (L := jnL) (loopsOk_of (bs := []) (by kernel_rfl) trivial) (by intro r; rcases r with r | r <;> rfl) (by intro i qs r h; unfold qa1_enc4 at h; split at h <;> cases h <;> rfl)
    (by intro ls r h; unfold qa1_rec4 at h; split at h <;> cases h)
    (by intro n ls r h; unfold qa1_rec4 at h; split at h; exact (show _ = qa1_t4 rec_qa1 (qa1_i4 rec_qa1 n) _ _ _ _ _ _ _ _ _ from by kernel_rfl).trans h; cases h) (by rw [qa1_l4, sealF_eq])
def qa1_L (rec_qa1 : TExpr → TExpr → Option (Bool)) : Nat → Option (Lift.Loop U) := fun n => bif Nat.beq n joinKey then some joinMark else bif Nat.beq n 4 then some (qa1_lp4 rec_qa1) else none
def qa1_enc : Nat → List (TV U) → Option (Bool)
  | 0, [⟨.bool, a0⟩] => some a0
  | _, _ => none
def qa1_dec : Bool → Nat × List (TV U) := fun x => (0, [⟨.bool, x⟩])
def qa1_md : Mode U := qa1_rmd qa1
theorem qa1_step (rec_qa1 : TExpr → TExpr → Option (Bool)) (hrec_qa1 : ModeOk kk env0 63 (qa1_rmd rec_qa1)) : LoopsOk (Kit.withModes kk (modesOf (ms137 rec_qa1))) env0 Tryz.f63.ntmps (qa1_L rec_qa1) (bodyOf Tryz.f63) := loopsOk_of (bs := [qa1_b4]) (by kernel_rfl) ⟨.inr ⟨_, by kernel_rfl, LoopOk.of_round (qa1_ok4 rec_qa1 hrec_qa1)⟩, trivial⟩
theorem qa1_post : ModeOk kk env0 63 (qa1_rmd qa1) :=
  rec_of (K := kk) (F := qa1) qa1_rmd qa1_i (by rw [qa1, sealF_eq]) (rec_zero (by intro ls r h; unfold qa1_in at h; split at h <;> cases h)) (fun n ih => fn_of (fn := Tryz.f63) qa1_enc qa1_dec (kitOk_of eqOk mixed (known137 (qa1_i n) ih)) (by kernel_rfl) (qa1_step (qa1_i n) ih) (fun _ => rfl) (by intro i qs r h; unfold qa1_enc at h; split at h <;> cases h <;> rfl)
    (by intro ls r h; unfold qa1_in at h; split at h; exact (show _ = qa1_f (qa1_i n) _ _ from by kernel_rfl).trans h; cases h))
def ms138 : List (FuncId × Mode U) := (63, qa1_md) :: ms136
theorem known138 : Known kk env0 (modesOf ms138) := known_cons (by kernel_rfl) qa1_post known136
def qa5_sh : StSh := ⟨⟨[0, 1], [], []⟩, [.t (.slc (.st 43)), .t (.slc (.st 43))], []⟩
def qa5_os : List StSh := [⟨⟨[0], [], []⟩, [.t .bool], []⟩]
def qa5_tr : Bool → Tr (Nat × List (TV U)) := fun x => .ret (0, [⟨.bool, x⟩])
def qa5_in (rec_qa5 : List (TStmt) → List (TStmt) → Option (Bool)) : List (TV U) → Option (Bool)
  | [⟨(.slc (.st 43)), a0⟩, ⟨(.slc (.st 43)), a1⟩] => rec_qa5 a0 a1
  | _ => none
def qa5_rmd (rec_qa5 : List (TStmt) → List (TStmt) → Option (Bool)) : Mode U := ⟨qa5_sh, [], qa5_os, fun ls => .get (qa5_in rec_qa5 ls) qa5_tr⟩
def ms139 (rec_qa5 : List (TStmt) → List (TStmt) → Option (Bool)) : List (FuncId × Mode U) := (26, (qa5_rmd rec_qa5)) :: ms138
theorem known139 (rec_qa5 : List (TStmt) → List (TStmt) → Option (Bool)) (hrec_qa5 : ModeOk kk env0 26 (qa5_rmd rec_qa5)) : Known kk env0 (modesOf (ms139 rec_qa5)) := known_cons (by kernel_rfl) hrec_qa5 known138
def qa5_sh4 : StSh := ⟨⟨[0, 1, 5], [], []⟩, [.t (.slc (.st 43)), .t (.slc (.st 43)), .t (.int .i64)], []⟩
def qa5_o4 : List Out := [⟨.ret, ⟨⟨[4], [], []⟩, [.t .bool], []⟩⟩, ⟨.exit 0, ⟨⟨[], [], []⟩, [], []⟩⟩]
def qa5_b4 : Code := (nthLoop (bodyOf Tryz.f26) 0)
def qa5_rec4 (rec : List (TStmt) → List (TStmt) → Int → Option ((Bool) ⊕ (Unit))) : List (TV U) → Option ((Bool) ⊕ (Unit))
  | [⟨(.slc (.st 43)), a0⟩, ⟨(.slc (.st 43)), a1⟩, ⟨(.int .i64), a2⟩] => rec a0 a1 a2
  | _ => none
def qa5_enc4 : Nat → List (TV U) → Option ((Bool) ⊕ (Unit))
  | 0, [⟨.bool, a0⟩] => some (.inl a0)
  | 1, [] => some (.inr ())
  | _, _ => none
def qa5_dec4 : (Bool) ⊕ (Unit) → Nat × List (TV U) := fun r => match r with | (.inl x) => (0, [⟨.bool, x⟩]) | (.inr x) => (1, [])
def qa5_tr4 : (Bool) ⊕ (Unit) → Tr (Nat × List (TV U)) := fun r => .alt r (fun x => .ret (0, [⟨.bool, x⟩])) (fun y => (fun x => .ret (1, [])) y)
def qa5_lp4 (rec_qa5 : List (TStmt) → List (TStmt) → Option (Bool)) : Lift.Loop U := ⟨qa5_sh4, qa5_o4, fun ls => .get (qa5_rec4 (qa5_l4 rec_qa5) ls) qa5_tr4⟩
theorem qa5_ok4 (rec_qa5 : List (TStmt) → List (TStmt) → Option (Bool)) (hrec_qa5 : ModeOk kk env0 26 (qa5_rmd rec_qa5)) : LoopR kk env0 Tryz.f26.ntmps qa5_b4 (qa5_lp4 rec_qa5) :=
  loop_of qa5_enc4 qa5_dec4 (fun n => qa5_rec4 (qa5_i4 rec_qa5 n)) (kitOk_of eqOk mixed (known139 rec_qa5 hrec_qa5)) (L := jnL) (loopsOk_of (bs := []) (by kernel_rfl) trivial) (by intro r; rcases r with r | r <;> rfl) (by intro i qs r h; unfold qa5_enc4 at h; split at h <;> cases h <;> rfl)
    (by intro ls r h; unfold qa5_rec4 at h; split at h <;> cases h)
    (by intro n ls r h; unfold qa5_rec4 at h; split at h; exact (show _ = qa5_t4 rec_qa5 (qa5_i4 rec_qa5 n) _ _ _ from by kernel_rfl).trans h; cases h) (by rw [qa5_l4, sealF_eq])
def qa5_L (rec_qa5 : List (TStmt) → List (TStmt) → Option (Bool)) : Nat → Option (Lift.Loop U) := fun n => bif Nat.beq n joinKey then some joinMark else bif Nat.beq n 4 then some (qa5_lp4 rec_qa5) else none
def qa5_enc : Nat → List (TV U) → Option (Bool)
  | 0, [⟨.bool, a0⟩] => some a0
  | _, _ => none
def qa5_dec : Bool → Nat × List (TV U) := fun x => (0, [⟨.bool, x⟩])
def qa5_md : Mode U := qa5_rmd qa5
theorem qa5_step (rec_qa5 : List (TStmt) → List (TStmt) → Option (Bool)) (hrec_qa5 : ModeOk kk env0 26 (qa5_rmd rec_qa5)) : LoopsOk (Kit.withModes kk (modesOf (ms139 rec_qa5))) env0 Tryz.f26.ntmps (qa5_L rec_qa5) (bodyOf Tryz.f26) := loopsOk_of (bs := [qa5_b4]) (by kernel_rfl) ⟨.inr ⟨_, by kernel_rfl, LoopOk.of_round (qa5_ok4 rec_qa5 hrec_qa5)⟩, trivial⟩
theorem qa5_post : ModeOk kk env0 26 (qa5_rmd qa5) :=
  rec_of (K := kk) (F := qa5) qa5_rmd qa5_i (by rw [qa5, sealF_eq]) (rec_zero (by intro ls r h; unfold qa5_in at h; split at h <;> cases h)) (fun n ih => fn_of (fn := Tryz.f26) qa5_enc qa5_dec (kitOk_of eqOk mixed (known139 (qa5_i n) ih)) (by kernel_rfl) (qa5_step (qa5_i n) ih) (fun _ => rfl) (by intro i qs r h; unfold qa5_enc at h; split at h <;> cases h <;> rfl)
    (by intro ls r h; unfold qa5_in at h; split at h; exact (show _ = qa5_f (qa5_i n) _ _ from by kernel_rfl).trans h; cases h))
def ms140 : List (FuncId × Mode U) := (26, qa5_md) :: ms138
theorem known140 : Known kk env0 (modesOf ms140) := known_cons (by kernel_rfl) qa5_post known138
def qa0_sh4 : StSh := ⟨⟨[2, 3, 5], [2, 3], []⟩, [.ptr 2 0, .ptr 3 0, .t (.int .i64)], [.blk 26 [.t (.slc (.st 46)), .t (.slc .str), .t (.slc (.st 38))], .blk 26 [.t (.slc (.st 46)), .t (.slc .str), .t (.slc (.st 38))]]⟩
def qa0_o4 : List Out := [⟨.ret, ⟨⟨[4], [], []⟩, [.t .bool], []⟩⟩, ⟨.exit 0, ⟨⟨[2, 3], [2, 3], []⟩, [.ptr 2 0, .ptr 3 0], [.blk 26 [.t (.slc (.st 46)), .t (.slc .str), .t (.slc (.st 38))], .blk 26 [.t (.slc (.st 46)), .t (.slc .str), .t (.slc (.st 38))]]⟩⟩]
def qa0_b4 : Code := (nthLoop (bodyOf Tryz.f13) 0)
def qa0_rec4 (rec : Int → List (TCell) → List (List UInt8) → List (TThread) → List (TCell) → List (List UInt8) → List (TThread) → Option ((Bool) ⊕ ((List (TCell)) × (List (List UInt8)) × (List (TThread)) × (List (TCell)) × (List (List UInt8)) × (List (TThread))))) : List (TV U) → Option ((Bool) ⊕ ((List (TCell)) × (List (List UInt8)) × (List (TThread)) × (List (TCell)) × (List (List UInt8)) × (List (TThread))))
  | [⟨(.int .i64), a0⟩, ⟨(.slc (.st 46)), a1⟩, ⟨(.slc .str), a2⟩, ⟨(.slc (.st 38)), a3⟩, ⟨(.slc (.st 46)), a4⟩, ⟨(.slc .str), a5⟩, ⟨(.slc (.st 38)), a6⟩] => rec a0 a1 a2 a3 a4 a5 a6
  | _ => none
def qa0_enc4 : Nat → List (TV U) → Option ((Bool) ⊕ ((List (TCell)) × (List (List UInt8)) × (List (TThread)) × (List (TCell)) × (List (List UInt8)) × (List (TThread))))
  | 0, [⟨.bool, a0⟩] => some (.inl a0)
  | 1, [⟨(.slc (.st 46)), a0⟩, ⟨(.slc .str), a1⟩, ⟨(.slc (.st 38)), a2⟩, ⟨(.slc (.st 46)), a3⟩, ⟨(.slc .str), a4⟩, ⟨(.slc (.st 38)), a5⟩] => some (.inr (a0, a1, a2, a3, a4, a5))
  | _, _ => none
def qa0_dec4 : (Bool) ⊕ ((List (TCell)) × (List (List UInt8)) × (List (TThread)) × (List (TCell)) × (List (List UInt8)) × (List (TThread))) → Nat × List (TV U) := fun r => match r with | (.inl x) => (0, [⟨.bool, x⟩]) | (.inr x) => (1, [⟨(.slc (.st 46)), x.1⟩, ⟨(.slc .str), x.2.1⟩, ⟨(.slc (.st 38)), x.2.2.1⟩, ⟨(.slc (.st 46)), x.2.2.2.1⟩, ⟨(.slc .str), x.2.2.2.2.1⟩, ⟨(.slc (.st 38)), x.2.2.2.2.2⟩])
def qa0_tr4 : (Bool) ⊕ ((List (TCell)) × (List (List UInt8)) × (List (TThread)) × (List (TCell)) × (List (List UInt8)) × (List (TThread))) → Tr (Nat × List (TV U)) := fun r => .alt r (fun x => .ret (0, [⟨.bool, x⟩])) (fun y => (fun x => .ret (1, [⟨(.slc (.st 46)), x.1⟩, ⟨(.slc .str), x.2.1⟩, ⟨(.slc (.st 38)), x.2.2.1⟩, ⟨(.slc (.st 46)), x.2.2.2.1⟩, ⟨(.slc .str), x.2.2.2.2.1⟩, ⟨(.slc (.st 38)), x.2.2.2.2.2⟩])) y)
def qa0_lp4 : Lift.Loop U := ⟨qa0_sh4, qa0_o4, fun ls => .get (qa0_rec4 qa0_l4 ls) qa0_tr4⟩
theorem qa0_ok4 : LoopR kk env0 Tryz.f13.ntmps qa0_b4 qa0_lp4 :=
  loop_of qa0_enc4 qa0_dec4 (fun n => qa0_rec4 (qa0_i4 n)) (kitOk_of eqOk mixed known140) (L := jnL) (loopsOk_of (bs := []) (by kernel_rfl) trivial) (by intro r; rcases r with r | r <;> rfl) (by intro i qs r h; unfold qa0_enc4 at h; split at h <;> cases h <;> rfl)
    (by intro ls r h; unfold qa0_rec4 at h; split at h <;> cases h)
    (by intro n ls r h; unfold qa0_rec4 at h; split at h; exact (show _ = qa0_t4 (qa0_i4 n) _ _ _ _ _ _ _ from by kernel_rfl).trans h; cases h) (by rw [qa0_l4, sealF_eq])
def qa0_sh9 : StSh := ⟨⟨[2, 3, 6], [2, 3], []⟩, [.ptr 2 0, .ptr 3 0, .t (.int .i64)], [.blk 26 [.t (.slc (.st 46)), .t (.slc .str), .t (.slc (.st 38))], .blk 26 [.t (.slc (.st 46)), .t (.slc .str), .t (.slc (.st 38))]]⟩
def qa0_o9 : List Out := [⟨.ret, ⟨⟨[4], [], []⟩, [.t .bool], []⟩⟩, ⟨.exit 2, ⟨⟨[2, 3], [2, 3], []⟩, [.ptr 2 0, .ptr 3 0], [.blk 26 [.t (.slc (.st 46)), .t (.slc .str), .t (.slc (.st 38))], .blk 26 [.t (.slc (.st 46)), .t (.slc .str), .t (.slc (.st 38))]]⟩⟩]
def qa0_b9 : Code := (nthLoop (bodyOf Tryz.f13) 1)
def qa0_rec9 (rec : Int → List (TCell) → List (List UInt8) → List (TThread) → List (TCell) → List (List UInt8) → List (TThread) → Option ((Bool) ⊕ ((List (TCell)) × (List (List UInt8)) × (List (TThread)) × (List (TCell)) × (List (List UInt8)) × (List (TThread))))) : List (TV U) → Option ((Bool) ⊕ ((List (TCell)) × (List (List UInt8)) × (List (TThread)) × (List (TCell)) × (List (List UInt8)) × (List (TThread))))
  | [⟨(.int .i64), a0⟩, ⟨(.slc (.st 46)), a1⟩, ⟨(.slc .str), a2⟩, ⟨(.slc (.st 38)), a3⟩, ⟨(.slc (.st 46)), a4⟩, ⟨(.slc .str), a5⟩, ⟨(.slc (.st 38)), a6⟩] => rec a0 a1 a2 a3 a4 a5 a6
  | _ => none
def qa0_enc9 : Nat → List (TV U) → Option ((Bool) ⊕ ((List (TCell)) × (List (List UInt8)) × (List (TThread)) × (List (TCell)) × (List (List UInt8)) × (List (TThread))))
  | 0, [⟨.bool, a0⟩] => some (.inl a0)
  | 1, [⟨(.slc (.st 46)), a0⟩, ⟨(.slc .str), a1⟩, ⟨(.slc (.st 38)), a2⟩, ⟨(.slc (.st 46)), a3⟩, ⟨(.slc .str), a4⟩, ⟨(.slc (.st 38)), a5⟩] => some (.inr (a0, a1, a2, a3, a4, a5))
  | _, _ => none
def qa0_dec9 : (Bool) ⊕ ((List (TCell)) × (List (List UInt8)) × (List (TThread)) × (List (TCell)) × (List (List UInt8)) × (List (TThread))) → Nat × List (TV U) := fun r => match r with | (.inl x) => (0, [⟨.bool, x⟩]) | (.inr x) => (1, [⟨(.slc (.st 46)), x.1⟩, ⟨(.slc .str), x.2.1⟩, ⟨(.slc (.st 38)), x.2.2.1⟩, ⟨(.slc (.st 46)), x.2.2.2.1⟩, ⟨(.slc .str), x.2.2.2.2.1⟩, ⟨(.slc (.st 38)), x.2.2.2.2.2⟩])
def qa0_tr9 : (Bool) ⊕ ((List (TCell)) × (List (List UInt8)) × (List (TThread)) × (List (TCell)) × (List (List UInt8)) × (List (TThread))) → Tr (Nat × List (TV U)) := fun r => .alt r (fun x => .ret (0, [⟨.bool, x⟩])) (fun y => (fun x => .ret (1, [⟨(.slc (.st 46)), x.1⟩, ⟨(.slc .str), x.2.1⟩, ⟨(.slc (.st 38)), x.2.2.1⟩, ⟨(.slc (.st 46)), x.2.2.2.1⟩, ⟨(.slc .str), x.2.2.2.2.1⟩, ⟨(.slc (.st 38)), x.2.2.2.2.2⟩])) y)
def qa0_lp9 : Lift.Loop U := ⟨qa0_sh9, qa0_o9, fun ls => .get (qa0_rec9 qa0_l9 ls) qa0_tr9⟩
theorem qa0_ok9 : LoopR kk env0 Tryz.f13.ntmps qa0_b9 qa0_lp9 :=
  loop_of qa0_enc9 qa0_dec9 (fun n => qa0_rec9 (qa0_i9 n)) (kitOk_of eqOk mixed known140) (L := jnL) (loopsOk_of (bs := []) (by kernel_rfl) trivial) (by intro r; rcases r with r | r <;> rfl) (by intro i qs r h; unfold qa0_enc9 at h; split at h <;> cases h <;> rfl)
    (by intro ls r h; unfold qa0_rec9 at h; split at h <;> cases h)
    (by intro n ls r h; unfold qa0_rec9 at h; split at h; exact (show _ = qa0_t9 (qa0_i9 n) _ _ _ _ _ _ _ from by kernel_rfl).trans h; cases h) (by rw [qa0_l9, sealF_eq])
def qa0_sh14 : StSh := ⟨⟨[2, 3, 7], [2, 3], []⟩, [.ptr 2 0, .ptr 3 0, .t (.int .i64)], [.blk 26 [.t (.slc (.st 46)), .t (.slc .str), .t (.slc (.st 38))], .blk 26 [.t (.slc (.st 46)), .t (.slc .str), .t (.slc (.st 38))]]⟩
def qa0_o14 : List Out := [⟨.ret, ⟨⟨[4], [], []⟩, [.t .bool], []⟩⟩, ⟨.exit 4, ⟨⟨[], [], []⟩, [], []⟩⟩]
def qa0_b14 : Code := (nthLoop (bodyOf Tryz.f13) 2)
def qa0_rec14 (rec : Int → List (TCell) → List (List UInt8) → List (TThread) → List (TCell) → List (List UInt8) → List (TThread) → Option ((Bool) ⊕ (Unit))) : List (TV U) → Option ((Bool) ⊕ (Unit))
  | [⟨(.int .i64), a0⟩, ⟨(.slc (.st 46)), a1⟩, ⟨(.slc .str), a2⟩, ⟨(.slc (.st 38)), a3⟩, ⟨(.slc (.st 46)), a4⟩, ⟨(.slc .str), a5⟩, ⟨(.slc (.st 38)), a6⟩] => rec a0 a1 a2 a3 a4 a5 a6
  | _ => none
def qa0_enc14 : Nat → List (TV U) → Option ((Bool) ⊕ (Unit))
  | 0, [⟨.bool, a0⟩] => some (.inl a0)
  | 1, [] => some (.inr ())
  | _, _ => none
def qa0_dec14 : (Bool) ⊕ (Unit) → Nat × List (TV U) := fun r => match r with | (.inl x) => (0, [⟨.bool, x⟩]) | (.inr x) => (1, [])
def qa0_tr14 : (Bool) ⊕ (Unit) → Tr (Nat × List (TV U)) := fun r => .alt r (fun x => .ret (0, [⟨.bool, x⟩])) (fun y => (fun x => .ret (1, [])) y)
def qa0_lp14 : Lift.Loop U := ⟨qa0_sh14, qa0_o14, fun ls => .get (qa0_rec14 qa0_l14 ls) qa0_tr14⟩
theorem qa0_ok14 : LoopR kk env0 Tryz.f13.ntmps qa0_b14 qa0_lp14 :=
  loop_of qa0_enc14 qa0_dec14 (fun n => qa0_rec14 (qa0_i14 n)) (kitOk_of eqOk mixed known140) (L := jnL) (loopsOk_of (bs := []) (by kernel_rfl) trivial) (by intro r; rcases r with r | r <;> rfl) (by intro i qs r h; unfold qa0_enc14 at h; split at h <;> cases h <;> rfl)
    (by intro ls r h; unfold qa0_rec14 at h; split at h <;> cases h)
    (by intro n ls r h; unfold qa0_rec14 at h; split at h; exact (show _ = qa0_t14 (qa0_i14 n) _ _ _ _ _ _ _ from by kernel_rfl).trans h; cases h) (by rw [qa0_l14, sealF_eq])
def qa0_sh : StSh := ⟨⟨[0, 1], [], []⟩, [.t (.st 26), .t (.st 26)], []⟩
def qa0_os : List StSh := [⟨⟨[0], [], []⟩, [.t .bool], []⟩]
def qa0_tr : Bool → Tr (Nat × List (TV U)) := fun x => .ret (0, [⟨.bool, x⟩])
def qa0_L : Nat → Option (Lift.Loop U) := fun n => bif Nat.beq n joinKey then some joinMark else bif Nat.beq n 4 then some qa0_lp4 else bif Nat.beq n 9 then some qa0_lp9 else bif Nat.beq n 14 then some qa0_lp14 else none
def qa0_enc : Nat → List (TV U) → Option (Bool)
  | 0, [⟨.bool, a0⟩] => some a0
  | _, _ => none
def qa0_dec : Bool → Nat × List (TV U) := fun x => (0, [⟨.bool, x⟩])
def qa0_in : List (TV U) → Option (Bool)
  | [⟨(.st 26), a0⟩, ⟨(.st 26), a1⟩] => qa0 a0 a1
  | _ => none
def qa0_md : Mode U := ⟨qa0_sh, [], qa0_os, fun ls => .get (qa0_in ls) qa0_tr⟩
theorem qa0_post : ModeOk kk env0 13 qa0_md :=
  fn_of (fn := Tryz.f13) qa0_enc qa0_dec (kitOk_of eqOk mixed known140) (by kernel_rfl) (L := qa0_L) (loopsOk_of (bs := [qa0_b4, qa0_b9, qa0_b14]) (by kernel_rfl) ⟨.inr ⟨_, by kernel_rfl, LoopOk.of_round (qa0_ok4)⟩, .inr ⟨_, by kernel_rfl, LoopOk.of_round (qa0_ok9)⟩, .inr ⟨_, by kernel_rfl, LoopOk.of_round (qa0_ok14)⟩, trivial⟩) (fun _ => rfl) (by intro i qs r h; unfold qa0_enc at h; split at h <;> cases h <;> rfl)
    (by intro ls r h; unfold qa0_in at h; split at h; rw [qa0, sealF_eq] at h; exact Eq.trans (by kernel_rfl) h; cases h)
def ms141 : List (FuncId × Mode U) := (13, qa0_md) :: ms140
theorem known141 : Known kk env0 (modesOf ms141) := known_cons (by kernel_rfl) qa0_post known140
def qau_sh : StSh := ⟨⟨[0], [], []⟩, [.t (.st 26)], []⟩
def qau_os : List StSh := [⟨⟨[0], [], []⟩, [.t .bool], []⟩]
def qau_tr : Bool → Tr (Nat × List (TV U)) := fun x => .ret (0, [⟨.bool, x⟩])
def qau_enc : Nat → List (TV U) → Option (Bool)
  | 0, [⟨.bool, a0⟩] => some a0
  | _, _ => none
def qau_dec : Bool → Nat × List (TV U) := fun x => (0, [⟨.bool, x⟩])
def qau_in : List (TV U) → Option (Bool)
  | [⟨(.st 26), a0⟩] => qau a0
  | _ => none
def qau_md : Mode U := ⟨qau_sh, [], qau_os, fun ls => .get (qau_in ls) qau_tr⟩
theorem qau_post : ModeOk kk env0 3 qau_md :=
  fn_of (fn := Tryz.f3) qau_enc qau_dec (kitOk_of eqOk mixed known141) (by kernel_rfl) (L := jnL) (loopsOk_of (bs := []) (by kernel_rfl) trivial) (fun _ => rfl) (by intro i qs r h; unfold qau_enc at h; split at h <;> cases h <;> rfl)
    (by intro ls r h; unfold qau_in at h; split at h; rw [qau, sealF_eq] at h; exact Eq.trans (by kernel_rfl) h; cases h)
end
end Lift.F3
