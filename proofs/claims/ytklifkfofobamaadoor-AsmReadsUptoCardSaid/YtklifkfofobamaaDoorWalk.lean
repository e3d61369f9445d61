/-
  DERIVED. Each function of this seat computes its Lean function. Conditions: as each theorem says.
-/
import Derived.Test.YtklifkfofobamaaDoorDefs
set_option linter.unusedVariables false
set_option linter.unusedSimpArgs false
set_option linter.unusedSectionVars false
namespace Lift.H1
noncomputable section
open Go Go.RowKit Go.Proofs Lift Lift.Fn
def qag_sh : StSh := ⟨⟨[0], [], []⟩, [.t (.int .i64)], []⟩
def qag_os : List StSh := [⟨⟨[0], [], []⟩, [.t .bool], []⟩]
def qag_tr : Bool → Tr (Nat × List (TV U)) := fun x => .ret (0, [⟨.bool, x⟩])
def qag_enc : Nat → List (TV U) → Option (Bool)
  | 0, [⟨.bool, a0⟩] => some a0
  | _, _ => none
def qag_dec : Bool → Nat × List (TV U) := fun x => (0, [⟨.bool, x⟩])
def qag_in : List (TV U) → Option (Bool)
  | [⟨(.int .i64), a0⟩] => qag a0
  | _ => none
def qag_md : Mode U := ⟨qag_sh, [], qag_os, fun ls => .get (qag_in ls) qag_tr⟩
theorem qag_post : ModeOk kk env0 17 qag_md :=
  fn_of (fn := Tryd.f17) qag_enc qag_dec (kitOk_of eqOk mixed known6) (by kernel_rfl) (L := jnL) (loopsOk_of (bs := []) (by kernel_rfl) trivial) (fun _ => rfl) (by intro i qs r h; unfold qag_enc at h; split at h <;> cases h <;> rfl)
    (by intro ls r h; unfold qag_in at h; split at h; rw [qag, sealF_eq] at h; exact Eq.trans (by kernel_rfl) h; cases h)
def ms7 : List (FuncId × Mode U) := (17, qag_md) :: ms6
theorem known7 : Known kk env0 (modesOf ms7) := known_cons (by kernel_rfl) qag_post known6
def qah_sh : StSh := ⟨⟨[], [], []⟩, [], []⟩
def qah_os : List StSh := [⟨⟨[0], [], [⟨.slot 0, 100000, 57, (.st 57)⟩]⟩, [.oslc 100000], [.row 57 (.st 57)]⟩]
def qah_tr : (List (Operation)) → Tr (Nat × List (TV U)) := fun x => .ret (0, [⟨(.slc (.st 57)), x⟩])
def qah_enc : Nat → List (TV U) → Option ((List (Operation)))
  | 0, [⟨(.slc (.st 57)), a0⟩] => some a0
  | _, _ => none
def qah_dec : (List (Operation)) → Nat × List (TV U) := fun x => (0, [⟨(.slc (.st 57)), x⟩])
def qah_in : List (TV U) → Option ((List (Operation)))
  | [] => qah
  | _ => none
def qah_md : Mode U := ⟨qah_sh, [], qah_os, fun ls => .get (qah_in ls) qah_tr⟩
theorem qah_post : ModeOk kk env0 22 qah_md :=
  fn_of (fn := Tryd.f22) qah_enc qah_dec (kitOk_of eqOk mixed known7) (by kernel_rfl) (L := jnL) (loopsOk_of (bs := []) (by kernel_rfl) trivial) (fun _ => rfl) (by intro i qs r h; unfold qah_enc at h; split at h <;> cases h <;> rfl)
    (by intro ls r h; unfold qah_in at h; split at h; rw [qah, sealF_eq] at h; exact Eq.trans (by kernel_rfl) h; cases h)
def ms8 : List (FuncId × Mode U) := (22, qah_md) :: ms7
theorem known8 : Known kk env0 (modesOf ms8) := known_cons (by kernel_rfl) qah_post known7
def qad_sh6 : StSh := ⟨⟨[3, 4, 8, 44, 45, 46], [3, 4], [⟨.slot 44, 44, 3, (.int .i64)⟩]⟩, [.ptr 3 0, .ptr 4 0, .t .str, .oslc 44, .t (.int .i64), .t (.int .i64)], [.blk 25 [.t (.slc (.int .i64)), .t (.int .i64), .t (.slc (.st 38))], .blk 38 [.t (.int .i64), .t (.slc (.st 40))], .row 3 (.int .i64)]⟩
def qad_o6 : List Out := [⟨.ret, ⟨⟨[6], [], []⟩, [.t .bool], []⟩⟩, ⟨.exit 0, ⟨⟨[], [], []⟩, [], []⟩⟩]
def qad_b6 : Code := (nthLoop (bodyOf Tryd.f18) 0)
def qad_rec6 (rec : List UInt8 → Int → Int → List (Int) → Int → List (ACode) → Int → List (Instr) → List (Int) → Option ((Bool) ⊕ (Unit))) : List (TV U) → Option ((Bool) ⊕ (Unit))
  | [⟨.str, a0⟩, ⟨(.int .i64), a1⟩, ⟨(.int .i64), a2⟩, ⟨(.slc (.int .i64)), a3⟩, ⟨(.int .i64), a4⟩, ⟨(.slc (.st 38)), a5⟩, ⟨(.int .i64), a6⟩, ⟨(.slc (.st 40)), a7⟩, ⟨(.slc (.int .i64)), a8⟩] => rec a0 a1 a2 a3 a4 a5 a6 a7 a8
  | _ => none
def qad_enc6 : Nat → List (TV U) → Option ((Bool) ⊕ (Unit))
  | 0, [⟨.bool, a0⟩] => some (.inl a0)
  | 1, [] => some (.inr ())
  | _, _ => none
def qad_dec6 : (Bool) ⊕ (Unit) → Nat × List (TV U) := fun r => match r with | (.inl x) => (0, [⟨.bool, x⟩]) | (.inr x) => (1, [])
def qad_tr6 : (Bool) ⊕ (Unit) → Tr (Nat × List (TV U)) := fun r => .alt r (fun x => .ret (0, [⟨.bool, x⟩])) (fun y => (fun x => .ret (1, [])) y)
def qad_lp6 : Lift.Loop U := ⟨qad_sh6, qad_o6, fun ls => .get (qad_rec6 qad_l6 ls) qad_tr6⟩
theorem qad_ok6 : LoopR kk env0 Tryd.f18.ntmps qad_b6 qad_lp6 :=
  loop_of qad_enc6 qad_dec6 (fun n => qad_rec6 (qad_i6 n)) (kitOk_of eqOk mixed known8) (L := jnL) (loopsOk_of (bs := []) (by kernel_rfl) trivial) (by intro r; rcases r with r | r <;> rfl) (by intro i qs r h; unfold qad_enc6 at h; split at h <;> cases h <;> rfl)
    (by intro ls r h; unfold qad_rec6 at h; split at h <;> cases h)
    (by intro n ls r h; unfold qad_rec6 at h; split at h; exact (show _ = qad_t6 (qad_i6 n) _ _ _ _ _ _ _ _ _ from by kernel_rfl).trans h; cases h) (by rw [qad_l6, sealF_eq])
def qad_sh : StSh := ⟨⟨[0, 1, 2], [], []⟩, [.t (.st 25), .t (.st 38), .t (.st 40)], []⟩
def qad_os : List StSh := [⟨⟨[0], [], []⟩, [.t .bool], []⟩]
def qad_tr : Bool → Tr (Nat × List (TV U)) := fun x => .ret (0, [⟨.bool, x⟩])
def qad_L : Nat → Option (Lift.Loop U) := fun n => bif Nat.beq n joinKey then some joinMark else bif Nat.beq n 6 then some qad_lp6 else none
def qad_enc : Nat → List (TV U) → Option (Bool)
  | 0, [⟨.bool, a0⟩] => some a0
  | _, _ => none
def qad_dec : Bool → Nat × List (TV U) := fun x => (0, [⟨.bool, x⟩])
def qad_in : List (TV U) → Option (Bool)
  | [⟨(.st 25), a0⟩, ⟨(.st 38), a1⟩, ⟨(.st 40), a2⟩] => qad a0 a1 a2
  | _ => none
def qad_md : Mode U := ⟨qad_sh, [], qad_os, fun ls => .get (qad_in ls) qad_tr⟩
theorem qad_post : ModeOk kk env0 18 qad_md :=
  fn_of (fn := Tryd.f18) qad_enc qad_dec (kitOk_of eqOk mixed known8) (by kernel_rfl) (L := qad_L) (loopsOk_of (bs := [qad_b6]) (by kernel_rfl) ⟨.inr ⟨_, by kernel_rfl, LoopOk.of_round (qad_ok6)⟩, trivial⟩) (fun _ => rfl) (by intro i qs r h; unfold qad_enc at h; split at h <;> cases h <;> rfl)
    (by intro ls r h; unfold qad_in at h; split at h; rw [qad, sealF_eq] at h; exact Eq.trans (by kernel_rfl) h; cases h)
def ms9 : List (FuncId × Mode U) := (18, qad_md) :: ms8
theorem known9 : Known kk env0 (modesOf ms9) := known_cons (by kernel_rfl) qad_post known8
def qac_sh4 : StSh := ⟨⟨[1, 38, 39, 40], [1], []⟩, [.ptr 1 0, .t (.slc (.int .i64)), .t (.int .i64), .t (.int .i64)], [.blk 25 [.t (.slc (.int .i64)), .t (.int .i64), .t (.slc (.st 38))]]⟩
def qac_o4 : List Out := [⟨.ret, ⟨⟨[2], [], []⟩, [.t .bool], []⟩⟩, ⟨.exit 0, ⟨⟨[1], [1], []⟩, [.ptr 1 0], [.blk 25 [.t (.slc (.int .i64)), .t (.int .i64), .t (.slc (.st 38))]]⟩⟩]
def qac_b4 : Code := (nthLoop (bodyOf Tryd.f10) 0)
def qac_rec4 (rec : List (Int) → Int → Int → List (Int) → Int → List (ACode) → Option ((Bool) ⊕ ((List (Int)) × Int × (List (ACode))))) : List (TV U) → Option ((Bool) ⊕ ((List (Int)) × Int × (List (ACode))))
  | [⟨(.slc (.int .i64)), a0⟩, ⟨(.int .i64), a1⟩, ⟨(.int .i64), a2⟩, ⟨(.slc (.int .i64)), a3⟩, ⟨(.int .i64), a4⟩, ⟨(.slc (.st 38)), a5⟩] => rec a0 a1 a2 a3 a4 a5
  | _ => none
def qac_enc4 : Nat → List (TV U) → Option ((Bool) ⊕ ((List (Int)) × Int × (List (ACode))))
  | 0, [⟨.bool, a0⟩] => some (.inl a0)
  | 1, [⟨(.slc (.int .i64)), a0⟩, ⟨(.int .i64), a1⟩, ⟨(.slc (.st 38)), a2⟩] => some (.inr (a0, a1, a2))
  | _, _ => none
def qac_dec4 : (Bool) ⊕ ((List (Int)) × Int × (List (ACode))) → Nat × List (TV U) := fun r => match r with | (.inl x) => (0, [⟨.bool, x⟩]) | (.inr x) => (1, [⟨(.slc (.int .i64)), x.1⟩, ⟨(.int .i64), x.2.1⟩, ⟨(.slc (.st 38)), x.2.2⟩])
def qac_tr4 : (Bool) ⊕ ((List (Int)) × Int × (List (ACode))) → Tr (Nat × List (TV U)) := fun r => .alt r (fun x => .ret (0, [⟨.bool, x⟩])) (fun y => (fun x => .ret (1, [⟨(.slc (.int .i64)), x.1⟩, ⟨(.int .i64), x.2.1⟩, ⟨(.slc (.st 38)), x.2.2⟩])) y)
def qac_lp4 : Lift.Loop U := ⟨qac_sh4, qac_o4, fun ls => .get (qac_rec4 qac_l4 ls) qac_tr4⟩
theorem qac_ok4 : LoopR kk env0 Tryd.f10.ntmps qac_b4 qac_lp4 :=
  loop_of qac_enc4 qac_dec4 (fun n => qac_rec4 (qac_i4 n)) (kitOk_of eqOk mixed known9) (L := jnL) (loopsOk_of (bs := []) (by kernel_rfl) trivial) (by intro r; rcases r with r | r <;> rfl) (by intro i qs r h; unfold qac_enc4 at h; split at h <;> cases h <;> rfl)
    (by intro ls r h; unfold qac_rec4 at h; split at h <;> cases h)
    (by intro n ls r h; unfold qac_rec4 at h; split at h; exact (show _ = qac_t4 (qac_i4 n) _ _ _ _ _ _ from by kernel_rfl).trans h; cases h) (by rw [qac_l4, sealF_eq])
def qac_sh19 : StSh := ⟨⟨[1, 6, 49, 50, 51, 88, 89, 90], [1, 6], []⟩, [.ptr 1 0, .ptr 6 0, .t (.slc (.st 38)), .t (.int .i64), .t (.int .i64), .t (.slc (.st 40)), .t (.int .i64), .t (.int .i64)], [.blk 25 [.t (.slc (.int .i64)), .t (.int .i64), .t (.slc (.st 38))], .blk 38 [.t (.int .i64), .t (.slc (.st 40))]]⟩
def qac_o19 : List Out := [⟨.ret, ⟨⟨[2], [], []⟩, [.t .bool], []⟩⟩, ⟨.exit 4, ⟨⟨[1, 49, 50, 51], [1], []⟩, [.ptr 1 0, .t (.slc (.st 38)), .t (.int .i64), .t (.int .i64)], [.blk 25 [.t (.slc (.int .i64)), .t (.int .i64), .t (.slc (.st 38))]]⟩⟩]
def qac_b19 : Code := (nthLoop (nthLoop (bodyOf Tryd.f10) 1) 0)
def qac_rec19 (rec : List (ACode) → Int → Int → List (Instr) → Int → Int → List (Int) → Int → List (ACode) → Int → List (Instr) → Option ((Bool) ⊕ ((List (ACode)) × Int × Int × (List (Int)) × Int × (List (ACode))))) : List (TV U) → Option ((Bool) ⊕ ((List (ACode)) × Int × Int × (List (Int)) × Int × (List (ACode))))
  | [⟨(.slc (.st 38)), a0⟩, ⟨(.int .i64), a1⟩, ⟨(.int .i64), a2⟩, ⟨(.slc (.st 40)), a3⟩, ⟨(.int .i64), a4⟩, ⟨(.int .i64), a5⟩, ⟨(.slc (.int .i64)), a6⟩, ⟨(.int .i64), a7⟩, ⟨(.slc (.st 38)), a8⟩, ⟨(.int .i64), a9⟩, ⟨(.slc (.st 40)), a10⟩] => rec a0 a1 a2 a3 a4 a5 a6 a7 a8 a9 a10
  | _ => none
def qac_enc19 : Nat → List (TV U) → Option ((Bool) ⊕ ((List (ACode)) × Int × Int × (List (Int)) × Int × (List (ACode))))
  | 0, [⟨.bool, a0⟩] => some (.inl a0)
  | 1, [⟨(.slc (.st 38)), a0⟩, ⟨(.int .i64), a1⟩, ⟨(.int .i64), a2⟩, ⟨(.slc (.int .i64)), a3⟩, ⟨(.int .i64), a4⟩, ⟨(.slc (.st 38)), a5⟩] => some (.inr (a0, a1, a2, a3, a4, a5))
  | _, _ => none
def qac_dec19 : (Bool) ⊕ ((List (ACode)) × Int × Int × (List (Int)) × Int × (List (ACode))) → Nat × List (TV U) := fun r => match r with | (.inl x) => (0, [⟨.bool, x⟩]) | (.inr x) => (1, [⟨(.slc (.st 38)), x.1⟩, ⟨(.int .i64), x.2.1⟩, ⟨(.int .i64), x.2.2.1⟩, ⟨(.slc (.int .i64)), x.2.2.2.1⟩, ⟨(.int .i64), x.2.2.2.2.1⟩, ⟨(.slc (.st 38)), x.2.2.2.2.2⟩])
def qac_tr19 : (Bool) ⊕ ((List (ACode)) × Int × Int × (List (Int)) × Int × (List (ACode))) → Tr (Nat × List (TV U)) := fun r => .alt r (fun x => .ret (0, [⟨.bool, x⟩])) (fun y => (fun x => .ret (1, [⟨(.slc (.st 38)), x.1⟩, ⟨(.int .i64), x.2.1⟩, ⟨(.int .i64), x.2.2.1⟩, ⟨(.slc (.int .i64)), x.2.2.2.1⟩, ⟨(.int .i64), x.2.2.2.2.1⟩, ⟨(.slc (.st 38)), x.2.2.2.2.2⟩])) y)
def qac_lp19 : Lift.Loop U := ⟨qac_sh19, qac_o19, fun ls => .get (qac_rec19 qac_l19 ls) qac_tr19⟩
theorem qac_ok19 : LoopR kk env0 Tryd.f10.ntmps qac_b19 qac_lp19 :=
  loop_of qac_enc19 qac_dec19 (fun n => qac_rec19 (qac_i19 n)) (kitOk_of eqOk mixed known9) (L := jnL) (loopsOk_of (bs := []) (by kernel_rfl) trivial) (by intro r; rcases r with r | r <;> rfl) (by intro i qs r h; unfold qac_enc19 at h; split at h <;> cases h <;> rfl)
    (by intro ls r h; unfold qac_rec19 at h; split at h <;> cases h)
    (by intro n ls r h; unfold qac_rec19 at h; split at h; exact (show _ = qac_t19 (qac_i19 n) _ _ _ _ _ _ _ _ _ _ _ from by kernel_rfl).trans h; cases h) (by rw [qac_l19, sealF_eq])
def qac_sh10 : StSh := ⟨⟨[1, 49, 50, 51], [1], []⟩, [.ptr 1 0, .t (.slc (.st 38)), .t (.int .i64), .t (.int .i64)], [.blk 25 [.t (.slc (.int .i64)), .t (.int .i64), .t (.slc (.st 38))]]⟩
def qac_o10 : List Out := [⟨.ret, ⟨⟨[2], [], []⟩, [.t .bool], []⟩⟩, ⟨.exit 2, ⟨⟨[], [], []⟩, [], []⟩⟩]
def qac_b10 : Code := (nthLoop (bodyOf Tryd.f10) 1)
def qac_L10 : Nat → Option (Lift.Loop U) := fun n => bif Nat.beq n joinKey then some joinMark else bif Nat.beq n 19 then some qac_lp19 else none
def qac_rec10 (rec : List (ACode) → Int → Int → List (Int) → Int → List (ACode) → Option ((Bool) ⊕ (Unit))) : List (TV U) → Option ((Bool) ⊕ (Unit))
  | [⟨(.slc (.st 38)), a0⟩, ⟨(.int .i64), a1⟩, ⟨(.int .i64), a2⟩, ⟨(.slc (.int .i64)), a3⟩, ⟨(.int .i64), a4⟩, ⟨(.slc (.st 38)), a5⟩] => rec a0 a1 a2 a3 a4 a5
  | _ => none
def qac_enc10 : Nat → List (TV U) → Option ((Bool) ⊕ (Unit))
  | 0, [⟨.bool, a0⟩] => some (.inl a0)
  | 1, [] => some (.inr ())
  | _, _ => none
def qac_dec10 : (Bool) ⊕ (Unit) → Nat × List (TV U) := fun r => match r with | (.inl x) => (0, [⟨.bool, x⟩]) | (.inr x) => (1, [])
def qac_tr10 : (Bool) ⊕ (Unit) → Tr (Nat × List (TV U)) := fun r => .alt r (fun x => .ret (0, [⟨.bool, x⟩])) (fun y => (fun x => .ret (1, [])) y)
def qac_lp10 : Lift.Loop U := ⟨qac_sh10, qac_o10, fun ls => .get (qac_rec10 qac_l10 ls) qac_tr10⟩
theorem qac_ok10 : LoopR kk env0 Tryd.f10.ntmps qac_b10 qac_lp10 :=
  loop_of qac_enc10 qac_dec10 (fun n => qac_rec10 (qac_i10 n)) (kitOk_of eqOk mixed known9) (L := qac_L10) (loopsOk_of (bs := [qac_b19]) (by kernel_rfl) ⟨.inr ⟨_, by kernel_rfl, LoopOk.of_round (qac_ok19)⟩, trivial⟩) (by intro r; rcases r with r | r <;> rfl) (by intro i qs r h; unfold qac_enc10 at h; split at h <;> cases h <;> rfl)
    (by intro ls r h; unfold qac_rec10 at h; split at h <;> cases h)
    (by intro n ls r h; unfold qac_rec10 at h; split at h; exact (show _ = qac_t10 (qac_i10 n) _ _ _ _ _ _ from by kernel_rfl).trans h; cases h) (by rw [qac_l10, sealF_eq])
def qac_sh : StSh := ⟨⟨[0], [], []⟩, [.t (.st 25)], []⟩
def qac_os : List StSh := [⟨⟨[0], [], []⟩, [.t .bool], []⟩]
def qac_tr : Bool → Tr (Nat × List (TV U)) := fun x => .ret (0, [⟨.bool, x⟩])
def qac_L : Nat → Option (Lift.Loop U) := fun n => bif Nat.beq n joinKey then some joinMark else bif Nat.beq n 4 then some qac_lp4 else bif Nat.beq n 10 then some qac_lp10 else none
def qac_enc : Nat → List (TV U) → Option (Bool)
  | 0, [⟨.bool, a0⟩] => some a0
  | _, _ => none
def qac_dec : Bool → Nat × List (TV U) := fun x => (0, [⟨.bool, x⟩])
def qac_in : List (TV U) → Option (Bool)
  | [⟨(.st 25), a0⟩] => qac a0
  | _ => none
def qac_md : Mode U := ⟨qac_sh, [], qac_os, fun ls => .get (qac_in ls) qac_tr⟩
theorem qac_post : ModeOk kk env0 10 qac_md :=
  fn_of (fn := Tryd.f10) qac_enc qac_dec (kitOk_of eqOk mixed known9) (by kernel_rfl) (L := qac_L) (loopsOk_of (bs := [qac_b4, qac_b10]) (by kernel_rfl) ⟨.inr ⟨_, by kernel_rfl, LoopOk.of_round (qac_ok4)⟩, .inr ⟨_, by kernel_rfl, LoopOk.of_round (qac_ok10)⟩, trivial⟩) (fun _ => rfl) (by intro i qs r h; unfold qac_enc at h; split at h <;> cases h <;> rfl)
    (by intro ls r h; unfold qac_in at h; split at h; rw [qac, sealF_eq] at h; exact Eq.trans (by kernel_rfl) h; cases h)
def ms10 : List (FuncId × Mode U) := (10, qac_md) :: ms9
theorem known10 : Known kk env0 (modesOf ms10) := known_cons (by kernel_rfl) qac_post known9
def qaC_sh : StSh := ⟨⟨[0, 1], [100000], [⟨.cell 100000 1, 200001, 5, (.int .u8)⟩]⟩, [.ptr 100000 0, .t .str], [.blk 52 [.selfp 100000, .oslc 200001], .row 5 (.int .u8)]⟩
def qaC_os : List StSh := [⟨⟨[0, 1], [100000], [⟨.cell 100000 1, 200001, 5, (.int .u8)⟩]⟩, [.t (.int .i64), .t .err], [.blk 52 [.selfp 100000, .oslc 200001], .row 5 (.int .u8)]⟩]
def qaC_tr : Int × Bool × (List (Int)) → Tr (Nat × List (TV U)) := fun x => .ret (0, [⟨(.int .i64), x.1⟩, ⟨.err, x.2.1⟩, ⟨(.slc (.int .u8)), x.2.2⟩])
def qaC_enc : Nat → List (TV U) → Option (Int × Bool × (List (Int)))
  | 0, [⟨(.int .i64), a0⟩, ⟨.err, a1⟩, ⟨(.slc (.int .u8)), a2⟩] => some (a0, a1, a2)
  | _, _ => none
def qaC_dec : Int × Bool × (List (Int)) → Nat × List (TV U) := fun x => (0, [⟨(.int .i64), x.1⟩, ⟨.err, x.2.1⟩, ⟨(.slc (.int .u8)), x.2.2⟩])
def qaC_in : List (TV U) → Option (Int × Bool × (List (Int)))
  | [⟨.str, a0⟩, ⟨(.slc (.int .u8)), a1⟩] => qaC a0 a1
  | _ => none
def qaC_md : Mode U := ⟨qaC_sh, [⟨100000, .slot 0, []⟩], qaC_os, fun ls => .get (qaC_in ls) qaC_tr⟩
theorem qaC_post : ModeOk kk env0 30 qaC_md :=
  fn_of (fn := Tryd.f30) qaC_enc qaC_dec (kitOk_of eqOk mixed known10) (by kernel_rfl) (L := noL) (loopsOk_of (bs := []) (by kernel_rfl) trivial) (fun _ => rfl) (by intro i qs r h; unfold qaC_enc at h; split at h <;> cases h <;> rfl)
    (by intro ls r h; unfold qaC_in at h; split at h; rw [qaC, sealF_eq] at h; exact Eq.trans (by kernel_rfl) h; cases h)
def ms11 : List (FuncId × Mode U) := (30, qaC_md) :: ms10
theorem known11 : Known kk env0 (modesOf ms11) := known_cons (by kernel_rfl) qaC_post known10
def qaB_sh : StSh := ⟨⟨[0, 1], [100000], [⟨.cell 100000 1, 200001, 5, (.int .u8)⟩]⟩, [.ptr 100000 0, .t (.int .u8)], [.blk 52 [.selfp 100000, .oslc 200001], .row 5 (.int .u8)]⟩
def qaB_os : List StSh := [⟨⟨[0], [100000], [⟨.cell 100000 1, 200001, 5, (.int .u8)⟩]⟩, [.t .err], [.blk 52 [.selfp 100000, .oslc 200001], .row 5 (.int .u8)]⟩]
def qaB_tr : Bool × (List (Int)) → Tr (Nat × List (TV U)) := fun x => .ret (0, [⟨.err, x.1⟩, ⟨(.slc (.int .u8)), x.2⟩])
def qaB_enc : Nat → List (TV U) → Option (Bool × (List (Int)))
  | 0, [⟨.err, a0⟩, ⟨(.slc (.int .u8)), a1⟩] => some (a0, a1)
  | _, _ => none
def qaB_dec : Bool × (List (Int)) → Nat × List (TV U) := fun x => (0, [⟨.err, x.1⟩, ⟨(.slc (.int .u8)), x.2⟩])
def qaB_in : List (TV U) → Option (Bool × (List (Int)))
  | [⟨(.int .u8), a0⟩, ⟨(.slc (.int .u8)), a1⟩] => qaB a0 a1
  | _ => none
def qaB_md : Mode U := ⟨qaB_sh, [⟨100000, .slot 0, []⟩], qaB_os, fun ls => .get (qaB_in ls) qaB_tr⟩
theorem qaB_post : ModeOk kk env0 32 qaB_md :=
  fn_of (fn := Tryd.f32) qaB_enc qaB_dec (kitOk_of eqOk mixed known11) (by kernel_rfl) (L := noL) (loopsOk_of (bs := []) (by kernel_rfl) trivial) (fun _ => rfl) (by intro i qs r h; unfold qaB_enc at h; split at h <;> cases h <;> rfl)
    (by intro ls r h; unfold qaB_in at h; split at h; rw [qaB, sealF_eq] at h; exact Eq.trans (by kernel_rfl) h; cases h)
def ms12 : List (FuncId × Mode U) := (32, qaB_md) :: ms11
theorem known12 : Known kk env0 (modesOf ms12) := known_cons (by kernel_rfl) qaB_post known11
def qae_sh2 : StSh := ⟨⟨[0, 11, 12, 13], [100000], [⟨.cell 100000 1, 200001, 5, (.int .u8)⟩]⟩, [.ptr 100000 0, .t (.slc (.int .i64)), .t (.int .i64), .t (.int .i64)], [.blk 52 [.selfp 100000, .oslc 200001], .row 5 (.int .u8)]⟩
def qae_o2 : List Out := [⟨.exit 0, ⟨⟨[0], [100000], [⟨.cell 100000 1, 200001, 5, (.int .u8)⟩]⟩, [.ptr 100000 0], [.blk 52 [.selfp 100000, .oslc 200001], .row 5 (.int .u8)]⟩⟩]
def qae_b2 : Code := (nthLoop (bodyOf Tryd.f23) 0)
def qae_rec2 (rec : List (Int) → Int → Int → List (Int) → Option ((List (Int)))) : List (TV U) → Option ((List (Int)))
  | [⟨(.slc (.int .i64)), a0⟩, ⟨(.int .i64), a1⟩, ⟨(.int .i64), a2⟩, ⟨(.slc (.int .u8)), a3⟩] => rec a0 a1 a2 a3
  | _ => none
def qae_enc2 : Nat → List (TV U) → Option ((List (Int)))
  | 0, [⟨(.slc (.int .u8)), a0⟩] => some a0
  | _, _ => none
def qae_dec2 : (List (Int)) → Nat × List (TV U) := fun x => (0, [⟨(.slc (.int .u8)), x⟩])
def qae_tr2 : (List (Int)) → Tr (Nat × List (TV U)) := fun x => .ret (0, [⟨(.slc (.int .u8)), x⟩])
def qae_lp2 : Lift.Loop U := ⟨qae_sh2, qae_o2, fun ls => .get (qae_rec2 qae_l2 ls) qae_tr2⟩
theorem qae_ok2 : LoopR kk env0 Tryd.f23.ntmps qae_b2 qae_lp2 :=
  loop_of qae_enc2 qae_dec2 (fun n => qae_rec2 (qae_i2 n)) (kitOk_of eqOk mixed known12) (L := jnL) (loopsOk_of (bs := []) (by kernel_rfl) trivial) (fun _ => rfl) (by intro i qs r h; unfold qae_enc2 at h; split at h <;> cases h <;> rfl)
    (by intro ls r h; unfold qae_rec2 at h; split at h <;> cases h)
    (by intro n ls r h; unfold qae_rec2 at h; split at h; exact (show _ = qae_t2 (qae_i2 n) _ _ _ _ from by kernel_rfl).trans h; cases h) (by rw [qae_l2, sealF_eq])
def qae_sh : StSh := ⟨⟨[0, 1, 2], [100000], [⟨.cell 100000 1, 200001, 5, (.int .u8)⟩]⟩, [.ptr 100000 0, .t .str, .t (.slc (.int .i64))], [.blk 52 [.selfp 100000, .oslc 200001], .row 5 (.int .u8)]⟩
def qae_os : List StSh := [⟨⟨[], [100000], [⟨.cell 100000 1, 200001, 5, (.int .u8)⟩]⟩, [], [.blk 52 [.selfp 100000, .oslc 200001], .row 5 (.int .u8)]⟩]
def qae_tr : (List (Int)) → Tr (Nat × List (TV U)) := fun x => .ret (0, [⟨(.slc (.int .u8)), x⟩])
def qae_L : Nat → Option (Lift.Loop U) := fun n => bif Nat.beq n joinKey then some joinMark else bif Nat.beq n 2 then some qae_lp2 else none
def qae_enc : Nat → List (TV U) → Option ((List (Int)))
  | 0, [⟨(.slc (.int .u8)), a0⟩] => some a0
  | _, _ => none
def qae_dec : (List (Int)) → Nat × List (TV U) := fun x => (0, [⟨(.slc (.int .u8)), x⟩])
def qae_in : List (TV U) → Option ((List (Int)))
  | [⟨.str, a0⟩, ⟨(.slc (.int .i64)), a1⟩, ⟨(.slc (.int .u8)), a2⟩] => qae a0 a1 a2
  | _ => none
def qae_md : Mode U := ⟨qae_sh, [⟨100000, .slot 0, []⟩], qae_os, fun ls => .get (qae_in ls) qae_tr⟩
theorem qae_post : ModeOk kk env0 23 qae_md :=
  fn_of (fn := Tryd.f23) qae_enc qae_dec (kitOk_of eqOk mixed known12) (by kernel_rfl) (L := qae_L) (loopsOk_of (bs := [qae_b2]) (by kernel_rfl) ⟨.inr ⟨_, by kernel_rfl, LoopOk.of_round (qae_ok2)⟩, trivial⟩) (fun _ => rfl) (by intro i qs r h; unfold qae_enc at h; split at h <;> cases h <;> rfl)
    (by intro ls r h; unfold qae_in at h; split at h; rw [qae, sealF_eq] at h; exact Eq.trans (by kernel_rfl) h; cases h)
def ms13 : List (FuncId × Mode U) := (23, qae_md) :: ms12
theorem known13 : Known kk env0 (modesOf ms13) := known_cons (by kernel_rfl) qae_post known12
def qaa_sh12 : StSh := ⟨⟨[4, 5, 23, 24, 25, 34, 35, 36], [4], [⟨.slot 5, 5, 57, (.st 57)⟩, ⟨.cell 4 1, 20201, 5, (.int .u8)⟩]⟩, [.ptr 4 0, .oslc 5, .t (.slc (.st 38)), .t (.int .i64), .t (.int .i64), .t (.slc (.st 40)), .t (.int .i64), .t (.int .i64)], [.blk 52 [.selfp 4, .oslc 20201], .row 57 (.st 57), .row 5 (.int .u8)]⟩
def qaa_o12 : List Out := [⟨.exit 2, ⟨⟨[4, 5, 23, 24, 25], [4], [⟨.slot 5, 5, 57, (.st 57)⟩, ⟨.cell 4 1, 20201, 5, (.int .u8)⟩]⟩, [.ptr 4 0, .oslc 5, .t (.slc (.st 38)), .t (.int .i64), .t (.int .i64)], [.blk 52 [.selfp 4, .oslc 20201], .row 57 (.st 57), .row 5 (.int .u8)]⟩⟩]
def qaa_b12 : Code := (nthLoop (nthLoop (bodyOf Tryd.f12) 0) 0)
def qaa_rec12 (rec : List (ACode) → Int → Int → List (Instr) → Int → Int → List (Operation) → List (Int) → Option ((List (ACode)) × Int × Int × (List (Operation)) × (List (Int)))) : List (TV U) → Option ((List (ACode)) × Int × Int × (List (Operation)) × (List (Int)))
  | [⟨(.slc (.st 38)), a0⟩, ⟨(.int .i64), a1⟩, ⟨(.int .i64), a2⟩, ⟨(.slc (.st 40)), a3⟩, ⟨(.int .i64), a4⟩, ⟨(.int .i64), a5⟩, ⟨(.slc (.st 57)), a6⟩, ⟨(.slc (.int .u8)), a7⟩] => rec a0 a1 a2 a3 a4 a5 a6 a7
  | _ => none
def qaa_enc12 : Nat → List (TV U) → Option ((List (ACode)) × Int × Int × (List (Operation)) × (List (Int)))
  | 0, [⟨(.slc (.st 38)), a0⟩, ⟨(.int .i64), a1⟩, ⟨(.int .i64), a2⟩, ⟨(.slc (.st 57)), a3⟩, ⟨(.slc (.int .u8)), a4⟩] => some (a0, a1, a2, a3, a4)
  | _, _ => none
def qaa_dec12 : (List (ACode)) × Int × Int × (List (Operation)) × (List (Int)) → Nat × List (TV U) := fun x => (0, [⟨(.slc (.st 38)), x.1⟩, ⟨(.int .i64), x.2.1⟩, ⟨(.int .i64), x.2.2.1⟩, ⟨(.slc (.st 57)), x.2.2.2.1⟩, ⟨(.slc (.int .u8)), x.2.2.2.2⟩])
def qaa_tr12 : (List (ACode)) × Int × Int × (List (Operation)) × (List (Int)) → Tr (Nat × List (TV U)) := fun x => .ret (0, [⟨(.slc (.st 38)), x.1⟩, ⟨(.int .i64), x.2.1⟩, ⟨(.int .i64), x.2.2.1⟩, ⟨(.slc (.st 57)), x.2.2.2.1⟩, ⟨(.slc (.int .u8)), x.2.2.2.2⟩])
def qaa_lp12 : Lift.Loop U := ⟨qaa_sh12, qaa_o12, fun ls => .get (qaa_rec12 qaa_l12 ls) qaa_tr12⟩
theorem qaa_ok12 : LoopR kk env0 Tryd.f12.ntmps qaa_b12 qaa_lp12 :=
  loop_of qaa_enc12 qaa_dec12 (fun n => qaa_rec12 (qaa_i12 n)) (kitOk_of eqOk mixed known13) (L := jnL) (loopsOk_of (bs := []) (by kernel_rfl) trivial) (fun _ => rfl) (by intro i qs r h; unfold qaa_enc12 at h; split at h <;> cases h <;> rfl)
    (by intro ls r h; unfold qaa_rec12 at h; split at h <;> cases h)
    (by intro n ls r h; unfold qaa_rec12 at h; split at h; exact (show _ = qaa_t12 (qaa_i12 n) _ _ _ _ _ _ _ _ from by kernel_rfl).trans h; cases h) (by rw [qaa_l12, sealF_eq])
def qaa_sh8 : StSh := ⟨⟨[4, 5, 23, 24, 25], [4], [⟨.slot 5, 5, 57, (.st 57)⟩, ⟨.cell 4 1, 20201, 5, (.int .u8)⟩]⟩, [.ptr 4 0, .oslc 5, .t (.slc (.st 38)), .t (.int .i64), .t (.int .i64)], [.blk 52 [.selfp 4, .oslc 20201], .row 57 (.st 57), .row 5 (.int .u8)]⟩
def qaa_o8 : List Out := [⟨.exit 0, ⟨⟨[4], [4], [⟨.cell 4 1, 20201, 5, (.int .u8)⟩]⟩, [.ptr 4 0], [.blk 52 [.selfp 4, .oslc 20201], .row 5 (.int .u8)]⟩⟩]
def qaa_b8 : Code := (nthLoop (bodyOf Tryd.f12) 0)
def qaa_L8 : Nat → Option (Lift.Loop U) := fun n => bif Nat.beq n joinKey then some joinMark else bif Nat.beq n 12 then some qaa_lp12 else none
def qaa_rec8 (rec : List (ACode) → Int → Int → List (Operation) → List (Int) → Option ((List (Int)))) : List (TV U) → Option ((List (Int)))
  | [⟨(.slc (.st 38)), a0⟩, ⟨(.int .i64), a1⟩, ⟨(.int .i64), a2⟩, ⟨(.slc (.st 57)), a3⟩, ⟨(.slc (.int .u8)), a4⟩] => rec a0 a1 a2 a3 a4
  | _ => none
def qaa_enc8 : Nat → List (TV U) → Option ((List (Int)))
  | 0, [⟨(.slc (.int .u8)), a0⟩] => some a0
  | _, _ => none
def qaa_dec8 : (List (Int)) → Nat × List (TV U) := fun x => (0, [⟨(.slc (.int .u8)), x⟩])
def qaa_tr8 : (List (Int)) → Tr (Nat × List (TV U)) := fun x => .ret (0, [⟨(.slc (.int .u8)), x⟩])
def qaa_lp8 : Lift.Loop U := ⟨qaa_sh8, qaa_o8, fun ls => .get (qaa_rec8 qaa_l8 ls) qaa_tr8⟩
theorem qaa_ok8 : LoopR kk env0 Tryd.f12.ntmps qaa_b8 qaa_lp8 :=
  loop_of qaa_enc8 qaa_dec8 (fun n => qaa_rec8 (qaa_i8 n)) (kitOk_of eqOk mixed known13) (L := qaa_L8) (loopsOk_of (bs := [qaa_b12]) (by kernel_rfl) ⟨.inr ⟨_, by kernel_rfl, LoopOk.of_round (qaa_ok12)⟩, trivial⟩) (fun _ => rfl) (by intro i qs r h; unfold qaa_enc8 at h; split at h <;> cases h <;> rfl)
    (by intro ls r h; unfold qaa_rec8 at h; split at h <;> cases h)
    (by intro n ls r h; unfold qaa_rec8 at h; split at h; exact (show _ = qaa_t8 (qaa_i8 n) _ _ _ _ _ from by kernel_rfl).trans h; cases h) (by rw [qaa_l8, sealF_eq])
def qaa_sh : StSh := ⟨⟨[0], [], []⟩, [.t (.st 25)], []⟩
def qaa_os : List StSh := [⟨⟨[0, 1], [], []⟩, [.t .str, .t (.int .i64)], []⟩]
def qaa_tr : (List UInt8) × Int → Tr (Nat × List (TV U)) := fun x => .ret (0, [⟨.str, x.1⟩, ⟨(.int .i64), x.2⟩])
def qaa_L : Nat → Option (Lift.Loop U) := fun n => bif Nat.beq n joinKey then some joinMark else bif Nat.beq n 8 then some qaa_lp8 else none
def qaa_enc : Nat → List (TV U) → Option ((List UInt8) × Int)
  | 0, [⟨.str, a0⟩, ⟨(.int .i64), a1⟩] => some (a0, a1)
  | _, _ => none
def qaa_dec : (List UInt8) × Int → Nat × List (TV U) := fun x => (0, [⟨.str, x.1⟩, ⟨(.int .i64), x.2⟩])
def qaa_in : List (TV U) → Option ((List UInt8) × Int)
  | [⟨(.st 25), a0⟩] => qaa a0
  | _ => none
def qaa_md : Mode U := ⟨qaa_sh, [], qaa_os, fun ls => .get (qaa_in ls) qaa_tr⟩
theorem qaa_post : ModeOk kk env0 12 qaa_md :=
  fn_of (fn := Tryd.f12) qaa_enc qaa_dec (kitOk_of eqOk mixed known13) (by kernel_rfl) (L := qaa_L) (loopsOk_of (bs := [qaa_b8]) (by kernel_rfl) ⟨.inr ⟨_, by kernel_rfl, LoopOk.of_round (qaa_ok8)⟩, trivial⟩) (fun _ => rfl) (by intro i qs r h; unfold qaa_enc at h; split at h <;> cases h <;> rfl)
    (by intro ls r h; unfold qaa_in at h; split at h; rw [qaa, sealF_eq] at h; exact Eq.trans (by kernel_rfl) h; cases h)
def ms14 : List (FuncId × Mode U) := (12, qaa_md) :: ms13
theorem known14 : Known kk env0 (modesOf ms14) := known_cons (by kernel_rfl) qaa_post known13
def qal_sh : StSh := ⟨⟨[0, 1], [], []⟩, [.t .str, .t .str], []⟩
def qal_os : List StSh := [⟨⟨[0], [], []⟩, [.t .bool], []⟩]
def qal_tr : Bool → Tr (Nat × List (TV U)) := fun x => .ret (0, [⟨.bool, x⟩])
def qal_enc : Nat → List (TV U) → Option (Bool)
  | 0, [⟨.bool, a0⟩] => some a0
  | _, _ => none
def qal_dec : Bool → Nat × List (TV U) := fun x => (0, [⟨.bool, x⟩])
def qal_in : List (TV U) → Option (Bool)
  | [⟨.str, a0⟩, ⟨.str, a1⟩] => qal a0 a1
  | _ => none
def qal_md : Mode U := ⟨qal_sh, [], qal_os, fun ls => .get (qal_in ls) qal_tr⟩
theorem qal_post : ModeOk kk env0 80 qal_md :=
  fn_of (fn := Tryd.f80) qal_enc qal_dec (kitOk_of eqOk mixed known14) (by kernel_rfl) (L := jnL) (loopsOk_of (bs := []) (by kernel_rfl) trivial) (fun _ => rfl) (by intro i qs r h; unfold qal_enc at h; split at h <;> cases h <;> rfl)
    (by intro ls r h; unfold qal_in at h; split at h; rw [qal, sealF_eq] at h; exact Eq.trans (by kernel_rfl) h; cases h)
def ms15 : List (FuncId × Mode U) := (80, qal_md) :: ms14
theorem known15 : Known kk env0 (modesOf ms15) := known_cons (by kernel_rfl) qal_post known14
def qam_sh : StSh := ⟨⟨[0, 1], [], []⟩, [.t .str, .t .str], []⟩
def qam_os : List StSh := [⟨⟨[0], [], []⟩, [.t .str], []⟩]
def qam_tr : (List UInt8) → Tr (Nat × List (TV U)) := fun x => .ret (0, [⟨.str, x⟩])
def qam_enc : Nat → List (TV U) → Option ((List UInt8))
  | 0, [⟨.str, a0⟩] => some a0
  | _, _ => none
def qam_dec : (List UInt8) → Nat × List (TV U) := fun x => (0, [⟨.str, x⟩])
def qam_in : List (TV U) → Option ((List UInt8))
  | [⟨.str, a0⟩, ⟨.str, a1⟩] => qam a0 a1
  | _ => none
def qam_md : Mode U := ⟨qam_sh, [], qam_os, fun ls => .get (qam_in ls) qam_tr⟩
theorem qam_post : ModeOk kk env0 66 qam_md :=
  fn_of (fn := Tryd.f66) qam_enc qam_dec (kitOk_of eqOk mixed known15) (by kernel_rfl) (L := jnL) (loopsOk_of (bs := []) (by kernel_rfl) trivial) (fun _ => rfl) (by intro i qs r h; unfold qam_enc at h; split at h <;> cases h <;> rfl)
    (by intro ls r h; unfold qam_in at h; split at h; rw [qam, sealF_eq] at h; exact Eq.trans (by kernel_rfl) h; cases h)
def ms16 : List (FuncId × Mode U) := (66, qam_md) :: ms15
theorem known16 : Known kk env0 (modesOf ms16) := known_cons (by kernel_rfl) qam_post known15
def qaD_sh : StSh := ⟨⟨[0, 1], [], []⟩, [.t .str, .t .str], []⟩
def qaD_os : List StSh := [⟨⟨[0], [], []⟩, [.t .str], []⟩]
def qaD_tr : (List UInt8) → Tr (Nat × List (TV U)) := fun x => .ret (0, [⟨.str, x⟩])
def qaD_enc : Nat → List (TV U) → Option ((List UInt8))
  | 0, [⟨.str, a0⟩] => some a0
  | _, _ => none
def qaD_dec : (List UInt8) → Nat × List (TV U) := fun x => (0, [⟨.str, x⟩])
def qaD_in : List (TV U) → Option ((List UInt8))
  | [⟨.str, a0⟩, ⟨.str, a1⟩] => qaD a0 a1
  | _ => none
def qaD_md : Mode U := ⟨qaD_sh, [], qaD_os, fun ls => .get (qaD_in ls) qaD_tr⟩
theorem qaD_post : ModeOk kk env0 54 qaD_md :=
  fn_of (fn := Tryd.f54) qaD_enc qaD_dec (kitOk_of eqOk mixed known16) (by kernel_rfl) (L := noL) (loopsOk_of (bs := []) (by kernel_rfl) trivial) (fun _ => rfl) (by intro i qs r h; unfold qaD_enc at h; split at h <;> cases h <;> rfl)
    (by intro ls r h; unfold qaD_in at h; split at h; rw [qaD, sealF_eq] at h; exact Eq.trans (by kernel_rfl) h; cases h)
def ms17 : List (FuncId × Mode U) := (54, qaD_md) :: ms16
theorem known17 : Known kk env0 (modesOf ms17) := known_cons (by kernel_rfl) qaD_post known16
def qaf_sh : StSh := ⟨⟨[0], [], []⟩, [.t .str], []⟩
def qaf_os : List StSh := [⟨⟨[0, 1], [], []⟩, [.t (.int .i64), .t .bool], []⟩]
def qaf_tr : Int × Bool → Tr (Nat × List (TV U)) := fun x => .ret (0, [⟨(.int .i64), x.1⟩, ⟨.bool, x.2⟩])
def qaf_enc : Nat → List (TV U) → Option (Int × Bool)
  | 0, [⟨(.int .i64), a0⟩, ⟨.bool, a1⟩] => some (a0, a1)
  | _, _ => none
def qaf_dec : Int × Bool → Nat × List (TV U) := fun x => (0, [⟨(.int .i64), x.1⟩, ⟨.bool, x.2⟩])
def qaf_in : List (TV U) → Option (Int × Bool)
  | [⟨.str, a0⟩] => qaf a0
  | _ => none
def qaf_md : Mode U := ⟨qaf_sh, [], qaf_os, fun ls => .get (qaf_in ls) qaf_tr⟩
theorem qaf_post : ModeOk kk env0 45 qaf_md :=
  fn_of (fn := Tryd.f45) qaf_enc qaf_dec (kitOk_of eqOk mixed known17) (by kernel_rfl) (L := jnL) (loopsOk_of (bs := []) (by kernel_rfl) trivial) (fun _ => rfl) (by intro i qs r h; unfold qaf_enc at h; split at h <;> cases h <;> rfl)
    (by intro ls r h; unfold qaf_in at h; split at h; rw [qaf, sealF_eq] at h; exact Eq.trans (by kernel_rfl) h; cases h)
def ms18 : List (FuncId × Mode U) := (45, qaf_md) :: ms17
theorem known18 : Known kk env0 (modesOf ms18) := known_cons (by kernel_rfl) qaf_post known17
def qai_sh4 : StSh := ⟨⟨[5, 6, 14, 15, 16], [], [⟨.slot 6, 6, 3, (.int .i64)⟩]⟩, [.t (.slc .str), .oslc 6, .t (.slc .str), .t (.int .i64), .t (.int .i64)], [.row 3 (.int .i64)]⟩
def qai_o4 : List Out := [⟨.ret, ⟨⟨[2, 3, 4], [], []⟩, [.t .str, .nil, .t .bool], []⟩⟩, ⟨.exit 0, ⟨⟨[5, 6], [], [⟨.slot 6, 6, 3, (.int .i64)⟩]⟩, [.t (.slc .str), .oslc 6], [.row 3 (.int .i64)]⟩⟩]
def qai_b4 : Code := (nthLoop (bodyOf Tryd.f36) 0)
def qai_rec4 (rec : List (List UInt8) → List (List UInt8) → Int → Int → List (Int) → Option (((List UInt8) × Bool) ⊕ ((List (List UInt8)) × (List (Int))))) : List (TV U) → Option (((List UInt8) × Bool) ⊕ ((List (List UInt8)) × (List (Int))))
  | [⟨(.slc .str), a0⟩, ⟨(.slc .str), a1⟩, ⟨(.int .i64), a2⟩, ⟨(.int .i64), a3⟩, ⟨(.slc (.int .i64)), a4⟩] => rec a0 a1 a2 a3 a4
  | _ => none
def qai_enc4 : Nat → List (TV U) → Option (((List UInt8) × Bool) ⊕ ((List (List UInt8)) × (List (Int))))
  | 0, [⟨.str, a0⟩, ⟨.bool, a1⟩] => some (.inl (a0, a1))
  | 1, [⟨(.slc .str), a0⟩, ⟨(.slc (.int .i64)), a1⟩] => some (.inr (a0, a1))
  | _, _ => none
def qai_dec4 : ((List UInt8) × Bool) ⊕ ((List (List UInt8)) × (List (Int))) → Nat × List (TV U) := fun r => match r with | (.inl x) => (0, [⟨.str, x.1⟩, ⟨.bool, x.2⟩]) | (.inr x) => (1, [⟨(.slc .str), x.1⟩, ⟨(.slc (.int .i64)), x.2⟩])
def qai_tr4 : ((List UInt8) × Bool) ⊕ ((List (List UInt8)) × (List (Int))) → Tr (Nat × List (TV U)) := fun r => .alt r (fun x => .ret (0, [⟨.str, x.1⟩, ⟨.bool, x.2⟩])) (fun y => (fun x => .ret (1, [⟨(.slc .str), x.1⟩, ⟨(.slc (.int .i64)), x.2⟩])) y)
def qai_lp4 : Lift.Loop U := ⟨qai_sh4, qai_o4, fun ls => .get (qai_rec4 qai_l4 ls) qai_tr4⟩
theorem qai_ok4 : LoopR kk env0 Tryd.f36.ntmps qai_b4 qai_lp4 :=
  loop_of qai_enc4 qai_dec4 (fun n => qai_rec4 (qai_i4 n)) (kitOk_of eqOk mixed known18) (L := jnL) (loopsOk_of (bs := []) (by kernel_rfl) trivial) (by intro r; rcases r with r | r <;> rfl) (by intro i qs r h; unfold qai_enc4 at h; split at h <;> cases h <;> rfl)
    (by intro ls r h; unfold qai_rec4 at h; split at h <;> cases h)
    (by intro n ls r h; unfold qai_rec4 at h; split at h; exact (show _ = qai_t4 (qai_i4 n) _ _ _ _ _ from by kernel_rfl).trans h; cases h) (by rw [qai_l4, sealF_eq])
def qai_sh : StSh := ⟨⟨[0], [], []⟩, [.t .str], []⟩
def qai_os : List StSh := [⟨⟨[0, 1, 2], [], [⟨.slot 1, 100001, 3, (.int .i64)⟩]⟩, [.t .str, .oslc 100001, .t .bool], [.row 3 (.int .i64)]⟩]
def qai_tr : (List UInt8) × Bool × (List (Int)) → Tr (Nat × List (TV U)) := fun x => .ret (0, [⟨.str, x.1⟩, ⟨.bool, x.2.1⟩, ⟨(.slc (.int .i64)), x.2.2⟩])
def qai_L : Nat → Option (Lift.Loop U) := fun n => bif Nat.beq n joinKey then some joinMark else bif Nat.beq n 4 then some qai_lp4 else none
def qai_enc : Nat → List (TV U) → Option ((List UInt8) × Bool × (List (Int)))
  | 0, [⟨.str, a0⟩, ⟨.bool, a1⟩, ⟨(.slc (.int .i64)), a2⟩] => some (a0, a1, a2)
  | _, _ => none
def qai_dec : (List UInt8) × Bool × (List (Int)) → Nat × List (TV U) := fun x => (0, [⟨.str, x.1⟩, ⟨.bool, x.2.1⟩, ⟨(.slc (.int .i64)), x.2.2⟩])
def qai_in : List (TV U) → Option ((List UInt8) × Bool × (List (Int)))
  | [⟨.str, a0⟩] => qai a0
  | _ => none
def qai_md : Mode U := ⟨qai_sh, [], qai_os, fun ls => .get (qai_in ls) qai_tr⟩
theorem qai_post : ModeOk kk env0 36 qai_md :=
  fn_of (fn := Tryd.f36) qai_enc qai_dec (kitOk_of eqOk mixed known18) (by kernel_rfl) (L := qai_L) (loopsOk_of (bs := [qai_b4]) (by kernel_rfl) ⟨.inr ⟨_, by kernel_rfl, LoopOk.of_round (qai_ok4)⟩, trivial⟩) (fun _ => rfl) (by intro i qs r h; unfold qai_enc at h; split at h <;> cases h <;> rfl)
    (by intro ls r h; unfold qai_in at h; split at h; rw [qai, sealF_eq] at h; exact Eq.trans (by kernel_rfl) h; cases h)
def ms19 : List (FuncId × Mode U) := (36, qai_md) :: ms18
theorem known19 : Known kk env0 (modesOf ms19) := known_cons (by kernel_rfl) qai_post known18
def qaz_sh : StSh := ⟨⟨[0], [], [⟨.slot 0, 0, 3, (.int .i64)⟩]⟩, [.oslc 0], [.row 3 (.int .i64)]⟩
def qaz_os : List StSh := [⟨⟨[0], [], [⟨.slot 0, 100000, 3, (.int .i64)⟩]⟩, [.oslc 100000], [.row 3 (.int .i64)]⟩]
def qaz_tr : (List (Int)) → Tr (Nat × List (TV U)) := fun x => .ret (0, [⟨(.slc (.int .i64)), x⟩])
def qaz_enc : Nat → List (TV U) → Option ((List (Int)))
  | 0, [⟨(.slc (.int .i64)), a0⟩] => some a0
  | _, _ => none
def qaz_dec : (List (Int)) → Nat × List (TV U) := fun x => (0, [⟨(.slc (.int .i64)), x⟩])
def qaz_in : List (TV U) → Option ((List (Int)))
  | [⟨(.slc (.int .i64)), a0⟩] => qaz a0
  | _ => none
def qaz_md : Mode U := ⟨qaz_sh, [], qaz_os, fun ls => .get (qaz_in ls) qaz_tr⟩
theorem qaz_post : ModeOk kk env0 37 qaz_md :=
  fn_of (fn := Tryd.f37) qaz_enc qaz_dec (kitOk_of eqOk mixed known19) (by kernel_rfl) (L := jnL) (loopsOk_of (bs := []) (by kernel_rfl) trivial) (fun _ => rfl) (by intro i qs r h; unfold qaz_enc at h; split at h <;> cases h <;> rfl)
    (by intro ls r h; unfold qaz_in at h; split at h; rw [qaz, sealF_eq] at h; exact Eq.trans (by kernel_rfl) h; cases h)
def ms20 : List (FuncId × Mode U) := (37, qaz_md) :: ms19
theorem known20 : Known kk env0 (modesOf ms20) := known_cons (by kernel_rfl) qaz_post known19
def qak_sh : StSh := ⟨⟨[0, 1, 2], [100000, 100001], [⟨.cell 100001 0, 200100, 3, (.int .i64)⟩]⟩, [.t (.st 57), .ptr 100000 0, .ptr 100001 0], [.blk 9 [.t .str], .blk 22 [.oslc 200100], .row 3 (.int .i64)]⟩
def qak_os : List StSh := [⟨⟨[0], [100000, 100001], [⟨.cell 100001 0, 200100, 3, (.int .i64)⟩]⟩, [.t .bool], [.blk 9 [.t .str], .blk 22 [.oslc 200100], .row 3 (.int .i64)]⟩]
def qak_tr : Bool × (List UInt8) × (List (Int)) → Tr (Nat × List (TV U)) := fun x => .ret (0, [⟨.bool, x.1⟩, ⟨.str, x.2.1⟩, ⟨(.slc (.int .i64)), x.2.2⟩])
def qak_enc : Nat → List (TV U) → Option (Bool × (List UInt8) × (List (Int)))
  | 0, [⟨.bool, a0⟩, ⟨.str, a1⟩, ⟨(.slc (.int .i64)), a2⟩] => some (a0, a1, a2)
  | _, _ => none
def qak_dec : Bool × (List UInt8) × (List (Int)) → Nat × List (TV U) := fun x => (0, [⟨.bool, x.1⟩, ⟨.str, x.2.1⟩, ⟨(.slc (.int .i64)), x.2.2⟩])
def qak_in : List (TV U) → Option (Bool × (List UInt8) × (List (Int)))
  | [⟨(.st 57), a0⟩, ⟨.str, a1⟩, ⟨(.slc (.int .i64)), a2⟩] => qak a0 a1 a2
  | _ => none
def qak_md : Mode U := ⟨qak_sh, [⟨100000, .slot 1, []⟩, ⟨100001, .slot 2, []⟩], qak_os, fun ls => .get (qak_in ls) qak_tr⟩
theorem qak_post : ModeOk kk env0 39 qak_md :=
  fn_of (fn := Tryd.f39) qak_enc qak_dec (kitOk_of eqOk mixed known20) (by kernel_rfl) (L := jnL) (loopsOk_of (bs := []) (by kernel_rfl) trivial) (fun _ => rfl) (by intro i qs r h; unfold qak_enc at h; split at h <;> cases h <;> rfl)
    (by intro ls r h; unfold qak_in at h; split at h; rw [qak, sealF_eq] at h; exact Eq.trans (by kernel_rfl) h; cases h)
def ms21 : List (FuncId × Mode U) := (39, qak_md) :: ms20
theorem known21 : Known kk env0 (modesOf ms21) := known_cons (by kernel_rfl) qak_post known20
def qaA_sh2 : StSh := ⟨⟨[0, 1, 7, 8], [100000, 100001], [⟨.cell 100001 0, 200100, 3, (.int .i64)⟩]⟩, [.t (.slc (.st 57)), .clo 39 [.ptr 100000 0, .ptr 100001 0], .t (.int .i64), .t (.int .i64)], [.blk 9 [.t .str], .blk 22 [.oslc 200100], .row 3 (.int .i64)]⟩
def qaA_o2 : List Out := [⟨.ret, ⟨⟨[4], [100000, 100001], [⟨.cell 100001 0, 200100, 3, (.int .i64)⟩]⟩, [.t (.int .i64)], [.blk 9 [.t .str], .blk 22 [.oslc 200100], .row 3 (.int .i64)]⟩⟩, ⟨.exit 0, ⟨⟨[], [100000, 100001], [⟨.cell 100001 0, 200100, 3, (.int .i64)⟩]⟩, [], [.blk 9 [.t .str], .blk 22 [.oslc 200100], .row 3 (.int .i64)]⟩⟩]
def qaA_b2 : Code := (nthLoop (bodyOf Tryd.f38) 0)
def qaA_rec2 (rec : List (Operation) → Int → Int → List UInt8 → List (Int) → Option ((Int × (List UInt8) × (List (Int))) ⊕ ((List UInt8) × (List (Int))))) : List (TV U) → Option ((Int × (List UInt8) × (List (Int))) ⊕ ((List UInt8) × (List (Int))))
  | [⟨(.slc (.st 57)), a0⟩, ⟨(.int .i64), a1⟩, ⟨(.int .i64), a2⟩, ⟨.str, a3⟩, ⟨(.slc (.int .i64)), a4⟩] => rec a0 a1 a2 a3 a4
  | _ => none
def qaA_enc2 : Nat → List (TV U) → Option ((Int × (List UInt8) × (List (Int))) ⊕ ((List UInt8) × (List (Int))))
  | 0, [⟨(.int .i64), a0⟩, ⟨.str, a1⟩, ⟨(.slc (.int .i64)), a2⟩] => some (.inl (a0, a1, a2))
  | 1, [⟨.str, a0⟩, ⟨(.slc (.int .i64)), a1⟩] => some (.inr (a0, a1))
  | _, _ => none
def qaA_dec2 : (Int × (List UInt8) × (List (Int))) ⊕ ((List UInt8) × (List (Int))) → Nat × List (TV U) := fun r => match r with | (.inl x) => (0, [⟨(.int .i64), x.1⟩, ⟨.str, x.2.1⟩, ⟨(.slc (.int .i64)), x.2.2⟩]) | (.inr x) => (1, [⟨.str, x.1⟩, ⟨(.slc (.int .i64)), x.2⟩])
def qaA_tr2 : (Int × (List UInt8) × (List (Int))) ⊕ ((List UInt8) × (List (Int))) → Tr (Nat × List (TV U)) := fun r => .alt r (fun x => .ret (0, [⟨(.int .i64), x.1⟩, ⟨.str, x.2.1⟩, ⟨(.slc (.int .i64)), x.2.2⟩])) (fun y => (fun x => .ret (1, [⟨.str, x.1⟩, ⟨(.slc (.int .i64)), x.2⟩])) y)
def qaA_lp2 : Lift.Loop U := ⟨qaA_sh2, qaA_o2, fun ls => .get (qaA_rec2 qaA_l2 ls) qaA_tr2⟩
theorem qaA_ok2 : LoopR kk env0 Tryd.f38.ntmps qaA_b2 qaA_lp2 :=
  loop_of qaA_enc2 qaA_dec2 (fun n => qaA_rec2 (qaA_i2 n)) (kitOk_of eqOk mixed known21) (L := jnL) (loopsOk_of (bs := []) (by kernel_rfl) trivial) (by intro r; rcases r with r | r <;> rfl) (by intro i qs r h; unfold qaA_enc2 at h; split at h <;> cases h <;> rfl)
    (by intro ls r h; unfold qaA_rec2 at h; split at h <;> cases h)
    (by intro n ls r h; unfold qaA_rec2 at h; split at h; exact (show _ = qaA_t2 (qaA_i2 n) _ _ _ _ _ from by kernel_rfl).trans h; cases h) (by rw [qaA_l2, sealF_eq])
def qaA_sh : StSh := ⟨⟨[0, 1], [100000, 100001], [⟨.cell 100001 0, 200100, 3, (.int .i64)⟩]⟩, [.t (.slc (.st 57)), .clo 39 [.ptr 100000 0, .ptr 100001 0]], [.blk 9 [.t .str], .blk 22 [.oslc 200100], .row 3 (.int .i64)]⟩
def qaA_os : List StSh := [⟨⟨[0], [100000, 100001], [⟨.cell 100001 0, 200100, 3, (.int .i64)⟩]⟩, [.t (.int .i64)], [.blk 9 [.t .str], .blk 22 [.oslc 200100], .row 3 (.int .i64)]⟩]
def qaA_tr : Int × (List UInt8) × (List (Int)) → Tr (Nat × List (TV U)) := fun x => .ret (0, [⟨(.int .i64), x.1⟩, ⟨.str, x.2.1⟩, ⟨(.slc (.int .i64)), x.2.2⟩])
def qaA_L : Nat → Option (Lift.Loop U) := fun n => bif Nat.beq n joinKey then some joinMark else bif Nat.beq n 2 then some qaA_lp2 else none
def qaA_enc : Nat → List (TV U) → Option (Int × (List UInt8) × (List (Int)))
  | 0, [⟨(.int .i64), a0⟩, ⟨.str, a1⟩, ⟨(.slc (.int .i64)), a2⟩] => some (a0, a1, a2)
  | _, _ => none
def qaA_dec : Int × (List UInt8) × (List (Int)) → Nat × List (TV U) := fun x => (0, [⟨(.int .i64), x.1⟩, ⟨.str, x.2.1⟩, ⟨(.slc (.int .i64)), x.2.2⟩])
def qaA_in : List (TV U) → Option (Int × (List UInt8) × (List (Int)))
  | [⟨(.slc (.st 57)), a0⟩, ⟨.str, a1⟩, ⟨(.slc (.int .i64)), a2⟩] => qaA a0 a1 a2
  | _ => none
def qaA_md : Mode U := ⟨qaA_sh, [⟨100000, .slot 1, [0]⟩, ⟨100001, .slot 1, [1]⟩], qaA_os, fun ls => .get (qaA_in ls) qaA_tr⟩
theorem qaA_post : ModeOk kk env0 38 qaA_md :=
  fn_of (fn := Tryd.f38) qaA_enc qaA_dec (kitOk_of eqOk mixed known21) (by kernel_rfl) (L := qaA_L) (loopsOk_of (bs := [qaA_b2]) (by kernel_rfl) ⟨.inr ⟨_, by kernel_rfl, LoopOk.of_round (qaA_ok2)⟩, trivial⟩) (fun _ => rfl) (by intro i qs r h; unfold qaA_enc at h; split at h <;> cases h <;> rfl)
    (by intro ls r h; unfold qaA_in at h; split at h; rw [qaA, sealF_eq] at h; exact Eq.trans (by kernel_rfl) h; cases h)
def ms22 : List (FuncId × Mode U) := (38, qaA_md) :: ms21
theorem known22 : Known kk env0 (modesOf ms22) := known_cons (by kernel_rfl) qaA_post known21
def qaj_sh : StSh := ⟨⟨[0, 1, 2], [100000], [⟨.cell 100000 0, 200000, 3, (.int .i64)⟩, ⟨.cell 100000 2, 200002, 38, (.st 1038)⟩]⟩, [.ptr 100000 0, .t (.int .i64), .t .str], [.blk 25 [.oslc 200000, .t (.int .i64), .oslc 200002], .row 3 (.int .i64), .row 38 (.st 1038)]⟩
def qaj_os : List StSh := [⟨⟨[0], [100000], [⟨.cell 100000 0, 200000, 3, (.int .i64)⟩, ⟨.cell 100000 2, 200002, 38, (.st 1038)⟩]⟩, [.t .bool], [.blk 25 [.oslc 200000, .t (.int .i64), .oslc 200002], .row 3 (.int .i64), .row 38 (.st 1038)]⟩]
def qaj_tr : Bool × Int × (List (Int)) × (List (ACode)) → Tr (Nat × List (TV U)) := fun x => .ret (0, [⟨.bool, x.1⟩, ⟨(.int .i64), x.2.1⟩, ⟨(.slc (.int .i64)), x.2.2.1⟩, ⟨(.slc (.st 1038)), x.2.2.2⟩])
def qaj_L : Nat → Option (Lift.Loop U) := fun n => bif Nat.beq n joinKey then some joinMark else some unrMark
def qaj_enc : Nat → List (TV U) → Option (Bool × Int × (List (Int)) × (List (ACode)))
  | 0, [⟨.bool, a0⟩, ⟨(.int .i64), a1⟩, ⟨(.slc (.int .i64)), a2⟩, ⟨(.slc (.st 1038)), a3⟩] => some (a0, a1, a2, a3)
  | _, _ => none
def qaj_dec : Bool × Int × (List (Int)) × (List (ACode)) → Nat × List (TV U) := fun x => (0, [⟨.bool, x.1⟩, ⟨(.int .i64), x.2.1⟩, ⟨(.slc (.int .i64)), x.2.2.1⟩, ⟨(.slc (.st 1038)), x.2.2.2⟩])
def qaj_in : List (TV U) → Option (Bool × Int × (List (Int)) × (List (ACode)))
  | [⟨(.int .i64), a0⟩, ⟨.str, a1⟩, ⟨(.int .i64), a2⟩, ⟨(.slc (.int .i64)), a3⟩, ⟨(.slc (.st 1038)), a4⟩] => qaj a0 a1 a2 a3 a4
  | _ => none
def qaj_md : Mode U := ⟨qaj_sh, [⟨100000, .slot 0, []⟩], qaj_os, fun ls => .get (qaj_in ls) qaj_tr⟩
theorem qaj_post : ModeOk kk env0 27 qaj_md :=
  fn_of (fn := Tryd.f27) qaj_enc qaj_dec (kitOk_of eqOk mixed known22) (by kernel_rfl) (L := qaj_L) (loopsOk_of (bs := [(nthLoop (bodyOf Tryd.f27) 0)]) (by kernel_rfl) ⟨.inr ⟨_, by kernel_rfl, unrOk⟩, trivial⟩) (fun _ => rfl) (by intro i qs r h; unfold qaj_enc at h; split at h <;> cases h <;> rfl)
    (by intro ls r h; unfold qaj_in at h; split at h; rw [qaj, sealF_eq] at h; exact Eq.trans (by kernel_rfl) h; cases h)
def ms23 : List (FuncId × Mode U) := (27, qaj_md) :: ms22
theorem known23 : Known kk env0 (modesOf ms23) := known_cons (by kernel_rfl) qaj_post known22
def qab_sh3 : StSh := ⟨⟨[0, 2, 3, 4, 5, 6], [2, 3, 4], [⟨.cell 4 0, 20200, 3, (.int .i64)⟩, ⟨.cell 4 2, 20202, 38, (.st 1038)⟩]⟩, [.t .str, .ptr 2 0, .ptr 3 0, .ptr 4 0, .t (.int .i64), .t (.int .i64)], [.blk 25 [.nil, .t (.int .i64), .nil], .blk 32 [.t (.int .i64), .t (.int .i64), .t .str], .blk 25 [.oslc 20200, .t (.int .i64), .oslc 20202], .row 3 (.int .i64), .row 38 (.st 1038)]⟩
def qab_o3 : List Out := [⟨.ret, ⟨⟨[2, 3], [2, 3], []⟩, [.ptr 2 0, .ptr 3 0], [.blk 25 [.nil, .t (.int .i64), .nil], .blk 32 [.t (.int .i64), .t (.int .i64), .t .str]]⟩⟩, ⟨.exit 0, ⟨⟨[2, 3, 4, 5, 6], [2, 3, 4], [⟨.cell 4 0, 20200, 3, (.int .i64)⟩, ⟨.cell 4 2, 20202, 38, (.st 1038)⟩]⟩, [.ptr 2 0, .ptr 3 0, .ptr 4 0, .t (.int .i64), .t (.int .i64)], [.blk 25 [.nil, .t (.int .i64), .nil], .blk 32 [.t (.int .i64), .t (.int .i64), .t .str], .blk 25 [.oslc 20200, .t (.int .i64), .oslc 20202], .row 3 (.int .i64), .row 38 (.st 1038)]⟩⟩]
def qab_b3 : Code := (nthLoop (bodyOf Tryd.f14) 0)
def qab_rec3 (rec : List UInt8 → Int → Int → Int → Int → Int → List UInt8 → Int → List (Int) → List (ACode) → Option ((Int × Int × Int × (List UInt8)) ⊕ (Int × Int × Int × Int × Int × (List UInt8) × Int × (List (Int)) × (List (ACode))))) : List (TV U) → Option ((Int × Int × Int × (List UInt8)) ⊕ (Int × Int × Int × Int × Int × (List UInt8) × Int × (List (Int)) × (List (ACode))))
  | [⟨.str, a0⟩, ⟨(.int .i64), a1⟩, ⟨(.int .i64), a2⟩, ⟨(.int .i64), a3⟩, ⟨(.int .i64), a4⟩, ⟨(.int .i64), a5⟩, ⟨.str, a6⟩, ⟨(.int .i64), a7⟩, ⟨(.slc (.int .i64)), a8⟩, ⟨(.slc (.st 1038)), a9⟩] => rec a0 a1 a2 a3 a4 a5 a6 a7 a8 a9
  | _ => none
def qab_enc3 : Nat → List (TV U) → Option ((Int × Int × Int × (List UInt8)) ⊕ (Int × Int × Int × Int × Int × (List UInt8) × Int × (List (Int)) × (List (ACode))))
  | 0, [⟨(.int .i64), a0⟩, ⟨(.int .i64), a1⟩, ⟨(.int .i64), a2⟩, ⟨.str, a3⟩] => some (.inl (a0, a1, a2, a3))
  | 1, [⟨(.int .i64), a0⟩, ⟨(.int .i64), a1⟩, ⟨(.int .i64), a2⟩, ⟨(.int .i64), a3⟩, ⟨(.int .i64), a4⟩, ⟨.str, a5⟩, ⟨(.int .i64), a6⟩, ⟨(.slc (.int .i64)), a7⟩, ⟨(.slc (.st 1038)), a8⟩] => some (.inr (a0, a1, a2, a3, a4, a5, a6, a7, a8))
  | _, _ => none
def qab_dec3 : (Int × Int × Int × (List UInt8)) ⊕ (Int × Int × Int × Int × Int × (List UInt8) × Int × (List (Int)) × (List (ACode))) → Nat × List (TV U) := fun r => match r with | (.inl x) => (0, [⟨(.int .i64), x.1⟩, ⟨(.int .i64), x.2.1⟩, ⟨(.int .i64), x.2.2.1⟩, ⟨.str, x.2.2.2⟩]) | (.inr x) => (1, [⟨(.int .i64), x.1⟩, ⟨(.int .i64), x.2.1⟩, ⟨(.int .i64), x.2.2.1⟩, ⟨(.int .i64), x.2.2.2.1⟩, ⟨(.int .i64), x.2.2.2.2.1⟩, ⟨.str, x.2.2.2.2.2.1⟩, ⟨(.int .i64), x.2.2.2.2.2.2.1⟩, ⟨(.slc (.int .i64)), x.2.2.2.2.2.2.2.1⟩, ⟨(.slc (.st 1038)), x.2.2.2.2.2.2.2.2⟩])
def qab_tr3 : (Int × Int × Int × (List UInt8)) ⊕ (Int × Int × Int × Int × Int × (List UInt8) × Int × (List (Int)) × (List (ACode))) → Tr (Nat × List (TV U)) := fun r => .alt r (fun x => .ret (0, [⟨(.int .i64), x.1⟩, ⟨(.int .i64), x.2.1⟩, ⟨(.int .i64), x.2.2.1⟩, ⟨.str, x.2.2.2⟩])) (fun y => (fun x => .ret (1, [⟨(.int .i64), x.1⟩, ⟨(.int .i64), x.2.1⟩, ⟨(.int .i64), x.2.2.1⟩, ⟨(.int .i64), x.2.2.2.1⟩, ⟨(.int .i64), x.2.2.2.2.1⟩, ⟨.str, x.2.2.2.2.2.1⟩, ⟨(.int .i64), x.2.2.2.2.2.2.1⟩, ⟨(.slc (.int .i64)), x.2.2.2.2.2.2.2.1⟩, ⟨(.slc (.st 1038)), x.2.2.2.2.2.2.2.2⟩])) y)
def qab_lp3 : Lift.Loop U := ⟨qab_sh3, qab_o3, fun ls => .get (qab_rec3 qab_l3 ls) qab_tr3⟩
theorem qab_ok3 : LoopR kk env0 Tryd.f14.ntmps qab_b3 qab_lp3 :=
  loop_of qab_enc3 qab_dec3 (fun n => qab_rec3 (qab_i3 n)) (kitOk_of eqOk mixed known23) (L := noL) (loopsOk_of (bs := []) (by kernel_rfl) trivial) (by intro r; rcases r with r | r <;> rfl) (by intro i qs r h; unfold qab_enc3 at h; split at h <;> cases h <;> rfl)
    (by intro ls r h; unfold qab_rec3 at h; split at h <;> cases h)
    (by intro n ls r h; unfold qab_rec3 at h; split at h; exact (show _ = qab_t3 (qab_i3 n) _ _ _ _ _ _ _ _ _ _ from by kernel_rfl).trans h; cases h) (by rw [qab_l3, sealF_eq])
def qab_sh : StSh := ⟨⟨[0], [], []⟩, [.t .str], []⟩
def qab_os : List StSh := [⟨⟨[0, 1], [], [⟨.sub 0 0, 100100, 3, (.int .i64)⟩, ⟨.sub 0 2, 100300, 38, (.st 1038)⟩]⟩, [.agg [.oslc 100100, .t (.int .i64), .oslc 100300], .t (.st 32)], [.row 3 (.int .i64), .row 38 (.st 1038)]⟩]
def qab_tr : Int × Fault × (List (Int)) × (List (ACode)) → Tr (Nat × List (TV U)) := fun x => .ret (0, [⟨(.int .i64), x.1⟩, ⟨(.st 32), x.2.1⟩, ⟨(.slc (.int .i64)), x.2.2.1⟩, ⟨(.slc (.st 1038)), x.2.2.2⟩])
def qab_L : Nat → Option (Lift.Loop U) := fun n => bif Nat.beq n 3 then some qab_lp3 else none
def qab_enc : Nat → List (TV U) → Option (Int × Fault × (List (Int)) × (List (ACode)))
  | 0, [⟨(.int .i64), a0⟩, ⟨(.st 32), a1⟩, ⟨(.slc (.int .i64)), a2⟩, ⟨(.slc (.st 1038)), a3⟩] => some (a0, a1, a2, a3)
  | _, _ => none
def qab_dec : Int × Fault × (List (Int)) × (List (ACode)) → Nat × List (TV U) := fun x => (0, [⟨(.int .i64), x.1⟩, ⟨(.st 32), x.2.1⟩, ⟨(.slc (.int .i64)), x.2.2.1⟩, ⟨(.slc (.st 1038)), x.2.2.2⟩])
def qab_in : List (TV U) → Option (Int × Fault × (List (Int)) × (List (ACode)))
  | [⟨.str, a0⟩] => qab a0
  | _ => none
def qab_md : Mode U := ⟨qab_sh, [], qab_os, fun ls => .get (qab_in ls) qab_tr⟩
theorem qab_post : ModeOk kk env0 14 qab_md :=
  fn_of (fn := Tryd.f14) qab_enc qab_dec (kitOk_of eqOk mixed known23) (by kernel_rfl) (L := qab_L) (loopsOk_of (bs := [qab_b3]) (by kernel_rfl) ⟨.inr ⟨_, by kernel_rfl, LoopOk.of_round (qab_ok3)⟩, trivial⟩) (fun _ => rfl) (by intro i qs r h; unfold qab_enc at h; split at h <;> cases h <;> rfl)
    (by intro ls r h; unfold qab_in at h; split at h; rw [qab, sealF_eq] at h; exact Eq.trans (by kernel_rfl) h; cases h)
def ms24 : List (FuncId × Mode U) := (14, qab_md) :: ms23
theorem known24 : Known kk env0 (modesOf ms24) := known_cons (by kernel_rfl) qab_post known23
def qap_sh4 : StSh := ⟨⟨[2, 3, 5], [2, 3], []⟩, [.ptr 2 0, .ptr 3 0, .t (.int .i64)], [.blk 25 [.t (.slc (.int .i64)), .t (.int .i64), .t (.slc (.st 38))], .blk 25 [.t (.slc (.int .i64)), .t (.int .i64), .t (.slc (.st 38))]]⟩
def qap_o4 : List Out := [⟨.ret, ⟨⟨[4], [], []⟩, [.t .bool], []⟩⟩, ⟨.exit 0, ⟨⟨[2, 3], [2, 3], []⟩, [.ptr 2 0, .ptr 3 0], [.blk 25 [.t (.slc (.int .i64)), .t (.int .i64), .t (.slc (.st 38))], .blk 25 [.t (.slc (.int .i64)), .t (.int .i64), .t (.slc (.st 38))]]⟩⟩]
def qap_b4 : Code := (nthLoop (bodyOf Tryd.f15) 0)
def qap_rec4 (rec : Int → List (Int) → Int → List (ACode) → List (Int) → Int → List (ACode) → Option ((Bool) ⊕ ((List (Int)) × Int × (List (ACode)) × (List (Int)) × Int × (List (ACode))))) : List (TV U) → Option ((Bool) ⊕ ((List (Int)) × Int × (List (ACode)) × (List (Int)) × Int × (List (ACode))))
  | [⟨(.int .i64), a0⟩, ⟨(.slc (.int .i64)), a1⟩, ⟨(.int .i64), a2⟩, ⟨(.slc (.st 38)), a3⟩, ⟨(.slc (.int .i64)), a4⟩, ⟨(.int .i64), a5⟩, ⟨(.slc (.st 38)), a6⟩] => rec a0 a1 a2 a3 a4 a5 a6
  | _ => none
def qap_enc4 : Nat → List (TV U) → Option ((Bool) ⊕ ((List (Int)) × Int × (List (ACode)) × (List (Int)) × Int × (List (ACode))))
  | 0, [⟨.bool, a0⟩] => some (.inl a0)
  | 1, [⟨(.slc (.int .i64)), a0⟩, ⟨(.int .i64), a1⟩, ⟨(.slc (.st 38)), a2⟩, ⟨(.slc (.int .i64)), a3⟩, ⟨(.int .i64), a4⟩, ⟨(.slc (.st 38)), a5⟩] => some (.inr (a0, a1, a2, a3, a4, a5))
  | _, _ => none
def qap_dec4 : (Bool) ⊕ ((List (Int)) × Int × (List (ACode)) × (List (Int)) × Int × (List (ACode))) → Nat × List (TV U) := fun r => match r with | (.inl x) => (0, [⟨.bool, x⟩]) | (.inr x) => (1, [⟨(.slc (.int .i64)), x.1⟩, ⟨(.int .i64), x.2.1⟩, ⟨(.slc (.st 38)), x.2.2.1⟩, ⟨(.slc (.int .i64)), x.2.2.2.1⟩, ⟨(.int .i64), x.2.2.2.2.1⟩, ⟨(.slc (.st 38)), x.2.2.2.2.2⟩])
def qap_tr4 : (Bool) ⊕ ((List (Int)) × Int × (List (ACode)) × (List (Int)) × Int × (List (ACode))) → Tr (Nat × List (TV U)) := fun r => .alt r (fun x => .ret (0, [⟨.bool, x⟩])) (fun y => (fun x => .ret (1, [⟨(.slc (.int .i64)), x.1⟩, ⟨(.int .i64), x.2.1⟩, ⟨(.slc (.st 38)), x.2.2.1⟩, ⟨(.slc (.int .i64)), x.2.2.2.1⟩, ⟨(.int .i64), x.2.2.2.2.1⟩, ⟨(.slc (.st 38)), x.2.2.2.2.2⟩])) y)
def qap_lp4 : Lift.Loop U := ⟨qap_sh4, qap_o4, fun ls => .get (qap_rec4 qap_l4 ls) qap_tr4⟩
theorem qap_ok4 : LoopR kk env0 Tryd.f15.ntmps qap_b4 qap_lp4 :=
  loop_of qap_enc4 qap_dec4 (fun n => qap_rec4 (qap_i4 n)) (kitOk_of eqOk mixed known24) (L := jnL) (loopsOk_of (bs := []) (by kernel_rfl) trivial) (by intro r; rcases r with r | r <;> rfl) (by intro i qs r h; unfold qap_enc4 at h; split at h <;> cases h <;> rfl)
    (by intro ls r h; unfold qap_rec4 at h; split at h <;> cases h)
    (by intro n ls r h; unfold qap_rec4 at h; split at h; exact (show _ = qap_t4 (qap_i4 n) _ _ _ _ _ _ _ from by kernel_rfl).trans h; cases h) (by rw [qap_l4, sealF_eq])
def qap_sh16 : StSh := ⟨⟨[2, 3, 6, 7, 8, 9], [2, 3, 7, 8], []⟩, [.ptr 2 0, .ptr 3 0, .t (.int .i64), .ptr 7 0, .ptr 8 0, .t (.int .i64)], [.blk 25 [.t (.slc (.int .i64)), .t (.int .i64), .t (.slc (.st 38))], .blk 25 [.t (.slc (.int .i64)), .t (.int .i64), .t (.slc (.st 38))], .blk 38 [.t (.int .i64), .t (.slc (.st 40))], .blk 38 [.t (.int .i64), .t (.slc (.st 40))]]⟩
def qap_o16 : List Out := [⟨.ret, ⟨⟨[4], [], []⟩, [.t .bool], []⟩⟩, ⟨.exit 4, ⟨⟨[2, 3, 6], [2, 3], []⟩, [.ptr 2 0, .ptr 3 0, .t (.int .i64)], [.blk 25 [.t (.slc (.int .i64)), .t (.int .i64), .t (.slc (.st 38))], .blk 25 [.t (.slc (.int .i64)), .t (.int .i64), .t (.slc (.st 38))]]⟩⟩]
def qap_b16 : Code := (nthLoop (nthLoop (bodyOf Tryd.f15) 1) 0)
def qap_rec16 (rec : Int → Int → List (Int) → Int → List (ACode) → List (Int) → Int → List (ACode) → Int → List (Instr) → Int → List (Instr) → Option ((Bool) ⊕ (Int × (List (Int)) × Int × (List (ACode)) × (List (Int)) × Int × (List (ACode))))) : List (TV U) → Option ((Bool) ⊕ (Int × (List (Int)) × Int × (List (ACode)) × (List (Int)) × Int × (List (ACode))))
  | [⟨(.int .i64), a0⟩, ⟨(.int .i64), a1⟩, ⟨(.slc (.int .i64)), a2⟩, ⟨(.int .i64), a3⟩, ⟨(.slc (.st 38)), a4⟩, ⟨(.slc (.int .i64)), a5⟩, ⟨(.int .i64), a6⟩, ⟨(.slc (.st 38)), a7⟩, ⟨(.int .i64), a8⟩, ⟨(.slc (.st 40)), a9⟩, ⟨(.int .i64), a10⟩, ⟨(.slc (.st 40)), a11⟩] => rec a0 a1 a2 a3 a4 a5 a6 a7 a8 a9 a10 a11
  | _ => none
def qap_enc16 : Nat → List (TV U) → Option ((Bool) ⊕ (Int × (List (Int)) × Int × (List (ACode)) × (List (Int)) × Int × (List (ACode))))
  | 0, [⟨.bool, a0⟩] => some (.inl a0)
  | 1, [⟨(.int .i64), a0⟩, ⟨(.slc (.int .i64)), a1⟩, ⟨(.int .i64), a2⟩, ⟨(.slc (.st 38)), a3⟩, ⟨(.slc (.int .i64)), a4⟩, ⟨(.int .i64), a5⟩, ⟨(.slc (.st 38)), a6⟩] => some (.inr (a0, a1, a2, a3, a4, a5, a6))
  | _, _ => none
def qap_dec16 : (Bool) ⊕ (Int × (List (Int)) × Int × (List (ACode)) × (List (Int)) × Int × (List (ACode))) → Nat × List (TV U) := fun r => match r with | (.inl x) => (0, [⟨.bool, x⟩]) | (.inr x) => (1, [⟨(.int .i64), x.1⟩, ⟨(.slc (.int .i64)), x.2.1⟩, ⟨(.int .i64), x.2.2.1⟩, ⟨(.slc (.st 38)), x.2.2.2.1⟩, ⟨(.slc (.int .i64)), x.2.2.2.2.1⟩, ⟨(.int .i64), x.2.2.2.2.2.1⟩, ⟨(.slc (.st 38)), x.2.2.2.2.2.2⟩])
def qap_tr16 : (Bool) ⊕ (Int × (List (Int)) × Int × (List (ACode)) × (List (Int)) × Int × (List (ACode))) → Tr (Nat × List (TV U)) := fun r => .alt r (fun x => .ret (0, [⟨.bool, x⟩])) (fun y => (fun x => .ret (1, [⟨(.int .i64), x.1⟩, ⟨(.slc (.int .i64)), x.2.1⟩, ⟨(.int .i64), x.2.2.1⟩, ⟨(.slc (.st 38)), x.2.2.2.1⟩, ⟨(.slc (.int .i64)), x.2.2.2.2.1⟩, ⟨(.int .i64), x.2.2.2.2.2.1⟩, ⟨(.slc (.st 38)), x.2.2.2.2.2.2⟩])) y)
def qap_lp16 : Lift.Loop U := ⟨qap_sh16, qap_o16, fun ls => .get (qap_rec16 qap_l16 ls) qap_tr16⟩
theorem qap_ok16 : LoopR kk env0 Tryd.f15.ntmps qap_b16 qap_lp16 :=
  loop_of qap_enc16 qap_dec16 (fun n => qap_rec16 (qap_i16 n)) (kitOk_of eqOk mixed known24) (L := jnL) (loopsOk_of (bs := []) (by kernel_rfl) trivial) (by intro r; rcases r with r | r <;> rfl) (by intro i qs r h; unfold qap_enc16 at h; split at h <;> cases h <;> rfl)
    (by intro ls r h; unfold qap_rec16 at h; split at h <;> cases h)
    (by intro n ls r h; unfold qap_rec16 at h; split at h; exact (show _ = qap_t16 (qap_i16 n) _ _ _ _ _ _ _ _ _ _ _ _ from by kernel_rfl).trans h; cases h) (by rw [qap_l16, sealF_eq])
def qap_sh9 : StSh := ⟨⟨[2, 3, 6], [2, 3], []⟩, [.ptr 2 0, .ptr 3 0, .t (.int .i64)], [.blk 25 [.t (.slc (.int .i64)), .t (.int .i64), .t (.slc (.st 38))], .blk 25 [.t (.slc (.int .i64)), .t (.int .i64), .t (.slc (.st 38))]]⟩
def qap_o9 : List Out := [⟨.ret, ⟨⟨[4], [], []⟩, [.t .bool], []⟩⟩, ⟨.exit 2, ⟨⟨[], [], []⟩, [], []⟩⟩]
def qap_b9 : Code := (nthLoop (bodyOf Tryd.f15) 1)
def qap_L9 : Nat → Option (Lift.Loop U) := fun n => bif Nat.beq n joinKey then some joinMark else bif Nat.beq n 16 then some qap_lp16 else none
def qap_rec9 (rec : Int → List (Int) → Int → List (ACode) → List (Int) → Int → List (ACode) → Option ((Bool) ⊕ (Unit))) : List (TV U) → Option ((Bool) ⊕ (Unit))
  | [⟨(.int .i64), a0⟩, ⟨(.slc (.int .i64)), a1⟩, ⟨(.int .i64), a2⟩, ⟨(.slc (.st 38)), a3⟩, ⟨(.slc (.int .i64)), a4⟩, ⟨(.int .i64), a5⟩, ⟨(.slc (.st 38)), a6⟩] => rec a0 a1 a2 a3 a4 a5 a6
  | _ => none
def qap_enc9 : Nat → List (TV U) → Option ((Bool) ⊕ (Unit))
  | 0, [⟨.bool, a0⟩] => some (.inl a0)
  | 1, [] => some (.inr ())
  | _, _ => none
def qap_dec9 : (Bool) ⊕ (Unit) → Nat × List (TV U) := fun r => match r with | (.inl x) => (0, [⟨.bool, x⟩]) | (.inr x) => (1, [])
def qap_tr9 : (Bool) ⊕ (Unit) → Tr (Nat × List (TV U)) := fun r => .alt r (fun x => .ret (0, [⟨.bool, x⟩])) (fun y => (fun x => .ret (1, [])) y)
def qap_lp9 : Lift.Loop U := ⟨qap_sh9, qap_o9, fun ls => .get (qap_rec9 qap_l9 ls) qap_tr9⟩
theorem qap_ok9 : LoopR kk env0 Tryd.f15.ntmps qap_b9 qap_lp9 :=
  loop_of qap_enc9 qap_dec9 (fun n => qap_rec9 (qap_i9 n)) (kitOk_of eqOk mixed known24) (L := qap_L9) (loopsOk_of (bs := [qap_b16]) (by kernel_rfl) ⟨.inr ⟨_, by kernel_rfl, LoopOk.of_round (qap_ok16)⟩, trivial⟩) (by intro r; rcases r with r | r <;> rfl) (by intro i qs r h; unfold qap_enc9 at h; split at h <;> cases h <;> rfl)
    (by intro ls r h; unfold qap_rec9 at h; split at h <;> cases h)
    (by intro n ls r h; unfold qap_rec9 at h; split at h; exact (show _ = qap_t9 (qap_i9 n) _ _ _ _ _ _ _ from by kernel_rfl).trans h; cases h) (by rw [qap_l9, sealF_eq])
def qap_sh : StSh := ⟨⟨[0, 1], [], []⟩, [.t (.st 25), .t (.st 25)], []⟩
def qap_os : List StSh := [⟨⟨[0], [], []⟩, [.t .bool], []⟩]
def qap_tr : Bool → Tr (Nat × List (TV U)) := fun x => .ret (0, [⟨.bool, x⟩])
def qap_L : Nat → Option (Lift.Loop U) := fun n => bif Nat.beq n joinKey then some joinMark else bif Nat.beq n 4 then some qap_lp4 else bif Nat.beq n 9 then some qap_lp9 else none
def qap_enc : Nat → List (TV U) → Option (Bool)
  | 0, [⟨.bool, a0⟩] => some a0
  | _, _ => none
def qap_dec : Bool → Nat × List (TV U) := fun x => (0, [⟨.bool, x⟩])
def qap_in : List (TV U) → Option (Bool)
  | [⟨(.st 25), a0⟩, ⟨(.st 25), a1⟩] => qap a0 a1
  | _ => none
def qap_md : Mode U := ⟨qap_sh, [], qap_os, fun ls => .get (qap_in ls) qap_tr⟩
theorem qap_post : ModeOk kk env0 15 qap_md :=
  fn_of (fn := Tryd.f15) qap_enc qap_dec (kitOk_of eqOk mixed known24) (by kernel_rfl) (L := qap_L) (loopsOk_of (bs := [qap_b4, qap_b9]) (by kernel_rfl) ⟨.inr ⟨_, by kernel_rfl, LoopOk.of_round (qap_ok4)⟩, .inr ⟨_, by kernel_rfl, LoopOk.of_round (qap_ok9)⟩, trivial⟩) (fun _ => rfl) (by intro i qs r h; unfold qap_enc at h; split at h <;> cases h <;> rfl)
    (by intro ls r h; unfold qap_in at h; split at h; rw [qap, sealF_eq] at h; exact Eq.trans (by kernel_rfl) h; cases h)
def ms25 : List (FuncId × Mode U) := (15, qap_md) :: ms24
theorem known25 : Known kk env0 (modesOf ms25) := known_cons (by kernel_rfl) qap_post known24
def qao_sh : StSh := ⟨⟨[], [], []⟩, [], []⟩
def qao_os : List StSh := [⟨⟨[0], [], []⟩, [.t .bool], []⟩]
def qao_tr : Bool → Tr (Nat × List (TV U)) := fun x => .ret (0, [⟨.bool, x⟩])
def qao_enc : Nat → List (TV U) → Option (Bool)
  | 0, [⟨.bool, a0⟩] => some a0
  | _, _ => none
def qao_dec : Bool → Nat × List (TV U) := fun x => (0, [⟨.bool, x⟩])
def qao_in : List (TV U) → Option (Bool)
  | [] => qao
  | _ => none
def qao_md : Mode U := ⟨qao_sh, [], qao_os, fun ls => .get (qao_in ls) qao_tr⟩
theorem qao_post : ModeOk kk env0 8 qao_md :=
  fn_of (fn := Tryd.f8) qao_enc qao_dec (kitOk_of eqOk mixed known25) (by kernel_rfl) (L := jnL) (loopsOk_of (bs := []) (by kernel_rfl) trivial) (fun _ => rfl) (by intro i qs r h; unfold qao_enc at h; split at h <;> cases h <;> rfl)
    (by intro ls r h; unfold qao_in at h; split at h; rw [qao, sealF_eq] at h; exact Eq.trans (by kernel_rfl) h; cases h)
def ms26 : List (FuncId × Mode U) := (8, qao_md) :: ms25
theorem known26 : Known kk env0 (modesOf ms26) := known_cons (by kernel_rfl) qao_post known25
def qav_sh : StSh := ⟨⟨[0], [], []⟩, [.t (.int .i64)], []⟩
def qav_os : List StSh := [⟨⟨[0, 1], [], []⟩, [.t .str, .t .str], []⟩]
def qav_tr : (List UInt8) × (List UInt8) → Tr (Nat × List (TV U)) := fun x => .ret (0, [⟨.str, x.1⟩, ⟨.str, x.2⟩])
def qav_enc : Nat → List (TV U) → Option ((List UInt8) × (List UInt8))
  | 0, [⟨.str, a0⟩, ⟨.str, a1⟩] => some (a0, a1)
  | _, _ => none
def qav_dec : (List UInt8) × (List UInt8) → Nat × List (TV U) := fun x => (0, [⟨.str, x.1⟩, ⟨.str, x.2⟩])
def qav_in : List (TV U) → Option ((List UInt8) × (List UInt8))
  | [⟨(.int .i64), a0⟩] => qav a0
  | _ => none
def qav_md : Mode U := ⟨qav_sh, [], qav_os, fun ls => .get (qav_in ls) qav_tr⟩
theorem qav_post : ModeOk kk env0 20 qav_md :=
  fn_of (fn := Tryd.f20) qav_enc qav_dec (kitOk_of eqOk mixed known26) (by kernel_rfl) (L := jnL) (loopsOk_of (bs := []) (by kernel_rfl) trivial) (fun _ => rfl) (by intro i qs r h; unfold qav_enc at h; split at h <;> cases h <;> rfl)
    (by intro ls r h; unfold qav_in at h; split at h; rw [qav, sealF_eq] at h; exact Eq.trans (by kernel_rfl) h; cases h)
def ms27 : List (FuncId × Mode U) := (20, qav_md) :: ms26
theorem known27 : Known kk env0 (modesOf ms27) := known_cons (by kernel_rfl) qav_post known26
def qau_sh : StSh := ⟨⟨[0, 1, 2, 3], [], []⟩, [.t (.int .i64), .t (.int .u8), .t (.st 25), .t (.st 38)], []⟩
def qau_os : List StSh := [⟨⟨[0], [], []⟩, [.t .bool], []⟩]
def qau_tr : Bool → Tr (Nat × List (TV U)) := fun x => .ret (0, [⟨.bool, x⟩])
def qau_enc : Nat → List (TV U) → Option (Bool)
  | 0, [⟨.bool, a0⟩] => some a0
  | _, _ => none
def qau_dec : Bool → Nat × List (TV U) := fun x => (0, [⟨.bool, x⟩])
def qau_in : List (TV U) → Option (Bool)
  | [⟨(.int .i64), a0⟩, ⟨(.int .u8), a1⟩, ⟨(.st 25), a2⟩, ⟨(.st 38), a3⟩] => qau a0 a1 a2 a3
  | _ => none
def qau_md : Mode U := ⟨qau_sh, [], qau_os, fun ls => .get (qau_in ls) qau_tr⟩
theorem qau_post : ModeOk kk env0 28 qau_md :=
  fn_of (fn := Tryd.f28) qau_enc qau_dec (kitOk_of eqOk mixed known27) (by kernel_rfl) (L := jnL) (loopsOk_of (bs := []) (by kernel_rfl) trivial) (fun _ => rfl) (by intro i qs r h; unfold qau_enc at h; split at h <;> cases h <;> rfl)
    (by intro ls r h; unfold qau_in at h; split at h; rw [qau, sealF_eq] at h; exact Eq.trans (by kernel_rfl) h; cases h)
def ms28 : List (FuncId × Mode U) := (28, qau_md) :: ms27
theorem known28 : Known kk env0 (modesOf ms28) := known_cons (by kernel_rfl) qau_post known27
def qat_sh5 : StSh := ⟨⟨[2, 3, 5, 6], [2, 3], []⟩, [.ptr 2 0, .ptr 3 0, .t (.int .i64), .t (.int .i64)], [.blk 25 [.t (.slc (.int .i64)), .t (.int .i64), .t (.slc (.st 38))], .blk 38 [.t (.int .i64), .t (.slc (.st 40))]]⟩
def qat_o5 : List Out := [⟨.ret, ⟨⟨[4], [], []⟩, [.t .bool], []⟩⟩, ⟨.exit 0, ⟨⟨[], [], []⟩, [], []⟩⟩]
def qat_b5 : Code := (nthLoop (bodyOf Tryd.f16) 0)
def qat_rec5 (rec : Int → Int → List (Int) → Int → List (ACode) → Int → List (Instr) → Option ((Bool) ⊕ (Unit))) : List (TV U) → Option ((Bool) ⊕ (Unit))
  | [⟨(.int .i64), a0⟩, ⟨(.int .i64), a1⟩, ⟨(.slc (.int .i64)), a2⟩, ⟨(.int .i64), a3⟩, ⟨(.slc (.st 38)), a4⟩, ⟨(.int .i64), a5⟩, ⟨(.slc (.st 40)), a6⟩] => rec a0 a1 a2 a3 a4 a5 a6
  | _ => none
def qat_enc5 : Nat → List (TV U) → Option ((Bool) ⊕ (Unit))
  | 0, [⟨.bool, a0⟩] => some (.inl a0)
  | 1, [] => some (.inr ())
  | _, _ => none
def qat_dec5 : (Bool) ⊕ (Unit) → Nat × List (TV U) := fun r => match r with | (.inl x) => (0, [⟨.bool, x⟩]) | (.inr x) => (1, [])
def qat_tr5 : (Bool) ⊕ (Unit) → Tr (Nat × List (TV U)) := fun r => .alt r (fun x => .ret (0, [⟨.bool, x⟩])) (fun y => (fun x => .ret (1, [])) y)
def qat_lp5 : Lift.Loop U := ⟨qat_sh5, qat_o5, fun ls => .get (qat_rec5 qat_l5 ls) qat_tr5⟩
theorem qat_ok5 : LoopR kk env0 Tryd.f16.ntmps qat_b5 qat_lp5 :=
  loop_of qat_enc5 qat_dec5 (fun n => qat_rec5 (qat_i5 n)) (kitOk_of eqOk mixed known28) (L := jnL) (loopsOk_of (bs := []) (by kernel_rfl) trivial) (by intro r; rcases r with r | r <;> rfl) (by intro i qs r h; unfold qat_enc5 at h; split at h <;> cases h <;> rfl)
    (by intro ls r h; unfold qat_rec5 at h; split at h <;> cases h)
    (by intro n ls r h; unfold qat_rec5 at h; split at h; exact (show _ = qat_t5 (qat_i5 n) _ _ _ _ _ _ _ from by kernel_rfl).trans h; cases h) (by rw [qat_l5, sealF_eq])
def qat_sh : StSh := ⟨⟨[0, 1], [], []⟩, [.t (.st 25), .t (.st 38)], []⟩
def qat_os : List StSh := [⟨⟨[0], [], []⟩, [.t .bool], []⟩]
def qat_tr : Bool → Tr (Nat × List (TV U)) := fun x => .ret (0, [⟨.bool, x⟩])
def qat_L : Nat → Option (Lift.Loop U) := fun n => bif Nat.beq n joinKey then some joinMark else bif Nat.beq n 5 then some qat_lp5 else none
def qat_enc : Nat → List (TV U) → Option (Bool)
  | 0, [⟨.bool, a0⟩] => some a0
  | _, _ => none
def qat_dec : Bool → Nat × List (TV U) := fun x => (0, [⟨.bool, x⟩])
def qat_in : List (TV U) → Option (Bool)
  | [⟨(.st 25), a0⟩, ⟨(.st 38), a1⟩] => qat a0 a1
  | _ => none
def qat_md : Mode U := ⟨qat_sh, [], qat_os, fun ls => .get (qat_in ls) qat_tr⟩
theorem qat_post : ModeOk kk env0 16 qat_md :=
  fn_of (fn := Tryd.f16) qat_enc qat_dec (kitOk_of eqOk mixed known28) (by kernel_rfl) (L := qat_L) (loopsOk_of (bs := [qat_b5]) (by kernel_rfl) ⟨.inr ⟨_, by kernel_rfl, LoopOk.of_round (qat_ok5)⟩, trivial⟩) (fun _ => rfl) (by intro i qs r h; unfold qat_enc at h; split at h <;> cases h <;> rfl)
    (by intro ls r h; unfold qat_in at h; split at h; rw [qat, sealF_eq] at h; exact Eq.trans (by kernel_rfl) h; cases h)
def ms29 : List (FuncId × Mode U) := (16, qat_md) :: ms28
theorem known29 : Known kk env0 (modesOf ms29) := known_cons (by kernel_rfl) qat_post known28
def qas_sh4 : StSh := ⟨⟨[1, 3], [1], []⟩, [.ptr 1 0, .t (.int .i64)], [.blk 25 [.t (.slc (.int .i64)), .t (.int .i64), .t (.slc (.st 38))]]⟩
def qas_o4 : List Out := [⟨.ret, ⟨⟨[2], [], []⟩, [.t .bool], []⟩⟩, ⟨.exit 0, ⟨⟨[1], [1], []⟩, [.ptr 1 0], [.blk 25 [.t (.slc (.int .i64)), .t (.int .i64), .t (.slc (.st 38))]]⟩⟩]
def qas_b4 : Code := (nthLoop (bodyOf Tryd.f9) 0)
def qas_rec4 (rec : Int → List (Int) → Int → List (ACode) → Option ((Bool) ⊕ ((List (Int)) × Int × (List (ACode))))) : List (TV U) → Option ((Bool) ⊕ ((List (Int)) × Int × (List (ACode))))
  | [⟨(.int .i64), a0⟩, ⟨(.slc (.int .i64)), a1⟩, ⟨(.int .i64), a2⟩, ⟨(.slc (.st 38)), a3⟩] => rec a0 a1 a2 a3
  | _ => none
def qas_enc4 : Nat → List (TV U) → Option ((Bool) ⊕ ((List (Int)) × Int × (List (ACode))))
  | 0, [⟨.bool, a0⟩] => some (.inl a0)
  | 1, [⟨(.slc (.int .i64)), a0⟩, ⟨(.int .i64), a1⟩, ⟨(.slc (.st 38)), a2⟩] => some (.inr (a0, a1, a2))
  | _, _ => none
def qas_dec4 : (Bool) ⊕ ((List (Int)) × Int × (List (ACode))) → Nat × List (TV U) := fun r => match r with | (.inl x) => (0, [⟨.bool, x⟩]) | (.inr x) => (1, [⟨(.slc (.int .i64)), x.1⟩, ⟨(.int .i64), x.2.1⟩, ⟨(.slc (.st 38)), x.2.2⟩])
def qas_tr4 : (Bool) ⊕ ((List (Int)) × Int × (List (ACode))) → Tr (Nat × List (TV U)) := fun r => .alt r (fun x => .ret (0, [⟨.bool, x⟩])) (fun y => (fun x => .ret (1, [⟨(.slc (.int .i64)), x.1⟩, ⟨(.int .i64), x.2.1⟩, ⟨(.slc (.st 38)), x.2.2⟩])) y)
def qas_lp4 : Lift.Loop U := ⟨qas_sh4, qas_o4, fun ls => .get (qas_rec4 qas_l4 ls) qas_tr4⟩
theorem qas_ok4 : LoopR kk env0 Tryd.f9.ntmps qas_b4 qas_lp4 :=
  loop_of qas_enc4 qas_dec4 (fun n => qas_rec4 (qas_i4 n)) (kitOk_of eqOk mixed known29) (L := jnL) (loopsOk_of (bs := []) (by kernel_rfl) trivial) (by intro r; rcases r with r | r <;> rfl) (by intro i qs r h; unfold qas_enc4 at h; split at h <;> cases h <;> rfl)
    (by intro ls r h; unfold qas_rec4 at h; split at h <;> cases h)
    (by intro n ls r h; unfold qas_rec4 at h; split at h; exact (show _ = qas_t4 (qas_i4 n) _ _ _ _ from by kernel_rfl).trans h; cases h) (by rw [qas_l4, sealF_eq])
def qas_sh9 : StSh := ⟨⟨[1, 4], [1], []⟩, [.ptr 1 0, .t (.int .i64)], [.blk 25 [.t (.slc (.int .i64)), .t (.int .i64), .t (.slc (.st 38))]]⟩
def qas_o9 : List Out := [⟨.ret, ⟨⟨[2], [], []⟩, [.t .bool], []⟩⟩, ⟨.exit 2, ⟨⟨[], [], []⟩, [], []⟩⟩]
def qas_b9 : Code := (nthLoop (bodyOf Tryd.f9) 1)
def qas_rec9 (rec : Int → List (Int) → Int → List (ACode) → Option ((Bool) ⊕ (Unit))) : List (TV U) → Option ((Bool) ⊕ (Unit))
  | [⟨(.int .i64), a0⟩, ⟨(.slc (.int .i64)), a1⟩, ⟨(.int .i64), a2⟩, ⟨(.slc (.st 38)), a3⟩] => rec a0 a1 a2 a3
  | _ => none
def qas_enc9 : Nat → List (TV U) → Option ((Bool) ⊕ (Unit))
  | 0, [⟨.bool, a0⟩] => some (.inl a0)
  | 1, [] => some (.inr ())
  | _, _ => none
def qas_dec9 : (Bool) ⊕ (Unit) → Nat × List (TV U) := fun r => match r with | (.inl x) => (0, [⟨.bool, x⟩]) | (.inr x) => (1, [])
def qas_tr9 : (Bool) ⊕ (Unit) → Tr (Nat × List (TV U)) := fun r => .alt r (fun x => .ret (0, [⟨.bool, x⟩])) (fun y => (fun x => .ret (1, [])) y)
def qas_lp9 : Lift.Loop U := ⟨qas_sh9, qas_o9, fun ls => .get (qas_rec9 qas_l9 ls) qas_tr9⟩
theorem qas_ok9 : LoopR kk env0 Tryd.f9.ntmps qas_b9 qas_lp9 :=
  loop_of qas_enc9 qas_dec9 (fun n => qas_rec9 (qas_i9 n)) (kitOk_of eqOk mixed known29) (L := jnL) (loopsOk_of (bs := []) (by kernel_rfl) trivial) (by intro r; rcases r with r | r <;> rfl) (by intro i qs r h; unfold qas_enc9 at h; split at h <;> cases h <;> rfl)
    (by intro ls r h; unfold qas_rec9 at h; split at h <;> cases h)
    (by intro n ls r h; unfold qas_rec9 at h; split at h; exact (show _ = qas_t9 (qas_i9 n) _ _ _ _ from by kernel_rfl).trans h; cases h) (by rw [qas_l9, sealF_eq])
def qas_sh : StSh := ⟨⟨[0], [], []⟩, [.t (.st 25)], []⟩
def qas_os : List StSh := [⟨⟨[0], [], []⟩, [.t .bool], []⟩]
def qas_tr : Bool → Tr (Nat × List (TV U)) := fun x => .ret (0, [⟨.bool, x⟩])
def qas_L : Nat → Option (Lift.Loop U) := fun n => bif Nat.beq n joinKey then some joinMark else bif Nat.beq n 4 then some qas_lp4 else bif Nat.beq n 9 then some qas_lp9 else none
def qas_enc : Nat → List (TV U) → Option (Bool)
  | 0, [⟨.bool, a0⟩] => some a0
  | _, _ => none
def qas_dec : Bool → Nat × List (TV U) := fun x => (0, [⟨.bool, x⟩])
def qas_in : List (TV U) → Option (Bool)
  | [⟨(.st 25), a0⟩] => qas a0
  | _ => none
def qas_md : Mode U := ⟨qas_sh, [], qas_os, fun ls => .get (qas_in ls) qas_tr⟩
theorem qas_post : ModeOk kk env0 9 qas_md :=
  fn_of (fn := Tryd.f9) qas_enc qas_dec (kitOk_of eqOk mixed known29) (by kernel_rfl) (L := qas_L) (loopsOk_of (bs := [qas_b4, qas_b9]) (by kernel_rfl) ⟨.inr ⟨_, by kernel_rfl, LoopOk.of_round (qas_ok4)⟩, .inr ⟨_, by kernel_rfl, LoopOk.of_round (qas_ok9)⟩, trivial⟩) (fun _ => rfl) (by intro i qs r h; unfold qas_enc at h; split at h <;> cases h <;> rfl)
    (by intro ls r h; unfold qas_in at h; split at h; rw [qas, sealF_eq] at h; exact Eq.trans (by kernel_rfl) h; cases h)
def ms30 : List (FuncId × Mode U) := (9, qas_md) :: ms29
theorem known30 : Known kk env0 (modesOf ms30) := known_cons (by kernel_rfl) qas_post known29
def qaq_sh8 : StSh := ⟨⟨[0, 4, 5, 6], [], []⟩, [.t .str, .t .bool, .t (.int .i64), .t (.int .i64)], []⟩
def qaq_o8 : List Out := [⟨.ret, ⟨⟨[2, 3], [], []⟩, [.t (.int .i64), .t .bool], []⟩⟩, ⟨.exit 0, ⟨⟨[4, 5], [], []⟩, [.t .bool, .t (.int .i64)], []⟩⟩]
def qaq_b8 : Code := (nthLoop (bodyOf Tryd.f42) 0)
def qaq_rec8 (rec : List UInt8 → Bool → Int → Int → Option ((Int × Bool) ⊕ (Bool × Int))) : List (TV U) → Option ((Int × Bool) ⊕ (Bool × Int))
  | [⟨.str, a0⟩, ⟨.bool, a1⟩, ⟨(.int .i64), a2⟩, ⟨(.int .i64), a3⟩] => rec a0 a1 a2 a3
  | _ => none
def qaq_enc8 : Nat → List (TV U) → Option ((Int × Bool) ⊕ (Bool × Int))
  | 0, [⟨(.int .i64), a0⟩, ⟨.bool, a1⟩] => some (.inl (a0, a1))
  | 1, [⟨.bool, a0⟩, ⟨(.int .i64), a1⟩] => some (.inr (a0, a1))
  | _, _ => none
def qaq_dec8 : (Int × Bool) ⊕ (Bool × Int) → Nat × List (TV U) := fun r => match r with | (.inl x) => (0, [⟨(.int .i64), x.1⟩, ⟨.bool, x.2⟩]) | (.inr x) => (1, [⟨.bool, x.1⟩, ⟨(.int .i64), x.2⟩])
def qaq_tr8 : (Int × Bool) ⊕ (Bool × Int) → Tr (Nat × List (TV U)) := fun r => .alt r (fun x => .ret (0, [⟨(.int .i64), x.1⟩, ⟨.bool, x.2⟩])) (fun y => (fun x => .ret (1, [⟨.bool, x.1⟩, ⟨(.int .i64), x.2⟩])) y)
def qaq_lp8 : Lift.Loop U := ⟨qaq_sh8, qaq_o8, fun ls => .get (qaq_rec8 qaq_l8 ls) qaq_tr8⟩
theorem qaq_ok8 : LoopR kk env0 Tryd.f42.ntmps qaq_b8 qaq_lp8 :=
  loop_of qaq_enc8 qaq_dec8 (fun n => qaq_rec8 (qaq_i8 n)) (kitOk_of eqOk mixed known30) (L := jnL) (loopsOk_of (bs := []) (by kernel_rfl) trivial) (by intro r; rcases r with r | r <;> rfl) (by intro i qs r h; unfold qaq_enc8 at h; split at h <;> cases h <;> rfl)
    (by intro ls r h; unfold qaq_rec8 at h; split at h <;> cases h)
    (by intro n ls r h; unfold qaq_rec8 at h; split at h; exact (show _ = qaq_t8 (qaq_i8 n) _ _ _ _ from by kernel_rfl).trans h; cases h) (by rw [qaq_l8, sealF_eq])
def qaq_sh : StSh := ⟨⟨[0], [], []⟩, [.t .str], []⟩
def qaq_os : List StSh := [⟨⟨[0, 1], [], []⟩, [.t (.int .i64), .t .bool], []⟩]
def qaq_tr : Int × Bool → Tr (Nat × List (TV U)) := fun x => .ret (0, [⟨(.int .i64), x.1⟩, ⟨.bool, x.2⟩])
def qaq_L : Nat → Option (Lift.Loop U) := fun n => bif Nat.beq n joinKey then some joinMark else bif Nat.beq n 8 then some qaq_lp8 else none
def qaq_enc : Nat → List (TV U) → Option (Int × Bool)
  | 0, [⟨(.int .i64), a0⟩, ⟨.bool, a1⟩] => some (a0, a1)
  | _, _ => none
def qaq_dec : Int × Bool → Nat × List (TV U) := fun x => (0, [⟨(.int .i64), x.1⟩, ⟨.bool, x.2⟩])
def qaq_in : List (TV U) → Option (Int × Bool)
  | [⟨.str, a0⟩] => qaq a0
  | _ => none
def qaq_md : Mode U := ⟨qaq_sh, [], qaq_os, fun ls => .get (qaq_in ls) qaq_tr⟩
theorem qaq_post : ModeOk kk env0 42 qaq_md :=
  fn_of (fn := Tryd.f42) qaq_enc qaq_dec (kitOk_of eqOk mixed known30) (by kernel_rfl) (L := qaq_L) (loopsOk_of (bs := [qaq_b8]) (by kernel_rfl) ⟨.inr ⟨_, by kernel_rfl, LoopOk.of_round (qaq_ok8)⟩, trivial⟩) (fun _ => rfl) (by intro i qs r h; unfold qaq_enc at h; split at h <;> cases h <;> rfl)
    (by intro ls r h; unfold qaq_in at h; split at h; rw [qaq, sealF_eq] at h; exact Eq.trans (by kernel_rfl) h; cases h)
def ms37 : List (FuncId × Mode U) := (42, qaq_md) :: ms30
theorem known37 : Known kk env0 (modesOf ms37) := known_cons (by kernel_rfl) qaq_post known30
def qay_sh2 : StSh := ⟨⟨[0, 5], [], []⟩, [.t .str, .t (.int .i64)], []⟩
def qay_o2 : List Out := [⟨.exit 0, ⟨⟨[0, 5], [], []⟩, [.t .str, .t (.int .i64)], []⟩⟩]
def qay_b2 : Code := (nthLoop (bodyOf Tryd.f33) 0)
def qay_rec2 (rec : List UInt8 → Int → Option ((List UInt8) × Int)) : List (TV U) → Option ((List UInt8) × Int)
  | [⟨.str, a0⟩, ⟨(.int .i64), a1⟩] => rec a0 a1
  | _ => none
def qay_enc2 : Nat → List (TV U) → Option ((List UInt8) × Int)
  | 0, [⟨.str, a0⟩, ⟨(.int .i64), a1⟩] => some (a0, a1)
  | _, _ => none
def qay_dec2 : (List UInt8) × Int → Nat × List (TV U) := fun x => (0, [⟨.str, x.1⟩, ⟨(.int .i64), x.2⟩])
def qay_tr2 : (List UInt8) × Int → Tr (Nat × List (TV U)) := fun x => .ret (0, [⟨.str, x.1⟩, ⟨(.int .i64), x.2⟩])
def qay_lp2 : Lift.Loop U := ⟨qay_sh2, qay_o2, fun ls => .get (qay_rec2 qay_l2 ls) qay_tr2⟩
theorem qay_ok2 : LoopR kk env0 Tryd.f33.ntmps qay_b2 qay_lp2 :=
  loop_of qay_enc2 qay_dec2 (fun n => qay_rec2 (qay_i2 n)) (kitOk_of eqOk mixed known37) (L := jnL) (loopsOk_of (bs := []) (by kernel_rfl) trivial) (fun _ => rfl) (by intro i qs r h; unfold qay_enc2 at h; split at h <;> cases h <;> rfl)
    (by intro ls r h; unfold qay_rec2 at h; split at h <;> cases h)
    (by intro n ls r h; unfold qay_rec2 at h; split at h; exact (show _ = qay_t2 (qay_i2 n) _ _ from by kernel_rfl).trans h; cases h) (by rw [qay_l2, sealF_eq])
def qay_sh8 : StSh := ⟨⟨[0, 5, 6, 7, 8], [], [⟨.slot 7, 7, 3, (.int .i64)⟩]⟩, [.t .str, .t (.int .i64), .t .str, .oslc 7, .t (.int .i64)], [.row 3 (.int .i64)]⟩
def qay_o8 : List Out := [⟨.exit 4, ⟨⟨[0, 5, 6, 7, 8], [], [⟨.slot 7, 7, 3, (.int .i64)⟩]⟩, [.t .str, .t (.int .i64), .t .str, .oslc 7, .t (.int .i64)], [.row 3 (.int .i64)]⟩⟩]
def qay_b8 : Code := (nthLoop (nthLoop (bodyOf Tryd.f33) 1) 0)
def qay_rec8 (rec : List UInt8 → Int → List UInt8 → Int → List (Int) → Option ((List UInt8) × Int × (List UInt8) × Int × (List (Int)))) : List (TV U) → Option ((List UInt8) × Int × (List UInt8) × Int × (List (Int)))
  | [⟨.str, a0⟩, ⟨(.int .i64), a1⟩, ⟨.str, a2⟩, ⟨(.int .i64), a3⟩, ⟨(.slc (.int .i64)), a4⟩] => rec a0 a1 a2 a3 a4
  | _ => none
def qay_enc8 : Nat → List (TV U) → Option ((List UInt8) × Int × (List UInt8) × Int × (List (Int)))
  | 0, [⟨.str, a0⟩, ⟨(.int .i64), a1⟩, ⟨.str, a2⟩, ⟨(.int .i64), a3⟩, ⟨(.slc (.int .i64)), a4⟩] => some (a0, a1, a2, a3, a4)
  | _, _ => none
def qay_dec8 : (List UInt8) × Int × (List UInt8) × Int × (List (Int)) → Nat × List (TV U) := fun x => (0, [⟨.str, x.1⟩, ⟨(.int .i64), x.2.1⟩, ⟨.str, x.2.2.1⟩, ⟨(.int .i64), x.2.2.2.1⟩, ⟨(.slc (.int .i64)), x.2.2.2.2⟩])
def qay_tr8 : (List UInt8) × Int × (List UInt8) × Int × (List (Int)) → Tr (Nat × List (TV U)) := fun x => .ret (0, [⟨.str, x.1⟩, ⟨(.int .i64), x.2.1⟩, ⟨.str, x.2.2.1⟩, ⟨(.int .i64), x.2.2.2.1⟩, ⟨(.slc (.int .i64)), x.2.2.2.2⟩])
def qay_lp8 : Lift.Loop U := ⟨qay_sh8, qay_o8, fun ls => .get (qay_rec8 qay_l8 ls) qay_tr8⟩
theorem qay_ok8 : LoopR kk env0 Tryd.f33.ntmps qay_b8 qay_lp8 :=
  loop_of qay_enc8 qay_dec8 (fun n => qay_rec8 (qay_i8 n)) (kitOk_of eqOk mixed known37) (L := jnL) (loopsOk_of (bs := []) (by kernel_rfl) trivial) (fun _ => rfl) (by intro i qs r h; unfold qay_enc8 at h; split at h <;> cases h <;> rfl)
    (by intro ls r h; unfold qay_rec8 at h; split at h <;> cases h)
    (by intro n ls r h; unfold qay_rec8 at h; split at h; exact (show _ = qay_t8 (qay_i8 n) _ _ _ _ _ from by kernel_rfl).trans h; cases h) (by rw [qay_l8, sealF_eq])
def qay_sh6 : StSh := ⟨⟨[0, 5, 6, 7], [], [⟨.slot 7, 7, 3, (.int .i64)⟩]⟩, [.t .str, .t (.int .i64), .t .str, .oslc 7], [.row 3 (.int .i64)]⟩
def qay_o6 : List Out := [⟨.ret, ⟨⟨[2, 3, 4], [], [⟨.slot 3, 3, 3, (.int .i64)⟩]⟩, [.t .str, .oslc 3, .t .bool], [.row 3 (.int .i64)]⟩⟩, ⟨.exit 2, ⟨⟨[6, 7], [], [⟨.slot 7, 7, 3, (.int .i64)⟩]⟩, [.t .str, .oslc 7], [.row 3 (.int .i64)]⟩⟩]
def qay_b6 : Code := (nthLoop (bodyOf Tryd.f33) 1)
def qay_L6 : Nat → Option (Lift.Loop U) := fun n => bif Nat.beq n joinKey then some joinMark else bif Nat.beq n 8 then some qay_lp8 else none
def qay_rec6 (rec : List UInt8 → Int → List UInt8 → List (Int) → Option (((List UInt8) × Bool × (List (Int))) ⊕ ((List UInt8) × (List (Int))))) : List (TV U) → Option (((List UInt8) × Bool × (List (Int))) ⊕ ((List UInt8) × (List (Int))))
  | [⟨.str, a0⟩, ⟨(.int .i64), a1⟩, ⟨.str, a2⟩, ⟨(.slc (.int .i64)), a3⟩] => rec a0 a1 a2 a3
  | _ => none
def qay_enc6 : Nat → List (TV U) → Option (((List UInt8) × Bool × (List (Int))) ⊕ ((List UInt8) × (List (Int))))
  | 0, [⟨.str, a0⟩, ⟨.bool, a1⟩, ⟨(.slc (.int .i64)), a2⟩] => some (.inl (a0, a1, a2))
  | 1, [⟨.str, a0⟩, ⟨(.slc (.int .i64)), a1⟩] => some (.inr (a0, a1))
  | _, _ => none
def qay_dec6 : ((List UInt8) × Bool × (List (Int))) ⊕ ((List UInt8) × (List (Int))) → Nat × List (TV U) := fun r => match r with | (.inl x) => (0, [⟨.str, x.1⟩, ⟨.bool, x.2.1⟩, ⟨(.slc (.int .i64)), x.2.2⟩]) | (.inr x) => (1, [⟨.str, x.1⟩, ⟨(.slc (.int .i64)), x.2⟩])
def qay_tr6 : ((List UInt8) × Bool × (List (Int))) ⊕ ((List UInt8) × (List (Int))) → Tr (Nat × List (TV U)) := fun r => .alt r (fun x => .ret (0, [⟨.str, x.1⟩, ⟨.bool, x.2.1⟩, ⟨(.slc (.int .i64)), x.2.2⟩])) (fun y => (fun x => .ret (1, [⟨.str, x.1⟩, ⟨(.slc (.int .i64)), x.2⟩])) y)
def qay_lp6 : Lift.Loop U := ⟨qay_sh6, qay_o6, fun ls => .get (qay_rec6 qay_l6 ls) qay_tr6⟩
theorem qay_ok6 : LoopR kk env0 Tryd.f33.ntmps qay_b6 qay_lp6 :=
  loop_of qay_enc6 qay_dec6 (fun n => qay_rec6 (qay_i6 n)) (kitOk_of eqOk mixed known37) (L := qay_L6) (loopsOk_of (bs := [qay_b8]) (by kernel_rfl) ⟨.inr ⟨_, by kernel_rfl, LoopOk.of_round (qay_ok8)⟩, trivial⟩) (by intro r; rcases r with r | r <;> rfl) (by intro i qs r h; unfold qay_enc6 at h; split at h <;> cases h <;> rfl)
    (by intro ls r h; unfold qay_rec6 at h; split at h <;> cases h)
    (by intro n ls r h; unfold qay_rec6 at h; split at h; exact (show _ = qay_t6 (qay_i6 n) _ _ _ _ from by kernel_rfl).trans h; cases h) (by rw [qay_l6, sealF_eq])
def qay_sh : StSh := ⟨⟨[0], [], []⟩, [.t .str], []⟩
def qay_os : List StSh := [⟨⟨[0, 1, 2], [], [⟨.slot 1, 100001, 3, (.int .i64)⟩]⟩, [.t .str, .oslc 100001, .t .bool], [.row 3 (.int .i64)]⟩]
def qay_tr : (List UInt8) × Bool × (List (Int)) → Tr (Nat × List (TV U)) := fun x => .ret (0, [⟨.str, x.1⟩, ⟨.bool, x.2.1⟩, ⟨(.slc (.int .i64)), x.2.2⟩])
def qay_L : Nat → Option (Lift.Loop U) := fun n => bif Nat.beq n joinKey then some joinMark else bif Nat.beq n 2 then some qay_lp2 else bif Nat.beq n 6 then some qay_lp6 else none
def qay_enc : Nat → List (TV U) → Option ((List UInt8) × Bool × (List (Int)))
  | 0, [⟨.str, a0⟩, ⟨.bool, a1⟩, ⟨(.slc (.int .i64)), a2⟩] => some (a0, a1, a2)
  | _, _ => none
def qay_dec : (List UInt8) × Bool × (List (Int)) → Nat × List (TV U) := fun x => (0, [⟨.str, x.1⟩, ⟨.bool, x.2.1⟩, ⟨(.slc (.int .i64)), x.2.2⟩])
def qay_in : List (TV U) → Option ((List UInt8) × Bool × (List (Int)))
  | [⟨.str, a0⟩] => qay a0
  | _ => none
def qay_md : Mode U := ⟨qay_sh, [], qay_os, fun ls => .get (qay_in ls) qay_tr⟩
theorem qay_post : ModeOk kk env0 33 qay_md :=
  fn_of (fn := Tryd.f33) qay_enc qay_dec (kitOk_of eqOk mixed known37) (by kernel_rfl) (L := qay_L) (loopsOk_of (bs := [qay_b2, qay_b6]) (by kernel_rfl) ⟨.inr ⟨_, by kernel_rfl, LoopOk.of_round (qay_ok2)⟩, .inr ⟨_, by kernel_rfl, LoopOk.of_round (qay_ok6)⟩, trivial⟩) (fun _ => rfl) (by intro i qs r h; unfold qay_enc at h; split at h <;> cases h <;> rfl)
    (by intro ls r h; unfold qay_in at h; split at h; rw [qay, sealF_eq] at h; exact Eq.trans (by kernel_rfl) h; cases h)
def ms38 : List (FuncId × Mode U) := (33, qay_md) :: ms37
theorem known38 : Known kk env0 (modesOf ms38) := known_cons (by kernel_rfl) qay_post known37
def qaw_sh9 : StSh := ⟨⟨[1, 4, 8, 9, 10, 11], [4, 9], []⟩, [.t (.slc (.int .i64)), .ptr 4 0, .t .str, .ptr 9 0, .t (.int .i64), .t (.int .i64)], [.blk 40 [.t (.int .i64), .t (.int .i64), .t (.int .i64), .t (.int .i64)], .blk 40 [.t (.int .i64), .t (.int .i64), .t (.int .i64), .t (.int .i64)]]⟩
def qaw_o9 : List Out := [⟨.ret, ⟨⟨[4, 5], [4], []⟩, [.ptr 4 0, .t .bool], [.blk 40 [.t (.int .i64), .t (.int .i64), .t (.int .i64), .t (.int .i64)]]⟩⟩, ⟨.exit 2, ⟨⟨[1, 4, 9, 10], [4, 9], []⟩, [.t (.slc (.int .i64)), .ptr 4 0, .ptr 9 0, .t (.int .i64)], [.blk 40 [.t (.int .i64), .t (.int .i64), .t (.int .i64), .t (.int .i64)], .blk 40 [.t (.int .i64), .t (.int .i64), .t (.int .i64), .t (.int .i64)]]⟩⟩]
def qaw_b9 : Code := (nthLoop (nthLoop (bodyOf Tryd.f34) 0) 0)
def qaw_rec9 (rec : List (Int) → List UInt8 → Int → Int → Int → Int → Int → Int → Int → Int → Int → Int → Option ((Bool × Int × Int × Int × Int) ⊕ ((List (Int)) × Int × Int × Int × Int × Int × Int × Int × Int × Int))) : List (TV U) → Option ((Bool × Int × Int × Int × Int) ⊕ ((List (Int)) × Int × Int × Int × Int × Int × Int × Int × Int × Int))
  | [⟨(.slc (.int .i64)), a0⟩, ⟨.str, a1⟩, ⟨(.int .i64), a2⟩, ⟨(.int .i64), a3⟩, ⟨(.int .i64), a4⟩, ⟨(.int .i64), a5⟩, ⟨(.int .i64), a6⟩, ⟨(.int .i64), a7⟩, ⟨(.int .i64), a8⟩, ⟨(.int .i64), a9⟩, ⟨(.int .i64), a10⟩, ⟨(.int .i64), a11⟩] => rec a0 a1 a2 a3 a4 a5 a6 a7 a8 a9 a10 a11
  | _ => none
def qaw_enc9 : Nat → List (TV U) → Option ((Bool × Int × Int × Int × Int) ⊕ ((List (Int)) × Int × Int × Int × Int × Int × Int × Int × Int × Int))
  | 0, [⟨.bool, a0⟩, ⟨(.int .i64), a1⟩, ⟨(.int .i64), a2⟩, ⟨(.int .i64), a3⟩, ⟨(.int .i64), a4⟩] => some (.inl (a0, a1, a2, a3, a4))
  | 1, [⟨(.slc (.int .i64)), a0⟩, ⟨(.int .i64), a1⟩, ⟨(.int .i64), a2⟩, ⟨(.int .i64), a3⟩, ⟨(.int .i64), a4⟩, ⟨(.int .i64), a5⟩, ⟨(.int .i64), a6⟩, ⟨(.int .i64), a7⟩, ⟨(.int .i64), a8⟩, ⟨(.int .i64), a9⟩] => some (.inr (a0, a1, a2, a3, a4, a5, a6, a7, a8, a9))
  | _, _ => none
def qaw_dec9 : (Bool × Int × Int × Int × Int) ⊕ ((List (Int)) × Int × Int × Int × Int × Int × Int × Int × Int × Int) → Nat × List (TV U) := fun r => match r with | (.inl x) => (0, [⟨.bool, x.1⟩, ⟨(.int .i64), x.2.1⟩, ⟨(.int .i64), x.2.2.1⟩, ⟨(.int .i64), x.2.2.2.1⟩, ⟨(.int .i64), x.2.2.2.2⟩]) | (.inr x) => (1, [⟨(.slc (.int .i64)), x.1⟩, ⟨(.int .i64), x.2.1⟩, ⟨(.int .i64), x.2.2.1⟩, ⟨(.int .i64), x.2.2.2.1⟩, ⟨(.int .i64), x.2.2.2.2.1⟩, ⟨(.int .i64), x.2.2.2.2.2.1⟩, ⟨(.int .i64), x.2.2.2.2.2.2.1⟩, ⟨(.int .i64), x.2.2.2.2.2.2.2.1⟩, ⟨(.int .i64), x.2.2.2.2.2.2.2.2.1⟩, ⟨(.int .i64), x.2.2.2.2.2.2.2.2.2⟩])
def qaw_tr9 : (Bool × Int × Int × Int × Int) ⊕ ((List (Int)) × Int × Int × Int × Int × Int × Int × Int × Int × Int) → Tr (Nat × List (TV U)) := fun r => .alt r (fun x => .ret (0, [⟨.bool, x.1⟩, ⟨(.int .i64), x.2.1⟩, ⟨(.int .i64), x.2.2.1⟩, ⟨(.int .i64), x.2.2.2.1⟩, ⟨(.int .i64), x.2.2.2.2⟩])) (fun y => (fun x => .ret (1, [⟨(.slc (.int .i64)), x.1⟩, ⟨(.int .i64), x.2.1⟩, ⟨(.int .i64), x.2.2.1⟩, ⟨(.int .i64), x.2.2.2.1⟩, ⟨(.int .i64), x.2.2.2.2.1⟩, ⟨(.int .i64), x.2.2.2.2.2.1⟩, ⟨(.int .i64), x.2.2.2.2.2.2.1⟩, ⟨(.int .i64), x.2.2.2.2.2.2.2.1⟩, ⟨(.int .i64), x.2.2.2.2.2.2.2.2.1⟩, ⟨(.int .i64), x.2.2.2.2.2.2.2.2.2⟩])) y)
def qaw_lp9 : Lift.Loop U := ⟨qaw_sh9, qaw_o9, fun ls => .get (qaw_rec9 qaw_l9 ls) qaw_tr9⟩
theorem qaw_ok9 : LoopR kk env0 Tryd.f34.ntmps qaw_b9 qaw_lp9 :=
  loop_of qaw_enc9 qaw_dec9 (fun n => qaw_rec9 (qaw_i9 n)) (kitOk_of eqOk mixed known38) (L := jnL) (loopsOk_of (bs := []) (by kernel_rfl) trivial) (by intro r; rcases r with r | r <;> rfl) (by intro i qs r h; unfold qaw_enc9 at h; split at h <;> cases h <;> rfl)
    (by intro ls r h; unfold qaw_rec9 at h; split at h <;> cases h)
    (by intro n ls r h; unfold qaw_rec9 at h; split at h; exact (show _ = qaw_t9 (qaw_i9 n) _ _ _ _ _ _ _ _ _ _ _ _ from by kernel_rfl).trans h; cases h) (by rw [qaw_l9, sealF_eq])
def qaw_sh2 : StSh := ⟨⟨[0, 1, 4, 6], [4], []⟩, [.t .str, .t (.slc (.int .i64)), .ptr 4 0, .t (.int .i64)], [.blk 40 [.t (.int .i64), .t (.int .i64), .t (.int .i64), .t (.int .i64)]]⟩
def qaw_o2 : List Out := [⟨.ret, ⟨⟨[4, 5], [4], []⟩, [.ptr 4 0, .t .bool], [.blk 40 [.t (.int .i64), .t (.int .i64), .t (.int .i64), .t (.int .i64)]]⟩⟩, ⟨.exit 0, ⟨⟨[4], [4], []⟩, [.ptr 4 0], [.blk 40 [.t (.int .i64), .t (.int .i64), .t (.int .i64), .t (.int .i64)]]⟩⟩]
def qaw_b2 : Code := (nthLoop (bodyOf Tryd.f34) 0)
def qaw_L2 : Nat → Option (Lift.Loop U) := fun n => bif Nat.beq n joinKey then some joinMark else bif Nat.beq n 9 then some qaw_lp9 else none
def qaw_rec2 (rec : List UInt8 → List (Int) → Int → Int → Int → Int → Int → Option ((Bool × Int × Int × Int × Int) ⊕ (Int × Int × Int × Int))) : List (TV U) → Option ((Bool × Int × Int × Int × Int) ⊕ (Int × Int × Int × Int))
  | [⟨.str, a0⟩, ⟨(.slc (.int .i64)), a1⟩, ⟨(.int .i64), a2⟩, ⟨(.int .i64), a3⟩, ⟨(.int .i64), a4⟩, ⟨(.int .i64), a5⟩, ⟨(.int .i64), a6⟩] => rec a0 a1 a2 a3 a4 a5 a6
  | _ => none
def qaw_enc2 : Nat → List (TV U) → Option ((Bool × Int × Int × Int × Int) ⊕ (Int × Int × Int × Int))
  | 0, [⟨.bool, a0⟩, ⟨(.int .i64), a1⟩, ⟨(.int .i64), a2⟩, ⟨(.int .i64), a3⟩, ⟨(.int .i64), a4⟩] => some (.inl (a0, a1, a2, a3, a4))
  | 1, [⟨(.int .i64), a0⟩, ⟨(.int .i64), a1⟩, ⟨(.int .i64), a2⟩, ⟨(.int .i64), a3⟩] => some (.inr (a0, a1, a2, a3))
  | _, _ => none
def qaw_dec2 : (Bool × Int × Int × Int × Int) ⊕ (Int × Int × Int × Int) → Nat × List (TV U) := fun r => match r with | (.inl x) => (0, [⟨.bool, x.1⟩, ⟨(.int .i64), x.2.1⟩, ⟨(.int .i64), x.2.2.1⟩, ⟨(.int .i64), x.2.2.2.1⟩, ⟨(.int .i64), x.2.2.2.2⟩]) | (.inr x) => (1, [⟨(.int .i64), x.1⟩, ⟨(.int .i64), x.2.1⟩, ⟨(.int .i64), x.2.2.1⟩, ⟨(.int .i64), x.2.2.2⟩])
def qaw_tr2 : (Bool × Int × Int × Int × Int) ⊕ (Int × Int × Int × Int) → Tr (Nat × List (TV U)) := fun r => .alt r (fun x => .ret (0, [⟨.bool, x.1⟩, ⟨(.int .i64), x.2.1⟩, ⟨(.int .i64), x.2.2.1⟩, ⟨(.int .i64), x.2.2.2.1⟩, ⟨(.int .i64), x.2.2.2.2⟩])) (fun y => (fun x => .ret (1, [⟨(.int .i64), x.1⟩, ⟨(.int .i64), x.2.1⟩, ⟨(.int .i64), x.2.2.1⟩, ⟨(.int .i64), x.2.2.2⟩])) y)
def qaw_lp2 : Lift.Loop U := ⟨qaw_sh2, qaw_o2, fun ls => .get (qaw_rec2 qaw_l2 ls) qaw_tr2⟩
theorem qaw_ok2 : LoopR kk env0 Tryd.f34.ntmps qaw_b2 qaw_lp2 :=
  loop_of qaw_enc2 qaw_dec2 (fun n => qaw_rec2 (qaw_i2 n)) (kitOk_of eqOk mixed known38) (L := qaw_L2) (loopsOk_of (bs := [qaw_b9]) (by kernel_rfl) ⟨.inr ⟨_, by kernel_rfl, LoopOk.of_round (qaw_ok9)⟩, trivial⟩) (by intro r; rcases r with r | r <;> rfl) (by intro i qs r h; unfold qaw_enc2 at h; split at h <;> cases h <;> rfl)
    (by intro ls r h; unfold qaw_rec2 at h; split at h <;> cases h)
    (by intro n ls r h; unfold qaw_rec2 at h; split at h; exact (show _ = qaw_t2 (qaw_i2 n) _ _ _ _ _ _ _ from by kernel_rfl).trans h; cases h) (by rw [qaw_l2, sealF_eq])
def qaw_sh : StSh := ⟨⟨[0, 1], [], []⟩, [.t .str, .t (.slc (.int .i64))], []⟩
def qaw_os : List StSh := [⟨⟨[0, 1], [], []⟩, [.t (.st 40), .t .bool], []⟩]
def qaw_tr : Instr × Bool → Tr (Nat × List (TV U)) := fun x => .ret (0, [⟨(.st 40), x.1⟩, ⟨.bool, x.2⟩])
def qaw_L : Nat → Option (Lift.Loop U) := fun n => bif Nat.beq n joinKey then some joinMark else bif Nat.beq n 2 then some qaw_lp2 else none
def qaw_enc : Nat → List (TV U) → Option (Instr × Bool)
  | 0, [⟨(.st 40), a0⟩, ⟨.bool, a1⟩] => some (a0, a1)
  | _, _ => none
def qaw_dec : Instr × Bool → Nat × List (TV U) := fun x => (0, [⟨(.st 40), x.1⟩, ⟨.bool, x.2⟩])
def qaw_in : List (TV U) → Option (Instr × Bool)
  | [⟨.str, a0⟩, ⟨(.slc (.int .i64)), a1⟩] => qaw a0 a1
  | _ => none
def qaw_md : Mode U := ⟨qaw_sh, [], qaw_os, fun ls => .get (qaw_in ls) qaw_tr⟩
theorem qaw_post : ModeOk kk env0 34 qaw_md :=
  fn_of (fn := Tryd.f34) qaw_enc qaw_dec (kitOk_of eqOk mixed known38) (by kernel_rfl) (L := qaw_L) (loopsOk_of (bs := [qaw_b2]) (by kernel_rfl) ⟨.inr ⟨_, by kernel_rfl, LoopOk.of_round (qaw_ok2)⟩, trivial⟩) (fun _ => rfl) (by intro i qs r h; unfold qaw_enc at h; split at h <;> cases h <;> rfl)
    (by intro ls r h; unfold qaw_in at h; split at h; rw [qaw, sealF_eq] at h; exact Eq.trans (by kernel_rfl) h; cases h)
def ms39 : List (FuncId × Mode U) := (34, qaw_md) :: ms38
theorem known39 : Known kk env0 (modesOf ms39) := known_cons (by kernel_rfl) qaw_post known38
def qax_sh : StSh := ⟨⟨[0, 1], [100000], [⟨.cell 100000 0, 200000, 3, (.int .i64)⟩, ⟨.cell 100000 2, 200002, 38, (.st 1038)⟩]⟩, [.ptr 100000 0, .t .str], [.blk 61 [.oslc 200000, .t (.int .i64), .oslc 200002, .t (.int .i64)], .row 3 (.int .i64), .row 38 (.st 1038)]⟩
def qax_os : List StSh := [⟨⟨[0], [100000], [⟨.cell 100000 0, 200000, 3, (.int .i64)⟩, ⟨.cell 100000 2, 200002, 38, (.st 1038)⟩]⟩, [.t .bool], [.blk 61 [.oslc 200000, .t (.int .i64), .oslc 200002, .t (.int .i64)], .row 3 (.int .i64), .row 38 (.st 1038)]⟩]
def qax_tr : Bool × Int × Int × (List (Int)) × (List (ACode)) → Tr (Nat × List (TV U)) := fun x => .ret (0, [⟨.bool, x.1⟩, ⟨(.int .i64), x.2.1⟩, ⟨(.int .i64), x.2.2.1⟩, ⟨(.slc (.int .i64)), x.2.2.2.1⟩, ⟨(.slc (.st 1038)), x.2.2.2.2⟩])
def qax_enc : Nat → List (TV U) → Option (Bool × Int × Int × (List (Int)) × (List (ACode)))
  | 0, [⟨.bool, a0⟩, ⟨(.int .i64), a1⟩, ⟨(.int .i64), a2⟩, ⟨(.slc (.int .i64)), a3⟩, ⟨(.slc (.st 1038)), a4⟩] => some (a0, a1, a2, a3, a4)
  | _, _ => none
def qax_dec : Bool × Int × Int × (List (Int)) × (List (ACode)) → Nat × List (TV U) := fun x => (0, [⟨.bool, x.1⟩, ⟨(.int .i64), x.2.1⟩, ⟨(.int .i64), x.2.2.1⟩, ⟨(.slc (.int .i64)), x.2.2.2.1⟩, ⟨(.slc (.st 1038)), x.2.2.2.2⟩])
def qax_in : List (TV U) → Option (Bool × Int × Int × (List (Int)) × (List (ACode)))
  | [⟨.str, a0⟩, ⟨(.int .i64), a1⟩, ⟨(.int .i64), a2⟩, ⟨(.slc (.int .i64)), a3⟩, ⟨(.slc (.st 1038)), a4⟩] => qax a0 a1 a2 a3 a4
  | _ => none
def qax_md : Mode U := ⟨qax_sh, [⟨100000, .slot 0, []⟩], qax_os, fun ls => .get (qax_in ls) qax_tr⟩
theorem qax_post : ModeOk kk env0 25 qax_md :=
  fn_of (fn := Tryd.f25) qax_enc qax_dec (kitOk_of eqOk mixed known39) (by kernel_rfl) (L := jnL) (loopsOk_of (bs := []) (by kernel_rfl) trivial) (fun _ => rfl) (by intro i qs r h; unfold qax_enc at h; split at h <;> cases h <;> rfl)
    (by intro ls r h; unfold qax_in at h; split at h; rw [qax, sealF_eq] at h; exact Eq.trans (by kernel_rfl) h; cases h)
def ms40 : List (FuncId × Mode U) := (25, qax_md) :: ms39
theorem known40 : Known kk env0 (modesOf ms40) := known_cons (by kernel_rfl) qax_post known39
def qar_sh4 : StSh := ⟨⟨[0, 2, 3, 4, 5, 6], [2, 3, 10], [⟨.cell 10 0, 20500, 3, (.int .i64)⟩, ⟨.cell 10 2, 20502, 38, (.st 1038)⟩]⟩, [.t .str, .ptr 2 0, .ptr 3 0, .ptr 10 0, .t (.int .i64), .t (.int .i64)], [.blk 25 [.nil, .t (.int .i64), .nil], .blk 32 [.t (.int .i64), .t (.int .i64), .t .str], .blk 61 [.oslc 20500, .t (.int .i64), .oslc 20502, .t (.int .i64)], .row 3 (.int .i64), .row 38 (.st 1038)]⟩
def qar_o4 : List Out := [⟨.ret, ⟨⟨[2, 3], [2, 3], []⟩, [.ptr 2 0, .ptr 3 0], [.blk 25 [.nil, .t (.int .i64), .nil], .blk 32 [.t (.int .i64), .t (.int .i64), .t .str]]⟩⟩, ⟨.exit 0, ⟨⟨[0, 2, 3, 4, 5], [2, 3, 10], [⟨.cell 10 0, 20500, 3, (.int .i64)⟩, ⟨.cell 10 2, 20502, 38, (.st 1038)⟩]⟩, [.t .str, .ptr 2 0, .ptr 3 0, .ptr 10 0, .t (.int .i64)], [.blk 25 [.nil, .t (.int .i64), .nil], .blk 32 [.t (.int .i64), .t (.int .i64), .t .str], .blk 61 [.oslc 20500, .t (.int .i64), .oslc 20502, .t (.int .i64)], .row 3 (.int .i64), .row 38 (.st 1038)]⟩⟩]
def qar_b4 : Code := (nthLoop (bodyOf Tryd.f13) 0)
def qar_rec4 (rec : List UInt8 → Int → Int → Int → Int → Int → List UInt8 → Int → Int → List (Int) → List (ACode) → Option ((Int × Int × Int × (List UInt8)) ⊕ ((List UInt8) × Int × Int × Int × Int × (List UInt8) × Int × Int × (List (Int)) × (List (ACode))))) : List (TV U) → Option ((Int × Int × Int × (List UInt8)) ⊕ ((List UInt8) × Int × Int × Int × Int × (List UInt8) × Int × Int × (List (Int)) × (List (ACode))))
  | [⟨.str, a0⟩, ⟨(.int .i64), a1⟩, ⟨(.int .i64), a2⟩, ⟨(.int .i64), a3⟩, ⟨(.int .i64), a4⟩, ⟨(.int .i64), a5⟩, ⟨.str, a6⟩, ⟨(.int .i64), a7⟩, ⟨(.int .i64), a8⟩, ⟨(.slc (.int .i64)), a9⟩, ⟨(.slc (.st 1038)), a10⟩] => rec a0 a1 a2 a3 a4 a5 a6 a7 a8 a9 a10
  | _ => none
def qar_enc4 : Nat → List (TV U) → Option ((Int × Int × Int × (List UInt8)) ⊕ ((List UInt8) × Int × Int × Int × Int × (List UInt8) × Int × Int × (List (Int)) × (List (ACode))))
  | 0, [⟨(.int .i64), a0⟩, ⟨(.int .i64), a1⟩, ⟨(.int .i64), a2⟩, ⟨.str, a3⟩] => some (.inl (a0, a1, a2, a3))
  | 1, [⟨.str, a0⟩, ⟨(.int .i64), a1⟩, ⟨(.int .i64), a2⟩, ⟨(.int .i64), a3⟩, ⟨(.int .i64), a4⟩, ⟨.str, a5⟩, ⟨(.int .i64), a6⟩, ⟨(.int .i64), a7⟩, ⟨(.slc (.int .i64)), a8⟩, ⟨(.slc (.st 1038)), a9⟩] => some (.inr (a0, a1, a2, a3, a4, a5, a6, a7, a8, a9))
  | _, _ => none
def qar_dec4 : (Int × Int × Int × (List UInt8)) ⊕ ((List UInt8) × Int × Int × Int × Int × (List UInt8) × Int × Int × (List (Int)) × (List (ACode))) → Nat × List (TV U) := fun r => match r with | (.inl x) => (0, [⟨(.int .i64), x.1⟩, ⟨(.int .i64), x.2.1⟩, ⟨(.int .i64), x.2.2.1⟩, ⟨.str, x.2.2.2⟩]) | (.inr x) => (1, [⟨.str, x.1⟩, ⟨(.int .i64), x.2.1⟩, ⟨(.int .i64), x.2.2.1⟩, ⟨(.int .i64), x.2.2.2.1⟩, ⟨(.int .i64), x.2.2.2.2.1⟩, ⟨.str, x.2.2.2.2.2.1⟩, ⟨(.int .i64), x.2.2.2.2.2.2.1⟩, ⟨(.int .i64), x.2.2.2.2.2.2.2.1⟩, ⟨(.slc (.int .i64)), x.2.2.2.2.2.2.2.2.1⟩, ⟨(.slc (.st 1038)), x.2.2.2.2.2.2.2.2.2⟩])
def qar_tr4 : (Int × Int × Int × (List UInt8)) ⊕ ((List UInt8) × Int × Int × Int × Int × (List UInt8) × Int × Int × (List (Int)) × (List (ACode))) → Tr (Nat × List (TV U)) := fun r => .alt r (fun x => .ret (0, [⟨(.int .i64), x.1⟩, ⟨(.int .i64), x.2.1⟩, ⟨(.int .i64), x.2.2.1⟩, ⟨.str, x.2.2.2⟩])) (fun y => (fun x => .ret (1, [⟨.str, x.1⟩, ⟨(.int .i64), x.2.1⟩, ⟨(.int .i64), x.2.2.1⟩, ⟨(.int .i64), x.2.2.2.1⟩, ⟨(.int .i64), x.2.2.2.2.1⟩, ⟨.str, x.2.2.2.2.2.1⟩, ⟨(.int .i64), x.2.2.2.2.2.2.1⟩, ⟨(.int .i64), x.2.2.2.2.2.2.2.1⟩, ⟨(.slc (.int .i64)), x.2.2.2.2.2.2.2.2.1⟩, ⟨(.slc (.st 1038)), x.2.2.2.2.2.2.2.2.2⟩])) y)
def qar_lp4 : Lift.Loop U := ⟨qar_sh4, qar_o4, fun ls => .get (qar_rec4 qar_l4 ls) qar_tr4⟩
theorem qar_ok4 : LoopR kk env0 Tryd.f13.ntmps qar_b4 qar_lp4 :=
  loop_of qar_enc4 qar_dec4 (fun n => qar_rec4 (qar_i4 n)) (kitOk_of eqOk mixed known40) (L := jnL) (loopsOk_of (bs := []) (by kernel_rfl) trivial) (by intro r; rcases r with r | r <;> rfl) (by intro i qs r h; unfold qar_enc4 at h; split at h <;> cases h <;> rfl)
    (by intro ls r h; unfold qar_rec4 at h; split at h <;> cases h)
    (by intro n ls r h; unfold qar_rec4 at h; split at h; exact (show _ = qar_t4 (qar_i4 n) _ _ _ _ _ _ _ _ _ _ _ from by kernel_rfl).trans h; cases h) (by rw [qar_l4, sealF_eq])
def qar_sh : StSh := ⟨⟨[0], [], []⟩, [.t .str], []⟩
def qar_os : List StSh := [⟨⟨[0, 1], [], [⟨.sub 0 0, 100100, 3, (.int .i64)⟩, ⟨.sub 0 2, 100300, 38, (.st 1038)⟩]⟩, [.agg [.oslc 100100, .t (.int .i64), .oslc 100300], .t (.st 32)], [.row 3 (.int .i64), .row 38 (.st 1038)]⟩]
def qar_tr : Int × Fault × (List (Int)) × (List (ACode)) → Tr (Nat × List (TV U)) := fun x => .ret (0, [⟨(.int .i64), x.1⟩, ⟨(.st 32), x.2.1⟩, ⟨(.slc (.int .i64)), x.2.2.1⟩, ⟨(.slc (.st 1038)), x.2.2.2⟩])
def qar_L : Nat → Option (Lift.Loop U) := fun n => bif Nat.beq n joinKey then some joinMark else bif Nat.beq n 4 then some qar_lp4 else none
def qar_enc : Nat → List (TV U) → Option (Int × Fault × (List (Int)) × (List (ACode)))
  | 0, [⟨(.int .i64), a0⟩, ⟨(.st 32), a1⟩, ⟨(.slc (.int .i64)), a2⟩, ⟨(.slc (.st 1038)), a3⟩] => some (a0, a1, a2, a3)
  | _, _ => none
def qar_dec : Int × Fault × (List (Int)) × (List (ACode)) → Nat × List (TV U) := fun x => (0, [⟨(.int .i64), x.1⟩, ⟨(.st 32), x.2.1⟩, ⟨(.slc (.int .i64)), x.2.2.1⟩, ⟨(.slc (.st 1038)), x.2.2.2⟩])
def qar_in : List (TV U) → Option (Int × Fault × (List (Int)) × (List (ACode)))
  | [⟨.str, a0⟩] => qar a0
  | _ => none
def qar_md : Mode U := ⟨qar_sh, [], qar_os, fun ls => .get (qar_in ls) qar_tr⟩
theorem qar_post : ModeOk kk env0 13 qar_md :=
  fn_of (fn := Tryd.f13) qar_enc qar_dec (kitOk_of eqOk mixed known40) (by kernel_rfl) (L := qar_L) (loopsOk_of (bs := [qar_b4]) (by kernel_rfl) ⟨.inr ⟨_, by kernel_rfl, LoopOk.of_round (qar_ok4)⟩, trivial⟩) (fun _ => rfl) (by intro i qs r h; unfold qar_enc at h; split at h <;> cases h <;> rfl)
    (by intro ls r h; unfold qar_in at h; split at h; rw [qar, sealF_eq] at h; exact Eq.trans (by kernel_rfl) h; cases h)
def ms41 : List (FuncId × Mode U) := (13, qar_md) :: ms40
theorem known41 : Known kk env0 (modesOf ms41) := known_cons (by kernel_rfl) qar_post known40
def qan_sh6 : StSh := ⟨⟨[0, 3, 4, 5, 6, 7, 8, 9], [4, 5, 6, 7], [⟨.cell 4 0, 20200, 3, (.int .i64)⟩, ⟨.cell 4 2, 20202, 38, (.st 1038)⟩, ⟨.cell 6 0, 20300, 3, (.int .i64)⟩, ⟨.cell 6 2, 20302, 38, (.st 1038)⟩]⟩, [.t .str, .t .bool, .ptr 4 0, .ptr 5 0, .ptr 6 0, .ptr 7 0, .t .bool, .t (.int .i64)], [.blk 25 [.oslc 20200, .t (.int .i64), .oslc 20202], .blk 32 [.t (.int .i64), .t (.int .i64), .t .str], .blk 25 [.oslc 20300, .t (.int .i64), .oslc 20302], .blk 32 [.t (.int .i64), .t (.int .i64), .t .str], .row 3 (.int .i64), .row 38 (.st 1038), .row 3 (.int .i64), .row 38 (.st 1038)]⟩
def qan_o6 : List Out := [⟨.exit 0, ⟨⟨[0, 3, 4, 5, 6, 7, 8], [4, 5, 6, 7], [⟨.cell 4 0, 20200, 3, (.int .i64)⟩, ⟨.cell 4 2, 20202, 38, (.st 1038)⟩, ⟨.cell 6 0, 20300, 3, (.int .i64)⟩, ⟨.cell 6 2, 20302, 38, (.st 1038)⟩]⟩, [.t .str, .t .bool, .ptr 4 0, .ptr 5 0, .ptr 6 0, .ptr 7 0, .t .bool], [.blk 25 [.oslc 20200, .t (.int .i64), .oslc 20202], .blk 32 [.t (.int .i64), .t (.int .i64), .t .str], .blk 25 [.oslc 20300, .t (.int .i64), .oslc 20302], .blk 32 [.t (.int .i64), .t (.int .i64), .t .str], .row 3 (.int .i64), .row 38 (.st 1038), .row 3 (.int .i64), .row 38 (.st 1038)]⟩⟩]
def qan_b6 : Code := (nthLoop (bodyOf Tryd.f5) 0)
def qan_rec6 (rec : List UInt8 → Bool → Bool → Int → Int → Int → Int → List UInt8 → Int → Int → Int → List UInt8 → List (Int) → List (ACode) → List (Int) → List (ACode) → Option ((List UInt8) × Bool × Bool × Int × Int × Int × (List UInt8) × Int × Int × Int × (List UInt8) × (List (Int)) × (List (ACode)) × (List (Int)) × (List (ACode)))) : List (TV U) → Option ((List UInt8) × Bool × Bool × Int × Int × Int × (List UInt8) × Int × Int × Int × (List UInt8) × (List (Int)) × (List (ACode)) × (List (Int)) × (List (ACode)))
  | [⟨.str, a0⟩, ⟨.bool, a1⟩, ⟨.bool, a2⟩, ⟨(.int .i64), a3⟩, ⟨(.int .i64), a4⟩, ⟨(.int .i64), a5⟩, ⟨(.int .i64), a6⟩, ⟨.str, a7⟩, ⟨(.int .i64), a8⟩, ⟨(.int .i64), a9⟩, ⟨(.int .i64), a10⟩, ⟨.str, a11⟩, ⟨(.slc (.int .i64)), a12⟩, ⟨(.slc (.st 1038)), a13⟩, ⟨(.slc (.int .i64)), a14⟩, ⟨(.slc (.st 1038)), a15⟩] => rec a0 a1 a2 a3 a4 a5 a6 a7 a8 a9 a10 a11 a12 a13 a14 a15
  | _ => none
def qan_enc6 : Nat → List (TV U) → Option ((List UInt8) × Bool × Bool × Int × Int × Int × (List UInt8) × Int × Int × Int × (List UInt8) × (List (Int)) × (List (ACode)) × (List (Int)) × (List (ACode)))
  | 0, [⟨.str, a0⟩, ⟨.bool, a1⟩, ⟨.bool, a2⟩, ⟨(.int .i64), a3⟩, ⟨(.int .i64), a4⟩, ⟨(.int .i64), a5⟩, ⟨.str, a6⟩, ⟨(.int .i64), a7⟩, ⟨(.int .i64), a8⟩, ⟨(.int .i64), a9⟩, ⟨.str, a10⟩, ⟨(.slc (.int .i64)), a11⟩, ⟨(.slc (.st 1038)), a12⟩, ⟨(.slc (.int .i64)), a13⟩, ⟨(.slc (.st 1038)), a14⟩] => some (a0, a1, a2, a3, a4, a5, a6, a7, a8, a9, a10, a11, a12, a13, a14)
  | _, _ => none
def qan_dec6 : (List UInt8) × Bool × Bool × Int × Int × Int × (List UInt8) × Int × Int × Int × (List UInt8) × (List (Int)) × (List (ACode)) × (List (Int)) × (List (ACode)) → Nat × List (TV U) := fun x => (0, [⟨.str, x.1⟩, ⟨.bool, x.2.1⟩, ⟨.bool, x.2.2.1⟩, ⟨(.int .i64), x.2.2.2.1⟩, ⟨(.int .i64), x.2.2.2.2.1⟩, ⟨(.int .i64), x.2.2.2.2.2.1⟩, ⟨.str, x.2.2.2.2.2.2.1⟩, ⟨(.int .i64), x.2.2.2.2.2.2.2.1⟩, ⟨(.int .i64), x.2.2.2.2.2.2.2.2.1⟩, ⟨(.int .i64), x.2.2.2.2.2.2.2.2.2.1⟩, ⟨.str, x.2.2.2.2.2.2.2.2.2.2.1⟩, ⟨(.slc (.int .i64)), x.2.2.2.2.2.2.2.2.2.2.2.1⟩, ⟨(.slc (.st 1038)), x.2.2.2.2.2.2.2.2.2.2.2.2.1⟩, ⟨(.slc (.int .i64)), x.2.2.2.2.2.2.2.2.2.2.2.2.2.1⟩, ⟨(.slc (.st 1038)), x.2.2.2.2.2.2.2.2.2.2.2.2.2.2⟩])
def qan_tr6 : (List UInt8) × Bool × Bool × Int × Int × Int × (List UInt8) × Int × Int × Int × (List UInt8) × (List (Int)) × (List (ACode)) × (List (Int)) × (List (ACode)) → Tr (Nat × List (TV U)) := fun x => .ret (0, [⟨.str, x.1⟩, ⟨.bool, x.2.1⟩, ⟨.bool, x.2.2.1⟩, ⟨(.int .i64), x.2.2.2.1⟩, ⟨(.int .i64), x.2.2.2.2.1⟩, ⟨(.int .i64), x.2.2.2.2.2.1⟩, ⟨.str, x.2.2.2.2.2.2.1⟩, ⟨(.int .i64), x.2.2.2.2.2.2.2.1⟩, ⟨(.int .i64), x.2.2.2.2.2.2.2.2.1⟩, ⟨(.int .i64), x.2.2.2.2.2.2.2.2.2.1⟩, ⟨.str, x.2.2.2.2.2.2.2.2.2.2.1⟩, ⟨(.slc (.int .i64)), x.2.2.2.2.2.2.2.2.2.2.2.1⟩, ⟨(.slc (.st 1038)), x.2.2.2.2.2.2.2.2.2.2.2.2.1⟩, ⟨(.slc (.int .i64)), x.2.2.2.2.2.2.2.2.2.2.2.2.2.1⟩, ⟨(.slc (.st 1038)), x.2.2.2.2.2.2.2.2.2.2.2.2.2.2⟩])
def qan_lp6 : Lift.Loop U := ⟨qan_sh6, qan_o6, fun ls => .get (qan_rec6 qan_l6 ls) qan_tr6⟩
theorem qan_ok6 : LoopR kk env0 Tryd.f5.ntmps qan_b6 qan_lp6 :=
  loop_of qan_enc6 qan_dec6 (fun n => qan_rec6 (qan_i6 n)) (kitOk_of eqOk mixed known41) (L := jnL) (loopsOk_of (bs := []) (by kernel_rfl) trivial) (fun _ => rfl) (by intro i qs r h; unfold qan_enc6 at h; split at h <;> cases h <;> rfl)
    (by intro ls r h; unfold qan_rec6 at h; split at h <;> cases h)
    (by intro n ls r h; unfold qan_rec6 at h; split at h; exact (show _ = qan_t6 (qan_i6 n) _ _ _ _ _ _ _ _ _ _ _ _ _ _ _ _ from by kernel_rfl).trans h; cases h) (by rw [qan_l6, sealF_eq])
def qan_sh15 : StSh := ⟨⟨[0, 3, 4, 5, 6, 7, 8, 10, 11, 12], [4, 5, 6, 7], [⟨.slot 11, 11, 40, (.st 40)⟩, ⟨.cell 4 0, 20200, 3, (.int .i64)⟩, ⟨.cell 4 2, 20202, 38, (.st 1038)⟩, ⟨.cell 6 0, 20300, 3, (.int .i64)⟩, ⟨.cell 6 2, 20302, 38, (.st 1038)⟩]⟩, [.t .str, .t .bool, .ptr 4 0, .ptr 5 0, .ptr 6 0, .ptr 7 0, .t .bool, .t (.int .i64), .oslc 11, .t (.int .i64)], [.blk 25 [.oslc 20200, .t (.int .i64), .oslc 20202], .blk 32 [.t (.int .i64), .t (.int .i64), .t .str], .blk 25 [.oslc 20300, .t (.int .i64), .oslc 20302], .blk 32 [.t (.int .i64), .t (.int .i64), .t .str], .row 40 (.st 40), .row 3 (.int .i64), .row 38 (.st 1038), .row 3 (.int .i64), .opn 38 (.st 1038) [.t (.int .i64), .oslc 11]]⟩
def qan_o15 : List Out := [⟨.exit 4, ⟨⟨[0, 3, 4, 5, 6, 7, 8, 10], [4, 5, 6, 7], [⟨.cell 4 0, 20200, 3, (.int .i64)⟩, ⟨.cell 4 2, 20202, 38, (.st 1038)⟩, ⟨.cell 6 0, 20300, 3, (.int .i64)⟩, ⟨.cell 6 2, 20302, 38, (.st 1038)⟩]⟩, [.t .str, .t .bool, .ptr 4 0, .ptr 5 0, .ptr 6 0, .ptr 7 0, .t .bool, .t (.int .i64)], [.blk 25 [.oslc 20200, .t (.int .i64), .oslc 20202], .blk 32 [.t (.int .i64), .t (.int .i64), .t .str], .blk 25 [.oslc 20300, .t (.int .i64), .oslc 20302], .blk 32 [.t (.int .i64), .t (.int .i64), .t .str], .row 3 (.int .i64), .row 38 (.st 1038), .row 3 (.int .i64), .opn 38 (.st 1038) [.t (.int .i64), .junk]]⟩⟩]
def qan_b15 : Code := (nthLoop (nthLoop (bodyOf Tryd.f5) 1) 0)
def qan_rec15 (rec : List UInt8 → Bool → Bool → Int → Int → Int → Int → Int → List UInt8 → Int → Int → Int → List UInt8 → List (Instr) → List (Int) → List (ACode) → List (Int) → List (ACode) → Nat → Int → Option ((List UInt8) × Bool × Bool × Int × Int × Int × Int × (List UInt8) × Int × Int × Int × (List UInt8) × (List (Int)) × (List (ACode)) × (List (Int)) × (List (ACode)) × Nat × Int)) : List (TV U) → Option ((List UInt8) × Bool × Bool × Int × Int × Int × Int × (List UInt8) × Int × Int × Int × (List UInt8) × (List (Int)) × (List (ACode)) × (List (Int)) × (List (ACode)) × Nat × Int)
  | [⟨.str, a0⟩, ⟨.bool, a1⟩, ⟨.bool, a2⟩, ⟨(.int .i64), a3⟩, ⟨(.int .i64), a4⟩, ⟨(.int .i64), a5⟩, ⟨(.int .i64), a6⟩, ⟨(.int .i64), a7⟩, ⟨.str, a8⟩, ⟨(.int .i64), a9⟩, ⟨(.int .i64), a10⟩, ⟨(.int .i64), a11⟩, ⟨.str, a12⟩, ⟨(.slc (.st 40)), a13⟩, ⟨(.slc (.int .i64)), a14⟩, ⟨(.slc (.st 1038)), a15⟩, ⟨(.slc (.int .i64)), a16⟩, ⟨(.slc (.st 1038)), a17⟩, ⟨.fn, a18⟩, ⟨(.int .i64), a19⟩] => rec a0 a1 a2 a3 a4 a5 a6 a7 a8 a9 a10 a11 a12 a13 a14 a15 a16 a17 a18 a19
  | _ => none
def qan_enc15 : Nat → List (TV U) → Option ((List UInt8) × Bool × Bool × Int × Int × Int × Int × (List UInt8) × Int × Int × Int × (List UInt8) × (List (Int)) × (List (ACode)) × (List (Int)) × (List (ACode)) × Nat × Int)
  | 0, [⟨.str, a0⟩, ⟨.bool, a1⟩, ⟨.bool, a2⟩, ⟨(.int .i64), a3⟩, ⟨(.int .i64), a4⟩, ⟨(.int .i64), a5⟩, ⟨(.int .i64), a6⟩, ⟨.str, a7⟩, ⟨(.int .i64), a8⟩, ⟨(.int .i64), a9⟩, ⟨(.int .i64), a10⟩, ⟨.str, a11⟩, ⟨(.slc (.int .i64)), a12⟩, ⟨(.slc (.st 1038)), a13⟩, ⟨(.slc (.int .i64)), a14⟩, ⟨(.slc (.st 1038)), a15⟩, ⟨.fn, a16⟩, ⟨(.int .i64), a17⟩] => some (a0, a1, a2, a3, a4, a5, a6, a7, a8, a9, a10, a11, a12, a13, a14, a15, a16, a17)
  | _, _ => none
def qan_dec15 : (List UInt8) × Bool × Bool × Int × Int × Int × Int × (List UInt8) × Int × Int × Int × (List UInt8) × (List (Int)) × (List (ACode)) × (List (Int)) × (List (ACode)) × Nat × Int → Nat × List (TV U) := fun x => (0, [⟨.str, x.1⟩, ⟨.bool, x.2.1⟩, ⟨.bool, x.2.2.1⟩, ⟨(.int .i64), x.2.2.2.1⟩, ⟨(.int .i64), x.2.2.2.2.1⟩, ⟨(.int .i64), x.2.2.2.2.2.1⟩, ⟨(.int .i64), x.2.2.2.2.2.2.1⟩, ⟨.str, x.2.2.2.2.2.2.2.1⟩, ⟨(.int .i64), x.2.2.2.2.2.2.2.2.1⟩, ⟨(.int .i64), x.2.2.2.2.2.2.2.2.2.1⟩, ⟨(.int .i64), x.2.2.2.2.2.2.2.2.2.2.1⟩, ⟨.str, x.2.2.2.2.2.2.2.2.2.2.2.1⟩, ⟨(.slc (.int .i64)), x.2.2.2.2.2.2.2.2.2.2.2.2.1⟩, ⟨(.slc (.st 1038)), x.2.2.2.2.2.2.2.2.2.2.2.2.2.1⟩, ⟨(.slc (.int .i64)), x.2.2.2.2.2.2.2.2.2.2.2.2.2.2.1⟩, ⟨(.slc (.st 1038)), x.2.2.2.2.2.2.2.2.2.2.2.2.2.2.2.1⟩, ⟨.fn, x.2.2.2.2.2.2.2.2.2.2.2.2.2.2.2.2.1⟩, ⟨(.int .i64), x.2.2.2.2.2.2.2.2.2.2.2.2.2.2.2.2.2⟩])
def qan_tr15 : (List UInt8) × Bool × Bool × Int × Int × Int × Int × (List UInt8) × Int × Int × Int × (List UInt8) × (List (Int)) × (List (ACode)) × (List (Int)) × (List (ACode)) × Nat × Int → Tr (Nat × List (TV U)) := fun x => .ret (0, [⟨.str, x.1⟩, ⟨.bool, x.2.1⟩, ⟨.bool, x.2.2.1⟩, ⟨(.int .i64), x.2.2.2.1⟩, ⟨(.int .i64), x.2.2.2.2.1⟩, ⟨(.int .i64), x.2.2.2.2.2.1⟩, ⟨(.int .i64), x.2.2.2.2.2.2.1⟩, ⟨.str, x.2.2.2.2.2.2.2.1⟩, ⟨(.int .i64), x.2.2.2.2.2.2.2.2.1⟩, ⟨(.int .i64), x.2.2.2.2.2.2.2.2.2.1⟩, ⟨(.int .i64), x.2.2.2.2.2.2.2.2.2.2.1⟩, ⟨.str, x.2.2.2.2.2.2.2.2.2.2.2.1⟩, ⟨(.slc (.int .i64)), x.2.2.2.2.2.2.2.2.2.2.2.2.1⟩, ⟨(.slc (.st 1038)), x.2.2.2.2.2.2.2.2.2.2.2.2.2.1⟩, ⟨(.slc (.int .i64)), x.2.2.2.2.2.2.2.2.2.2.2.2.2.2.1⟩, ⟨(.slc (.st 1038)), x.2.2.2.2.2.2.2.2.2.2.2.2.2.2.2.1⟩, ⟨.fn, x.2.2.2.2.2.2.2.2.2.2.2.2.2.2.2.2.1⟩, ⟨(.int .i64), x.2.2.2.2.2.2.2.2.2.2.2.2.2.2.2.2.2⟩])
def qan_lp15 : Lift.Loop U := ⟨qan_sh15, qan_o15, fun ls => .get (qan_rec15 qan_l15 ls) qan_tr15⟩
theorem qan_ok15 : LoopR kk env0 Tryd.f5.ntmps qan_b15 qan_lp15 :=
  loop_of qan_enc15 qan_dec15 (fun n => qan_rec15 (qan_i15 n)) (kitOk_of eqOk mixed known41) (L := jnL) (loopsOk_of (bs := []) (by kernel_rfl) trivial) (fun _ => rfl) (by intro i qs r h; unfold qan_enc15 at h; split at h <;> cases h <;> rfl)
    (by intro ls r h; unfold qan_rec15 at h; split at h <;> cases h)
    (by intro n ls r h; unfold qan_rec15 at h; split at h; exact (show _ = qan_t15 (qan_i15 n) _ _ _ _ _ _ _ _ _ _ _ _ _ _ _ _ _ _ _ _ from by kernel_rfl).trans h; cases h) (by rw [qan_l15, sealF_eq])
def qan_sh11 : StSh := ⟨⟨[0, 3, 4, 5, 6, 7, 8, 10], [4, 5, 6, 7], [⟨.cell 4 0, 20200, 3, (.int .i64)⟩, ⟨.cell 4 2, 20202, 38, (.st 1038)⟩, ⟨.cell 6 0, 20300, 3, (.int .i64)⟩, ⟨.cell 6 2, 20302, 38, (.st 1038)⟩]⟩, [.t .str, .t .bool, .ptr 4 0, .ptr 5 0, .ptr 6 0, .ptr 7 0, .t .bool, .t (.int .i64)], [.blk 25 [.oslc 20200, .t (.int .i64), .oslc 20202], .blk 32 [.t (.int .i64), .t (.int .i64), .t .str], .blk 25 [.oslc 20300, .t (.int .i64), .oslc 20302], .blk 32 [.t (.int .i64), .t (.int .i64), .t .str], .row 3 (.int .i64), .row 38 (.st 1038), .row 3 (.int .i64), .row 38 (.st 1038)]⟩
def qan_o11 : List Out := [⟨.exit 2, ⟨⟨[0, 3, 4, 5, 6, 7, 8], [4, 5, 6, 7], [⟨.cell 4 0, 20200, 3, (.int .i64)⟩, ⟨.cell 4 2, 20202, 38, (.st 1038)⟩, ⟨.cell 6 0, 20300, 3, (.int .i64)⟩, ⟨.cell 6 2, 20302, 38, (.st 1038)⟩]⟩, [.t .str, .t .bool, .ptr 4 0, .ptr 5 0, .ptr 6 0, .ptr 7 0, .t .bool], [.blk 25 [.oslc 20200, .t (.int .i64), .oslc 20202], .blk 32 [.t (.int .i64), .t (.int .i64), .t .str], .blk 25 [.oslc 20300, .t (.int .i64), .oslc 20302], .blk 32 [.t (.int .i64), .t (.int .i64), .t .str], .row 3 (.int .i64), .row 38 (.st 1038), .row 3 (.int .i64), .row 38 (.st 1038)]⟩⟩]
def qan_b11 : Code := (nthLoop (bodyOf Tryd.f5) 1)
def qan_L11 : Nat → Option (Lift.Loop U) := fun n => bif Nat.beq n joinKey then some joinMark else bif Nat.beq n 15 then some qan_lp15 else none
def qan_rec11 (rec : List UInt8 → Bool → Bool → Int → Int → Int → Int → List UInt8 → Int → Int → Int → List UInt8 → List (Int) → List (ACode) → List (Int) → List (ACode) → Option ((List UInt8) × Bool × Bool × Int × Int × Int × (List UInt8) × Int × Int × Int × (List UInt8) × (List (Int)) × (List (ACode)) × (List (Int)) × (List (ACode)))) : List (TV U) → Option ((List UInt8) × Bool × Bool × Int × Int × Int × (List UInt8) × Int × Int × Int × (List UInt8) × (List (Int)) × (List (ACode)) × (List (Int)) × (List (ACode)))
  | [⟨.str, a0⟩, ⟨.bool, a1⟩, ⟨.bool, a2⟩, ⟨(.int .i64), a3⟩, ⟨(.int .i64), a4⟩, ⟨(.int .i64), a5⟩, ⟨(.int .i64), a6⟩, ⟨.str, a7⟩, ⟨(.int .i64), a8⟩, ⟨(.int .i64), a9⟩, ⟨(.int .i64), a10⟩, ⟨.str, a11⟩, ⟨(.slc (.int .i64)), a12⟩, ⟨(.slc (.st 1038)), a13⟩, ⟨(.slc (.int .i64)), a14⟩, ⟨(.slc (.st 1038)), a15⟩] => rec a0 a1 a2 a3 a4 a5 a6 a7 a8 a9 a10 a11 a12 a13 a14 a15
  | _ => none
def qan_enc11 : Nat → List (TV U) → Option ((List UInt8) × Bool × Bool × Int × Int × Int × (List UInt8) × Int × Int × Int × (List UInt8) × (List (Int)) × (List (ACode)) × (List (Int)) × (List (ACode)))
  | 0, [⟨.str, a0⟩, ⟨.bool, a1⟩, ⟨.bool, a2⟩, ⟨(.int .i64), a3⟩, ⟨(.int .i64), a4⟩, ⟨(.int .i64), a5⟩, ⟨.str, a6⟩, ⟨(.int .i64), a7⟩, ⟨(.int .i64), a8⟩, ⟨(.int .i64), a9⟩, ⟨.str, a10⟩, ⟨(.slc (.int .i64)), a11⟩, ⟨(.slc (.st 1038)), a12⟩, ⟨(.slc (.int .i64)), a13⟩, ⟨(.slc (.st 1038)), a14⟩] => some (a0, a1, a2, a3, a4, a5, a6, a7, a8, a9, a10, a11, a12, a13, a14)
  | _, _ => none
def qan_dec11 : (List UInt8) × Bool × Bool × Int × Int × Int × (List UInt8) × Int × Int × Int × (List UInt8) × (List (Int)) × (List (ACode)) × (List (Int)) × (List (ACode)) → Nat × List (TV U) := fun x => (0, [⟨.str, x.1⟩, ⟨.bool, x.2.1⟩, ⟨.bool, x.2.2.1⟩, ⟨(.int .i64), x.2.2.2.1⟩, ⟨(.int .i64), x.2.2.2.2.1⟩, ⟨(.int .i64), x.2.2.2.2.2.1⟩, ⟨.str, x.2.2.2.2.2.2.1⟩, ⟨(.int .i64), x.2.2.2.2.2.2.2.1⟩, ⟨(.int .i64), x.2.2.2.2.2.2.2.2.1⟩, ⟨(.int .i64), x.2.2.2.2.2.2.2.2.2.1⟩, ⟨.str, x.2.2.2.2.2.2.2.2.2.2.1⟩, ⟨(.slc (.int .i64)), x.2.2.2.2.2.2.2.2.2.2.2.1⟩, ⟨(.slc (.st 1038)), x.2.2.2.2.2.2.2.2.2.2.2.2.1⟩, ⟨(.slc (.int .i64)), x.2.2.2.2.2.2.2.2.2.2.2.2.2.1⟩, ⟨(.slc (.st 1038)), x.2.2.2.2.2.2.2.2.2.2.2.2.2.2⟩])
def qan_tr11 : (List UInt8) × Bool × Bool × Int × Int × Int × (List UInt8) × Int × Int × Int × (List UInt8) × (List (Int)) × (List (ACode)) × (List (Int)) × (List (ACode)) → Tr (Nat × List (TV U)) := fun x => .ret (0, [⟨.str, x.1⟩, ⟨.bool, x.2.1⟩, ⟨.bool, x.2.2.1⟩, ⟨(.int .i64), x.2.2.2.1⟩, ⟨(.int .i64), x.2.2.2.2.1⟩, ⟨(.int .i64), x.2.2.2.2.2.1⟩, ⟨.str, x.2.2.2.2.2.2.1⟩, ⟨(.int .i64), x.2.2.2.2.2.2.2.1⟩, ⟨(.int .i64), x.2.2.2.2.2.2.2.2.1⟩, ⟨(.int .i64), x.2.2.2.2.2.2.2.2.2.1⟩, ⟨.str, x.2.2.2.2.2.2.2.2.2.2.1⟩, ⟨(.slc (.int .i64)), x.2.2.2.2.2.2.2.2.2.2.2.1⟩, ⟨(.slc (.st 1038)), x.2.2.2.2.2.2.2.2.2.2.2.2.1⟩, ⟨(.slc (.int .i64)), x.2.2.2.2.2.2.2.2.2.2.2.2.2.1⟩, ⟨(.slc (.st 1038)), x.2.2.2.2.2.2.2.2.2.2.2.2.2.2⟩])
def qan_lp11 : Lift.Loop U := ⟨qan_sh11, qan_o11, fun ls => .get (qan_rec11 qan_l11 ls) qan_tr11⟩
theorem qan_ok11 : LoopR kk env0 Tryd.f5.ntmps qan_b11 qan_lp11 :=
  loop_of qan_enc11 qan_dec11 (fun n => qan_rec11 (qan_i11 n)) (kitOk_of eqOk mixed known41) (L := qan_L11) (loopsOk_of (bs := [qan_b15]) (by kernel_rfl) ⟨.inr ⟨_, by kernel_rfl, LoopOk.of_round (qan_ok15)⟩, trivial⟩) (fun _ => rfl) (by intro i qs r h; unfold qan_enc11 at h; split at h <;> cases h <;> rfl)
    (by intro ls r h; unfold qan_rec11 at h; split at h <;> cases h)
    (by intro n ls r h; unfold qan_rec11 at h; split at h; exact (show _ = qan_t11 (qan_i11 n) _ _ _ _ _ _ _ _ _ _ _ _ _ _ _ _ from by kernel_rfl).trans h; cases h) (by rw [qan_l11, sealF_eq])
def qan_sh : StSh := ⟨⟨[0], [], []⟩, [.t .str], []⟩
def qan_os : List StSh := [⟨⟨[0], [], []⟩, [.t .bool], []⟩]
def qan_tr : Bool → Tr (Nat × List (TV U)) := fun x => .ret (0, [⟨.bool, x⟩])
def qan_L : Nat → Option (Lift.Loop U) := fun n => bif Nat.beq n joinKey then some joinMark else bif Nat.beq n 6 then some qan_lp6 else bif Nat.beq n 11 then some qan_lp11 else none
def qan_enc : Nat → List (TV U) → Option (Bool)
  | 0, [⟨.bool, a0⟩] => some a0
  | _, _ => none
def qan_dec : Bool → Nat × List (TV U) := fun x => (0, [⟨.bool, x⟩])
def qan_in : List (TV U) → Option (Bool)
  | [⟨.str, a0⟩] => qan a0
  | _ => none
def qan_md : Mode U := ⟨qan_sh, [], qan_os, fun ls => .get (qan_in ls) qan_tr⟩
theorem qan_post : ModeOk kk env0 5 qan_md :=
  fn_of (fn := Tryd.f5) qan_enc qan_dec (kitOk_of eqOk mixed known41) (by kernel_rfl) (L := qan_L) (loopsOk_of (bs := [qan_b6, qan_b11]) (by kernel_rfl) ⟨.inr ⟨_, by kernel_rfl, LoopOk.of_round (qan_ok6)⟩, .inr ⟨_, by kernel_rfl, LoopOk.of_round (qan_ok11)⟩, trivial⟩) (fun _ => rfl) (by intro i qs r h; unfold qan_enc at h; split at h <;> cases h <;> rfl)
    (by intro ls r h; unfold qan_in at h; split at h; rw [qan, sealF_eq] at h; exact Eq.trans (by kernel_rfl) h; cases h)
end
end Lift.H1
