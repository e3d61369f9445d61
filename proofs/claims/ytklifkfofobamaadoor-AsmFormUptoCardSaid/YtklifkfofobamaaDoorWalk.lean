/-
  DERIVED. Each function of this seat computes its Lean function. Conditions: as each theorem says.
-/
import Derived.Test.YtklifkfofobamaaDoorDefs
set_option linter.unusedVariables false
set_option linter.unusedSimpArgs false
set_option linter.unusedSectionVars false
namespace Lift.H1
noncomputable section
open Go Go.RowKit Go.Proofs Lift Lift.Fn
def qag_sh : StSh := ⟨⟨[0], [], []⟩, [.t (.int .i64)], []⟩
def qag_os : List StSh := [⟨⟨[0], [], []⟩, [.t .bool], []⟩]
def qag_tr : Bool → Tr (Nat × List (TV U)) := fun x => .ret (0, [⟨.bool, x⟩])
def qag_enc : Nat → List (TV U) → Option (Bool)
  | 0, [⟨.bool, a0⟩] => some a0
  | _, _ => none
def qag_dec : Bool → Nat × List (TV U) := fun x => (0, [⟨.bool, x⟩])
def qag_in : List (TV U) → Option (Bool)
  | [⟨(.int .i64), a0⟩] => qag a0
  | _ => none
def qag_md : Mode U := ⟨qag_sh, [], qag_os, fun ls => .get (qag_in ls) qag_tr⟩
theorem qag_post : ModeOk kk env0 17 qag_md :=
  fn_of (fn := Tryd.f17) qag_enc qag_dec (kitOk_of eqOk mixed known6) (by kernel_rfl) (L := jnL) (loopsOk_of (bs := []) (by kernel_rfl) trivial) (fun _ => rfl) (by intro i qs r h; unfold qag_enc at h; split at h <;> cases h <;> rfl)
    (by intro ls r h; unfold qag_in at h; split at h; rw [qag, sealF_eq] at h; exact Eq.trans (by kernel_rfl) h; cases h)
def ms7 : List (FuncId × Mode U) := (17, qag_md) :: ms6
theorem known7 : Known kk env0 (modesOf ms7) := known_cons (by kernel_rfl) qag_post known6
def qah_sh : StSh := ⟨⟨[], [], []⟩, [], []⟩
def qah_os : List StSh := [⟨⟨[0], [], [⟨.slot 0, 100000, 57, (.st 57)⟩]⟩, [.oslc 100000], [.row 57 (.st 57)]⟩]
def qah_tr : (List (Operation)) → Tr (Nat × List (TV U)) := fun x => .ret (0, [⟨(.slc (.st 57)), x⟩])
def qah_enc : Nat → List (TV U) → Option ((List (Operation)))
  | 0, [⟨(.slc (.st 57)), a0⟩] => some a0
  | _, _ => none
def qah_dec : (List (Operation)) → Nat × List (TV U) := fun x => (0, [⟨(.slc (.st 57)), x⟩])
def qah_in : List (TV U) → Option ((List (Operation)))
  | [] => qah
  | _ => none
def qah_md : Mode U := ⟨qah_sh, [], qah_os, fun ls => .get (qah_in ls) qah_tr⟩
theorem qah_post : ModeOk kk env0 22 qah_md :=
  fn_of (fn := Tryd.f22) qah_enc qah_dec (kitOk_of eqOk mixed known7) (by kernel_rfl) (L := jnL) (loopsOk_of (bs := []) (by kernel_rfl) trivial) (fun _ => rfl) (by intro i qs r h; unfold qah_enc at h; split at h <;> cases h <;> rfl)
    (by intro ls r h; unfold qah_in at h; split at h; rw [qah, sealF_eq] at h; exact Eq.trans (by kernel_rfl) h; cases h)
def ms8 : List (FuncId × Mode U) := (22, qah_md) :: ms7
theorem known8 : Known kk env0 (modesOf ms8) := known_cons (by kernel_rfl) qah_post known7
def qad_sh6 : StSh := ⟨⟨[3, 4, 8, 44, 45, 46], [3, 4], [⟨.slot 44, 44, 3, (.int .i64)⟩]⟩, [.ptr 3 0, .ptr 4 0, .t .str, .oslc 44, .t (.int .i64), .t (.int .i64)], [.blk 25 [.t (.slc (.int .i64)), .t (.int .i64), .t (.slc (.st 38))], .blk 38 [.t (.int .i64), .t (.slc (.st 40))], .row 3 (.int .i64)]⟩
def qad_o6 : List Out := [⟨.ret, ⟨⟨[6], [], []⟩, [.t .bool], []⟩⟩, ⟨.exit 0, ⟨⟨[], [], []⟩, [], []⟩⟩]
def qad_b6 : Code := (nthLoop (bodyOf Tryd.f18) 0)
def qad_rec6 (rec : List UInt8 → Int → Int → List (Int) → Int → List (ACode) → Int → List (Instr) → List (Int) → Option ((Bool) ⊕ (Unit))) : List (TV U) → Option ((Bool) ⊕ (Unit))
  | [⟨.str, a0⟩, ⟨(.int .i64), a1⟩, ⟨(.int .i64), a2⟩, ⟨(.slc (.int .i64)), a3⟩, ⟨(.int .i64), a4⟩, ⟨(.slc (.st 38)), a5⟩, ⟨(.int .i64), a6⟩, ⟨(.slc (.st 40)), a7⟩, ⟨(.slc (.int .i64)), a8⟩] => rec a0 a1 a2 a3 a4 a5 a6 a7 a8
  | _ => none
def qad_enc6 : Nat → List (TV U) → Option ((Bool) ⊕ (Unit))
  | 0, [⟨.bool, a0⟩] => some (.inl a0)
  | 1, [] => some (.inr ())
  | _, _ => none
def qad_dec6 : (Bool) ⊕ (Unit) → Nat × List (TV U) := fun r => match r with | (.inl x) => (0, [⟨.bool, x⟩]) | (.inr x) => (1, [])
def qad_tr6 : (Bool) ⊕ (Unit) → Tr (Nat × List (TV U)) := fun r => .alt r (fun x => .ret (0, [⟨.bool, x⟩])) (fun y => (fun x => .ret (1, [])) y)
def qad_lp6 : Lift.Loop U := ⟨qad_sh6, qad_o6, fun ls => .get (qad_rec6 qad_l6 ls) qad_tr6⟩
theorem qad_ok6 : LoopR kk env0 Tryd.f18.ntmps qad_b6 qad_lp6 :=
  loop_of qad_enc6 qad_dec6 (fun n => qad_rec6 (qad_i6 n)) (kitOk_of eqOk mixed known8) (L := jnL) (loopsOk_of (bs := []) (by kernel_rfl) trivial) (by intro r; rcases r with r | r <;> rfl) (by intro i qs r h; unfold qad_enc6 at h; split at h <;> cases h <;> rfl)
    (by intro ls r h; unfold qad_rec6 at h; split at h <;> cases h)
    (by intro n ls r h; unfold qad_rec6 at h; split at h; exact (show _ = qad_t6 (qad_i6 n) _ _ _ _ _ _ _ _ _ from by kernel_rfl).trans h; cases h) (by rw [qad_l6, sealF_eq])
def qad_sh : StSh := ⟨⟨[0, 1, 2], [], []⟩, [.t (.st 25), .t (.st 38), .t (.st 40)], []⟩
def qad_os : List StSh := [⟨⟨[0], [], []⟩, [.t .bool], []⟩]
def qad_tr : Bool → Tr (Nat × List (TV U)) := fun x => .ret (0, [⟨.bool, x⟩])
def qad_L : Nat → Option (Lift.Loop U) := fun n => bif Nat.beq n joinKey then some joinMark else bif Nat.beq n 6 then some qad_lp6 else none
def qad_enc : Nat → List (TV U) → Option (Bool)
  | 0, [⟨.bool, a0⟩] => some a0
  | _, _ => none
def qad_dec : Bool → Nat × List (TV U) := fun x => (0, [⟨.bool, x⟩])
def qad_in : List (TV U) → Option (Bool)
  | [⟨(.st 25), a0⟩, ⟨(.st 38), a1⟩, ⟨(.st 40), a2⟩] => qad a0 a1 a2
  | _ => none
def qad_md : Mode U := ⟨qad_sh, [], qad_os, fun ls => .get (qad_in ls) qad_tr⟩
theorem qad_post : ModeOk kk env0 18 qad_md :=
  fn_of (fn := Tryd.f18) qad_enc qad_dec (kitOk_of eqOk mixed known8) (by kernel_rfl) (L := qad_L) (loopsOk_of (bs := [qad_b6]) (by kernel_rfl) ⟨.inr ⟨_, by kernel_rfl, LoopOk.of_round (qad_ok6)⟩, trivial⟩) (fun _ => rfl) (by intro i qs r h; unfold qad_enc at h; split at h <;> cases h <;> rfl)
    (by intro ls r h; unfold qad_in at h; split at h; rw [qad, sealF_eq] at h; exact Eq.trans (by kernel_rfl) h; cases h)
def ms9 : List (FuncId × Mode U) := (18, qad_md) :: ms8
theorem known9 : Known kk env0 (modesOf ms9) := known_cons (by kernel_rfl) qad_post known8
def qac_sh4 : StSh := ⟨⟨[1, 38, 39, 40], [1], []⟩, [.ptr 1 0, .t (.slc (.int .i64)), .t (.int .i64), .t (.int .i64)], [.blk 25 [.t (.slc (.int .i64)), .t (.int .i64), .t (.slc (.st 38))]]⟩
def qac_o4 : List Out := [⟨.ret, ⟨⟨[2], [], []⟩, [.t .bool], []⟩⟩, ⟨.exit 0, ⟨⟨[1], [1], []⟩, [.ptr 1 0], [.blk 25 [.t (.slc (.int .i64)), .t (.int .i64), .t (.slc (.st 38))]]⟩⟩]
def qac_b4 : Code := (nthLoop (bodyOf Tryd.f10) 0)
def qac_rec4 (rec : List (Int) → Int → Int → List (Int) → Int → List (ACode) → Option ((Bool) ⊕ ((List (Int)) × Int × (List (ACode))))) : List (TV U) → Option ((Bool) ⊕ ((List (Int)) × Int × (List (ACode))))
  | [⟨(.slc (.int .i64)), a0⟩, ⟨(.int .i64), a1⟩, ⟨(.int .i64), a2⟩, ⟨(.slc (.int .i64)), a3⟩, ⟨(.int .i64), a4⟩, ⟨(.slc (.st 38)), a5⟩] => rec a0 a1 a2 a3 a4 a5
  | _ => none
def qac_enc4 : Nat → List (TV U) → Option ((Bool) ⊕ ((List (Int)) × Int × (List (ACode))))
  | 0, [⟨.bool, a0⟩] => some (.inl a0)
  | 1, [⟨(.slc (.int .i64)), a0⟩, ⟨(.int .i64), a1⟩, ⟨(.slc (.st 38)), a2⟩] => some (.inr (a0, a1, a2))
  | _, _ => none
def qac_dec4 : (Bool) ⊕ ((List (Int)) × Int × (List (ACode))) → Nat × List (TV U) := fun r => match r with | (.inl x) => (0, [⟨.bool, x⟩]) | (.inr x) => (1, [⟨(.slc (.int .i64)), x.1⟩, ⟨(.int .i64), x.2.1⟩, ⟨(.slc (.st 38)), x.2.2⟩])
def qac_tr4 : (Bool) ⊕ ((List (Int)) × Int × (List (ACode))) → Tr (Nat × List (TV U)) := fun r => .alt r (fun x => .ret (0, [⟨.bool, x⟩])) (fun y => (fun x => .ret (1, [⟨(.slc (.int .i64)), x.1⟩, ⟨(.int .i64), x.2.1⟩, ⟨(.slc (.st 38)), x.2.2⟩])) y)
def qac_lp4 : Lift.Loop U := ⟨qac_sh4, qac_o4, fun ls => .get (qac_rec4 qac_l4 ls) qac_tr4⟩
theorem qac_ok4 : LoopR kk env0 Tryd.f10.ntmps qac_b4 qac_lp4 :=
  loop_of qac_enc4 qac_dec4 (fun n => qac_rec4 (qac_i4 n)) (kitOk_of eqOk mixed known9) (L := jnL) (loopsOk_of (bs := []) (by kernel_rfl) trivial) (by intro r; rcases r with r | r <;> rfl) (by intro i qs r h; unfold qac_enc4 at h; split at h <;> cases h <;> rfl)
    (by intro ls r h; unfold qac_rec4 at h; split at h <;> cases h)
    (by intro n ls r h; unfold qac_rec4 at h; split at h; exact (show _ = qac_t4 (qac_i4 n) _ _ _ _ _ _ from by kernel_rfl).trans h; cases h) (by rw [qac_l4, sealF_eq])
def qac_sh19 : StSh := ⟨⟨[1, 6, 49, 50, 51, 88, 89, 90], [1, 6], []⟩, [.ptr 1 0, .ptr 6 0, .t (.slc (.st 38)), .t (.int .i64), .t (.int .i64), .t (.slc (.st 40)), .t (.int .i64), .t (.int .i64)], [.blk 25 [.t (.slc (.int .i64)), .t (.int .i64), .t (.slc (.st 38))], .blk 38 [.t (.int .i64), .t (.slc (.st 40))]]⟩
def qac_o19 : List Out := [⟨.ret, ⟨⟨[2], [], []⟩, [.t .bool], []⟩⟩, ⟨.exit 4, ⟨⟨[1, 49, 50, 51], [1], []⟩, [.ptr 1 0, .t (.slc (.st 38)), .t (.int .i64), .t (.int .i64)], [.blk 25 [.t (.slc (.int .i64)), .t (.int .i64), .t (.slc (.st 38))]]⟩⟩]
def qac_b19 : Code := (nthLoop (nthLoop (bodyOf Tryd.f10) 1) 0)
def qac_rec19 (rec : List (ACode) → Int → Int → List (Instr) → Int → Int → List (Int) → Int → List (ACode) → Int → List (Instr) → Option ((Bool) ⊕ ((List (ACode)) × Int × Int × (List (Int)) × Int × (List (ACode))))) : List (TV U) → Option ((Bool) ⊕ ((List (ACode)) × Int × Int × (List (Int)) × Int × (List (ACode))))
  | [⟨(.slc (.st 38)), a0⟩, ⟨(.int .i64), a1⟩, ⟨(.int .i64), a2⟩, ⟨(.slc (.st 40)), a3⟩, ⟨(.int .i64), a4⟩, ⟨(.int .i64), a5⟩, ⟨(.slc (.int .i64)), a6⟩, ⟨(.int .i64), a7⟩, ⟨(.slc (.st 38)), a8⟩, ⟨(.int .i64), a9⟩, ⟨(.slc (.st 40)), a10⟩] => rec a0 a1 a2 a3 a4 a5 a6 a7 a8 a9 a10
  | _ => none
def qac_enc19 : Nat → List (TV U) → Option ((Bool) ⊕ ((List (ACode)) × Int × Int × (List (Int)) × Int × (List (ACode))))
  | 0, [⟨.bool, a0⟩] => some (.inl a0)
  | 1, [⟨(.slc (.st 38)), a0⟩, ⟨(.int .i64), a1⟩, ⟨(.int .i64), a2⟩, ⟨(.slc (.int .i64)), a3⟩, ⟨(.int .i64), a4⟩, ⟨(.slc (.st 38)), a5⟩] => some (.inr (a0, a1, a2, a3, a4, a5))
  | _, _ => none
def qac_dec19 : (Bool) ⊕ ((List (ACode)) × Int × Int × (List (Int)) × Int × (List (ACode))) → Nat × List (TV U) := fun r => match r with | (.inl x) => (0, [⟨.bool, x⟩]) | (.inr x) => (1, [⟨(.slc (.st 38)), x.1⟩, ⟨(.int .i64), x.2.1⟩, ⟨(.int .i64), x.2.2.1⟩, ⟨(.slc (.int .i64)), x.2.2.2.1⟩, ⟨(.int .i64), x.2.2.2.2.1⟩, ⟨(.slc (.st 38)), x.2.2.2.2.2⟩])
def qac_tr19 : (Bool) ⊕ ((List (ACode)) × Int × Int × (List (Int)) × Int × (List (ACode))) → Tr (Nat × List (TV U)) := fun r => .alt r (fun x => .ret (0, [⟨.bool, x⟩])) (fun y => (fun x => .ret (1, [⟨(.slc (.st 38)), x.1⟩, ⟨(.int .i64), x.2.1⟩, ⟨(.int .i64), x.2.2.1⟩, ⟨(.slc (.int .i64)), x.2.2.2.1⟩, ⟨(.int .i64), x.2.2.2.2.1⟩, ⟨(.slc (.st 38)), x.2.2.2.2.2⟩])) y)
def qac_lp19 : Lift.Loop U := ⟨qac_sh19, qac_o19, fun ls => .get (qac_rec19 qac_l19 ls) qac_tr19⟩
theorem qac_ok19 : LoopR kk env0 Tryd.f10.ntmps qac_b19 qac_lp19 :=
  loop_of qac_enc19 qac_dec19 (fun n => qac_rec19 (qac_i19 n)) (kitOk_of eqOk mixed known9) (L := jnL) (loopsOk_of (bs := []) (by kernel_rfl) trivial) (by intro r; rcases r with r | r <;> rfl) (by intro i qs r h; unfold qac_enc19 at h; split at h <;> cases h <;> rfl)
    (by intro ls r h; unfold qac_rec19 at h; split at h <;> cases h)
    (by intro n ls r h; unfold qac_rec19 at h; split at h; exact (show _ = qac_t19 (qac_i19 n) _ _ _ _ _ _ _ _ _ _ _ from by kernel_rfl).trans h; cases h) (by rw [qac_l19, sealF_eq])
def qac_sh10 : StSh := ⟨⟨[1, 49, 50, 51], [1], []⟩, [.ptr 1 0, .t (.slc (.st 38)), .t (.int .i64), .t (.int .i64)], [.blk 25 [.t (.slc (.int .i64)), .t (.int .i64), .t (.slc (.st 38))]]⟩
def qac_o10 : List Out := [⟨.ret, ⟨⟨[2], [], []⟩, [.t .bool], []⟩⟩, ⟨.exit 2, ⟨⟨[], [], []⟩, [], []⟩⟩]
def qac_b10 : Code := (nthLoop (bodyOf Tryd.f10) 1)
def qac_L10 : Nat → Option (Lift.Loop U) := fun n => bif Nat.beq n joinKey then some joinMark else bif Nat.beq n 19 then some qac_lp19 else none
def qac_rec10 (rec : List (ACode) → Int → Int → List (Int) → Int → List (ACode) → Option ((Bool) ⊕ (Unit))) : List (TV U) → Option ((Bool) ⊕ (Unit))
  | [⟨(.slc (.st 38)), a0⟩, ⟨(.int .i64), a1⟩, ⟨(.int .i64), a2⟩, ⟨(.slc (.int .i64)), a3⟩, ⟨(.int .i64), a4⟩, ⟨(.slc (.st 38)), a5⟩] => rec a0 a1 a2 a3 a4 a5
  | _ => none
def qac_enc10 : Nat → List (TV U) → Option ((Bool) ⊕ (Unit))
  | 0, [⟨.bool, a0⟩] => some (.inl a0)
  | 1, [] => some (.inr ())
  | _, _ => none
def qac_dec10 : (Bool) ⊕ (Unit) → Nat × List (TV U) := fun r => match r with | (.inl x) => (0, [⟨.bool, x⟩]) | (.inr x) => (1, [])
def qac_tr10 : (Bool) ⊕ (Unit) → Tr (Nat × List (TV U)) := fun r => .alt r (fun x => .ret (0, [⟨.bool, x⟩])) (fun y => (fun x => .ret (1, [])) y)
def qac_lp10 : Lift.Loop U := ⟨qac_sh10, qac_o10, fun ls => .get (qac_rec10 qac_l10 ls) qac_tr10⟩
theorem qac_ok10 : LoopR kk env0 Tryd.f10.ntmps qac_b10 qac_lp10 :=
  loop_of qac_enc10 qac_dec10 (fun n => qac_rec10 (qac_i10 n)) (kitOk_of eqOk mixed known9) (L := qac_L10) (loopsOk_of (bs := [qac_b19]) (by kernel_rfl) ⟨.inr ⟨_, by kernel_rfl, LoopOk.of_round (qac_ok19)⟩, trivial⟩) (by intro r; rcases r with r | r <;> rfl) (by intro i qs r h; unfold qac_enc10 at h; split at h <;> cases h <;> rfl)
    (by intro ls r h; unfold qac_rec10 at h; split at h <;> cases h)
    (by intro n ls r h; unfold qac_rec10 at h; split at h; exact (show _ = qac_t10 (qac_i10 n) _ _ _ _ _ _ from by kernel_rfl).trans h; cases h) (by rw [qac_l10, sealF_eq])
def qac_sh : StSh := ⟨⟨[0], [], []⟩, [.t (.st 25)], []⟩
def qac_os : List StSh := [⟨⟨[0], [], []⟩, [.t .bool], []⟩]
def qac_tr : Bool → Tr (Nat × List (TV U)) := fun x => .ret (0, [⟨.bool, x⟩])
def qac_L : Nat → Option (Lift.Loop U) := fun n => bif Nat.beq n joinKey then some joinMark else bif Nat.beq n 4 then some qac_lp4 else bif Nat.beq n 10 then some qac_lp10 else none
def qac_enc : Nat → List (TV U) → Option (Bool)
  | 0, [⟨.bool, a0⟩] => some a0
  | _, _ => none
def qac_dec : Bool → Nat × List (TV U) := fun x => (0, [⟨.bool, x⟩])
def qac_in : List (TV U) → Option (Bool)
  | [⟨(.st 25), a0⟩] => qac a0
  | _ => none
def qac_md : Mode U := ⟨qac_sh, [], qac_os, fun ls => .get (qac_in ls) qac_tr⟩
theorem qac_post : ModeOk kk env0 10 qac_md :=
  fn_of (fn := Tryd.f10) qac_enc qac_dec (kitOk_of eqOk mixed known9) (by kernel_rfl) (L := qac_L) (loopsOk_of (bs := [qac_b4, qac_b10]) (by kernel_rfl) ⟨.inr ⟨_, by kernel_rfl, LoopOk.of_round (qac_ok4)⟩, .inr ⟨_, by kernel_rfl, LoopOk.of_round (qac_ok10)⟩, trivial⟩) (fun _ => rfl) (by intro i qs r h; unfold qac_enc at h; split at h <;> cases h <;> rfl)
    (by intro ls r h; unfold qac_in at h; split at h; rw [qac, sealF_eq] at h; exact Eq.trans (by kernel_rfl) h; cases h)
def ms10 : List (FuncId × Mode U) := (10, qac_md) :: ms9
theorem known10 : Known kk env0 (modesOf ms10) := known_cons (by kernel_rfl) qac_post known9
def qat_sh : StSh := ⟨⟨[0, 1], [100000], [⟨.cell 100000 1, 200001, 5, (.int .u8)⟩]⟩, [.ptr 100000 0, .t .str], [.blk 52 [.selfp 100000, .oslc 200001], .row 5 (.int .u8)]⟩
def qat_os : List StSh := [⟨⟨[0, 1], [100000], [⟨.cell 100000 1, 200001, 5, (.int .u8)⟩]⟩, [.t (.int .i64), .t .err], [.blk 52 [.selfp 100000, .oslc 200001], .row 5 (.int .u8)]⟩]
def qat_tr : Int × Bool × (List (Int)) → Tr (Nat × List (TV U)) := fun x => .ret (0, [⟨(.int .i64), x.1⟩, ⟨.err, x.2.1⟩, ⟨(.slc (.int .u8)), x.2.2⟩])
def qat_enc : Nat → List (TV U) → Option (Int × Bool × (List (Int)))
  | 0, [⟨(.int .i64), a0⟩, ⟨.err, a1⟩, ⟨(.slc (.int .u8)), a2⟩] => some (a0, a1, a2)
  | _, _ => none
def qat_dec : Int × Bool × (List (Int)) → Nat × List (TV U) := fun x => (0, [⟨(.int .i64), x.1⟩, ⟨.err, x.2.1⟩, ⟨(.slc (.int .u8)), x.2.2⟩])
def qat_in : List (TV U) → Option (Int × Bool × (List (Int)))
  | [⟨.str, a0⟩, ⟨(.slc (.int .u8)), a1⟩] => qat a0 a1
  | _ => none
def qat_md : Mode U := ⟨qat_sh, [⟨100000, .slot 0, []⟩], qat_os, fun ls => .get (qat_in ls) qat_tr⟩
theorem qat_post : ModeOk kk env0 30 qat_md :=
  fn_of (fn := Tryd.f30) qat_enc qat_dec (kitOk_of eqOk mixed known10) (by kernel_rfl) (L := noL) (loopsOk_of (bs := []) (by kernel_rfl) trivial) (fun _ => rfl) (by intro i qs r h; unfold qat_enc at h; split at h <;> cases h <;> rfl)
    (by intro ls r h; unfold qat_in at h; split at h; rw [qat, sealF_eq] at h; exact Eq.trans (by kernel_rfl) h; cases h)
def ms11 : List (FuncId × Mode U) := (30, qat_md) :: ms10
theorem known11 : Known kk env0 (modesOf ms11) := known_cons (by kernel_rfl) qat_post known10
def qas_sh : StSh := ⟨⟨[0, 1], [100000], [⟨.cell 100000 1, 200001, 5, (.int .u8)⟩]⟩, [.ptr 100000 0, .t (.int .u8)], [.blk 52 [.selfp 100000, .oslc 200001], .row 5 (.int .u8)]⟩
def qas_os : List StSh := [⟨⟨[0], [100000], [⟨.cell 100000 1, 200001, 5, (.int .u8)⟩]⟩, [.t .err], [.blk 52 [.selfp 100000, .oslc 200001], .row 5 (.int .u8)]⟩]
def qas_tr : Bool × (List (Int)) → Tr (Nat × List (TV U)) := fun x => .ret (0, [⟨.err, x.1⟩, ⟨(.slc (.int .u8)), x.2⟩])
def qas_enc : Nat → List (TV U) → Option (Bool × (List (Int)))
  | 0, [⟨.err, a0⟩, ⟨(.slc (.int .u8)), a1⟩] => some (a0, a1)
  | _, _ => none
def qas_dec : Bool × (List (Int)) → Nat × List (TV U) := fun x => (0, [⟨.err, x.1⟩, ⟨(.slc (.int .u8)), x.2⟩])
def qas_in : List (TV U) → Option (Bool × (List (Int)))
  | [⟨(.int .u8), a0⟩, ⟨(.slc (.int .u8)), a1⟩] => qas a0 a1
  | _ => none
def qas_md : Mode U := ⟨qas_sh, [⟨100000, .slot 0, []⟩], qas_os, fun ls => .get (qas_in ls) qas_tr⟩
theorem qas_post : ModeOk kk env0 32 qas_md :=
  fn_of (fn := Tryd.f32) qas_enc qas_dec (kitOk_of eqOk mixed known11) (by kernel_rfl) (L := noL) (loopsOk_of (bs := []) (by kernel_rfl) trivial) (fun _ => rfl) (by intro i qs r h; unfold qas_enc at h; split at h <;> cases h <;> rfl)
    (by intro ls r h; unfold qas_in at h; split at h; rw [qas, sealF_eq] at h; exact Eq.trans (by kernel_rfl) h; cases h)
def ms12 : List (FuncId × Mode U) := (32, qas_md) :: ms11
theorem known12 : Known kk env0 (modesOf ms12) := known_cons (by kernel_rfl) qas_post known11
def qae_sh2 : StSh := ⟨⟨[0, 11, 12, 13], [100000], [⟨.cell 100000 1, 200001, 5, (.int .u8)⟩]⟩, [.ptr 100000 0, .t (.slc (.int .i64)), .t (.int .i64), .t (.int .i64)], [.blk 52 [.selfp 100000, .oslc 200001], .row 5 (.int .u8)]⟩
def qae_o2 : List Out := [⟨.exit 0, ⟨⟨[0], [100000], [⟨.cell 100000 1, 200001, 5, (.int .u8)⟩]⟩, [.ptr 100000 0], [.blk 52 [.selfp 100000, .oslc 200001], .row 5 (.int .u8)]⟩⟩]
def qae_b2 : Code := (nthLoop (bodyOf Tryd.f23) 0)
def qae_rec2 (rec : List (Int) → Int → Int → List (Int) → Option ((List (Int)))) : List (TV U) → Option ((List (Int)))
  | [⟨(.slc (.int .i64)), a0⟩, ⟨(.int .i64), a1⟩, ⟨(.int .i64), a2⟩, ⟨(.slc (.int .u8)), a3⟩] => rec a0 a1 a2 a3
  | _ => none
def qae_enc2 : Nat → List (TV U) → Option ((List (Int)))
  | 0, [⟨(.slc (.int .u8)), a0⟩] => some a0
  | _, _ => none
def qae_dec2 : (List (Int)) → Nat × List (TV U) := fun x => (0, [⟨(.slc (.int .u8)), x⟩])
def qae_tr2 : (List (Int)) → Tr (Nat × List (TV U)) := fun x => .ret (0, [⟨(.slc (.int .u8)), x⟩])
def qae_lp2 : Lift.Loop U := ⟨qae_sh2, qae_o2, fun ls => .get (qae_rec2 qae_l2 ls) qae_tr2⟩
theorem qae_ok2 : LoopR kk env0 Tryd.f23.ntmps qae_b2 qae_lp2 :=
  loop_of qae_enc2 qae_dec2 (fun n => qae_rec2 (qae_i2 n)) (kitOk_of eqOk mixed known12) (L := jnL) (loopsOk_of (bs := []) (by kernel_rfl) trivial) (fun _ => rfl) (by intro i qs r h; unfold qae_enc2 at h; split at h <;> cases h <;> rfl)
    (by intro ls r h; unfold qae_rec2 at h; split at h <;> cases h)
    (by intro n ls r h; unfold qae_rec2 at h; split at h; exact (show _ = qae_t2 (qae_i2 n) _ _ _ _ from by kernel_rfl).trans h; cases h) (by rw [qae_l2, sealF_eq])
def qae_sh : StSh := ⟨⟨[0, 1, 2], [100000], [⟨.cell 100000 1, 200001, 5, (.int .u8)⟩]⟩, [.ptr 100000 0, .t .str, .t (.slc (.int .i64))], [.blk 52 [.selfp 100000, .oslc 200001], .row 5 (.int .u8)]⟩
def qae_os : List StSh := [⟨⟨[], [100000], [⟨.cell 100000 1, 200001, 5, (.int .u8)⟩]⟩, [], [.blk 52 [.selfp 100000, .oslc 200001], .row 5 (.int .u8)]⟩]
def qae_tr : (List (Int)) → Tr (Nat × List (TV U)) := fun x => .ret (0, [⟨(.slc (.int .u8)), x⟩])
def qae_L : Nat → Option (Lift.Loop U) := fun n => bif Nat.beq n joinKey then some joinMark else bif Nat.beq n 2 then some qae_lp2 else none
def qae_enc : Nat → List (TV U) → Option ((List (Int)))
  | 0, [⟨(.slc (.int .u8)), a0⟩] => some a0
  | _, _ => none
def qae_dec : (List (Int)) → Nat × List (TV U) := fun x => (0, [⟨(.slc (.int .u8)), x⟩])
def qae_in : List (TV U) → Option ((List (Int)))
  | [⟨.str, a0⟩, ⟨(.slc (.int .i64)), a1⟩, ⟨(.slc (.int .u8)), a2⟩] => qae a0 a1 a2
  | _ => none
def qae_md : Mode U := ⟨qae_sh, [⟨100000, .slot 0, []⟩], qae_os, fun ls => .get (qae_in ls) qae_tr⟩
theorem qae_post : ModeOk kk env0 23 qae_md :=
  fn_of (fn := Tryd.f23) qae_enc qae_dec (kitOk_of eqOk mixed known12) (by kernel_rfl) (L := qae_L) (loopsOk_of (bs := [qae_b2]) (by kernel_rfl) ⟨.inr ⟨_, by kernel_rfl, LoopOk.of_round (qae_ok2)⟩, trivial⟩) (fun _ => rfl) (by intro i qs r h; unfold qae_enc at h; split at h <;> cases h <;> rfl)
    (by intro ls r h; unfold qae_in at h; split at h; rw [qae, sealF_eq] at h; exact Eq.trans (by kernel_rfl) h; cases h)
def ms13 : List (FuncId × Mode U) := (23, qae_md) :: ms12
theorem known13 : Known kk env0 (modesOf ms13) := known_cons (by kernel_rfl) qae_post known12
def qaa_sh12 : StSh := ⟨⟨[4, 5, 23, 24, 25, 34, 35, 36], [4], [⟨.slot 5, 5, 57, (.st 57)⟩, ⟨.cell 4 1, 20201, 5, (.int .u8)⟩]⟩, [.ptr 4 0, .oslc 5, .t (.slc (.st 38)), .t (.int .i64), .t (.int .i64), .t (.slc (.st 40)), .t (.int .i64), .t (.int .i64)], [.blk 52 [.selfp 4, .oslc 20201], .row 57 (.st 57), .row 5 (.int .u8)]⟩
def qaa_o12 : List Out := [⟨.exit 2, ⟨⟨[4, 5, 23, 24, 25], [4], [⟨.slot 5, 5, 57, (.st 57)⟩, ⟨.cell 4 1, 20201, 5, (.int .u8)⟩]⟩, [.ptr 4 0, .oslc 5, .t (.slc (.st 38)), .t (.int .i64), .t (.int .i64)], [.blk 52 [.selfp 4, .oslc 20201], .row 57 (.st 57), .row 5 (.int .u8)]⟩⟩]
def qaa_b12 : Code := (nthLoop (nthLoop (bodyOf Tryd.f12) 0) 0)
def qaa_rec12 (rec : List (ACode) → Int → Int → List (Instr) → Int → Int → List (Operation) → List (Int) → Option ((List (ACode)) × Int × Int × (List (Operation)) × (List (Int)))) : List (TV U) → Option ((List (ACode)) × Int × Int × (List (Operation)) × (List (Int)))
  | [⟨(.slc (.st 38)), a0⟩, ⟨(.int .i64), a1⟩, ⟨(.int .i64), a2⟩, ⟨(.slc (.st 40)), a3⟩, ⟨(.int .i64), a4⟩, ⟨(.int .i64), a5⟩, ⟨(.slc (.st 57)), a6⟩, ⟨(.slc (.int .u8)), a7⟩] => rec a0 a1 a2 a3 a4 a5 a6 a7
  | _ => none
def qaa_enc12 : Nat → List (TV U) → Option ((List (ACode)) × Int × Int × (List (Operation)) × (List (Int)))
  | 0, [⟨(.slc (.st 38)), a0⟩, ⟨(.int .i64), a1⟩, ⟨(.int .i64), a2⟩, ⟨(.slc (.st 57)), a3⟩, ⟨(.slc (.int .u8)), a4⟩] => some (a0, a1, a2, a3, a4)
  | _, _ => none
def qaa_dec12 : (List (ACode)) × Int × Int × (List (Operation)) × (List (Int)) → Nat × List (TV U) := fun x => (0, [⟨(.slc (.st 38)), x.1⟩, ⟨(.int .i64), x.2.1⟩, ⟨(.int .i64), x.2.2.1⟩, ⟨(.slc (.st 57)), x.2.2.2.1⟩, ⟨(.slc (.int .u8)), x.2.2.2.2⟩])
def qaa_tr12 : (List (ACode)) × Int × Int × (List (Operation)) × (List (Int)) → Tr (Nat × List (TV U)) := fun x => .ret (0, [⟨(.slc (.st 38)), x.1⟩, ⟨(.int .i64), x.2.1⟩, ⟨(.int .i64), x.2.2.1⟩, ⟨(.slc (.st 57)), x.2.2.2.1⟩, ⟨(.slc (.int .u8)), x.2.2.2.2⟩])
def qaa_lp12 : Lift.Loop U := ⟨qaa_sh12, qaa_o12, fun ls => .get (qaa_rec12 qaa_l12 ls) qaa_tr12⟩
theorem qaa_ok12 : LoopR kk env0 Tryd.f12.ntmps qaa_b12 qaa_lp12 :=
  loop_of qaa_enc12 qaa_dec12 (fun n => qaa_rec12 (qaa_i12 n)) (kitOk_of eqOk mixed known13) (L := jnL) (loopsOk_of (bs := []) (by kernel_rfl) trivial) (fun _ => rfl) (by intro i qs r h; unfold qaa_enc12 at h; split at h <;> cases h <;> rfl)
    (by intro ls r h; unfold qaa_rec12 at h; split at h <;> cases h)
    (by intro n ls r h; unfold qaa_rec12 at h; split at h; exact (show _ = qaa_t12 (qaa_i12 n) _ _ _ _ _ _ _ _ from by kernel_rfl).trans h; cases h) (by rw [qaa_l12, sealF_eq])
def qaa_sh8 : StSh := ⟨⟨[4, 5, 23, 24, 25], [4], [⟨.slot 5, 5, 57, (.st 57)⟩, ⟨.cell 4 1, 20201, 5, (.int .u8)⟩]⟩, [.ptr 4 0, .oslc 5, .t (.slc (.st 38)), .t (.int .i64), .t (.int .i64)], [.blk 52 [.selfp 4, .oslc 20201], .row 57 (.st 57), .row 5 (.int .u8)]⟩
def qaa_o8 : List Out := [⟨.exit 0, ⟨⟨[4], [4], [⟨.cell 4 1, 20201, 5, (.int .u8)⟩]⟩, [.ptr 4 0], [.blk 52 [.selfp 4, .oslc 20201], .row 5 (.int .u8)]⟩⟩]
def qaa_b8 : Code := (nthLoop (bodyOf Tryd.f12) 0)
def qaa_L8 : Nat → Option (Lift.Loop U) := fun n => bif Nat.beq n joinKey then some joinMark else bif Nat.beq n 12 then some qaa_lp12 else none
def qaa_rec8 (rec : List (ACode) → Int → Int → List (Operation) → List (Int) → Option ((List (Int)))) : List (TV U) → Option ((List (Int)))
  | [⟨(.slc (.st 38)), a0⟩, ⟨(.int .i64), a1⟩, ⟨(.int .i64), a2⟩, ⟨(.slc (.st 57)), a3⟩, ⟨(.slc (.int .u8)), a4⟩] => rec a0 a1 a2 a3 a4
  | _ => none
def qaa_enc8 : Nat → List (TV U) → Option ((List (Int)))
  | 0, [⟨(.slc (.int .u8)), a0⟩] => some a0
  | _, _ => none
def qaa_dec8 : (List (Int)) → Nat × List (TV U) := fun x => (0, [⟨(.slc (.int .u8)), x⟩])
def qaa_tr8 : (List (Int)) → Tr (Nat × List (TV U)) := fun x => .ret (0, [⟨(.slc (.int .u8)), x⟩])
def qaa_lp8 : Lift.Loop U := ⟨qaa_sh8, qaa_o8, fun ls => .get (qaa_rec8 qaa_l8 ls) qaa_tr8⟩
theorem qaa_ok8 : LoopR kk env0 Tryd.f12.ntmps qaa_b8 qaa_lp8 :=
  loop_of qaa_enc8 qaa_dec8 (fun n => qaa_rec8 (qaa_i8 n)) (kitOk_of eqOk mixed known13) (L := qaa_L8) (loopsOk_of (bs := [qaa_b12]) (by kernel_rfl) ⟨.inr ⟨_, by kernel_rfl, LoopOk.of_round (qaa_ok12)⟩, trivial⟩) (fun _ => rfl) (by intro i qs r h; unfold qaa_enc8 at h; split at h <;> cases h <;> rfl)
    (by intro ls r h; unfold qaa_rec8 at h; split at h <;> cases h)
    (by intro n ls r h; unfold qaa_rec8 at h; split at h; exact (show _ = qaa_t8 (qaa_i8 n) _ _ _ _ _ from by kernel_rfl).trans h; cases h) (by rw [qaa_l8, sealF_eq])
def qaa_sh : StSh := ⟨⟨[0], [], []⟩, [.t (.st 25)], []⟩
def qaa_os : List StSh := [⟨⟨[0, 1], [], []⟩, [.t .str, .t (.int .i64)], []⟩]
def qaa_tr : (List UInt8) × Int → Tr (Nat × List (TV U)) := fun x => .ret (0, [⟨.str, x.1⟩, ⟨(.int .i64), x.2⟩])
def qaa_L : Nat → Option (Lift.Loop U) := fun n => bif Nat.beq n joinKey then some joinMark else bif Nat.beq n 8 then some qaa_lp8 else none
def qaa_enc : Nat → List (TV U) → Option ((List UInt8) × Int)
  | 0, [⟨.str, a0⟩, ⟨(.int .i64), a1⟩] => some (a0, a1)
  | _, _ => none
def qaa_dec : (List UInt8) × Int → Nat × List (TV U) := fun x => (0, [⟨.str, x.1⟩, ⟨(.int .i64), x.2⟩])
def qaa_in : List (TV U) → Option ((List UInt8) × Int)
  | [⟨(.st 25), a0⟩] => qaa a0
  | _ => none
def qaa_md : Mode U := ⟨qaa_sh, [], qaa_os, fun ls => .get (qaa_in ls) qaa_tr⟩
theorem qaa_post : ModeOk kk env0 12 qaa_md :=
  fn_of (fn := Tryd.f12) qaa_enc qaa_dec (kitOk_of eqOk mixed known13) (by kernel_rfl) (L := qaa_L) (loopsOk_of (bs := [qaa_b8]) (by kernel_rfl) ⟨.inr ⟨_, by kernel_rfl, LoopOk.of_round (qaa_ok8)⟩, trivial⟩) (fun _ => rfl) (by intro i qs r h; unfold qaa_enc at h; split at h <;> cases h <;> rfl)
    (by intro ls r h; unfold qaa_in at h; split at h; rw [qaa, sealF_eq] at h; exact Eq.trans (by kernel_rfl) h; cases h)
def ms14 : List (FuncId × Mode U) := (12, qaa_md) :: ms13
theorem known14 : Known kk env0 (modesOf ms14) := known_cons (by kernel_rfl) qaa_post known13
def qal_sh : StSh := ⟨⟨[0, 1], [], []⟩, [.t .str, .t .str], []⟩
def qal_os : List StSh := [⟨⟨[0], [], []⟩, [.t .bool], []⟩]
def qal_tr : Bool → Tr (Nat × List (TV U)) := fun x => .ret (0, [⟨.bool, x⟩])
def qal_enc : Nat → List (TV U) → Option (Bool)
  | 0, [⟨.bool, a0⟩] => some a0
  | _, _ => none
def qal_dec : Bool → Nat × List (TV U) := fun x => (0, [⟨.bool, x⟩])
def qal_in : List (TV U) → Option (Bool)
  | [⟨.str, a0⟩, ⟨.str, a1⟩] => qal a0 a1
  | _ => none
def qal_md : Mode U := ⟨qal_sh, [], qal_os, fun ls => .get (qal_in ls) qal_tr⟩
theorem qal_post : ModeOk kk env0 80 qal_md :=
  fn_of (fn := Tryd.f80) qal_enc qal_dec (kitOk_of eqOk mixed known14) (by kernel_rfl) (L := jnL) (loopsOk_of (bs := []) (by kernel_rfl) trivial) (fun _ => rfl) (by intro i qs r h; unfold qal_enc at h; split at h <;> cases h <;> rfl)
    (by intro ls r h; unfold qal_in at h; split at h; rw [qal, sealF_eq] at h; exact Eq.trans (by kernel_rfl) h; cases h)
def ms15 : List (FuncId × Mode U) := (80, qal_md) :: ms14
theorem known15 : Known kk env0 (modesOf ms15) := known_cons (by kernel_rfl) qal_post known14
def qam_sh : StSh := ⟨⟨[0, 1], [], []⟩, [.t .str, .t .str], []⟩
def qam_os : List StSh := [⟨⟨[0], [], []⟩, [.t .str], []⟩]
def qam_tr : (List UInt8) → Tr (Nat × List (TV U)) := fun x => .ret (0, [⟨.str, x⟩])
def qam_enc : Nat → List (TV U) → Option ((List UInt8))
  | 0, [⟨.str, a0⟩] => some a0
  | _, _ => none
def qam_dec : (List UInt8) → Nat × List (TV U) := fun x => (0, [⟨.str, x⟩])
def qam_in : List (TV U) → Option ((List UInt8))
  | [⟨.str, a0⟩, ⟨.str, a1⟩] => qam a0 a1
  | _ => none
def qam_md : Mode U := ⟨qam_sh, [], qam_os, fun ls => .get (qam_in ls) qam_tr⟩
theorem qam_post : ModeOk kk env0 66 qam_md :=
  fn_of (fn := Tryd.f66) qam_enc qam_dec (kitOk_of eqOk mixed known15) (by kernel_rfl) (L := jnL) (loopsOk_of (bs := []) (by kernel_rfl) trivial) (fun _ => rfl) (by intro i qs r h; unfold qam_enc at h; split at h <;> cases h <;> rfl)
    (by intro ls r h; unfold qam_in at h; split at h; rw [qam, sealF_eq] at h; exact Eq.trans (by kernel_rfl) h; cases h)
def ms16 : List (FuncId × Mode U) := (66, qam_md) :: ms15
theorem known16 : Known kk env0 (modesOf ms16) := known_cons (by kernel_rfl) qam_post known15
def qau_sh : StSh := ⟨⟨[0, 1], [], []⟩, [.t .str, .t .str], []⟩
def qau_os : List StSh := [⟨⟨[0], [], []⟩, [.t .str], []⟩]
def qau_tr : (List UInt8) → Tr (Nat × List (TV U)) := fun x => .ret (0, [⟨.str, x⟩])
def qau_enc : Nat → List (TV U) → Option ((List UInt8))
  | 0, [⟨.str, a0⟩] => some a0
  | _, _ => none
def qau_dec : (List UInt8) → Nat × List (TV U) := fun x => (0, [⟨.str, x⟩])
def qau_in : List (TV U) → Option ((List UInt8))
  | [⟨.str, a0⟩, ⟨.str, a1⟩] => qau a0 a1
  | _ => none
def qau_md : Mode U := ⟨qau_sh, [], qau_os, fun ls => .get (qau_in ls) qau_tr⟩
theorem qau_post : ModeOk kk env0 54 qau_md :=
  fn_of (fn := Tryd.f54) qau_enc qau_dec (kitOk_of eqOk mixed known16) (by kernel_rfl) (L := noL) (loopsOk_of (bs := []) (by kernel_rfl) trivial) (fun _ => rfl) (by intro i qs r h; unfold qau_enc at h; split at h <;> cases h <;> rfl)
    (by intro ls r h; unfold qau_in at h; split at h; rw [qau, sealF_eq] at h; exact Eq.trans (by kernel_rfl) h; cases h)
def ms17 : List (FuncId × Mode U) := (54, qau_md) :: ms16
theorem known17 : Known kk env0 (modesOf ms17) := known_cons (by kernel_rfl) qau_post known16
def qaf_sh : StSh := ⟨⟨[0], [], []⟩, [.t .str], []⟩
def qaf_os : List StSh := [⟨⟨[0, 1], [], []⟩, [.t (.int .i64), .t .bool], []⟩]
def qaf_tr : Int × Bool → Tr (Nat × List (TV U)) := fun x => .ret (0, [⟨(.int .i64), x.1⟩, ⟨.bool, x.2⟩])
def qaf_enc : Nat → List (TV U) → Option (Int × Bool)
  | 0, [⟨(.int .i64), a0⟩, ⟨.bool, a1⟩] => some (a0, a1)
  | _, _ => none
def qaf_dec : Int × Bool → Nat × List (TV U) := fun x => (0, [⟨(.int .i64), x.1⟩, ⟨.bool, x.2⟩])
def qaf_in : List (TV U) → Option (Int × Bool)
  | [⟨.str, a0⟩] => qaf a0
  | _ => none
def qaf_md : Mode U := ⟨qaf_sh, [], qaf_os, fun ls => .get (qaf_in ls) qaf_tr⟩
theorem qaf_post : ModeOk kk env0 45 qaf_md :=
  fn_of (fn := Tryd.f45) qaf_enc qaf_dec (kitOk_of eqOk mixed known17) (by kernel_rfl) (L := jnL) (loopsOk_of (bs := []) (by kernel_rfl) trivial) (fun _ => rfl) (by intro i qs r h; unfold qaf_enc at h; split at h <;> cases h <;> rfl)
    (by intro ls r h; unfold qaf_in at h; split at h; rw [qaf, sealF_eq] at h; exact Eq.trans (by kernel_rfl) h; cases h)
def ms18 : List (FuncId × Mode U) := (45, qaf_md) :: ms17
theorem known18 : Known kk env0 (modesOf ms18) := known_cons (by kernel_rfl) qaf_post known17
def qai_sh4 : StSh := ⟨⟨[5, 6, 14, 15, 16], [], [⟨.slot 6, 6, 3, (.int .i64)⟩]⟩, [.t (.slc .str), .oslc 6, .t (.slc .str), .t (.int .i64), .t (.int .i64)], [.row 3 (.int .i64)]⟩
def qai_o4 : List Out := [⟨.ret, ⟨⟨[2, 3, 4], [], []⟩, [.t .str, .nil, .t .bool], []⟩⟩, ⟨.exit 0, ⟨⟨[5, 6], [], [⟨.slot 6, 6, 3, (.int .i64)⟩]⟩, [.t (.slc .str), .oslc 6], [.row 3 (.int .i64)]⟩⟩]
def qai_b4 : Code := (nthLoop (bodyOf Tryd.f36) 0)
def qai_rec4 (rec : List (List UInt8) → List (List UInt8) → Int → Int → List (Int) → Option (((List UInt8) × Bool) ⊕ ((List (List UInt8)) × (List (Int))))) : List (TV U) → Option (((List UInt8) × Bool) ⊕ ((List (List UInt8)) × (List (Int))))
  | [⟨(.slc .str), a0⟩, ⟨(.slc .str), a1⟩, ⟨(.int .i64), a2⟩, ⟨(.int .i64), a3⟩, ⟨(.slc (.int .i64)), a4⟩] => rec a0 a1 a2 a3 a4
  | _ => none
def qai_enc4 : Nat → List (TV U) → Option (((List UInt8) × Bool) ⊕ ((List (List UInt8)) × (List (Int))))
  | 0, [⟨.str, a0⟩, ⟨.bool, a1⟩] => some (.inl (a0, a1))
  | 1, [⟨(.slc .str), a0⟩, ⟨(.slc (.int .i64)), a1⟩] => some (.inr (a0, a1))
  | _, _ => none
def qai_dec4 : ((List UInt8) × Bool) ⊕ ((List (List UInt8)) × (List (Int))) → Nat × List (TV U) := fun r => match r with | (.inl x) => (0, [⟨.str, x.1⟩, ⟨.bool, x.2⟩]) | (.inr x) => (1, [⟨(.slc .str), x.1⟩, ⟨(.slc (.int .i64)), x.2⟩])
def qai_tr4 : ((List UInt8) × Bool) ⊕ ((List (List UInt8)) × (List (Int))) → Tr (Nat × List (TV U)) := fun r => .alt r (fun x => .ret (0, [⟨.str, x.1⟩, ⟨.bool, x.2⟩])) (fun y => (fun x => .ret (1, [⟨(.slc .str), x.1⟩, ⟨(.slc (.int .i64)), x.2⟩])) y)
def qai_lp4 : Lift.Loop U := ⟨qai_sh4, qai_o4, fun ls => .get (qai_rec4 qai_l4 ls) qai_tr4⟩
theorem qai_ok4 : LoopR kk env0 Tryd.f36.ntmps qai_b4 qai_lp4 :=
  loop_of qai_enc4 qai_dec4 (fun n => qai_rec4 (qai_i4 n)) (kitOk_of eqOk mixed known18) (L := jnL) (loopsOk_of (bs := []) (by kernel_rfl) trivial) (by intro r; rcases r with r | r <;> rfl) (by intro i qs r h; unfold qai_enc4 at h; split at h <;> cases h <;> rfl)
    (by intro ls r h; unfold qai_rec4 at h; split at h <;> cases h)
    (by intro n ls r h; unfold qai_rec4 at h; split at h; exact (show _ = qai_t4 (qai_i4 n) _ _ _ _ _ from by kernel_rfl).trans h; cases h) (by rw [qai_l4, sealF_eq])
def qai_sh : StSh := ⟨⟨[0], [], []⟩, [.t .str], []⟩
def qai_os : List StSh := [⟨⟨[0, 1, 2], [], [⟨.slot 1, 100001, 3, (.int .i64)⟩]⟩, [.t .str, .oslc 100001, .t .bool], [.row 3 (.int .i64)]⟩]
def qai_tr : (List UInt8) × Bool × (List (Int)) → Tr (Nat × List (TV U)) := fun x => .ret (0, [⟨.str, x.1⟩, ⟨.bool, x.2.1⟩, ⟨(.slc (.int .i64)), x.2.2⟩])
def qai_L : Nat → Option (Lift.Loop U) := fun n => bif Nat.beq n joinKey then some joinMark else bif Nat.beq n 4 then some qai_lp4 else none
def qai_enc : Nat → List (TV U) → Option ((List UInt8) × Bool × (List (Int)))
  | 0, [⟨.str, a0⟩, ⟨.bool, a1⟩, ⟨(.slc (.int .i64)), a2⟩] => some (a0, a1, a2)
  | _, _ => none
def qai_dec : (List UInt8) × Bool × (List (Int)) → Nat × List (TV U) := fun x => (0, [⟨.str, x.1⟩, ⟨.bool, x.2.1⟩, ⟨(.slc (.int .i64)), x.2.2⟩])
def qai_in : List (TV U) → Option ((List UInt8) × Bool × (List (Int)))
  | [⟨.str, a0⟩] => qai a0
  | _ => none
def qai_md : Mode U := ⟨qai_sh, [], qai_os, fun ls => .get (qai_in ls) qai_tr⟩
theorem qai_post : ModeOk kk env0 36 qai_md :=
  fn_of (fn := Tryd.f36) qai_enc qai_dec (kitOk_of eqOk mixed known18) (by kernel_rfl) (L := qai_L) (loopsOk_of (bs := [qai_b4]) (by kernel_rfl) ⟨.inr ⟨_, by kernel_rfl, LoopOk.of_round (qai_ok4)⟩, trivial⟩) (fun _ => rfl) (by intro i qs r h; unfold qai_enc at h; split at h <;> cases h <;> rfl)
    (by intro ls r h; unfold qai_in at h; split at h; rw [qai, sealF_eq] at h; exact Eq.trans (by kernel_rfl) h; cases h)
def ms19 : List (FuncId × Mode U) := (36, qai_md) :: ms18
theorem known19 : Known kk env0 (modesOf ms19) := known_cons (by kernel_rfl) qai_post known18
def qaq_sh : StSh := ⟨⟨[0], [], [⟨.slot 0, 0, 3, (.int .i64)⟩]⟩, [.oslc 0], [.row 3 (.int .i64)]⟩
def qaq_os : List StSh := [⟨⟨[0], [], [⟨.slot 0, 100000, 3, (.int .i64)⟩]⟩, [.oslc 100000], [.row 3 (.int .i64)]⟩]
def qaq_tr : (List (Int)) → Tr (Nat × List (TV U)) := fun x => .ret (0, [⟨(.slc (.int .i64)), x⟩])
def qaq_enc : Nat → List (TV U) → Option ((List (Int)))
  | 0, [⟨(.slc (.int .i64)), a0⟩] => some a0
  | _, _ => none
def qaq_dec : (List (Int)) → Nat × List (TV U) := fun x => (0, [⟨(.slc (.int .i64)), x⟩])
def qaq_in : List (TV U) → Option ((List (Int)))
  | [⟨(.slc (.int .i64)), a0⟩] => qaq a0
  | _ => none
def qaq_md : Mode U := ⟨qaq_sh, [], qaq_os, fun ls => .get (qaq_in ls) qaq_tr⟩
theorem qaq_post : ModeOk kk env0 37 qaq_md :=
  fn_of (fn := Tryd.f37) qaq_enc qaq_dec (kitOk_of eqOk mixed known19) (by kernel_rfl) (L := jnL) (loopsOk_of (bs := []) (by kernel_rfl) trivial) (fun _ => rfl) (by intro i qs r h; unfold qaq_enc at h; split at h <;> cases h <;> rfl)
    (by intro ls r h; unfold qaq_in at h; split at h; rw [qaq, sealF_eq] at h; exact Eq.trans (by kernel_rfl) h; cases h)
def ms20 : List (FuncId × Mode U) := (37, qaq_md) :: ms19
theorem known20 : Known kk env0 (modesOf ms20) := known_cons (by kernel_rfl) qaq_post known19
def qak_sh : StSh := ⟨⟨[0, 1, 2], [100000, 100001], [⟨.cell 100001 0, 200100, 3, (.int .i64)⟩]⟩, [.t (.st 57), .ptr 100000 0, .ptr 100001 0], [.blk 9 [.t .str], .blk 22 [.oslc 200100], .row 3 (.int .i64)]⟩
def qak_os : List StSh := [⟨⟨[0], [100000, 100001], [⟨.cell 100001 0, 200100, 3, (.int .i64)⟩]⟩, [.t .bool], [.blk 9 [.t .str], .blk 22 [.oslc 200100], .row 3 (.int .i64)]⟩]
def qak_tr : Bool × (List UInt8) × (List (Int)) → Tr (Nat × List (TV U)) := fun x => .ret (0, [⟨.bool, x.1⟩, ⟨.str, x.2.1⟩, ⟨(.slc (.int .i64)), x.2.2⟩])
def qak_enc : Nat → List (TV U) → Option (Bool × (List UInt8) × (List (Int)))
  | 0, [⟨.bool, a0⟩, ⟨.str, a1⟩, ⟨(.slc (.int .i64)), a2⟩] => some (a0, a1, a2)
  | _, _ => none
def qak_dec : Bool × (List UInt8) × (List (Int)) → Nat × List (TV U) := fun x => (0, [⟨.bool, x.1⟩, ⟨.str, x.2.1⟩, ⟨(.slc (.int .i64)), x.2.2⟩])
def qak_in : List (TV U) → Option (Bool × (List UInt8) × (List (Int)))
  | [⟨(.st 57), a0⟩, ⟨.str, a1⟩, ⟨(.slc (.int .i64)), a2⟩] => qak a0 a1 a2
  | _ => none
def qak_md : Mode U := ⟨qak_sh, [⟨100000, .slot 1, []⟩, ⟨100001, .slot 2, []⟩], qak_os, fun ls => .get (qak_in ls) qak_tr⟩
theorem qak_post : ModeOk kk env0 39 qak_md :=
  fn_of (fn := Tryd.f39) qak_enc qak_dec (kitOk_of eqOk mixed known20) (by kernel_rfl) (L := jnL) (loopsOk_of (bs := []) (by kernel_rfl) trivial) (fun _ => rfl) (by intro i qs r h; unfold qak_enc at h; split at h <;> cases h <;> rfl)
    (by intro ls r h; unfold qak_in at h; split at h; rw [qak, sealF_eq] at h; exact Eq.trans (by kernel_rfl) h; cases h)
def ms21 : List (FuncId × Mode U) := (39, qak_md) :: ms20
theorem known21 : Known kk env0 (modesOf ms21) := known_cons (by kernel_rfl) qak_post known20
def qar_sh2 : StSh := ⟨⟨[0, 1, 7, 8], [100000, 100001], [⟨.cell 100001 0, 200100, 3, (.int .i64)⟩]⟩, [.t (.slc (.st 57)), .clo 39 [.ptr 100000 0, .ptr 100001 0], .t (.int .i64), .t (.int .i64)], [.blk 9 [.t .str], .blk 22 [.oslc 200100], .row 3 (.int .i64)]⟩
def qar_o2 : List Out := [⟨.ret, ⟨⟨[4], [100000, 100001], [⟨.cell 100001 0, 200100, 3, (.int .i64)⟩]⟩, [.t (.int .i64)], [.blk 9 [.t .str], .blk 22 [.oslc 200100], .row 3 (.int .i64)]⟩⟩, ⟨.exit 0, ⟨⟨[], [100000, 100001], [⟨.cell 100001 0, 200100, 3, (.int .i64)⟩]⟩, [], [.blk 9 [.t .str], .blk 22 [.oslc 200100], .row 3 (.int .i64)]⟩⟩]
def qar_b2 : Code := (nthLoop (bodyOf Tryd.f38) 0)
def qar_rec2 (rec : List (Operation) → Int → Int → List UInt8 → List (Int) → Option ((Int × (List UInt8) × (List (Int))) ⊕ ((List UInt8) × (List (Int))))) : List (TV U) → Option ((Int × (List UInt8) × (List (Int))) ⊕ ((List UInt8) × (List (Int))))
  | [⟨(.slc (.st 57)), a0⟩, ⟨(.int .i64), a1⟩, ⟨(.int .i64), a2⟩, ⟨.str, a3⟩, ⟨(.slc (.int .i64)), a4⟩] => rec a0 a1 a2 a3 a4
  | _ => none
def qar_enc2 : Nat → List (TV U) → Option ((Int × (List UInt8) × (List (Int))) ⊕ ((List UInt8) × (List (Int))))
  | 0, [⟨(.int .i64), a0⟩, ⟨.str, a1⟩, ⟨(.slc (.int .i64)), a2⟩] => some (.inl (a0, a1, a2))
  | 1, [⟨.str, a0⟩, ⟨(.slc (.int .i64)), a1⟩] => some (.inr (a0, a1))
  | _, _ => none
def qar_dec2 : (Int × (List UInt8) × (List (Int))) ⊕ ((List UInt8) × (List (Int))) → Nat × List (TV U) := fun r => match r with | (.inl x) => (0, [⟨(.int .i64), x.1⟩, ⟨.str, x.2.1⟩, ⟨(.slc (.int .i64)), x.2.2⟩]) | (.inr x) => (1, [⟨.str, x.1⟩, ⟨(.slc (.int .i64)), x.2⟩])
def qar_tr2 : (Int × (List UInt8) × (List (Int))) ⊕ ((List UInt8) × (List (Int))) → Tr (Nat × List (TV U)) := fun r => .alt r (fun x => .ret (0, [⟨(.int .i64), x.1⟩, ⟨.str, x.2.1⟩, ⟨(.slc (.int .i64)), x.2.2⟩])) (fun y => (fun x => .ret (1, [⟨.str, x.1⟩, ⟨(.slc (.int .i64)), x.2⟩])) y)
def qar_lp2 : Lift.Loop U := ⟨qar_sh2, qar_o2, fun ls => .get (qar_rec2 qar_l2 ls) qar_tr2⟩
theorem qar_ok2 : LoopR kk env0 Tryd.f38.ntmps qar_b2 qar_lp2 :=
  loop_of qar_enc2 qar_dec2 (fun n => qar_rec2 (qar_i2 n)) (kitOk_of eqOk mixed known21) (L := jnL) (loopsOk_of (bs := []) (by kernel_rfl) trivial) (by intro r; rcases r with r | r <;> rfl) (by intro i qs r h; unfold qar_enc2 at h; split at h <;> cases h <;> rfl)
    (by intro ls r h; unfold qar_rec2 at h; split at h <;> cases h)
    (by intro n ls r h; unfold qar_rec2 at h; split at h; exact (show _ = qar_t2 (qar_i2 n) _ _ _ _ _ from by kernel_rfl).trans h; cases h) (by rw [qar_l2, sealF_eq])
def qar_sh : StSh := ⟨⟨[0, 1], [100000, 100001], [⟨.cell 100001 0, 200100, 3, (.int .i64)⟩]⟩, [.t (.slc (.st 57)), .clo 39 [.ptr 100000 0, .ptr 100001 0]], [.blk 9 [.t .str], .blk 22 [.oslc 200100], .row 3 (.int .i64)]⟩
def qar_os : List StSh := [⟨⟨[0], [100000, 100001], [⟨.cell 100001 0, 200100, 3, (.int .i64)⟩]⟩, [.t (.int .i64)], [.blk 9 [.t .str], .blk 22 [.oslc 200100], .row 3 (.int .i64)]⟩]
def qar_tr : Int × (List UInt8) × (List (Int)) → Tr (Nat × List (TV U)) := fun x => .ret (0, [⟨(.int .i64), x.1⟩, ⟨.str, x.2.1⟩, ⟨(.slc (.int .i64)), x.2.2⟩])
def qar_L : Nat → Option (Lift.Loop U) := fun n => bif Nat.beq n joinKey then some joinMark else bif Nat.beq n 2 then some qar_lp2 else none
def qar_enc : Nat → List (TV U) → Option (Int × (List UInt8) × (List (Int)))
  | 0, [⟨(.int .i64), a0⟩, ⟨.str, a1⟩, ⟨(.slc (.int .i64)), a2⟩] => some (a0, a1, a2)
  | _, _ => none
def qar_dec : Int × (List UInt8) × (List (Int)) → Nat × List (TV U) := fun x => (0, [⟨(.int .i64), x.1⟩, ⟨.str, x.2.1⟩, ⟨(.slc (.int .i64)), x.2.2⟩])
def qar_in : List (TV U) → Option (Int × (List UInt8) × (List (Int)))
  | [⟨(.slc (.st 57)), a0⟩, ⟨.str, a1⟩, ⟨(.slc (.int .i64)), a2⟩] => qar a0 a1 a2
  | _ => none
def qar_md : Mode U := ⟨qar_sh, [⟨100000, .slot 1, [0]⟩, ⟨100001, .slot 1, [1]⟩], qar_os, fun ls => .get (qar_in ls) qar_tr⟩
theorem qar_post : ModeOk kk env0 38 qar_md :=
  fn_of (fn := Tryd.f38) qar_enc qar_dec (kitOk_of eqOk mixed known21) (by kernel_rfl) (L := qar_L) (loopsOk_of (bs := [qar_b2]) (by kernel_rfl) ⟨.inr ⟨_, by kernel_rfl, LoopOk.of_round (qar_ok2)⟩, trivial⟩) (fun _ => rfl) (by intro i qs r h; unfold qar_enc at h; split at h <;> cases h <;> rfl)
    (by intro ls r h; unfold qar_in at h; split at h; rw [qar, sealF_eq] at h; exact Eq.trans (by kernel_rfl) h; cases h)
def ms22 : List (FuncId × Mode U) := (38, qar_md) :: ms21
theorem known22 : Known kk env0 (modesOf ms22) := known_cons (by kernel_rfl) qar_post known21
def qaj_sh : StSh := ⟨⟨[0, 1, 2], [100000], [⟨.cell 100000 0, 200000, 3, (.int .i64)⟩, ⟨.cell 100000 2, 200002, 38, (.st 1038)⟩]⟩, [.ptr 100000 0, .t (.int .i64), .t .str], [.blk 25 [.oslc 200000, .t (.int .i64), .oslc 200002], .row 3 (.int .i64), .row 38 (.st 1038)]⟩
def qaj_os : List StSh := [⟨⟨[0], [100000], [⟨.cell 100000 0, 200000, 3, (.int .i64)⟩, ⟨.cell 100000 2, 200002, 38, (.st 1038)⟩]⟩, [.t .bool], [.blk 25 [.oslc 200000, .t (.int .i64), .oslc 200002], .row 3 (.int .i64), .row 38 (.st 1038)]⟩]
def qaj_tr : Bool × Int × (List (Int)) × (List (ACode)) → Tr (Nat × List (TV U)) := fun x => .ret (0, [⟨.bool, x.1⟩, ⟨(.int .i64), x.2.1⟩, ⟨(.slc (.int .i64)), x.2.2.1⟩, ⟨(.slc (.st 1038)), x.2.2.2⟩])
def qaj_L : Nat → Option (Lift.Loop U) := fun n => bif Nat.beq n joinKey then some joinMark else some unrMark
def qaj_enc : Nat → List (TV U) → Option (Bool × Int × (List (Int)) × (List (ACode)))
  | 0, [⟨.bool, a0⟩, ⟨(.int .i64), a1⟩, ⟨(.slc (.int .i64)), a2⟩, ⟨(.slc (.st 1038)), a3⟩] => some (a0, a1, a2, a3)
  | _, _ => none
def qaj_dec : Bool × Int × (List (Int)) × (List (ACode)) → Nat × List (TV U) := fun x => (0, [⟨.bool, x.1⟩, ⟨(.int .i64), x.2.1⟩, ⟨(.slc (.int .i64)), x.2.2.1⟩, ⟨(.slc (.st 1038)), x.2.2.2⟩])
def qaj_in : List (TV U) → Option (Bool × Int × (List (Int)) × (List (ACode)))
  | [⟨(.int .i64), a0⟩, ⟨.str, a1⟩, ⟨(.int .i64), a2⟩, ⟨(.slc (.int .i64)), a3⟩, ⟨(.slc (.st 1038)), a4⟩] => qaj a0 a1 a2 a3 a4
  | _ => none
def qaj_md : Mode U := ⟨qaj_sh, [⟨100000, .slot 0, []⟩], qaj_os, fun ls => .get (qaj_in ls) qaj_tr⟩
theorem qaj_post : ModeOk kk env0 27 qaj_md :=
  fn_of (fn := Tryd.f27) qaj_enc qaj_dec (kitOk_of eqOk mixed known22) (by kernel_rfl) (L := qaj_L) (loopsOk_of (bs := [(nthLoop (bodyOf Tryd.f27) 0)]) (by kernel_rfl) ⟨.inr ⟨_, by kernel_rfl, unrOk⟩, trivial⟩) (fun _ => rfl) (by intro i qs r h; unfold qaj_enc at h; split at h <;> cases h <;> rfl)
    (by intro ls r h; unfold qaj_in at h; split at h; rw [qaj, sealF_eq] at h; exact Eq.trans (by kernel_rfl) h; cases h)
def ms23 : List (FuncId × Mode U) := (27, qaj_md) :: ms22
theorem known23 : Known kk env0 (modesOf ms23) := known_cons (by kernel_rfl) qaj_post known22
def qab_sh3 : StSh := ⟨⟨[0, 2, 3, 4, 5, 6], [2, 3, 4], [⟨.cell 4 0, 20200, 3, (.int .i64)⟩, ⟨.cell 4 2, 20202, 38, (.st 1038)⟩]⟩, [.t .str, .ptr 2 0, .ptr 3 0, .ptr 4 0, .t (.int .i64), .t (.int .i64)], [.blk 25 [.nil, .t (.int .i64), .nil], .blk 32 [.t (.int .i64), .t (.int .i64), .t .str], .blk 25 [.oslc 20200, .t (.int .i64), .oslc 20202], .row 3 (.int .i64), .row 38 (.st 1038)]⟩
def qab_o3 : List Out := [⟨.ret, ⟨⟨[2, 3], [2, 3], []⟩, [.ptr 2 0, .ptr 3 0], [.blk 25 [.nil, .t (.int .i64), .nil], .blk 32 [.t (.int .i64), .t (.int .i64), .t .str]]⟩⟩, ⟨.exit 0, ⟨⟨[2, 3, 4, 5, 6], [2, 3, 4], [⟨.cell 4 0, 20200, 3, (.int .i64)⟩, ⟨.cell 4 2, 20202, 38, (.st 1038)⟩]⟩, [.ptr 2 0, .ptr 3 0, .ptr 4 0, .t (.int .i64), .t (.int .i64)], [.blk 25 [.nil, .t (.int .i64), .nil], .blk 32 [.t (.int .i64), .t (.int .i64), .t .str], .blk 25 [.oslc 20200, .t (.int .i64), .oslc 20202], .row 3 (.int .i64), .row 38 (.st 1038)]⟩⟩]
def qab_b3 : Code := (nthLoop (bodyOf Tryd.f14) 0)
def qab_rec3 (rec : List UInt8 → Int → Int → Int → Int → Int → List UInt8 → Int → List (Int) → List (ACode) → Option ((Int × Int × Int × (List UInt8)) ⊕ (Int × Int × Int × Int × Int × (List UInt8) × Int × (List (Int)) × (List (ACode))))) : List (TV U) → Option ((Int × Int × Int × (List UInt8)) ⊕ (Int × Int × Int × Int × Int × (List UInt8) × Int × (List (Int)) × (List (ACode))))
  | [⟨.str, a0⟩, ⟨(.int .i64), a1⟩, ⟨(.int .i64), a2⟩, ⟨(.int .i64), a3⟩, ⟨(.int .i64), a4⟩, ⟨(.int .i64), a5⟩, ⟨.str, a6⟩, ⟨(.int .i64), a7⟩, ⟨(.slc (.int .i64)), a8⟩, ⟨(.slc (.st 1038)), a9⟩] => rec a0 a1 a2 a3 a4 a5 a6 a7 a8 a9
  | _ => none
def qab_enc3 : Nat → List (TV U) → Option ((Int × Int × Int × (List UInt8)) ⊕ (Int × Int × Int × Int × Int × (List UInt8) × Int × (List (Int)) × (List (ACode))))
  | 0, [⟨(.int .i64), a0⟩, ⟨(.int .i64), a1⟩, ⟨(.int .i64), a2⟩, ⟨.str, a3⟩] => some (.inl (a0, a1, a2, a3))
  | 1, [⟨(.int .i64), a0⟩, ⟨(.int .i64), a1⟩, ⟨(.int .i64), a2⟩, ⟨(.int .i64), a3⟩, ⟨(.int .i64), a4⟩, ⟨.str, a5⟩, ⟨(.int .i64), a6⟩, ⟨(.slc (.int .i64)), a7⟩, ⟨(.slc (.st 1038)), a8⟩] => some (.inr (a0, a1, a2, a3, a4, a5, a6, a7, a8))
  | _, _ => none
def qab_dec3 : (Int × Int × Int × (List UInt8)) ⊕ (Int × Int × Int × Int × Int × (List UInt8) × Int × (List (Int)) × (List (ACode))) → Nat × List (TV U) := fun r => match r with | (.inl x) => (0, [⟨(.int .i64), x.1⟩, ⟨(.int .i64), x.2.1⟩, ⟨(.int .i64), x.2.2.1⟩, ⟨.str, x.2.2.2⟩]) | (.inr x) => (1, [⟨(.int .i64), x.1⟩, ⟨(.int .i64), x.2.1⟩, ⟨(.int .i64), x.2.2.1⟩, ⟨(.int .i64), x.2.2.2.1⟩, ⟨(.int .i64), x.2.2.2.2.1⟩, ⟨.str, x.2.2.2.2.2.1⟩, ⟨(.int .i64), x.2.2.2.2.2.2.1⟩, ⟨(.slc (.int .i64)), x.2.2.2.2.2.2.2.1⟩, ⟨(.slc (.st 1038)), x.2.2.2.2.2.2.2.2⟩])
def qab_tr3 : (Int × Int × Int × (List UInt8)) ⊕ (Int × Int × Int × Int × Int × (List UInt8) × Int × (List (Int)) × (List (ACode))) → Tr (Nat × List (TV U)) := fun r => .alt r (fun x => .ret (0, [⟨(.int .i64), x.1⟩, ⟨(.int .i64), x.2.1⟩, ⟨(.int .i64), x.2.2.1⟩, ⟨.str, x.2.2.2⟩])) (fun y => (fun x => .ret (1, [⟨(.int .i64), x.1⟩, ⟨(.int .i64), x.2.1⟩, ⟨(.int .i64), x.2.2.1⟩, ⟨(.int .i64), x.2.2.2.1⟩, ⟨(.int .i64), x.2.2.2.2.1⟩, ⟨.str, x.2.2.2.2.2.1⟩, ⟨(.int .i64), x.2.2.2.2.2.2.1⟩, ⟨(.slc (.int .i64)), x.2.2.2.2.2.2.2.1⟩, ⟨(.slc (.st 1038)), x.2.2.2.2.2.2.2.2⟩])) y)
def qab_lp3 : Lift.Loop U := ⟨qab_sh3, qab_o3, fun ls => .get (qab_rec3 qab_l3 ls) qab_tr3⟩
theorem qab_ok3 : LoopR kk env0 Tryd.f14.ntmps qab_b3 qab_lp3 :=
  loop_of qab_enc3 qab_dec3 (fun n => qab_rec3 (qab_i3 n)) (kitOk_of eqOk mixed known23) (L := noL) (loopsOk_of (bs := []) (by kernel_rfl) trivial) (by intro r; rcases r with r | r <;> rfl) (by intro i qs r h; unfold qab_enc3 at h; split at h <;> cases h <;> rfl)
    (by intro ls r h; unfold qab_rec3 at h; split at h <;> cases h)
    (by intro n ls r h; unfold qab_rec3 at h; split at h; exact (show _ = qab_t3 (qab_i3 n) _ _ _ _ _ _ _ _ _ _ from by kernel_rfl).trans h; cases h) (by rw [qab_l3, sealF_eq])
def qab_sh : StSh := ⟨⟨[0], [], []⟩, [.t .str], []⟩
def qab_os : List StSh := [⟨⟨[0, 1], [], [⟨.sub 0 0, 100100, 3, (.int .i64)⟩, ⟨.sub 0 2, 100300, 38, (.st 1038)⟩]⟩, [.agg [.oslc 100100, .t (.int .i64), .oslc 100300], .t (.st 32)], [.row 3 (.int .i64), .row 38 (.st 1038)]⟩]
def qab_tr : Int × Fault × (List (Int)) × (List (ACode)) → Tr (Nat × List (TV U)) := fun x => .ret (0, [⟨(.int .i64), x.1⟩, ⟨(.st 32), x.2.1⟩, ⟨(.slc (.int .i64)), x.2.2.1⟩, ⟨(.slc (.st 1038)), x.2.2.2⟩])
def qab_L : Nat → Option (Lift.Loop U) := fun n => bif Nat.beq n 3 then some qab_lp3 else none
def qab_enc : Nat → List (TV U) → Option (Int × Fault × (List (Int)) × (List (ACode)))
  | 0, [⟨(.int .i64), a0⟩, ⟨(.st 32), a1⟩, ⟨(.slc (.int .i64)), a2⟩, ⟨(.slc (.st 1038)), a3⟩] => some (a0, a1, a2, a3)
  | _, _ => none
def qab_dec : Int × Fault × (List (Int)) × (List (ACode)) → Nat × List (TV U) := fun x => (0, [⟨(.int .i64), x.1⟩, ⟨(.st 32), x.2.1⟩, ⟨(.slc (.int .i64)), x.2.2.1⟩, ⟨(.slc (.st 1038)), x.2.2.2⟩])
def qab_in : List (TV U) → Option (Int × Fault × (List (Int)) × (List (ACode)))
  | [⟨.str, a0⟩] => qab a0
  | _ => none
def qab_md : Mode U := ⟨qab_sh, [], qab_os, fun ls => .get (qab_in ls) qab_tr⟩
theorem qab_post : ModeOk kk env0 14 qab_md :=
  fn_of (fn := Tryd.f14) qab_enc qab_dec (kitOk_of eqOk mixed known23) (by kernel_rfl) (L := qab_L) (loopsOk_of (bs := [qab_b3]) (by kernel_rfl) ⟨.inr ⟨_, by kernel_rfl, LoopOk.of_round (qab_ok3)⟩, trivial⟩) (fun _ => rfl) (by intro i qs r h; unfold qab_enc at h; split at h <;> cases h <;> rfl)
    (by intro ls r h; unfold qab_in at h; split at h; rw [qab, sealF_eq] at h; exact Eq.trans (by kernel_rfl) h; cases h)
def ms24 : List (FuncId × Mode U) := (14, qab_md) :: ms23
theorem known24 : Known kk env0 (modesOf ms24) := known_cons (by kernel_rfl) qab_post known23
def qap_sh4 : StSh := ⟨⟨[2, 3, 5], [2, 3], []⟩, [.ptr 2 0, .ptr 3 0, .t (.int .i64)], [.blk 25 [.t (.slc (.int .i64)), .t (.int .i64), .t (.slc (.st 38))], .blk 25 [.t (.slc (.int .i64)), .t (.int .i64), .t (.slc (.st 38))]]⟩
def qap_o4 : List Out := [⟨.ret, ⟨⟨[4], [], []⟩, [.t .bool], []⟩⟩, ⟨.exit 0, ⟨⟨[2, 3], [2, 3], []⟩, [.ptr 2 0, .ptr 3 0], [.blk 25 [.t (.slc (.int .i64)), .t (.int .i64), .t (.slc (.st 38))], .blk 25 [.t (.slc (.int .i64)), .t (.int .i64), .t (.slc (.st 38))]]⟩⟩]
def qap_b4 : Code := (nthLoop (bodyOf Tryd.f15) 0)
def qap_rec4 (rec : Int → List (Int) → Int → List (ACode) → List (Int) → Int → List (ACode) → Option ((Bool) ⊕ ((List (Int)) × Int × (List (ACode)) × (List (Int)) × Int × (List (ACode))))) : List (TV U) → Option ((Bool) ⊕ ((List (Int)) × Int × (List (ACode)) × (List (Int)) × Int × (List (ACode))))
  | [⟨(.int .i64), a0⟩, ⟨(.slc (.int .i64)), a1⟩, ⟨(.int .i64), a2⟩, ⟨(.slc (.st 38)), a3⟩, ⟨(.slc (.int .i64)), a4⟩, ⟨(.int .i64), a5⟩, ⟨(.slc (.st 38)), a6⟩] => rec a0 a1 a2 a3 a4 a5 a6
  | _ => none
def qap_enc4 : Nat → List (TV U) → Option ((Bool) ⊕ ((List (Int)) × Int × (List (ACode)) × (List (Int)) × Int × (List (ACode))))
  | 0, [⟨.bool, a0⟩] => some (.inl a0)
  | 1, [⟨(.slc (.int .i64)), a0⟩, ⟨(.int .i64), a1⟩, ⟨(.slc (.st 38)), a2⟩, ⟨(.slc (.int .i64)), a3⟩, ⟨(.int .i64), a4⟩, ⟨(.slc (.st 38)), a5⟩] => some (.inr (a0, a1, a2, a3, a4, a5))
  | _, _ => none
def qap_dec4 : (Bool) ⊕ ((List (Int)) × Int × (List (ACode)) × (List (Int)) × Int × (List (ACode))) → Nat × List (TV U) := fun r => match r with | (.inl x) => (0, [⟨.bool, x⟩]) | (.inr x) => (1, [⟨(.slc (.int .i64)), x.1⟩, ⟨(.int .i64), x.2.1⟩, ⟨(.slc (.st 38)), x.2.2.1⟩, ⟨(.slc (.int .i64)), x.2.2.2.1⟩, ⟨(.int .i64), x.2.2.2.2.1⟩, ⟨(.slc (.st 38)), x.2.2.2.2.2⟩])
def qap_tr4 : (Bool) ⊕ ((List (Int)) × Int × (List (ACode)) × (List (Int)) × Int × (List (ACode))) → Tr (Nat × List (TV U)) := fun r => .alt r (fun x => .ret (0, [⟨.bool, x⟩])) (fun y => (fun x => .ret (1, [⟨(.slc (.int .i64)), x.1⟩, ⟨(.int .i64), x.2.1⟩, ⟨(.slc (.st 38)), x.2.2.1⟩, ⟨(.slc (.int .i64)), x.2.2.2.1⟩, ⟨(.int .i64), x.2.2.2.2.1⟩, ⟨(.slc (.st 38)), x.2.2.2.2.2⟩])) y)
def qap_lp4 : Lift.Loop U := ⟨qap_sh4, qap_o4, fun ls => .get (qap_rec4 qap_l4 ls) qap_tr4⟩
theorem qap_ok4 : LoopR kk env0 Tryd.f15.ntmps qap_b4 qap_lp4 :=
  loop_of qap_enc4 qap_dec4 (fun n => qap_rec4 (qap_i4 n)) (kitOk_of eqOk mixed known24) (L := jnL) (loopsOk_of (bs := []) (by kernel_rfl) trivial) (by intro r; rcases r with r | r <;> rfl) (by intro i qs r h; unfold qap_enc4 at h; split at h <;> cases h <;> rfl)
    (by intro ls r h; unfold qap_rec4 at h; split at h <;> cases h)
    (by intro n ls r h; unfold qap_rec4 at h; split at h; exact (show _ = qap_t4 (qap_i4 n) _ _ _ _ _ _ _ from by kernel_rfl).trans h; cases h) (by rw [qap_l4, sealF_eq])
def qap_sh16 : StSh := ⟨⟨[2, 3, 6, 7, 8, 9], [2, 3, 7, 8], []⟩, [.ptr 2 0, .ptr 3 0, .t (.int .i64), .ptr 7 0, .ptr 8 0, .t (.int .i64)], [.blk 25 [.t (.slc (.int .i64)), .t (.int .i64), .t (.slc (.st 38))], .blk 25 [.t (.slc (.int .i64)), .t (.int .i64), .t (.slc (.st 38))], .blk 38 [.t (.int .i64), .t (.slc (.st 40))], .blk 38 [.t (.int .i64), .t (.slc (.st 40))]]⟩
def qap_o16 : List Out := [⟨.ret, ⟨⟨[4], [], []⟩, [.t .bool], []⟩⟩, ⟨.exit 4, ⟨⟨[2, 3, 6], [2, 3], []⟩, [.ptr 2 0, .ptr 3 0, .t (.int .i64)], [.blk 25 [.t (.slc (.int .i64)), .t (.int .i64), .t (.slc (.st 38))], .blk 25 [.t (.slc (.int .i64)), .t (.int .i64), .t (.slc (.st 38))]]⟩⟩]
def qap_b16 : Code := (nthLoop (nthLoop (bodyOf Tryd.f15) 1) 0)
def qap_rec16 (rec : Int → Int → List (Int) → Int → List (ACode) → List (Int) → Int → List (ACode) → Int → List (Instr) → Int → List (Instr) → Option ((Bool) ⊕ (Int × (List (Int)) × Int × (List (ACode)) × (List (Int)) × Int × (List (ACode))))) : List (TV U) → Option ((Bool) ⊕ (Int × (List (Int)) × Int × (List (ACode)) × (List (Int)) × Int × (List (ACode))))
  | [⟨(.int .i64), a0⟩, ⟨(.int .i64), a1⟩, ⟨(.slc (.int .i64)), a2⟩, ⟨(.int .i64), a3⟩, ⟨(.slc (.st 38)), a4⟩, ⟨(.slc (.int .i64)), a5⟩, ⟨(.int .i64), a6⟩, ⟨(.slc (.st 38)), a7⟩, ⟨(.int .i64), a8⟩, ⟨(.slc (.st 40)), a9⟩, ⟨(.int .i64), a10⟩, ⟨(.slc (.st 40)), a11⟩] => rec a0 a1 a2 a3 a4 a5 a6 a7 a8 a9 a10 a11
  | _ => none
def qap_enc16 : Nat → List (TV U) → Option ((Bool) ⊕ (Int × (List (Int)) × Int × (List (ACode)) × (List (Int)) × Int × (List (ACode))))
  | 0, [⟨.bool, a0⟩] => some (.inl a0)
  | 1, [⟨(.int .i64), a0⟩, ⟨(.slc (.int .i64)), a1⟩, ⟨(.int .i64), a2⟩, ⟨(.slc (.st 38)), a3⟩, ⟨(.slc (.int .i64)), a4⟩, ⟨(.int .i64), a5⟩, ⟨(.slc (.st 38)), a6⟩] => some (.inr (a0, a1, a2, a3, a4, a5, a6))
  | _, _ => none
def qap_dec16 : (Bool) ⊕ (Int × (List (Int)) × Int × (List (ACode)) × (List (Int)) × Int × (List (ACode))) → Nat × List (TV U) := fun r => match r with | (.inl x) => (0, [⟨.bool, x⟩]) | (.inr x) => (1, [⟨(.int .i64), x.1⟩, ⟨(.slc (.int .i64)), x.2.1⟩, ⟨(.int .i64), x.2.2.1⟩, ⟨(.slc (.st 38)), x.2.2.2.1⟩, ⟨(.slc (.int .i64)), x.2.2.2.2.1⟩, ⟨(.int .i64), x.2.2.2.2.2.1⟩, ⟨(.slc (.st 38)), x.2.2.2.2.2.2⟩])
def qap_tr16 : (Bool) ⊕ (Int × (List (Int)) × Int × (List (ACode)) × (List (Int)) × Int × (List (ACode))) → Tr (Nat × List (TV U)) := fun r => .alt r (fun x => .ret (0, [⟨.bool, x⟩])) (fun y => (fun x => .ret (1, [⟨(.int .i64), x.1⟩, ⟨(.slc (.int .i64)), x.2.1⟩, ⟨(.int .i64), x.2.2.1⟩, ⟨(.slc (.st 38)), x.2.2.2.1⟩, ⟨(.slc (.int .i64)), x.2.2.2.2.1⟩, ⟨(.int .i64), x.2.2.2.2.2.1⟩, ⟨(.slc (.st 38)), x.2.2.2.2.2.2⟩])) y)
def qap_lp16 : Lift.Loop U := ⟨qap_sh16, qap_o16, fun ls => .get (qap_rec16 qap_l16 ls) qap_tr16⟩
theorem qap_ok16 : LoopR kk env0 Tryd.f15.ntmps qap_b16 qap_lp16 :=
  loop_of qap_enc16 qap_dec16 (fun n => qap_rec16 (qap_i16 n)) (kitOk_of eqOk mixed known24) (L := jnL) (loopsOk_of (bs := []) (by kernel_rfl) trivial) (by intro r; rcases r with r | r <;> rfl) (by intro i qs r h; unfold qap_enc16 at h; split at h <;> cases h <;> rfl)
    (by intro ls r h; unfold qap_rec16 at h; split at h <;> cases h)
    (by intro n ls r h; unfold qap_rec16 at h; split at h; exact (show _ = qap_t16 (qap_i16 n) _ _ _ _ _ _ _ _ _ _ _ _ from by kernel_rfl).trans h; cases h) (by rw [qap_l16, sealF_eq])
def qap_sh9 : StSh := ⟨⟨[2, 3, 6], [2, 3], []⟩, [.ptr 2 0, .ptr 3 0, .t (.int .i64)], [.blk 25 [.t (.slc (.int .i64)), .t (.int .i64), .t (.slc (.st 38))], .blk 25 [.t (.slc (.int .i64)), .t (.int .i64), .t (.slc (.st 38))]]⟩
def qap_o9 : List Out := [⟨.ret, ⟨⟨[4], [], []⟩, [.t .bool], []⟩⟩, ⟨.exit 2, ⟨⟨[], [], []⟩, [], []⟩⟩]
def qap_b9 : Code := (nthLoop (bodyOf Tryd.f15) 1)
def qap_L9 : Nat → Option (Lift.Loop U) := fun n => bif Nat.beq n joinKey then some joinMark else bif Nat.beq n 16 then some qap_lp16 else none
def qap_rec9 (rec : Int → List (Int) → Int → List (ACode) → List (Int) → Int → List (ACode) → Option ((Bool) ⊕ (Unit))) : List (TV U) → Option ((Bool) ⊕ (Unit))
  | [⟨(.int .i64), a0⟩, ⟨(.slc (.int .i64)), a1⟩, ⟨(.int .i64), a2⟩, ⟨(.slc (.st 38)), a3⟩, ⟨(.slc (.int .i64)), a4⟩, ⟨(.int .i64), a5⟩, ⟨(.slc (.st 38)), a6⟩] => rec a0 a1 a2 a3 a4 a5 a6
  | _ => none
def qap_enc9 : Nat → List (TV U) → Option ((Bool) ⊕ (Unit))
  | 0, [⟨.bool, a0⟩] => some (.inl a0)
  | 1, [] => some (.inr ())
  | _, _ => none
def qap_dec9 : (Bool) ⊕ (Unit) → Nat × List (TV U) := fun r => match r with | (.inl x) => (0, [⟨.bool, x⟩]) | (.inr x) => (1, [])
def qap_tr9 : (Bool) ⊕ (Unit) → Tr (Nat × List (TV U)) := fun r => .alt r (fun x => .ret (0, [⟨.bool, x⟩])) (fun y => (fun x => .ret (1, [])) y)
def qap_lp9 : Lift.Loop U := ⟨qap_sh9, qap_o9, fun ls => .get (qap_rec9 qap_l9 ls) qap_tr9⟩
theorem qap_ok9 : LoopR kk env0 Tryd.f15.ntmps qap_b9 qap_lp9 :=
  loop_of qap_enc9 qap_dec9 (fun n => qap_rec9 (qap_i9 n)) (kitOk_of eqOk mixed known24) (L := qap_L9) (loopsOk_of (bs := [qap_b16]) (by kernel_rfl) ⟨.inr ⟨_, by kernel_rfl, LoopOk.of_round (qap_ok16)⟩, trivial⟩) (by intro r; rcases r with r | r <;> rfl) (by intro i qs r h; unfold qap_enc9 at h; split at h <;> cases h <;> rfl)
    (by intro ls r h; unfold qap_rec9 at h; split at h <;> cases h)
    (by intro n ls r h; unfold qap_rec9 at h; split at h; exact (show _ = qap_t9 (qap_i9 n) _ _ _ _ _ _ _ from by kernel_rfl).trans h; cases h) (by rw [qap_l9, sealF_eq])
def qap_sh : StSh := ⟨⟨[0, 1], [], []⟩, [.t (.st 25), .t (.st 25)], []⟩
def qap_os : List StSh := [⟨⟨[0], [], []⟩, [.t .bool], []⟩]
def qap_tr : Bool → Tr (Nat × List (TV U)) := fun x => .ret (0, [⟨.bool, x⟩])
def qap_L : Nat → Option (Lift.Loop U) := fun n => bif Nat.beq n joinKey then some joinMark else bif Nat.beq n 4 then some qap_lp4 else bif Nat.beq n 9 then some qap_lp9 else none
def qap_enc : Nat → List (TV U) → Option (Bool)
  | 0, [⟨.bool, a0⟩] => some a0
  | _, _ => none
def qap_dec : Bool → Nat × List (TV U) := fun x => (0, [⟨.bool, x⟩])
def qap_in : List (TV U) → Option (Bool)
  | [⟨(.st 25), a0⟩, ⟨(.st 25), a1⟩] => qap a0 a1
  | _ => none
def qap_md : Mode U := ⟨qap_sh, [], qap_os, fun ls => .get (qap_in ls) qap_tr⟩
theorem qap_post : ModeOk kk env0 15 qap_md :=
  fn_of (fn := Tryd.f15) qap_enc qap_dec (kitOk_of eqOk mixed known24) (by kernel_rfl) (L := qap_L) (loopsOk_of (bs := [qap_b4, qap_b9]) (by kernel_rfl) ⟨.inr ⟨_, by kernel_rfl, LoopOk.of_round (qap_ok4)⟩, .inr ⟨_, by kernel_rfl, LoopOk.of_round (qap_ok9)⟩, trivial⟩) (fun _ => rfl) (by intro i qs r h; unfold qap_enc at h; split at h <;> cases h <;> rfl)
    (by intro ls r h; unfold qap_in at h; split at h; rw [qap, sealF_eq] at h; exact Eq.trans (by kernel_rfl) h; cases h)
def ms25 : List (FuncId × Mode U) := (15, qap_md) :: ms24
theorem known25 : Known kk env0 (modesOf ms25) := known_cons (by kernel_rfl) qap_post known24
def qao_sh : StSh := ⟨⟨[], [], []⟩, [], []⟩
def qao_os : List StSh := [⟨⟨[0], [], []⟩, [.t .bool], []⟩]
def qao_tr : Bool → Tr (Nat × List (TV U)) := fun x => .ret (0, [⟨.bool, x⟩])
def qao_enc : Nat → List (TV U) → Option (Bool)
  | 0, [⟨.bool, a0⟩] => some a0
  | _, _ => none
def qao_dec : Bool → Nat × List (TV U) := fun x => (0, [⟨.bool, x⟩])
def qao_in : List (TV U) → Option (Bool)
  | [] => qao
  | _ => none
def qao_md : Mode U := ⟨qao_sh, [], qao_os, fun ls => .get (qao_in ls) qao_tr⟩
theorem qao_post : ModeOk kk env0 8 qao_md :=
  fn_of (fn := Tryd.f8) qao_enc qao_dec (kitOk_of eqOk mixed known25) (by kernel_rfl) (L := jnL) (loopsOk_of (bs := []) (by kernel_rfl) trivial) (fun _ => rfl) (by intro i qs r h; unfold qao_enc at h; split at h <;> cases h <;> rfl)
    (by intro ls r h; unfold qao_in at h; split at h; rw [qao, sealF_eq] at h; exact Eq.trans (by kernel_rfl) h; cases h)
def ms26 : List (FuncId × Mode U) := (8, qao_md) :: ms25
theorem known26 : Known kk env0 (modesOf ms26) := known_cons (by kernel_rfl) qao_post known25
def qan_sh : StSh := ⟨⟨[0], [], []⟩, [.t .str], []⟩
def qan_os : List StSh := [⟨⟨[0], [], []⟩, [.t .bool], []⟩]
def qan_tr : Bool → Tr (Nat × List (TV U)) := fun x => .ret (0, [⟨.bool, x⟩])
def qan_enc : Nat → List (TV U) → Option (Bool)
  | 0, [⟨.bool, a0⟩] => some a0
  | _, _ => none
def qan_dec : Bool → Nat × List (TV U) := fun x => (0, [⟨.bool, x⟩])
def qan_in : List (TV U) → Option (Bool)
  | [⟨.str, a0⟩] => qan a0
  | _ => none
def qan_md : Mode U := ⟨qan_sh, [], qan_os, fun ls => .get (qan_in ls) qan_tr⟩
theorem qan_post : ModeOk kk env0 7 qan_md :=
  fn_of (fn := Tryd.f7) qan_enc qan_dec (kitOk_of eqOk mixed known26) (by kernel_rfl) (L := jnL) (loopsOk_of (bs := []) (by kernel_rfl) trivial) (fun _ => rfl) (by intro i qs r h; unfold qan_enc at h; split at h <;> cases h <;> rfl)
    (by intro ls r h; unfold qan_in at h; split at h; rw [qan, sealF_eq] at h; exact Eq.trans (by kernel_rfl) h; cases h)
end
end Lift.H1
