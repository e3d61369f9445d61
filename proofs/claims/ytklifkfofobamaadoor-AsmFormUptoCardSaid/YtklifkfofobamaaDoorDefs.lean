/-
  DERIVED. The functions of this seat as Lean has them; the library's modes. Conditions: none.
-/
import Derived.Test.YtklifkfofobamaaDoorLiftC
import Derived.Test.YtklifkfofobamaaDoorProg
import Derived.KernelRfl
set_option linter.unusedVariables false
set_option linter.unusedSimpArgs false
set_option linter.unusedSectionVars false
namespace Lift.H1
open Go Go.RowKit Go.Proofs Lift
@[reducible] noncomputable def U (n : Nat) : Type := match n with
  | 25 => Image
  | 32 => Fault
  | 38 => ACode
  | 40 => Instr
  | 57 => Operation
  | 1025 => Image
  | 1038 => ACode
  | _ => Empty
noncomputable def cells (n : Nat) : U n → List (TV U) := match n with
  | 25 => fun (x : Image) => [⟨.slc (.int .i64), x.cells⟩, ⟨.int .i64, x.mutexes⟩, ⟨.slc (.st 38), x.threads⟩]
  | 32 => fun (x : Fault) => [⟨.int .i64, x.code⟩, ⟨.int .i64, x.at_⟩, ⟨.str, x.name⟩]
  | 38 => fun (x : ACode) => [⟨.int .i64, x.regs⟩, ⟨.slc (.st 40), x.instrs⟩]
  | 40 => fun (x : Instr) => [⟨.int .i64, x.op⟩, ⟨.int .i64, x.a⟩, ⟨.int .i64, x.b⟩, ⟨.int .i64, x.c⟩]
  | 57 => fun (x : Operation) => [⟨.str, x.word⟩, ⟨.str, x.numbers⟩]
  | 1025 => fun (x : Image) => [⟨.own 3 (.int .i64), x.cells⟩, ⟨.int .i64, x.mutexes⟩, ⟨.own 38 (.st 1038), x.threads⟩]
  | 1038 => fun (x : ACode) => [⟨.int .i64, x.regs⟩, ⟨.own 40 (.st 40), x.instrs⟩]
  | _ => fun _ => []
noncomputable def ctys (n : Nat) : List Ty := match n with
  | 25 => [.slc (.int .i64), .int .i64, .slc (.st 38)]
  | 32 => [.int .i64, .int .i64, .str]
  | 38 => [.int .i64, .slc (.st 40)]
  | 40 => [.int .i64, .int .i64, .int .i64, .int .i64]
  | 57 => [.str, .str]
  | 1025 => [.own 3 (.int .i64), .int .i64, .own 38 (.st 1038)]
  | 1038 => [.int .i64, .own 40 (.st 40)]
  | _ => []
noncomputable def make (n : Nat) : List (TV U) → Option (U n) := match n with
  | 25 => fun | [⟨.slc (.int .i64), v0⟩, ⟨.int .i64, v1⟩, ⟨.slc (.st 38), v2⟩] => some (Image.mk v0 v1 v2) | _ => none
  | 32 => fun | [⟨.int .i64, v0⟩, ⟨.int .i64, v1⟩, ⟨.str, v2⟩] => some (Fault.mk v0 v1 v2) | _ => none
  | 38 => fun | [⟨.int .i64, v0⟩, ⟨.slc (.st 40), v1⟩] => some (ACode.mk v0 v1) | _ => none
  | 40 => fun | [⟨.int .i64, v0⟩, ⟨.int .i64, v1⟩, ⟨.int .i64, v2⟩, ⟨.int .i64, v3⟩] => some (Instr.mk v0 v1 v2 v3) | _ => none
  | 57 => fun | [⟨.str, v0⟩, ⟨.str, v1⟩] => some (Operation.mk v0 v1) | _ => none
  | 1025 => fun | [⟨.own 3 (.int .i64), v0⟩, ⟨.int .i64, v1⟩, ⟨.own 38 (.st 1038), v2⟩] => some (Image.mk v0 v1 v2) | _ => none
  | 1038 => fun | [⟨.int .i64, v0⟩, ⟨.own 40 (.st 40), v1⟩] => some (ACode.mk v0 v1) | _ => none
  | _ => fun _ => none
def pn (n : Nat) : Nat := match n with
  | 1025 => 25
  | 1038 => 38
  | n => n
def closed (n : Nat) : Bool := match n with
  | 1025 => true
  | 1038 => true
  | 32 => true
  | 40 => true
  | 57 => true
  | _ => false
def ids : List Nat := [25, 32, 38, 40, 57, 1025, 1038]
theorem off_ids {n : Nat} (h : n ∉ ids) : (∀ x, cells n x = []) ∧ ctys n = [] ∧ pn n = n ∧ closed n = false := by
  refine ⟨?_, ?_, ?_, ?_⟩
  · intro x; unfold cells; split <;> first | rfl | exact absurd (by decide) h
  · unfold ctys; split <;> first | rfl | exact absurd (by decide) h
  · unfold pn; split <;> first | rfl | exact absurd (by decide) h
  · unfold closed; split <;> first | rfl | exact absurd (by decide) h
theorem on_ids {P : Nat → Prop} (h1 : ∀ n ∈ ids, P n) (h2 : ∀ n, n ∉ ids → P n) (n : Nat) : P n := by
  by_cases h : n ∈ ids
  · exact h1 n h
  · exact h2 n h
theorem pd : ∀ n, U (pn n) = U n := on_ids (by unfold ids; simp only [List.forall_mem_cons]; exact ⟨rfl, rfl, rfl, rfl, rfl, rfl, rfl, fun n h => by cases h⟩) (fun n h => by rw [(off_ids h).2.2.1])
theorem pc : ∀ n (x : U n), cells (pn n) (cast (pd n).symm x) = (cells n x).map (TV.plain pd) := on_ids (by unfold ids; simp only [List.forall_mem_cons]; exact ⟨fun _ => rfl, fun _ => rfl, fun _ => rfl, fun _ => rfl, fun _ => rfl, fun _ => rfl, fun _ => rfl, fun n h => by cases h⟩)
  (fun n h x => by rw [(off_ids h).1 x]; exact (off_ids (n := pn n) (by rw [(off_ids h).2.2.1]; exact h)).1 _)
theorem pt : ∀ n, ctys (pn n) = (ctys n).map (Ty.plain pn) := on_ids (by unfold ids; simp only [List.forall_mem_cons]; exact ⟨rfl, rfl, rfl, rfl, rfl, rfl, rfl, fun n h => by cases h⟩)
  (fun n h => by rw [(off_ids h).2.2.1, (off_ids h).2.1]; rfl)
theorem closed_ok : ∀ n, closed n = true → ∀ t ∈ ctys n, (match t with
    | .int _ => true | .bool => true | .str => true | .err => true | .fn => true
    | .own _ (.st m) => closed m
    | .own _ e => match e with | .int _ => true | .bool => true | .str => true | _ => false
    | _ => false) = true := on_ids (by unfold ids; simp only [List.forall_mem_cons]; exact ⟨fun h => (by cases h), fun _ => List.all_eq_true.1 (by rfl), fun h => (by cases h), fun _ => List.all_eq_true.1 (by rfl), fun _ => List.all_eq_true.1 (by rfl), fun _ => List.all_eq_true.1 (by rfl), fun _ => List.all_eq_true.1 (by rfl), fun n h => by cases h⟩)
  (fun n h hc => by rw [(off_ids h).2.2.2] at hc; cases hc)
@[reducible] noncomputable def uni : Uni where
  U := U
  cells := cells
  ctys := ctys
  make := make
  make_ok := by
    intro n cs x h
    unfold make at h
    split at h
    · dsimp only at h
      split at h
      · cases h; rfl
      · cases h
    · dsimp only at h
      split at h
      · cases h; rfl
      · cases h
    · dsimp only at h
      split at h
      · cases h; rfl
      · cases h
    · dsimp only at h
      split at h
      · cases h; rfl
      · cases h
    · dsimp only at h
      split at h
      · cases h; rfl
      · cases h
    · dsimp only at h
      split at h
      · cases h; rfl
      · cases h
    · dsimp only at h
      split at h
      · cases h; rfl
      · cases h
    · cases h
  tys_ok := by
    intro n x
    unfold cells ctys
    split <;> rfl
  pn := pn
  pd := pd
  pc := pc
  pt := pt
  closed := closed
  closed_ok := closed_ok
  flat_ok := by
    intro n t h
    have : ∀ n, (ctys n).all Ty.flat = true := by
      intro n
      unfold ctys
      split <;> rfl
    exact List.all_eq_true.1 (this n) t h
noncomputable def tyOf : TypeId → Option Ty
  | 1 => some (.fn)
  | 2 => some (.int .i64)
  | 3 => some (.int .i64)
  | 4 => some (.bool)
  | 5 => some (.int .u8)
  | 6 => some (.int .u8)
  | 9 => some (.str)
  | 10 => some (.str)
  | 11 => some (.str)
  | 12 => some (.int .u64)
  | 21 => some (.int .i32)
  | 22 => some (.slc (.int .i64))
  | 23 => some (.slc (.st 38))
  | 25 => some (.st 25)
  | 26 => some (.fn)
  | 27 => some (.fn)
  | 28 => some (.int .i64)
  | 30 => some (.fn)
  | 32 => some (.st 32)
  | 34 => some (.fn)
  | 35 => some (.fn)
  | 36 => some (.slc (.st 40))
  | 38 => some (.st 38)
  | 40 => some (.st 40)
  | 41 => some (.fn)
  | 42 => some (.fn)
  | 43 => some (.fn)
  | 44 => some (.fn)
  | 45 => some (.slc (.int .u8))
  | 46 => some (.fn)
  | 48 => some (.fn)
  | 49 => some (.fn)
  | 53 => some (.slc (.st 57))
  | 54 => some (.fn)
  | 55 => some (.fn)
  | 57 => some (.st 57)
  | 58 => some (.fn)
  | 63 => some (.fn)
  | 64 => some (.fn)
  | 66 => some (.fn)
  | 67 => some (.fn)
  | 68 => some (.slc (.str))
  | 70 => some (.err)
  | 72 => some (.fn)
  | 73 => some (.fn)
  | 76 => some (.fn)
  | 78 => some (.fn)
  | 79 => some (.fn)
  | 80 => some (.fn)
  | 81 => some (.fn)
  | 85 => some (.int .u64)
  | 87 => some (.fn)
  | 88 => some (.fn)
  | 89 => some (.fn)
  | 91 => some (.fn)
  | 92 => some (.fn)
  | 93 => some (.fn)
  | 94 => some (.fn)
  | 95 => some (.int .u64)
  | 96 => some (.fn)
  | 97 => some (.fn)
  | 99 => some (.fn)
  | 100 => some (.fn)
  | 102 => some (.fn)
  | 103 => some (.int .u32)
  | 105 => some (.fn)
  | 106 => some (.fn)
  | 107 => some (.fn)
  | 108 => some (.fn)
  | 111 => some (.fn)
  | 112 => some (.fn)
  | 114 => some (.fn)
  | 115 => some (.int .i64)
  | 117 => some (.fn)
  | 119 => some (.fn)
  | 120 => some (.fn)
  | 121 => some (.fn)
  | 122 => some (.fn)
  | 124 => some (.fn)
  | 125 => some (.fn)
  | 128 => some (.fn)
  | 135 => some (.fn)
  | 144 => some (.fn)
  | 145 => some (.int .u8)
  | 146 => some (.int .u8)
  | 147 => some (.fn)
  | 148 => some (.int .i32)
  | 149 => some (.int .i32)
  | _ => none
noncomputable def eqOf (T : TypeId) (n : Nat) : Option (U n → U n → Bool) := match n with
  | 32 => bif Nat.beq T 32 then some fun (a b : Fault) => decide (a = b) else none
  | 40 => bif Nat.beq T 40 then some fun (a b : Instr) => decide (a = b) else none
  | 57 => bif Nat.beq T 57 then some fun (a b : Operation) => decide (a = b) else none
  | _ => none
noncomputable def deepOf : TypeId → Option Ty
  | 22 => some (.own 3 (.int .i64))
  | 23 => some (.own 38 (.st 1038))
  | 25 => some (.st 1025)
  | 36 => some (.own 40 (.st 40))
  | 38 => some (.st 1038)
  | 45 => some (.own 5 (.int .u8))
  | 53 => some (.own 57 (.st 57))
  | 68 => some (.own 9 (.str))
  | _ => none
@[reducible] noncomputable def kk : Kit := { P := Tryd.prog, u := uni, tyOf, eqOf, modes := fun _ => [], deepOf }
theorem eqOk : EqOk kk := by
  refine eqOk_flat fun T n f h => ?_
  change eqOf T n = some f at h
  change flatStruct Tryd.prog T (ctys n) = true ∧ ∀ a b : U n, f a b = cellsEq (cells n a) (cells n b)
  unfold eqOf at h
  split at h
  · cases hb : Nat.beq T 32 with
    | true =>
      rw [hb] at h
      cases Nat.eq_of_beq_eq_true hb
      cases h
      refine ⟨by kernel_rfl, ?_⟩
      rintro ⟨a0, a1, a2⟩ ⟨b0, b1, b2⟩
      simp [cells, cellsEq, scalarEq, cond_eq_ite, Bool.decide_and]
    | false => rw [hb] at h; cases h
  · cases hb : Nat.beq T 40 with
    | true =>
      rw [hb] at h
      cases Nat.eq_of_beq_eq_true hb
      cases h
      refine ⟨by kernel_rfl, ?_⟩
      rintro ⟨a0, a1, a2, a3⟩ ⟨b0, b1, b2, b3⟩
      simp [cells, cellsEq, scalarEq, cond_eq_ite, Bool.decide_and]
    | false => rw [hb] at h; cases h
  · cases hb : Nat.beq T 57 with
    | true =>
      rw [hb] at h
      cases Nat.eq_of_beq_eq_true hb
      cases h
      refine ⟨by kernel_rfl, ?_⟩
      rintro ⟨a0, a1⟩ ⟨b0, b1⟩
      simp [cells, cellsEq, scalarEq, cond_eq_ite, Bool.decide_and]
    | false => rw [hb] at h; cases h
  · cases h
theorem mixed : kk.P.follows .mixedOrders = true := by kernel_rfl
end Lift.H1
namespace Lift.H1
open Go Go.RowKit Go.Proofs Lift Lift.Fn
noncomputable def strings_Cut_md : Mode U := ⟨⟨⟨[0, 1], [], []⟩, [.t (.str), .t (.str)], []⟩, [], [⟨⟨[0, 1, 2], [], []⟩, [.t (.str), .t (.str), .t (.bool)], []⟩], fun ls => match ls with | [⟨.str, a0⟩, ⟨.str, a1⟩] => .get (strings_Cut a0 a1) (fun r => .ret (0, [⟨.str, r.1⟩, ⟨.str, r.2.1⟩, ⟨.bool, r.2.2⟩])) | _ => .fail⟩
noncomputable def strings_Split_md : Mode U := ⟨⟨⟨[0, 1], [], []⟩, [.t (.str), .t (.str)], []⟩, [], [⟨⟨[0], [], []⟩, [.t (.slc .str)], []⟩], fun ls => match ls with | [⟨.str, a0⟩, ⟨.str, a1⟩] => .get (strings_Split a0 a1) (fun r => .ret (0, [⟨.slc .str, r⟩])) | _ => .fail⟩
noncomputable def strconv_Atoi_md : Mode U := ⟨⟨⟨[0], [], []⟩, [.t (.str)], []⟩, [], [⟨⟨[0, 1], [], []⟩, [.t (.int .i64), .t (.err)], []⟩], fun ls => match ls with | [⟨.str, a0⟩] => .get (strconv_Atoi a0) (fun r => .ret (0, [⟨.int .i64, r.1⟩, ⟨.err, r.2⟩])) | _ => .fail⟩
noncomputable def strconv_ItoaW_md : Mode U := ⟨⟨⟨[0], [], []⟩, [.t (.int .i64)], []⟩, [], [⟨⟨[0], [], []⟩, [.t (.str)], []⟩], fun ls => match ls with | [⟨.int .i64, a0⟩] => .get (strconv_ItoaW a0) (fun r => .ret (0, [⟨.str, r⟩])) | _ => .fail⟩
noncomputable def strings_Builder_copyCheck_md : Mode U := ⟨⟨⟨[0], [100000], [⟨.cell 100000 1, 200001, 5, .int .u8⟩]⟩, [.ptr 100000 0], [.blk 52 [.selfp 100000, .oslc 200001], .row 5 (.int .u8)]⟩, [⟨100000, .slot 0, []⟩], [⟨⟨[], [100000], [⟨.cell 100000 1, 200001, 5, .int .u8⟩]⟩, [], [.blk 52 [.selfp 100000, .oslc 200001], .row 5 (.int .u8)]⟩], fun ls => match ls with | [⟨.slc (.int .u8), l⟩] => .ret (0, [⟨.slc (.int .u8), l⟩]) | _ => .fail⟩
noncomputable def strings_Builder_String_md : Mode U := ⟨⟨⟨[0], [100000], [⟨.cell 100000 1, 200001, 5, .int .u8⟩]⟩, [.ptr 100000 0], [.blk 52 [.selfp 100000, .oslc 200001], .row 5 (.int .u8)]⟩, [⟨100000, .slot 0, []⟩], [⟨⟨[0], [], []⟩, [.t .str], []⟩], fun ls => match ls with | [⟨.slc (.int .u8), l⟩] => .get (strings_Builder_String l) (fun r => .ret (0, [⟨.str, r⟩])) | _ => .fail⟩
noncomputable def ms0 : List (FuncId × Mode U) := []
noncomputable def ms1 : List (FuncId × Mode U) := (26, strings_Cut_md) :: ms0
noncomputable def ms2 : List (FuncId × Mode U) := (44, strings_Split_md) :: ms1
noncomputable def ms3 : List (FuncId × Mode U) := (53, strconv_Atoi_md) :: ms2
noncomputable def ms4 : List (FuncId × Mode U) := (31, strconv_ItoaW_md) :: ms3
noncomputable def ms5 : List (FuncId × Mode U) := (40, strings_Builder_copyCheck_md) :: ms4
noncomputable def ms6 : List (FuncId × Mode U) := (24, strings_Builder_String_md) :: ms5
end Lift.H1
namespace Go.Proofs
open Go.Shelf Go.RowKit
def Tryd.laysCut_ren : Go.Shelf.Ren := ⟨fun | 145 => 26 | 220 => 35 | 219 => 43 | 217 => 48 | 225 => 49 | 224 => 50 | 267 => 51 | 266 => 59 | 314 => 60 | n => n, fun | 9 => 9 | 4 => 4 | 59 => 62 | 3 => 3 | 5 => 5 | 46 => 95 | 146 => 104 | 51 => 103 | n => n, fun | 1 => 0 | n => n⟩
theorem Tryd.laysCut : Go.Proofs.LaysM.n145 Tryd.prog Tryd.laysCut_ren where
  mixed := by kernel_rfl
  f145 := Tryd.func26.trans (congrArg some (by kernel_rfl))
  f217 := Tryd.func48.trans (congrArg some (by kernel_rfl))
  f219 := Tryd.func43.trans (congrArg some (by kernel_rfl))
  f220 := Tryd.func35.trans (congrArg some (by kernel_rfl))
  f224 := Tryd.func50.trans (congrArg some (by kernel_rfl))
  f225 := Tryd.func49.trans (congrArg some (by kernel_rfl))
  f266 := Tryd.func59.trans (congrArg some (by kernel_rfl))
  f267 := Tryd.func51.trans (congrArg some (by kernel_rfl))
  f314 := Tryd.func60.trans (congrArg some (by kernel_rfl))
  t3 := Tryd.underlying3
  a3 := Tryd.isAgg3
  z3 := Tryd.sizeOf3
  v3 := Tryd.zeroValue3
  t4 := Tryd.underlying4
  a4 := Tryd.isAgg4
  z4 := Tryd.sizeOf4
  v4 := Tryd.zeroValue4
  t5 := Tryd.underlying5
  a5 := Tryd.isAgg5
  z5 := Tryd.sizeOf5
  v5 := Tryd.zeroValue5
  t9 := Tryd.underlying9
  a9 := Tryd.isAgg9
  z9 := Tryd.sizeOf9
  v9 := Tryd.zeroValue9
  t46 := Tryd.underlying95
  a46 := Tryd.isAgg95
  z46 := Tryd.sizeOf95
  v46 := Tryd.zeroValue95
  t51 := Tryd.underlying103
  a51 := Tryd.isAgg103
  z51 := Tryd.sizeOf103
  v51 := Tryd.zeroValue103
  t59 := Tryd.underlying62
  a59 := Tryd.isAgg62
  z59 := Tryd.sizeOf62
  v59 := Tryd.zeroValue62
  t146 := Tryd.underlying104
  a146 := Tryd.isAgg104
  z146 := Tryd.sizeOf104
  v146 := Tryd.zeroValue104
  g1 := by kernel_rfl
  i3 := by kernel_rfl
  i4 := by kernel_rfl
  i5 := by kernel_rfl
  i9 := by kernel_rfl
  i46 := by kernel_rfl
  i51 := by kernel_rfl
  i59 := by kernel_rfl
  i146 := by kernel_rfl
  m1 := by kernel_rfl
  s1_3 := fun w h => Go.Proofs.cell_of_shapedOpen_int (zero := #[.int .i64 0]) (t := 3) h (of_decide_eq_true (by kernel_rfl)) (by kernel_rfl) rfl (by kernel_rfl) (by kernel_rfl) Tryd.underlying3
def Tryd.laysSplit_ren : Go.Shelf.Ren := ⟨fun | 146 => 44 | 221 => 52 | 268 => 61 | 138 => 62 | 143 => 63 | 195 => 72 | 197 => 73 | 218 => 74 | 219 => 43 | 260 => 83 | 217 => 48 | 225 => 49 | 224 => 50 | 267 => 51 | 266 => 59 | 314 => 60 | n => n, fun | 9 => 9 | 31 => 68 | 3 => 3 | 4 => 4 | 0 => 0 | 105 => 113 | 21 => 21 | 5 => 5 | 46 => 95 | 119 => 131 | 139 => 134 | 138 => 133 | 146 => 104 | 51 => 103 | n => n, fun | 1 => 0 | 3 => 6 | 4 => 7 | n => n⟩
theorem Tryd.laysSplit : Go.Proofs.LaysM.n146 Tryd.prog Tryd.laysSplit_ren where
  mixed := by kernel_rfl
  f138 := Tryd.func62.trans (congrArg some (by kernel_rfl))
  f143 := Tryd.func63.trans (congrArg some (by kernel_rfl))
  f146 := Tryd.func44.trans (congrArg some (by kernel_rfl))
  f195 := Tryd.func72.trans (congrArg some (by kernel_rfl))
  f197 := Tryd.func73.trans (congrArg some (by kernel_rfl))
  f217 := Tryd.func48.trans (congrArg some (by kernel_rfl))
  f218 := Tryd.func74.trans (congrArg some (by kernel_rfl))
  f219 := Tryd.func43.trans (congrArg some (by kernel_rfl))
  f221 := Tryd.func52.trans (congrArg some (by kernel_rfl))
  f224 := Tryd.func50.trans (congrArg some (by kernel_rfl))
  f225 := Tryd.func49.trans (congrArg some (by kernel_rfl))
  f260 := Tryd.func83.trans (congrArg some (by kernel_rfl))
  f266 := Tryd.func59.trans (congrArg some (by kernel_rfl))
  f267 := Tryd.func51.trans (congrArg some (by kernel_rfl))
  f268 := Tryd.func61.trans (congrArg some (by kernel_rfl))
  f314 := Tryd.func60.trans (congrArg some (by kernel_rfl))
  t0 := Tryd.underlying0
  a0 := Tryd.isAgg0
  z0 := Tryd.sizeOf0
  v0 := Tryd.zeroValue0
  t3 := Tryd.underlying3
  a3 := Tryd.isAgg3
  z3 := Tryd.sizeOf3
  v3 := Tryd.zeroValue3
  t4 := Tryd.underlying4
  a4 := Tryd.isAgg4
  z4 := Tryd.sizeOf4
  v4 := Tryd.zeroValue4
  t5 := Tryd.underlying5
  a5 := Tryd.isAgg5
  z5 := Tryd.sizeOf5
  v5 := Tryd.zeroValue5
  t9 := Tryd.underlying9
  a9 := Tryd.isAgg9
  z9 := Tryd.sizeOf9
  v9 := Tryd.zeroValue9
  t21 := Tryd.underlying21
  a21 := Tryd.isAgg21
  z21 := Tryd.sizeOf21
  v21 := Tryd.zeroValue21
  t31 := Tryd.underlying68
  a31 := Tryd.isAgg68
  z31 := Tryd.sizeOf68
  v31 := Tryd.zeroValue68
  t46 := Tryd.underlying95
  a46 := Tryd.isAgg95
  z46 := Tryd.sizeOf95
  v46 := Tryd.zeroValue95
  t51 := Tryd.underlying103
  a51 := Tryd.isAgg103
  z51 := Tryd.sizeOf103
  v51 := Tryd.zeroValue103
  t105 := Tryd.underlying113
  a105 := Tryd.isAgg113
  z105 := Tryd.sizeOf113
  v105 := Tryd.zeroValue113
  t119 := Tryd.underlying131
  a119 := Tryd.isAgg131
  z119 := Tryd.sizeOf131
  t138 := Tryd.underlying133
  a138 := Tryd.isAgg133
  z138 := Tryd.sizeOf133
  v138 := Tryd.zeroValue133
  t139 := Tryd.underlying134
  a139 := Tryd.isAgg134
  z139 := Tryd.sizeOf134
  v139 := Tryd.zeroValue134
  t146 := Tryd.underlying104
  a146 := Tryd.isAgg104
  z146 := Tryd.sizeOf104
  v146 := Tryd.zeroValue104
  g1 := by kernel_rfl
  g3 := by kernel_rfl
  g4 := by kernel_rfl
  i0 := by kernel_rfl
  i3 := by kernel_rfl
  i4 := by kernel_rfl
  i5 := by kernel_rfl
  i9 := by kernel_rfl
  i21 := by kernel_rfl
  i31 := by kernel_rfl
  i46 := by kernel_rfl
  i51 := by kernel_rfl
  i105 := by kernel_rfl
  i138 := by kernel_rfl
  i139 := by kernel_rfl
  i146 := by kernel_rfl
  m1 := by kernel_rfl
  s1_3 := fun w h => Go.Proofs.cell_of_shapedOpen_int (zero := #[.int .i64 0]) (t := 3) h (of_decide_eq_true (by kernel_rfl)) (by kernel_rfl) rfl (by kernel_rfl) (by kernel_rfl) Tryd.underlying3
  m3 := by kernel_rfl
  m4 := by kernel_rfl
def Tryd.laysAtoi_ren : Go.Shelf.Ren := ⟨fun | 172 => 53 | 244 => 64 | 245 => 65 | 247 => 75 | 279 => 76 | 280 => 77 | 281 => 78 | 282 => 79 | 287 => 84 | 316 => 85 | 171 => 31 | 205 => 86 | 321 => 87 | 322 => 88 | 243 => 41 | 246 => 47 | 283 => 55 | 284 => 56 | 285 => 57 | 286 => 58 | 129 => 68 | 317 => 67 | 318 => 69 | 319 => 70 | 320 => 71 | 337 => 81 | 338 => 82 | n => n, fun | 9 => 9 | 3 => 3 | 75 => 70 | 76 => 71 | 4 => 4 | 5 => 5 | 167 => 115 | 37 => 45 | 0 => 0 | 85 => 116 | 2 => 2 | 168 => 118 | 53 => 85 | 175 => 123 | 46 => 95 | 210 => 127 | 127 => 74 | 145 => 138 | 143 => 136 | 21 => 21 | 171 => 98 | 173 => 101 | 212 => 109 | 51 => 103 | 20 => 20 | 213 => 110 | 232 => 129 | 233 => 130 | 80 => 58 | n => n, fun | 15 => 2 | 16 => 3 | 17 => 1 | 18 => 4 | 19 => 5 | n => n⟩
theorem Tryd.laysAtoi : Go.Proofs.LaysC.n172 Tryd.prog Tryd.laysAtoi_ren where
  mixed := by kernel_rfl
  f129 := Tryd.func68.trans (congrArg some (by kernel_rfl))
  f171 := Tryd.func31.trans (congrArg some (by kernel_rfl))
  f172 := Tryd.func53.trans (congrArg some (by kernel_rfl))
  f205 := Tryd.func86.trans (congrArg some (by kernel_rfl))
  f243 := Tryd.func41.trans (congrArg some (by kernel_rfl))
  f244 := Tryd.func64.trans (congrArg some (by kernel_rfl))
  f245 := Tryd.func65.trans (congrArg some (by kernel_rfl))
  f246 := Tryd.func47.trans (congrArg some (by kernel_rfl))
  f247 := Tryd.func75.trans (congrArg some (by kernel_rfl))
  f279 := Tryd.func76.trans (congrArg some (by kernel_rfl))
  f280 := Tryd.func77.trans (congrArg some (by kernel_rfl))
  f281 := Tryd.func78.trans (congrArg some (by kernel_rfl))
  f282 := Tryd.func79.trans (congrArg some (by kernel_rfl))
  f283 := Tryd.func55.trans (congrArg some (by kernel_rfl))
  f284 := Tryd.func56.trans (congrArg some (by kernel_rfl))
  f285 := Tryd.func57.trans (congrArg some (by kernel_rfl))
  f286 := Tryd.func58.trans (congrArg some (by kernel_rfl))
  f287 := Tryd.func84.trans (congrArg some (by kernel_rfl))
  f316 := Tryd.func85.trans (congrArg some (by kernel_rfl))
  f317 := Tryd.func67.trans (congrArg some (by kernel_rfl))
  f318 := Tryd.func69.trans (congrArg some (by kernel_rfl))
  f319 := Tryd.func70.trans (congrArg some (by kernel_rfl))
  f320 := Tryd.func71.trans (congrArg some (by kernel_rfl))
  f321 := Tryd.func87.trans (congrArg some (by kernel_rfl))
  f322 := Tryd.func88.trans (congrArg some (by kernel_rfl))
  f337 := Tryd.func81.trans (congrArg some (by kernel_rfl))
  f338 := Tryd.func82.trans (congrArg some (by kernel_rfl))
  t0 := Tryd.underlying0
  a0 := Tryd.isAgg0
  z0 := Tryd.sizeOf0
  v0 := Tryd.zeroValue0
  t2 := Tryd.underlying2
  a2 := Tryd.isAgg2
  z2 := Tryd.sizeOf2
  v2 := Tryd.zeroValue2
  t3 := Tryd.underlying3
  a3 := Tryd.isAgg3
  z3 := Tryd.sizeOf3
  v3 := Tryd.zeroValue3
  t4 := Tryd.underlying4
  a4 := Tryd.isAgg4
  z4 := Tryd.sizeOf4
  v4 := Tryd.zeroValue4
  t5 := Tryd.underlying5
  a5 := Tryd.isAgg5
  z5 := Tryd.sizeOf5
  v5 := Tryd.zeroValue5
  t9 := Tryd.underlying9
  a9 := Tryd.isAgg9
  z9 := Tryd.sizeOf9
  v9 := Tryd.zeroValue9
  t20 := Tryd.underlying20
  a20 := Tryd.isAgg20
  z20 := Tryd.sizeOf20
  v20 := Tryd.zeroValue20
  t21 := Tryd.underlying21
  a21 := Tryd.isAgg21
  z21 := Tryd.sizeOf21
  v21 := Tryd.zeroValue21
  t37 := Tryd.underlying45
  a37 := Tryd.isAgg45
  z37 := Tryd.sizeOf45
  v37 := Tryd.zeroValue45
  t46 := Tryd.underlying95
  a46 := Tryd.isAgg95
  z46 := Tryd.sizeOf95
  v46 := Tryd.zeroValue95
  t51 := Tryd.underlying103
  a51 := Tryd.isAgg103
  z51 := Tryd.sizeOf103
  v51 := Tryd.zeroValue103
  t53 := Tryd.underlying85
  a53 := Tryd.isAgg85
  z53 := Tryd.sizeOf85
  v53 := Tryd.zeroValue85
  t75 := Tryd.underlying70
  a75 := Tryd.isAgg70
  z75 := Tryd.sizeOf70
  v75 := Tryd.zeroValue70
  t76 := Tryd.underlying71
  a76 := Tryd.isAgg71
  z76 := Tryd.sizeOf71
  v76 := Tryd.zeroValue71
  t85 := Tryd.underlying116
  a85 := Tryd.isAgg116
  z85 := Tryd.sizeOf116
  v85 := Tryd.zeroValue116
  t127 := Tryd.underlying74
  a127 := Tryd.isAgg74
  z127 := Tryd.sizeOf74
  v127 := Tryd.zeroValue74
  t143 := Tryd.underlying136
  a143 := Tryd.isAgg136
  z143 := Tryd.sizeOf136
  v143 := Tryd.zeroValue136
  t145 := Tryd.underlying138
  a145 := Tryd.isAgg138
  z145 := Tryd.sizeOf138
  v145 := Tryd.zeroValue138
  t167 := Tryd.underlying115
  a167 := Tryd.isAgg115
  z167 := Tryd.sizeOf115
  v167 := Tryd.zeroValue115
  t168 := Tryd.underlying118
  a168 := Tryd.isAgg118
  z168 := Tryd.sizeOf118
  v168 := Tryd.zeroValue118
  t171 := Tryd.underlying98
  a171 := Tryd.isAgg98
  z171 := Tryd.sizeOf98
  v171 := Tryd.zeroValue98
  t173 := Tryd.underlying101
  a173 := Tryd.isAgg101
  z173 := Tryd.sizeOf101
  v173 := Tryd.zeroValue101
  t175 := Tryd.underlying123
  a175 := Tryd.isAgg123
  z175 := Tryd.sizeOf123
  v175 := Tryd.zeroValue123
  t210 := Tryd.underlying127
  a210 := Tryd.isAgg127
  z210 := Tryd.sizeOf127
  v210 := Tryd.zeroValue127
  t212 := Tryd.underlying109
  a212 := Tryd.isAgg109
  z212 := Tryd.sizeOf109
  v212 := Tryd.zeroValue109
  t213 := Tryd.underlying110
  a213 := Tryd.isAgg110
  z213 := Tryd.sizeOf110
  t232 := Tryd.underlying129
  a232 := Tryd.isAgg129
  z232 := Tryd.sizeOf129
  v232 := Tryd.zeroValue129
  t233 := Tryd.underlying130
  a233 := Tryd.isAgg130
  z233 := Tryd.sizeOf130
  v233 := Tryd.zeroValue130
  g15 := by kernel_rfl
  g16 := by kernel_rfl
  g17 := by kernel_rfl
  g18 := by kernel_rfl
  g19 := by kernel_rfl
  t80 := Tryd.underlying58
  a80 := Tryd.isAgg58
  z80 := Tryd.sizeOf58
  v80 := Tryd.zeroValue58
  i0 := by kernel_rfl
  i2 := by kernel_rfl
  i3 := by kernel_rfl
  i4 := by kernel_rfl
  i5 := by kernel_rfl
  i9 := by kernel_rfl
  i20 := by kernel_rfl
  i21 := by kernel_rfl
  i37 := by kernel_rfl
  i46 := by kernel_rfl
  i51 := by kernel_rfl
  i53 := by kernel_rfl
  i75 := by kernel_rfl
  i76 := by kernel_rfl
  i80 := by kernel_rfl
  i85 := by kernel_rfl
  i127 := by kernel_rfl
  i143 := by kernel_rfl
  i145 := by kernel_rfl
  i167 := by kernel_rfl
  i168 := by kernel_rfl
  i171 := by kernel_rfl
  i173 := by kernel_rfl
  i175 := by kernel_rfl
  i210 := by kernel_rfl
  i212 := by kernel_rfl
  i232 := by kernel_rfl
  i233 := by kernel_rfl
  m15 := by kernel_rfl
  m16 := by kernel_rfl
  m17 := by kernel_rfl
  m18 := by kernel_rfl
  m19 := by kernel_rfl
  c0 := by kernel_rfl
  c2 := by kernel_rfl
  c3 := by kernel_rfl
  c4 := by kernel_rfl
  c5 := by kernel_rfl
  c9 := by kernel_rfl
  c20 := by kernel_rfl
  c21 := by kernel_rfl
  c37 := by kernel_rfl
  c46 := by kernel_rfl
  c51 := by kernel_rfl
  c53 := by kernel_rfl
  c75 := by kernel_rfl
  c76 := by kernel_rfl
  c80 := by kernel_rfl
  c85 := by kernel_rfl
  c127 := by kernel_rfl
  c143 := by kernel_rfl
  c145 := by kernel_rfl
  c167 := by kernel_rfl
  c168 := by kernel_rfl
  c171 := by kernel_rfl
  c173 := by kernel_rfl
  c175 := by kernel_rfl
  c210 := by kernel_rfl
  c212 := by kernel_rfl
  c213 := by kernel_rfl
  c232 := by kernel_rfl
  c233 := by kernel_rfl
def Tryd.laysItoa_ren : Go.Shelf.Ren := ⟨fun | 171 => 31 | 243 => 41 | 246 => 47 | 283 => 55 | 284 => 56 | 285 => 57 | 286 => 58 | 129 => 68 | 317 => 67 | 318 => 69 | 319 => 70 | 320 => 71 | 337 => 81 | 338 => 82 | n => n, fun | 3 => 3 | 9 => 9 | 2 => 2 | 4 => 4 | 171 => 98 | 0 => 0 | 53 => 85 | 37 => 45 | 5 => 5 | 173 => 101 | 212 => 109 | 51 => 103 | 20 => 20 | 213 => 110 | 46 => 95 | 232 => 129 | 233 => 130 | n => n, fun | 17 => 1 | 18 => 4 | 19 => 5 | n => n⟩
theorem Tryd.laysItoa : Go.Proofs.LaysM.n171 Tryd.prog Tryd.laysItoa_ren where
  mixed := by kernel_rfl
  f129 := Tryd.func68.trans (congrArg some (by kernel_rfl))
  f171 := Tryd.func31.trans (congrArg some (by kernel_rfl))
  f243 := Tryd.func41.trans (congrArg some (by kernel_rfl))
  f246 := Tryd.func47.trans (congrArg some (by kernel_rfl))
  f283 := Tryd.func55.trans (congrArg some (by kernel_rfl))
  f284 := Tryd.func56.trans (congrArg some (by kernel_rfl))
  f285 := Tryd.func57.trans (congrArg some (by kernel_rfl))
  f286 := Tryd.func58.trans (congrArg some (by kernel_rfl))
  f317 := Tryd.func67.trans (congrArg some (by kernel_rfl))
  f318 := Tryd.func69.trans (congrArg some (by kernel_rfl))
  f319 := Tryd.func70.trans (congrArg some (by kernel_rfl))
  f320 := Tryd.func71.trans (congrArg some (by kernel_rfl))
  f337 := Tryd.func81.trans (congrArg some (by kernel_rfl))
  f338 := Tryd.func82.trans (congrArg some (by kernel_rfl))
  t0 := Tryd.underlying0
  a0 := Tryd.isAgg0
  z0 := Tryd.sizeOf0
  v0 := Tryd.zeroValue0
  t2 := Tryd.underlying2
  a2 := Tryd.isAgg2
  z2 := Tryd.sizeOf2
  v2 := Tryd.zeroValue2
  t3 := Tryd.underlying3
  a3 := Tryd.isAgg3
  z3 := Tryd.sizeOf3
  v3 := Tryd.zeroValue3
  t4 := Tryd.underlying4
  a4 := Tryd.isAgg4
  z4 := Tryd.sizeOf4
  v4 := Tryd.zeroValue4
  t5 := Tryd.underlying5
  a5 := Tryd.isAgg5
  z5 := Tryd.sizeOf5
  v5 := Tryd.zeroValue5
  t9 := Tryd.underlying9
  a9 := Tryd.isAgg9
  z9 := Tryd.sizeOf9
  v9 := Tryd.zeroValue9
  t20 := Tryd.underlying20
  a20 := Tryd.isAgg20
  z20 := Tryd.sizeOf20
  v20 := Tryd.zeroValue20
  t37 := Tryd.underlying45
  a37 := Tryd.isAgg45
  z37 := Tryd.sizeOf45
  v37 := Tryd.zeroValue45
  t46 := Tryd.underlying95
  a46 := Tryd.isAgg95
  z46 := Tryd.sizeOf95
  v46 := Tryd.zeroValue95
  t51 := Tryd.underlying103
  a51 := Tryd.isAgg103
  z51 := Tryd.sizeOf103
  v51 := Tryd.zeroValue103
  t53 := Tryd.underlying85
  a53 := Tryd.isAgg85
  z53 := Tryd.sizeOf85
  v53 := Tryd.zeroValue85
  t171 := Tryd.underlying98
  a171 := Tryd.isAgg98
  z171 := Tryd.sizeOf98
  v171 := Tryd.zeroValue98
  t173 := Tryd.underlying101
  a173 := Tryd.isAgg101
  z173 := Tryd.sizeOf101
  v173 := Tryd.zeroValue101
  t212 := Tryd.underlying109
  a212 := Tryd.isAgg109
  z212 := Tryd.sizeOf109
  v212 := Tryd.zeroValue109
  t213 := Tryd.underlying110
  a213 := Tryd.isAgg110
  z213 := Tryd.sizeOf110
  t232 := Tryd.underlying129
  a232 := Tryd.isAgg129
  z232 := Tryd.sizeOf129
  v232 := Tryd.zeroValue129
  t233 := Tryd.underlying130
  a233 := Tryd.isAgg130
  z233 := Tryd.sizeOf130
  v233 := Tryd.zeroValue130
  g17 := by kernel_rfl
  g18 := by kernel_rfl
  g19 := by kernel_rfl
  i0 := by kernel_rfl
  i2 := by kernel_rfl
  i3 := by kernel_rfl
  i4 := by kernel_rfl
  i5 := by kernel_rfl
  i9 := by kernel_rfl
  i20 := by kernel_rfl
  i37 := by kernel_rfl
  i46 := by kernel_rfl
  i51 := by kernel_rfl
  i53 := by kernel_rfl
  i171 := by kernel_rfl
  i173 := by kernel_rfl
  i212 := by kernel_rfl
  i232 := by kernel_rfl
  i233 := by kernel_rfl
  m17 := by kernel_rfl
  m18 := by kernel_rfl
  m19 := by kernel_rfl
def Tryd.laysString_ren : Go.Shelf.Ren := ⟨fun | 169 => 24 | n => n, fun | 70 => 50 | 9 => 9 | 0 => 0 | 72 => 52 | 37 => 45 | 127 => 74 | 3 => 3 | 5 => 5 | n => n, fun | n => n⟩
theorem Tryd.laysString : Go.Proofs.Lays.n169 Tryd.prog Tryd.laysString_ren where
  mixed := by kernel_rfl
  f169 := Tryd.func24.trans (congrArg some (by kernel_rfl))
  t0 := Tryd.underlying0
  a0 := Tryd.isAgg0
  z0 := Tryd.sizeOf0
  v0 := Tryd.zeroValue0
  t3 := Tryd.underlying3
  a3 := Tryd.isAgg3
  z3 := Tryd.sizeOf3
  v3 := Tryd.zeroValue3
  t9 := Tryd.underlying9
  a9 := Tryd.isAgg9
  z9 := Tryd.sizeOf9
  v9 := Tryd.zeroValue9
  t37 := Tryd.underlying45
  a37 := Tryd.isAgg45
  z37 := Tryd.sizeOf45
  v37 := Tryd.zeroValue45
  t70 := Tryd.underlying50
  a70 := Tryd.isAgg50
  z70 := Tryd.sizeOf50
  v70 := Tryd.zeroValue50
  t72 := Tryd.underlying52
  a72 := Tryd.isAgg52
  z72 := Tryd.sizeOf52
  v72 := Tryd.zeroValue52
  t127 := Tryd.underlying74
  a127 := Tryd.isAgg74
  z127 := Tryd.sizeOf74
  v127 := Tryd.zeroValue74
def Tryd.laysCheck_ren : Go.Shelf.Ren := ⟨fun | 166 => 30 | 240 => 40 | 276 => 46 | n => n, fun | 70 => 50 | 9 => 9 | 3 => 3 | 75 => 70 | 0 => 0 | 72 => 52 | 37 => 45 | 4 => 4 | 164 => 90 | 80 => 58 | 5 => 5 | n => n, fun | n => n⟩
theorem Tryd.laysCheck : Go.Proofs.Lays.n166 Tryd.prog Tryd.laysCheck_ren where
  mixed := by kernel_rfl
  f166 := Tryd.func30.trans (congrArg some (by kernel_rfl))
  f240 := Tryd.func40.trans (congrArg some (by kernel_rfl))
  f276 := Tryd.func46.trans (congrArg some (by kernel_rfl))
  t0 := Tryd.underlying0
  a0 := Tryd.isAgg0
  z0 := Tryd.sizeOf0
  v0 := Tryd.zeroValue0
  t3 := Tryd.underlying3
  a3 := Tryd.isAgg3
  z3 := Tryd.sizeOf3
  v3 := Tryd.zeroValue3
  t4 := Tryd.underlying4
  a4 := Tryd.isAgg4
  z4 := Tryd.sizeOf4
  v4 := Tryd.zeroValue4
  t9 := Tryd.underlying9
  a9 := Tryd.isAgg9
  z9 := Tryd.sizeOf9
  v9 := Tryd.zeroValue9
  t20 := Tryd.underlying20
  a20 := Tryd.isAgg20
  z20 := Tryd.sizeOf20
  v20 := Tryd.zeroValue20
  t37 := Tryd.underlying45
  a37 := Tryd.isAgg45
  z37 := Tryd.sizeOf45
  v37 := Tryd.zeroValue45
  t70 := Tryd.underlying50
  a70 := Tryd.isAgg50
  z70 := Tryd.sizeOf50
  v70 := Tryd.zeroValue50
  t72 := Tryd.underlying52
  a72 := Tryd.isAgg52
  z72 := Tryd.sizeOf52
  v72 := Tryd.zeroValue52
  t75 := Tryd.underlying70
  a75 := Tryd.isAgg70
  z75 := Tryd.sizeOf70
  v75 := Tryd.zeroValue70
  t164 := Tryd.underlying90
  a164 := Tryd.isAgg90
  z164 := Tryd.sizeOf90
  v164 := Tryd.zeroValue90
theorem Tryd.extra : Builder.Extra Tryd.prog Tryd.laysCheck_ren where
  sizeBuilder := by kernel_rfl
  liesBuilder := by kernel_rfl
  t5 := Tryd.underlying5
  a5 := Tryd.isAgg5
  z5 := Tryd.sizeOf5
  v5 := Tryd.zeroValue5
  infoByte := by kernel_rfl
  cellsByte := by kernel_rfl
  sizeByte := by kernel_rfl
  neB5 := by decide
theorem Tryd.extraS : Builder.Extra Tryd.prog Tryd.laysString_ren where
  sizeBuilder := by kernel_rfl
  liesBuilder := by kernel_rfl
  t5 := Tryd.underlying5
  a5 := Tryd.isAgg5
  z5 := Tryd.sizeOf5
  v5 := Tryd.zeroValue5
  infoByte := by kernel_rfl
  cellsByte := by kernel_rfl
  sizeByte := by kernel_rfl
  neB5 := by decide
end Go.Proofs
namespace Lift.H1
open Go Go.RowKit Go.Proofs Lift Lift.Fn
theorem cell_same {w w' : World} {n : Nat} (h : ∀ k, k < n → w'.heap[k]? = w.heap[k]?) {b o : Nat} (hb : b < n) : w'.cell? ⟨b, o, none⟩ = w.cell? ⟨b, o, none⟩ := by
  unfold World.cell?
  rw [h b hb]
def isErr (v : Value) : Prop := v = .nilIface ∨ ∃ te pe, v = .iface te pe
def globs (w : World) : Prop := (∃ m, w.cell? ⟨0, 0, none⟩ = some (.int .i64 m)) ∧ (∃ a b, (w.cell? ⟨2, 0, none⟩ = some a ∧ isErr a) ∧ (w.cell? ⟨3, 0, none⟩ = some b ∧ isErr b)) ∧ Go.Lib.TabIs Tryd.prog w "internal/strconv.uint64pow10" .u64 Go.Lib.pow10Tab ∧ True
theorem globs_stays (w w' : World) (h : globs w) (hs : ∀ k, k < 4 → w'.heap[k]? = w.heap[k]?) : globs w' := by
  refine ⟨?_, ?_, ?_, trivial⟩
  · obtain ⟨m, h3⟩ := h.1
    exact ⟨m, by rw [cell_same hs (by omega)]; exact h3⟩
  · obtain ⟨a, b, ⟨h4, h5⟩, h6, h7⟩ := h.2.1
    exact ⟨a, b, ⟨by rw [cell_same hs (by omega)]; exact h4, h5⟩, by rw [cell_same hs (by omega)]; exact h6, h7⟩
  · exact tab_same (g := 1) (by kernel_rfl) (by omega) hs (h.2.2.1)
@[reducible] def env0 : Env := ⟨globs, 4, fun w w' h hs _ _ _ => globs_stays w w' h hs⟩
theorem known0 : Known kk env0 (modesOf ms0) := known_nil
theorem strings_Cut_post : ∀ ls j rs, (strings_Cut_md.sum ls).val = some (j, rs) → FnPost kk env0 26 strings_Cut_md.sh strings_Cut_md.outs ls j rs := by
  intro ls j rs h
  simp only [strings_Cut_md] at h
  split at h
  · obtain ⟨r, hr, h⟩ := Tr.get_val h
    rw [strings_Cut, sealF_eq, strings_Cut_f, cond_eq_ite, Option.ite_none_right_eq_some, decide_eq_true_eq] at hr
    obtain ⟨hc, hr⟩ := hr
    cases hr
    cases h
    exact cut_post (K := kk) (V := env0) (ρ := Tryd.laysCut_ren) ({ Tryd.laysCut with }) (fun w h => h.1) _ _ hc
  · cases h
theorem known1 : Known kk env0 (modesOf ms1) := known_cons (by kernel_rfl) strings_Cut_post known0
theorem strings_Split_post : ∀ ls j rs, (strings_Split_md.sum ls).val = some (j, rs) → FnPost kk env0 44 strings_Split_md.sh strings_Split_md.outs ls j rs := by
  intro ls j rs h
  simp only [strings_Split_md] at h
  split at h
  · obtain ⟨r, hr, h⟩ := Tr.get_val h
    rw [strings_Split, sealF_eq, strings_Split_f, cond_eq_ite, Option.ite_none_right_eq_some, decide_eq_true_eq] at hr
    obtain ⟨hc, hr⟩ := hr
    cases hr
    cases h
    exact split_post (K := kk) (V := env0) (ρ := Tryd.laysSplit_ren) ({ Tryd.laysSplit with }) (by kernel_rfl) (fun w h => h.1) _ _ hc.1 hc.2
  · cases h
theorem known2 : Known kk env0 (modesOf ms2) := known_cons (by kernel_rfl) strings_Split_post known1
theorem strconv_Atoi_post : ∀ ls j rs, (strconv_Atoi_md.sum ls).val = some (j, rs) → FnPost kk env0 53 strconv_Atoi_md.sh strconv_Atoi_md.outs ls j rs := by
  intro ls j rs h
  simp only [strconv_Atoi_md] at h
  split at h
  · obtain ⟨r, hr, h⟩ := Tr.get_val h
    rw [strconv_Atoi, sealF_eq, strconv_Atoi_f, cond_eq_ite, Option.ite_none_right_eq_some, decide_eq_true_eq] at hr
    obtain ⟨hc, hr⟩ := hr
    cases hr
    cases h
    exact atoi_post (K := kk) (V := env0) (ρ := Tryd.laysAtoi_ren) Tryd.laysAtoi (fun w h => h.2.1) _ hc
  · cases h
theorem known3 : Known kk env0 (modesOf ms3) := known_cons (by kernel_rfl) strconv_Atoi_post known2
theorem strconv_ItoaW_post : ∀ ls j rs, (strconv_ItoaW_md.sum ls).val = some (j, rs) → FnPost kk env0 31 strconv_ItoaW_md.sh strconv_ItoaW_md.outs ls j rs := by
  intro ls j rs h
  simp only [strconv_ItoaW_md] at h
  split at h
  · obtain ⟨r, hr, h⟩ := Tr.get_val h
    rw [strconv_ItoaW, sealF_eq, strconv_ItoaW_f, cond_eq_ite, Option.ite_none_right_eq_some, decide_eq_true_eq] at hr
    obtain ⟨hc, hr⟩ := hr
    cases hr
    cases h
    exact itoaW_post (K := kk) (V := env0) (ρ := Tryd.laysItoa_ren) ({ Tryd.laysItoa with }) (fun w h => h.2.2.1) _ hc
  · cases h
theorem known4 : Known kk env0 (modesOf ms4) := known_cons (by kernel_rfl) strconv_ItoaW_post known3
theorem strings_Builder_copyCheck_post : ∀ ls j rs, (strings_Builder_copyCheck_md.sum ls).val = some (j, rs) → FnPost kk env0 40 strings_Builder_copyCheck_md.sh strings_Builder_copyCheck_md.outs ls j rs := by
  intro ls j rs h
  simp only [strings_Builder_copyCheck_md] at h
  split at h
  · cases h
    exact copyCheck_post (K := kk) (V := env0) (ρ := Tryd.laysCheck_ren) ({ Tryd.laysCheck with }) Tryd.extra.toX72 5 _
  · cases h
theorem known5 : Known kk env0 (modesOf ms5) := known_cons (by kernel_rfl) strings_Builder_copyCheck_post known4
theorem strings_Builder_String_post : ∀ ls j rs, (strings_Builder_String_md.sum ls).val = some (j, rs) → FnPost kk env0 24 strings_Builder_String_md.sh strings_Builder_String_md.outs ls j rs := by
  intro ls j rs h
  simp only [strings_Builder_String_md] at h
  split at h
  · obtain ⟨r, hr, h⟩ := Tr.get_val h
    rw [strings_Builder_String, sealF_eq, strings_Builder_String_f, cond_eq_ite, Option.ite_none_right_eq_some, List.all_eq_true] at hr
    obtain ⟨hc, hr⟩ := hr
    cases hr
    cases h
    exact bstring_post (K := kk) (V := env0) (ρ := Tryd.laysString_ren) Tryd.laysString Tryd.extraS _ (fun n hn => by simpa using hc n hn)
  · cases h
theorem known6 : Known kk env0 (modesOf ms6) := known_cons (by kernel_rfl) strings_Builder_String_post known5
end Lift.H1
namespace Lift.Fn
noncomputable section
open Go Lift
def qag_f (a0 : Int) : Option (Bool) :=
  Option.bind (α := Bool) (
    bif decide (a0 ≥ (-2147483647 : Int)) then
     some (decide (a0 ≤ 2147483647))
    else
     some (false)) fun y0 =>
  some (y0)
def qag : Int → Option (Bool) := sealF (qag_f)
def qah_f : Option ((List (Operation))) :=
  some ([Operation.mk [] [], Operation.mk [(99 : UInt8), (111 : UInt8), (110 : UInt8), (115 : UInt8), (116 : UInt8)] [(82 : UInt8), (78 : UInt8)], Operation.mk [(109 : UInt8), (111 : UInt8), (118 : UInt8), (101 : UInt8)] [(82 : UInt8), (82 : UInt8)], Operation.mk [(110 : UInt8), (101 : UInt8), (103 : UInt8)] [(82 : UInt8), (82 : UInt8)], Operation.mk [(110 : UInt8), (111 : UInt8), (116 : UInt8)] [(82 : UInt8), (82 : UInt8)], Operation.mk [(97 : UInt8), (100 : UInt8), (100 : UInt8)] [(82 : UInt8), (82 : UInt8), (82 : UInt8)], Operation.mk [(115 : UInt8), (117 : UInt8), (98 : UInt8)] [(82 : UInt8), (82 : UInt8), (82 : UInt8)], Operation.mk [(109 : UInt8), (117 : UInt8), (108 : UInt8)] [(82 : UInt8), (82 : UInt8), (82 : UInt8)], Operation.mk [(100 : UInt8), (105 : UInt8), (118 : UInt8)] [(82 : UInt8), (82 : UInt8), (82 : UInt8)], Operation.mk [(114 : UInt8), (101 : UInt8), (109 : UInt8)] [(82 : UInt8), (82 : UInt8), (82 : UInt8)], Operation.mk [(101 : UInt8), (113 : UInt8)] [(82 : UInt8), (82 : UInt8), (82 : UInt8)], Operation.mk [(110 : UInt8), (101 : UInt8)] [(82 : UInt8), (82 : UInt8), (82 : UInt8)], Operation.mk [(108 : UInt8), (116 : UInt8)] [(82 : UInt8), (82 : UInt8), (82 : UInt8)], Operation.mk [(108 : UInt8), (101 : UInt8)] [(82 : UInt8), (82 : UInt8), (82 : UInt8)], Operation.mk [(103 : UInt8), (116 : UInt8)] [(82 : UInt8), (82 : UInt8), (82 : UInt8)], Operation.mk [(103 : UInt8), (101 : UInt8)] [(82 : UInt8), (82 : UInt8), (82 : UInt8)], Operation.mk [(97 : UInt8), (110 : UInt8), (100 : UInt8)] [(82 : UInt8), (82 : UInt8), (82 : UInt8)], Operation.mk [(111 : UInt8), (114 : UInt8)] [(82 : UInt8), (82 : UInt8), (82 : UInt8)], Operation.mk [(106 : UInt8), (117 : UInt8), (109 : UInt8), (112 : UInt8)] [(73 : UInt8)], Operation.mk [(117 : UInt8), (110 : UInt8), (108 : UInt8), (101 : UInt8), (115 : UInt8), (115 : UInt8)] [(82 : UInt8), (73 : UInt8)], Operation.mk [(97 : UInt8), (103 : UInt8), (97 : UInt8), (105 : UInt8), (110 : UInt8)] [(82 : UInt8), (73 : UInt8)], Operation.mk [(114 : UInt8), (101 : UInt8), (97 : UInt8), (100 : UInt8)] [(82 : UInt8), (99 : UInt8)], Operation.mk [(119 : UInt8), (114 : UInt8), (105 : UInt8), (116 : UInt8), (101 : UInt8)] [(99 : UInt8), (82 : UInt8)], Operation.mk [(102 : UInt8), (101 : UInt8), (116 : UInt8), (99 : UInt8), (104 : UInt8)] [(82 : UInt8), (99 : UInt8), (82 : UInt8)], Operation.mk [(108 : UInt8), (111 : UInt8), (99 : UInt8), (107 : UInt8)] [(109 : UInt8)], Operation.mk [(117 : UInt8), (110 : UInt8), (108 : UInt8), (111 : UInt8), (99 : UInt8), (107 : UInt8)] [(109 : UInt8)], Operation.mk [(115 : UInt8), (116 : UInt8), (97 : UInt8), (114 : UInt8), (116 : UInt8)] [(116 : UInt8)], Operation.mk [(106 : UInt8), (111 : UInt8), (105 : UInt8), (110 : UInt8)] [(116 : UInt8)], Operation.mk [(97 : UInt8), (115 : UInt8), (115 : UInt8), (101 : UInt8), (114 : UInt8), (116 : UInt8)] [(82 : UInt8)], Operation.mk [(101 : UInt8), (110 : UInt8), (100 : UInt8)] []])
def qah : Option ((List (Operation))) := sealF (qah_f)
def qad_t6 (rec : List UInt8 → Int → Int → List (Int) → Int → List (ACode) → Int → List (Instr) → List (Int) → Option ((Bool) ⊕ (Unit))) (a0 : List UInt8) (a1 : Int) (a2 : Int) (a3 : List (Int)) (a4 : Int) (a5 : List (ACode)) (a6 : Int) (a7 : List (Instr)) (a8 : List (Int)) : Option ((Bool) ⊕ (Unit)) :=
  bif decide (a2 < a1) then
   bif decide (0 ≤ a2) && decide (a2 < (↑(List.length a8) : Int)) then
    Option.bind (a8[Int.toNat a2]?) fun y0 =>
    bif decide (a2 < (↑(List.length a0) : Int)) then
     bif decide (0 ≤ a2) then
      Option.bind (a0[Int.toNat a2]?) fun y1 =>
      bif (↑(UInt8.toNat y1) : Int) == 78 then
       Option.bind (qag y0) fun y2 =>
       bif !y2 then
        some (.inl (false))
       else
        rec (a0) (a1) (IntKind.wrap IntKind.i64 (a2 + (1 : Int))) (a3) (a4) (a5) (a6) (a7) (a8)
      else
       bif (↑(UInt8.toNat y1) : Int) == 82 then
        Option.bind (α := Bool) (
          bif decide (y0 < 0) then
           some (true)
          else
           some (decide (y0 ≥ a6))) fun y3 =>
        bif y3 then
         some (.inl (false))
        else
         rec (a0) (a1) (IntKind.wrap IntKind.i64 (a2 + (1 : Int))) (a3) (a4) (a5) (a6) (a7) (a8)
       else
        bif (↑(UInt8.toNat y1) : Int) == 73 then
         Option.bind (α := Bool) (
           bif decide (y0 < 0) then
            some (true)
           else
            some (decide (y0 ≥ (↑(List.length a7) : Int)))) fun y4 =>
         bif y4 then
          some (.inl (false))
         else
          rec (a0) (a1) (IntKind.wrap IntKind.i64 (a2 + (1 : Int))) (a3) (a4) (a5) (a6) (a7) (a8)
        else
         bif (↑(UInt8.toNat y1) : Int) == 99 then
          Option.bind (α := Bool) (
            bif decide (y0 < 0) then
             some (true)
            else
             some (decide (y0 ≥ (↑(List.length a3) : Int)))) fun y5 =>
          bif y5 then
           some (.inl (false))
          else
           rec (a0) (a1) (IntKind.wrap IntKind.i64 (a2 + (1 : Int))) (a3) (a4) (a5) (a6) (a7) (a8)
         else
          bif (↑(UInt8.toNat y1) : Int) == 109 then
           Option.bind (α := Bool) (
             bif decide (y0 < 0) then
              some (true)
             else
              some (decide (y0 ≥ a4))) fun y6 =>
           bif y6 then
            some (.inl (false))
           else
            rec (a0) (a1) (IntKind.wrap IntKind.i64 (a2 + (1 : Int))) (a3) (a4) (a5) (a6) (a7) (a8)
          else
           bif (↑(UInt8.toNat y1) : Int) == 116 then
            Option.bind (α := Bool) (
              bif decide (y0 < 0) then
               some (true)
              else
               some (decide (y0 ≥ (↑(List.length a5) : Int)))) fun y7 =>
            bif y7 then
             some (.inl (false))
            else
             rec (a0) (a1) (IntKind.wrap IntKind.i64 (a2 + (1 : Int))) (a3) (a4) (a5) (a6) (a7) (a8)
           else
            Option.bind (α := Bool) (
              bif decide (y0 < 0) then
               some (true)
              else
               some (decide (y0 ≥ 1))) fun y8 =>
            bif y8 then
             some (.inl (false))
            else
             rec (a0) (a1) (IntKind.wrap IntKind.i64 (a2 + (1 : Int))) (a3) (a4) (a5) (a6) (a7) (a8)
     else
      none
    else
     Option.bind (α := Bool) (
       bif decide (y0 < 0) then
        some (true)
       else
        some (decide (y0 ≥ 1))) fun y9 =>
     bif y9 then
      some (.inl (false))
     else
      rec (a0) (a1) (IntKind.wrap IntKind.i64 (a2 + (1 : Int))) (a3) (a4) (a5) (a6) (a7) (a8)
   else
    none
  else
   some (.inr ())
def qad_i6 : Nat → List UInt8 → Int → Int → List (Int) → Int → List (ACode) → Int → List (Instr) → List (Int) → Option ((Bool) ⊕ (Unit))
 | 0, _, _, _, _, _, _, _, _, _ => none
 | n + 1, a0, a1, a2, a3, a4, a5, a6, a7, a8 => qad_t6 (qad_i6 n) a0 a1 a2 a3 a4 a5 a6 a7 a8
def qad_l6 : List UInt8 → Int → Int → List (Int) → Int → List (ACode) → Int → List (Instr) → List (Int) → Option ((Bool) ⊕ (Unit)) := sealF (qad_i6 fuel)
def qad_f (a0 : Image) (a1 : ACode) (a2 : Instr) : Option (Bool) :=
  Option.bind (qah) fun y0 =>
  Option.bind (α := Bool) (
    bif decide (Instr.op a2 < 1) then
     some (true)
    else
     some (decide (Instr.op a2 ≥ (↑(List.length y0) : Int)))) fun y1 =>
  Option.bind (α := Bool) (
    bif y1 then
     some (true)
    else
     bif decide ((0 : Int) ≤ Instr.op a2) && decide (Instr.op a2 < (↑(List.length y0) : Int)) then
      Option.bind (y0[Int.toNat (Instr.op a2)]?) fun y2 =>
      some (decide (y2 = Operation.mk [] []))
     else
      none) fun y3 =>
  bif y3 then
   some (false)
  else
   bif decide ((0 : Int) ≤ Instr.op a2) && decide (Instr.op a2 < (↑(List.length y0) : Int)) then
    Option.bind (y0[Int.toNat (Instr.op a2)]?) fun y4 =>
    Option.bind (qad_l6 (Operation.numbers y4) (↑(List.length [Instr.a a2, Instr.b a2, Instr.c a2]) : Int) (0 : Int) (Image.cells a0) (Image.mutexes a0) (Image.threads a0) (ACode.regs a1) (ACode.instrs a1) [Instr.a a2, Instr.b a2, Instr.c a2]) fun y5 =>
    match y5 with
    | .inl y6 =>
     some (y6)
    | .inr y6 =>
     some (true)
   else
    none
def qad : Image → ACode → Instr → Option (Bool) := sealF (qad_f)
def qac_t4 (rec : List (Int) → Int → Int → List (Int) → Int → List (ACode) → Option ((Bool) ⊕ ((List (Int)) × Int × (List (ACode))))) (a0 : List (Int)) (a1 : Int) (a2 : Int) (a3 : List (Int)) (a4 : Int) (a5 : List (ACode)) : Option ((Bool) ⊕ ((List (Int)) × Int × (List (ACode)))) :=
  bif decide (a2 < a1) then
   bif decide (0 ≤ a2) then
    Option.bind (a0[Int.toNat a2]?) fun y0 =>
    Option.bind (qag y0) fun y1 =>
    bif !y1 then
     some (.inl (false))
    else
     rec (a0) (a1) (IntKind.wrap IntKind.i64 (a2 + (1 : Int))) (a3) (a4) (a5)
   else
    none
  else
   some (.inr ((a3), (a4), (a5)))
def qac_i4 : Nat → List (Int) → Int → Int → List (Int) → Int → List (ACode) → Option ((Bool) ⊕ ((List (Int)) × Int × (List (ACode))))
 | 0, _, _, _, _, _, _ => none
 | n + 1, a0, a1, a2, a3, a4, a5 => qac_t4 (qac_i4 n) a0 a1 a2 a3 a4 a5
def qac_l4 : List (Int) → Int → Int → List (Int) → Int → List (ACode) → Option ((Bool) ⊕ ((List (Int)) × Int × (List (ACode)))) := sealF (qac_i4 fuel)
def qac_t19 (rec : List (ACode) → Int → Int → List (Instr) → Int → Int → List (Int) → Int → List (ACode) → Int → List (Instr) → Option ((Bool) ⊕ ((List (ACode)) × Int × Int × (List (Int)) × Int × (List (ACode))))) (a0 : List (ACode)) (a1 : Int) (a2 : Int) (a3 : List (Instr)) (a4 : Int) (a5 : Int) (a6 : List (Int)) (a7 : Int) (a8 : List (ACode)) (a9 : Int) (a10 : List (Instr)) : Option ((Bool) ⊕ ((List (ACode)) × Int × Int × (List (Int)) × Int × (List (ACode)))) :=
  bif decide (a5 < a4) then
   bif decide (0 ≤ a5) then
    Option.bind (a3[Int.toNat a5]?) fun y0 =>
    Option.bind (qad (Image.mk a6 a7 a8) (ACode.mk a9 a10) (Instr.mk (Instr.op y0) (Instr.a y0) (Instr.b y0) (Instr.c y0))) fun y1 =>
    bif !y1 then
     some (.inl (false))
    else
     rec (a0) (a1) (a2) (a3) (a4) (IntKind.wrap IntKind.i64 (a5 + (1 : Int))) (a6) (a7) (a8) (a9) (a10)
   else
    none
  else
   some (.inr ((a0), (a1), (a2), (a6), (a7), (a8)))
def qac_i19 : Nat → List (ACode) → Int → Int → List (Instr) → Int → Int → List (Int) → Int → List (ACode) → Int → List (Instr) → Option ((Bool) ⊕ ((List (ACode)) × Int × Int × (List (Int)) × Int × (List (ACode))))
 | 0, _, _, _, _, _, _, _, _, _, _, _ => none
 | n + 1, a0, a1, a2, a3, a4, a5, a6, a7, a8, a9, a10 => qac_t19 (qac_i19 n) a0 a1 a2 a3 a4 a5 a6 a7 a8 a9 a10
def qac_l19 : List (ACode) → Int → Int → List (Instr) → Int → Int → List (Int) → Int → List (ACode) → Int → List (Instr) → Option ((Bool) ⊕ ((List (ACode)) × Int × Int × (List (Int)) × Int × (List (ACode)))) := sealF (qac_i19 fuel)
def qac_t10 (rec : List (ACode) → Int → Int → List (Int) → Int → List (ACode) → Option ((Bool) ⊕ (Unit))) (a0 : List (ACode)) (a1 : Int) (a2 : Int) (a3 : List (Int)) (a4 : Int) (a5 : List (ACode)) : Option ((Bool) ⊕ (Unit)) :=
  bif decide (a2 < a1) then
   bif decide (0 ≤ a2) then
    Option.bind (a0[Int.toNat a2]?) fun y0 =>
    Option.bind (α := Bool) (
      bif decide (ACode.regs y0 < 0) then
       some (true)
      else
       some (decide (ACode.regs y0 > 64))) fun y1 =>
    Option.bind (α := Bool) (
      bif y1 then
       some (true)
      else
       some (decide ((↑(List.length (ACode.instrs y0)) : Int) < 1))) fun y2 =>
    Option.bind (α := Bool) (
      bif y2 then
       some (true)
      else
       some (decide ((↑(List.length (ACode.instrs y0)) : Int) > 4000))) fun y3 =>
    bif y3 then
     some (.inl (false))
    else
     bif decide ((0 : Int) ≤ IntKind.wrap IntKind.i64 ((↑(List.length (ACode.instrs y0)) : Int) - (1 : Int))) then
      Option.bind ((ACode.instrs y0)[Int.toNat (IntKind.wrap IntKind.i64 ((↑(List.length (ACode.instrs y0)) : Int) - (1 : Int)))]?) fun y4 =>
      Option.bind (α := Bool) (
        bif Instr.op y4 != 29 then
         some (Instr.op y4 != 18)
        else
         some (false)) fun y5 =>
      bif y5 then
       some (.inl (false))
      else
       Option.bind (qac_l19 a0 a1 a2 (ACode.instrs y0) (↑(List.length (ACode.instrs y0)) : Int) (0 : Int) a3 a4 a5 (ACode.regs y0) (ACode.instrs y0)) fun y6 =>
       match y6 with
       | .inl y7 =>
        some (.inl (y7))
       | .inr y7 =>
        rec (Prod.fst y7) (Prod.fst (Prod.snd y7)) (IntKind.wrap IntKind.i64 (Prod.fst (Prod.snd (Prod.snd y7)) + (1 : Int))) (Prod.fst (Prod.snd (Prod.snd (Prod.snd y7)))) (Prod.fst (Prod.snd (Prod.snd (Prod.snd (Prod.snd y7))))) (Prod.snd (Prod.snd (Prod.snd (Prod.snd (Prod.snd y7)))))
     else
      none
   else
    none
  else
   some (.inr ())
def qac_i10 : Nat → List (ACode) → Int → Int → List (Int) → Int → List (ACode) → Option ((Bool) ⊕ (Unit))
 | 0, _, _, _, _, _, _ => none
 | n + 1, a0, a1, a2, a3, a4, a5 => qac_t10 (qac_i10 n) a0 a1 a2 a3 a4 a5
def qac_l10 : List (ACode) → Int → Int → List (Int) → Int → List (ACode) → Option ((Bool) ⊕ (Unit)) := sealF (qac_i10 fuel)
def qac_f (a0 : Image) : Option (Bool) :=
  Option.bind (α := Bool) (
    bif decide ((↑(List.length (Image.threads a0)) : Int) < 1) then
     some (true)
    else
     some (decide ((↑(List.length (Image.threads a0)) : Int) > 8))) fun y0 =>
  Option.bind (α := Bool) (
    bif y0 then
     some (true)
    else
     some (decide ((↑(List.length (Image.cells a0)) : Int) > 8))) fun y1 =>
  Option.bind (α := Bool) (
    bif y1 then
     some (true)
    else
     some (decide (Image.mutexes a0 < 0))) fun y2 =>
  Option.bind (α := Bool) (
    bif y2 then
     some (true)
    else
     some (decide (Image.mutexes a0 > 8))) fun y3 =>
  bif y3 then
   some (false)
  else
   Option.bind (qac_l4 (Image.cells a0) (↑(List.length (Image.cells a0)) : Int) (0 : Int) (Image.cells a0) (Image.mutexes a0) (Image.threads a0)) fun y4 =>
   match y4 with
   | .inl y5 =>
    some (y5)
   | .inr y5 =>
    Option.bind (qac_l10 (Prod.snd (Prod.snd y5)) (↑(List.length (Prod.snd (Prod.snd y5))) : Int) (0 : Int) (Prod.fst y5) (Prod.fst (Prod.snd y5)) (Prod.snd (Prod.snd y5))) fun y6 =>
    match y6 with
    | .inl y7 =>
     some (y7)
    | .inr y7 =>
     some (true)
def qac : Image → Option (Bool) := sealF (qac_f)
def qat_f (a0 : List UInt8) (a1 : List (Int)) : Option (Int × Bool × (List (Int))) :=
  bif decide (List.length a1 + List.length a0 ≤ (140737488355328 : Nat) ∧ List.length a1 + List.length a0 ≤ (9223372036854775807 : Nat)) then
   some (((↑(List.length a0) : Int)), (false), (a1 ++ ofStr a0))
  else
   none
def qat : List UInt8 → List (Int) → Option (Int × Bool × (List (Int))) := sealF (qat_f)
def qas_f (a0 : Int) (a1 : List (Int)) : Option (Bool × (List (Int))) :=
  bif decide ((List.length a1 + List.length [a0]) * (1 : Nat) ≤ (140737488355328 : Nat) ∧ List.length a1 + List.length [a0] ≤ (9223372036854775807 : Nat)) then
   some ((false), (a1 ++ [a0]))
  else
   none
def qas : Int → List (Int) → Option (Bool × (List (Int))) := sealF (qas_f)
def qae_t2 (rec : List (Int) → Int → Int → List (Int) → Option ((List (Int)))) (a0 : List (Int)) (a1 : Int) (a2 : Int) (a3 : List (Int)) : Option ((List (Int))) :=
  bif decide (a2 < a1) then
   bif decide (0 ≤ a2) then
    Option.bind (a0[Int.toNat a2]?) fun y0 =>
    Option.bind (strconv_ItoaW y0) fun y1 =>
    bif decide ((1 : Nat) + List.length y1 ≤ (9223372036854775807 : Nat)) then
     Option.bind (qat ([(32 : UInt8)] ++ y1) a3) fun y2 =>
     rec (a0) (a1) (IntKind.wrap IntKind.i64 (a2 + (1 : Int))) (Prod.snd (Prod.snd y2))
    else
     none
   else
    none
  else
   some (a3)
def qae_i2 : Nat → List (Int) → Int → Int → List (Int) → Option ((List (Int)))
 | 0, _, _, _, _ => none
 | n + 1, a0, a1, a2, a3 => qae_t2 (qae_i2 n) a0 a1 a2 a3
def qae_l2 : List (Int) → Int → Int → List (Int) → Option ((List (Int))) := sealF (qae_i2 fuel)
def qae_f (a0 : List UInt8) (a1 : List (Int)) (a2 : List (Int)) : Option ((List (Int))) :=
  Option.bind (qat a0 a2) fun y0 =>
  Option.bind (qae_l2 a1 (↑(List.length a1) : Int) (0 : Int) (Prod.snd (Prod.snd y0))) fun y1 =>
  Option.bind (qas (10 : Int) y1) fun y2 =>
  some (Prod.snd y2)
def qae : List UInt8 → List (Int) → List (Int) → Option ((List (Int))) := sealF (qae_f)
def qaa_t12 (rec : List (ACode) → Int → Int → List (Instr) → Int → Int → List (Operation) → List (Int) → Option ((List (ACode)) × Int × Int × (List (Operation)) × (List (Int)))) (a0 : List (ACode)) (a1 : Int) (a2 : Int) (a3 : List (Instr)) (a4 : Int) (a5 : Int) (a6 : List (Operation)) (a7 : List (Int)) : Option ((List (ACode)) × Int × Int × (List (Operation)) × (List (Int))) :=
  bif decide (a5 < a4) then
   bif decide (0 ≤ a5) then
    Option.bind (a3[Int.toNat a5]?) fun y0 =>
    bif decide ((0 : Int) ≤ Instr.op y0) && decide (Instr.op y0 < (↑(List.length a6) : Int)) then
     Option.bind (a6[Int.toNat (Instr.op y0)]?) fun y1 =>
     bif decide ((0 : Int) ≤ (0 : Int)) && (decide ((0 : Int) ≤ (↑(List.length (Operation.numbers y1)) : Int)) && decide ((↑(List.length (Operation.numbers y1)) : Int) ≤ (↑(List.length [Instr.a y0, Instr.b y0, Instr.c y0]) : Int))) then
      Option.bind (qae (Operation.word y1) (List.drop (0 : Nat) (List.take (Int.toNat (↑(List.length (Operation.numbers y1)) : Int)) [Instr.a y0, Instr.b y0, Instr.c y0])) a7) fun y2 =>
      rec (a0) (a1) (a2) (a3) (a4) (IntKind.wrap IntKind.i64 (a5 + (1 : Int))) (a6) (y2)
     else
      none
    else
     none
   else
    none
  else
   some ((a0), (a1), (a2), (a6), (a7))
def qaa_i12 : Nat → List (ACode) → Int → Int → List (Instr) → Int → Int → List (Operation) → List (Int) → Option ((List (ACode)) × Int × Int × (List (Operation)) × (List (Int)))
 | 0, _, _, _, _, _, _, _, _ => none
 | n + 1, a0, a1, a2, a3, a4, a5, a6, a7 => qaa_t12 (qaa_i12 n) a0 a1 a2 a3 a4 a5 a6 a7
def qaa_l12 : List (ACode) → Int → Int → List (Instr) → Int → Int → List (Operation) → List (Int) → Option ((List (ACode)) × Int × Int × (List (Operation)) × (List (Int))) := sealF (qaa_i12 fuel)
def qaa_t8 (rec : List (ACode) → Int → Int → List (Operation) → List (Int) → Option ((List (Int)))) (a0 : List (ACode)) (a1 : Int) (a2 : Int) (a3 : List (Operation)) (a4 : List (Int)) : Option ((List (Int))) :=
  bif decide (a2 < a1) then
   bif decide (0 ≤ a2) then
    Option.bind (a0[Int.toNat a2]?) fun y0 =>
    Option.bind (qae [(116 : UInt8), (104 : UInt8), (114 : UInt8), (101 : UInt8), (97 : UInt8), (100 : UInt8)] [ACode.regs y0] a4) fun y1 =>
    Option.bind (qaa_l12 a0 a1 a2 (ACode.instrs y0) (↑(List.length (ACode.instrs y0)) : Int) (0 : Int) a3 y1) fun y2 =>
    rec (Prod.fst y2) (Prod.fst (Prod.snd y2)) (IntKind.wrap IntKind.i64 (Prod.fst (Prod.snd (Prod.snd y2)) + (1 : Int))) (Prod.fst (Prod.snd (Prod.snd (Prod.snd y2)))) (Prod.snd (Prod.snd (Prod.snd (Prod.snd y2))))
   else
    none
  else
   some (a4)
def qaa_i8 : Nat → List (ACode) → Int → Int → List (Operation) → List (Int) → Option ((List (Int)))
 | 0, _, _, _, _, _ => none
 | n + 1, a0, a1, a2, a3, a4 => qaa_t8 (qaa_i8 n) a0 a1 a2 a3 a4
def qaa_l8 : List (ACode) → Int → Int → List (Operation) → List (Int) → Option ((List (Int))) := sealF (qaa_i8 fuel)
def qaa_f (a0 : Image) : Option ((List UInt8) × Int) :=
  Option.bind (qac (Image.mk (Image.cells a0) (Image.mutexes a0) (Image.threads a0))) fun y0 =>
  bif !y0 then
   some (([]), ((100 : Int)))
  else
   Option.bind (qah) fun y1 =>
   Option.bind (qae [(99 : UInt8), (101 : UInt8), (108 : UInt8), (108 : UInt8), (115 : UInt8)] (Image.cells a0) []) fun y2 =>
   Option.bind (qae [(109 : UInt8), (117 : UInt8), (116 : UInt8), (101 : UInt8), (120 : UInt8), (101 : UInt8), (115 : UInt8)] [Image.mutexes a0] y2) fun y3 =>
   Option.bind (qaa_l8 (Image.threads a0) (↑(List.length (Image.threads a0)) : Int) (0 : Int) y1 y3) fun y4 =>
   Option.bind (strings_Builder_String y4) fun y5 =>
   some ((y5), ((0 : Int)))
def qaa : Image → Option ((List UInt8) × Int) := sealF (qaa_f)
def qal_f (a0 : List UInt8) (a1 : List UInt8) : Option (Bool) :=
  Option.bind (α := Bool) (
    bif decide ((↑(List.length a0) : Int) ≥ (↑(List.length a1) : Int)) then
     bif decide ((0 : Int) ≤ (0 : Int)) && (decide ((0 : Int) ≤ (↑(List.length a1) : Int)) && decide ((↑(List.length a1) : Int) ≤ (↑(List.length a0) : Int))) then
      some (List.drop (0 : Nat) (List.take (Int.toNat (↑(List.length a1) : Int)) a0) == a1)
     else
      none
    else
     some (false)) fun y0 =>
  some (y0)
def qal : List UInt8 → List UInt8 → Option (Bool) := sealF (qal_f)
def qam_f (a0 : List UInt8) (a1 : List UInt8) : Option ((List UInt8)) :=
  Option.bind (qal a0 a1) fun y0 =>
  bif y0 then
   bif decide ((0 : Int) ≤ (↑(List.length a1) : Int)) && (decide ((↑(List.length a1) : Int) ≤ (↑(List.length a0) : Int)) && decide ((↑(List.length a0) : Int) ≤ (↑(List.length a0) : Int))) then
    some (List.drop (Int.toNat (↑(List.length a1) : Int)) (List.take (Int.toNat (↑(List.length a0) : Int)) a0))
   else
    none
  else
   some (a0)
def qam : List UInt8 → List UInt8 → Option ((List UInt8)) := sealF (qam_f)
def qau_f (a0 : List UInt8) (a1 : List UInt8) : Option ((List UInt8)) :=
  Option.bind (qam a0 a1) fun y0 =>
  some (y0)
def qau : List UInt8 → List UInt8 → Option ((List UInt8)) := sealF (qau_f)
def qaf_f (a0 : List UInt8) : Option (Int × Bool) :=
  Option.bind (strconv_Atoi a0) fun y0 =>
  Option.bind (α := Bool) (
    bif !Prod.snd y0 then
     Option.bind (qau a0 [(45 : UInt8)]) fun y1 =>
     some (decide ((↑(List.length y1) : Int) ≤ 10))
    else
     some (false)) fun y2 =>
  Option.bind (α := Bool) (
    bif y2 then
     Option.bind (strconv_ItoaW (Prod.fst y0)) fun y3 =>
     some (y3 == a0)
    else
     some (false)) fun y4 =>
  some ((Prod.fst y0), (y4))
def qaf : List UInt8 → Option (Int × Bool) := sealF (qaf_f)
def qai_t4 (rec : List (List UInt8) → List (List UInt8) → Int → Int → List (Int) → Option (((List UInt8) × Bool) ⊕ ((List (List UInt8)) × (List (Int))))) (a0 : List (List UInt8)) (a1 : List (List UInt8)) (a2 : Int) (a3 : Int) (a4 : List (Int)) : Option (((List UInt8) × Bool) ⊕ ((List (List UInt8)) × (List (Int)))) :=
  bif decide (a3 < a2) then
   bif decide (0 ≤ a3) then
    Option.bind (a1[Int.toNat a3]?) fun y0 =>
    Option.bind (qaf y0) fun y1 =>
    bif !Prod.snd y1 then
     some (.inl (([]), (false)))
    else
     bif decide ((List.length a4 + List.length [Prod.fst y1]) * (8 : Nat) ≤ (140737488355328 : Nat) ∧ List.length a4 + List.length [Prod.fst y1] ≤ (9223372036854775807 : Nat)) then
      rec (a0) (a1) (a2) (IntKind.wrap IntKind.i64 (a3 + (1 : Int))) (a4 ++ [Prod.fst y1])
     else
      none
   else
    none
  else
   some (.inr ((a0), (a4)))
def qai_i4 : Nat → List (List UInt8) → List (List UInt8) → Int → Int → List (Int) → Option (((List UInt8) × Bool) ⊕ ((List (List UInt8)) × (List (Int))))
 | 0, _, _, _, _, _ => none
 | n + 1, a0, a1, a2, a3, a4 => qai_t4 (qai_i4 n) a0 a1 a2 a3 a4
def qai_l4 : List (List UInt8) → List (List UInt8) → Int → Int → List (Int) → Option (((List UInt8) × Bool) ⊕ ((List (List UInt8)) × (List (Int)))) := sealF (qai_i4 fuel)
def qai_f (a0 : List UInt8) : Option ((List UInt8) × Bool × (List (Int))) :=
  Option.bind (strings_Split a0 [(32 : UInt8)]) fun y0 =>
  bif decide ((0 : Int) ≤ (1 : Int)) && (decide ((1 : Int) ≤ (↑(List.length y0) : Int)) && decide ((↑(List.length y0) : Int) ≤ (↑(List.length y0) : Int))) then
   Option.bind (qai_l4 y0 (List.drop (1 : Nat) (List.take (Int.toNat (↑(List.length y0) : Int)) y0)) (↑(List.length (List.drop (1 : Nat) (List.take (Int.toNat (↑(List.length y0) : Int)) y0))) : Int) (0 : Int) []) fun y1 =>
   match y1 with
   | .inl y2 =>
    some ((Prod.fst y2), (Prod.snd y2), ([]))
   | .inr y2 =>
    Option.bind ((Prod.fst y2)[(0 : Nat)]?) fun y3 =>
    some ((y3), (true), (Prod.snd y2))
  else
   none
def qai : List UInt8 → Option ((List UInt8) × Bool × (List (Int))) := sealF (qai_f)
def qaq_f (a0 : List (Int)) : Option ((List (Int))) :=
  bif decide ((↑(List.length a0) : Int) = (↑(List.length a0) : Int)) && decide ((↑(List.length a0) : Int) = (↑(List.length a0) : Int)) then
   some (a0)
  else
   none
def qaq : List (Int) → Option ((List (Int))) := sealF (qaq_f)
def qak_f (a0 : Operation) (a1 : List UInt8) (a2 : List (Int)) : Option (Bool × (List UInt8) × (List (Int))) :=
  Option.bind (α := Bool) (
    bif Operation.word a0 == a1 then
     some ((↑(List.length (Operation.numbers a0)) : Int) == (↑(List.length a2) : Int))
    else
     some (false)) fun y0 =>
  some ((y0), (a1), (a2))
def qak : Operation → List UInt8 → List (Int) → Option (Bool × (List UInt8) × (List (Int))) := sealF (qak_f)
def qar_t2 (rec : List (Operation) → Int → Int → List UInt8 → List (Int) → Option ((Int × (List UInt8) × (List (Int))) ⊕ ((List UInt8) × (List (Int))))) (a0 : List (Operation)) (a1 : Int) (a2 : Int) (a3 : List UInt8) (a4 : List (Int)) : Option ((Int × (List UInt8) × (List (Int))) ⊕ ((List UInt8) × (List (Int)))) :=
  bif decide (a2 < a1) then
   bif decide (0 ≤ a2) then
    Option.bind (a0[Int.toNat a2]?) fun y0 =>
    Option.bind (qak y0 a3 a4) fun y1 =>
    bif Prod.fst y1 then
     some (.inl ((a2), (Prod.fst (Prod.snd y1)), (Prod.snd (Prod.snd y1))))
    else
     rec (a0) (a1) (IntKind.wrap IntKind.i64 (a2 + (1 : Int))) (Prod.fst (Prod.snd y1)) (Prod.snd (Prod.snd y1))
   else
    none
  else
   some (.inr ((a3), (a4)))
def qar_i2 : Nat → List (Operation) → Int → Int → List UInt8 → List (Int) → Option ((Int × (List UInt8) × (List (Int))) ⊕ ((List UInt8) × (List (Int))))
 | 0, _, _, _, _, _ => none
 | n + 1, a0, a1, a2, a3, a4 => qar_t2 (qar_i2 n) a0 a1 a2 a3 a4
def qar_l2 : List (Operation) → Int → Int → List UInt8 → List (Int) → Option ((Int × (List UInt8) × (List (Int))) ⊕ ((List UInt8) × (List (Int)))) := sealF (qar_i2 fuel)
def qar_f (a0 : List (Operation)) (a1 : List UInt8) (a2 : List (Int)) : Option (Int × (List UInt8) × (List (Int))) :=
  Option.bind (qar_l2 a0 (↑(List.length a0) : Int) (0 : Int) a1 a2) fun y0 =>
  match y0 with
  | .inl y1 =>
   some ((Prod.fst y1), (Prod.fst (Prod.snd y1)), (Prod.snd (Prod.snd y1)))
  | .inr y1 =>
   some (((-1 : Int)), (Prod.fst y1), (Prod.snd y1))
def qar : List (Operation) → List UInt8 → List (Int) → Option (Int × (List UInt8) × (List (Int))) := sealF (qar_f)
def qaj_f (a0 : Int) (a1 : List UInt8) (a2 : Int) (a3 : List (Int)) (a4 : List (ACode)) : Option (Bool × Int × (List (Int)) × (List (ACode))) :=
  Option.bind (qai a1) fun y0 =>
  Option.bind (α := Bool) (
    bif (↑(List.length (Prod.snd (Prod.snd y0))) : Int) == 1 then
     bif decide ((0 : Int) ≤ (0 : Int)) && decide ((0 : Int) < (↑(List.length (Prod.snd (Prod.snd y0))) : Int)) then
      Option.bind ((Prod.snd (Prod.snd y0))[(0 : Nat)]?) fun y1 =>
      some (decide (y1 ≥ 0))
     else
      none
    else
     some (false)) fun y2 =>
  bif !Prod.fst (Prod.snd y0) then
   some ((false), (a2), (a3), (a4))
  else
   bif a0 == 0 then
    Option.bind (qaq (Prod.snd (Prod.snd y0))) fun y3 =>
    some ((Prod.fst y0 == [(99 : UInt8), (101 : UInt8), (108 : UInt8), (108 : UInt8), (115 : UInt8)]), (a2), (y3), (a4))
   else
    bif a0 == 1 then
     bif y2 then
      bif decide ((0 : Int) ≤ (0 : Int)) && decide ((0 : Int) < (↑(List.length (Prod.snd (Prod.snd y0))) : Int)) then
       Option.bind ((Prod.snd (Prod.snd y0))[(0 : Nat)]?) fun y4 =>
       Option.bind (α := Bool) (
         bif Prod.fst y0 == [(109 : UInt8), (117 : UInt8), (116 : UInt8), (101 : UInt8), (120 : UInt8), (101 : UInt8), (115 : UInt8)] then
          some (y2)
         else
          some (false)) fun y5 =>
       some ((y5), (y4), (a3), (a4))
      else
       none
     else
      Option.bind (α := Bool) (
        bif Prod.fst y0 == [(109 : UInt8), (117 : UInt8), (116 : UInt8), (101 : UInt8), (120 : UInt8), (101 : UInt8), (115 : UInt8)] then
         some (y2)
        else
         some (false)) fun y6 =>
      some ((y6), (a2), (a3), (a4))
    else
     bif Prod.fst y0 == [(116 : UInt8), (104 : UInt8), (114 : UInt8), (101 : UInt8), (97 : UInt8), (100 : UInt8)] then
      bif y2 then
       bif decide ((0 : Int) ≤ (0 : Int)) && decide ((0 : Int) < (↑(List.length (Prod.snd (Prod.snd y0))) : Int)) then
        Option.bind ((Prod.snd (Prod.snd y0))[(0 : Nat)]?) fun y7 =>
        bif decide ((List.length a4 + List.length [ACode.mk y7 []]) * (32 : Nat) ≤ (140737488355328 : Nat) ∧ List.length a4 + List.length [ACode.mk y7 []] ≤ (9223372036854775807 : Nat)) then
         some ((y2), (a2), (a3), (a4 ++ [ACode.mk y7 []]))
        else
         none
       else
        none
      else
       some ((y2), (a2), (a3), (a4))
     else
      bif a0 == 2 then
       some ((false), (a2), (a3), (a4))
      else
       Option.bind (qah) fun y8 =>
       Option.bind (qar y8 (Prod.fst y0) (Prod.snd (Prod.snd y0))) fun y9 =>
       bif decide (Prod.fst y9 < 1) then
        some ((false), (a2), (a3), (a4))
       else
        bif decide ((0 : Int) < (↑(List.length (Prod.snd (Prod.snd y9))) : Int)) then
         bif decide ((0 : Int) ≤ (0 : Int)) && decide ((0 : Int) < (↑(List.length (Prod.snd (Prod.snd y9))) : Int)) then
          Option.bind ((Prod.snd (Prod.snd y9))[(0 : Nat)]?) fun y10 =>
          bif decide (IntKind.wrap IntKind.i64 ((0 : Int) + (1 : Int)) < (↑(List.length (Prod.snd (Prod.snd y9))) : Int)) then
           bif decide ((0 : Int) ≤ IntKind.wrap IntKind.i64 ((0 : Int) + (1 : Int))) && decide (IntKind.wrap IntKind.i64 ((0 : Int) + (1 : Int)) < (↑(List.length (Prod.snd (Prod.snd y9))) : Int)) then
            Option.bind ((Prod.snd (Prod.snd y9))[(1 : Nat)]?) fun y11 =>
            bif decide (IntKind.wrap IntKind.i64 (IntKind.wrap IntKind.i64 ((0 : Int) + (1 : Int)) + (1 : Int)) < (↑(List.length (Prod.snd (Prod.snd y9))) : Int)) then
             bif decide ((0 : Int) ≤ IntKind.wrap IntKind.i64 (IntKind.wrap IntKind.i64 ((0 : Int) + (1 : Int)) + (1 : Int))) && decide (IntKind.wrap IntKind.i64 (IntKind.wrap IntKind.i64 ((0 : Int) + (1 : Int)) + (1 : Int)) < (↑(List.length (Prod.snd (Prod.snd y9))) : Int)) then
              Option.bind ((Prod.snd (Prod.snd y9))[(2 : Nat)]?) fun y12 =>
              bif decide ((0 : Int) ≤ IntKind.wrap IntKind.i64 ((↑(List.length a4) : Int) - (1 : Int))) && decide (IntKind.wrap IntKind.i64 ((↑(List.length a4) : Int) - (1 : Int)) < (↑(List.length a4) : Int)) then
               Option.bind (a4[Int.toNat (IntKind.wrap IntKind.i64 ((↑(List.length a4) : Int) - (1 : Int)))]?) fun y13 =>
               bif decide ((List.length (ACode.instrs y13) + List.length [Instr.mk (Prod.fst y9) y10 y11 y12]) * (32 : Nat) ≤ (140737488355328 : Nat) ∧ List.length (ACode.instrs y13) + List.length [Instr.mk (Prod.fst y9) y10 y11 y12] ≤ (9223372036854775807 : Nat)) then
                bif Nat.beq (Int.toNat (IntKind.wrap IntKind.i64 ((↑(List.length a4) : Int) - (1 : Int)))) (Int.toNat (IntKind.wrap IntKind.i64 ((↑(List.length a4) : Int) - (1 : Int)))) then
                 some ((true), (a2), (a3), (List.set a4 (Int.toNat (IntKind.wrap IntKind.i64 ((↑(List.length a4) : Int) - (1 : Int)))) (ACode.mk (ACode.regs y13) (ACode.instrs y13 ++ [Instr.mk (Prod.fst y9) y10 y11 y12]))))
                else
                 none
               else
                none
              else
               none
             else
              none
            else
             bif decide ((0 : Int) ≤ IntKind.wrap IntKind.i64 ((↑(List.length a4) : Int) - (1 : Int))) && decide (IntKind.wrap IntKind.i64 ((↑(List.length a4) : Int) - (1 : Int)) < (↑(List.length a4) : Int)) then
              Option.bind (a4[Int.toNat (IntKind.wrap IntKind.i64 ((↑(List.length a4) : Int) - (1 : Int)))]?) fun y14 =>
              bif decide ((List.length (ACode.instrs y14) + List.length [Instr.mk (Prod.fst y9) y10 y11 (0 : Int)]) * (32 : Nat) ≤ (140737488355328 : Nat) ∧ List.length (ACode.instrs y14) + List.length [Instr.mk (Prod.fst y9) y10 y11 (0 : Int)] ≤ (9223372036854775807 : Nat)) then
               bif Nat.beq (Int.toNat (IntKind.wrap IntKind.i64 ((↑(List.length a4) : Int) - (1 : Int)))) (Int.toNat (IntKind.wrap IntKind.i64 ((↑(List.length a4) : Int) - (1 : Int)))) then
                some ((true), (a2), (a3), (List.set a4 (Int.toNat (IntKind.wrap IntKind.i64 ((↑(List.length a4) : Int) - (1 : Int)))) (ACode.mk (ACode.regs y14) (ACode.instrs y14 ++ [Instr.mk (Prod.fst y9) y10 y11 (0 : Int)]))))
               else
                none
              else
               none
             else
              none
           else
            none
          else
           bif decide (IntKind.wrap IntKind.i64 (IntKind.wrap IntKind.i64 ((0 : Int) + (1 : Int)) + (1 : Int)) < (↑(List.length (Prod.snd (Prod.snd y9))) : Int)) then
            bif decide ((0 : Int) ≤ IntKind.wrap IntKind.i64 (IntKind.wrap IntKind.i64 ((0 : Int) + (1 : Int)) + (1 : Int))) && decide (IntKind.wrap IntKind.i64 (IntKind.wrap IntKind.i64 ((0 : Int) + (1 : Int)) + (1 : Int)) < (↑(List.length (Prod.snd (Prod.snd y9))) : Int)) then
             Option.bind ((Prod.snd (Prod.snd y9))[(2 : Nat)]?) fun y15 =>
             bif decide ((0 : Int) ≤ IntKind.wrap IntKind.i64 ((↑(List.length a4) : Int) - (1 : Int))) && decide (IntKind.wrap IntKind.i64 ((↑(List.length a4) : Int) - (1 : Int)) < (↑(List.length a4) : Int)) then
              Option.bind (a4[Int.toNat (IntKind.wrap IntKind.i64 ((↑(List.length a4) : Int) - (1 : Int)))]?) fun y16 =>
              bif decide ((List.length (ACode.instrs y16) + List.length [Instr.mk (Prod.fst y9) y10 (0 : Int) y15]) * (32 : Nat) ≤ (140737488355328 : Nat) ∧ List.length (ACode.instrs y16) + List.length [Instr.mk (Prod.fst y9) y10 (0 : Int) y15] ≤ (9223372036854775807 : Nat)) then
               bif Nat.beq (Int.toNat (IntKind.wrap IntKind.i64 ((↑(List.length a4) : Int) - (1 : Int)))) (Int.toNat (IntKind.wrap IntKind.i64 ((↑(List.length a4) : Int) - (1 : Int)))) then
                some ((true), (a2), (a3), (List.set a4 (Int.toNat (IntKind.wrap IntKind.i64 ((↑(List.length a4) : Int) - (1 : Int)))) (ACode.mk (ACode.regs y16) (ACode.instrs y16 ++ [Instr.mk (Prod.fst y9) y10 (0 : Int) y15]))))
               else
                none
              else
               none
             else
              none
            else
             none
           else
            bif decide ((0 : Int) ≤ IntKind.wrap IntKind.i64 ((↑(List.length a4) : Int) - (1 : Int))) && decide (IntKind.wrap IntKind.i64 ((↑(List.length a4) : Int) - (1 : Int)) < (↑(List.length a4) : Int)) then
             Option.bind (a4[Int.toNat (IntKind.wrap IntKind.i64 ((↑(List.length a4) : Int) - (1 : Int)))]?) fun y17 =>
             bif decide ((List.length (ACode.instrs y17) + List.length [Instr.mk (Prod.fst y9) y10 (0 : Int) (0 : Int)]) * (32 : Nat) ≤ (140737488355328 : Nat) ∧ List.length (ACode.instrs y17) + List.length [Instr.mk (Prod.fst y9) y10 (0 : Int) (0 : Int)] ≤ (9223372036854775807 : Nat)) then
              bif Nat.beq (Int.toNat (IntKind.wrap IntKind.i64 ((↑(List.length a4) : Int) - (1 : Int)))) (Int.toNat (IntKind.wrap IntKind.i64 ((↑(List.length a4) : Int) - (1 : Int)))) then
               some ((true), (a2), (a3), (List.set a4 (Int.toNat (IntKind.wrap IntKind.i64 ((↑(List.length a4) : Int) - (1 : Int)))) (ACode.mk (ACode.regs y17) (ACode.instrs y17 ++ [Instr.mk (Prod.fst y9) y10 (0 : Int) (0 : Int)]))))
              else
               none
             else
              none
            else
             none
         else
          none
        else
         bif decide (IntKind.wrap IntKind.i64 ((0 : Int) + (1 : Int)) < (↑(List.length (Prod.snd (Prod.snd y9))) : Int)) then
          bif decide ((0 : Int) ≤ IntKind.wrap IntKind.i64 ((0 : Int) + (1 : Int))) && decide (IntKind.wrap IntKind.i64 ((0 : Int) + (1 : Int)) < (↑(List.length (Prod.snd (Prod.snd y9))) : Int)) then
           Option.bind ((Prod.snd (Prod.snd y9))[(1 : Nat)]?) fun y18 =>
           bif decide (IntKind.wrap IntKind.i64 (IntKind.wrap IntKind.i64 ((0 : Int) + (1 : Int)) + (1 : Int)) < (↑(List.length (Prod.snd (Prod.snd y9))) : Int)) then
            bif decide ((0 : Int) ≤ IntKind.wrap IntKind.i64 (IntKind.wrap IntKind.i64 ((0 : Int) + (1 : Int)) + (1 : Int))) && decide (IntKind.wrap IntKind.i64 (IntKind.wrap IntKind.i64 ((0 : Int) + (1 : Int)) + (1 : Int)) < (↑(List.length (Prod.snd (Prod.snd y9))) : Int)) then
             Option.bind ((Prod.snd (Prod.snd y9))[(2 : Nat)]?) fun y19 =>
             bif decide ((0 : Int) ≤ IntKind.wrap IntKind.i64 ((↑(List.length a4) : Int) - (1 : Int))) && decide (IntKind.wrap IntKind.i64 ((↑(List.length a4) : Int) - (1 : Int)) < (↑(List.length a4) : Int)) then
              Option.bind (a4[Int.toNat (IntKind.wrap IntKind.i64 ((↑(List.length a4) : Int) - (1 : Int)))]?) fun y20 =>
              bif decide ((List.length (ACode.instrs y20) + List.length [Instr.mk (Prod.fst y9) (0 : Int) y18 y19]) * (32 : Nat) ≤ (140737488355328 : Nat) ∧ List.length (ACode.instrs y20) + List.length [Instr.mk (Prod.fst y9) (0 : Int) y18 y19] ≤ (9223372036854775807 : Nat)) then
               bif Nat.beq (Int.toNat (IntKind.wrap IntKind.i64 ((↑(List.length a4) : Int) - (1 : Int)))) (Int.toNat (IntKind.wrap IntKind.i64 ((↑(List.length a4) : Int) - (1 : Int)))) then
                some ((true), (a2), (a3), (List.set a4 (Int.toNat (IntKind.wrap IntKind.i64 ((↑(List.length a4) : Int) - (1 : Int)))) (ACode.mk (ACode.regs y20) (ACode.instrs y20 ++ [Instr.mk (Prod.fst y9) (0 : Int) y18 y19]))))
               else
                none
              else
               none
             else
              none
            else
             none
           else
            bif decide ((0 : Int) ≤ IntKind.wrap IntKind.i64 ((↑(List.length a4) : Int) - (1 : Int))) && decide (IntKind.wrap IntKind.i64 ((↑(List.length a4) : Int) - (1 : Int)) < (↑(List.length a4) : Int)) then
             Option.bind (a4[Int.toNat (IntKind.wrap IntKind.i64 ((↑(List.length a4) : Int) - (1 : Int)))]?) fun y21 =>
             bif decide ((List.length (ACode.instrs y21) + List.length [Instr.mk (Prod.fst y9) (0 : Int) y18 (0 : Int)]) * (32 : Nat) ≤ (140737488355328 : Nat) ∧ List.length (ACode.instrs y21) + List.length [Instr.mk (Prod.fst y9) (0 : Int) y18 (0 : Int)] ≤ (9223372036854775807 : Nat)) then
              bif Nat.beq (Int.toNat (IntKind.wrap IntKind.i64 ((↑(List.length a4) : Int) - (1 : Int)))) (Int.toNat (IntKind.wrap IntKind.i64 ((↑(List.length a4) : Int) - (1 : Int)))) then
               some ((true), (a2), (a3), (List.set a4 (Int.toNat (IntKind.wrap IntKind.i64 ((↑(List.length a4) : Int) - (1 : Int)))) (ACode.mk (ACode.regs y21) (ACode.instrs y21 ++ [Instr.mk (Prod.fst y9) (0 : Int) y18 (0 : Int)]))))
              else
               none
             else
              none
            else
             none
          else
           none
         else
          bif decide (IntKind.wrap IntKind.i64 (IntKind.wrap IntKind.i64 ((0 : Int) + (1 : Int)) + (1 : Int)) < (↑(List.length (Prod.snd (Prod.snd y9))) : Int)) then
           bif decide ((0 : Int) ≤ IntKind.wrap IntKind.i64 (IntKind.wrap IntKind.i64 ((0 : Int) + (1 : Int)) + (1 : Int))) && decide (IntKind.wrap IntKind.i64 (IntKind.wrap IntKind.i64 ((0 : Int) + (1 : Int)) + (1 : Int)) < (↑(List.length (Prod.snd (Prod.snd y9))) : Int)) then
            Option.bind ((Prod.snd (Prod.snd y9))[(2 : Nat)]?) fun y22 =>
            bif decide ((0 : Int) ≤ IntKind.wrap IntKind.i64 ((↑(List.length a4) : Int) - (1 : Int))) && decide (IntKind.wrap IntKind.i64 ((↑(List.length a4) : Int) - (1 : Int)) < (↑(List.length a4) : Int)) then
             Option.bind (a4[Int.toNat (IntKind.wrap IntKind.i64 ((↑(List.length a4) : Int) - (1 : Int)))]?) fun y23 =>
             bif decide ((List.length (ACode.instrs y23) + List.length [Instr.mk (Prod.fst y9) (0 : Int) (0 : Int) y22]) * (32 : Nat) ≤ (140737488355328 : Nat) ∧ List.length (ACode.instrs y23) + List.length [Instr.mk (Prod.fst y9) (0 : Int) (0 : Int) y22] ≤ (9223372036854775807 : Nat)) then
              bif Nat.beq (Int.toNat (IntKind.wrap IntKind.i64 ((↑(List.length a4) : Int) - (1 : Int)))) (Int.toNat (IntKind.wrap IntKind.i64 ((↑(List.length a4) : Int) - (1 : Int)))) then
               some ((true), (a2), (a3), (List.set a4 (Int.toNat (IntKind.wrap IntKind.i64 ((↑(List.length a4) : Int) - (1 : Int)))) (ACode.mk (ACode.regs y23) (ACode.instrs y23 ++ [Instr.mk (Prod.fst y9) (0 : Int) (0 : Int) y22]))))
              else
               none
             else
              none
            else
             none
           else
            none
          else
           bif decide ((0 : Int) ≤ IntKind.wrap IntKind.i64 ((↑(List.length a4) : Int) - (1 : Int))) && decide (IntKind.wrap IntKind.i64 ((↑(List.length a4) : Int) - (1 : Int)) < (↑(List.length a4) : Int)) then
            Option.bind (a4[Int.toNat (IntKind.wrap IntKind.i64 ((↑(List.length a4) : Int) - (1 : Int)))]?) fun y24 =>
            bif decide ((List.length (ACode.instrs y24) + List.length [Instr.mk (Prod.fst y9) (0 : Int) (0 : Int) (0 : Int)]) * (32 : Nat) ≤ (140737488355328 : Nat) ∧ List.length (ACode.instrs y24) + List.length [Instr.mk (Prod.fst y9) (0 : Int) (0 : Int) (0 : Int)] ≤ (9223372036854775807 : Nat)) then
             bif Nat.beq (Int.toNat (IntKind.wrap IntKind.i64 ((↑(List.length a4) : Int) - (1 : Int)))) (Int.toNat (IntKind.wrap IntKind.i64 ((↑(List.length a4) : Int) - (1 : Int)))) then
              some ((true), (a2), (a3), (List.set a4 (Int.toNat (IntKind.wrap IntKind.i64 ((↑(List.length a4) : Int) - (1 : Int)))) (ACode.mk (ACode.regs y24) (ACode.instrs y24 ++ [Instr.mk (Prod.fst y9) (0 : Int) (0 : Int) (0 : Int)]))))
             else
              none
            else
             none
           else
            none
def qaj : Int → List UInt8 → Int → List (Int) → List (ACode) → Option (Bool × Int × (List (Int)) × (List (ACode))) := sealF (qaj_f)
def qab_t3 (rec : List UInt8 → Int → Int → Int → Int → Int → List UInt8 → Int → List (Int) → List (ACode) → Option ((Int × Int × Int × (List UInt8)) ⊕ (Int × Int × Int × Int × Int × (List UInt8) × Int × (List (Int)) × (List (ACode))))) (a0 : List UInt8) (a1 : Int) (a2 : Int) (a3 : Int) (a4 : Int) (a5 : Int) (a6 : List UInt8) (a7 : Int) (a8 : List (Int)) (a9 : List (ACode)) : Option ((Int × Int × Int × (List UInt8)) ⊕ (Int × Int × Int × Int × Int × (List UInt8) × Int × (List (Int)) × (List (ACode)))) :=
  bif decide (a1 < (↑(List.length a0) : Int)) then
   bif decide (0 ≤ a1) && (decide (a1 ≤ (↑(List.length a0) : Int)) && decide ((↑(List.length a0) : Int) ≤ (↑(List.length a0) : Int))) then
    Option.bind (strings_Cut (List.drop (Int.toNat a1) (List.take (Int.toNat (↑(List.length a0) : Int)) a0)) [(10 : UInt8)]) fun y0 =>
    bif !Prod.snd (Prod.snd y0) then
     some (.inl (((0 : Int)), ((101 : Int)), (a1), ([])))
    else
     Option.bind (qaj a2 (Prod.fst y0) a7 a8 a9) fun y1 =>
     bif !Prod.fst y1 then
      some (.inl (((0 : Int)), ((101 : Int)), (a1), ([])))
     else
      rec (a0) (IntKind.wrap IntKind.i64 (a1 + IntKind.wrap IntKind.i64 ((↑(List.length (Prod.fst y0)) : Int) + (1 : Int)))) (IntKind.wrap IntKind.i64 (a2 + (1 : Int))) (a3) (a4) (a5) (a6) (Prod.fst (Prod.snd y1)) (Prod.fst (Prod.snd (Prod.snd y1))) (Prod.snd (Prod.snd (Prod.snd y1)))
   else
    none
  else
   some (.inr ((a1), (a2), (a3), (a4), (a5), (a6), (a7), (a8), (a9)))
def qab_i3 : Nat → List UInt8 → Int → Int → Int → Int → Int → List UInt8 → Int → List (Int) → List (ACode) → Option ((Int × Int × Int × (List UInt8)) ⊕ (Int × Int × Int × Int × Int × (List UInt8) × Int × (List (Int)) × (List (ACode))))
 | 0, _, _, _, _, _, _, _, _, _, _ => none
 | n + 1, a0, a1, a2, a3, a4, a5, a6, a7, a8, a9 => qab_t3 (qab_i3 n) a0 a1 a2 a3 a4 a5 a6 a7 a8 a9
def qab_l3 : List UInt8 → Int → Int → Int → Int → Int → List UInt8 → Int → List (Int) → List (ACode) → Option ((Int × Int × Int × (List UInt8)) ⊕ (Int × Int × Int × Int × Int × (List UInt8) × Int × (List (Int)) × (List (ACode)))) := sealF (qab_i3 fuel)
def qab_f (a0 : List UInt8) : Option (Int × Fault × (List (Int)) × (List (ACode))) :=
  Option.bind (qab_l3 a0 (0 : Int) (0 : Int) (0 : Int) (0 : Int) (0 : Int) [] (0 : Int) [] []) fun y0 =>
  match y0 with
  | .inl y1 =>
   some ((Prod.fst y1), (Fault.mk (Prod.fst (Prod.snd y1)) (Prod.fst (Prod.snd (Prod.snd y1))) (Prod.snd (Prod.snd (Prod.snd y1)))), ([]), ([]))
  | .inr y1 =>
   bif decide (Prod.fst (Prod.snd y1) < 3) then
    some (((0 : Int)), (Fault.mk (101 : Int) (Prod.fst y1) []), ([]), ([]))
   else
    Option.bind (qac (Image.mk (Prod.fst (Prod.snd (Prod.snd (Prod.snd (Prod.snd (Prod.snd (Prod.snd (Prod.snd y1)))))))) (Prod.fst (Prod.snd (Prod.snd (Prod.snd (Prod.snd (Prod.snd (Prod.snd y1))))))) (Prod.snd (Prod.snd (Prod.snd (Prod.snd (Prod.snd (Prod.snd (Prod.snd (Prod.snd y1)))))))))) fun y2 =>
    bif !y2 then
     some (((0 : Int)), (Fault.mk (100 : Int) (0 : Int) []), ([]), ([]))
    else
     some ((Prod.fst (Prod.snd (Prod.snd (Prod.snd (Prod.snd (Prod.snd (Prod.snd y1))))))), (Fault.mk (0 : Int) (0 : Int) []), (Prod.fst (Prod.snd (Prod.snd (Prod.snd (Prod.snd (Prod.snd (Prod.snd (Prod.snd y1)))))))), (Prod.snd (Prod.snd (Prod.snd (Prod.snd (Prod.snd (Prod.snd (Prod.snd (Prod.snd y1)))))))))
def qab : List UInt8 → Option (Int × Fault × (List (Int)) × (List (ACode))) := sealF (qab_f)
def qap_t4 (rec : Int → List (Int) → Int → List (ACode) → List (Int) → Int → List (ACode) → Option ((Bool) ⊕ ((List (Int)) × Int × (List (ACode)) × (List (Int)) × Int × (List (ACode))))) (a0 : Int) (a1 : List (Int)) (a2 : Int) (a3 : List (ACode)) (a4 : List (Int)) (a5 : Int) (a6 : List (ACode)) : Option ((Bool) ⊕ ((List (Int)) × Int × (List (ACode)) × (List (Int)) × Int × (List (ACode)))) :=
  bif decide (a0 < (↑(List.length a1) : Int)) then
   bif decide (0 ≤ a0) then
    Option.bind (a1[Int.toNat a0]?) fun y0 =>
    bif decide (0 ≤ a0) then
     Option.bind (a4[Int.toNat a0]?) fun y1 =>
     bif y0 != y1 then
      some (.inl (false))
     else
      rec (IntKind.wrap IntKind.i64 (a0 + (1 : Int))) (a1) (a2) (a3) (a4) (a5) (a6)
    else
     none
   else
    none
  else
   some (.inr ((a1), (a2), (a3), (a4), (a5), (a6)))
def qap_i4 : Nat → Int → List (Int) → Int → List (ACode) → List (Int) → Int → List (ACode) → Option ((Bool) ⊕ ((List (Int)) × Int × (List (ACode)) × (List (Int)) × Int × (List (ACode))))
 | 0, _, _, _, _, _, _, _ => none
 | n + 1, a0, a1, a2, a3, a4, a5, a6 => qap_t4 (qap_i4 n) a0 a1 a2 a3 a4 a5 a6
def qap_l4 : Int → List (Int) → Int → List (ACode) → List (Int) → Int → List (ACode) → Option ((Bool) ⊕ ((List (Int)) × Int × (List (ACode)) × (List (Int)) × Int × (List (ACode)))) := sealF (qap_i4 fuel)
def qap_t16 (rec : Int → Int → List (Int) → Int → List (ACode) → List (Int) → Int → List (ACode) → Int → List (Instr) → Int → List (Instr) → Option ((Bool) ⊕ (Int × (List (Int)) × Int × (List (ACode)) × (List (Int)) × Int × (List (ACode))))) (a0 : Int) (a1 : Int) (a2 : List (Int)) (a3 : Int) (a4 : List (ACode)) (a5 : List (Int)) (a6 : Int) (a7 : List (ACode)) (a8 : Int) (a9 : List (Instr)) (a10 : Int) (a11 : List (Instr)) : Option ((Bool) ⊕ (Int × (List (Int)) × Int × (List (ACode)) × (List (Int)) × Int × (List (ACode)))) :=
  bif decide (a1 < (↑(List.length a9) : Int)) then
   bif decide (0 ≤ a1) then
    Option.bind (a9[Int.toNat a1]?) fun y0 =>
    bif decide (0 ≤ a1) then
     Option.bind (a11[Int.toNat a1]?) fun y1 =>
     bif !decide (y0 = y1) then
      some (.inl (false))
     else
      rec (a0) (IntKind.wrap IntKind.i64 (a1 + (1 : Int))) (a2) (a3) (a4) (a5) (a6) (a7) (a8) (a9) (a10) (a11)
    else
     none
   else
    none
  else
   some (.inr ((a0), (a2), (a3), (a4), (a5), (a6), (a7)))
def qap_i16 : Nat → Int → Int → List (Int) → Int → List (ACode) → List (Int) → Int → List (ACode) → Int → List (Instr) → Int → List (Instr) → Option ((Bool) ⊕ (Int × (List (Int)) × Int × (List (ACode)) × (List (Int)) × Int × (List (ACode))))
 | 0, _, _, _, _, _, _, _, _, _, _, _, _ => none
 | n + 1, a0, a1, a2, a3, a4, a5, a6, a7, a8, a9, a10, a11 => qap_t16 (qap_i16 n) a0 a1 a2 a3 a4 a5 a6 a7 a8 a9 a10 a11
def qap_l16 : Int → Int → List (Int) → Int → List (ACode) → List (Int) → Int → List (ACode) → Int → List (Instr) → Int → List (Instr) → Option ((Bool) ⊕ (Int × (List (Int)) × Int × (List (ACode)) × (List (Int)) × Int × (List (ACode)))) := sealF (qap_i16 fuel)
def qap_t9 (rec : Int → List (Int) → Int → List (ACode) → List (Int) → Int → List (ACode) → Option ((Bool) ⊕ (Unit))) (a0 : Int) (a1 : List (Int)) (a2 : Int) (a3 : List (ACode)) (a4 : List (Int)) (a5 : Int) (a6 : List (ACode)) : Option ((Bool) ⊕ (Unit)) :=
  bif decide (a0 < (↑(List.length a3) : Int)) then
   bif decide (0 ≤ a0) then
    Option.bind (a3[Int.toNat a0]?) fun y0 =>
    bif decide (0 ≤ a0) then
     Option.bind (a6[Int.toNat a0]?) fun y1 =>
     Option.bind (α := Bool) (
       bif ACode.regs y0 != ACode.regs y1 then
        some (true)
       else
        some ((↑(List.length (ACode.instrs y0)) : Int) != (↑(List.length (ACode.instrs y1)) : Int))) fun y2 =>
     bif y2 then
      some (.inl (false))
     else
      Option.bind (qap_l16 a0 (0 : Int) a1 a2 a3 a4 a5 a6 (ACode.regs y0) (ACode.instrs y0) (ACode.regs y1) (ACode.instrs y1)) fun y3 =>
      match y3 with
      | .inl y4 =>
       some (.inl (y4))
      | .inr y4 =>
       rec (IntKind.wrap IntKind.i64 (Prod.fst y4 + (1 : Int))) (Prod.fst (Prod.snd y4)) (Prod.fst (Prod.snd (Prod.snd y4))) (Prod.fst (Prod.snd (Prod.snd (Prod.snd y4)))) (Prod.fst (Prod.snd (Prod.snd (Prod.snd (Prod.snd y4))))) (Prod.fst (Prod.snd (Prod.snd (Prod.snd (Prod.snd (Prod.snd y4)))))) (Prod.snd (Prod.snd (Prod.snd (Prod.snd (Prod.snd (Prod.snd y4))))))
    else
     none
   else
    none
  else
   some (.inr ())
def qap_i9 : Nat → Int → List (Int) → Int → List (ACode) → List (Int) → Int → List (ACode) → Option ((Bool) ⊕ (Unit))
 | 0, _, _, _, _, _, _, _ => none
 | n + 1, a0, a1, a2, a3, a4, a5, a6 => qap_t9 (qap_i9 n) a0 a1 a2 a3 a4 a5 a6
def qap_l9 : Int → List (Int) → Int → List (ACode) → List (Int) → Int → List (ACode) → Option ((Bool) ⊕ (Unit)) := sealF (qap_i9 fuel)
def qap_f (a0 : Image) (a1 : Image) : Option (Bool) :=
  Option.bind (α := Bool) (
    bif Image.mutexes a0 != Image.mutexes a1 then
     some (true)
    else
     some ((↑(List.length (Image.cells a0)) : Int) != (↑(List.length (Image.cells a1)) : Int))) fun y0 =>
  Option.bind (α := Bool) (
    bif y0 then
     some (true)
    else
     some ((↑(List.length (Image.threads a0)) : Int) != (↑(List.length (Image.threads a1)) : Int))) fun y1 =>
  bif y1 then
   some (false)
  else
   Option.bind (qap_l4 (0 : Int) (Image.cells a0) (Image.mutexes a0) (Image.threads a0) (Image.cells a1) (Image.mutexes a1) (Image.threads a1)) fun y2 =>
   match y2 with
   | .inl y3 =>
    some (y3)
   | .inr y3 =>
    Option.bind (qap_l9 (0 : Int) (Prod.fst y3) (Prod.fst (Prod.snd y3)) (Prod.fst (Prod.snd (Prod.snd y3))) (Prod.fst (Prod.snd (Prod.snd (Prod.snd y3)))) (Prod.fst (Prod.snd (Prod.snd (Prod.snd (Prod.snd y3))))) (Prod.snd (Prod.snd (Prod.snd (Prod.snd (Prod.snd y3)))))) fun y4 =>
    match y4 with
    | .inl y5 =>
     some (y5)
    | .inr y5 =>
     some (true)
def qap : Image → Image → Option (Bool) := sealF (qap_f)
def qao_f : Option (Bool) :=
  Option.bind (qac (Image.mk [(-3 : Int)] (0 : Int) [ACode.mk (1 : Int) [Instr.mk (21 : Int) (0 : Int) (0 : Int) (0 : Int), Instr.mk (29 : Int) (0 : Int) (0 : Int) (0 : Int)]])) fun y0 =>
  Option.bind (qaa (Image.mk [(-3 : Int)] (0 : Int) [ACode.mk (1 : Int) [Instr.mk (21 : Int) (0 : Int) (0 : Int) (0 : Int), Instr.mk (29 : Int) (0 : Int) (0 : Int) (0 : Int)]])) fun y1 =>
  Option.bind (qab [(99 : UInt8), (101 : UInt8), (108 : UInt8), (108 : UInt8), (115 : UInt8), (32 : UInt8), (45 : UInt8), (51 : UInt8), (10 : UInt8), (109 : UInt8), (117 : UInt8), (116 : UInt8), (101 : UInt8), (120 : UInt8), (101 : UInt8), (115 : UInt8), (32 : UInt8), (48 : UInt8), (10 : UInt8), (116 : UInt8), (104 : UInt8), (114 : UInt8), (101 : UInt8), (97 : UInt8), (100 : UInt8), (32 : UInt8), (49 : UInt8), (10 : UInt8), (114 : UInt8), (101 : UInt8), (97 : UInt8), (100 : UInt8), (32 : UInt8), (48 : UInt8), (32 : UInt8), (48 : UInt8), (10 : UInt8), (101 : UInt8), (110 : UInt8), (100 : UInt8), (10 : UInt8)]) fun y2 =>
  Option.bind (qap (Image.mk [(-3 : Int)] (0 : Int) [ACode.mk (1 : Int) [Instr.mk (21 : Int) (0 : Int) (0 : Int) (0 : Int), Instr.mk (29 : Int) (0 : Int) (0 : Int) (0 : Int)]]) (Image.mk (Prod.fst (Prod.snd (Prod.snd y2))) (Prod.fst y2) (Prod.snd (Prod.snd (Prod.snd y2))))) fun y3 =>
  Option.bind (qab (List.drop (0 : Nat) (List.take (40 : Nat) [(99 : UInt8), (101 : UInt8), (108 : UInt8), (108 : UInt8), (115 : UInt8), (32 : UInt8), (45 : UInt8), (51 : UInt8), (10 : UInt8), (109 : UInt8), (117 : UInt8), (116 : UInt8), (101 : UInt8), (120 : UInt8), (101 : UInt8), (115 : UInt8), (32 : UInt8), (48 : UInt8), (10 : UInt8), (116 : UInt8), (104 : UInt8), (114 : UInt8), (101 : UInt8), (97 : UInt8), (100 : UInt8), (32 : UInt8), (49 : UInt8), (10 : UInt8), (114 : UInt8), (101 : UInt8), (97 : UInt8), (100 : UInt8), (32 : UInt8), (48 : UInt8), (32 : UInt8), (48 : UInt8), (10 : UInt8), (101 : UInt8), (110 : UInt8), (100 : UInt8), (10 : UInt8)]))) fun y4 =>
  Option.bind (α := Bool) (
    bif y0 then
     some (Prod.snd y1 == 0)
    else
     some (false)) fun y5 =>
  Option.bind (α := Bool) (
    bif y5 then
     some (Prod.fst y1 == [(99 : UInt8), (101 : UInt8), (108 : UInt8), (108 : UInt8), (115 : UInt8), (32 : UInt8), (45 : UInt8), (51 : UInt8), (10 : UInt8), (109 : UInt8), (117 : UInt8), (116 : UInt8), (101 : UInt8), (120 : UInt8), (101 : UInt8), (115 : UInt8), (32 : UInt8), (48 : UInt8), (10 : UInt8), (116 : UInt8), (104 : UInt8), (114 : UInt8), (101 : UInt8), (97 : UInt8), (100 : UInt8), (32 : UInt8), (49 : UInt8), (10 : UInt8), (114 : UInt8), (101 : UInt8), (97 : UInt8), (100 : UInt8), (32 : UInt8), (48 : UInt8), (32 : UInt8), (48 : UInt8), (10 : UInt8), (101 : UInt8), (110 : UInt8), (100 : UInt8), (10 : UInt8)])
    else
     some (false)) fun y6 =>
  Option.bind (α := Bool) (
    bif y6 then
     some (Fault.code (Prod.fst (Prod.snd y2)) == 0)
    else
     some (false)) fun y7 =>
  Option.bind (α := Bool) (
    bif y7 then
     some (y3)
    else
     some (false)) fun y8 =>
  Option.bind (α := Bool) (
    bif y8 then
     some (decide (Fault.mk (Fault.code (Prod.fst (Prod.snd y4))) (Fault.at_ (Prod.fst (Prod.snd y4))) (Fault.name (Prod.fst (Prod.snd y4))) = Fault.mk (101 : Int) (37 : Int) []))
    else
     some (false)) fun y9 =>
  some (y9)
def qao : Option (Bool) := sealF (qao_f)
def qan_f (a0 : List UInt8) : Option (Bool) :=
  Option.bind (qao) fun y0 =>
  Option.bind (qab a0) fun y1 =>
  Option.bind (α := Bool) (
    bif !y0 then
     some (true)
    else
     some (Fault.code (Prod.fst (Prod.snd y1)) != 0)) fun y2 =>
  bif y2 then
   some (y0)
  else
   Option.bind (qaa (Image.mk (Prod.fst (Prod.snd (Prod.snd y1))) (Prod.fst y1) (Prod.snd (Prod.snd (Prod.snd y1))))) fun y3 =>
   Option.bind (α := Bool) (
     bif Prod.snd y3 == 0 then
      some (Prod.fst y3 == a0)
     else
      some (false)) fun y4 =>
   some (y4)
def qan : List UInt8 → Option (Bool) := sealF (qan_f)
end
end Lift.Fn
