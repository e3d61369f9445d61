/-
  DERIVED. The functions of this seat as Lean has them; the library's modes. Conditions: none.
-/
import Derived.Test.YtheockdfnlfneaaGreatDoorLiftC
import Derived.Test.YtheockdfnlfneaaGreatDoorProg
import Derived.KernelRfl
set_option linter.unusedVariables false
set_option linter.unusedSimpArgs false
set_option linter.unusedSectionVars false
namespace Lift.C2
open Go Go.RowKit Go.Proofs Lift

@[reducible] noncomputable def U (n : Nat) : Type := match n with
  | 26 => Fault
  | 31 => Token
  | 41 => Spot
  | _ => Empty

noncomputable def cells (n : Nat) : U n → List (TV U) := match n with
  | 26 => fun (x : Fault) => [⟨.int .i64, x.code⟩, ⟨.int .i64, x.at_⟩, ⟨.str, x.name⟩]
  | 31 => fun (x : Token) => [⟨.int .i64, x.kind⟩, ⟨.str, x.text⟩, ⟨.int .i64, x.num⟩, ⟨.int .i64, x.at_⟩]
  | 41 => fun (x : Spot) => [⟨.int .i64, x.rune⟩, ⟨.int .i64, x.at_⟩, ⟨.int .i64, x.line⟩, ⟨.int .i64, x.col⟩]
  | _ => fun _ => []

noncomputable def ctys (n : Nat) : List Ty := match n with
  | 26 => [.int .i64, .int .i64, .str]
  | 31 => [.int .i64, .str, .int .i64, .int .i64]
  | 41 => [.int .i64, .int .i64, .int .i64, .int .i64]
  | _ => []

noncomputable def make (n : Nat) : List (TV U) → Option (U n) := match n with
  | 26 => fun | [⟨.int .i64, v0⟩, ⟨.int .i64, v1⟩, ⟨.str, v2⟩] => some (Fault.mk v0 v1 v2) | _ => none
  | 31 => fun | [⟨.int .i64, v0⟩, ⟨.str, v1⟩, ⟨.int .i64, v2⟩, ⟨.int .i64, v3⟩] => some (Token.mk v0 v1 v2 v3) | _ => none
  | 41 => fun | [⟨.int .i64, v0⟩, ⟨.int .i64, v1⟩, ⟨.int .i64, v2⟩, ⟨.int .i64, v3⟩] => some (Spot.mk v0 v1 v2 v3) | _ => none
  | _ => fun _ => none

@[reducible] noncomputable def uni : Uni where
  U := U
  cells := cells
  ctys := ctys
  make := make
  make_ok := by
    intro n cs x h
    unfold make at h
    split at h
    · dsimp only at h
      split at h
      · cases h; rfl
      · cases h
    · dsimp only at h
      split at h
      · cases h; rfl
      · cases h
    · dsimp only at h
      split at h
      · cases h; rfl
      · cases h
    · cases h
  tys_ok := by
    intro n x
    unfold cells ctys
    split <;> rfl
  flat_ok := by
    intro n t h
    have : ∀ n, (ctys n).all Ty.flat = true := by
      intro n
      unfold ctys
      split <;> rfl
    exact List.all_eq_true.1 (this n) t h

noncomputable def tyOf : TypeId → Option Ty
  | 1 => some (.fn)
  | 2 => some (.int .i64)
  | 3 => some (.int .i64)
  | 4 => some (.bool)
  | 5 => some (.int .u8)
  | 6 => some (.int .u8)
  | 9 => some (.str)
  | 10 => some (.str)
  | 11 => some (.str)
  | 12 => some (.int .u64)
  | 21 => some (.int .i32)
  | 22 => some (.fn)
  | 23 => some (.slc (.st 31))
  | 24 => some (.int .i64)
  | 26 => some (.st 26)
  | 28 => some (.fn)
  | 29 => some (.fn)
  | 31 => some (.st 31)
  | 32 => some (.fn)
  | 34 => some (.fn)
  | 35 => some (.fn)
  | 36 => some (.slc (.st 41))
  | 38 => some (.fn)
  | 39 => some (.fn)
  | 41 => some (.st 41)
  | 43 => some (.fn)
  | 44 => some (.fn)
  | 46 => some (.fn)
  | 47 => some (.slc (.int .u8))
  | 48 => some (.slc (.str))
  | 49 => some (.fn)
  | 50 => some (.fn)
  | 52 => some (.fn)
  | 53 => some (.fn)
  | 54 => some (.fn)
  | 55 => some (.fn)
  | 56 => some (.fn)
  | 58 => some (.fn)
  | 59 => some (.fn)
  | 61 => some (.fn)
  | 62 => some (.fn)
  | 63 => some (.fn)
  | 67 => some (.fn)
  | 69 => some (.err)
  | 71 => some (.fn)
  | 72 => some (.fn)
  | 74 => some (.fn)
  | 75 => some (.fn)
  | 76 => some (.fn)
  | 77 => some (.fn)
  | 78 => some (.fn)
  | 79 => some (.fn)
  | 80 => some (.fn)
  | 85 => some (.int .u64)
  | 87 => some (.fn)
  | 88 => some (.fn)
  | 89 => some (.fn)
  | 93 => some (.fn)
  | 94 => some (.fn)
  | 96 => some (.fn)
  | 97 => some (.int .u64)
  | 99 => some (.fn)
  | 100 => some (.fn)
  | 101 => some (.fn)
  | 102 => some (.fn)
  | 103 => some (.int .i64)
  | 105 => some (.fn)
  | 107 => some (.fn)
  | 108 => some (.fn)
  | 109 => some (.fn)
  | 110 => some (.fn)
  | 112 => some (.fn)
  | 115 => some (.fn)
  | 116 => some (.fn)
  | 117 => some (.int .u32)
  | 119 => some (.fn)
  | 120 => some (.fn)
  | 124 => some (.fn)
  | 126 => some (.fn)
  | 127 => some (.fn)
  | 129 => some (.fn)
  | 130 => some (.fn)
  | 133 => some (.fn)
  | 134 => some (.fn)
  | 142 => some (.fn)
  | 143 => some (.int .u8)
  | 144 => some (.int .u8)
  | 145 => some (.fn)
  | 146 => some (.int .i32)
  | 147 => some (.int .i32)
  | _ => none

noncomputable def eqOf (T : TypeId) (n : Nat) : Option (U n → U n → Bool) := match n with
  | 26 => bif Nat.beq T 26 then some fun (a b : Fault) => decide (a = b) else none
  | 31 => bif Nat.beq T 31 then some fun (a b : Token) => decide (a = b) else none
  | 41 => bif Nat.beq T 41 then some fun (a b : Spot) => decide (a = b) else none
  | _ => none

@[reducible] noncomputable def kk : Kit := { P := Tryz.prog, u := uni, tyOf, eqOf, modes := fun _ => [] }

theorem eqOk : EqOk kk := by
  refine eqOk_flat fun T n f h => ?_
  change eqOf T n = some f at h
  change flatStruct Tryz.prog T (ctys n) = true ∧ ∀ a b : U n, f a b = cellsEq (cells n a) (cells n b)
  unfold eqOf at h
  split at h
  · cases hb : Nat.beq T 26 with
    | true =>
      rw [hb] at h
      cases Nat.eq_of_beq_eq_true hb
      cases h
      refine ⟨by kernel_rfl, ?_⟩
      rintro ⟨a0, a1, a2⟩ ⟨b0, b1, b2⟩
      simp [cells, cellsEq, scalarEq, cond_eq_ite, Bool.decide_and]
    | false => rw [hb] at h; cases h
  · cases hb : Nat.beq T 31 with
    | true =>
      rw [hb] at h
      cases Nat.eq_of_beq_eq_true hb
      cases h
      refine ⟨by kernel_rfl, ?_⟩
      rintro ⟨a0, a1, a2, a3⟩ ⟨b0, b1, b2, b3⟩
      simp [cells, cellsEq, scalarEq, cond_eq_ite, Bool.decide_and]
    | false => rw [hb] at h; cases h
  · cases hb : Nat.beq T 41 with
    | true =>
      rw [hb] at h
      cases Nat.eq_of_beq_eq_true hb
      cases h
      refine ⟨by kernel_rfl, ?_⟩
      rintro ⟨a0, a1, a2, a3⟩ ⟨b0, b1, b2, b3⟩
      simp [cells, cellsEq, scalarEq, cond_eq_ite, Bool.decide_and]
    | false => rw [hb] at h; cases h
  · cases h

theorem mixed : kk.P.follows .mixedOrders = true := by kernel_rfl
end Lift.C2

/- The library's modes. -/
namespace Lift.C2
open Go Go.RowKit Go.Proofs Lift Lift.Fn

noncomputable def strings_Join_md : Mode U := ⟨⟨⟨[0, 1], [], []⟩, [.t (.slc .str), .t (.str)], []⟩, [], [⟨⟨[0], [], []⟩, [.t (.str)], []⟩], fun ls => match ls with | [⟨.slc .str, a0⟩, ⟨.str, a1⟩] => .get (strings_Join a0 a1) (fun r => .ret (0, [⟨.str, r⟩])) | _ => .fail⟩
noncomputable def strings_Contains_md : Mode U := ⟨⟨⟨[0, 1], [], []⟩, [.t (.str), .t (.str)], []⟩, [], [⟨⟨[0], [], []⟩, [.t (.bool)], []⟩], fun ls => match ls with | [⟨.str, a0⟩, ⟨.str, a1⟩] => .get (strings_Contains a0 a1) (fun r => .ret (0, [⟨.bool, r⟩])) | _ => .fail⟩
noncomputable def unicode_utf8_DecodeRuneInString_md : Mode U := ⟨⟨⟨[0], [], []⟩, [.t (.str)], []⟩, [], [⟨⟨[0, 1], [], []⟩, [.t (.int .i32), .t (.int .i64)], []⟩], fun ls => match ls with | [⟨.str, a0⟩] => .get (unicode_utf8_DecodeRuneInString a0) (fun r => .ret (0, [⟨.int .i32, r.1⟩, ⟨.int .i64, r.2⟩])) | _ => .fail⟩
noncomputable def unicode_utf8_RuneCountInString_md : Mode U := ⟨⟨⟨[0], [], []⟩, [.t (.str)], []⟩, [], [⟨⟨[0], [], []⟩, [.t (.int .i64)], []⟩], fun ls => match ls with | [⟨.str, a0⟩] => .get (unicode_utf8_RuneCountInString a0) (fun r => .ret (0, [⟨.int .i64, r⟩])) | _ => .fail⟩
noncomputable def unicode_utf8_ValidString_md : Mode U := ⟨⟨⟨[0], [], []⟩, [.t (.str)], []⟩, [], [⟨⟨[0], [], []⟩, [.t (.bool)], []⟩], fun ls => match ls with | [⟨.str, a0⟩] => .get (unicode_utf8_ValidString a0) (fun r => .ret (0, [⟨.bool, r⟩])) | _ => .fail⟩
noncomputable def strings_Trim_md : Mode U := ⟨⟨⟨[0, 1], [], []⟩, [.t (.str), .t (.str)], []⟩, [], [⟨⟨[0], [], []⟩, [.t (.str)], []⟩], fun ls => match ls with | [⟨.str, a0⟩, ⟨.str, a1⟩] => .get (strings_Trim a0 a1) (fun r => .ret (0, [⟨.str, r⟩])) | _ => .fail⟩
noncomputable def strconv_Atoi_md : Mode U := ⟨⟨⟨[0], [], []⟩, [.t (.str)], []⟩, [], [⟨⟨[0, 1], [], []⟩, [.t (.int .i64), .t (.err)], []⟩], fun ls => match ls with | [⟨.str, a0⟩] => .get (strconv_Atoi a0) (fun r => .ret (0, [⟨.int .i64, r.1⟩, ⟨.err, r.2⟩])) | _ => .fail⟩

noncomputable def ms0 : List (FuncId × Mode U) := []
noncomputable def ms1 : List (FuncId × Mode U) := (19, strings_Join_md) :: ms0
noncomputable def ms2 : List (FuncId × Mode U) := (51, strings_Contains_md) :: ms1
noncomputable def ms3 : List (FuncId × Mode U) := (31, unicode_utf8_DecodeRuneInString_md) :: ms2
noncomputable def ms4 : List (FuncId × Mode U) := (39, unicode_utf8_RuneCountInString_md) :: ms3
noncomputable def ms5 : List (FuncId × Mode U) := (40, unicode_utf8_ValidString_md) :: ms4
noncomputable def ms6 : List (FuncId × Mode U) := (52, strings_Trim_md) :: ms5
noncomputable def ms7 : List (FuncId × Mode U) := (53, strconv_Atoi_md) :: ms6
end Lift.C2

/- The library's modes hold of this program. -/
namespace Go.Proofs
open Go.Shelf Go.RowKit
def Tryz.laysJoin_ren : Go.Shelf.Ren := ⟨fun | 156 => 19 | 165 => 41 | 166 => 42 | 169 => 43 | 240 => 56 | 241 => 57 | 276 => 70 | 277 => 71 | n => n, fun | 31 => 48 | 9 => 9 | 3 => 3 | 4 => 4 | 0 => 0 | 20 => 20 | 72 => 66 | 76 => 70 | 70 => 64 | 37 => 47 | 75 => 69 | 127 => 86 | 164 => 98 | 5 => 5 | 80 => 72 | n => n, fun | n => n⟩
theorem Tryz.laysJoin : Go.Proofs.Lays.n156 Tryz.prog Tryz.laysJoin_ren where
  mixed := by kernel_rfl
  f156 := Tryz.func19.trans (congrArg some (by kernel_rfl))
  f165 := Tryz.func41.trans (congrArg some (by kernel_rfl))
  f166 := Tryz.func42.trans (congrArg some (by kernel_rfl))
  f169 := Tryz.func43.trans (congrArg some (by kernel_rfl))
  f240 := Tryz.func56.trans (congrArg some (by kernel_rfl))
  f241 := Tryz.func57.trans (congrArg some (by kernel_rfl))
  f276 := Tryz.func70.trans (congrArg some (by kernel_rfl))
  f277 := Tryz.func71.trans (congrArg some (by kernel_rfl))
  t0 := Tryz.underlying0
  a0 := Tryz.isAgg0
  z0 := Tryz.sizeOf0
  v0 := Tryz.zeroValue0
  t3 := Tryz.underlying3
  a3 := Tryz.isAgg3
  z3 := Tryz.sizeOf3
  v3 := Tryz.zeroValue3
  t4 := Tryz.underlying4
  a4 := Tryz.isAgg4
  z4 := Tryz.sizeOf4
  v4 := Tryz.zeroValue4
  t9 := Tryz.underlying9
  a9 := Tryz.isAgg9
  z9 := Tryz.sizeOf9
  v9 := Tryz.zeroValue9
  t20 := Tryz.underlying20
  a20 := Tryz.isAgg20
  z20 := Tryz.sizeOf20
  v20 := Tryz.zeroValue20
  t31 := Tryz.underlying48
  a31 := Tryz.isAgg48
  z31 := Tryz.sizeOf48
  v31 := Tryz.zeroValue48
  t37 := Tryz.underlying47
  a37 := Tryz.isAgg47
  z37 := Tryz.sizeOf47
  v37 := Tryz.zeroValue47
  t70 := Tryz.underlying64
  a70 := Tryz.isAgg64
  z70 := Tryz.sizeOf64
  v70 := Tryz.zeroValue64
  t72 := Tryz.underlying66
  a72 := Tryz.isAgg66
  z72 := Tryz.sizeOf66
  v72 := Tryz.zeroValue66
  t75 := Tryz.underlying69
  a75 := Tryz.isAgg69
  z75 := Tryz.sizeOf69
  v75 := Tryz.zeroValue69
  t76 := Tryz.underlying70
  a76 := Tryz.isAgg70
  z76 := Tryz.sizeOf70
  v76 := Tryz.zeroValue70
  t127 := Tryz.underlying86
  a127 := Tryz.isAgg86
  z127 := Tryz.sizeOf86
  v127 := Tryz.zeroValue86
  t164 := Tryz.underlying98
  a164 := Tryz.isAgg98
  z164 := Tryz.sizeOf98
  v164 := Tryz.zeroValue98

def Tryz.laysContains_ren : Go.Shelf.Ren := ⟨fun | 144 => 51 | 143 => 60 | 219 => 73 | 217 => 82 | 225 => 83 | 224 => 84 | 267 => 85 | 266 => 92 | 314 => 93 | n => n, fun | 9 => 9 | 4 => 4 | 3 => 3 | 5 => 5 | 46 => 85 | 146 => 118 | 51 => 117 | n => n, fun | 1 => 2 | n => n⟩
theorem Tryz.laysContains : Go.Proofs.LaysM.n144 Tryz.prog Tryz.laysContains_ren where
  mixed := by kernel_rfl
  f143 := Tryz.func60.trans (congrArg some (by kernel_rfl))
  f144 := Tryz.func51.trans (congrArg some (by kernel_rfl))
  f217 := Tryz.func82.trans (congrArg some (by kernel_rfl))
  f219 := Tryz.func73.trans (congrArg some (by kernel_rfl))
  f224 := Tryz.func84.trans (congrArg some (by kernel_rfl))
  f225 := Tryz.func83.trans (congrArg some (by kernel_rfl))
  f266 := Tryz.func92.trans (congrArg some (by kernel_rfl))
  f267 := Tryz.func85.trans (congrArg some (by kernel_rfl))
  f314 := Tryz.func93.trans (congrArg some (by kernel_rfl))
  t3 := Tryz.underlying3
  a3 := Tryz.isAgg3
  z3 := Tryz.sizeOf3
  v3 := Tryz.zeroValue3
  t4 := Tryz.underlying4
  a4 := Tryz.isAgg4
  z4 := Tryz.sizeOf4
  v4 := Tryz.zeroValue4
  t5 := Tryz.underlying5
  a5 := Tryz.isAgg5
  z5 := Tryz.sizeOf5
  v5 := Tryz.zeroValue5
  t9 := Tryz.underlying9
  a9 := Tryz.isAgg9
  z9 := Tryz.sizeOf9
  v9 := Tryz.zeroValue9
  t46 := Tryz.underlying85
  a46 := Tryz.isAgg85
  z46 := Tryz.sizeOf85
  v46 := Tryz.zeroValue85
  t51 := Tryz.underlying117
  a51 := Tryz.isAgg117
  z51 := Tryz.sizeOf117
  v51 := Tryz.zeroValue117
  t146 := Tryz.underlying118
  a146 := Tryz.isAgg118
  z146 := Tryz.sizeOf118
  v146 := Tryz.zeroValue118
  g1 := by kernel_rfl
  i3 := by kernel_rfl
  i4 := by kernel_rfl
  i5 := by kernel_rfl
  i9 := by kernel_rfl
  i46 := by kernel_rfl
  i51 := by kernel_rfl
  i146 := by kernel_rfl
  m1 := by kernel_rfl
  s1_3 := fun w h => Go.Proofs.cell_of_shapedOpen_int (zero := #[.int .i64 0]) (t := 3) h (of_decide_eq_true (by kernel_rfl)) (by kernel_rfl) rfl (by kernel_rfl) (by kernel_rfl) Tryz.underlying3

def Tryz.laysDecode_ren : Go.Shelf.Ren := ⟨fun | 197 => 31 | 260 => 49 | n => n, fun | 9 => 9 | 21 => 21 | 3 => 3 | 4 => 4 | 5 => 5 | 105 => 60 | 119 => 81 | 0 => 0 | 46 => 85 | 139 => 84 | 138 => 83 | n => n, fun | 3 => 0 | 4 => 1 | n => n⟩
theorem Tryz.laysDecode : Go.Proofs.Lays.n197 Tryz.prog Tryz.laysDecode_ren where
  mixed := by kernel_rfl
  f197 := Tryz.func31.trans (congrArg some (by kernel_rfl))
  f260 := Tryz.func49.trans (congrArg some (by kernel_rfl))
  t0 := Tryz.underlying0
  a0 := Tryz.isAgg0
  z0 := Tryz.sizeOf0
  v0 := Tryz.zeroValue0
  t3 := Tryz.underlying3
  a3 := Tryz.isAgg3
  z3 := Tryz.sizeOf3
  v3 := Tryz.zeroValue3
  t4 := Tryz.underlying4
  a4 := Tryz.isAgg4
  z4 := Tryz.sizeOf4
  v4 := Tryz.zeroValue4
  t5 := Tryz.underlying5
  a5 := Tryz.isAgg5
  z5 := Tryz.sizeOf5
  v5 := Tryz.zeroValue5
  t9 := Tryz.underlying9
  a9 := Tryz.isAgg9
  z9 := Tryz.sizeOf9
  v9 := Tryz.zeroValue9
  t21 := Tryz.underlying21
  a21 := Tryz.isAgg21
  z21 := Tryz.sizeOf21
  v21 := Tryz.zeroValue21
  t46 := Tryz.underlying85
  a46 := Tryz.isAgg85
  z46 := Tryz.sizeOf85
  v46 := Tryz.zeroValue85
  t105 := Tryz.underlying60
  a105 := Tryz.isAgg60
  z105 := Tryz.sizeOf60
  v105 := Tryz.zeroValue60
  t119 := Tryz.underlying81
  a119 := Tryz.isAgg81
  z119 := Tryz.sizeOf81
  t138 := Tryz.underlying83
  a138 := Tryz.isAgg83
  z138 := Tryz.sizeOf83
  v138 := Tryz.zeroValue83
  t139 := Tryz.underlying84
  a139 := Tryz.isAgg84
  z139 := Tryz.sizeOf84
  v139 := Tryz.zeroValue84
  g3 := by kernel_rfl
  g4 := by kernel_rfl

def Tryz.laysCount_ren : Go.Shelf.Ren := ⟨fun | 195 => 39 | n => n, fun | 9 => 9 | 3 => 3 | 0 => 0 | 4 => 4 | n => n, fun | n => n⟩
theorem Tryz.laysCount : Go.Proofs.Lays.n195 Tryz.prog Tryz.laysCount_ren where
  mixed := by kernel_rfl
  f195 := Tryz.func39.trans (congrArg some (by kernel_rfl))
  t0 := Tryz.underlying0
  a0 := Tryz.isAgg0
  z0 := Tryz.sizeOf0
  v0 := Tryz.zeroValue0
  t3 := Tryz.underlying3
  a3 := Tryz.isAgg3
  z3 := Tryz.sizeOf3
  v3 := Tryz.zeroValue3
  t4 := Tryz.underlying4
  a4 := Tryz.isAgg4
  z4 := Tryz.sizeOf4
  v4 := Tryz.zeroValue4
  t9 := Tryz.underlying9
  a9 := Tryz.isAgg9
  z9 := Tryz.sizeOf9
  v9 := Tryz.zeroValue9

def Tryz.laysValid_ren : Go.Shelf.Ren := ⟨fun | 196 => 40 | 259 => 55 | n => n, fun | 9 => 9 | 4 => 4 | 3 => 3 | 5 => 5 | 12 => 12 | 119 => 81 | 0 => 0 | 46 => 85 | 139 => 84 | 138 => 83 | 53 => 97 | n => n, fun | 3 => 0 | 4 => 1 | n => n⟩
theorem Tryz.laysValid : Go.Proofs.Lays.n196 Tryz.prog Tryz.laysValid_ren where
  mixed := by kernel_rfl
  f196 := Tryz.func40.trans (congrArg some (by kernel_rfl))
  f259 := Tryz.func55.trans (congrArg some (by kernel_rfl))
  t0 := Tryz.underlying0
  a0 := Tryz.isAgg0
  z0 := Tryz.sizeOf0
  v0 := Tryz.zeroValue0
  t3 := Tryz.underlying3
  a3 := Tryz.isAgg3
  z3 := Tryz.sizeOf3
  v3 := Tryz.zeroValue3
  t4 := Tryz.underlying4
  a4 := Tryz.isAgg4
  z4 := Tryz.sizeOf4
  v4 := Tryz.zeroValue4
  t5 := Tryz.underlying5
  a5 := Tryz.isAgg5
  z5 := Tryz.sizeOf5
  v5 := Tryz.zeroValue5
  t9 := Tryz.underlying9
  a9 := Tryz.isAgg9
  z9 := Tryz.sizeOf9
  v9 := Tryz.zeroValue9
  t12 := Tryz.underlying12
  a12 := Tryz.isAgg12
  z12 := Tryz.sizeOf12
  v12 := Tryz.zeroValue12
  t46 := Tryz.underlying85
  a46 := Tryz.isAgg85
  z46 := Tryz.sizeOf85
  v46 := Tryz.zeroValue85
  t53 := Tryz.underlying97
  a53 := Tryz.isAgg97
  z53 := Tryz.sizeOf97
  v53 := Tryz.zeroValue97
  t119 := Tryz.underlying81
  a119 := Tryz.isAgg81
  z119 := Tryz.sizeOf81
  t138 := Tryz.underlying83
  a138 := Tryz.isAgg83
  z138 := Tryz.sizeOf83
  v138 := Tryz.zeroValue83
  t139 := Tryz.underlying84
  a139 := Tryz.isAgg84
  z139 := Tryz.sizeOf84
  v139 := Tryz.zeroValue84
  g3 := by kernel_rfl
  g4 := by kernel_rfl

def Tryz.laysTrim_ren : Go.Shelf.Ren := ⟨fun | 160 => 52 | 232 => 62 | 231 => 61 | 227 => 63 | 234 => 65 | 233 => 64 | 236 => 67 | 235 => 66 | 228 => 74 | 271 => 76 | 151 => 75 | 197 => 31 | 120 => 87 | 152 => 86 | 260 => 49 | 137 => 94 | 119 => 72 | 224 => 84 | 225 => 83 | 217 => 82 | 266 => 92 | n => n, fun | 9 => 9 | 4 => 4 | 3 => 3 | 5 => 5 | 117 => 92 | 116 => 91 | 0 => 0 | 124 => 95 | 21 => 21 | 105 => 60 | 46 => 85 | 119 => 81 | 139 => 84 | 138 => 83 | n => n, fun | 3 => 0 | 4 => 1 | n => n⟩
theorem Tryz.laysTrim : Go.Proofs.Lays.n160 Tryz.prog Tryz.laysTrim_ren where
  mixed := by kernel_rfl
  f119 := Tryz.func72.trans (congrArg some (by kernel_rfl))
  f120 := Tryz.func87.trans (congrArg some (by kernel_rfl))
  f137 := Tryz.func94.trans (congrArg some (by kernel_rfl))
  f151 := Tryz.func75.trans (congrArg some (by kernel_rfl))
  f152 := Tryz.func86.trans (congrArg some (by kernel_rfl))
  f160 := Tryz.func52.trans (congrArg some (by kernel_rfl))
  f197 := Tryz.func31.trans (congrArg some (by kernel_rfl))
  f217 := Tryz.func82.trans (congrArg some (by kernel_rfl))
  f224 := Tryz.func84.trans (congrArg some (by kernel_rfl))
  f225 := Tryz.func83.trans (congrArg some (by kernel_rfl))
  f227 := Tryz.func63.trans (congrArg some (by kernel_rfl))
  f228 := Tryz.func74.trans (congrArg some (by kernel_rfl))
  f231 := Tryz.func61.trans (congrArg some (by kernel_rfl))
  f232 := Tryz.func62.trans (congrArg some (by kernel_rfl))
  f233 := Tryz.func64.trans (congrArg some (by kernel_rfl))
  f234 := Tryz.func65.trans (congrArg some (by kernel_rfl))
  f235 := Tryz.func66.trans (congrArg some (by kernel_rfl))
  f236 := Tryz.func67.trans (congrArg some (by kernel_rfl))
  f260 := Tryz.func49.trans (congrArg some (by kernel_rfl))
  f266 := Tryz.func92.trans (congrArg some (by kernel_rfl))
  f271 := Tryz.func76.trans (congrArg some (by kernel_rfl))
  t0 := Tryz.underlying0
  a0 := Tryz.isAgg0
  z0 := Tryz.sizeOf0
  v0 := Tryz.zeroValue0
  t3 := Tryz.underlying3
  a3 := Tryz.isAgg3
  z3 := Tryz.sizeOf3
  v3 := Tryz.zeroValue3
  t4 := Tryz.underlying4
  a4 := Tryz.isAgg4
  z4 := Tryz.sizeOf4
  v4 := Tryz.zeroValue4
  t5 := Tryz.underlying5
  a5 := Tryz.isAgg5
  z5 := Tryz.sizeOf5
  v5 := Tryz.zeroValue5
  t9 := Tryz.underlying9
  a9 := Tryz.isAgg9
  z9 := Tryz.sizeOf9
  v9 := Tryz.zeroValue9
  t21 := Tryz.underlying21
  a21 := Tryz.isAgg21
  z21 := Tryz.sizeOf21
  v21 := Tryz.zeroValue21
  t46 := Tryz.underlying85
  a46 := Tryz.isAgg85
  z46 := Tryz.sizeOf85
  v46 := Tryz.zeroValue85
  t105 := Tryz.underlying60
  a105 := Tryz.isAgg60
  z105 := Tryz.sizeOf60
  v105 := Tryz.zeroValue60
  t116 := Tryz.underlying91
  a116 := Tryz.isAgg91
  z116 := Tryz.sizeOf91
  t117 := Tryz.underlying92
  a117 := Tryz.isAgg92
  z117 := Tryz.sizeOf92
  v117 := Tryz.zeroValue92
  t119 := Tryz.underlying81
  a119 := Tryz.isAgg81
  z119 := Tryz.sizeOf81
  t124 := Tryz.underlying95
  a124 := Tryz.isAgg95
  z124 := Tryz.sizeOf95
  v124 := Tryz.zeroValue95
  t138 := Tryz.underlying83
  a138 := Tryz.isAgg83
  z138 := Tryz.sizeOf83
  v138 := Tryz.zeroValue83
  t139 := Tryz.underlying84
  a139 := Tryz.isAgg84
  z139 := Tryz.sizeOf84
  v139 := Tryz.zeroValue84
  g3 := by kernel_rfl
  g4 := by kernel_rfl

def Tryz.laysAtoi_ren : Go.Shelf.Ren := ⟨fun | 172 => 53 | 244 => 68 | 245 => 69 | 247 => 77 | 279 => 78 | 280 => 79 | 281 => 80 | 282 => 81 | 287 => 88 | 316 => 89 | 171 => 91 | 205 => 90 | 321 => 95 | 322 => 96 | 243 => 97 | 246 => 98 | 283 => 99 | 284 => 100 | 285 => 101 | 286 => 102 | 129 => 104 | 317 => 103 | 318 => 105 | 319 => 106 | 320 => 107 | 337 => 108 | 338 => 109 | n => n, fun | 9 => 9 | 3 => 3 | 75 => 69 | 76 => 70 | 4 => 4 | 5 => 5 | 167 => 103 | 37 => 47 | 0 => 0 | 85 => 104 | 2 => 2 | 168 => 106 | 53 => 97 | 175 => 111 | 46 => 85 | 210 => 114 | 127 => 86 | 145 => 123 | 143 => 121 | 21 => 21 | 171 => 125 | 173 => 128 | 212 => 131 | 51 => 117 | 20 => 20 | 213 => 132 | 232 => 135 | 233 => 136 | 80 => 72 | n => n, fun | 15 => 3 | 16 => 4 | 17 => 5 | 18 => 6 | 19 => 7 | n => n⟩
theorem Tryz.laysAtoi : Go.Proofs.LaysC.n172 Tryz.prog Tryz.laysAtoi_ren where
  mixed := by kernel_rfl
  f129 := Tryz.func104.trans (congrArg some (by kernel_rfl))
  f171 := Tryz.func91.trans (congrArg some (by kernel_rfl))
  f172 := Tryz.func53.trans (congrArg some (by kernel_rfl))
  f205 := Tryz.func90.trans (congrArg some (by kernel_rfl))
  f243 := Tryz.func97.trans (congrArg some (by kernel_rfl))
  f244 := Tryz.func68.trans (congrArg some (by kernel_rfl))
  f245 := Tryz.func69.trans (congrArg some (by kernel_rfl))
  f246 := Tryz.func98.trans (congrArg some (by kernel_rfl))
  f247 := Tryz.func77.trans (congrArg some (by kernel_rfl))
  f279 := Tryz.func78.trans (congrArg some (by kernel_rfl))
  f280 := Tryz.func79.trans (congrArg some (by kernel_rfl))
  f281 := Tryz.func80.trans (congrArg some (by kernel_rfl))
  f282 := Tryz.func81.trans (congrArg some (by kernel_rfl))
  f283 := Tryz.func99.trans (congrArg some (by kernel_rfl))
  f284 := Tryz.func100.trans (congrArg some (by kernel_rfl))
  f285 := Tryz.func101.trans (congrArg some (by kernel_rfl))
  f286 := Tryz.func102.trans (congrArg some (by kernel_rfl))
  f287 := Tryz.func88.trans (congrArg some (by kernel_rfl))
  f316 := Tryz.func89.trans (congrArg some (by kernel_rfl))
  f317 := Tryz.func103.trans (congrArg some (by kernel_rfl))
  f318 := Tryz.func105.trans (congrArg some (by kernel_rfl))
  f319 := Tryz.func106.trans (congrArg some (by kernel_rfl))
  f320 := Tryz.func107.trans (congrArg some (by kernel_rfl))
  f321 := Tryz.func95.trans (congrArg some (by kernel_rfl))
  f322 := Tryz.func96.trans (congrArg some (by kernel_rfl))
  f337 := Tryz.func108.trans (congrArg some (by kernel_rfl))
  f338 := Tryz.func109.trans (congrArg some (by kernel_rfl))
  t0 := Tryz.underlying0
  a0 := Tryz.isAgg0
  z0 := Tryz.sizeOf0
  v0 := Tryz.zeroValue0
  t2 := Tryz.underlying2
  a2 := Tryz.isAgg2
  z2 := Tryz.sizeOf2
  v2 := Tryz.zeroValue2
  t3 := Tryz.underlying3
  a3 := Tryz.isAgg3
  z3 := Tryz.sizeOf3
  v3 := Tryz.zeroValue3
  t4 := Tryz.underlying4
  a4 := Tryz.isAgg4
  z4 := Tryz.sizeOf4
  v4 := Tryz.zeroValue4
  t5 := Tryz.underlying5
  a5 := Tryz.isAgg5
  z5 := Tryz.sizeOf5
  v5 := Tryz.zeroValue5
  t9 := Tryz.underlying9
  a9 := Tryz.isAgg9
  z9 := Tryz.sizeOf9
  v9 := Tryz.zeroValue9
  t20 := Tryz.underlying20
  a20 := Tryz.isAgg20
  z20 := Tryz.sizeOf20
  v20 := Tryz.zeroValue20
  t21 := Tryz.underlying21
  a21 := Tryz.isAgg21
  z21 := Tryz.sizeOf21
  v21 := Tryz.zeroValue21
  t37 := Tryz.underlying47
  a37 := Tryz.isAgg47
  z37 := Tryz.sizeOf47
  v37 := Tryz.zeroValue47
  t46 := Tryz.underlying85
  a46 := Tryz.isAgg85
  z46 := Tryz.sizeOf85
  v46 := Tryz.zeroValue85
  t51 := Tryz.underlying117
  a51 := Tryz.isAgg117
  z51 := Tryz.sizeOf117
  v51 := Tryz.zeroValue117
  t53 := Tryz.underlying97
  a53 := Tryz.isAgg97
  z53 := Tryz.sizeOf97
  v53 := Tryz.zeroValue97
  t75 := Tryz.underlying69
  a75 := Tryz.isAgg69
  z75 := Tryz.sizeOf69
  v75 := Tryz.zeroValue69
  t76 := Tryz.underlying70
  a76 := Tryz.isAgg70
  z76 := Tryz.sizeOf70
  v76 := Tryz.zeroValue70
  t85 := Tryz.underlying104
  a85 := Tryz.isAgg104
  z85 := Tryz.sizeOf104
  v85 := Tryz.zeroValue104
  t127 := Tryz.underlying86
  a127 := Tryz.isAgg86
  z127 := Tryz.sizeOf86
  v127 := Tryz.zeroValue86
  t143 := Tryz.underlying121
  a143 := Tryz.isAgg121
  z143 := Tryz.sizeOf121
  v143 := Tryz.zeroValue121
  t145 := Tryz.underlying123
  a145 := Tryz.isAgg123
  z145 := Tryz.sizeOf123
  v145 := Tryz.zeroValue123
  t167 := Tryz.underlying103
  a167 := Tryz.isAgg103
  z167 := Tryz.sizeOf103
  v167 := Tryz.zeroValue103
  t168 := Tryz.underlying106
  a168 := Tryz.isAgg106
  z168 := Tryz.sizeOf106
  v168 := Tryz.zeroValue106
  t171 := Tryz.underlying125
  a171 := Tryz.isAgg125
  z171 := Tryz.sizeOf125
  v171 := Tryz.zeroValue125
  t173 := Tryz.underlying128
  a173 := Tryz.isAgg128
  z173 := Tryz.sizeOf128
  v173 := Tryz.zeroValue128
  t175 := Tryz.underlying111
  a175 := Tryz.isAgg111
  z175 := Tryz.sizeOf111
  v175 := Tryz.zeroValue111
  t210 := Tryz.underlying114
  a210 := Tryz.isAgg114
  z210 := Tryz.sizeOf114
  v210 := Tryz.zeroValue114
  t212 := Tryz.underlying131
  a212 := Tryz.isAgg131
  z212 := Tryz.sizeOf131
  v212 := Tryz.zeroValue131
  t213 := Tryz.underlying132
  a213 := Tryz.isAgg132
  z213 := Tryz.sizeOf132
  t232 := Tryz.underlying135
  a232 := Tryz.isAgg135
  z232 := Tryz.sizeOf135
  v232 := Tryz.zeroValue135
  t233 := Tryz.underlying136
  a233 := Tryz.isAgg136
  z233 := Tryz.sizeOf136
  v233 := Tryz.zeroValue136
  g15 := by kernel_rfl
  g16 := by kernel_rfl
  g17 := by kernel_rfl
  g18 := by kernel_rfl
  g19 := by kernel_rfl
  t80 := Tryz.underlying72
  a80 := Tryz.isAgg72
  z80 := Tryz.sizeOf72
  v80 := Tryz.zeroValue72
  i0 := by kernel_rfl
  i2 := by kernel_rfl
  i3 := by kernel_rfl
  i4 := by kernel_rfl
  i5 := by kernel_rfl
  i9 := by kernel_rfl
  i20 := by kernel_rfl
  i21 := by kernel_rfl
  i37 := by kernel_rfl
  i46 := by kernel_rfl
  i51 := by kernel_rfl
  i53 := by kernel_rfl
  i75 := by kernel_rfl
  i76 := by kernel_rfl
  i80 := by kernel_rfl
  i85 := by kernel_rfl
  i127 := by kernel_rfl
  i143 := by kernel_rfl
  i145 := by kernel_rfl
  i167 := by kernel_rfl
  i168 := by kernel_rfl
  i171 := by kernel_rfl
  i173 := by kernel_rfl
  i175 := by kernel_rfl
  i210 := by kernel_rfl
  i212 := by kernel_rfl
  i232 := by kernel_rfl
  i233 := by kernel_rfl
  m15 := by kernel_rfl
  m16 := by kernel_rfl
  m17 := by kernel_rfl
  m18 := by kernel_rfl
  m19 := by kernel_rfl
  c0 := by kernel_rfl
  c2 := by kernel_rfl
  c3 := by kernel_rfl
  c4 := by kernel_rfl
  c5 := by kernel_rfl
  c9 := by kernel_rfl
  c20 := by kernel_rfl
  c21 := by kernel_rfl
  c37 := by kernel_rfl
  c46 := by kernel_rfl
  c51 := by kernel_rfl
  c53 := by kernel_rfl
  c75 := by kernel_rfl
  c76 := by kernel_rfl
  c80 := by kernel_rfl
  c85 := by kernel_rfl
  c127 := by kernel_rfl
  c143 := by kernel_rfl
  c145 := by kernel_rfl
  c167 := by kernel_rfl
  c168 := by kernel_rfl
  c171 := by kernel_rfl
  c173 := by kernel_rfl
  c175 := by kernel_rfl
  c210 := by kernel_rfl
  c212 := by kernel_rfl
  c213 := by kernel_rfl
  c232 := by kernel_rfl
  c233 := by kernel_rfl

theorem Tryz.extra : Builder.Extra Tryz.prog Tryz.laysJoin_ren where
  sizeBuilder := by kernel_rfl
  liesBuilder := by kernel_rfl
  t5 := Tryz.underlying5
  a5 := Tryz.isAgg5
  z5 := Tryz.sizeOf5
  v5 := Tryz.zeroValue5
  infoByte := by kernel_rfl
  cellsByte := by kernel_rfl
  sizeByte := by kernel_rfl
  neB5 := by decide
theorem Tryz.boolRow : (Tryz.prog.info? (Tryz.laysTrim_ren.t 116)).map (fun i => (i.zero, i.size)) = some (some (.agg (Array.replicate 256 (.bool false))), 256) := by kernel_rfl
end Go.Proofs
namespace Lift.C2
open Go Go.RowKit Go.Proofs Lift Lift.Fn

theorem cell_same {w w' : World} {n : Nat} (h : ∀ k, k < n → w'.heap[k]? = w.heap[k]?) {b o : Nat} (hb : b < n) : w'.cell? ⟨b, o, none⟩ = w.cell? ⟨b, o, none⟩ := by
  unfold World.cell?
  rw [h b hb]

def isErr (v : Value) : Prop := v = .nilIface ∨ ∃ te pe, v = .iface te pe

/-- What the library's functions read of the package variables. -/
def globs (w : World) : Prop := Go.Lib.Utf8Tabs 0 1 w ∧ (∃ m, w.cell? ⟨2, 0, none⟩ = some (.int .i64 m)) ∧ (∃ a b, (w.cell? ⟨3, 0, none⟩ = some a ∧ isErr a) ∧ (w.cell? ⟨4, 0, none⟩ = some b ∧ isErr b)) ∧ True

theorem globs_stays (w w' : World) (h : globs w) (hs : ∀ k, k < 5 → w'.heap[k]? = w.heap[k]?) : globs w' := by
  refine ⟨?_, ?_, ?_, trivial⟩
  · obtain ⟨h1, h2⟩ := h.1
    refine ⟨fun c hc => ?_, fun i hi => ?_⟩
    · rw [cell_same hs (by omega)]; exact h1 c hc
    · rw [cell_same hs (by omega), cell_same hs (by omega)]; exact h2 i hi
  · obtain ⟨m, h3⟩ := h.2.1
    exact ⟨m, by rw [cell_same hs (by omega)]; exact h3⟩
  · obtain ⟨a, b, ⟨h4, h5⟩, h6, h7⟩ := h.2.2.1
    exact ⟨a, b, ⟨by rw [cell_same hs (by omega)]; exact h4, h5⟩, by rw [cell_same hs (by omega)]; exact h6, h7⟩

@[reducible] def env0 : Env := ⟨globs, 5, fun w w' h hs _ _ _ => globs_stays w w' h hs⟩

theorem known0 : Known kk env0 (modesOf ms0) := known_nil

theorem strings_Join_post : ∀ ls j rs, (strings_Join_md.sum ls).val = some (j, rs) → FnPost kk env0 19 strings_Join_md.sh strings_Join_md.outs ls j rs := by
  intro ls j rs h
  simp only [strings_Join_md] at h
  split at h
  · obtain ⟨r, hr, h⟩ := Tr.get_val h
    rw [strings_Join, sealF_eq, strings_Join_f, cond_eq_ite, Option.ite_none_right_eq_some, decide_eq_true_eq] at hr
    obtain ⟨hc, hr⟩ := hr
    cases hr
    cases h
    exact join_post (K := kk) (ρ := Tryz.laysJoin_ren) Tryz.laysJoin Tryz.extra _ _ hc.1 hc.2
  · cases h
theorem known1 : Known kk env0 (modesOf ms1) := known_cons (by kernel_rfl) strings_Join_post known0

theorem strings_Contains_post : ∀ ls j rs, (strings_Contains_md.sum ls).val = some (j, rs) → FnPost kk env0 51 strings_Contains_md.sh strings_Contains_md.outs ls j rs := by
  intro ls j rs h
  simp only [strings_Contains_md] at h
  split at h
  · obtain ⟨r, hr, h⟩ := Tr.get_val h
    rw [strings_Contains, sealF_eq, strings_Contains_f, cond_eq_ite, Option.ite_none_right_eq_some, decide_eq_true_eq] at hr
    obtain ⟨hc, hr⟩ := hr
    cases hr
    cases h
    exact contains_post (K := kk) (V := env0) (ρ := Tryz.laysContains_ren) ({ Tryz.laysContains with }) (fun w h => h.2.1) _ _ hc
  · cases h
theorem known2 : Known kk env0 (modesOf ms2) := known_cons (by kernel_rfl) strings_Contains_post known1

theorem unicode_utf8_DecodeRuneInString_post : ∀ ls j rs, (unicode_utf8_DecodeRuneInString_md.sum ls).val = some (j, rs) → FnPost kk env0 31 unicode_utf8_DecodeRuneInString_md.sh unicode_utf8_DecodeRuneInString_md.outs ls j rs := by
  intro ls j rs h
  simp only [unicode_utf8_DecodeRuneInString_md] at h
  split at h
  · obtain ⟨r, hr, h⟩ := Tr.get_val h
    rw [unicode_utf8_DecodeRuneInString, sealF_eq, unicode_utf8_DecodeRuneInString_f] at hr
    cases hr
    cases h
    exact decode_post (K := kk) (V := env0) (ρ := Tryz.laysDecode_ren) Tryz.laysDecode (fun w h => h.1) _
  · cases h
theorem known3 : Known kk env0 (modesOf ms3) := known_cons (by kernel_rfl) unicode_utf8_DecodeRuneInString_post known2

theorem unicode_utf8_RuneCountInString_post : ∀ ls j rs, (unicode_utf8_RuneCountInString_md.sum ls).val = some (j, rs) → FnPost kk env0 39 unicode_utf8_RuneCountInString_md.sh unicode_utf8_RuneCountInString_md.outs ls j rs := by
  intro ls j rs h
  simp only [unicode_utf8_RuneCountInString_md] at h
  split at h
  · obtain ⟨r, hr, h⟩ := Tr.get_val h
    rw [unicode_utf8_RuneCountInString, sealF_eq, unicode_utf8_RuneCountInString_f, cond_eq_ite, Option.ite_none_right_eq_some, decide_eq_true_eq] at hr
    obtain ⟨hc, hr⟩ := hr
    cases hr
    cases h
    exact runeCount_post (K := kk) (V := env0) (ρ := Tryz.laysCount_ren) Tryz.laysCount _ hc
  · cases h
theorem known4 : Known kk env0 (modesOf ms4) := known_cons (by kernel_rfl) unicode_utf8_RuneCountInString_post known3

theorem unicode_utf8_ValidString_post : ∀ ls j rs, (unicode_utf8_ValidString_md.sum ls).val = some (j, rs) → FnPost kk env0 40 unicode_utf8_ValidString_md.sh unicode_utf8_ValidString_md.outs ls j rs := by
  intro ls j rs h
  simp only [unicode_utf8_ValidString_md] at h
  split at h
  · obtain ⟨r, hr, h⟩ := Tr.get_val h
    rw [unicode_utf8_ValidString, sealF_eq, unicode_utf8_ValidString_f, cond_eq_ite, Option.ite_none_right_eq_some, decide_eq_true_eq] at hr
    obtain ⟨hc, hr⟩ := hr
    cases hr
    cases h
    exact validString_post (K := kk) (V := env0) (ρ := Tryz.laysValid_ren) Tryz.laysValid (fun w h => h.1) _ hc
  · cases h
theorem known5 : Known kk env0 (modesOf ms5) := known_cons (by kernel_rfl) unicode_utf8_ValidString_post known4

theorem strings_Trim_post : ∀ ls j rs, (strings_Trim_md.sum ls).val = some (j, rs) → FnPost kk env0 52 strings_Trim_md.sh strings_Trim_md.outs ls j rs := by
  intro ls j rs h
  simp only [strings_Trim_md] at h
  split at h
  · obtain ⟨r, hr, h⟩ := Tr.get_val h
    rw [strings_Trim, sealF_eq, strings_Trim_f, cond_eq_ite, Option.ite_none_right_eq_some, Bool.and_eq_true, decide_eq_true_eq] at hr
    obtain ⟨⟨hc, hd⟩, hr⟩ := hr
    cases hr
    cases h
    exact trim_post (K := kk) (V := env0) (ρ := Tryz.laysTrim_ren) Tryz.laysTrim Tryz.boolRow _ _ hc.1 hc.2 hd
  · cases h
theorem known6 : Known kk env0 (modesOf ms6) := known_cons (by kernel_rfl) strings_Trim_post known5

theorem strconv_Atoi_post : ∀ ls j rs, (strconv_Atoi_md.sum ls).val = some (j, rs) → FnPost kk env0 53 strconv_Atoi_md.sh strconv_Atoi_md.outs ls j rs := by
  intro ls j rs h
  simp only [strconv_Atoi_md] at h
  split at h
  · obtain ⟨r, hr, h⟩ := Tr.get_val h
    rw [strconv_Atoi, sealF_eq, strconv_Atoi_f, cond_eq_ite, Option.ite_none_right_eq_some, decide_eq_true_eq] at hr
    obtain ⟨hc, hr⟩ := hr
    cases hr
    cases h
    exact atoi_post (K := kk) (V := env0) (ρ := Tryz.laysAtoi_ren) Tryz.laysAtoi (fun w h => h.2.2.1) _ hc
  · cases h
theorem known7 : Known kk env0 (modesOf ms7) := known_cons (by kernel_rfl) strconv_Atoi_post known6

end Lift.C2

namespace Lift.Fn
open Go Lift

noncomputable def unicode_utf8_RuneLen_f (a0 : Int) : Option (Int) :=
    bif decide (a0 < (0 : Int)) then
      some ((-1 : Int))
    else
      bif decide (a0 ≤ (127 : Int)) then
        some ((1 : Int))
      else
        bif decide (a0 ≤ (2047 : Int)) then
          some ((2 : Int))
        else
          bif decide ((55296 : Int) ≤ a0) then
            bif decide (a0 ≤ (57343 : Int)) then
              some ((-1 : Int))
            else
              bif decide (a0 ≤ (65535 : Int)) then
                some ((3 : Int))
              else
                bif decide (a0 ≤ (1114111 : Int)) then
                  some ((4 : Int))
                else
                  some ((-1 : Int))
          else
            bif decide (a0 ≤ (65535 : Int)) then
              some ((3 : Int))
            else
              bif decide (a0 ≤ (1114111 : Int)) then
                some ((4 : Int))
              else
                some ((-1 : Int))

noncomputable def unicode_utf8_RuneLen : Int → Option (Int) := sealF unicode_utf8_RuneLen_f

noncomputable def scan_gone_t4 (rec : List UInt8 → Int → Int → Int → Int → Int → Int → Int → Int → List UInt8 → Nat → List (Spot) → Option ((Int × Int × Int × Int × (List (Spot))) ⊕ (Int × Int × Int × Int × Int × Int × Int × Int × (List (Spot))))) (a0 : List UInt8) (a1 : Int) (a2 : Int) (a3 : Int) (a4 : Int) (a5 : Int) (a6 : Int) (a7 : Int) (a8 : Int) (a9 : List UInt8) (a10 : Nat) (a11 : List (Spot)) : Option ((Int × Int × Int × Int × (List (Spot))) ⊕ (Int × Int × Int × Int × Int × Int × Int × Int × (List (Spot)))) :=
    bif decide (a10 < List.length a9) then
      bif (↑(Prod.fst (Utf8.decode (ByteArray.mk (List.toArray a9)) a10)) : Int) == (65533 : Int) then
        bif decide ((0 : Int) ≤ (↑a10 : Int)) && (decide ((↑a10 : Int) ≤ if IntKind.wrap IntKind.i64 ((↑a10 : Int) + (3 : Int)) < (↑(List.length a0) : Int) then IntKind.wrap IntKind.i64 ((↑a10 : Int) + (3 : Int)) else (↑(List.length a0) : Int)) && decide ((if IntKind.wrap IntKind.i64 ((↑a10 : Int) + (3 : Int)) < (↑(List.length a0) : Int) then IntKind.wrap IntKind.i64 ((↑a10 : Int) + (3 : Int)) else (↑(List.length a0) : Int)) ≤ (↑(List.length a0) : Int))) then
          bif !List.drop (Int.toNat (↑a10 : Int)) (List.take (Int.toNat (if IntKind.wrap IntKind.i64 ((↑a10 : Int) + (3 : Int)) < (↑(List.length a0) : Int) then IntKind.wrap IntKind.i64 ((↑a10 : Int) + (3 : Int)) else (↑(List.length a0) : Int))) a0) == [(239 : UInt8), (191 : UInt8), (189 : UInt8)] then
            some (.inl ((a5), (a6), (a7), (a8), (a11)))
          else
            bif decide ((List.length a11 + List.length [Spot.mk (IntKind.wrap IntKind.i64 (↑(Prod.fst (Utf8.decode (ByteArray.mk (List.toArray a9)) a10)) : Int)) a6 a7 a8]) * (32 : Nat) ≤ (140737488355328 : Nat) ∧ List.length a11 + List.length [Spot.mk (IntKind.wrap IntKind.i64 (↑(Prod.fst (Utf8.decode (ByteArray.mk (List.toArray a9)) a10)) : Int)) a6 a7 a8] ≤ (9223372036854775807 : Nat)) then
              Option.bind (unicode_utf8_RuneLen (↑(Prod.fst (Utf8.decode (ByteArray.mk (List.toArray a9)) a10)) : Int)) fun y0 =>
              bif (↑(Prod.fst (Utf8.decode (ByteArray.mk (List.toArray a9)) a10)) : Int) == (10 : Int) then
                rec (a0) (a1) (a2) (a3) (a4) ((-1 : Int)) (IntKind.wrap IntKind.i64 (a6 + y0)) (IntKind.wrap IntKind.i64 (a7 + (1 : Int))) ((1 : Int)) (a9) (a10 + Prod.snd (Utf8.decode (ByteArray.mk (List.toArray a9)) a10)) (a11 ++ [Spot.mk (IntKind.wrap IntKind.i64 (↑(Prod.fst (Utf8.decode (ByteArray.mk (List.toArray a9)) a10)) : Int)) a6 a7 a8])
              else
                rec (a0) (a1) (a2) (a3) (a4) ((-1 : Int)) (IntKind.wrap IntKind.i64 (a6 + y0)) (a7) (IntKind.wrap IntKind.i64 (a8 + (1 : Int))) (a9) (a10 + Prod.snd (Utf8.decode (ByteArray.mk (List.toArray a9)) a10)) (a11 ++ [Spot.mk (IntKind.wrap IntKind.i64 (↑(Prod.fst (Utf8.decode (ByteArray.mk (List.toArray a9)) a10)) : Int)) a6 a7 a8])
            else
              none
        else
          none
      else
        bif decide ((List.length a11 + List.length [Spot.mk (IntKind.wrap IntKind.i64 (↑(Prod.fst (Utf8.decode (ByteArray.mk (List.toArray a9)) a10)) : Int)) a6 a7 a8]) * (32 : Nat) ≤ (140737488355328 : Nat) ∧ List.length a11 + List.length [Spot.mk (IntKind.wrap IntKind.i64 (↑(Prod.fst (Utf8.decode (ByteArray.mk (List.toArray a9)) a10)) : Int)) a6 a7 a8] ≤ (9223372036854775807 : Nat)) then
          Option.bind (unicode_utf8_RuneLen (↑(Prod.fst (Utf8.decode (ByteArray.mk (List.toArray a9)) a10)) : Int)) fun y1 =>
          bif (↑(Prod.fst (Utf8.decode (ByteArray.mk (List.toArray a9)) a10)) : Int) == (10 : Int) then
            rec (a0) (a1) (a2) (a3) (a4) ((-1 : Int)) (IntKind.wrap IntKind.i64 (a6 + y1)) (IntKind.wrap IntKind.i64 (a7 + (1 : Int))) ((1 : Int)) (a9) (a10 + Prod.snd (Utf8.decode (ByteArray.mk (List.toArray a9)) a10)) (a11 ++ [Spot.mk (IntKind.wrap IntKind.i64 (↑(Prod.fst (Utf8.decode (ByteArray.mk (List.toArray a9)) a10)) : Int)) a6 a7 a8])
          else
            rec (a0) (a1) (a2) (a3) (a4) ((-1 : Int)) (IntKind.wrap IntKind.i64 (a6 + y1)) (a7) (IntKind.wrap IntKind.i64 (a8 + (1 : Int))) (a9) (a10 + Prod.snd (Utf8.decode (ByteArray.mk (List.toArray a9)) a10)) (a11 ++ [Spot.mk (IntKind.wrap IntKind.i64 (↑(Prod.fst (Utf8.decode (ByteArray.mk (List.toArray a9)) a10)) : Int)) a6 a7 a8])
        else
          none
    else
      some (.inr ((a1), (a2), (a3), (a4), (a5), (a6), (a7), (a8), (a11)))

noncomputable def scan_gone_i4 : Nat → List UInt8 → Int → Int → Int → Int → Int → Int → Int → Int → List UInt8 → Nat → List (Spot) → Option ((Int × Int × Int × Int × (List (Spot))) ⊕ (Int × Int × Int × Int × Int × Int × Int × Int × (List (Spot))))
  | 0, _, _, _, _, _, _, _, _, _, _, _, _ => none
  | n + 1, a0, a1, a2, a3, a4, a5, a6, a7, a8, a9, a10, a11 => scan_gone_t4 (scan_gone_i4 n) a0 a1 a2 a3 a4 a5 a6 a7 a8 a9 a10 a11

noncomputable def scan_gone_l4 : List UInt8 → Int → Int → Int → Int → Int → Int → Int → Int → List UInt8 → Nat → List (Spot) → Option ((Int × Int × Int × Int × (List (Spot))) ⊕ (Int × Int × Int × Int × Int × Int × Int × Int × (List (Spot)))) := sealF (scan_gone_i4 fuel)

noncomputable def scan_gone_f (a0 : List UInt8) : Option (Spot × (List (Spot))) :=
    Option.bind (scan_gone_l4 a0 (0 : Int) (0 : Int) (0 : Int) (0 : Int) (-1 : Int) (0 : Int) (1 : Int) (1 : Int) a0 (0 : Nat) []) fun y0 =>
    match y0 with
    | .inl y1 =>
      some ((Spot.mk (Prod.fst y1) (Prod.fst (Prod.snd y1)) (Prod.fst (Prod.snd (Prod.snd y1))) (Prod.fst (Prod.snd (Prod.snd (Prod.snd y1))))), (Prod.snd (Prod.snd (Prod.snd (Prod.snd y1)))))
    | .inr y1 =>
      some ((Spot.mk (Prod.fst (Prod.snd (Prod.snd (Prod.snd (Prod.snd y1))))) (Prod.fst (Prod.snd (Prod.snd (Prod.snd (Prod.snd (Prod.snd y1)))))) (Prod.fst (Prod.snd (Prod.snd (Prod.snd (Prod.snd (Prod.snd (Prod.snd y1))))))) (Prod.fst (Prod.snd (Prod.snd (Prod.snd (Prod.snd (Prod.snd (Prod.snd (Prod.snd y1))))))))), (Prod.snd (Prod.snd (Prod.snd (Prod.snd (Prod.snd (Prod.snd (Prod.snd (Prod.snd y1)))))))))

noncomputable def scan_gone : List UInt8 → Option (Spot × (List (Spot))) := sealF scan_gone_f

noncomputable def scan_Runes_f (a0 : List UInt8) : Option (Fault × (List (Spot))) :=
    bif decide ((↑(List.length a0) : Int) > (4000 : Int)) then
      some ((Fault.mk (10 : Int) (4000 : Int) []), ([]))
    else
      Option.bind (scan_gone a0) fun y0 =>
      bif decide (Spot.at_ (Prod.fst y0) < (↑(List.length a0) : Int)) then
        some ((Fault.mk (11 : Int) (Spot.at_ (Prod.fst y0)) []), ([]))
      else
        some ((Fault.mk (0 : Int) (0 : Int) []), (Prod.snd y0))

noncomputable def scan_Runes : List UInt8 → Option (Fault × (List (Spot))) := sealF scan_Runes_f

noncomputable def scan_Blank_f (a0 : Int) : Option (Bool) :=
    bif a0 == (9 : Int) then
      some (true)
    else
      bif a0 == (10 : Int) then
        some (true)
      else
        bif a0 == (13 : Int) then
          some (true)
        else
          some (a0 == (32 : Int))

noncomputable def scan_Blank : Int → Option (Bool) := sealF scan_Blank_f

noncomputable def lex_passed_t3 (rec : List UInt8 → Bool → List UInt8 → Nat → Option ((Int) ⊕ ((List UInt8)))) (a0 : List UInt8) (a1 : Bool) (a2 : List UInt8) (a3 : Nat) : Option ((Int) ⊕ ((List UInt8))) :=
    bif decide (a3 < List.length a2) then
      bif a1 then
        rec (a0) ((↑(Prod.fst (Utf8.decode (ByteArray.mk (List.toArray a2)) a3)) : Int) != (10 : Int)) (a2) (a3 + Prod.snd (Utf8.decode (ByteArray.mk (List.toArray a2)) a3))
      else
        bif (↑(Prod.fst (Utf8.decode (ByteArray.mk (List.toArray a2)) a3)) : Int) == (35 : Int) then
          rec (a0) (true) (a2) (a3 + Prod.snd (Utf8.decode (ByteArray.mk (List.toArray a2)) a3))
        else
          Option.bind (scan_Blank (IntKind.wrap IntKind.i64 (↑(Prod.fst (Utf8.decode (ByteArray.mk (List.toArray a2)) a3)) : Int))) fun y0 =>
          bif !y0 then
            some (.inl ((↑a3 : Int)))
          else
            rec (a0) (a1) (a2) (a3 + Prod.snd (Utf8.decode (ByteArray.mk (List.toArray a2)) a3))
    else
      some (.inr (a0))

noncomputable def lex_passed_i3 : Nat → List UInt8 → Bool → List UInt8 → Nat → Option ((Int) ⊕ ((List UInt8)))
  | 0, _, _, _, _ => none
  | n + 1, a0, a1, a2, a3 => lex_passed_t3 (lex_passed_i3 n) a0 a1 a2 a3

noncomputable def lex_passed_l3 : List UInt8 → Bool → List UInt8 → Nat → Option ((Int) ⊕ ((List UInt8))) := sealF (lex_passed_i3 fuel)

noncomputable def lex_passed_f (a0 : List UInt8) : Option (Int) :=
    Option.bind (lex_passed_l3 a0 false a0 (0 : Nat)) fun y0 =>
    match y0 with
    | .inl y1 =>
      some (y1)
    | .inr y1 =>
      some ((↑(List.length y1) : Int))

noncomputable def lex_passed : List UInt8 → Option (Int) := sealF lex_passed_f

noncomputable def unicode_utf8_ValidRune_f (a0 : Int) : Option (Bool) :=
    bif decide ((0 : Int) ≤ a0) then
      bif decide (a0 < (55296 : Int)) then
        some (true)
      else
        bif decide ((57343 : Int) < a0) then
          bif decide (a0 ≤ (1114111 : Int)) then
            some (true)
          else
            some (false)
        else
          some (false)
    else
      bif decide ((57343 : Int) < a0) then
        bif decide (a0 ≤ (1114111 : Int)) then
          some (true)
        else
          some (false)
      else
        some (false)

noncomputable def unicode_utf8_ValidRune : Int → Option (Bool) := sealF unicode_utf8_ValidRune_f

noncomputable def scan_whole_f (a0 : Int) : Option (Bool) :=
    bif decide (a0 ≥ (0 : Int)) then
      bif decide (a0 ≤ (1114111 : Int)) then
        Option.bind (unicode_utf8_ValidRune (IntKind.wrap IntKind.i32 a0)) fun y0 =>
        some (y0)
      else
        some (false)
    else
      some (false)

noncomputable def scan_whole : Int → Option (Bool) := sealF scan_whole_f

noncomputable def scan_Letter_f (a0 : Int) : Option (Bool) :=
    bif decide (a0 ≥ (97 : Int)) then
      bif decide (a0 ≤ (122 : Int)) then
        bif decide (a0 ≤ (122 : Int)) then
          some (true)
        else
          bif decide (a0 ≥ (192 : Int)) then
            Option.bind (scan_whole a0) fun y0 =>
            some (y0)
          else
            some (false)
      else
        bif decide (a0 ≥ (65 : Int)) then
          bif decide (a0 ≤ (90 : Int)) then
            bif decide (a0 ≤ (90 : Int)) then
              some (true)
            else
              bif decide (a0 ≥ (192 : Int)) then
                Option.bind (scan_whole a0) fun y1 =>
                some (y1)
              else
                some (false)
          else
            bif a0 == (95 : Int) then
              some (true)
            else
              bif decide (a0 ≥ (192 : Int)) then
                Option.bind (scan_whole a0) fun y2 =>
                some (y2)
              else
                some (false)
        else
          bif a0 == (95 : Int) then
            some (true)
          else
            bif decide (a0 ≥ (192 : Int)) then
              Option.bind (scan_whole a0) fun y3 =>
              some (y3)
            else
              some (false)
    else
      bif decide (a0 ≥ (65 : Int)) then
        bif decide (a0 ≤ (90 : Int)) then
          bif decide (a0 ≤ (90 : Int)) then
            some (true)
          else
            bif decide (a0 ≥ (192 : Int)) then
              Option.bind (scan_whole a0) fun y4 =>
              some (y4)
            else
              some (false)
        else
          bif a0 == (95 : Int) then
            some (true)
          else
            bif decide (a0 ≥ (192 : Int)) then
              Option.bind (scan_whole a0) fun y5 =>
              some (y5)
            else
              some (false)
      else
        bif a0 == (95 : Int) then
          some (true)
        else
          bif decide (a0 ≥ (192 : Int)) then
            Option.bind (scan_whole a0) fun y6 =>
            some (y6)
          else
            some (false)

noncomputable def scan_Letter : Int → Option (Bool) := sealF scan_Letter_f

noncomputable def scan_Digit_f (a0 : Int) : Option (Bool) :=
    bif decide (a0 ≥ (48 : Int)) then
      some (decide (a0 ≤ (57 : Int)))
    else
      some (false)

noncomputable def scan_Digit : Int → Option (Bool) := sealF scan_Digit_f

noncomputable def lex_goes_f (a0 : Int) : Option (Bool) :=
    Option.bind (scan_Letter (IntKind.wrap IntKind.i64 a0)) fun y0 =>
    bif y0 then
      some (true)
    else
      Option.bind (scan_Digit (IntKind.wrap IntKind.i64 a0)) fun y1 =>
      some (y1)

noncomputable def lex_goes : Int → Option (Bool) := sealF lex_goes_f

noncomputable def slices_Index_string_string_t2 (rec : List (List UInt8) → List UInt8 → Int → Int → Option ((Int) ⊕ (Unit))) (a0 : List (List UInt8)) (a1 : List UInt8) (a2 : Int) (a3 : Int) : Option ((Int) ⊕ (Unit)) :=
    bif decide (a3 < a2) then
      bif decide ((0 : Int) ≤ a3) then
        Option.bind (a0[Int.toNat a3]?) fun y0 =>
        bif a1 == y0 then
          some (.inl (a3))
        else
          rec (a0) (a1) (a2) (IntKind.wrap IntKind.i64 (a3 + (1 : Int)))
      else
        none
    else
      some (.inr ())

noncomputable def slices_Index_string_string_i2 : Nat → List (List UInt8) → List UInt8 → Int → Int → Option ((Int) ⊕ (Unit))
  | 0, _, _, _, _ => none
  | n + 1, a0, a1, a2, a3 => slices_Index_string_string_t2 (slices_Index_string_string_i2 n) a0 a1 a2 a3

noncomputable def slices_Index_string_string_l2 : List (List UInt8) → List UInt8 → Int → Int → Option ((Int) ⊕ (Unit)) := sealF (slices_Index_string_string_i2 fuel)

noncomputable def slices_Index_string_string_f (a0 : List (List UInt8)) (a1 : List UInt8) : Option (Int) :=
    Option.bind (slices_Index_string_string_l2 a0 a1 (↑(List.length a0) : Int) (0 : Int)) fun y0 =>
    match y0 with
    | .inl y1 =>
      some (y1)
    | .inr y1 =>
      some ((-1 : Int))

noncomputable def slices_Index_string_string : List (List UInt8) → List UInt8 → Option (Int) := sealF slices_Index_string_string_f

noncomputable def slices_Contains_string_string_f (a0 : List (List UInt8)) (a1 : List UInt8) : Option (Bool) :=
    Option.bind (slices_Index_string_string a0 a1) fun y0 =>
    some (decide (y0 ≥ (0 : Int)))

noncomputable def slices_Contains_string_string : List (List UInt8) → List UInt8 → Option (Bool) := sealF slices_Contains_string_string_f

noncomputable def lex_sign_f (a0 : List UInt8) : Option ((List UInt8)) :=
    bif decide ((↑(List.length a0) : Int) > (1 : Int)) then
      bif decide ((0 : Int) ≤ (0 : Int)) && (decide ((0 : Int) ≤ (2 : Int)) && decide ((2 : Int) ≤ (↑(List.length a0) : Int))) then
        Option.bind (slices_Contains_string_string [[(58 : UInt8), (61 : UInt8)], [(60 : UInt8), (45 : UInt8)], [(61 : UInt8), (61 : UInt8)], [(33 : UInt8), (61 : UInt8)], [(60 : UInt8), (61 : UInt8)], [(62 : UInt8), (61 : UInt8)], [(38 : UInt8), (38 : UInt8)], [(124 : UInt8), (124 : UInt8)]] (List.drop (0 : Nat) (List.take (2 : Nat) a0))) fun y0 =>
        bif y0 then
          bif decide ((0 : Int) ≤ (0 : Int)) && (decide ((0 : Int) ≤ (2 : Int)) && decide ((2 : Int) ≤ (↑(List.length a0) : Int))) then
            some (List.drop (0 : Nat) (List.take (2 : Nat) a0))
          else
            none
        else
          bif decide ((0 : Int) ≤ (0 : Int)) && (decide ((0 : Int) ≤ (1 : Int)) && decide ((1 : Int) ≤ (↑(List.length a0) : Int))) then
            Option.bind (strings_Contains [(61 : UInt8), (60 : UInt8), (62 : UInt8), (33 : UInt8), (43 : UInt8), (45 : UInt8), (42 : UInt8), (47 : UInt8), (37 : UInt8), (59 : UInt8), (123 : UInt8), (125 : UInt8), (40 : UInt8), (41 : UInt8)] (List.drop (0 : Nat) (List.take (1 : Nat) a0))) fun y1 =>
            bif y1 then
              bif decide ((0 : Int) ≤ (0 : Int)) && (decide ((0 : Int) ≤ (1 : Int)) && decide ((1 : Int) ≤ (↑(List.length a0) : Int))) then
                some (List.drop (0 : Nat) (List.take (1 : Nat) a0))
              else
                none
            else
              some ([])
          else
            none
      else
        none
    else
      bif decide ((0 : Int) ≤ (0 : Int)) && (decide ((0 : Int) ≤ (1 : Int)) && decide ((1 : Int) ≤ (↑(List.length a0) : Int))) then
        Option.bind (strings_Contains [(61 : UInt8), (60 : UInt8), (62 : UInt8), (33 : UInt8), (43 : UInt8), (45 : UInt8), (42 : UInt8), (47 : UInt8), (37 : UInt8), (59 : UInt8), (123 : UInt8), (125 : UInt8), (40 : UInt8), (41 : UInt8)] (List.drop (0 : Nat) (List.take (1 : Nat) a0))) fun y2 =>
        bif y2 then
          bif decide ((0 : Int) ≤ (0 : Int)) && (decide ((0 : Int) ≤ (1 : Int)) && decide ((1 : Int) ≤ (↑(List.length a0) : Int))) then
            some (List.drop (0 : Nat) (List.take (1 : Nat) a0))
          else
            none
        else
          some ([])
      else
        none

noncomputable def lex_sign : List UInt8 → Option ((List UInt8)) := sealF lex_sign_f

noncomputable def lex_word_t2 (rec : List UInt8 → List UInt8 → Nat → Option (((List UInt8)) ⊕ ((List UInt8)))) (a0 : List UInt8) (a1 : List UInt8) (a2 : Nat) : Option (((List UInt8)) ⊕ ((List UInt8))) :=
    bif decide (a2 < List.length a1) then
      Option.bind (lex_goes (↑(Prod.fst (Utf8.decode (ByteArray.mk (List.toArray a1)) a2)) : Int)) fun y0 =>
      bif !y0 then
        bif decide ((0 : Int) ≤ (0 : Int)) && (decide ((0 : Int) ≤ (↑a2 : Int)) && decide ((↑a2 : Int) ≤ (↑(List.length a0) : Int))) then
          some (.inl (List.drop (0 : Nat) (List.take (Int.toNat (↑a2 : Int)) a0)))
        else
          none
      else
        rec (a0) (a1) (a2 + Prod.snd (Utf8.decode (ByteArray.mk (List.toArray a1)) a2))
    else
      some (.inr (a0))

noncomputable def lex_word_i2 : Nat → List UInt8 → List UInt8 → Nat → Option (((List UInt8)) ⊕ ((List UInt8)))
  | 0, _, _, _ => none
  | n + 1, a0, a1, a2 => lex_word_t2 (lex_word_i2 n) a0 a1 a2

noncomputable def lex_word_l2 : List UInt8 → List UInt8 → Nat → Option (((List UInt8)) ⊕ ((List UInt8))) := sealF (lex_word_i2 fuel)

noncomputable def lex_word_f (a0 : List UInt8) : Option ((List UInt8)) :=
    Option.bind (lex_word_l2 a0 a0 (0 : Nat)) fun y0 =>
    match y0 with
    | .inl y1 =>
      some (y1)
    | .inr y1 =>
      some (y1)

noncomputable def lex_word : List UInt8 → Option ((List UInt8)) := sealF lex_word_f

noncomputable def lex_number_f (a0 : List UInt8) : Option (Int × Bool) :=
    bif decide ((↑(List.length a0) : Int) > (1 : Int)) then
      Option.bind (a0[(0 : Nat)]?) fun y0 =>
      bif (↑(UInt8.toNat y0) : Int) == (48 : Int) then
        some (((0 : Int)), (false))
      else
        Option.bind (strings_Trim a0 [(48 : UInt8), (49 : UInt8), (50 : UInt8), (51 : UInt8), (52 : UInt8), (53 : UInt8), (54 : UInt8), (55 : UInt8), (56 : UInt8), (57 : UInt8)]) fun y1 =>
        bif !y1 == [] then
          some (((0 : Int)), (false))
        else
          Option.bind (strconv_Atoi a0) fun y2 =>
          bif !Prod.snd y2 then
            some ((Prod.fst y2), (decide (Prod.fst y2 ≤ (2147483647 : Int))))
          else
            some ((Prod.fst y2), (false))
    else
      Option.bind (strings_Trim a0 [(48 : UInt8), (49 : UInt8), (50 : UInt8), (51 : UInt8), (52 : UInt8), (53 : UInt8), (54 : UInt8), (55 : UInt8), (56 : UInt8), (57 : UInt8)]) fun y3 =>
      bif !y3 == [] then
        some (((0 : Int)), (false))
      else
        Option.bind (strconv_Atoi a0) fun y4 =>
        bif !Prod.snd y4 then
          some ((Prod.fst y4), (decide (Prod.fst y4 ≤ (2147483647 : Int))))
        else
          some ((Prod.fst y4), (false))

noncomputable def lex_number : List UInt8 → Option (Int × Bool) := sealF lex_number_f

noncomputable def lex_Words_f : Option ((List (List UInt8))) :=
    some ([[(97 : UInt8), (100 : UInt8), (100 : UInt8)], [(97 : UInt8), (115 : UInt8), (115 : UInt8), (101 : UInt8), (114 : UInt8), (116 : UInt8)], [(99 : UInt8), (101 : UInt8), (108 : UInt8), (108 : UInt8)], [(101 : UInt8), (108 : UInt8), (115 : UInt8), (101 : UInt8)], [(105 : UInt8), (102 : UInt8)], [(106 : UInt8), (111 : UInt8), (105 : UInt8), (110 : UInt8)], [(108 : UInt8), (111 : UInt8), (99 : UInt8), (107 : UInt8)], [(109 : UInt8), (117 : UInt8), (116 : UInt8), (101 : UInt8), (120 : UInt8)], [(114 : UInt8), (101 : UInt8), (112 : UInt8), (101 : UInt8), (97 : UInt8), (116 : UInt8)], [(115 : UInt8), (116 : UInt8), (97 : UInt8), (114 : UInt8), (116 : UInt8)], [(116 : UInt8), (104 : UInt8), (114 : UInt8), (101 : UInt8), (97 : UInt8), (100 : UInt8)], [(117 : UInt8), (110 : UInt8), (108 : UInt8), (111 : UInt8), (99 : UInt8), (107 : UInt8)]])

noncomputable def lex_Words : Option ((List (List UInt8))) := sealF lex_Words_f

noncomputable def lex_token_f (a0 : List UInt8) : Option (Token × Int) :=
    Option.bind (unicode_utf8_DecodeRuneInString a0) fun y0 =>
    Option.bind (lex_goes (Prod.fst y0)) fun y1 =>
    bif !y1 then
      Option.bind (lex_sign a0) fun y2 =>
      bif y2 == [] then
        some ((Token.mk (0 : Int) [] (0 : Int) (0 : Int)), ((20 : Int)))
      else
        some ((Token.mk (3 : Int) y2 (0 : Int) (0 : Int)), ((0 : Int)))
    else
      Option.bind (lex_word a0) fun y3 =>
      Option.bind (scan_Digit (IntKind.wrap IntKind.i64 (Prod.fst y0))) fun y4 =>
      bif y4 then
        Option.bind (lex_number y3) fun y5 =>
        bif !Prod.snd y5 then
          some ((Token.mk (1 : Int) y3 (0 : Int) (0 : Int)), ((22 : Int)))
        else
          some ((Token.mk (2 : Int) y3 (Prod.fst y5) (0 : Int)), ((0 : Int)))
      else
        Option.bind (lex_Words) fun y6 =>
        Option.bind (slices_Contains_string_string y6 y3) fun y7 =>
        bif y7 then
          some ((Token.mk (4 : Int) y3 (0 : Int) (0 : Int)), ((0 : Int)))
        else
          Option.bind (unicode_utf8_RuneCountInString y3) fun y8 =>
          bif decide (y8 > (16 : Int)) then
            some ((Token.mk (1 : Int) y3 (0 : Int) (0 : Int)), ((21 : Int)))
          else
            some ((Token.mk (1 : Int) y3 (0 : Int) (0 : Int)), ((0 : Int)))

noncomputable def lex_token : List UInt8 → Option (Token × Int) := sealF lex_token_f

noncomputable def lex_Tokens_t6 (rec : List UInt8 → Int → Int → Int → List UInt8 → List (Token) → Option ((Int × Int × (List UInt8)) ⊕ ((List UInt8) × Int × Int × (List UInt8) × (List (Token))))) (a0 : List UInt8) (a1 : Int) (a2 : Int) (a3 : Int) (a4 : List UInt8) (a5 : List (Token)) : Option ((Int × Int × (List UInt8)) ⊕ ((List UInt8) × Int × Int × (List UInt8) × (List (Token)))) :=
    bif decide (a1 < (↑(List.length a0) : Int)) then
      bif decide ((0 : Int) ≤ a1) && (decide (a1 ≤ (↑(List.length a0) : Int)) && decide ((↑(List.length a0) : Int) ≤ (↑(List.length a0) : Int))) then
        Option.bind (lex_token (List.drop (Int.toNat a1) (List.take (Int.toNat (↑(List.length a0) : Int)) a0))) fun y0 =>
        bif Prod.snd y0 != (0 : Int) then
          some (.inl ((Prod.snd y0), (a1), ([])))
        else
          bif decide ((List.length a5 + List.length [Token.mk (Token.kind (Prod.fst y0)) (Token.text (Prod.fst y0)) (Token.num (Prod.fst y0)) a1]) * (40 : Nat) ≤ (140737488355328 : Nat) ∧ List.length a5 + List.length [Token.mk (Token.kind (Prod.fst y0)) (Token.text (Prod.fst y0)) (Token.num (Prod.fst y0)) a1] ≤ (9223372036854775807 : Nat)) then
            bif decide ((0 : Int) ≤ IntKind.wrap IntKind.i64 (a1 + (↑(List.length (Token.text (Prod.fst y0))) : Int))) && (decide (IntKind.wrap IntKind.i64 (a1 + (↑(List.length (Token.text (Prod.fst y0))) : Int)) ≤ (↑(List.length a0) : Int)) && decide ((↑(List.length a0) : Int) ≤ (↑(List.length a0) : Int))) then
              Option.bind (lex_passed (List.drop (Int.toNat (IntKind.wrap IntKind.i64 (a1 + (↑(List.length (Token.text (Prod.fst y0))) : Int)))) (List.take (Int.toNat (↑(List.length a0) : Int)) a0))) fun y1 =>
              rec (a0) (IntKind.wrap IntKind.i64 (IntKind.wrap IntKind.i64 (a1 + (↑(List.length (Token.text (Prod.fst y0))) : Int)) + y1)) (a2) (a3) (a4) (a5 ++ [Token.mk (Token.kind (Prod.fst y0)) (Token.text (Prod.fst y0)) (Token.num (Prod.fst y0)) a1])
            else
              none
          else
            none
      else
        none
    else
      some (.inr ((a0), (a2), (a3), (a4), (a5)))

noncomputable def lex_Tokens_i6 : Nat → List UInt8 → Int → Int → Int → List UInt8 → List (Token) → Option ((Int × Int × (List UInt8)) ⊕ ((List UInt8) × Int × Int × (List UInt8) × (List (Token))))
  | 0, _, _, _, _, _, _ => none
  | n + 1, a0, a1, a2, a3, a4, a5 => lex_Tokens_t6 (lex_Tokens_i6 n) a0 a1 a2 a3 a4 a5

noncomputable def lex_Tokens_l6 : List UInt8 → Int → Int → Int → List UInt8 → List (Token) → Option ((Int × Int × (List UInt8)) ⊕ ((List UInt8) × Int × Int × (List UInt8) × (List (Token)))) := sealF (lex_Tokens_i6 fuel)

noncomputable def lex_Tokens_f (a0 : List UInt8) : Option (Fault × (List (Token))) :=
    Option.bind (scan_Runes a0) fun y0 =>
    bif Fault.code (Prod.fst y0) != (0 : Int) then
      some ((Fault.mk (Fault.code (Prod.fst y0)) (Fault.at_ (Prod.fst y0)) (Fault.name (Prod.fst y0))), ([]))
    else
      Option.bind (lex_passed a0) fun y1 =>
      Option.bind (lex_Tokens_l6 a0 y1 (0 : Int) (0 : Int) [] []) fun y2 =>
      match y2 with
      | .inl y3 =>
        some ((Fault.mk (Prod.fst y3) (Prod.fst (Prod.snd y3)) (Prod.snd (Prod.snd y3))), ([]))
      | .inr y3 =>
        bif decide ((List.length (Prod.snd (Prod.snd (Prod.snd (Prod.snd y3)))) + List.length [Token.mk (5 : Int) [] (0 : Int) (↑(List.length (Prod.fst y3)) : Int)]) * (40 : Nat) ≤ (140737488355328 : Nat) ∧ List.length (Prod.snd (Prod.snd (Prod.snd (Prod.snd y3)))) + List.length [Token.mk (5 : Int) [] (0 : Int) (↑(List.length (Prod.fst y3)) : Int)] ≤ (9223372036854775807 : Nat)) then
          some ((Fault.mk (0 : Int) (0 : Int) []), (Prod.snd (Prod.snd (Prod.snd (Prod.snd y3))) ++ [Token.mk (5 : Int) [] (0 : Int) (↑(List.length (Prod.fst y3)) : Int)]))
        else
          none

noncomputable def lex_Tokens : List UInt8 → Option (Fault × (List (Token))) := sealF lex_Tokens_f

noncomputable def lex_fits_f (a0 : Token) : Option (Bool) :=
    bif Token.text a0 == [] then
      some (false)
    else
      bif decide ((↑(List.length (Token.text a0)) : Int) > (64 : Int)) then
        some (false)
      else
        Option.bind (unicode_utf8_ValidString (Token.text a0)) fun y0 =>
        bif !y0 then
          some (false)
        else
          Option.bind (lex_token (Token.text a0)) fun y1 =>
          bif Prod.snd y1 == (0 : Int) then
            some (decide (Token.mk (Token.kind (Prod.fst y1)) (Token.text (Prod.fst y1)) (Token.num (Prod.fst y1)) (Token.at_ a0) = Token.mk (Token.kind a0) (Token.text a0) (Token.num a0) (Token.at_ a0)))
          else
            some (false)

noncomputable def lex_fits : Token → Option (Bool) := sealF lex_fits_f

noncomputable def lex_Join_t6 (rec : List (Token) → Int → Int → List (List UInt8) → Option (((List UInt8) × Int) ⊕ ((List (List UInt8))))) (a0 : List (Token)) (a1 : Int) (a2 : Int) (a3 : List (List UInt8)) : Option (((List UInt8) × Int) ⊕ ((List (List UInt8)))) :=
    bif decide (a2 < a1) then
      bif decide ((0 : Int) ≤ a2) then
        Option.bind (a0[Int.toNat a2]?) fun y0 =>
        Option.bind (lex_fits (Token.mk (Token.kind y0) (Token.text y0) (Token.num y0) (Token.at_ y0))) fun y1 =>
        bif !y1 then
          some (.inl (([]), ((1 : Int))))
        else
          bif decide ((List.length a3 + List.length [Token.text y0]) * (16 : Nat) ≤ (140737488355328 : Nat) ∧ List.length a3 + List.length [Token.text y0] ≤ (9223372036854775807 : Nat)) then
            rec (a0) (a1) (IntKind.wrap IntKind.i64 (a2 + (1 : Int))) (a3 ++ [Token.text y0])
          else
            none
      else
        none
    else
      some (.inr (a3))

noncomputable def lex_Join_i6 : Nat → List (Token) → Int → Int → List (List UInt8) → Option (((List UInt8) × Int) ⊕ ((List (List UInt8))))
  | 0, _, _, _, _ => none
  | n + 1, a0, a1, a2, a3 => lex_Join_t6 (lex_Join_i6 n) a0 a1 a2 a3

noncomputable def lex_Join_l6 : List (Token) → Int → Int → List (List UInt8) → Option (((List UInt8) × Int) ⊕ ((List (List UInt8)))) := sealF (lex_Join_i6 fuel)

noncomputable def lex_Join_f (a0 : List (Token)) : Option ((List UInt8) × Int) :=
    bif decide (IntKind.wrap IntKind.i64 ((↑(List.length a0) : Int) - (1 : Int)) < (0 : Int)) then
      some (([]), ((1 : Int)))
    else
      bif decide ((0 : Int) ≤ IntKind.wrap IntKind.i64 ((↑(List.length a0) : Int) - (1 : Int))) then
        Option.bind (a0[Int.toNat (IntKind.wrap IntKind.i64 ((↑(List.length a0) : Int) - (1 : Int)))]?) fun y0 =>
        bif Token.kind y0 != (5 : Int) then
          some (([]), ((1 : Int)))
        else
          bif decide ((0 : Int) ≤ IntKind.wrap IntKind.i64 ((↑(List.length a0) : Int) - (1 : Int))) then
            Option.bind (a0[Int.toNat (IntKind.wrap IntKind.i64 ((↑(List.length a0) : Int) - (1 : Int)))]?) fun y1 =>
            bif !Token.text y1 == [] then
              some (([]), ((1 : Int)))
            else
              bif decide ((0 : Int) ≤ IntKind.wrap IntKind.i64 ((↑(List.length a0) : Int) - (1 : Int))) then
                Option.bind (a0[Int.toNat (IntKind.wrap IntKind.i64 ((↑(List.length a0) : Int) - (1 : Int)))]?) fun y2 =>
                bif Token.num y2 != (0 : Int) then
                  some (([]), ((1 : Int)))
                else
                  bif decide ((0 : Int) ≤ (0 : Int)) && (decide ((0 : Int) ≤ IntKind.wrap IntKind.i64 ((↑(List.length a0) : Int) - (1 : Int))) && decide (IntKind.wrap IntKind.i64 ((↑(List.length a0) : Int) - (1 : Int)) ≤ (↑(List.length a0) : Int))) then
                    Option.bind (lex_Join_l6 (List.drop (0 : Nat) (List.take (Int.toNat (IntKind.wrap IntKind.i64 ((↑(List.length a0) : Int) - (1 : Int)))) a0)) (↑(List.length (List.drop (0 : Nat) (List.take (Int.toNat (IntKind.wrap IntKind.i64 ((↑(List.length a0) : Int) - (1 : Int)))) a0))) : Int) (0 : Int) []) fun y3 =>
                    match y3 with
                    | .inl y4 =>
                      some ((Prod.fst y4), (Prod.snd y4))
                    | .inr y4 =>
                      Option.bind (strings_Join y4 [(32 : UInt8)]) fun y5 =>
                      bif decide ((↑(List.length y5) : Int) > (4000 : Int)) then
                        some (([]), ((10 : Int)))
                      else
                        some ((y5), ((0 : Int)))
                  else
                    none
              else
                none
          else
            none
      else
        none

noncomputable def lex_Join : List (Token) → Option ((List UInt8) × Int) := sealF lex_Join_f

noncomputable def racetreelaw02_shown_f : Option (Bool) :=
    Option.bind (lex_Tokens [(114 : UInt8), (60 : UInt8), (45 : UInt8), (120 : UInt8), (59 : UInt8), (35 : UInt8), (32 : UInt8), (99 : UInt8)]) fun y0 =>
    Option.bind (lex_Join [Token.mk (1 : Int) [(114 : UInt8)] (0 : Int) (0 : Int), Token.mk (3 : Int) [(58 : UInt8), (61 : UInt8)] (0 : Int) (0 : Int), Token.mk (2 : Int) [(49 : UInt8)] (1 : Int) (0 : Int), Token.mk (5 : Int) [] (0 : Int) (0 : Int)]) fun y1 =>
    bif Fault.code (Prod.fst y0) == (0 : Int) then
      bif (↑(List.length (Prod.snd y0)) : Int) == (5 : Int) then
        bif decide ((0 : Int) ≤ (1 : Int)) && decide ((1 : Int) < (↑(List.length (Prod.snd y0)) : Int)) then
          Option.bind ((Prod.snd y0)[(1 : Nat)]?) fun y2 =>
          bif decide (y2 = Token.mk (3 : Int) [(60 : UInt8), (45 : UInt8)] (0 : Int) (1 : Int)) then
            bif decide ((0 : Int) ≤ (4 : Int)) && decide ((4 : Int) < (↑(List.length (Prod.snd y0)) : Int)) then
              Option.bind ((Prod.snd y0)[(4 : Nat)]?) fun y3 =>
              bif decide (y3 = Token.mk (5 : Int) [] (0 : Int) (8 : Int)) then
                bif Prod.snd y1 == (0 : Int) then
                  some (Prod.fst y1 == [(114 : UInt8), (32 : UInt8), (58 : UInt8), (61 : UInt8), (32 : UInt8), (49 : UInt8)])
                else
                  some (false)
              else
                some (false)
            else
              none
          else
            some (false)
        else
          none
      else
        some (false)
    else
      some (false)

noncomputable def racetreelaw02_shown : Option (Bool) := sealF racetreelaw02_shown_f

noncomputable def racetreeref01_IsRune_f (a0 : Int) : Option (Bool) :=
    bif decide (a0 ≥ (0 : Int)) then
      bif decide (a0 ≤ (1114111 : Int)) then
        bif decide (a0 < (55296 : Int)) then
          some (true)
        else
          some (decide (a0 > (57343 : Int)))
      else
        some (false)
    else
      some (false)

noncomputable def racetreeref01_IsRune : Int → Option (Bool) := sealF racetreeref01_IsRune_f

noncomputable def racetreeref01_long_f (a0 : Int) : Option (Int) :=
    bif decide (a0 < (128 : Int)) then
      some ((1 : Int))
    else
      bif decide (a0 < (2048 : Int)) then
        some ((2 : Int))
      else
        bif decide (a0 < (65536 : Int)) then
          some ((3 : Int))
        else
          some ((4 : Int))

noncomputable def racetreeref01_long : Int → Option (Int) := sealF racetreeref01_long_f

noncomputable def racetreeref01_At_t18 (rec : List UInt8 → Int → Int → Int → Int → Option ((Int × Int) ⊕ (Int × Int))) (a0 : List UInt8) (a1 : Int) (a2 : Int) (a3 : Int) (a4 : Int) : Option ((Int × Int) ⊕ (Int × Int)) :=
    bif decide (a4 < a2) then
      bif decide ((0 : Int) ≤ IntKind.wrap IntKind.i64 (a1 + a4)) then
        Option.bind (a0[Int.toNat (IntKind.wrap IntKind.i64 (a1 + a4))]?) fun y0 =>
        bif decide (IntKind.wrap IntKind.i64 (↑(UInt8.toNat y0) : Int) < (128 : Int)) then
          some (.inl (((0 : Int)), ((0 : Int))))
        else
          bif decide (IntKind.wrap IntKind.i64 (↑(UInt8.toNat y0) : Int) > (191 : Int)) then
            some (.inl (((0 : Int)), ((0 : Int))))
          else
            rec (a0) (a1) (a2) (IntKind.wrap IntKind.i64 (IntKind.wrap IntKind.i64 (IntKind.wrap IntKind.i64 ((64 : Int) * a3) + IntKind.wrap IntKind.i64 (↑(UInt8.toNat y0) : Int)) - (128 : Int))) (IntKind.wrap IntKind.i64 (a4 + (1 : Int)))
      else
        none
    else
      some (.inr ((a2), (a3)))

noncomputable def racetreeref01_At_i18 : Nat → List UInt8 → Int → Int → Int → Int → Option ((Int × Int) ⊕ (Int × Int))
  | 0, _, _, _, _, _ => none
  | n + 1, a0, a1, a2, a3, a4 => racetreeref01_At_t18 (racetreeref01_At_i18 n) a0 a1 a2 a3 a4

noncomputable def racetreeref01_At_l18 : List UInt8 → Int → Int → Int → Int → Option ((Int × Int) ⊕ (Int × Int)) := sealF (racetreeref01_At_i18 fuel)

noncomputable def racetreeref01_At_f (a0 : List UInt8) (a1 : Int) : Option (Int × Int) :=
    bif decide ((0 : Int) ≤ a1) then
      Option.bind (a0[Int.toNat a1]?) fun y0 =>
      bif decide (IntKind.wrap IntKind.i64 (↑(UInt8.toNat y0) : Int) ≥ (240 : Int)) then
        bif decide (IntKind.wrap IntKind.i64 ((↑(List.length a0) : Int) - a1) < (4 : Int)) then
          some (((0 : Int)), ((0 : Int)))
        else
          Option.bind (racetreeref01_At_l18 a0 a1 (4 : Int) (IntKind.wrap IntKind.i64 (IntKind.wrap IntKind.i64 (↑(UInt8.toNat y0) : Int) - (240 : Int))) (1 : Int)) fun y1 =>
          match y1 with
          | .inl y2 =>
            some ((Prod.fst y2), (Prod.snd y2))
          | .inr y2 =>
            Option.bind (racetreeref01_IsRune (Prod.snd y2)) fun y3 =>
            bif !y3 then
              some (((0 : Int)), ((0 : Int)))
            else
              Option.bind (racetreeref01_long (Prod.snd y2)) fun y4 =>
              bif y4 != Prod.fst y2 then
                some (((0 : Int)), ((0 : Int)))
              else
                some ((Prod.snd y2), (Prod.fst y2))
      else
        bif decide (IntKind.wrap IntKind.i64 (↑(UInt8.toNat y0) : Int) ≥ (224 : Int)) then
          bif decide (IntKind.wrap IntKind.i64 ((↑(List.length a0) : Int) - a1) < (3 : Int)) then
            some (((0 : Int)), ((0 : Int)))
          else
            Option.bind (racetreeref01_At_l18 a0 a1 (3 : Int) (IntKind.wrap IntKind.i64 (IntKind.wrap IntKind.i64 (↑(UInt8.toNat y0) : Int) - (224 : Int))) (1 : Int)) fun y5 =>
            match y5 with
            | .inl y6 =>
              some ((Prod.fst y6), (Prod.snd y6))
            | .inr y6 =>
              Option.bind (racetreeref01_IsRune (Prod.snd y6)) fun y7 =>
              bif !y7 then
                some (((0 : Int)), ((0 : Int)))
              else
                Option.bind (racetreeref01_long (Prod.snd y6)) fun y8 =>
                bif y8 != Prod.fst y6 then
                  some (((0 : Int)), ((0 : Int)))
                else
                  some ((Prod.snd y6), (Prod.fst y6))
        else
          bif decide (IntKind.wrap IntKind.i64 (↑(UInt8.toNat y0) : Int) ≥ (192 : Int)) then
            bif decide (IntKind.wrap IntKind.i64 ((↑(List.length a0) : Int) - a1) < (2 : Int)) then
              some (((0 : Int)), ((0 : Int)))
            else
              Option.bind (racetreeref01_At_l18 a0 a1 (2 : Int) (IntKind.wrap IntKind.i64 (IntKind.wrap IntKind.i64 (↑(UInt8.toNat y0) : Int) - (192 : Int))) (1 : Int)) fun y9 =>
              match y9 with
              | .inl y10 =>
                some ((Prod.fst y10), (Prod.snd y10))
              | .inr y10 =>
                Option.bind (racetreeref01_IsRune (Prod.snd y10)) fun y11 =>
                bif !y11 then
                  some (((0 : Int)), ((0 : Int)))
                else
                  Option.bind (racetreeref01_long (Prod.snd y10)) fun y12 =>
                  bif y12 != Prod.fst y10 then
                    some (((0 : Int)), ((0 : Int)))
                  else
                    some ((Prod.snd y10), (Prod.fst y10))
          else
            bif decide (IntKind.wrap IntKind.i64 (↑(UInt8.toNat y0) : Int) ≥ (128 : Int)) then
              some (((0 : Int)), ((0 : Int)))
            else
              bif decide (IntKind.wrap IntKind.i64 ((↑(List.length a0) : Int) - a1) < (1 : Int)) then
                some (((0 : Int)), ((0 : Int)))
              else
                Option.bind (racetreeref01_At_l18 a0 a1 (1 : Int) (IntKind.wrap IntKind.i64 (↑(UInt8.toNat y0) : Int)) (1 : Int)) fun y13 =>
                match y13 with
                | .inl y14 =>
                  some ((Prod.fst y14), (Prod.snd y14))
                | .inr y14 =>
                  Option.bind (racetreeref01_IsRune (Prod.snd y14)) fun y15 =>
                  bif !y15 then
                    some (((0 : Int)), ((0 : Int)))
                  else
                    Option.bind (racetreeref01_long (Prod.snd y14)) fun y16 =>
                    bif y16 != Prod.fst y14 then
                      some (((0 : Int)), ((0 : Int)))
                    else
                      some ((Prod.snd y14), (Prod.fst y14))
    else
      none

noncomputable def racetreeref01_At : List UInt8 → Int → Option (Int × Int) := sealF racetreeref01_At_f

noncomputable def racetreeref01_on_f (a0 : Spot) (a1 : Int) (a2 : Int) : Option (Spot) :=
    bif a1 == (10 : Int) then
      some (Spot.mk (Spot.rune a0) (IntKind.wrap IntKind.i64 (Spot.at_ a0 + a2)) (IntKind.wrap IntKind.i64 (Spot.line a0 + (1 : Int))) (1 : Int))
    else
      some (Spot.mk (Spot.rune a0) (IntKind.wrap IntKind.i64 (Spot.at_ a0 + a2)) (Spot.line a0) (IntKind.wrap IntKind.i64 (Spot.col a0 + (1 : Int))))

noncomputable def racetreeref01_on : Spot → Int → Int → Option (Spot) := sealF racetreeref01_on_f

noncomputable def racetreeref01_spots_t3 (rec : List UInt8 → Int → Int → Int → Int → Int → Int → Int → Int → List (Spot) → Option (Int × Int × Int × Int × Int × Int × Int × Int × (List (Spot)))) (a0 : List UInt8) (a1 : Int) (a2 : Int) (a3 : Int) (a4 : Int) (a5 : Int) (a6 : Int) (a7 : Int) (a8 : Int) (a9 : List (Spot)) : Option (Int × Int × Int × Int × Int × Int × Int × Int × (List (Spot))) :=
    bif decide (a6 < (↑(List.length a0) : Int)) then
      Option.bind (racetreeref01_At a0 a6) fun y0 =>
      bif Prod.snd y0 == (0 : Int) then
        some ((a1), (a2), (a3), (a4), (a5), (a6), (a7), (a8), (a9))
      else
        bif decide ((List.length a9 + List.length [Spot.mk (Prod.fst y0) a6 a7 a8]) * (32 : Nat) ≤ (140737488355328 : Nat) ∧ List.length a9 + List.length [Spot.mk (Prod.fst y0) a6 a7 a8] ≤ (9223372036854775807 : Nat)) then
          Option.bind (racetreeref01_on (Spot.mk (Prod.fst y0) a6 a7 a8) (Prod.fst y0) (Prod.snd y0)) fun y1 =>
          rec (a0) (a1) (a2) (a3) (a4) (Spot.rune y1) (Spot.at_ y1) (Spot.line y1) (Spot.col y1) (a9 ++ [Spot.mk (Prod.fst y0) a6 a7 a8])
        else
          none
    else
      some ((a1), (a2), (a3), (a4), (a5), (a6), (a7), (a8), (a9))

noncomputable def racetreeref01_spots_i3 : Nat → List UInt8 → Int → Int → Int → Int → Int → Int → Int → Int → List (Spot) → Option (Int × Int × Int × Int × Int × Int × Int × Int × (List (Spot)))
  | 0, _, _, _, _, _, _, _, _, _, _ => none
  | n + 1, a0, a1, a2, a3, a4, a5, a6, a7, a8, a9 => racetreeref01_spots_t3 (racetreeref01_spots_i3 n) a0 a1 a2 a3 a4 a5 a6 a7 a8 a9

noncomputable def racetreeref01_spots_l3 : List UInt8 → Int → Int → Int → Int → Int → Int → Int → Int → List (Spot) → Option (Int × Int × Int × Int × Int × Int × Int × Int × (List (Spot))) := sealF (racetreeref01_spots_i3 fuel)

noncomputable def racetreeref01_spots_f (a0 : List UInt8) : Option (Spot × (List (Spot))) :=
    Option.bind (racetreeref01_spots_l3 a0 (0 : Int) (0 : Int) (0 : Int) (0 : Int) (0 : Int) (0 : Int) (1 : Int) (1 : Int) []) fun y0 =>
    some ((Spot.mk (-1 : Int) (Prod.fst (Prod.snd (Prod.snd (Prod.snd (Prod.snd (Prod.snd y0)))))) (Prod.fst (Prod.snd (Prod.snd (Prod.snd (Prod.snd (Prod.snd (Prod.snd y0))))))) (Prod.fst (Prod.snd (Prod.snd (Prod.snd (Prod.snd (Prod.snd (Prod.snd (Prod.snd y0))))))))), (Prod.snd (Prod.snd (Prod.snd (Prod.snd (Prod.snd (Prod.snd (Prod.snd (Prod.snd y0)))))))))

noncomputable def racetreeref01_spots : List UInt8 → Option (Spot × (List (Spot))) := sealF racetreeref01_spots_f

noncomputable def racetreeref01_Runes_f (a0 : List UInt8) : Option (Fault × (List (Spot))) :=
    bif decide ((↑(List.length a0) : Int) > (4000 : Int)) then
      some ((Fault.mk (10 : Int) (4000 : Int) []), ([]))
    else
      Option.bind (racetreeref01_spots a0) fun y0 =>
      bif decide (Spot.at_ (Prod.fst y0) < (↑(List.length a0) : Int)) then
        some ((Fault.mk (11 : Int) (Spot.at_ (Prod.fst y0)) []), ([]))
      else
        some ((Fault.mk (0 : Int) (0 : Int) []), (Prod.snd y0))

noncomputable def racetreeref01_Runes : List UInt8 → Option (Fault × (List (Spot))) := sealF racetreeref01_Runes_f

noncomputable def racetreeref01_Blank_f (a0 : Int) : Option (Bool) :=
    bif a0 == (9 : Int) then
      some (true)
    else
      bif a0 == (10 : Int) then
        some (true)
      else
        bif a0 == (13 : Int) then
          some (true)
        else
          some (a0 == (32 : Int))

noncomputable def racetreeref01_Blank : Int → Option (Bool) := sealF racetreeref01_Blank_f

noncomputable def racetreeref01_Letter_f (a0 : Int) : Option (Bool) :=
    Option.bind (racetreeref01_IsRune a0) fun y0 =>
    bif y0 then
      bif decide (a0 ≥ (65 : Int)) then
        bif decide (a0 ≤ (90 : Int)) then
          some (true)
        else
          bif a0 == (95 : Int) then
            some (true)
          else
            bif decide (a0 ≥ (97 : Int)) then
              bif decide (a0 ≤ (122 : Int)) then
                some (true)
              else
                some (decide (a0 ≥ (192 : Int)))
            else
              some (decide (a0 ≥ (192 : Int)))
      else
        bif a0 == (95 : Int) then
          some (true)
        else
          bif decide (a0 ≥ (97 : Int)) then
            bif decide (a0 ≤ (122 : Int)) then
              some (true)
            else
              some (decide (a0 ≥ (192 : Int)))
          else
            some (decide (a0 ≥ (192 : Int)))
    else
      some (false)

noncomputable def racetreeref01_Letter : Int → Option (Bool) := sealF racetreeref01_Letter_f

noncomputable def racetreeref01_Digit_f (a0 : Int) : Option (Bool) :=
    bif decide (a0 ≥ (48 : Int)) then
      some (decide (a0 ≤ (57 : Int)))
    else
      some (false)

noncomputable def racetreeref01_Digit : Int → Option (Bool) := sealF racetreeref01_Digit_f

noncomputable def racetreeref02_run_t2 (rec : List (Spot) → Int → Option (Int)) (a0 : List (Spot)) (a1 : Int) : Option (Int) :=
    bif decide (a1 < (↑(List.length a0) : Int)) then
      bif decide ((0 : Int) ≤ a1) then
        Option.bind (a0[Int.toNat a1]?) fun y0 =>
        Option.bind (racetreeref01_Letter (Spot.rune y0)) fun y1 =>
        bif decide ((0 : Int) ≤ a1) then
          Option.bind (a0[Int.toNat a1]?) fun y2 =>
          Option.bind (racetreeref01_Digit (Spot.rune y2)) fun y3 =>
          bif !y1 then
            bif !y3 then
              some (a1)
            else
              rec (a0) (IntKind.wrap IntKind.i64 (a1 + (1 : Int)))
          else
            rec (a0) (IntKind.wrap IntKind.i64 (a1 + (1 : Int)))
        else
          none
      else
        none
    else
      some (a1)

noncomputable def racetreeref02_run_i2 : Nat → List (Spot) → Int → Option (Int)
  | 0, _, _ => none
  | n + 1, a0, a1 => racetreeref02_run_t2 (racetreeref02_run_i2 n) a0 a1

noncomputable def racetreeref02_run_l2 : List (Spot) → Int → Option (Int) := sealF (racetreeref02_run_i2 fuel)

noncomputable def racetreeref02_run_f (a0 : List (Spot)) (a1 : Int) : Option (Int) :=
    Option.bind (racetreeref02_run_l2 a0 a1) fun y0 =>
    some (y0)

noncomputable def racetreeref02_run : List (Spot) → Int → Option (Int) := sealF racetreeref02_run_f

noncomputable def racetreeref02_part_f (a0 : List (Spot)) (a1 : List UInt8) (a2 : Int) (a3 : Int) : Option ((List UInt8)) :=
    bif decide (a3 < (↑(List.length a0) : Int)) then
      bif decide ((0 : Int) ≤ a3) then
        Option.bind (a0[Int.toNat a3]?) fun y0 =>
        bif decide ((0 : Int) ≤ a2) then
          Option.bind (a0[Int.toNat a2]?) fun y1 =>
          bif decide ((0 : Int) ≤ Spot.at_ y1) && (decide (Spot.at_ y1 ≤ Spot.at_ y0) && decide (Spot.at_ y0 ≤ (↑(List.length a1) : Int))) then
            some (List.drop (Int.toNat (Spot.at_ y1)) (List.take (Int.toNat (Spot.at_ y0)) a1))
          else
            none
        else
          none
      else
        none
    else
      bif decide ((0 : Int) ≤ a2) then
        Option.bind (a0[Int.toNat a2]?) fun y2 =>
        bif decide ((0 : Int) ≤ Spot.at_ y2) && (decide (Spot.at_ y2 ≤ (↑(List.length a1) : Int)) && decide ((↑(List.length a1) : Int) ≤ (↑(List.length a1) : Int))) then
          some (List.drop (Int.toNat (Spot.at_ y2)) (List.take (Int.toNat (↑(List.length a1) : Int)) a1))
        else
          none
      else
        none

noncomputable def racetreeref02_part : List (Spot) → List UInt8 → Int → Int → Option ((List UInt8)) := sealF racetreeref02_part_f

noncomputable def racetreeref02_Words_f : Option ((List (List UInt8))) :=
    some ([[(97 : UInt8), (100 : UInt8), (100 : UInt8)], [(97 : UInt8), (115 : UInt8), (115 : UInt8), (101 : UInt8), (114 : UInt8), (116 : UInt8)], [(99 : UInt8), (101 : UInt8), (108 : UInt8), (108 : UInt8)], [(101 : UInt8), (108 : UInt8), (115 : UInt8), (101 : UInt8)], [(105 : UInt8), (102 : UInt8)], [(106 : UInt8), (111 : UInt8), (105 : UInt8), (110 : UInt8)], [(108 : UInt8), (111 : UInt8), (99 : UInt8), (107 : UInt8)], [(109 : UInt8), (117 : UInt8), (116 : UInt8), (101 : UInt8), (120 : UInt8)], [(114 : UInt8), (101 : UInt8), (112 : UInt8), (101 : UInt8), (97 : UInt8), (116 : UInt8)], [(115 : UInt8), (116 : UInt8), (97 : UInt8), (114 : UInt8), (116 : UInt8)], [(116 : UInt8), (104 : UInt8), (114 : UInt8), (101 : UInt8), (97 : UInt8), (100 : UInt8)], [(117 : UInt8), (110 : UInt8), (108 : UInt8), (111 : UInt8), (99 : UInt8), (107 : UInt8)]])

noncomputable def racetreeref02_Words : Option ((List (List UInt8))) := sealF racetreeref02_Words_f

noncomputable def racetreeref02_In_t2 (rec : List (List UInt8) → List UInt8 → Int → Option ((Bool) ⊕ (Unit))) (a0 : List (List UInt8)) (a1 : List UInt8) (a2 : Int) : Option ((Bool) ⊕ (Unit)) :=
    bif decide (a2 < (↑(List.length a0) : Int)) then
      bif decide ((0 : Int) ≤ a2) then
        Option.bind (a0[Int.toNat a2]?) fun y0 =>
        bif y0 == a1 then
          some (.inl (true))
        else
          rec (a0) (a1) (IntKind.wrap IntKind.i64 (a2 + (1 : Int)))
      else
        none
    else
      some (.inr ())

noncomputable def racetreeref02_In_i2 : Nat → List (List UInt8) → List UInt8 → Int → Option ((Bool) ⊕ (Unit))
  | 0, _, _, _ => none
  | n + 1, a0, a1, a2 => racetreeref02_In_t2 (racetreeref02_In_i2 n) a0 a1 a2

noncomputable def racetreeref02_In_l2 : List (List UInt8) → List UInt8 → Int → Option ((Bool) ⊕ (Unit)) := sealF (racetreeref02_In_i2 fuel)

noncomputable def racetreeref02_In_f (a0 : List (List UInt8)) (a1 : List UInt8) : Option (Bool) :=
    Option.bind (racetreeref02_In_l2 a0 a1 (0 : Int)) fun y0 =>
    match y0 with
    | .inl y1 =>
      some (y1)
    | .inr y1 =>
      some (false)

noncomputable def racetreeref02_In : List (List UInt8) → List UInt8 → Option (Bool) := sealF racetreeref02_In_f

noncomputable def racetreeref02_number_t5 (rec : List UInt8 → Int → Int → Option ((Int × Bool) ⊕ (Int))) (a0 : List UInt8) (a1 : Int) (a2 : Int) : Option ((Int × Bool) ⊕ (Int)) :=
    bif decide (a2 < (↑(List.length a0) : Int)) then
      bif decide ((0 : Int) ≤ a2) then
        Option.bind (a0[Int.toNat a2]?) fun y0 =>
        bif decide ((↑(UInt8.toNat y0) : Int) < (48 : Int)) then
          some (.inl (((0 : Int)), (false)))
        else
          bif decide ((0 : Int) ≤ a2) then
            Option.bind (a0[Int.toNat a2]?) fun y1 =>
            bif decide ((↑(UInt8.toNat y1) : Int) > (57 : Int)) then
              some (.inl (((0 : Int)), (false)))
            else
              bif decide ((0 : Int) ≤ a2) then
                Option.bind (a0[Int.toNat a2]?) fun y2 =>
                rec (a0) (IntKind.wrap IntKind.i64 (IntKind.wrap IntKind.i64 (IntKind.wrap IntKind.i64 ((10 : Int) * a1) + IntKind.wrap IntKind.i64 (↑(UInt8.toNat y2) : Int)) - (48 : Int))) (IntKind.wrap IntKind.i64 (a2 + (1 : Int)))
              else
                none
          else
            none
      else
        none
    else
      some (.inr (a1))

noncomputable def racetreeref02_number_i5 : Nat → List UInt8 → Int → Int → Option ((Int × Bool) ⊕ (Int))
  | 0, _, _, _ => none
  | n + 1, a0, a1, a2 => racetreeref02_number_t5 (racetreeref02_number_i5 n) a0 a1 a2

noncomputable def racetreeref02_number_l5 : List UInt8 → Int → Int → Option ((Int × Bool) ⊕ (Int)) := sealF (racetreeref02_number_i5 fuel)

noncomputable def racetreeref02_number_f (a0 : List UInt8) : Option (Int × Bool) :=
    bif decide ((↑(List.length a0) : Int) > (1 : Int)) then
      Option.bind (a0[(0 : Nat)]?) fun y0 =>
      bif (↑(UInt8.toNat y0) : Int) == (48 : Int) then
        some (((0 : Int)), (false))
      else
        bif decide ((↑(List.length a0) : Int) > (10 : Int)) then
          some (((0 : Int)), (false))
        else
          bif (↑(List.length a0) : Int) == (0 : Int) then
            some (((0 : Int)), (false))
          else
            Option.bind (racetreeref02_number_l5 a0 (0 : Int) (0 : Int)) fun y1 =>
            match y1 with
            | .inl y2 =>
              some ((Prod.fst y2), (Prod.snd y2))
            | .inr y2 =>
              some ((y2), (decide (y2 ≤ (2147483647 : Int))))
    else
      bif decide ((↑(List.length a0) : Int) > (10 : Int)) then
        some (((0 : Int)), (false))
      else
        bif (↑(List.length a0) : Int) == (0 : Int) then
          some (((0 : Int)), (false))
        else
          Option.bind (racetreeref02_number_l5 a0 (0 : Int) (0 : Int)) fun y3 =>
          match y3 with
          | .inl y4 =>
            some ((Prod.fst y4), (Prod.snd y4))
          | .inr y4 =>
            some ((y4), (decide (y4 ≤ (2147483647 : Int))))

noncomputable def racetreeref02_number : List UInt8 → Option (Int × Bool) := sealF racetreeref02_number_f

noncomputable def racetreeref02_signs_f : Option ((List (List UInt8))) :=
    some ([[(58 : UInt8), (61 : UInt8)], [(60 : UInt8), (45 : UInt8)], [(61 : UInt8), (61 : UInt8)], [(33 : UInt8), (61 : UInt8)], [(60 : UInt8), (61 : UInt8)], [(62 : UInt8), (61 : UInt8)], [(38 : UInt8), (38 : UInt8)], [(124 : UInt8), (124 : UInt8)], [(61 : UInt8)], [(60 : UInt8)], [(62 : UInt8)], [(33 : UInt8)], [(43 : UInt8)], [(45 : UInt8)], [(42 : UInt8)], [(47 : UInt8)], [(37 : UInt8)], [(59 : UInt8)], [(123 : UInt8)], [(125 : UInt8)], [(40 : UInt8)], [(41 : UInt8)]])

noncomputable def racetreeref02_signs : Option ((List (List UInt8))) := sealF racetreeref02_signs_f

noncomputable def racetreeref02_sign_t3 (rec : List UInt8 → Int → Int → List (List UInt8) → Option (((List UInt8)) ⊕ (Unit))) (a0 : List UInt8) (a1 : Int) (a2 : Int) (a3 : List (List UInt8)) : Option (((List UInt8)) ⊕ (Unit)) :=
    bif decide (a2 < (↑(List.length a3) : Int)) then
      bif decide ((0 : Int) ≤ a2) && decide (a2 < (↑(List.length a3) : Int)) then
        Option.bind (a3[Int.toNat a2]?) fun y0 =>
        bif decide (IntKind.wrap IntKind.i64 ((↑(List.length a0) : Int) - a1) ≥ (↑(List.length y0) : Int)) then
          bif decide ((0 : Int) ≤ a1) && (decide (a1 ≤ IntKind.wrap IntKind.i64 (a1 + (↑(List.length y0) : Int))) && decide (IntKind.wrap IntKind.i64 (a1 + (↑(List.length y0) : Int)) ≤ (↑(List.length a0) : Int))) then
            bif decide ((0 : Int) ≤ a2) && decide (a2 < (↑(List.length a3) : Int)) then
              Option.bind (a3[Int.toNat a2]?) fun y1 =>
              bif List.drop (Int.toNat a1) (List.take (Int.toNat (IntKind.wrap IntKind.i64 (a1 + (↑(List.length y0) : Int)))) a0) == y1 then
                bif decide ((0 : Int) ≤ a2) && decide (a2 < (↑(List.length a3) : Int)) then
                  Option.bind (a3[Int.toNat a2]?) fun y2 =>
                  some (.inl (y2))
                else
                  none
              else
                rec (a0) (a1) (IntKind.wrap IntKind.i64 (a2 + (1 : Int))) (a3)
            else
              none
          else
            none
        else
          rec (a0) (a1) (IntKind.wrap IntKind.i64 (a2 + (1 : Int))) (a3)
      else
        none
    else
      some (.inr ())

noncomputable def racetreeref02_sign_i3 : Nat → List UInt8 → Int → Int → List (List UInt8) → Option (((List UInt8)) ⊕ (Unit))
  | 0, _, _, _, _ => none
  | n + 1, a0, a1, a2, a3 => racetreeref02_sign_t3 (racetreeref02_sign_i3 n) a0 a1 a2 a3

noncomputable def racetreeref02_sign_l3 : List UInt8 → Int → Int → List (List UInt8) → Option (((List UInt8)) ⊕ (Unit)) := sealF (racetreeref02_sign_i3 fuel)

noncomputable def racetreeref02_sign_f (a0 : List UInt8) (a1 : Int) : Option ((List UInt8)) :=
    Option.bind (racetreeref02_signs) fun y0 =>
    Option.bind (racetreeref02_sign_l3 a0 a1 (0 : Int) y0) fun y1 =>
    match y1 with
    | .inl y2 =>
      some (y2)
    | .inr y2 =>
      some ([])

noncomputable def racetreeref02_sign : List UInt8 → Int → Option ((List UInt8)) := sealF racetreeref02_sign_f

noncomputable def racetreeref02_token_f (a0 : List (Spot)) (a1 : List UInt8) (a2 : Int) : Option (Token × Int × Int) :=
    bif decide ((0 : Int) ≤ a2) then
      Option.bind (a0[Int.toNat a2]?) fun y0 =>
      Option.bind (racetreeref01_Letter (Spot.rune y0)) fun y1 =>
      Option.bind (racetreeref01_Digit (Spot.rune y0)) fun y2 =>
      bif decide ((0 : Int) ≤ a2) then
        Option.bind (a0[Int.toNat a2]?) fun y3 =>
        bif y1 then
          Option.bind (racetreeref02_run a0 a2) fun y4 =>
          Option.bind (racetreeref02_part a0 a1 a2 y4) fun y5 =>
          Option.bind (racetreeref02_Words) fun y6 =>
          Option.bind (racetreeref02_In y6 y5) fun y7 =>
          bif y2 then
            Option.bind (racetreeref02_number y5) fun y8 =>
            bif !Prod.snd y8 then
              some ((Token.mk (0 : Int) y5 (0 : Int) (Spot.at_ y3)), (a2), ((22 : Int)))
            else
              some ((Token.mk (2 : Int) y5 (Prod.fst y8) (Spot.at_ y3)), (y4), ((0 : Int)))
          else
            bif y7 then
              some ((Token.mk (4 : Int) y5 (0 : Int) (Spot.at_ y3)), (y4), ((0 : Int)))
            else
              bif decide (IntKind.wrap IntKind.i64 (y4 - a2) > (16 : Int)) then
                some ((Token.mk (0 : Int) y5 (0 : Int) (Spot.at_ y3)), (a2), ((21 : Int)))
              else
                some ((Token.mk (1 : Int) y5 (0 : Int) (Spot.at_ y3)), (y4), ((0 : Int)))
        else
          bif y2 then
            Option.bind (racetreeref02_run a0 a2) fun y9 =>
            Option.bind (racetreeref02_part a0 a1 a2 y9) fun y10 =>
            Option.bind (racetreeref02_Words) fun y11 =>
            Option.bind (racetreeref02_In y11 y10) fun y12 =>
            bif y2 then
              Option.bind (racetreeref02_number y10) fun y13 =>
              bif !Prod.snd y13 then
                some ((Token.mk (0 : Int) y10 (0 : Int) (Spot.at_ y3)), (a2), ((22 : Int)))
              else
                some ((Token.mk (2 : Int) y10 (Prod.fst y13) (Spot.at_ y3)), (y9), ((0 : Int)))
            else
              bif y12 then
                some ((Token.mk (4 : Int) y10 (0 : Int) (Spot.at_ y3)), (y9), ((0 : Int)))
              else
                bif decide (IntKind.wrap IntKind.i64 (y9 - a2) > (16 : Int)) then
                  some ((Token.mk (0 : Int) y10 (0 : Int) (Spot.at_ y3)), (a2), ((21 : Int)))
                else
                  some ((Token.mk (1 : Int) y10 (0 : Int) (Spot.at_ y3)), (y9), ((0 : Int)))
          else
            bif decide ((0 : Int) ≤ a2) then
              Option.bind (a0[Int.toNat a2]?) fun y14 =>
              Option.bind (racetreeref02_sign a1 (Spot.at_ y14)) fun y15 =>
              bif y15 == [] then
                some ((Token.mk (0 : Int) y15 (0 : Int) (Spot.at_ y3)), (a2), ((20 : Int)))
              else
                some ((Token.mk (3 : Int) y15 (0 : Int) (Spot.at_ y3)), (IntKind.wrap IntKind.i64 (a2 + (↑(List.length y15) : Int))), ((0 : Int)))
            else
              none
      else
        none
    else
      none

noncomputable def racetreeref02_token : List (Spot) → List UInt8 → Int → Option (Token × Int × Int) := sealF racetreeref02_token_f

noncomputable def racetreeref02_Tokens_t11 (rec : List UInt8 → List (Spot) → Int → Int → Int → List UInt8 → List (Token) → Option ((List UInt8) × (List (Spot)) × Int × Int × Int × (List UInt8) × (List (Token)))) (a0 : List UInt8) (a1 : List (Spot)) (a2 : Int) (a3 : Int) (a4 : Int) (a5 : List UInt8) (a6 : List (Token)) : Option ((List UInt8) × (List (Spot)) × Int × Int × Int × (List UInt8) × (List (Token))) :=
    bif decide (a2 < (↑(List.length a1) : Int)) then
      bif decide ((0 : Int) ≤ a2) then
        Option.bind (a1[Int.toNat a2]?) fun y0 =>
        bif Spot.rune y0 != (10 : Int) then
          rec (a0) (a1) (IntKind.wrap IntKind.i64 (a2 + (1 : Int))) (a3) (a4) (a5) (a6)
        else
          some ((a0), (a1), (a2), (a3), (a4), (a5), (a6))
      else
        none
    else
      some ((a0), (a1), (a2), (a3), (a4), (a5), (a6))

noncomputable def racetreeref02_Tokens_i11 : Nat → List UInt8 → List (Spot) → Int → Int → Int → List UInt8 → List (Token) → Option ((List UInt8) × (List (Spot)) × Int × Int × Int × (List UInt8) × (List (Token)))
  | 0, _, _, _, _, _, _, _ => none
  | n + 1, a0, a1, a2, a3, a4, a5, a6 => racetreeref02_Tokens_t11 (racetreeref02_Tokens_i11 n) a0 a1 a2 a3 a4 a5 a6

noncomputable def racetreeref02_Tokens_l11 : List UInt8 → List (Spot) → Int → Int → Int → List UInt8 → List (Token) → Option ((List UInt8) × (List (Spot)) × Int × Int × Int × (List UInt8) × (List (Token))) := sealF (racetreeref02_Tokens_i11 fuel)

noncomputable def racetreeref02_Tokens_t6 (rec : List UInt8 → List (Spot) → Int → Int → Int → List UInt8 → List (Token) → Option ((Int × Int × (List UInt8)) ⊕ ((List UInt8) × Int × Int × (List UInt8) × (List (Token))))) (a0 : List UInt8) (a1 : List (Spot)) (a2 : Int) (a3 : Int) (a4 : Int) (a5 : List UInt8) (a6 : List (Token)) : Option ((Int × Int × (List UInt8)) ⊕ ((List UInt8) × Int × Int × (List UInt8) × (List (Token)))) :=
    bif decide (a2 < (↑(List.length a1) : Int)) then
      bif decide ((0 : Int) ≤ a2) then
        Option.bind (a1[Int.toNat a2]?) fun y0 =>
        Option.bind (racetreeref01_Blank (Spot.rune y0)) fun y1 =>
        bif y1 then
          rec (a0) (a1) (IntKind.wrap IntKind.i64 (a2 + (1 : Int))) (a3) (a4) (a5) (a6)
        else
          bif decide ((0 : Int) ≤ a2) then
            Option.bind (a1[Int.toNat a2]?) fun y2 =>
            bif Spot.rune y2 == (35 : Int) then
              Option.bind (racetreeref02_Tokens_l11 a0 a1 a2 a3 a4 a5 a6) fun y3 =>
              rec (Prod.fst y3) (Prod.fst (Prod.snd y3)) (Prod.fst (Prod.snd (Prod.snd y3))) (Prod.fst (Prod.snd (Prod.snd (Prod.snd y3)))) (Prod.fst (Prod.snd (Prod.snd (Prod.snd (Prod.snd y3))))) (Prod.fst (Prod.snd (Prod.snd (Prod.snd (Prod.snd (Prod.snd y3)))))) (Prod.snd (Prod.snd (Prod.snd (Prod.snd (Prod.snd (Prod.snd y3))))))
            else
              Option.bind (racetreeref02_token a1 a0 a2) fun y4 =>
              bif Prod.snd (Prod.snd y4) != (0 : Int) then
                some (.inl ((Prod.snd (Prod.snd y4)), (Token.at_ (Prod.fst y4)), ([])))
              else
                bif decide ((List.length a6 + List.length [Token.mk (Token.kind (Prod.fst y4)) (Token.text (Prod.fst y4)) (Token.num (Prod.fst y4)) (Token.at_ (Prod.fst y4))]) * (40 : Nat) ≤ (140737488355328 : Nat) ∧ List.length a6 + List.length [Token.mk (Token.kind (Prod.fst y4)) (Token.text (Prod.fst y4)) (Token.num (Prod.fst y4)) (Token.at_ (Prod.fst y4))] ≤ (9223372036854775807 : Nat)) then
                  rec (a0) (a1) (Prod.fst (Prod.snd y4)) (a3) (a4) (a5) (a6 ++ [Token.mk (Token.kind (Prod.fst y4)) (Token.text (Prod.fst y4)) (Token.num (Prod.fst y4)) (Token.at_ (Prod.fst y4))])
                else
                  none
          else
            none
      else
        none
    else
      some (.inr ((a0), (a3), (a4), (a5), (a6)))

noncomputable def racetreeref02_Tokens_i6 : Nat → List UInt8 → List (Spot) → Int → Int → Int → List UInt8 → List (Token) → Option ((Int × Int × (List UInt8)) ⊕ ((List UInt8) × Int × Int × (List UInt8) × (List (Token))))
  | 0, _, _, _, _, _, _, _ => none
  | n + 1, a0, a1, a2, a3, a4, a5, a6 => racetreeref02_Tokens_t6 (racetreeref02_Tokens_i6 n) a0 a1 a2 a3 a4 a5 a6

noncomputable def racetreeref02_Tokens_l6 : List UInt8 → List (Spot) → Int → Int → Int → List UInt8 → List (Token) → Option ((Int × Int × (List UInt8)) ⊕ ((List UInt8) × Int × Int × (List UInt8) × (List (Token)))) := sealF (racetreeref02_Tokens_i6 fuel)

noncomputable def racetreeref02_Tokens_f (a0 : List UInt8) : Option (Fault × (List (Token))) :=
    Option.bind (racetreeref01_Runes a0) fun y0 =>
    bif Fault.code (Prod.fst y0) != (0 : Int) then
      some ((Fault.mk (Fault.code (Prod.fst y0)) (Fault.at_ (Prod.fst y0)) (Fault.name (Prod.fst y0))), ([]))
    else
      Option.bind (racetreeref02_Tokens_l6 a0 (Prod.snd y0) (0 : Int) (0 : Int) (0 : Int) [] []) fun y1 =>
      match y1 with
      | .inl y2 =>
        some ((Fault.mk (Prod.fst y2) (Prod.fst (Prod.snd y2)) (Prod.snd (Prod.snd y2))), ([]))
      | .inr y2 =>
        bif decide ((List.length (Prod.snd (Prod.snd (Prod.snd (Prod.snd y2)))) + List.length [Token.mk (5 : Int) [] (0 : Int) (↑(List.length (Prod.fst y2)) : Int)]) * (40 : Nat) ≤ (140737488355328 : Nat) ∧ List.length (Prod.snd (Prod.snd (Prod.snd (Prod.snd y2)))) + List.length [Token.mk (5 : Int) [] (0 : Int) (↑(List.length (Prod.fst y2)) : Int)] ≤ (9223372036854775807 : Nat)) then
          some ((Fault.mk (0 : Int) (0 : Int) []), (Prod.snd (Prod.snd (Prod.snd (Prod.snd y2))) ++ [Token.mk (5 : Int) [] (0 : Int) (↑(List.length (Prod.fst y2)) : Int)]))
        else
          none

noncomputable def racetreeref02_Tokens : List UInt8 → Option (Fault × (List (Token))) := sealF racetreeref02_Tokens_f

noncomputable def racetreelaw02_same_t4 (rec : List (Token) → List (Token) → Bool → Int → Option ((Bool) ⊕ (Unit))) (a0 : List (Token)) (a1 : List (Token)) (a2 : Bool) (a3 : Int) : Option ((Bool) ⊕ (Unit)) :=
    bif decide (a3 < (↑(List.length a0) : Int)) then
      bif decide ((0 : Int) ≤ a3) then
        Option.bind (a0[Int.toNat a3]?) fun y0 =>
        bif decide ((0 : Int) ≤ a3) then
          Option.bind (a1[Int.toNat a3]?) fun y1 =>
          bif Token.kind y0 != Token.kind y1 then
            some (.inl (false))
          else
            bif decide ((0 : Int) ≤ a3) then
              Option.bind (a0[Int.toNat a3]?) fun y2 =>
              bif decide ((0 : Int) ≤ a3) then
                Option.bind (a1[Int.toNat a3]?) fun y3 =>
                bif !Token.text y2 == Token.text y3 then
                  some (.inl (false))
                else
                  bif decide ((0 : Int) ≤ a3) then
                    Option.bind (a0[Int.toNat a3]?) fun y4 =>
                    bif decide ((0 : Int) ≤ a3) then
                      Option.bind (a1[Int.toNat a3]?) fun y5 =>
                      bif Token.num y4 != Token.num y5 then
                        some (.inl (false))
                      else
                        bif a2 then
                          bif decide ((0 : Int) ≤ a3) then
                            Option.bind (a0[Int.toNat a3]?) fun y6 =>
                            bif decide ((0 : Int) ≤ a3) then
                              Option.bind (a1[Int.toNat a3]?) fun y7 =>
                              bif Token.at_ y6 != Token.at_ y7 then
                                some (.inl (false))
                              else
                                rec (a0) (a1) (a2) (IntKind.wrap IntKind.i64 (a3 + (1 : Int)))
                            else
                              none
                          else
                            none
                        else
                          rec (a0) (a1) (a2) (IntKind.wrap IntKind.i64 (a3 + (1 : Int)))
                    else
                      none
                  else
                    none
              else
                none
            else
              none
        else
          none
      else
        none
    else
      some (.inr ())

noncomputable def racetreelaw02_same_i4 : Nat → List (Token) → List (Token) → Bool → Int → Option ((Bool) ⊕ (Unit))
  | 0, _, _, _, _ => none
  | n + 1, a0, a1, a2, a3 => racetreelaw02_same_t4 (racetreelaw02_same_i4 n) a0 a1 a2 a3

noncomputable def racetreelaw02_same_l4 : List (Token) → List (Token) → Bool → Int → Option ((Bool) ⊕ (Unit)) := sealF (racetreelaw02_same_i4 fuel)

noncomputable def racetreelaw02_same_f (a0 : List (Token)) (a1 : List (Token)) (a2 : Bool) : Option (Bool) :=
    bif (↑(List.length a0) : Int) != (↑(List.length a1) : Int) then
      some (false)
    else
      Option.bind (racetreelaw02_same_l4 a0 a1 a2 (0 : Int)) fun y0 =>
      match y0 with
      | .inl y1 =>
        some (y1)
      | .inr y1 =>
        some (true)

noncomputable def racetreelaw02_same : List (Token) → List (Token) → Bool → Option (Bool) := sealF racetreelaw02_same_f

noncomputable def racetreelaw02_LexTokens_t6 (rec : List UInt8 → Bool → Bool → Int → Int → Int → List UInt8 → Int → Int → List UInt8 → List (Token) → List (Token) → Option ((List UInt8) × Bool × Bool × Int × Int × (List UInt8) × Int × Int × (List UInt8) × (List (Token)) × (List (Token)))) (a0 : List UInt8) (a1 : Bool) (a2 : Bool) (a3 : Int) (a4 : Int) (a5 : Int) (a6 : List UInt8) (a7 : Int) (a8 : Int) (a9 : List UInt8) (a10 : List (Token)) (a11 : List (Token)) : Option ((List UInt8) × Bool × Bool × Int × Int × (List UInt8) × Int × Int × (List UInt8) × (List (Token)) × (List (Token))) :=
    bif decide (a3 < (↑(List.length a11) : Int)) then
      bif decide ((0 : Int) ≤ a3) && decide (a3 < (↑(List.length a11) : Int)) then
        Option.bind (a11[Int.toNat a3]?) fun y0 =>
        rec (a0) (a1) (a2) (IntKind.wrap IntKind.i64 (a3 + (1 : Int))) (a4) (a5) (a6) (a7) (a8) (a9) (a10) (List.set a11 (Int.toNat a3) (Token.mk (-77 : Int) [] (0 : Int) (0 : Int)))
      else
        none
    else
      some ((a0), (a1), (a2), (a4), (a5), (a6), (a7), (a8), (a9), (a10), (a11))

noncomputable def racetreelaw02_LexTokens_i6 : Nat → List UInt8 → Bool → Bool → Int → Int → Int → List UInt8 → Int → Int → List UInt8 → List (Token) → List (Token) → Option ((List UInt8) × Bool × Bool × Int × Int × (List UInt8) × Int × Int × (List UInt8) × (List (Token)) × (List (Token)))
  | 0, _, _, _, _, _, _, _, _, _, _, _, _ => none
  | n + 1, a0, a1, a2, a3, a4, a5, a6, a7, a8, a9, a10, a11 => racetreelaw02_LexTokens_t6 (racetreelaw02_LexTokens_i6 n) a0 a1 a2 a3 a4 a5 a6 a7 a8 a9 a10 a11

noncomputable def racetreelaw02_LexTokens_l6 : List UInt8 → Bool → Bool → Int → Int → Int → List UInt8 → Int → Int → List UInt8 → List (Token) → List (Token) → Option ((List UInt8) × Bool × Bool × Int × Int × (List UInt8) × Int × Int × (List UInt8) × (List (Token)) × (List (Token))) := sealF (racetreelaw02_LexTokens_i6 fuel)

noncomputable def racetreelaw02_LexTokens_f (a0 : List UInt8) : Option (Bool) :=
    Option.bind (racetreelaw02_shown) fun y0 =>
    Option.bind (racetreeref02_Tokens a0) fun y1 =>
    Option.bind (lex_Tokens a0) fun y2 =>
    Option.bind (racetreelaw02_same (Prod.snd y2) (Prod.snd y1) true) fun y3 =>
    Option.bind (racetreelaw02_LexTokens_l6 a0 y0 y3 (0 : Int) (Fault.code (Prod.fst y1)) (Fault.at_ (Prod.fst y1)) (Fault.name (Prod.fst y1)) (Fault.code (Prod.fst y2)) (Fault.at_ (Prod.fst y2)) (Fault.name (Prod.fst y2)) (Prod.snd y1) (Prod.snd y2)) fun y4 =>
    bif decide ((List.length (Prod.snd (Prod.snd (Prod.snd (Prod.snd (Prod.snd (Prod.snd (Prod.snd (Prod.snd (Prod.snd (Prod.snd y4)))))))))) + (2 : Nat)) * (40 : Nat) ≤ (140737488355328 : Nat) ∧ List.length (Prod.snd (Prod.snd (Prod.snd (Prod.snd (Prod.snd (Prod.snd (Prod.snd (Prod.snd (Prod.snd (Prod.snd y4)))))))))) + (2 : Nat) ≤ (9223372036854775807 : Nat)) then
      Option.bind (lex_Tokens (Prod.fst y4)) fun y5 =>
      Option.bind (racetreelaw02_same (Prod.snd y5) (Prod.fst (Prod.snd (Prod.snd (Prod.snd (Prod.snd (Prod.snd (Prod.snd (Prod.snd (Prod.snd (Prod.snd y4)))))))))) true) fun y6 =>
      bif Prod.fst (Prod.snd y4) then
        bif decide (Fault.mk (Prod.fst (Prod.snd (Prod.snd (Prod.snd (Prod.snd (Prod.snd (Prod.snd y4))))))) (Prod.fst (Prod.snd (Prod.snd (Prod.snd (Prod.snd (Prod.snd (Prod.snd (Prod.snd y4)))))))) (Prod.fst (Prod.snd (Prod.snd (Prod.snd (Prod.snd (Prod.snd (Prod.snd (Prod.snd (Prod.snd y4))))))))) = Fault.mk (Prod.fst (Prod.snd (Prod.snd (Prod.snd y4)))) (Prod.fst (Prod.snd (Prod.snd (Prod.snd (Prod.snd y4))))) (Prod.fst (Prod.snd (Prod.snd (Prod.snd (Prod.snd (Prod.snd y4))))))) then
          bif decide (Fault.mk (Fault.code (Prod.fst y5)) (Fault.at_ (Prod.fst y5)) (Fault.name (Prod.fst y5)) = Fault.mk (Prod.fst (Prod.snd (Prod.snd (Prod.snd y4)))) (Prod.fst (Prod.snd (Prod.snd (Prod.snd (Prod.snd y4))))) (Prod.fst (Prod.snd (Prod.snd (Prod.snd (Prod.snd (Prod.snd y4))))))) then
            bif Prod.fst (Prod.snd (Prod.snd y4)) then
              bif y6 then
                bif decide ((0 : Int) ≤ IntKind.wrap IntKind.i64 ((↑(List.length (Prod.snd (Prod.snd (Prod.snd (Prod.snd (Prod.snd (Prod.snd (Prod.snd (Prod.snd (Prod.snd (Prod.snd y4))))))))) ++ [Token.mk (-78 : Int) [] (0 : Int) (0 : Int), Token.mk (-79 : Int) [] (0 : Int) (0 : Int)])) : Int) - (1 : Int))) && decide (IntKind.wrap IntKind.i64 ((↑(List.length (Prod.snd (Prod.snd (Prod.snd (Prod.snd (Prod.snd (Prod.snd (Prod.snd (Prod.snd (Prod.snd (Prod.snd y4))))))))) ++ [Token.mk (-78 : Int) [] (0 : Int) (0 : Int), Token.mk (-79 : Int) [] (0 : Int) (0 : Int)])) : Int) - (1 : Int)) < (↑(List.length (Prod.snd (Prod.snd (Prod.snd (Prod.snd (Prod.snd (Prod.snd (Prod.snd (Prod.snd (Prod.snd (Prod.snd y4))))))))) ++ [Token.mk (-78 : Int) [] (0 : Int) (0 : Int), Token.mk (-79 : Int) [] (0 : Int) (0 : Int)])) : Int)) then
                  Option.bind ((Prod.snd (Prod.snd (Prod.snd (Prod.snd (Prod.snd (Prod.snd (Prod.snd (Prod.snd (Prod.snd (Prod.snd y4))))))))) ++ [Token.mk (-78 : Int) [] (0 : Int) (0 : Int), Token.mk (-79 : Int) [] (0 : Int) (0 : Int)])[Int.toNat (IntKind.wrap IntKind.i64 ((↑(List.length (Prod.snd (Prod.snd (Prod.snd (Prod.snd (Prod.snd (Prod.snd (Prod.snd (Prod.snd (Prod.snd (Prod.snd y4))))))))) ++ [Token.mk (-78 : Int) [] (0 : Int) (0 : Int), Token.mk (-79 : Int) [] (0 : Int) (0 : Int)])) : Int) - (1 : Int)))]?) fun y7 =>
                  some (Token.kind y7 == (-79 : Int))
                else
                  none
              else
                some (false)
            else
              some (false)
          else
            some (false)
        else
          some (false)
      else
        some (false)
    else
      none

noncomputable def racetreelaw02_LexTokens : List UInt8 → Option (Bool) := sealF racetreelaw02_LexTokens_f

noncomputable def racetreeref02_may_t2 (rec : List (Token) → Int → Option ((Bool) ⊕ (Unit))) (a0 : List (Token)) (a1 : Int) : Option ((Bool) ⊕ (Unit)) :=
    bif decide (a1 < (↑(List.length a0) : Int)) then
      bif decide ((0 : Int) ≤ a1) then
        Option.bind (a0[Int.toNat a1]?) fun y0 =>
        bif a1 == IntKind.wrap IntKind.i64 ((↑(List.length a0) : Int) - (1 : Int)) then
          bif Token.kind y0 == (5 : Int) then
            bif Token.text y0 == [] then
              some (.inl (Token.num y0 == (0 : Int)))
            else
              some (.inl (false))
          else
            some (.inl (false))
        else
          bif decide ((↑(List.length (Token.text y0)) : Int) > (64 : Int)) then
            some (.inl (false))
          else
            Option.bind (racetreeref02_Tokens (Token.text y0)) fun y1 =>
            bif Fault.code (Prod.fst y1) != (0 : Int) then
              some (.inl (false))
            else
              bif (↑(List.length (Prod.snd y1)) : Int) != (2 : Int) then
                some (.inl (false))
              else
                bif decide ((0 : Int) ≤ (0 : Int)) && decide ((0 : Int) < (↑(List.length (Prod.snd y1)) : Int)) then
                  Option.bind ((Prod.snd y1)[(0 : Nat)]?) fun y2 =>
                  bif Token.kind y2 != Token.kind y0 then
                    some (.inl (false))
                  else
                    bif decide ((0 : Int) ≤ (0 : Int)) && decide ((0 : Int) < (↑(List.length (Prod.snd y1)) : Int)) then
                      Option.bind ((Prod.snd y1)[(0 : Nat)]?) fun y3 =>
                      bif !Token.text y3 == Token.text y0 then
                        some (.inl (false))
                      else
                        bif decide ((0 : Int) ≤ (0 : Int)) && decide ((0 : Int) < (↑(List.length (Prod.snd y1)) : Int)) then
                          Option.bind ((Prod.snd y1)[(0 : Nat)]?) fun y4 =>
                          bif Token.num y4 != Token.num y0 then
                            some (.inl (false))
                          else
                            rec (a0) (IntKind.wrap IntKind.i64 (a1 + (1 : Int)))
                        else
                          none
                    else
                      none
                else
                  none
      else
        none
    else
      some (.inr ())

noncomputable def racetreeref02_may_i2 : Nat → List (Token) → Int → Option ((Bool) ⊕ (Unit))
  | 0, _, _ => none
  | n + 1, a0, a1 => racetreeref02_may_t2 (racetreeref02_may_i2 n) a0 a1

noncomputable def racetreeref02_may_l2 : List (Token) → Int → Option ((Bool) ⊕ (Unit)) := sealF (racetreeref02_may_i2 fuel)

noncomputable def racetreeref02_may_f (a0 : List (Token)) : Option (Bool) :=
    Option.bind (racetreeref02_may_l2 a0 (0 : Int)) fun y0 =>
    match y0 with
    | .inl y1 =>
      some (y1)
    | .inr y1 =>
      some (false)

noncomputable def racetreeref02_may : List (Token) → Option (Bool) := sealF racetreeref02_may_f

noncomputable def racetreeref02_Join_t6 (rec : List (Token) → Int → Int → Option (((List UInt8) × Int) ⊕ ((List (Token))))) (a0 : List (Token)) (a1 : Int) (a2 : Int) : Option (((List UInt8) × Int) ⊕ ((List (Token)))) :=
    bif decide (a2 < IntKind.wrap IntKind.i64 ((↑(List.length a0) : Int) - (1 : Int))) then
      bif decide ((0 : Int) ≤ a2) then
        Option.bind (a0[Int.toNat a2]?) fun y0 =>
        bif decide (a2 > (0 : Int)) then
          bif decide (IntKind.wrap IntKind.i64 (IntKind.wrap IntKind.i64 (a1 + (↑(List.length (Token.text y0)) : Int)) + (1 : Int)) > (4000 : Int)) then
            some (.inl (([]), ((10 : Int))))
          else
            rec (a0) (IntKind.wrap IntKind.i64 (IntKind.wrap IntKind.i64 (a1 + (↑(List.length (Token.text y0)) : Int)) + (1 : Int))) (IntKind.wrap IntKind.i64 (a2 + (1 : Int)))
        else
          bif decide (IntKind.wrap IntKind.i64 (a1 + (↑(List.length (Token.text y0)) : Int)) > (4000 : Int)) then
            some (.inl (([]), ((10 : Int))))
          else
            rec (a0) (IntKind.wrap IntKind.i64 (a1 + (↑(List.length (Token.text y0)) : Int))) (IntKind.wrap IntKind.i64 (a2 + (1 : Int)))
      else
        none
    else
      some (.inr (a0))

noncomputable def racetreeref02_Join_i6 : Nat → List (Token) → Int → Int → Option (((List UInt8) × Int) ⊕ ((List (Token))))
  | 0, _, _, _ => none
  | n + 1, a0, a1, a2 => racetreeref02_Join_t6 (racetreeref02_Join_i6 n) a0 a1 a2

noncomputable def racetreeref02_Join_l6 : List (Token) → Int → Int → Option (((List UInt8) × Int) ⊕ ((List (Token)))) := sealF (racetreeref02_Join_i6 fuel)

noncomputable def racetreeref02_Join_t15 (rec : List (Token) → Int → List (Int) → Option ((List (Int)))) (a0 : List (Token)) (a1 : Int) (a2 : List (Int)) : Option ((List (Int))) :=
    bif decide (a1 < IntKind.wrap IntKind.i64 ((↑(List.length a0) : Int) - (1 : Int))) then
      bif decide (a1 > (0 : Int)) then
        bif decide ((List.length a2 + (1 : Nat)) * (1 : Nat) ≤ (140737488355328 : Nat) ∧ List.length a2 + (1 : Nat) ≤ (9223372036854775807 : Nat)) then
          bif decide ((0 : Int) ≤ a1) then
            Option.bind (a0[Int.toNat a1]?) fun y0 =>
            bif decide (List.length (a2 ++ [(32 : Int)]) + List.length (Token.text y0) ≤ (140737488355328 : Nat) ∧ List.length (a2 ++ [(32 : Int)]) + List.length (Token.text y0) ≤ (9223372036854775807 : Nat)) then
              rec (a0) (IntKind.wrap IntKind.i64 (a1 + (1 : Int))) (a2 ++ [(32 : Int)] ++ ofStr (Token.text y0))
            else
              none
          else
            none
        else
          none
      else
        bif decide ((0 : Int) ≤ a1) then
          Option.bind (a0[Int.toNat a1]?) fun y1 =>
          bif decide (List.length a2 + List.length (Token.text y1) ≤ (140737488355328 : Nat) ∧ List.length a2 + List.length (Token.text y1) ≤ (9223372036854775807 : Nat)) then
            rec (a0) (IntKind.wrap IntKind.i64 (a1 + (1 : Int))) (a2 ++ ofStr (Token.text y1))
          else
            none
        else
          none
    else
      some (a2)

noncomputable def racetreeref02_Join_i15 : Nat → List (Token) → Int → List (Int) → Option ((List (Int)))
  | 0, _, _, _ => none
  | n + 1, a0, a1, a2 => racetreeref02_Join_t15 (racetreeref02_Join_i15 n) a0 a1 a2

noncomputable def racetreeref02_Join_l15 : List (Token) → Int → List (Int) → Option ((List (Int))) := sealF (racetreeref02_Join_i15 fuel)

noncomputable def racetreeref02_Join_f (a0 : List (Token)) : Option ((List UInt8) × Int) :=
    Option.bind (racetreeref02_may a0) fun y0 =>
    bif !y0 then
      some (([]), ((1 : Int)))
    else
      Option.bind (racetreeref02_Join_l6 a0 (0 : Int) (0 : Int)) fun y1 =>
      match y1 with
      | .inl y2 =>
        some ((Prod.fst y2), (Prod.snd y2))
      | .inr y2 =>
        Option.bind (racetreeref02_Join_l15 y2 (0 : Int) []) fun y3 =>
        some ((bytesOf y3), ((0 : Int)))

noncomputable def racetreeref02_Join : List (Token) → Option ((List UInt8) × Int) := sealF racetreeref02_Join_f

noncomputable def racetreelaw02_LexJoins_t10 (rec : List (Token) → Bool → List (Token) → List UInt8 → Int → List UInt8 → Int → Bool → Int → Option (Bool × (List UInt8) × Int × (List UInt8) × Int × Bool)) (a0 : List (Token)) (a1 : Bool) (a2 : List (Token)) (a3 : List UInt8) (a4 : Int) (a5 : List UInt8) (a6 : Int) (a7 : Bool) (a8 : Int) : Option (Bool × (List UInt8) × Int × (List UInt8) × Int × Bool) :=
    bif decide (a8 < (↑(List.length a0) : Int)) then
      bif a7 then
        bif decide ((0 : Int) ≤ a8) then
          Option.bind (a2[Int.toNat a8]?) fun y0 =>
          bif decide ((0 : Int) ≤ a8) then
            Option.bind (a0[Int.toNat a8]?) fun y1 =>
            rec (a0) (a1) (a2) (a3) (a4) (a5) (a6) (decide (y0 = y1)) (IntKind.wrap IntKind.i64 (a8 + (1 : Int)))
          else
            none
        else
          none
      else
        rec (a0) (a1) (a2) (a3) (a4) (a5) (a6) (false) (IntKind.wrap IntKind.i64 (a8 + (1 : Int)))
    else
      some ((a1), (a3), (a4), (a5), (a6), (a7))

noncomputable def racetreelaw02_LexJoins_i10 : Nat → List (Token) → Bool → List (Token) → List UInt8 → Int → List UInt8 → Int → Bool → Int → Option (Bool × (List UInt8) × Int × (List UInt8) × Int × Bool)
  | 0, _, _, _, _, _, _, _, _, _ => none
  | n + 1, a0, a1, a2, a3, a4, a5, a6, a7, a8 => racetreelaw02_LexJoins_t10 (racetreelaw02_LexJoins_i10 n) a0 a1 a2 a3 a4 a5 a6 a7 a8

noncomputable def racetreelaw02_LexJoins_l10 : List (Token) → Bool → List (Token) → List UInt8 → Int → List UInt8 → Int → Bool → Int → Option (Bool × (List UInt8) × Int × (List UInt8) × Int × Bool) := sealF (racetreelaw02_LexJoins_i10 fuel)

noncomputable def racetreelaw02_LexJoins_f (a0 : List (Token)) : Option (Bool) :=
    Option.bind (racetreelaw02_shown) fun y0 =>
    bif decide ((0 : Int) ≤ IntKind.wrap IntKind.i64 ((↑(List.length a0) : Int) + (2 : Int))) && (decide (IntKind.wrap IntKind.i64 ((↑(List.length a0) : Int) + (2 : Int)) = IntKind.wrap IntKind.i64 ((↑(List.length a0) : Int) + (2 : Int))) && decide (Int.toNat (IntKind.wrap IntKind.i64 ((↑(List.length a0) : Int) + (2 : Int))) * (40 : Nat) ≤ (140737488355328 : Nat) ∧ Int.toNat (IntKind.wrap IntKind.i64 ((↑(List.length a0) : Int) + (2 : Int))) ≤ (9223372036854775807 : Nat))) then
      bif decide ((0 : Int) ≤ (↑(List.length a0) : Int)) && decide ((↑(List.length a0) : Int) < (↑(List.length (List.take (List.length (List.replicate (Int.toNat (IntKind.wrap IntKind.i64 ((↑(List.length a0) : Int) + (2 : Int)))) (Token.mk (0 : Int) [] (0 : Int) (0 : Int)))) a0 ++ List.drop (List.length a0) (List.replicate (Int.toNat (IntKind.wrap IntKind.i64 ((↑(List.length a0) : Int) + (2 : Int)))) (Token.mk (0 : Int) [] (0 : Int) (0 : Int))))) : Int)) then
        Option.bind ((List.take (List.length (List.replicate (Int.toNat (IntKind.wrap IntKind.i64 ((↑(List.length a0) : Int) + (2 : Int)))) (Token.mk (0 : Int) [] (0 : Int) (0 : Int)))) a0 ++ List.drop (List.length a0) (List.replicate (Int.toNat (IntKind.wrap IntKind.i64 ((↑(List.length a0) : Int) + (2 : Int)))) (Token.mk (0 : Int) [] (0 : Int) (0 : Int))))[Int.toNat (↑(List.length a0) : Int)]?) fun y1 =>
        bif decide ((0 : Int) ≤ IntKind.wrap IntKind.i64 ((↑(List.length a0) : Int) + (1 : Int))) && decide (IntKind.wrap IntKind.i64 ((↑(List.length a0) : Int) + (1 : Int)) < (↑(List.length (List.set (List.take (List.length (List.replicate (Int.toNat (IntKind.wrap IntKind.i64 ((↑(List.length a0) : Int) + (2 : Int)))) (Token.mk (0 : Int) [] (0 : Int) (0 : Int)))) a0 ++ List.drop (List.length a0) (List.replicate (Int.toNat (IntKind.wrap IntKind.i64 ((↑(List.length a0) : Int) + (2 : Int)))) (Token.mk (0 : Int) [] (0 : Int) (0 : Int)))) (Int.toNat (↑(List.length a0) : Int)) (Token.mk (-77 : Int) [] (0 : Int) (0 : Int)))) : Int)) then
          Option.bind ((List.set (List.take (List.length (List.replicate (Int.toNat (IntKind.wrap IntKind.i64 ((↑(List.length a0) : Int) + (2 : Int)))) (Token.mk (0 : Int) [] (0 : Int) (0 : Int)))) a0 ++ List.drop (List.length a0) (List.replicate (Int.toNat (IntKind.wrap IntKind.i64 ((↑(List.length a0) : Int) + (2 : Int)))) (Token.mk (0 : Int) [] (0 : Int) (0 : Int)))) (Int.toNat (↑(List.length a0) : Int)) (Token.mk (-77 : Int) [] (0 : Int) (0 : Int)))[Int.toNat (IntKind.wrap IntKind.i64 ((↑(List.length a0) : Int) + (1 : Int)))]?) fun y2 =>
          Option.bind (racetreeref02_Join a0) fun y3 =>
          bif decide ((0 : Int) ≤ (0 : Int)) && (decide ((0 : Int) ≤ (↑(List.length a0) : Int)) && decide ((↑(List.length a0) : Int) ≤ (↑(List.length (List.set (List.set (List.take (List.length (List.replicate (Int.toNat (IntKind.wrap IntKind.i64 ((↑(List.length a0) : Int) + (2 : Int)))) (Token.mk (0 : Int) [] (0 : Int) (0 : Int)))) a0 ++ List.drop (List.length a0) (List.replicate (Int.toNat (IntKind.wrap IntKind.i64 ((↑(List.length a0) : Int) + (2 : Int)))) (Token.mk (0 : Int) [] (0 : Int) (0 : Int)))) (Int.toNat (↑(List.length a0) : Int)) (Token.mk (-77 : Int) [] (0 : Int) (0 : Int))) (Int.toNat (IntKind.wrap IntKind.i64 ((↑(List.length a0) : Int) + (1 : Int)))) (Token.mk (-78 : Int) [] (0 : Int) (0 : Int)))) : Int))) then
            Option.bind (lex_Join (List.drop (0 : Nat) (List.take (Int.toNat (↑(List.length a0) : Int)) (List.set (List.set (List.take (List.length (List.replicate (Int.toNat (IntKind.wrap IntKind.i64 ((↑(List.length a0) : Int) + (2 : Int)))) (Token.mk (0 : Int) [] (0 : Int) (0 : Int)))) a0 ++ List.drop (List.length a0) (List.replicate (Int.toNat (IntKind.wrap IntKind.i64 ((↑(List.length a0) : Int) + (2 : Int)))) (Token.mk (0 : Int) [] (0 : Int) (0 : Int)))) (Int.toNat (↑(List.length a0) : Int)) (Token.mk (-77 : Int) [] (0 : Int) (0 : Int))) (Int.toNat (IntKind.wrap IntKind.i64 ((↑(List.length a0) : Int) + (1 : Int)))) (Token.mk (-78 : Int) [] (0 : Int) (0 : Int)))))) fun y4 =>
            bif decide ((0 : Int) ≤ (↑(List.length a0) : Int)) && decide ((↑(List.length a0) : Int) < (↑(List.length (List.set (List.set (List.take (List.length (List.replicate (Int.toNat (IntKind.wrap IntKind.i64 ((↑(List.length a0) : Int) + (2 : Int)))) (Token.mk (0 : Int) [] (0 : Int) (0 : Int)))) a0 ++ List.drop (List.length a0) (List.replicate (Int.toNat (IntKind.wrap IntKind.i64 ((↑(List.length a0) : Int) + (2 : Int)))) (Token.mk (0 : Int) [] (0 : Int) (0 : Int)))) (Int.toNat (↑(List.length a0) : Int)) (Token.mk (-77 : Int) [] (0 : Int) (0 : Int))) (Int.toNat (IntKind.wrap IntKind.i64 ((↑(List.length a0) : Int) + (1 : Int)))) (Token.mk (-78 : Int) [] (0 : Int) (0 : Int)))) : Int)) then
              Option.bind ((List.set (List.set (List.take (List.length (List.replicate (Int.toNat (IntKind.wrap IntKind.i64 ((↑(List.length a0) : Int) + (2 : Int)))) (Token.mk (0 : Int) [] (0 : Int) (0 : Int)))) a0 ++ List.drop (List.length a0) (List.replicate (Int.toNat (IntKind.wrap IntKind.i64 ((↑(List.length a0) : Int) + (2 : Int)))) (Token.mk (0 : Int) [] (0 : Int) (0 : Int)))) (Int.toNat (↑(List.length a0) : Int)) (Token.mk (-77 : Int) [] (0 : Int) (0 : Int))) (Int.toNat (IntKind.wrap IntKind.i64 ((↑(List.length a0) : Int) + (1 : Int)))) (Token.mk (-78 : Int) [] (0 : Int) (0 : Int)))[Int.toNat (↑(List.length a0) : Int)]?) fun y5 =>
              bif Token.kind y5 == (-77 : Int) then
                bif decide ((0 : Int) ≤ IntKind.wrap IntKind.i64 ((↑(List.length a0) : Int) + (1 : Int))) && decide (IntKind.wrap IntKind.i64 ((↑(List.length a0) : Int) + (1 : Int)) < (↑(List.length (List.set (List.set (List.take (List.length (List.replicate (Int.toNat (IntKind.wrap IntKind.i64 ((↑(List.length a0) : Int) + (2 : Int)))) (Token.mk (0 : Int) [] (0 : Int) (0 : Int)))) a0 ++ List.drop (List.length a0) (List.replicate (Int.toNat (IntKind.wrap IntKind.i64 ((↑(List.length a0) : Int) + (2 : Int)))) (Token.mk (0 : Int) [] (0 : Int) (0 : Int)))) (Int.toNat (↑(List.length a0) : Int)) (Token.mk (-77 : Int) [] (0 : Int) (0 : Int))) (Int.toNat (IntKind.wrap IntKind.i64 ((↑(List.length a0) : Int) + (1 : Int)))) (Token.mk (-78 : Int) [] (0 : Int) (0 : Int)))) : Int)) then
                  Option.bind ((List.set (List.set (List.take (List.length (List.replicate (Int.toNat (IntKind.wrap IntKind.i64 ((↑(List.length a0) : Int) + (2 : Int)))) (Token.mk (0 : Int) [] (0 : Int) (0 : Int)))) a0 ++ List.drop (List.length a0) (List.replicate (Int.toNat (IntKind.wrap IntKind.i64 ((↑(List.length a0) : Int) + (2 : Int)))) (Token.mk (0 : Int) [] (0 : Int) (0 : Int)))) (Int.toNat (↑(List.length a0) : Int)) (Token.mk (-77 : Int) [] (0 : Int) (0 : Int))) (Int.toNat (IntKind.wrap IntKind.i64 ((↑(List.length a0) : Int) + (1 : Int)))) (Token.mk (-78 : Int) [] (0 : Int) (0 : Int)))[Int.toNat (IntKind.wrap IntKind.i64 ((↑(List.length a0) : Int) + (1 : Int)))]?) fun y6 =>
                  Option.bind (racetreelaw02_LexJoins_l10 a0 y0 (List.set (List.set (List.take (List.length (List.replicate (Int.toNat (IntKind.wrap IntKind.i64 ((↑(List.length a0) : Int) + (2 : Int)))) (Token.mk (0 : Int) [] (0 : Int) (0 : Int)))) a0 ++ List.drop (List.length a0) (List.replicate (Int.toNat (IntKind.wrap IntKind.i64 ((↑(List.length a0) : Int) + (2 : Int)))) (Token.mk (0 : Int) [] (0 : Int) (0 : Int)))) (Int.toNat (↑(List.length a0) : Int)) (Token.mk (-77 : Int) [] (0 : Int) (0 : Int))) (Int.toNat (IntKind.wrap IntKind.i64 ((↑(List.length a0) : Int) + (1 : Int)))) (Token.mk (-78 : Int) [] (0 : Int) (0 : Int))) (Prod.fst y3) (Prod.snd y3) (Prod.fst y4) (Prod.snd y4) (Token.kind y6 == (-78 : Int)) (0 : Int)) fun y7 =>
                  bif Prod.fst y7 then
                    bif Prod.fst (Prod.snd (Prod.snd (Prod.snd (Prod.snd y7)))) == Prod.fst (Prod.snd (Prod.snd y7)) then
                      bif Prod.fst (Prod.snd (Prod.snd (Prod.snd y7))) == Prod.fst (Prod.snd y7) then
                        some (Prod.snd (Prod.snd (Prod.snd (Prod.snd (Prod.snd y7)))))
                      else
                        some (false)
                    else
                      some (false)
                  else
                    some (false)
                else
                  none
              else
                Option.bind (racetreelaw02_LexJoins_l10 a0 y0 (List.set (List.set (List.take (List.length (List.replicate (Int.toNat (IntKind.wrap IntKind.i64 ((↑(List.length a0) : Int) + (2 : Int)))) (Token.mk (0 : Int) [] (0 : Int) (0 : Int)))) a0 ++ List.drop (List.length a0) (List.replicate (Int.toNat (IntKind.wrap IntKind.i64 ((↑(List.length a0) : Int) + (2 : Int)))) (Token.mk (0 : Int) [] (0 : Int) (0 : Int)))) (Int.toNat (↑(List.length a0) : Int)) (Token.mk (-77 : Int) [] (0 : Int) (0 : Int))) (Int.toNat (IntKind.wrap IntKind.i64 ((↑(List.length a0) : Int) + (1 : Int)))) (Token.mk (-78 : Int) [] (0 : Int) (0 : Int))) (Prod.fst y3) (Prod.snd y3) (Prod.fst y4) (Prod.snd y4) false (0 : Int)) fun y8 =>
                bif Prod.fst y8 then
                  bif Prod.fst (Prod.snd (Prod.snd (Prod.snd (Prod.snd y8)))) == Prod.fst (Prod.snd (Prod.snd y8)) then
                    bif Prod.fst (Prod.snd (Prod.snd (Prod.snd y8))) == Prod.fst (Prod.snd y8) then
                      some (Prod.snd (Prod.snd (Prod.snd (Prod.snd (Prod.snd y8)))))
                    else
                      some (false)
                  else
                    some (false)
                else
                  some (false)
            else
              none
          else
            none
        else
          none
      else
        none
    else
      none

noncomputable def racetreelaw02_LexJoins : List (Token) → Option (Bool) := sealF racetreelaw02_LexJoins_f

end Lift.Fn

