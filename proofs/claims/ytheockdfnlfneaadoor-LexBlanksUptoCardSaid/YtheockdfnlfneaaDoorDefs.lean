/-
  DERIVED. The functions of this seat as Lean has them; the library's modes. Conditions: none.
-/
import Derived.Test.YtheockdfnlfneaaDoorLiftC
import Derived.Test.YtheockdfnlfneaaDoorProg
import Derived.KernelRfl
set_option linter.unusedVariables false
set_option linter.unusedSimpArgs false
set_option linter.unusedSectionVars false
namespace Lift.B2
open Go Go.RowKit Go.Proofs Lift

@[reducible] noncomputable def U (n : Nat) : Type := match n with
  | 31 => Fault
  | 38 => Token
  | 49 => Spot
  | _ => Empty

noncomputable def cells (n : Nat) : U n → List (TV U) := match n with
  | 31 => fun (x : Fault) => [⟨.int .i64, x.code⟩, ⟨.int .i64, x.at_⟩, ⟨.str, x.name⟩]
  | 38 => fun (x : Token) => [⟨.int .i64, x.kind⟩, ⟨.str, x.text⟩, ⟨.int .i64, x.num⟩, ⟨.int .i64, x.at_⟩]
  | 49 => fun (x : Spot) => [⟨.int .i64, x.rune⟩, ⟨.int .i64, x.at_⟩, ⟨.int .i64, x.line⟩, ⟨.int .i64, x.col⟩]
  | _ => fun _ => []

noncomputable def ctys (n : Nat) : List Ty := match n with
  | 31 => [.int .i64, .int .i64, .str]
  | 38 => [.int .i64, .str, .int .i64, .int .i64]
  | 49 => [.int .i64, .int .i64, .int .i64, .int .i64]
  | _ => []

noncomputable def make (n : Nat) : List (TV U) → Option (U n) := match n with
  | 31 => fun | [⟨.int .i64, v0⟩, ⟨.int .i64, v1⟩, ⟨.str, v2⟩] => some (Fault.mk v0 v1 v2) | _ => none
  | 38 => fun | [⟨.int .i64, v0⟩, ⟨.str, v1⟩, ⟨.int .i64, v2⟩, ⟨.int .i64, v3⟩] => some (Token.mk v0 v1 v2 v3) | _ => none
  | 49 => fun | [⟨.int .i64, v0⟩, ⟨.int .i64, v1⟩, ⟨.int .i64, v2⟩, ⟨.int .i64, v3⟩] => some (Spot.mk v0 v1 v2 v3) | _ => none
  | _ => fun _ => none

@[reducible] noncomputable def uni : Uni where
  U := U
  cells := cells
  ctys := ctys
  make := make
  make_ok := by
    intro n cs x h
    unfold make at h
    split at h
    · dsimp only at h
      split at h
      · cases h; rfl
      · cases h
    · dsimp only at h
      split at h
      · cases h; rfl
      · cases h
    · dsimp only at h
      split at h
      · cases h; rfl
      · cases h
    · cases h
  tys_ok := by
    intro n x
    unfold cells ctys
    split <;> rfl
  flat_ok := by
    intro n t h
    have : ∀ n, (ctys n).all Ty.flat = true := by
      intro n
      unfold ctys
      split <;> rfl
    exact List.all_eq_true.1 (this n) t h

noncomputable def tyOf : TypeId → Option Ty
  | 1 => some (.fn)
  | 2 => some (.int .i64)
  | 3 => some (.int .i64)
  | 4 => some (.bool)
  | 5 => some (.int .u8)
  | 6 => some (.int .u8)
  | 9 => some (.str)
  | 10 => some (.str)
  | 11 => some (.str)
  | 12 => some (.int .u64)
  | 21 => some (.int .i32)
  | 22 => some (.fn)
  | 23 => some (.slc (.str))
  | 24 => some (.fn)
  | 25 => some (.fn)
  | 26 => some (.slc (.st 38))
  | 27 => some (.int .i64)
  | 29 => some (.fn)
  | 31 => some (.st 31)
  | 33 => some (.fn)
  | 34 => some (.fn)
  | 35 => some (.fn)
  | 36 => some (.fn)
  | 38 => some (.st 38)
  | 39 => some (.slc (.st 49))
  | 41 => some (.fn)
  | 42 => some (.fn)
  | 43 => some (.fn)
  | 44 => some (.fn)
  | 45 => some (.fn)
  | 47 => some (.fn)
  | 49 => some (.st 49)
  | 51 => some (.fn)
  | 53 => some (.slc (.int .u8))
  | 56 => some (.fn)
  | 58 => some (.err)
  | 60 => some (.fn)
  | 61 => some (.fn)
  | 63 => some (.fn)
  | 64 => some (.fn)
  | 65 => some (.fn)
  | 67 => some (.fn)
  | 68 => some (.fn)
  | 70 => some (.fn)
  | 71 => some (.fn)
  | 72 => some (.fn)
  | 77 => some (.int .u64)
  | 79 => some (.fn)
  | 80 => some (.fn)
  | 81 => some (.fn)
  | 82 => some (.fn)
  | 83 => some (.fn)
  | 84 => some (.int .u64)
  | 86 => some (.fn)
  | 87 => some (.fn)
  | 88 => some (.fn)
  | 89 => some (.fn)
  | 93 => some (.fn)
  | 94 => some (.fn)
  | 96 => some (.fn)
  | 97 => some (.fn)
  | 98 => some (.fn)
  | 99 => some (.int .i64)
  | 101 => some (.fn)
  | 103 => some (.fn)
  | 104 => some (.fn)
  | 105 => some (.fn)
  | 106 => some (.fn)
  | 108 => some (.fn)
  | 111 => some (.fn)
  | 112 => some (.fn)
  | 113 => some (.int .u32)
  | 115 => some (.fn)
  | 116 => some (.fn)
  | 120 => some (.fn)
  | 122 => some (.fn)
  | 123 => some (.fn)
  | 125 => some (.fn)
  | 126 => some (.fn)
  | 129 => some (.fn)
  | 130 => some (.fn)
  | 138 => some (.fn)
  | 139 => some (.int .u8)
  | 140 => some (.int .u8)
  | 141 => some (.fn)
  | 142 => some (.int .i32)
  | 143 => some (.int .i32)
  | _ => none

noncomputable def eqOf (T : TypeId) (n : Nat) : Option (U n → U n → Bool) := match n with
  | 31 => bif Nat.beq T 31 then some fun (a b : Fault) => decide (a = b) else none
  | 38 => bif Nat.beq T 38 then some fun (a b : Token) => decide (a = b) else none
  | 49 => bif Nat.beq T 49 then some fun (a b : Spot) => decide (a = b) else none
  | _ => none

@[reducible] noncomputable def kk : Kit := { P := Tryd.prog, u := uni, tyOf, eqOf, modes := fun _ => [] }

theorem eqOk : EqOk kk := by
  refine eqOk_flat fun T n f h => ?_
  change eqOf T n = some f at h
  change flatStruct Tryd.prog T (ctys n) = true ∧ ∀ a b : U n, f a b = cellsEq (cells n a) (cells n b)
  unfold eqOf at h
  split at h
  · cases hb : Nat.beq T 31 with
    | true =>
      rw [hb] at h
      cases Nat.eq_of_beq_eq_true hb
      cases h
      refine ⟨by kernel_rfl, ?_⟩
      rintro ⟨a0, a1, a2⟩ ⟨b0, b1, b2⟩
      simp [cells, cellsEq, scalarEq, cond_eq_ite, Bool.decide_and]
    | false => rw [hb] at h; cases h
  · cases hb : Nat.beq T 38 with
    | true =>
      rw [hb] at h
      cases Nat.eq_of_beq_eq_true hb
      cases h
      refine ⟨by kernel_rfl, ?_⟩
      rintro ⟨a0, a1, a2, a3⟩ ⟨b0, b1, b2, b3⟩
      simp [cells, cellsEq, scalarEq, cond_eq_ite, Bool.decide_and]
    | false => rw [hb] at h; cases h
  · cases hb : Nat.beq T 49 with
    | true =>
      rw [hb] at h
      cases Nat.eq_of_beq_eq_true hb
      cases h
      refine ⟨by kernel_rfl, ?_⟩
      rintro ⟨a0, a1, a2, a3⟩ ⟨b0, b1, b2, b3⟩
      simp [cells, cellsEq, scalarEq, cond_eq_ite, Bool.decide_and]
    | false => rw [hb] at h; cases h
  · cases h

theorem mixed : kk.P.follows .mixedOrders = true := by kernel_rfl
end Lift.B2

/- The library's modes. -/
namespace Lift.B2
open Go Go.RowKit Go.Proofs Lift Lift.Fn

noncomputable def strings_Join_md : Mode U := ⟨⟨⟨[0, 1], [], []⟩, [.t (.slc .str), .t .str], []⟩, [], [⟨⟨[0], [], []⟩, [.t .str], []⟩], fun ls => match ls with | [⟨.slc .str, a0⟩, ⟨.str, a1⟩] => .get (strings_Join a0 a1) (fun r => .ret (0, [⟨.str, r⟩])) | _ => .fail⟩
noncomputable def strings_Contains_md : Mode U := ⟨⟨⟨[0, 1], [], []⟩, [.t .str, .t .str], []⟩, [], [⟨⟨[0], [], []⟩, [.t .bool], []⟩], fun ls => match ls with | [⟨.str, a0⟩, ⟨.str, a1⟩] => .get (strings_Contains a0 a1) (fun r => .ret (0, [⟨.bool, r⟩])) | _ => .fail⟩
noncomputable def unicode_utf8_DecodeRuneInString_md : Mode U := ⟨⟨⟨[0], [], []⟩, [.t .str], []⟩, [], [⟨⟨[0, 1], [], []⟩, [.t (.int .i32), .t (.int .i64)], []⟩], fun ls => match ls with | [⟨.str, a0⟩] => .get (unicode_utf8_DecodeRuneInString a0) (fun r => .ret (0, [⟨.int .i32, r.1⟩, ⟨.int .i64, r.2⟩])) | _ => .fail⟩
noncomputable def unicode_utf8_RuneCountInString_md : Mode U := ⟨⟨⟨[0], [], []⟩, [.t .str], []⟩, [], [⟨⟨[0], [], []⟩, [.t (.int .i64)], []⟩], fun ls => match ls with | [⟨.str, a0⟩] => .get (unicode_utf8_RuneCountInString a0) (fun r => .ret (0, [⟨.int .i64, r⟩])) | _ => .fail⟩
noncomputable def unicode_utf8_ValidString_md : Mode U := ⟨⟨⟨[0], [], []⟩, [.t .str], []⟩, [], [⟨⟨[0], [], []⟩, [.t .bool], []⟩], fun ls => match ls with | [⟨.str, a0⟩] => .get (unicode_utf8_ValidString a0) (fun r => .ret (0, [⟨.bool, r⟩])) | _ => .fail⟩
noncomputable def strings_Trim_md : Mode U := ⟨⟨⟨[0, 1], [], []⟩, [.t .str, .t .str], []⟩, [], [⟨⟨[0], [], []⟩, [.t .str], []⟩], fun ls => match ls with | [⟨.str, a0⟩, ⟨.str, a1⟩] => .get (strings_Trim a0 a1) (fun r => .ret (0, [⟨.str, r⟩])) | _ => .fail⟩
noncomputable def strconv_Atoi_md : Mode U := ⟨⟨⟨[0], [], []⟩, [.t .str], []⟩, [], [⟨⟨[0, 1], [], []⟩, [.t (.int .i64), .t .err], []⟩], fun ls => match ls with | [⟨.str, a0⟩] => .get (strconv_Atoi a0) (fun r => .ret (0, [⟨.int .i64, r.1⟩, ⟨.err, r.2⟩])) | _ => .fail⟩

noncomputable def ms0 : List (FuncId × Mode U) := []
noncomputable def ms1 : List (FuncId × Mode U) := (16, strings_Join_md) :: ms0
noncomputable def ms2 : List (FuncId × Mode U) := (43, strings_Contains_md) :: ms1
noncomputable def ms3 : List (FuncId × Mode U) := (27, unicode_utf8_DecodeRuneInString_md) :: ms2
noncomputable def ms4 : List (FuncId × Mode U) := (34, unicode_utf8_RuneCountInString_md) :: ms3
noncomputable def ms5 : List (FuncId × Mode U) := (21, unicode_utf8_ValidString_md) :: ms4
noncomputable def ms6 : List (FuncId × Mode U) := (44, strings_Trim_md) :: ms5
noncomputable def ms7 : List (FuncId × Mode U) := (45, strconv_Atoi_md) :: ms6
end Lift.B2

/- The library's modes hold of this program. -/
namespace Go.Proofs
open Go.Shelf Go.RowKit
def Tryd.laysJoin_ren : Go.Shelf.Ren := ⟨fun | 156 => 16 | 165 => 22 | 166 => 23 | 169 => 24 | 240 => 38 | 241 => 39 | 276 => 49 | 277 => 50 | n => n, fun | 31 => 23 | 9 => 9 | 3 => 3 | 4 => 4 | 0 => 0 | 20 => 20 | 72 => 55 | 76 => 59 | 70 => 52 | 37 => 53 | 75 => 58 | 127 => 78 | 164 => 85 | 5 => 5 | 80 => 61 | n => n, fun | n => n⟩
theorem Tryd.laysJoin : Go.Proofs.Lays.n156 Tryd.prog Tryd.laysJoin_ren where
  mixed := by kernel_rfl
  f156 := Tryd.func16.trans (congrArg some (by kernel_rfl))
  f165 := Tryd.func22.trans (congrArg some (by kernel_rfl))
  f166 := Tryd.func23.trans (congrArg some (by kernel_rfl))
  f169 := Tryd.func24.trans (congrArg some (by kernel_rfl))
  f240 := Tryd.func38.trans (congrArg some (by kernel_rfl))
  f241 := Tryd.func39.trans (congrArg some (by kernel_rfl))
  f276 := Tryd.func49.trans (congrArg some (by kernel_rfl))
  f277 := Tryd.func50.trans (congrArg some (by kernel_rfl))
  t0 := Tryd.underlying0
  a0 := Tryd.isAgg0
  z0 := Tryd.sizeOf0
  v0 := Tryd.zeroValue0
  t3 := Tryd.underlying3
  a3 := Tryd.isAgg3
  z3 := Tryd.sizeOf3
  v3 := Tryd.zeroValue3
  t4 := Tryd.underlying4
  a4 := Tryd.isAgg4
  z4 := Tryd.sizeOf4
  v4 := Tryd.zeroValue4
  t9 := Tryd.underlying9
  a9 := Tryd.isAgg9
  z9 := Tryd.sizeOf9
  v9 := Tryd.zeroValue9
  t20 := Tryd.underlying20
  a20 := Tryd.isAgg20
  z20 := Tryd.sizeOf20
  v20 := Tryd.zeroValue20
  t31 := Tryd.underlying23
  a31 := Tryd.isAgg23
  z31 := Tryd.sizeOf23
  v31 := Tryd.zeroValue23
  t37 := Tryd.underlying53
  a37 := Tryd.isAgg53
  z37 := Tryd.sizeOf53
  v37 := Tryd.zeroValue53
  t70 := Tryd.underlying52
  a70 := Tryd.isAgg52
  z70 := Tryd.sizeOf52
  v70 := Tryd.zeroValue52
  t72 := Tryd.underlying55
  a72 := Tryd.isAgg55
  z72 := Tryd.sizeOf55
  v72 := Tryd.zeroValue55
  t75 := Tryd.underlying58
  a75 := Tryd.isAgg58
  z75 := Tryd.sizeOf58
  v75 := Tryd.zeroValue58
  t76 := Tryd.underlying59
  a76 := Tryd.isAgg59
  z76 := Tryd.sizeOf59
  v76 := Tryd.zeroValue59
  t127 := Tryd.underlying78
  a127 := Tryd.isAgg78
  z127 := Tryd.sizeOf78
  v127 := Tryd.zeroValue78
  t164 := Tryd.underlying85
  a164 := Tryd.isAgg85
  z164 := Tryd.sizeOf85
  v164 := Tryd.zeroValue85

def Tryd.laysContains_ren : Go.Shelf.Ren := ⟨fun | 144 => 43 | 143 => 52 | 219 => 63 | 217 => 72 | 225 => 73 | 224 => 74 | 267 => 75 | 266 => 82 | 314 => 83 | n => n, fun | 9 => 9 | 4 => 4 | 3 => 3 | 5 => 5 | 46 => 77 | 146 => 114 | 51 => 113 | n => n, fun | 1 => 2 | n => n⟩
theorem Tryd.laysContains : Go.Proofs.LaysM.n144 Tryd.prog Tryd.laysContains_ren where
  mixed := by kernel_rfl
  f143 := Tryd.func52.trans (congrArg some (by kernel_rfl))
  f144 := Tryd.func43.trans (congrArg some (by kernel_rfl))
  f217 := Tryd.func72.trans (congrArg some (by kernel_rfl))
  f219 := Tryd.func63.trans (congrArg some (by kernel_rfl))
  f224 := Tryd.func74.trans (congrArg some (by kernel_rfl))
  f225 := Tryd.func73.trans (congrArg some (by kernel_rfl))
  f266 := Tryd.func82.trans (congrArg some (by kernel_rfl))
  f267 := Tryd.func75.trans (congrArg some (by kernel_rfl))
  f314 := Tryd.func83.trans (congrArg some (by kernel_rfl))
  t3 := Tryd.underlying3
  a3 := Tryd.isAgg3
  z3 := Tryd.sizeOf3
  v3 := Tryd.zeroValue3
  t4 := Tryd.underlying4
  a4 := Tryd.isAgg4
  z4 := Tryd.sizeOf4
  v4 := Tryd.zeroValue4
  t5 := Tryd.underlying5
  a5 := Tryd.isAgg5
  z5 := Tryd.sizeOf5
  v5 := Tryd.zeroValue5
  t9 := Tryd.underlying9
  a9 := Tryd.isAgg9
  z9 := Tryd.sizeOf9
  v9 := Tryd.zeroValue9
  t46 := Tryd.underlying77
  a46 := Tryd.isAgg77
  z46 := Tryd.sizeOf77
  v46 := Tryd.zeroValue77
  t51 := Tryd.underlying113
  a51 := Tryd.isAgg113
  z51 := Tryd.sizeOf113
  v51 := Tryd.zeroValue113
  t146 := Tryd.underlying114
  a146 := Tryd.isAgg114
  z146 := Tryd.sizeOf114
  v146 := Tryd.zeroValue114
  g1 := by kernel_rfl
  i3 := by kernel_rfl
  i4 := by kernel_rfl
  i5 := by kernel_rfl
  i9 := by kernel_rfl
  i46 := by kernel_rfl
  i51 := by kernel_rfl
  i146 := by kernel_rfl
  m1 := by kernel_rfl
  s1_3 := fun w h => Go.Proofs.cell_of_shapedOpen_int (zero := #[.int .i64 0]) (t := 3) h (of_decide_eq_true (by kernel_rfl)) (by kernel_rfl) rfl (by kernel_rfl) (by kernel_rfl) Tryd.underlying3

def Tryd.laysDecode_ren : Go.Shelf.Ren := ⟨fun | 197 => 27 | 260 => 41 | n => n, fun | 9 => 9 | 21 => 21 | 3 => 3 | 4 => 4 | 5 => 5 | 105 => 62 | 119 => 73 | 0 => 0 | 46 => 77 | 139 => 76 | 138 => 75 | n => n, fun | 3 => 0 | 4 => 1 | n => n⟩
theorem Tryd.laysDecode : Go.Proofs.Lays.n197 Tryd.prog Tryd.laysDecode_ren where
  mixed := by kernel_rfl
  f197 := Tryd.func27.trans (congrArg some (by kernel_rfl))
  f260 := Tryd.func41.trans (congrArg some (by kernel_rfl))
  t0 := Tryd.underlying0
  a0 := Tryd.isAgg0
  z0 := Tryd.sizeOf0
  v0 := Tryd.zeroValue0
  t3 := Tryd.underlying3
  a3 := Tryd.isAgg3
  z3 := Tryd.sizeOf3
  v3 := Tryd.zeroValue3
  t4 := Tryd.underlying4
  a4 := Tryd.isAgg4
  z4 := Tryd.sizeOf4
  v4 := Tryd.zeroValue4
  t5 := Tryd.underlying5
  a5 := Tryd.isAgg5
  z5 := Tryd.sizeOf5
  v5 := Tryd.zeroValue5
  t9 := Tryd.underlying9
  a9 := Tryd.isAgg9
  z9 := Tryd.sizeOf9
  v9 := Tryd.zeroValue9
  t21 := Tryd.underlying21
  a21 := Tryd.isAgg21
  z21 := Tryd.sizeOf21
  v21 := Tryd.zeroValue21
  t46 := Tryd.underlying77
  a46 := Tryd.isAgg77
  z46 := Tryd.sizeOf77
  v46 := Tryd.zeroValue77
  t105 := Tryd.underlying62
  a105 := Tryd.isAgg62
  z105 := Tryd.sizeOf62
  v105 := Tryd.zeroValue62
  t119 := Tryd.underlying73
  a119 := Tryd.isAgg73
  z119 := Tryd.sizeOf73
  t138 := Tryd.underlying75
  a138 := Tryd.isAgg75
  z138 := Tryd.sizeOf75
  v138 := Tryd.zeroValue75
  t139 := Tryd.underlying76
  a139 := Tryd.isAgg76
  z139 := Tryd.sizeOf76
  v139 := Tryd.zeroValue76
  g3 := by kernel_rfl
  g4 := by kernel_rfl

def Tryd.laysCount_ren : Go.Shelf.Ren := ⟨fun | 195 => 34 | n => n, fun | 9 => 9 | 3 => 3 | 0 => 0 | 4 => 4 | n => n, fun | n => n⟩
theorem Tryd.laysCount : Go.Proofs.Lays.n195 Tryd.prog Tryd.laysCount_ren where
  mixed := by kernel_rfl
  f195 := Tryd.func34.trans (congrArg some (by kernel_rfl))
  t0 := Tryd.underlying0
  a0 := Tryd.isAgg0
  z0 := Tryd.sizeOf0
  v0 := Tryd.zeroValue0
  t3 := Tryd.underlying3
  a3 := Tryd.isAgg3
  z3 := Tryd.sizeOf3
  v3 := Tryd.zeroValue3
  t4 := Tryd.underlying4
  a4 := Tryd.isAgg4
  z4 := Tryd.sizeOf4
  v4 := Tryd.zeroValue4
  t9 := Tryd.underlying9
  a9 := Tryd.isAgg9
  z9 := Tryd.sizeOf9
  v9 := Tryd.zeroValue9

def Tryd.laysValid_ren : Go.Shelf.Ren := ⟨fun | 196 => 21 | 259 => 37 | n => n, fun | 9 => 9 | 4 => 4 | 3 => 3 | 5 => 5 | 12 => 12 | 119 => 73 | 0 => 0 | 46 => 77 | 139 => 76 | 138 => 75 | 53 => 84 | n => n, fun | 3 => 0 | 4 => 1 | n => n⟩
theorem Tryd.laysValid : Go.Proofs.Lays.n196 Tryd.prog Tryd.laysValid_ren where
  mixed := by kernel_rfl
  f196 := Tryd.func21.trans (congrArg some (by kernel_rfl))
  f259 := Tryd.func37.trans (congrArg some (by kernel_rfl))
  t0 := Tryd.underlying0
  a0 := Tryd.isAgg0
  z0 := Tryd.sizeOf0
  v0 := Tryd.zeroValue0
  t3 := Tryd.underlying3
  a3 := Tryd.isAgg3
  z3 := Tryd.sizeOf3
  v3 := Tryd.zeroValue3
  t4 := Tryd.underlying4
  a4 := Tryd.isAgg4
  z4 := Tryd.sizeOf4
  v4 := Tryd.zeroValue4
  t5 := Tryd.underlying5
  a5 := Tryd.isAgg5
  z5 := Tryd.sizeOf5
  v5 := Tryd.zeroValue5
  t9 := Tryd.underlying9
  a9 := Tryd.isAgg9
  z9 := Tryd.sizeOf9
  v9 := Tryd.zeroValue9
  t12 := Tryd.underlying12
  a12 := Tryd.isAgg12
  z12 := Tryd.sizeOf12
  v12 := Tryd.zeroValue12
  t46 := Tryd.underlying77
  a46 := Tryd.isAgg77
  z46 := Tryd.sizeOf77
  v46 := Tryd.zeroValue77
  t53 := Tryd.underlying84
  a53 := Tryd.isAgg84
  z53 := Tryd.sizeOf84
  v53 := Tryd.zeroValue84
  t119 := Tryd.underlying73
  a119 := Tryd.isAgg73
  z119 := Tryd.sizeOf73
  t138 := Tryd.underlying75
  a138 := Tryd.isAgg75
  z138 := Tryd.sizeOf75
  v138 := Tryd.zeroValue75
  t139 := Tryd.underlying76
  a139 := Tryd.isAgg76
  z139 := Tryd.sizeOf76
  v139 := Tryd.zeroValue76
  g3 := by kernel_rfl
  g4 := by kernel_rfl

def Tryd.laysTrim_ren : Go.Shelf.Ren := ⟨fun | 160 => 44 | 232 => 54 | 231 => 53 | 227 => 55 | 234 => 57 | 233 => 56 | 236 => 59 | 235 => 58 | 228 => 64 | 271 => 66 | 151 => 65 | 197 => 27 | 120 => 77 | 152 => 76 | 260 => 41 | 137 => 84 | 119 => 62 | 224 => 74 | 225 => 73 | 217 => 72 | 266 => 82 | n => n, fun | 9 => 9 | 4 => 4 | 3 => 3 | 5 => 5 | 117 => 92 | 116 => 91 | 0 => 0 | 124 => 95 | 21 => 21 | 105 => 62 | 46 => 77 | 119 => 73 | 139 => 76 | 138 => 75 | n => n, fun | 3 => 0 | 4 => 1 | n => n⟩
theorem Tryd.laysTrim : Go.Proofs.Lays.n160 Tryd.prog Tryd.laysTrim_ren where
  mixed := by kernel_rfl
  f119 := Tryd.func62.trans (congrArg some (by kernel_rfl))
  f120 := Tryd.func77.trans (congrArg some (by kernel_rfl))
  f137 := Tryd.func84.trans (congrArg some (by kernel_rfl))
  f151 := Tryd.func65.trans (congrArg some (by kernel_rfl))
  f152 := Tryd.func76.trans (congrArg some (by kernel_rfl))
  f160 := Tryd.func44.trans (congrArg some (by kernel_rfl))
  f197 := Tryd.func27.trans (congrArg some (by kernel_rfl))
  f217 := Tryd.func72.trans (congrArg some (by kernel_rfl))
  f224 := Tryd.func74.trans (congrArg some (by kernel_rfl))
  f225 := Tryd.func73.trans (congrArg some (by kernel_rfl))
  f227 := Tryd.func55.trans (congrArg some (by kernel_rfl))
  f228 := Tryd.func64.trans (congrArg some (by kernel_rfl))
  f231 := Tryd.func53.trans (congrArg some (by kernel_rfl))
  f232 := Tryd.func54.trans (congrArg some (by kernel_rfl))
  f233 := Tryd.func56.trans (congrArg some (by kernel_rfl))
  f234 := Tryd.func57.trans (congrArg some (by kernel_rfl))
  f235 := Tryd.func58.trans (congrArg some (by kernel_rfl))
  f236 := Tryd.func59.trans (congrArg some (by kernel_rfl))
  f260 := Tryd.func41.trans (congrArg some (by kernel_rfl))
  f266 := Tryd.func82.trans (congrArg some (by kernel_rfl))
  f271 := Tryd.func66.trans (congrArg some (by kernel_rfl))
  t0 := Tryd.underlying0
  a0 := Tryd.isAgg0
  z0 := Tryd.sizeOf0
  v0 := Tryd.zeroValue0
  t3 := Tryd.underlying3
  a3 := Tryd.isAgg3
  z3 := Tryd.sizeOf3
  v3 := Tryd.zeroValue3
  t4 := Tryd.underlying4
  a4 := Tryd.isAgg4
  z4 := Tryd.sizeOf4
  v4 := Tryd.zeroValue4
  t5 := Tryd.underlying5
  a5 := Tryd.isAgg5
  z5 := Tryd.sizeOf5
  v5 := Tryd.zeroValue5
  t9 := Tryd.underlying9
  a9 := Tryd.isAgg9
  z9 := Tryd.sizeOf9
  v9 := Tryd.zeroValue9
  t21 := Tryd.underlying21
  a21 := Tryd.isAgg21
  z21 := Tryd.sizeOf21
  v21 := Tryd.zeroValue21
  t46 := Tryd.underlying77
  a46 := Tryd.isAgg77
  z46 := Tryd.sizeOf77
  v46 := Tryd.zeroValue77
  t105 := Tryd.underlying62
  a105 := Tryd.isAgg62
  z105 := Tryd.sizeOf62
  v105 := Tryd.zeroValue62
  t116 := Tryd.underlying91
  a116 := Tryd.isAgg91
  z116 := Tryd.sizeOf91
  t117 := Tryd.underlying92
  a117 := Tryd.isAgg92
  z117 := Tryd.sizeOf92
  v117 := Tryd.zeroValue92
  t119 := Tryd.underlying73
  a119 := Tryd.isAgg73
  z119 := Tryd.sizeOf73
  t124 := Tryd.underlying95
  a124 := Tryd.isAgg95
  z124 := Tryd.sizeOf95
  v124 := Tryd.zeroValue95
  t138 := Tryd.underlying75
  a138 := Tryd.isAgg75
  z138 := Tryd.sizeOf75
  v138 := Tryd.zeroValue75
  t139 := Tryd.underlying76
  a139 := Tryd.isAgg76
  z139 := Tryd.sizeOf76
  v139 := Tryd.zeroValue76
  g3 := by kernel_rfl
  g4 := by kernel_rfl

def Tryd.laysAtoi_ren : Go.Shelf.Ren := ⟨fun | 172 => 45 | 244 => 60 | 245 => 61 | 247 => 67 | 279 => 68 | 280 => 69 | 281 => 70 | 282 => 71 | 287 => 78 | 316 => 79 | 171 => 81 | 205 => 80 | 321 => 85 | 322 => 86 | 243 => 87 | 246 => 88 | 283 => 89 | 284 => 90 | 285 => 91 | 286 => 92 | 129 => 94 | 317 => 93 | 318 => 95 | 319 => 96 | 320 => 97 | 337 => 98 | 338 => 99 | n => n, fun | 9 => 9 | 3 => 3 | 75 => 58 | 76 => 59 | 4 => 4 | 5 => 5 | 167 => 99 | 37 => 53 | 0 => 0 | 85 => 100 | 2 => 2 | 168 => 102 | 53 => 84 | 175 => 107 | 46 => 77 | 210 => 110 | 127 => 78 | 145 => 119 | 143 => 117 | 21 => 21 | 171 => 121 | 173 => 124 | 212 => 127 | 51 => 113 | 20 => 20 | 213 => 128 | 232 => 131 | 233 => 132 | 80 => 61 | n => n, fun | 15 => 3 | 16 => 4 | 17 => 5 | 18 => 6 | 19 => 7 | n => n⟩
theorem Tryd.laysAtoi : Go.Proofs.LaysC.n172 Tryd.prog Tryd.laysAtoi_ren where
  mixed := by kernel_rfl
  f129 := Tryd.func94.trans (congrArg some (by kernel_rfl))
  f171 := Tryd.func81.trans (congrArg some (by kernel_rfl))
  f172 := Tryd.func45.trans (congrArg some (by kernel_rfl))
  f205 := Tryd.func80.trans (congrArg some (by kernel_rfl))
  f243 := Tryd.func87.trans (congrArg some (by kernel_rfl))
  f244 := Tryd.func60.trans (congrArg some (by kernel_rfl))
  f245 := Tryd.func61.trans (congrArg some (by kernel_rfl))
  f246 := Tryd.func88.trans (congrArg some (by kernel_rfl))
  f247 := Tryd.func67.trans (congrArg some (by kernel_rfl))
  f279 := Tryd.func68.trans (congrArg some (by kernel_rfl))
  f280 := Tryd.func69.trans (congrArg some (by kernel_rfl))
  f281 := Tryd.func70.trans (congrArg some (by kernel_rfl))
  f282 := Tryd.func71.trans (congrArg some (by kernel_rfl))
  f283 := Tryd.func89.trans (congrArg some (by kernel_rfl))
  f284 := Tryd.func90.trans (congrArg some (by kernel_rfl))
  f285 := Tryd.func91.trans (congrArg some (by kernel_rfl))
  f286 := Tryd.func92.trans (congrArg some (by kernel_rfl))
  f287 := Tryd.func78.trans (congrArg some (by kernel_rfl))
  f316 := Tryd.func79.trans (congrArg some (by kernel_rfl))
  f317 := Tryd.func93.trans (congrArg some (by kernel_rfl))
  f318 := Tryd.func95.trans (congrArg some (by kernel_rfl))
  f319 := Tryd.func96.trans (congrArg some (by kernel_rfl))
  f320 := Tryd.func97.trans (congrArg some (by kernel_rfl))
  f321 := Tryd.func85.trans (congrArg some (by kernel_rfl))
  f322 := Tryd.func86.trans (congrArg some (by kernel_rfl))
  f337 := Tryd.func98.trans (congrArg some (by kernel_rfl))
  f338 := Tryd.func99.trans (congrArg some (by kernel_rfl))
  t0 := Tryd.underlying0
  a0 := Tryd.isAgg0
  z0 := Tryd.sizeOf0
  v0 := Tryd.zeroValue0
  t2 := Tryd.underlying2
  a2 := Tryd.isAgg2
  z2 := Tryd.sizeOf2
  v2 := Tryd.zeroValue2
  t3 := Tryd.underlying3
  a3 := Tryd.isAgg3
  z3 := Tryd.sizeOf3
  v3 := Tryd.zeroValue3
  t4 := Tryd.underlying4
  a4 := Tryd.isAgg4
  z4 := Tryd.sizeOf4
  v4 := Tryd.zeroValue4
  t5 := Tryd.underlying5
  a5 := Tryd.isAgg5
  z5 := Tryd.sizeOf5
  v5 := Tryd.zeroValue5
  t9 := Tryd.underlying9
  a9 := Tryd.isAgg9
  z9 := Tryd.sizeOf9
  v9 := Tryd.zeroValue9
  t20 := Tryd.underlying20
  a20 := Tryd.isAgg20
  z20 := Tryd.sizeOf20
  v20 := Tryd.zeroValue20
  t21 := Tryd.underlying21
  a21 := Tryd.isAgg21
  z21 := Tryd.sizeOf21
  v21 := Tryd.zeroValue21
  t37 := Tryd.underlying53
  a37 := Tryd.isAgg53
  z37 := Tryd.sizeOf53
  v37 := Tryd.zeroValue53
  t46 := Tryd.underlying77
  a46 := Tryd.isAgg77
  z46 := Tryd.sizeOf77
  v46 := Tryd.zeroValue77
  t51 := Tryd.underlying113
  a51 := Tryd.isAgg113
  z51 := Tryd.sizeOf113
  v51 := Tryd.zeroValue113
  t53 := Tryd.underlying84
  a53 := Tryd.isAgg84
  z53 := Tryd.sizeOf84
  v53 := Tryd.zeroValue84
  t75 := Tryd.underlying58
  a75 := Tryd.isAgg58
  z75 := Tryd.sizeOf58
  v75 := Tryd.zeroValue58
  t76 := Tryd.underlying59
  a76 := Tryd.isAgg59
  z76 := Tryd.sizeOf59
  v76 := Tryd.zeroValue59
  t85 := Tryd.underlying100
  a85 := Tryd.isAgg100
  z85 := Tryd.sizeOf100
  v85 := Tryd.zeroValue100
  t127 := Tryd.underlying78
  a127 := Tryd.isAgg78
  z127 := Tryd.sizeOf78
  v127 := Tryd.zeroValue78
  t143 := Tryd.underlying117
  a143 := Tryd.isAgg117
  z143 := Tryd.sizeOf117
  v143 := Tryd.zeroValue117
  t145 := Tryd.underlying119
  a145 := Tryd.isAgg119
  z145 := Tryd.sizeOf119
  v145 := Tryd.zeroValue119
  t167 := Tryd.underlying99
  a167 := Tryd.isAgg99
  z167 := Tryd.sizeOf99
  v167 := Tryd.zeroValue99
  t168 := Tryd.underlying102
  a168 := Tryd.isAgg102
  z168 := Tryd.sizeOf102
  v168 := Tryd.zeroValue102
  t171 := Tryd.underlying121
  a171 := Tryd.isAgg121
  z171 := Tryd.sizeOf121
  v171 := Tryd.zeroValue121
  t173 := Tryd.underlying124
  a173 := Tryd.isAgg124
  z173 := Tryd.sizeOf124
  v173 := Tryd.zeroValue124
  t175 := Tryd.underlying107
  a175 := Tryd.isAgg107
  z175 := Tryd.sizeOf107
  v175 := Tryd.zeroValue107
  t210 := Tryd.underlying110
  a210 := Tryd.isAgg110
  z210 := Tryd.sizeOf110
  v210 := Tryd.zeroValue110
  t212 := Tryd.underlying127
  a212 := Tryd.isAgg127
  z212 := Tryd.sizeOf127
  v212 := Tryd.zeroValue127
  t213 := Tryd.underlying128
  a213 := Tryd.isAgg128
  z213 := Tryd.sizeOf128
  t232 := Tryd.underlying131
  a232 := Tryd.isAgg131
  z232 := Tryd.sizeOf131
  v232 := Tryd.zeroValue131
  t233 := Tryd.underlying132
  a233 := Tryd.isAgg132
  z233 := Tryd.sizeOf132
  v233 := Tryd.zeroValue132
  g15 := by kernel_rfl
  g16 := by kernel_rfl
  g17 := by kernel_rfl
  g18 := by kernel_rfl
  g19 := by kernel_rfl
  t80 := Tryd.underlying61
  a80 := Tryd.isAgg61
  z80 := Tryd.sizeOf61
  v80 := Tryd.zeroValue61
  i0 := by kernel_rfl
  i2 := by kernel_rfl
  i3 := by kernel_rfl
  i4 := by kernel_rfl
  i5 := by kernel_rfl
  i9 := by kernel_rfl
  i20 := by kernel_rfl
  i21 := by kernel_rfl
  i37 := by kernel_rfl
  i46 := by kernel_rfl
  i51 := by kernel_rfl
  i53 := by kernel_rfl
  i75 := by kernel_rfl
  i76 := by kernel_rfl
  i80 := by kernel_rfl
  i85 := by kernel_rfl
  i127 := by kernel_rfl
  i143 := by kernel_rfl
  i145 := by kernel_rfl
  i167 := by kernel_rfl
  i168 := by kernel_rfl
  i171 := by kernel_rfl
  i173 := by kernel_rfl
  i175 := by kernel_rfl
  i210 := by kernel_rfl
  i212 := by kernel_rfl
  i232 := by kernel_rfl
  i233 := by kernel_rfl
  m15 := by kernel_rfl
  m16 := by kernel_rfl
  m17 := by kernel_rfl
  m18 := by kernel_rfl
  m19 := by kernel_rfl
  c0 := by kernel_rfl
  c2 := by kernel_rfl
  c3 := by kernel_rfl
  c4 := by kernel_rfl
  c5 := by kernel_rfl
  c9 := by kernel_rfl
  c20 := by kernel_rfl
  c21 := by kernel_rfl
  c37 := by kernel_rfl
  c46 := by kernel_rfl
  c51 := by kernel_rfl
  c53 := by kernel_rfl
  c75 := by kernel_rfl
  c76 := by kernel_rfl
  c80 := by kernel_rfl
  c85 := by kernel_rfl
  c127 := by kernel_rfl
  c143 := by kernel_rfl
  c145 := by kernel_rfl
  c167 := by kernel_rfl
  c168 := by kernel_rfl
  c171 := by kernel_rfl
  c173 := by kernel_rfl
  c175 := by kernel_rfl
  c210 := by kernel_rfl
  c212 := by kernel_rfl
  c213 := by kernel_rfl
  c232 := by kernel_rfl
  c233 := by kernel_rfl

theorem Tryd.extra : Builder.Extra Tryd.prog Tryd.laysJoin_ren where
  sizeBuilder := by kernel_rfl
  liesBuilder := by kernel_rfl
  t5 := Tryd.laysContains.t5
  a5 := Tryd.laysContains.a5
  z5 := Tryd.laysContains.z5
  v5 := Tryd.laysContains.v5
  infoByte := by kernel_rfl
  cellsByte := by kernel_rfl
  sizeByte := by kernel_rfl
  neB5 := by decide
theorem Tryd.boolRow : (Tryd.prog.info? (Tryd.laysTrim_ren.t 116)).map (fun i => (i.zero, i.size)) = some (some (.agg (Array.replicate 256 (.bool false))), 256) := by kernel_rfl
end Go.Proofs
namespace Lift.B2
open Go Go.RowKit Go.Proofs Lift Lift.Fn

theorem cell_same {w w' : World} {n : Nat} (h : ∀ k, k < n → w'.heap[k]? = w.heap[k]?) {b o : Nat} (hb : b < n) : w'.cell? ⟨b, o, none⟩ = w.cell? ⟨b, o, none⟩ := by
  unfold World.cell?
  rw [h b hb]

def isErr (v : Value) : Prop := v = .nilIface ∨ ∃ te pe, v = .iface te pe

/-- What the library's functions read of the package variables. -/
def globs (w : World) : Prop := Go.Lib.Utf8Tabs 0 1 w ∧ (∃ m, w.cell? ⟨2, 0, none⟩ = some (.int .i64 m)) ∧ ∃ a b, (w.cell? ⟨3, 0, none⟩ = some a ∧ isErr a) ∧ (w.cell? ⟨4, 0, none⟩ = some b ∧ isErr b)

theorem globs_stays (w w' : World) (h : globs w) (hs : ∀ k, k < 5 → w'.heap[k]? = w.heap[k]?) : globs w' := by
  obtain ⟨⟨h1, h2⟩, ⟨m, h3⟩, a, b, ⟨h4, h5⟩, h6, h7⟩ := h
  refine ⟨⟨fun c hc => ?_, fun i hi => ?_⟩, ⟨m, ?_⟩, a, b, ⟨?_, h5⟩, ?_, h7⟩
  · rw [cell_same hs (by omega)]; exact h1 c hc
  · rw [cell_same hs (by omega), cell_same hs (by omega)]; exact h2 i hi
  · rw [cell_same hs (by omega)]; exact h3
  · rw [cell_same hs (by omega)]; exact h4
  · rw [cell_same hs (by omega)]; exact h6

@[reducible] def env0 : Env := ⟨globs, 5, fun w w' h hs _ _ _ => globs_stays w w' h hs⟩

theorem known0 : Known kk env0 (modesOf ms0) := known_nil

theorem strings_Join_post : ∀ ls j rs, (strings_Join_md.sum ls).val = some (j, rs) → FnPost kk env0 16 strings_Join_md.sh strings_Join_md.outs ls j rs := by
  intro ls j rs h
  simp only [strings_Join_md] at h
  split at h
  · obtain ⟨r, hr, h⟩ := Tr.get_val h
    rw [strings_Join, sealF_eq, strings_Join_f, cond_eq_ite, Option.ite_none_right_eq_some] at hr
    obtain ⟨hc, hr⟩ := hr
    cases hr
    cases h
    rw [decide_eq_true_eq] at hc
    exact join_post (K := kk) (ρ := Tryd.laysJoin_ren) Tryd.laysJoin Tryd.extra _ _ hc.1 hc.2
  · cases h
theorem known1 : Known kk env0 (modesOf ms1) := known_cons (by kernel_rfl) strings_Join_post known0

theorem strings_Contains_post : ∀ ls j rs, (strings_Contains_md.sum ls).val = some (j, rs) → FnPost kk env0 43 strings_Contains_md.sh strings_Contains_md.outs ls j rs := by
  intro ls j rs h
  simp only [strings_Contains_md] at h
  split at h
  · obtain ⟨r, hr, h⟩ := Tr.get_val h
    rw [strings_Contains, sealF_eq, strings_Contains_f, cond_eq_ite, Option.ite_none_right_eq_some] at hr
    obtain ⟨hc, hr⟩ := hr
    cases hr
    cases h
    rw [decide_eq_true_eq] at hc
    exact contains_post (K := kk) (V := env0) (ρ := Tryd.laysContains_ren) ({ Tryd.laysContains with }) (fun w h => h.2.1) _ _ hc
  · cases h
theorem known2 : Known kk env0 (modesOf ms2) := known_cons (by kernel_rfl) strings_Contains_post known1

theorem unicode_utf8_DecodeRuneInString_post : ∀ ls j rs, (unicode_utf8_DecodeRuneInString_md.sum ls).val = some (j, rs) → FnPost kk env0 27 unicode_utf8_DecodeRuneInString_md.sh unicode_utf8_DecodeRuneInString_md.outs ls j rs := by
  intro ls j rs h
  simp only [unicode_utf8_DecodeRuneInString_md] at h
  split at h
  · obtain ⟨r, hr, h⟩ := Tr.get_val h
    rw [unicode_utf8_DecodeRuneInString, sealF_eq, unicode_utf8_DecodeRuneInString_f] at hr
    cases hr
    cases h
    exact decode_post (K := kk) (V := env0) (ρ := Tryd.laysDecode_ren) Tryd.laysDecode (fun w h => h.1) _
  · cases h
theorem known3 : Known kk env0 (modesOf ms3) := known_cons (by kernel_rfl) unicode_utf8_DecodeRuneInString_post known2

theorem unicode_utf8_RuneCountInString_post : ∀ ls j rs, (unicode_utf8_RuneCountInString_md.sum ls).val = some (j, rs) → FnPost kk env0 34 unicode_utf8_RuneCountInString_md.sh unicode_utf8_RuneCountInString_md.outs ls j rs := by
  intro ls j rs h
  simp only [unicode_utf8_RuneCountInString_md] at h
  split at h
  · obtain ⟨r, hr, h⟩ := Tr.get_val h
    rw [unicode_utf8_RuneCountInString, sealF_eq, unicode_utf8_RuneCountInString_f, cond_eq_ite, Option.ite_none_right_eq_some] at hr
    obtain ⟨hc, hr⟩ := hr
    cases hr
    cases h
    rw [decide_eq_true_eq] at hc
    exact runeCount_post (K := kk) (V := env0) (ρ := Tryd.laysCount_ren) Tryd.laysCount _ hc
  · cases h
theorem known4 : Known kk env0 (modesOf ms4) := known_cons (by kernel_rfl) unicode_utf8_RuneCountInString_post known3

theorem unicode_utf8_ValidString_post : ∀ ls j rs, (unicode_utf8_ValidString_md.sum ls).val = some (j, rs) → FnPost kk env0 21 unicode_utf8_ValidString_md.sh unicode_utf8_ValidString_md.outs ls j rs := by
  intro ls j rs h
  simp only [unicode_utf8_ValidString_md] at h
  split at h
  · obtain ⟨r, hr, h⟩ := Tr.get_val h
    rw [unicode_utf8_ValidString, sealF_eq, unicode_utf8_ValidString_f, cond_eq_ite, Option.ite_none_right_eq_some] at hr
    obtain ⟨hc, hr⟩ := hr
    cases hr
    cases h
    rw [decide_eq_true_eq] at hc
    exact validString_post (K := kk) (V := env0) (ρ := Tryd.laysValid_ren) Tryd.laysValid (fun w h => h.1) _ hc
  · cases h
theorem known5 : Known kk env0 (modesOf ms5) := known_cons (by kernel_rfl) unicode_utf8_ValidString_post known4

theorem strings_Trim_post : ∀ ls j rs, (strings_Trim_md.sum ls).val = some (j, rs) → FnPost kk env0 44 strings_Trim_md.sh strings_Trim_md.outs ls j rs := by
  intro ls j rs h
  simp only [strings_Trim_md] at h
  split at h
  · obtain ⟨r, hr, h⟩ := Tr.get_val h
    rw [strings_Trim, sealF_eq, strings_Trim_f, cond_eq_ite, Option.ite_none_right_eq_some, Bool.and_eq_true, decide_eq_true_eq] at hr
    obtain ⟨⟨hc, hd⟩, hr⟩ := hr
    cases hr
    cases h
    exact trim_post (K := kk) (V := env0) (ρ := Tryd.laysTrim_ren) Tryd.laysTrim Tryd.boolRow _ _ hc.1 hc.2 hd
  · cases h
theorem known6 : Known kk env0 (modesOf ms6) := known_cons (by kernel_rfl) strings_Trim_post known5

theorem strconv_Atoi_post : ∀ ls j rs, (strconv_Atoi_md.sum ls).val = some (j, rs) → FnPost kk env0 45 strconv_Atoi_md.sh strconv_Atoi_md.outs ls j rs := by
  intro ls j rs h
  simp only [strconv_Atoi_md] at h
  split at h
  · obtain ⟨r, hr, h⟩ := Tr.get_val h
    rw [strconv_Atoi, sealF_eq, strconv_Atoi_f, cond_eq_ite, Option.ite_none_right_eq_some, decide_eq_true_eq] at hr
    obtain ⟨hc, hr⟩ := hr
    cases hr
    cases h
    exact atoi_post (K := kk) (V := env0) (ρ := Tryd.laysAtoi_ren) Tryd.laysAtoi (fun w h => h.2.2) _ hc
  · cases h
theorem known7 : Known kk env0 (modesOf ms7) := known_cons (by kernel_rfl) strconv_Atoi_post known6
end Lift.B2

namespace Lift.Fn
open Go Lift

noncomputable def unicode_utf8_RuneLen_f (a0 : Int) : Option (Int) :=
    bif decide (a0 < (0 : Int)) then
      some ((-1 : Int))
    else
      bif decide (a0 ≤ (127 : Int)) then
        some ((1 : Int))
      else
        bif decide (a0 ≤ (2047 : Int)) then
          some ((2 : Int))
        else
          bif decide ((55296 : Int) ≤ a0) then
            bif decide (a0 ≤ (57343 : Int)) then
              some ((-1 : Int))
            else
              bif decide (a0 ≤ (65535 : Int)) then
                some ((3 : Int))
              else
                bif decide (a0 ≤ (1114111 : Int)) then
                  some ((4 : Int))
                else
                  some ((-1 : Int))
          else
            bif decide (a0 ≤ (65535 : Int)) then
              some ((3 : Int))
            else
              bif decide (a0 ≤ (1114111 : Int)) then
                some ((4 : Int))
              else
                some ((-1 : Int))

noncomputable def unicode_utf8_RuneLen : Int → Option (Int) := sealF unicode_utf8_RuneLen_f

noncomputable def scan_gone_t4 (rec : List UInt8 → Int → Int → Int → Int → Int → Int → Int → Int → List UInt8 → Nat → List (Spot) → Option ((Int × Int × Int × Int × (List (Spot))) ⊕ (Int × Int × Int × Int × Int × Int × Int × Int × (List (Spot))))) (a0 : List UInt8) (a1 : Int) (a2 : Int) (a3 : Int) (a4 : Int) (a5 : Int) (a6 : Int) (a7 : Int) (a8 : Int) (a9 : List UInt8) (a10 : Nat) (a11 : List (Spot)) : Option ((Int × Int × Int × Int × (List (Spot))) ⊕ (Int × Int × Int × Int × Int × Int × Int × Int × (List (Spot)))) :=
    bif decide (a10 < List.length a9) then
      bif (↑(Prod.fst (Utf8.decode (ByteArray.mk (List.toArray a9)) a10)) : Int) == (65533 : Int) then
        bif decide ((0 : Int) ≤ (↑a10 : Int)) && (decide ((↑a10 : Int) ≤ if IntKind.wrap IntKind.i64 ((↑a10 : Int) + (3 : Int)) < (↑(List.length a0) : Int) then IntKind.wrap IntKind.i64 ((↑a10 : Int) + (3 : Int)) else (↑(List.length a0) : Int)) && decide ((if IntKind.wrap IntKind.i64 ((↑a10 : Int) + (3 : Int)) < (↑(List.length a0) : Int) then IntKind.wrap IntKind.i64 ((↑a10 : Int) + (3 : Int)) else (↑(List.length a0) : Int)) ≤ (↑(List.length a0) : Int))) then
          bif !List.drop (Int.toNat (↑a10 : Int)) (List.take (Int.toNat (if IntKind.wrap IntKind.i64 ((↑a10 : Int) + (3 : Int)) < (↑(List.length a0) : Int) then IntKind.wrap IntKind.i64 ((↑a10 : Int) + (3 : Int)) else (↑(List.length a0) : Int))) a0) == [(239 : UInt8), (191 : UInt8), (189 : UInt8)] then
            some (.inl ((a5), (a6), (a7), (a8), (a11)))
          else
            bif decide ((List.length a11 + List.length [Spot.mk (IntKind.wrap IntKind.i64 (↑(Prod.fst (Utf8.decode (ByteArray.mk (List.toArray a9)) a10)) : Int)) a6 a7 a8]) * (32 : Nat) ≤ (140737488355328 : Nat) ∧ List.length a11 + List.length [Spot.mk (IntKind.wrap IntKind.i64 (↑(Prod.fst (Utf8.decode (ByteArray.mk (List.toArray a9)) a10)) : Int)) a6 a7 a8] ≤ (9223372036854775807 : Nat)) then
              Option.bind (unicode_utf8_RuneLen (↑(Prod.fst (Utf8.decode (ByteArray.mk (List.toArray a9)) a10)) : Int)) fun y0 =>
              bif (↑(Prod.fst (Utf8.decode (ByteArray.mk (List.toArray a9)) a10)) : Int) == (10 : Int) then
                rec (a0) (a1) (a2) (a3) (a4) ((-1 : Int)) (IntKind.wrap IntKind.i64 (a6 + y0)) (IntKind.wrap IntKind.i64 (a7 + (1 : Int))) ((1 : Int)) (a9) (a10 + Prod.snd (Utf8.decode (ByteArray.mk (List.toArray a9)) a10)) (a11 ++ [Spot.mk (IntKind.wrap IntKind.i64 (↑(Prod.fst (Utf8.decode (ByteArray.mk (List.toArray a9)) a10)) : Int)) a6 a7 a8])
              else
                rec (a0) (a1) (a2) (a3) (a4) ((-1 : Int)) (IntKind.wrap IntKind.i64 (a6 + y0)) (a7) (IntKind.wrap IntKind.i64 (a8 + (1 : Int))) (a9) (a10 + Prod.snd (Utf8.decode (ByteArray.mk (List.toArray a9)) a10)) (a11 ++ [Spot.mk (IntKind.wrap IntKind.i64 (↑(Prod.fst (Utf8.decode (ByteArray.mk (List.toArray a9)) a10)) : Int)) a6 a7 a8])
            else
              none
        else
          none
      else
        bif decide ((List.length a11 + List.length [Spot.mk (IntKind.wrap IntKind.i64 (↑(Prod.fst (Utf8.decode (ByteArray.mk (List.toArray a9)) a10)) : Int)) a6 a7 a8]) * (32 : Nat) ≤ (140737488355328 : Nat) ∧ List.length a11 + List.length [Spot.mk (IntKind.wrap IntKind.i64 (↑(Prod.fst (Utf8.decode (ByteArray.mk (List.toArray a9)) a10)) : Int)) a6 a7 a8] ≤ (9223372036854775807 : Nat)) then
          Option.bind (unicode_utf8_RuneLen (↑(Prod.fst (Utf8.decode (ByteArray.mk (List.toArray a9)) a10)) : Int)) fun y1 =>
          bif (↑(Prod.fst (Utf8.decode (ByteArray.mk (List.toArray a9)) a10)) : Int) == (10 : Int) then
            rec (a0) (a1) (a2) (a3) (a4) ((-1 : Int)) (IntKind.wrap IntKind.i64 (a6 + y1)) (IntKind.wrap IntKind.i64 (a7 + (1 : Int))) ((1 : Int)) (a9) (a10 + Prod.snd (Utf8.decode (ByteArray.mk (List.toArray a9)) a10)) (a11 ++ [Spot.mk (IntKind.wrap IntKind.i64 (↑(Prod.fst (Utf8.decode (ByteArray.mk (List.toArray a9)) a10)) : Int)) a6 a7 a8])
          else
            rec (a0) (a1) (a2) (a3) (a4) ((-1 : Int)) (IntKind.wrap IntKind.i64 (a6 + y1)) (a7) (IntKind.wrap IntKind.i64 (a8 + (1 : Int))) (a9) (a10 + Prod.snd (Utf8.decode (ByteArray.mk (List.toArray a9)) a10)) (a11 ++ [Spot.mk (IntKind.wrap IntKind.i64 (↑(Prod.fst (Utf8.decode (ByteArray.mk (List.toArray a9)) a10)) : Int)) a6 a7 a8])
        else
          none
    else
      some (.inr ((a1), (a2), (a3), (a4), (a5), (a6), (a7), (a8), (a11)))

noncomputable def scan_gone_i4 : Nat → List UInt8 → Int → Int → Int → Int → Int → Int → Int → Int → List UInt8 → Nat → List (Spot) → Option ((Int × Int × Int × Int × (List (Spot))) ⊕ (Int × Int × Int × Int × Int × Int × Int × Int × (List (Spot))))
  | 0, _, _, _, _, _, _, _, _, _, _, _, _ => none
  | n + 1, a0, a1, a2, a3, a4, a5, a6, a7, a8, a9, a10, a11 => scan_gone_t4 (scan_gone_i4 n) a0 a1 a2 a3 a4 a5 a6 a7 a8 a9 a10 a11

noncomputable def scan_gone_l4 : List UInt8 → Int → Int → Int → Int → Int → Int → Int → Int → List UInt8 → Nat → List (Spot) → Option ((Int × Int × Int × Int × (List (Spot))) ⊕ (Int × Int × Int × Int × Int × Int × Int × Int × (List (Spot)))) := sealF (scan_gone_i4 fuel)

noncomputable def scan_gone_f (a0 : List UInt8) : Option (Spot × (List (Spot))) :=
    Option.bind (scan_gone_l4 a0 (0 : Int) (0 : Int) (0 : Int) (0 : Int) (-1 : Int) (0 : Int) (1 : Int) (1 : Int) a0 (0 : Nat) []) fun y0 =>
    match y0 with
    | .inl y1 =>
      some ((Spot.mk (Prod.fst y1) (Prod.fst (Prod.snd y1)) (Prod.fst (Prod.snd (Prod.snd y1))) (Prod.fst (Prod.snd (Prod.snd (Prod.snd y1))))), (Prod.snd (Prod.snd (Prod.snd (Prod.snd y1)))))
    | .inr y1 =>
      some ((Spot.mk (Prod.fst (Prod.snd (Prod.snd (Prod.snd (Prod.snd y1))))) (Prod.fst (Prod.snd (Prod.snd (Prod.snd (Prod.snd (Prod.snd y1)))))) (Prod.fst (Prod.snd (Prod.snd (Prod.snd (Prod.snd (Prod.snd (Prod.snd y1))))))) (Prod.fst (Prod.snd (Prod.snd (Prod.snd (Prod.snd (Prod.snd (Prod.snd (Prod.snd y1))))))))), (Prod.snd (Prod.snd (Prod.snd (Prod.snd (Prod.snd (Prod.snd (Prod.snd (Prod.snd y1)))))))))

noncomputable def scan_gone : List UInt8 → Option (Spot × (List (Spot))) := sealF scan_gone_f

noncomputable def scan_Runes_f (a0 : List UInt8) : Option (Fault × (List (Spot))) :=
    bif decide ((↑(List.length a0) : Int) > (4000 : Int)) then
      some ((Fault.mk (10 : Int) (4000 : Int) []), ([]))
    else
      Option.bind (scan_gone a0) fun y0 =>
      bif decide (Spot.at_ (Prod.fst y0) < (↑(List.length a0) : Int)) then
        some ((Fault.mk (11 : Int) (Spot.at_ (Prod.fst y0)) []), ([]))
      else
        some ((Fault.mk (0 : Int) (0 : Int) []), (Prod.snd y0))

noncomputable def scan_Runes : List UInt8 → Option (Fault × (List (Spot))) := sealF scan_Runes_f

noncomputable def scan_Blank_f (a0 : Int) : Option (Bool) :=
    bif a0 == (9 : Int) then
      some (true)
    else
      bif a0 == (10 : Int) then
        some (true)
      else
        bif a0 == (13 : Int) then
          some (true)
        else
          some (a0 == (32 : Int))

noncomputable def scan_Blank : Int → Option (Bool) := sealF scan_Blank_f

noncomputable def lex_passed_t3 (rec : List UInt8 → Bool → List UInt8 → Nat → Option ((Int) ⊕ ((List UInt8)))) (a0 : List UInt8) (a1 : Bool) (a2 : List UInt8) (a3 : Nat) : Option ((Int) ⊕ ((List UInt8))) :=
    bif decide (a3 < List.length a2) then
      bif a1 then
        rec (a0) ((↑(Prod.fst (Utf8.decode (ByteArray.mk (List.toArray a2)) a3)) : Int) != (10 : Int)) (a2) (a3 + Prod.snd (Utf8.decode (ByteArray.mk (List.toArray a2)) a3))
      else
        bif (↑(Prod.fst (Utf8.decode (ByteArray.mk (List.toArray a2)) a3)) : Int) == (35 : Int) then
          rec (a0) (true) (a2) (a3 + Prod.snd (Utf8.decode (ByteArray.mk (List.toArray a2)) a3))
        else
          Option.bind (scan_Blank (IntKind.wrap IntKind.i64 (↑(Prod.fst (Utf8.decode (ByteArray.mk (List.toArray a2)) a3)) : Int))) fun y0 =>
          bif !y0 then
            some (.inl ((↑a3 : Int)))
          else
            rec (a0) (a1) (a2) (a3 + Prod.snd (Utf8.decode (ByteArray.mk (List.toArray a2)) a3))
    else
      some (.inr (a0))

noncomputable def lex_passed_i3 : Nat → List UInt8 → Bool → List UInt8 → Nat → Option ((Int) ⊕ ((List UInt8)))
  | 0, _, _, _, _ => none
  | n + 1, a0, a1, a2, a3 => lex_passed_t3 (lex_passed_i3 n) a0 a1 a2 a3

noncomputable def lex_passed_l3 : List UInt8 → Bool → List UInt8 → Nat → Option ((Int) ⊕ ((List UInt8))) := sealF (lex_passed_i3 fuel)

noncomputable def lex_passed_f (a0 : List UInt8) : Option (Int) :=
    Option.bind (lex_passed_l3 a0 false a0 (0 : Nat)) fun y0 =>
    match y0 with
    | .inl y1 =>
      some (y1)
    | .inr y1 =>
      some ((↑(List.length y1) : Int))

noncomputable def lex_passed : List UInt8 → Option (Int) := sealF lex_passed_f

noncomputable def unicode_utf8_ValidRune_f (a0 : Int) : Option (Bool) :=
    bif decide ((0 : Int) ≤ a0) then
      bif decide (a0 < (55296 : Int)) then
        some (true)
      else
        bif decide ((57343 : Int) < a0) then
          bif decide (a0 ≤ (1114111 : Int)) then
            some (true)
          else
            some (false)
        else
          some (false)
    else
      bif decide ((57343 : Int) < a0) then
        bif decide (a0 ≤ (1114111 : Int)) then
          some (true)
        else
          some (false)
      else
        some (false)

noncomputable def unicode_utf8_ValidRune : Int → Option (Bool) := sealF unicode_utf8_ValidRune_f

noncomputable def scan_whole_f (a0 : Int) : Option (Bool) :=
    bif decide (a0 ≥ (0 : Int)) then
      bif decide (a0 ≤ (1114111 : Int)) then
        Option.bind (unicode_utf8_ValidRune (IntKind.wrap IntKind.i32 a0)) fun y0 =>
        some (y0)
      else
        some (false)
    else
      some (false)

noncomputable def scan_whole : Int → Option (Bool) := sealF scan_whole_f

noncomputable def scan_Letter_f (a0 : Int) : Option (Bool) :=
    bif decide (a0 ≥ (97 : Int)) then
      bif decide (a0 ≤ (122 : Int)) then
        bif decide (a0 ≤ (122 : Int)) then
          some (true)
        else
          bif decide (a0 ≥ (192 : Int)) then
            Option.bind (scan_whole a0) fun y0 =>
            some (y0)
          else
            some (false)
      else
        bif decide (a0 ≥ (65 : Int)) then
          bif decide (a0 ≤ (90 : Int)) then
            bif decide (a0 ≤ (90 : Int)) then
              some (true)
            else
              bif decide (a0 ≥ (192 : Int)) then
                Option.bind (scan_whole a0) fun y1 =>
                some (y1)
              else
                some (false)
          else
            bif a0 == (95 : Int) then
              some (true)
            else
              bif decide (a0 ≥ (192 : Int)) then
                Option.bind (scan_whole a0) fun y2 =>
                some (y2)
              else
                some (false)
        else
          bif a0 == (95 : Int) then
            some (true)
          else
            bif decide (a0 ≥ (192 : Int)) then
              Option.bind (scan_whole a0) fun y3 =>
              some (y3)
            else
              some (false)
    else
      bif decide (a0 ≥ (65 : Int)) then
        bif decide (a0 ≤ (90 : Int)) then
          bif decide (a0 ≤ (90 : Int)) then
            some (true)
          else
            bif decide (a0 ≥ (192 : Int)) then
              Option.bind (scan_whole a0) fun y4 =>
              some (y4)
            else
              some (false)
        else
          bif a0 == (95 : Int) then
            some (true)
          else
            bif decide (a0 ≥ (192 : Int)) then
              Option.bind (scan_whole a0) fun y5 =>
              some (y5)
            else
              some (false)
      else
        bif a0 == (95 : Int) then
          some (true)
        else
          bif decide (a0 ≥ (192 : Int)) then
            Option.bind (scan_whole a0) fun y6 =>
            some (y6)
          else
            some (false)

noncomputable def scan_Letter : Int → Option (Bool) := sealF scan_Letter_f

noncomputable def scan_Digit_f (a0 : Int) : Option (Bool) :=
    bif decide (a0 ≥ (48 : Int)) then
      some (decide (a0 ≤ (57 : Int)))
    else
      some (false)

noncomputable def scan_Digit : Int → Option (Bool) := sealF scan_Digit_f

noncomputable def lex_goes_f (a0 : Int) : Option (Bool) :=
    Option.bind (scan_Letter (IntKind.wrap IntKind.i64 a0)) fun y0 =>
    bif y0 then
      some (true)
    else
      Option.bind (scan_Digit (IntKind.wrap IntKind.i64 a0)) fun y1 =>
      some (y1)

noncomputable def lex_goes : Int → Option (Bool) := sealF lex_goes_f

noncomputable def slices_Index_string_string_t2 (rec : List (List UInt8) → List UInt8 → Int → Int → Option ((Int) ⊕ (Unit))) (a0 : List (List UInt8)) (a1 : List UInt8) (a2 : Int) (a3 : Int) : Option ((Int) ⊕ (Unit)) :=
    bif decide (a3 < a2) then
      bif decide ((0 : Int) ≤ a3) then
        Option.bind (a0[Int.toNat a3]?) fun y0 =>
        bif a1 == y0 then
          some (.inl (a3))
        else
          rec (a0) (a1) (a2) (IntKind.wrap IntKind.i64 (a3 + (1 : Int)))
      else
        none
    else
      some (.inr ())

noncomputable def slices_Index_string_string_i2 : Nat → List (List UInt8) → List UInt8 → Int → Int → Option ((Int) ⊕ (Unit))
  | 0, _, _, _, _ => none
  | n + 1, a0, a1, a2, a3 => slices_Index_string_string_t2 (slices_Index_string_string_i2 n) a0 a1 a2 a3

noncomputable def slices_Index_string_string_l2 : List (List UInt8) → List UInt8 → Int → Int → Option ((Int) ⊕ (Unit)) := sealF (slices_Index_string_string_i2 fuel)

noncomputable def slices_Index_string_string_f (a0 : List (List UInt8)) (a1 : List UInt8) : Option (Int) :=
    Option.bind (slices_Index_string_string_l2 a0 a1 (↑(List.length a0) : Int) (0 : Int)) fun y0 =>
    match y0 with
    | .inl y1 =>
      some (y1)
    | .inr y1 =>
      some ((-1 : Int))

noncomputable def slices_Index_string_string : List (List UInt8) → List UInt8 → Option (Int) := sealF slices_Index_string_string_f

noncomputable def slices_Contains_string_string_f (a0 : List (List UInt8)) (a1 : List UInt8) : Option (Bool) :=
    Option.bind (slices_Index_string_string a0 a1) fun y0 =>
    some (decide (y0 ≥ (0 : Int)))

noncomputable def slices_Contains_string_string : List (List UInt8) → List UInt8 → Option (Bool) := sealF slices_Contains_string_string_f

noncomputable def lex_sign_f (a0 : List UInt8) : Option ((List UInt8)) :=
    bif decide ((↑(List.length a0) : Int) > (1 : Int)) then
      bif decide ((0 : Int) ≤ (0 : Int)) && (decide ((0 : Int) ≤ (2 : Int)) && decide ((2 : Int) ≤ (↑(List.length a0) : Int))) then
        Option.bind (slices_Contains_string_string [[(58 : UInt8), (61 : UInt8)], [(60 : UInt8), (45 : UInt8)], [(61 : UInt8), (61 : UInt8)], [(33 : UInt8), (61 : UInt8)], [(60 : UInt8), (61 : UInt8)], [(62 : UInt8), (61 : UInt8)], [(38 : UInt8), (38 : UInt8)], [(124 : UInt8), (124 : UInt8)]] (List.drop (0 : Nat) (List.take (2 : Nat) a0))) fun y0 =>
        bif y0 then
          bif decide ((0 : Int) ≤ (0 : Int)) && (decide ((0 : Int) ≤ (2 : Int)) && decide ((2 : Int) ≤ (↑(List.length a0) : Int))) then
            some (List.drop (0 : Nat) (List.take (2 : Nat) a0))
          else
            none
        else
          bif decide ((0 : Int) ≤ (0 : Int)) && (decide ((0 : Int) ≤ (1 : Int)) && decide ((1 : Int) ≤ (↑(List.length a0) : Int))) then
            Option.bind (strings_Contains [(61 : UInt8), (60 : UInt8), (62 : UInt8), (33 : UInt8), (43 : UInt8), (45 : UInt8), (42 : UInt8), (47 : UInt8), (37 : UInt8), (59 : UInt8), (123 : UInt8), (125 : UInt8), (40 : UInt8), (41 : UInt8)] (List.drop (0 : Nat) (List.take (1 : Nat) a0))) fun y1 =>
            bif y1 then
              bif decide ((0 : Int) ≤ (0 : Int)) && (decide ((0 : Int) ≤ (1 : Int)) && decide ((1 : Int) ≤ (↑(List.length a0) : Int))) then
                some (List.drop (0 : Nat) (List.take (1 : Nat) a0))
              else
                none
            else
              some ([])
          else
            none
      else
        none
    else
      bif decide ((0 : Int) ≤ (0 : Int)) && (decide ((0 : Int) ≤ (1 : Int)) && decide ((1 : Int) ≤ (↑(List.length a0) : Int))) then
        Option.bind (strings_Contains [(61 : UInt8), (60 : UInt8), (62 : UInt8), (33 : UInt8), (43 : UInt8), (45 : UInt8), (42 : UInt8), (47 : UInt8), (37 : UInt8), (59 : UInt8), (123 : UInt8), (125 : UInt8), (40 : UInt8), (41 : UInt8)] (List.drop (0 : Nat) (List.take (1 : Nat) a0))) fun y2 =>
        bif y2 then
          bif decide ((0 : Int) ≤ (0 : Int)) && (decide ((0 : Int) ≤ (1 : Int)) && decide ((1 : Int) ≤ (↑(List.length a0) : Int))) then
            some (List.drop (0 : Nat) (List.take (1 : Nat) a0))
          else
            none
        else
          some ([])
      else
        none

noncomputable def lex_sign : List UInt8 → Option ((List UInt8)) := sealF lex_sign_f

noncomputable def lex_word_t2 (rec : List UInt8 → List UInt8 → Nat → Option (((List UInt8)) ⊕ ((List UInt8)))) (a0 : List UInt8) (a1 : List UInt8) (a2 : Nat) : Option (((List UInt8)) ⊕ ((List UInt8))) :=
    bif decide (a2 < List.length a1) then
      Option.bind (lex_goes (↑(Prod.fst (Utf8.decode (ByteArray.mk (List.toArray a1)) a2)) : Int)) fun y0 =>
      bif !y0 then
        bif decide ((0 : Int) ≤ (0 : Int)) && (decide ((0 : Int) ≤ (↑a2 : Int)) && decide ((↑a2 : Int) ≤ (↑(List.length a0) : Int))) then
          some (.inl (List.drop (0 : Nat) (List.take (Int.toNat (↑a2 : Int)) a0)))
        else
          none
      else
        rec (a0) (a1) (a2 + Prod.snd (Utf8.decode (ByteArray.mk (List.toArray a1)) a2))
    else
      some (.inr (a0))

noncomputable def lex_word_i2 : Nat → List UInt8 → List UInt8 → Nat → Option (((List UInt8)) ⊕ ((List UInt8)))
  | 0, _, _, _ => none
  | n + 1, a0, a1, a2 => lex_word_t2 (lex_word_i2 n) a0 a1 a2

noncomputable def lex_word_l2 : List UInt8 → List UInt8 → Nat → Option (((List UInt8)) ⊕ ((List UInt8))) := sealF (lex_word_i2 fuel)

noncomputable def lex_word_f (a0 : List UInt8) : Option ((List UInt8)) :=
    Option.bind (lex_word_l2 a0 a0 (0 : Nat)) fun y0 =>
    match y0 with
    | .inl y1 =>
      some (y1)
    | .inr y1 =>
      some (y1)

noncomputable def lex_word : List UInt8 → Option ((List UInt8)) := sealF lex_word_f

noncomputable def lex_number_f (a0 : List UInt8) : Option (Int × Bool) :=
    bif decide ((↑(List.length a0) : Int) > (1 : Int)) then
      Option.bind (a0[(0 : Nat)]?) fun y0 =>
      bif (↑(UInt8.toNat y0) : Int) == (48 : Int) then
        some (((0 : Int)), (false))
      else
        Option.bind (strings_Trim a0 [(48 : UInt8), (49 : UInt8), (50 : UInt8), (51 : UInt8), (52 : UInt8), (53 : UInt8), (54 : UInt8), (55 : UInt8), (56 : UInt8), (57 : UInt8)]) fun y1 =>
        bif !y1 == [] then
          some (((0 : Int)), (false))
        else
          Option.bind (strconv_Atoi a0) fun y2 =>
          bif !Prod.snd y2 then
            some ((Prod.fst y2), (decide (Prod.fst y2 ≤ (2147483647 : Int))))
          else
            some ((Prod.fst y2), (false))
    else
      Option.bind (strings_Trim a0 [(48 : UInt8), (49 : UInt8), (50 : UInt8), (51 : UInt8), (52 : UInt8), (53 : UInt8), (54 : UInt8), (55 : UInt8), (56 : UInt8), (57 : UInt8)]) fun y3 =>
      bif !y3 == [] then
        some (((0 : Int)), (false))
      else
        Option.bind (strconv_Atoi a0) fun y4 =>
        bif !Prod.snd y4 then
          some ((Prod.fst y4), (decide (Prod.fst y4 ≤ (2147483647 : Int))))
        else
          some ((Prod.fst y4), (false))

noncomputable def lex_number : List UInt8 → Option (Int × Bool) := sealF lex_number_f

noncomputable def lex_Words_f : Option ((List (List UInt8))) :=
    some ([[(97 : UInt8), (100 : UInt8), (100 : UInt8)], [(97 : UInt8), (115 : UInt8), (115 : UInt8), (101 : UInt8), (114 : UInt8), (116 : UInt8)], [(99 : UInt8), (101 : UInt8), (108 : UInt8), (108 : UInt8)], [(101 : UInt8), (108 : UInt8), (115 : UInt8), (101 : UInt8)], [(105 : UInt8), (102 : UInt8)], [(106 : UInt8), (111 : UInt8), (105 : UInt8), (110 : UInt8)], [(108 : UInt8), (111 : UInt8), (99 : UInt8), (107 : UInt8)], [(109 : UInt8), (117 : UInt8), (116 : UInt8), (101 : UInt8), (120 : UInt8)], [(114 : UInt8), (101 : UInt8), (112 : UInt8), (101 : UInt8), (97 : UInt8), (116 : UInt8)], [(115 : UInt8), (116 : UInt8), (97 : UInt8), (114 : UInt8), (116 : UInt8)], [(116 : UInt8), (104 : UInt8), (114 : UInt8), (101 : UInt8), (97 : UInt8), (100 : UInt8)], [(117 : UInt8), (110 : UInt8), (108 : UInt8), (111 : UInt8), (99 : UInt8), (107 : UInt8)]])

noncomputable def lex_Words : Option ((List (List UInt8))) := sealF lex_Words_f

noncomputable def lex_token_f (a0 : List UInt8) : Option (Token × Int) :=
    Option.bind (unicode_utf8_DecodeRuneInString a0) fun y0 =>
    Option.bind (lex_goes (Prod.fst y0)) fun y1 =>
    bif !y1 then
      Option.bind (lex_sign a0) fun y2 =>
      bif y2 == [] then
        some ((Token.mk (0 : Int) [] (0 : Int) (0 : Int)), ((20 : Int)))
      else
        some ((Token.mk (3 : Int) y2 (0 : Int) (0 : Int)), ((0 : Int)))
    else
      Option.bind (lex_word a0) fun y3 =>
      Option.bind (scan_Digit (IntKind.wrap IntKind.i64 (Prod.fst y0))) fun y4 =>
      bif y4 then
        Option.bind (lex_number y3) fun y5 =>
        bif !Prod.snd y5 then
          some ((Token.mk (1 : Int) y3 (0 : Int) (0 : Int)), ((22 : Int)))
        else
          some ((Token.mk (2 : Int) y3 (Prod.fst y5) (0 : Int)), ((0 : Int)))
      else
        Option.bind (lex_Words) fun y6 =>
        Option.bind (slices_Contains_string_string y6 y3) fun y7 =>
        bif y7 then
          some ((Token.mk (4 : Int) y3 (0 : Int) (0 : Int)), ((0 : Int)))
        else
          Option.bind (unicode_utf8_RuneCountInString y3) fun y8 =>
          bif decide (y8 > (16 : Int)) then
            some ((Token.mk (1 : Int) y3 (0 : Int) (0 : Int)), ((21 : Int)))
          else
            some ((Token.mk (1 : Int) y3 (0 : Int) (0 : Int)), ((0 : Int)))

noncomputable def lex_token : List UInt8 → Option (Token × Int) := sealF lex_token_f

noncomputable def lex_Tokens_t6 (rec : List UInt8 → Int → Int → Int → List UInt8 → List (Token) → Option ((Int × Int × (List UInt8)) ⊕ ((List UInt8) × Int × Int × (List UInt8) × (List (Token))))) (a0 : List UInt8) (a1 : Int) (a2 : Int) (a3 : Int) (a4 : List UInt8) (a5 : List (Token)) : Option ((Int × Int × (List UInt8)) ⊕ ((List UInt8) × Int × Int × (List UInt8) × (List (Token)))) :=
    bif decide (a1 < (↑(List.length a0) : Int)) then
      bif decide ((0 : Int) ≤ a1) && (decide (a1 ≤ (↑(List.length a0) : Int)) && decide ((↑(List.length a0) : Int) ≤ (↑(List.length a0) : Int))) then
        Option.bind (lex_token (List.drop (Int.toNat a1) (List.take (Int.toNat (↑(List.length a0) : Int)) a0))) fun y0 =>
        bif Prod.snd y0 != (0 : Int) then
          some (.inl ((Prod.snd y0), (a1), ([])))
        else
          bif decide ((List.length a5 + List.length [Token.mk (Token.kind (Prod.fst y0)) (Token.text (Prod.fst y0)) (Token.num (Prod.fst y0)) a1]) * (40 : Nat) ≤ (140737488355328 : Nat) ∧ List.length a5 + List.length [Token.mk (Token.kind (Prod.fst y0)) (Token.text (Prod.fst y0)) (Token.num (Prod.fst y0)) a1] ≤ (9223372036854775807 : Nat)) then
            bif decide ((0 : Int) ≤ IntKind.wrap IntKind.i64 (a1 + (↑(List.length (Token.text (Prod.fst y0))) : Int))) && (decide (IntKind.wrap IntKind.i64 (a1 + (↑(List.length (Token.text (Prod.fst y0))) : Int)) ≤ (↑(List.length a0) : Int)) && decide ((↑(List.length a0) : Int) ≤ (↑(List.length a0) : Int))) then
              Option.bind (lex_passed (List.drop (Int.toNat (IntKind.wrap IntKind.i64 (a1 + (↑(List.length (Token.text (Prod.fst y0))) : Int)))) (List.take (Int.toNat (↑(List.length a0) : Int)) a0))) fun y1 =>
              rec (a0) (IntKind.wrap IntKind.i64 (IntKind.wrap IntKind.i64 (a1 + (↑(List.length (Token.text (Prod.fst y0))) : Int)) + y1)) (a2) (a3) (a4) (a5 ++ [Token.mk (Token.kind (Prod.fst y0)) (Token.text (Prod.fst y0)) (Token.num (Prod.fst y0)) a1])
            else
              none
          else
            none
      else
        none
    else
      some (.inr ((a0), (a2), (a3), (a4), (a5)))

noncomputable def lex_Tokens_i6 : Nat → List UInt8 → Int → Int → Int → List UInt8 → List (Token) → Option ((Int × Int × (List UInt8)) ⊕ ((List UInt8) × Int × Int × (List UInt8) × (List (Token))))
  | 0, _, _, _, _, _, _ => none
  | n + 1, a0, a1, a2, a3, a4, a5 => lex_Tokens_t6 (lex_Tokens_i6 n) a0 a1 a2 a3 a4 a5

noncomputable def lex_Tokens_l6 : List UInt8 → Int → Int → Int → List UInt8 → List (Token) → Option ((Int × Int × (List UInt8)) ⊕ ((List UInt8) × Int × Int × (List UInt8) × (List (Token)))) := sealF (lex_Tokens_i6 fuel)

noncomputable def lex_Tokens_f (a0 : List UInt8) : Option (Fault × (List (Token))) :=
    Option.bind (scan_Runes a0) fun y0 =>
    bif Fault.code (Prod.fst y0) != (0 : Int) then
      some ((Fault.mk (Fault.code (Prod.fst y0)) (Fault.at_ (Prod.fst y0)) (Fault.name (Prod.fst y0))), ([]))
    else
      Option.bind (lex_passed a0) fun y1 =>
      Option.bind (lex_Tokens_l6 a0 y1 (0 : Int) (0 : Int) [] []) fun y2 =>
      match y2 with
      | .inl y3 =>
        some ((Fault.mk (Prod.fst y3) (Prod.fst (Prod.snd y3)) (Prod.snd (Prod.snd y3))), ([]))
      | .inr y3 =>
        bif decide ((List.length (Prod.snd (Prod.snd (Prod.snd (Prod.snd y3)))) + List.length [Token.mk (5 : Int) [] (0 : Int) (↑(List.length (Prod.fst y3)) : Int)]) * (40 : Nat) ≤ (140737488355328 : Nat) ∧ List.length (Prod.snd (Prod.snd (Prod.snd (Prod.snd y3)))) + List.length [Token.mk (5 : Int) [] (0 : Int) (↑(List.length (Prod.fst y3)) : Int)] ≤ (9223372036854775807 : Nat)) then
          some ((Fault.mk (0 : Int) (0 : Int) []), (Prod.snd (Prod.snd (Prod.snd (Prod.snd y3))) ++ [Token.mk (5 : Int) [] (0 : Int) (↑(List.length (Prod.fst y3)) : Int)]))
        else
          none

noncomputable def lex_Tokens : List UInt8 → Option (Fault × (List (Token))) := sealF lex_Tokens_f

noncomputable def lex_fits_f (a0 : Token) : Option (Bool) :=
    bif Token.text a0 == [] then
      some (false)
    else
      bif decide ((↑(List.length (Token.text a0)) : Int) > (64 : Int)) then
        some (false)
      else
        Option.bind (unicode_utf8_ValidString (Token.text a0)) fun y0 =>
        bif !y0 then
          some (false)
        else
          Option.bind (lex_token (Token.text a0)) fun y1 =>
          bif Prod.snd y1 == (0 : Int) then
            some (decide (Token.mk (Token.kind (Prod.fst y1)) (Token.text (Prod.fst y1)) (Token.num (Prod.fst y1)) (Token.at_ a0) = Token.mk (Token.kind a0) (Token.text a0) (Token.num a0) (Token.at_ a0)))
          else
            some (false)

noncomputable def lex_fits : Token → Option (Bool) := sealF lex_fits_f

noncomputable def lex_Join_t6 (rec : List (Token) → Int → Int → List (List UInt8) → Option (((List UInt8) × Int) ⊕ ((List (List UInt8))))) (a0 : List (Token)) (a1 : Int) (a2 : Int) (a3 : List (List UInt8)) : Option (((List UInt8) × Int) ⊕ ((List (List UInt8)))) :=
    bif decide (a2 < a1) then
      bif decide ((0 : Int) ≤ a2) then
        Option.bind (a0[Int.toNat a2]?) fun y0 =>
        Option.bind (lex_fits (Token.mk (Token.kind y0) (Token.text y0) (Token.num y0) (Token.at_ y0))) fun y1 =>
        bif !y1 then
          some (.inl (([]), ((1 : Int))))
        else
          bif decide ((List.length a3 + List.length [Token.text y0]) * (16 : Nat) ≤ (140737488355328 : Nat) ∧ List.length a3 + List.length [Token.text y0] ≤ (9223372036854775807 : Nat)) then
            rec (a0) (a1) (IntKind.wrap IntKind.i64 (a2 + (1 : Int))) (a3 ++ [Token.text y0])
          else
            none
      else
        none
    else
      some (.inr (a3))

noncomputable def lex_Join_i6 : Nat → List (Token) → Int → Int → List (List UInt8) → Option (((List UInt8) × Int) ⊕ ((List (List UInt8))))
  | 0, _, _, _, _ => none
  | n + 1, a0, a1, a2, a3 => lex_Join_t6 (lex_Join_i6 n) a0 a1 a2 a3

noncomputable def lex_Join_l6 : List (Token) → Int → Int → List (List UInt8) → Option (((List UInt8) × Int) ⊕ ((List (List UInt8)))) := sealF (lex_Join_i6 fuel)

noncomputable def lex_Join_f (a0 : List (Token)) : Option ((List UInt8) × Int) :=
    bif decide (IntKind.wrap IntKind.i64 ((↑(List.length a0) : Int) - (1 : Int)) < (0 : Int)) then
      some (([]), ((1 : Int)))
    else
      bif decide ((0 : Int) ≤ IntKind.wrap IntKind.i64 ((↑(List.length a0) : Int) - (1 : Int))) then
        Option.bind (a0[Int.toNat (IntKind.wrap IntKind.i64 ((↑(List.length a0) : Int) - (1 : Int)))]?) fun y0 =>
        bif Token.kind y0 != (5 : Int) then
          some (([]), ((1 : Int)))
        else
          bif decide ((0 : Int) ≤ IntKind.wrap IntKind.i64 ((↑(List.length a0) : Int) - (1 : Int))) then
            Option.bind (a0[Int.toNat (IntKind.wrap IntKind.i64 ((↑(List.length a0) : Int) - (1 : Int)))]?) fun y1 =>
            bif !Token.text y1 == [] then
              some (([]), ((1 : Int)))
            else
              bif decide ((0 : Int) ≤ IntKind.wrap IntKind.i64 ((↑(List.length a0) : Int) - (1 : Int))) then
                Option.bind (a0[Int.toNat (IntKind.wrap IntKind.i64 ((↑(List.length a0) : Int) - (1 : Int)))]?) fun y2 =>
                bif Token.num y2 != (0 : Int) then
                  some (([]), ((1 : Int)))
                else
                  bif decide ((0 : Int) ≤ (0 : Int)) && (decide ((0 : Int) ≤ IntKind.wrap IntKind.i64 ((↑(List.length a0) : Int) - (1 : Int))) && decide (IntKind.wrap IntKind.i64 ((↑(List.length a0) : Int) - (1 : Int)) ≤ (↑(List.length a0) : Int))) then
                    Option.bind (lex_Join_l6 (List.drop (0 : Nat) (List.take (Int.toNat (IntKind.wrap IntKind.i64 ((↑(List.length a0) : Int) - (1 : Int)))) a0)) (↑(List.length (List.drop (0 : Nat) (List.take (Int.toNat (IntKind.wrap IntKind.i64 ((↑(List.length a0) : Int) - (1 : Int)))) a0))) : Int) (0 : Int) []) fun y3 =>
                    match y3 with
                    | .inl y4 =>
                      some ((Prod.fst y4), (Prod.snd y4))
                    | .inr y4 =>
                      Option.bind (strings_Join y4 [(32 : UInt8)]) fun y5 =>
                      bif decide ((↑(List.length y5) : Int) > (4000 : Int)) then
                        some (([]), ((10 : Int)))
                      else
                        some ((y5), ((0 : Int)))
                  else
                    none
              else
                none
          else
            none
      else
        none

noncomputable def lex_Join : List (Token) → Option ((List UInt8) × Int) := sealF lex_Join_f

noncomputable def racetreelaw02_shown_f : Option (Bool) :=
    Option.bind (lex_Tokens [(114 : UInt8), (60 : UInt8), (45 : UInt8), (120 : UInt8), (59 : UInt8), (35 : UInt8), (32 : UInt8), (99 : UInt8)]) fun y0 =>
    Option.bind (lex_Join [Token.mk (1 : Int) [(114 : UInt8)] (0 : Int) (0 : Int), Token.mk (3 : Int) [(58 : UInt8), (61 : UInt8)] (0 : Int) (0 : Int), Token.mk (2 : Int) [(49 : UInt8)] (1 : Int) (0 : Int), Token.mk (5 : Int) [] (0 : Int) (0 : Int)]) fun y1 =>
    bif Fault.code (Prod.fst y0) == (0 : Int) then
      bif (↑(List.length (Prod.snd y0)) : Int) == (5 : Int) then
        bif decide ((0 : Int) ≤ (1 : Int)) && decide ((1 : Int) < (↑(List.length (Prod.snd y0)) : Int)) then
          Option.bind ((Prod.snd y0)[(1 : Nat)]?) fun y2 =>
          bif decide (y2 = Token.mk (3 : Int) [(60 : UInt8), (45 : UInt8)] (0 : Int) (1 : Int)) then
            bif decide ((0 : Int) ≤ (4 : Int)) && decide ((4 : Int) < (↑(List.length (Prod.snd y0)) : Int)) then
              Option.bind ((Prod.snd y0)[(4 : Nat)]?) fun y3 =>
              bif decide (y3 = Token.mk (5 : Int) [] (0 : Int) (8 : Int)) then
                bif Prod.snd y1 == (0 : Int) then
                  some (Prod.fst y1 == [(114 : UInt8), (32 : UInt8), (58 : UInt8), (61 : UInt8), (32 : UInt8), (49 : UInt8)])
                else
                  some (false)
              else
                some (false)
            else
              none
          else
            some (false)
        else
          none
      else
        some (false)
    else
      some (false)

noncomputable def racetreelaw02_shown : Option (Bool) := sealF racetreelaw02_shown_f

noncomputable def racetreeref02_Words_f : Option ((List (List UInt8))) :=
    some ([[(97 : UInt8), (100 : UInt8), (100 : UInt8)], [(97 : UInt8), (115 : UInt8), (115 : UInt8), (101 : UInt8), (114 : UInt8), (116 : UInt8)], [(99 : UInt8), (101 : UInt8), (108 : UInt8), (108 : UInt8)], [(101 : UInt8), (108 : UInt8), (115 : UInt8), (101 : UInt8)], [(105 : UInt8), (102 : UInt8)], [(106 : UInt8), (111 : UInt8), (105 : UInt8), (110 : UInt8)], [(108 : UInt8), (111 : UInt8), (99 : UInt8), (107 : UInt8)], [(109 : UInt8), (117 : UInt8), (116 : UInt8), (101 : UInt8), (120 : UInt8)], [(114 : UInt8), (101 : UInt8), (112 : UInt8), (101 : UInt8), (97 : UInt8), (116 : UInt8)], [(115 : UInt8), (116 : UInt8), (97 : UInt8), (114 : UInt8), (116 : UInt8)], [(116 : UInt8), (104 : UInt8), (114 : UInt8), (101 : UInt8), (97 : UInt8), (100 : UInt8)], [(117 : UInt8), (110 : UInt8), (108 : UInt8), (111 : UInt8), (99 : UInt8), (107 : UInt8)]])

noncomputable def racetreeref02_Words : Option ((List (List UInt8))) := sealF racetreeref02_Words_f

noncomputable def racetreelaw02_LexWords_t9 (rec : Int → Int → List (List UInt8) → List (List UInt8) → Option ((Bool) ⊕ (Int × (List (List UInt8)) × (List (List UInt8))))) (a0 : Int) (a1 : Int) (a2 : List (List UInt8)) (a3 : List (List UInt8)) : Option ((Bool) ⊕ (Int × (List (List UInt8)) × (List (List UInt8)))) :=
    bif decide (a1 < (↑(List.length a3) : Int)) then
      bif decide ((0 : Int) ≤ a1) && decide (a1 < (↑(List.length a3) : Int)) then
        Option.bind (a3[Int.toNat a1]?) fun y0 =>
        bif decide ((0 : Int) ≤ a1) && decide (a1 < (↑(List.length a2) : Int)) then
          Option.bind (a2[Int.toNat a1]?) fun y1 =>
          bif !y0 == y1 then
            some (.inl (false))
          else
            rec (a0) (IntKind.wrap IntKind.i64 (a1 + (1 : Int))) (a2) (a3)
        else
          none
      else
        none
    else
      some (.inr ((a0), (a2), (a3)))

noncomputable def racetreelaw02_LexWords_i9 : Nat → Int → Int → List (List UInt8) → List (List UInt8) → Option ((Bool) ⊕ (Int × (List (List UInt8)) × (List (List UInt8))))
  | 0, _, _, _, _ => none
  | n + 1, a0, a1, a2, a3 => racetreelaw02_LexWords_t9 (racetreelaw02_LexWords_i9 n) a0 a1 a2 a3

noncomputable def racetreelaw02_LexWords_l9 : Int → Int → List (List UInt8) → List (List UInt8) → Option ((Bool) ⊕ (Int × (List (List UInt8)) × (List (List UInt8)))) := sealF (racetreelaw02_LexWords_i9 fuel)

noncomputable def racetreelaw02_LexWords_t19 (rec : Int → List (List UInt8) → List (List UInt8) → List (List UInt8) → Option ((Bool) ⊕ ((List (List UInt8))))) (a0 : Int) (a1 : List (List UInt8)) (a2 : List (List UInt8)) (a3 : List (List UInt8)) : Option ((Bool) ⊕ ((List (List UInt8)))) :=
    bif decide (a0 < (↑(List.length a3) : Int)) then
      bif decide ((0 : Int) ≤ a0) && decide (a0 < (↑(List.length a3) : Int)) then
        Option.bind (a3[Int.toNat a0]?) fun y0 =>
        bif decide ((0 : Int) ≤ a0) && decide (a0 < (↑(List.length a1) : Int)) then
          Option.bind (a1[Int.toNat a0]?) fun y1 =>
          bif !y0 == y1 then
            some (.inl (false))
          else
            rec (IntKind.wrap IntKind.i64 (a0 + (1 : Int))) (a1) (a2) (a3)
        else
          none
      else
        none
    else
      some (.inr (a2))

noncomputable def racetreelaw02_LexWords_i19 : Nat → Int → List (List UInt8) → List (List UInt8) → List (List UInt8) → Option ((Bool) ⊕ ((List (List UInt8))))
  | 0, _, _, _, _ => none
  | n + 1, a0, a1, a2, a3 => racetreelaw02_LexWords_t19 (racetreelaw02_LexWords_i19 n) a0 a1 a2 a3

noncomputable def racetreelaw02_LexWords_l19 : Int → List (List UInt8) → List (List UInt8) → List (List UInt8) → Option ((Bool) ⊕ ((List (List UInt8)))) := sealF (racetreelaw02_LexWords_i19 fuel)

noncomputable def racetreelaw02_LexWords_f (a0 : Int) : Option (Bool) :=
    Option.bind (racetreelaw02_shown) fun y0 =>
    Option.bind (racetreeref02_Words) fun y1 =>
    Option.bind (lex_Words) fun y2 =>
    bif !y0 then
      some (false)
    else
      bif (↑(List.length y2) : Int) != (↑(List.length y1) : Int) then
        some (false)
      else
        bif decide (a0 < (0 : Int)) then
          Option.bind (racetreelaw02_LexWords_l9 (IntKind.wrap IntKind.i64 ((0 : Int) - IntKind.wrap IntKind.i64 (a0 + (1 : Int)))) (0 : Int) y1 y2) fun y3 =>
          match y3 with
          | .inl y4 =>
            some (y4)
          | .inr y4 =>
            bif (↑(List.length (Prod.snd (Prod.snd y4))) : Int) == (0 : Int) then
              none
            else
              bif decide ((0 : Int) ≤ Int.tmod (Prod.fst y4) (↑(List.length (Prod.snd (Prod.snd y4))) : Int)) && decide (Int.tmod (Prod.fst y4) (↑(List.length (Prod.snd (Prod.snd y4))) : Int) < (↑(List.length (Prod.snd (Prod.snd y4))) : Int)) then
                Option.bind ((Prod.snd (Prod.snd y4))[Int.toNat (Int.tmod (Prod.fst y4) (↑(List.length (Prod.snd (Prod.snd y4))) : Int))]?) fun y5 =>
                bif decide ((List.length (List.set (Prod.snd (Prod.snd y4)) (Int.toNat (Int.tmod (Prod.fst y4) (↑(List.length (Prod.snd (Prod.snd y4))) : Int))) [(120 : UInt8)]) + (2 : Nat)) * (16 : Nat) ≤ (140737488355328 : Nat) ∧ List.length (List.set (Prod.snd (Prod.snd y4)) (Int.toNat (Int.tmod (Prod.fst y4) (↑(List.length (Prod.snd (Prod.snd y4))) : Int))) [(120 : UInt8)]) + (2 : Nat) ≤ (9223372036854775807 : Nat)) then
                  Option.bind (lex_Words) fun y6 =>
                  bif (↑(List.length y6) : Int) != (↑(List.length (Prod.fst (Prod.snd y4))) : Int) then
                    some (false)
                  else
                    Option.bind (racetreelaw02_LexWords_l19 (0 : Int) (Prod.fst (Prod.snd y4)) (List.set (Prod.snd (Prod.snd y4)) (Int.toNat (Int.tmod (Prod.fst y4) (↑(List.length (Prod.snd (Prod.snd y4))) : Int))) [(120 : UInt8)] ++ [[(121 : UInt8)], [(122 : UInt8)]]) y6) fun y7 =>
                    match y7 with
                    | .inl y8 =>
                      some (y8)
                    | .inr y8 =>
                      bif decide ((0 : Int) ≤ IntKind.wrap IntKind.i64 ((↑(List.length y8) : Int) - (1 : Int))) && decide (IntKind.wrap IntKind.i64 ((↑(List.length y8) : Int) - (1 : Int)) < (↑(List.length y8) : Int)) then
                        Option.bind (y8[Int.toNat (IntKind.wrap IntKind.i64 ((↑(List.length y8) : Int) - (1 : Int)))]?) fun y9 =>
                        some (y9 == [(122 : UInt8)])
                      else
                        none
                else
                  none
              else
                none
        else
          Option.bind (racetreelaw02_LexWords_l9 a0 (0 : Int) y1 y2) fun y10 =>
          match y10 with
          | .inl y11 =>
            some (y11)
          | .inr y11 =>
            bif (↑(List.length (Prod.snd (Prod.snd y11))) : Int) == (0 : Int) then
              none
            else
              bif decide ((0 : Int) ≤ Int.tmod (Prod.fst y11) (↑(List.length (Prod.snd (Prod.snd y11))) : Int)) && decide (Int.tmod (Prod.fst y11) (↑(List.length (Prod.snd (Prod.snd y11))) : Int) < (↑(List.length (Prod.snd (Prod.snd y11))) : Int)) then
                Option.bind ((Prod.snd (Prod.snd y11))[Int.toNat (Int.tmod (Prod.fst y11) (↑(List.length (Prod.snd (Prod.snd y11))) : Int))]?) fun y12 =>
                bif decide ((List.length (List.set (Prod.snd (Prod.snd y11)) (Int.toNat (Int.tmod (Prod.fst y11) (↑(List.length (Prod.snd (Prod.snd y11))) : Int))) [(120 : UInt8)]) + (2 : Nat)) * (16 : Nat) ≤ (140737488355328 : Nat) ∧ List.length (List.set (Prod.snd (Prod.snd y11)) (Int.toNat (Int.tmod (Prod.fst y11) (↑(List.length (Prod.snd (Prod.snd y11))) : Int))) [(120 : UInt8)]) + (2 : Nat) ≤ (9223372036854775807 : Nat)) then
                  Option.bind (lex_Words) fun y13 =>
                  bif (↑(List.length y13) : Int) != (↑(List.length (Prod.fst (Prod.snd y11))) : Int) then
                    some (false)
                  else
                    Option.bind (racetreelaw02_LexWords_l19 (0 : Int) (Prod.fst (Prod.snd y11)) (List.set (Prod.snd (Prod.snd y11)) (Int.toNat (Int.tmod (Prod.fst y11) (↑(List.length (Prod.snd (Prod.snd y11))) : Int))) [(120 : UInt8)] ++ [[(121 : UInt8)], [(122 : UInt8)]]) y13) fun y14 =>
                    match y14 with
                    | .inl y15 =>
                      some (y15)
                    | .inr y15 =>
                      bif decide ((0 : Int) ≤ IntKind.wrap IntKind.i64 ((↑(List.length y15) : Int) - (1 : Int))) && decide (IntKind.wrap IntKind.i64 ((↑(List.length y15) : Int) - (1 : Int)) < (↑(List.length y15) : Int)) then
                        Option.bind (y15[Int.toNat (IntKind.wrap IntKind.i64 ((↑(List.length y15) : Int) - (1 : Int)))]?) fun y16 =>
                        some (y16 == [(122 : UInt8)])
                      else
                        none
                else
                  none
              else
                none

noncomputable def racetreelaw02_LexWords : Int → Option (Bool) := sealF racetreelaw02_LexWords_f

noncomputable def racetreelaw02_same_t4 (rec : List (Token) → List (Token) → Bool → Int → Option ((Bool) ⊕ (Unit))) (a0 : List (Token)) (a1 : List (Token)) (a2 : Bool) (a3 : Int) : Option ((Bool) ⊕ (Unit)) :=
    bif decide (a3 < (↑(List.length a0) : Int)) then
      bif decide ((0 : Int) ≤ a3) then
        Option.bind (a0[Int.toNat a3]?) fun y0 =>
        bif decide ((0 : Int) ≤ a3) then
          Option.bind (a1[Int.toNat a3]?) fun y1 =>
          bif Token.kind y0 != Token.kind y1 then
            some (.inl (false))
          else
            bif decide ((0 : Int) ≤ a3) then
              Option.bind (a0[Int.toNat a3]?) fun y2 =>
              bif decide ((0 : Int) ≤ a3) then
                Option.bind (a1[Int.toNat a3]?) fun y3 =>
                bif !Token.text y2 == Token.text y3 then
                  some (.inl (false))
                else
                  bif decide ((0 : Int) ≤ a3) then
                    Option.bind (a0[Int.toNat a3]?) fun y4 =>
                    bif decide ((0 : Int) ≤ a3) then
                      Option.bind (a1[Int.toNat a3]?) fun y5 =>
                      bif Token.num y4 != Token.num y5 then
                        some (.inl (false))
                      else
                        bif a2 then
                          bif decide ((0 : Int) ≤ a3) then
                            Option.bind (a0[Int.toNat a3]?) fun y6 =>
                            bif decide ((0 : Int) ≤ a3) then
                              Option.bind (a1[Int.toNat a3]?) fun y7 =>
                              bif Token.at_ y6 != Token.at_ y7 then
                                some (.inl (false))
                              else
                                rec (a0) (a1) (a2) (IntKind.wrap IntKind.i64 (a3 + (1 : Int)))
                            else
                              none
                          else
                            none
                        else
                          rec (a0) (a1) (a2) (IntKind.wrap IntKind.i64 (a3 + (1 : Int)))
                    else
                      none
                  else
                    none
              else
                none
            else
              none
        else
          none
      else
        none
    else
      some (.inr ())

noncomputable def racetreelaw02_same_i4 : Nat → List (Token) → List (Token) → Bool → Int → Option ((Bool) ⊕ (Unit))
  | 0, _, _, _, _ => none
  | n + 1, a0, a1, a2, a3 => racetreelaw02_same_t4 (racetreelaw02_same_i4 n) a0 a1 a2 a3

noncomputable def racetreelaw02_same_l4 : List (Token) → List (Token) → Bool → Int → Option ((Bool) ⊕ (Unit)) := sealF (racetreelaw02_same_i4 fuel)

noncomputable def racetreelaw02_same_f (a0 : List (Token)) (a1 : List (Token)) (a2 : Bool) : Option (Bool) :=
    bif (↑(List.length a0) : Int) != (↑(List.length a1) : Int) then
      some (false)
    else
      Option.bind (racetreelaw02_same_l4 a0 a1 a2 (0 : Int)) fun y0 =>
      match y0 with
      | .inl y1 =>
        some (y1)
      | .inr y1 =>
        some (true)

noncomputable def racetreelaw02_same : List (Token) → List (Token) → Bool → Option (Bool) := sealF racetreelaw02_same_f

noncomputable def racetreelaw02_LexBack_f (a0 : List (Token)) : Option (Bool) :=
    Option.bind (racetreelaw02_shown) fun y0 =>
    Option.bind (lex_Join a0) fun y1 =>
    bif !y0 then
      bif y0 then
        some (Prod.fst y1 == [])
      else
        some (false)
    else
      bif Prod.snd y1 != (0 : Int) then
        bif y0 then
          some (Prod.fst y1 == [])
        else
          some (false)
      else
        Option.bind (lex_Tokens (Prod.fst y1)) fun y2 =>
        Option.bind (racetreelaw02_same (Prod.snd y2) a0 false) fun y3 =>
        bif Fault.code (Prod.fst y2) == (0 : Int) then
          some (y3)
        else
          some (false)

noncomputable def racetreelaw02_LexBack : List (Token) → Option (Bool) := sealF racetreelaw02_LexBack_f

noncomputable def racetreelaw02_LexTexts_f (a0 : List UInt8) : Option (Bool) :=
    Option.bind (racetreelaw02_shown) fun y0 =>
    Option.bind (lex_Tokens a0) fun y1 =>
    bif !y0 then
      some (y0)
    else
      bif Fault.code (Prod.fst y1) != (0 : Int) then
        some (y0)
      else
        Option.bind (lex_Join (Prod.snd y1)) fun y2 =>
        bif Prod.snd y2 != (0 : Int) then
          some (Prod.snd y2 == (10 : Int))
        else
          Option.bind (lex_Tokens (Prod.fst y2)) fun y3 =>
          Option.bind (racetreelaw02_same (Prod.snd y3) (Prod.snd y1) false) fun y4 =>
          bif Fault.code (Prod.fst y3) == (0 : Int) then
            some (y4)
          else
            some (false)

noncomputable def racetreelaw02_LexTexts : List UInt8 → Option (Bool) := sealF racetreelaw02_LexTexts_f

noncomputable def racetreeref01_IsRune_f (a0 : Int) : Option (Bool) :=
    bif decide (a0 ≥ (0 : Int)) then
      bif decide (a0 ≤ (1114111 : Int)) then
        bif decide (a0 < (55296 : Int)) then
          some (true)
        else
          some (decide (a0 > (57343 : Int)))
      else
        some (false)
    else
      some (false)

noncomputable def racetreeref01_IsRune : Int → Option (Bool) := sealF racetreeref01_IsRune_f

noncomputable def racetreeref01_long_f (a0 : Int) : Option (Int) :=
    bif decide (a0 < (128 : Int)) then
      some ((1 : Int))
    else
      bif decide (a0 < (2048 : Int)) then
        some ((2 : Int))
      else
        bif decide (a0 < (65536 : Int)) then
          some ((3 : Int))
        else
          some ((4 : Int))

noncomputable def racetreeref01_long : Int → Option (Int) := sealF racetreeref01_long_f

noncomputable def racetreeref01_At_t18 (rec : List UInt8 → Int → Int → Int → Int → Option ((Int × Int) ⊕ (Int × Int))) (a0 : List UInt8) (a1 : Int) (a2 : Int) (a3 : Int) (a4 : Int) : Option ((Int × Int) ⊕ (Int × Int)) :=
    bif decide (a4 < a2) then
      bif decide ((0 : Int) ≤ IntKind.wrap IntKind.i64 (a1 + a4)) then
        Option.bind (a0[Int.toNat (IntKind.wrap IntKind.i64 (a1 + a4))]?) fun y0 =>
        bif decide (IntKind.wrap IntKind.i64 (↑(UInt8.toNat y0) : Int) < (128 : Int)) then
          some (.inl (((0 : Int)), ((0 : Int))))
        else
          bif decide (IntKind.wrap IntKind.i64 (↑(UInt8.toNat y0) : Int) > (191 : Int)) then
            some (.inl (((0 : Int)), ((0 : Int))))
          else
            rec (a0) (a1) (a2) (IntKind.wrap IntKind.i64 (IntKind.wrap IntKind.i64 (IntKind.wrap IntKind.i64 ((64 : Int) * a3) + IntKind.wrap IntKind.i64 (↑(UInt8.toNat y0) : Int)) - (128 : Int))) (IntKind.wrap IntKind.i64 (a4 + (1 : Int)))
      else
        none
    else
      some (.inr ((a2), (a3)))

noncomputable def racetreeref01_At_i18 : Nat → List UInt8 → Int → Int → Int → Int → Option ((Int × Int) ⊕ (Int × Int))
  | 0, _, _, _, _, _ => none
  | n + 1, a0, a1, a2, a3, a4 => racetreeref01_At_t18 (racetreeref01_At_i18 n) a0 a1 a2 a3 a4

noncomputable def racetreeref01_At_l18 : List UInt8 → Int → Int → Int → Int → Option ((Int × Int) ⊕ (Int × Int)) := sealF (racetreeref01_At_i18 fuel)

noncomputable def racetreeref01_At_f (a0 : List UInt8) (a1 : Int) : Option (Int × Int) :=
    bif decide ((0 : Int) ≤ a1) then
      Option.bind (a0[Int.toNat a1]?) fun y0 =>
      bif decide (IntKind.wrap IntKind.i64 (↑(UInt8.toNat y0) : Int) ≥ (240 : Int)) then
        bif decide (IntKind.wrap IntKind.i64 ((↑(List.length a0) : Int) - a1) < (4 : Int)) then
          some (((0 : Int)), ((0 : Int)))
        else
          Option.bind (racetreeref01_At_l18 a0 a1 (4 : Int) (IntKind.wrap IntKind.i64 (IntKind.wrap IntKind.i64 (↑(UInt8.toNat y0) : Int) - (240 : Int))) (1 : Int)) fun y1 =>
          match y1 with
          | .inl y2 =>
            some ((Prod.fst y2), (Prod.snd y2))
          | .inr y2 =>
            Option.bind (racetreeref01_IsRune (Prod.snd y2)) fun y3 =>
            bif !y3 then
              some (((0 : Int)), ((0 : Int)))
            else
              Option.bind (racetreeref01_long (Prod.snd y2)) fun y4 =>
              bif y4 != Prod.fst y2 then
                some (((0 : Int)), ((0 : Int)))
              else
                some ((Prod.snd y2), (Prod.fst y2))
      else
        bif decide (IntKind.wrap IntKind.i64 (↑(UInt8.toNat y0) : Int) ≥ (224 : Int)) then
          bif decide (IntKind.wrap IntKind.i64 ((↑(List.length a0) : Int) - a1) < (3 : Int)) then
            some (((0 : Int)), ((0 : Int)))
          else
            Option.bind (racetreeref01_At_l18 a0 a1 (3 : Int) (IntKind.wrap IntKind.i64 (IntKind.wrap IntKind.i64 (↑(UInt8.toNat y0) : Int) - (224 : Int))) (1 : Int)) fun y5 =>
            match y5 with
            | .inl y6 =>
              some ((Prod.fst y6), (Prod.snd y6))
            | .inr y6 =>
              Option.bind (racetreeref01_IsRune (Prod.snd y6)) fun y7 =>
              bif !y7 then
                some (((0 : Int)), ((0 : Int)))
              else
                Option.bind (racetreeref01_long (Prod.snd y6)) fun y8 =>
                bif y8 != Prod.fst y6 then
                  some (((0 : Int)), ((0 : Int)))
                else
                  some ((Prod.snd y6), (Prod.fst y6))
        else
          bif decide (IntKind.wrap IntKind.i64 (↑(UInt8.toNat y0) : Int) ≥ (192 : Int)) then
            bif decide (IntKind.wrap IntKind.i64 ((↑(List.length a0) : Int) - a1) < (2 : Int)) then
              some (((0 : Int)), ((0 : Int)))
            else
              Option.bind (racetreeref01_At_l18 a0 a1 (2 : Int) (IntKind.wrap IntKind.i64 (IntKind.wrap IntKind.i64 (↑(UInt8.toNat y0) : Int) - (192 : Int))) (1 : Int)) fun y9 =>
              match y9 with
              | .inl y10 =>
                some ((Prod.fst y10), (Prod.snd y10))
              | .inr y10 =>
                Option.bind (racetreeref01_IsRune (Prod.snd y10)) fun y11 =>
                bif !y11 then
                  some (((0 : Int)), ((0 : Int)))
                else
                  Option.bind (racetreeref01_long (Prod.snd y10)) fun y12 =>
                  bif y12 != Prod.fst y10 then
                    some (((0 : Int)), ((0 : Int)))
                  else
                    some ((Prod.snd y10), (Prod.fst y10))
          else
            bif decide (IntKind.wrap IntKind.i64 (↑(UInt8.toNat y0) : Int) ≥ (128 : Int)) then
              some (((0 : Int)), ((0 : Int)))
            else
              bif decide (IntKind.wrap IntKind.i64 ((↑(List.length a0) : Int) - a1) < (1 : Int)) then
                some (((0 : Int)), ((0 : Int)))
              else
                Option.bind (racetreeref01_At_l18 a0 a1 (1 : Int) (IntKind.wrap IntKind.i64 (↑(UInt8.toNat y0) : Int)) (1 : Int)) fun y13 =>
                match y13 with
                | .inl y14 =>
                  some ((Prod.fst y14), (Prod.snd y14))
                | .inr y14 =>
                  Option.bind (racetreeref01_IsRune (Prod.snd y14)) fun y15 =>
                  bif !y15 then
                    some (((0 : Int)), ((0 : Int)))
                  else
                    Option.bind (racetreeref01_long (Prod.snd y14)) fun y16 =>
                    bif y16 != Prod.fst y14 then
                      some (((0 : Int)), ((0 : Int)))
                    else
                      some ((Prod.snd y14), (Prod.fst y14))
    else
      none

noncomputable def racetreeref01_At : List UInt8 → Int → Option (Int × Int) := sealF racetreeref01_At_f

noncomputable def racetreeref01_on_f (a0 : Spot) (a1 : Int) (a2 : Int) : Option (Spot) :=
    bif a1 == (10 : Int) then
      some (Spot.mk (Spot.rune a0) (IntKind.wrap IntKind.i64 (Spot.at_ a0 + a2)) (IntKind.wrap IntKind.i64 (Spot.line a0 + (1 : Int))) (1 : Int))
    else
      some (Spot.mk (Spot.rune a0) (IntKind.wrap IntKind.i64 (Spot.at_ a0 + a2)) (Spot.line a0) (IntKind.wrap IntKind.i64 (Spot.col a0 + (1 : Int))))

noncomputable def racetreeref01_on : Spot → Int → Int → Option (Spot) := sealF racetreeref01_on_f

noncomputable def racetreeref01_spots_t3 (rec : List UInt8 → Int → Int → Int → Int → Int → Int → Int → Int → List (Spot) → Option (Int × Int × Int × Int × Int × Int × Int × Int × (List (Spot)))) (a0 : List UInt8) (a1 : Int) (a2 : Int) (a3 : Int) (a4 : Int) (a5 : Int) (a6 : Int) (a7 : Int) (a8 : Int) (a9 : List (Spot)) : Option (Int × Int × Int × Int × Int × Int × Int × Int × (List (Spot))) :=
    bif decide (a6 < (↑(List.length a0) : Int)) then
      Option.bind (racetreeref01_At a0 a6) fun y0 =>
      bif Prod.snd y0 == (0 : Int) then
        some ((a1), (a2), (a3), (a4), (a5), (a6), (a7), (a8), (a9))
      else
        bif decide ((List.length a9 + List.length [Spot.mk (Prod.fst y0) a6 a7 a8]) * (32 : Nat) ≤ (140737488355328 : Nat) ∧ List.length a9 + List.length [Spot.mk (Prod.fst y0) a6 a7 a8] ≤ (9223372036854775807 : Nat)) then
          Option.bind (racetreeref01_on (Spot.mk (Prod.fst y0) a6 a7 a8) (Prod.fst y0) (Prod.snd y0)) fun y1 =>
          rec (a0) (a1) (a2) (a3) (a4) (Spot.rune y1) (Spot.at_ y1) (Spot.line y1) (Spot.col y1) (a9 ++ [Spot.mk (Prod.fst y0) a6 a7 a8])
        else
          none
    else
      some ((a1), (a2), (a3), (a4), (a5), (a6), (a7), (a8), (a9))

noncomputable def racetreeref01_spots_i3 : Nat → List UInt8 → Int → Int → Int → Int → Int → Int → Int → Int → List (Spot) → Option (Int × Int × Int × Int × Int × Int × Int × Int × (List (Spot)))
  | 0, _, _, _, _, _, _, _, _, _, _ => none
  | n + 1, a0, a1, a2, a3, a4, a5, a6, a7, a8, a9 => racetreeref01_spots_t3 (racetreeref01_spots_i3 n) a0 a1 a2 a3 a4 a5 a6 a7 a8 a9

noncomputable def racetreeref01_spots_l3 : List UInt8 → Int → Int → Int → Int → Int → Int → Int → Int → List (Spot) → Option (Int × Int × Int × Int × Int × Int × Int × Int × (List (Spot))) := sealF (racetreeref01_spots_i3 fuel)

noncomputable def racetreeref01_spots_f (a0 : List UInt8) : Option (Spot × (List (Spot))) :=
    Option.bind (racetreeref01_spots_l3 a0 (0 : Int) (0 : Int) (0 : Int) (0 : Int) (0 : Int) (0 : Int) (1 : Int) (1 : Int) []) fun y0 =>
    some ((Spot.mk (-1 : Int) (Prod.fst (Prod.snd (Prod.snd (Prod.snd (Prod.snd (Prod.snd y0)))))) (Prod.fst (Prod.snd (Prod.snd (Prod.snd (Prod.snd (Prod.snd (Prod.snd y0))))))) (Prod.fst (Prod.snd (Prod.snd (Prod.snd (Prod.snd (Prod.snd (Prod.snd (Prod.snd y0))))))))), (Prod.snd (Prod.snd (Prod.snd (Prod.snd (Prod.snd (Prod.snd (Prod.snd (Prod.snd y0)))))))))

noncomputable def racetreeref01_spots : List UInt8 → Option (Spot × (List (Spot))) := sealF racetreeref01_spots_f

noncomputable def racetreeref01_Runes_f (a0 : List UInt8) : Option (Fault × (List (Spot))) :=
    bif decide ((↑(List.length a0) : Int) > (4000 : Int)) then
      some ((Fault.mk (10 : Int) (4000 : Int) []), ([]))
    else
      Option.bind (racetreeref01_spots a0) fun y0 =>
      bif decide (Spot.at_ (Prod.fst y0) < (↑(List.length a0) : Int)) then
        some ((Fault.mk (11 : Int) (Spot.at_ (Prod.fst y0)) []), ([]))
      else
        some ((Fault.mk (0 : Int) (0 : Int) []), (Prod.snd y0))

noncomputable def racetreeref01_Runes : List UInt8 → Option (Fault × (List (Spot))) := sealF racetreeref01_Runes_f

noncomputable def racetreeref01_Blank_f (a0 : Int) : Option (Bool) :=
    bif a0 == (9 : Int) then
      some (true)
    else
      bif a0 == (10 : Int) then
        some (true)
      else
        bif a0 == (13 : Int) then
          some (true)
        else
          some (a0 == (32 : Int))

noncomputable def racetreeref01_Blank : Int → Option (Bool) := sealF racetreeref01_Blank_f

noncomputable def racetreelaw02_LexBlanks_t20 (rec : List UInt8 → List UInt8 → Int → List UInt8 → Int → List (Token) → Option ((List UInt8) × Int × (List UInt8) × (List (Token)))) (a0 : List UInt8) (a1 : List UInt8) (a2 : Int) (a3 : List UInt8) (a4 : Int) (a5 : List (Token)) : Option ((List UInt8) × Int × (List UInt8) × (List (Token))) :=
    bif decide (a4 < (↑(List.length a1) : Int)) then
      bif decide ((0 : Int) ≤ a4) then
        Option.bind (a1[Int.toNat a4]?) fun y0 =>
        bif (↑(UInt8.toNat y0) : Int) != (10 : Int) then
          bif decide ((0 : Int) ≤ a4) && (decide (a4 ≤ IntKind.wrap IntKind.i64 (a4 + (1 : Int))) && decide (IntKind.wrap IntKind.i64 (a4 + (1 : Int)) ≤ (↑(List.length a1) : Int))) then
            bif decide (List.length a3 + List.length (List.drop (Int.toNat a4) (List.take (Int.toNat (IntKind.wrap IntKind.i64 (a4 + (1 : Int)))) a1)) ≤ (9223372036854775807 : Nat)) then
              rec (a0) (a1) (a2) (a3 ++ List.drop (Int.toNat a4) (List.take (Int.toNat (IntKind.wrap IntKind.i64 (a4 + (1 : Int)))) a1)) (IntKind.wrap IntKind.i64 (a4 + (1 : Int))) (a5)
            else
              none
          else
            none
        else
          some ((a0), (a2), (a3), (a5))
      else
        none
    else
      some ((a0), (a2), (a3), (a5))

noncomputable def racetreelaw02_LexBlanks_i20 : Nat → List UInt8 → List UInt8 → Int → List UInt8 → Int → List (Token) → Option ((List UInt8) × Int × (List UInt8) × (List (Token)))
  | 0, _, _, _, _, _, _ => none
  | n + 1, a0, a1, a2, a3, a4, a5 => racetreelaw02_LexBlanks_t20 (racetreelaw02_LexBlanks_i20 n) a0 a1 a2 a3 a4 a5

noncomputable def racetreelaw02_LexBlanks_l20 : List UInt8 → List UInt8 → Int → List UInt8 → Int → List (Token) → Option ((List UInt8) × Int × (List UInt8) × (List (Token))) := sealF (racetreelaw02_LexBlanks_i20 fuel)

noncomputable def racetreelaw02_LexBlanks_f (a0 : List UInt8) (a1 : Int) (a2 : List UInt8) : Option (Bool) :=
    Option.bind (racetreelaw02_shown) fun y0 =>
    Option.bind (lex_Tokens a0) fun y1 =>
    bif !y0 then
      some (y0)
    else
      bif Fault.code (Prod.fst y1) != (0 : Int) then
        some (y0)
      else
        bif decide (a1 < (0 : Int)) then
          some (y0)
        else
          bif (↑(List.length (Prod.snd y1)) : Int) == (0 : Int) then
            some (false)
          else
            bif (↑(List.length (Prod.snd y1)) : Int) == (0 : Int) then
              none
            else
              bif decide ((0 : Int) ≤ Int.tmod a1 (↑(List.length (Prod.snd y1)) : Int)) && decide (Int.tmod a1 (↑(List.length (Prod.snd y1)) : Int) < (↑(List.length (Prod.snd y1)) : Int)) then
                Option.bind ((Prod.snd y1)[Int.toNat (Int.tmod a1 (↑(List.length (Prod.snd y1)) : Int))]?) fun y2 =>
                bif decide (Token.at_ y2 < (0 : Int)) then
                  some (false)
                else
                  bif decide (Token.at_ y2 > (↑(List.length a0) : Int)) then
                    some (false)
                  else
                    Option.bind (racetreeref01_Runes a2) fun y3 =>
                    bif Fault.code (Prod.fst y3) != (0 : Int) then
                      some (true)
                    else
                      bif (↑(List.length a2) : Int) == (1 : Int) then
                        Option.bind (a2[(0 : Nat)]?) fun y4 =>
                        Option.bind (racetreeref01_Blank (IntKind.wrap IntKind.i64 (↑(UInt8.toNat y4) : Int))) fun y5 =>
                        bif !y5 then
                          Option.bind (racetreelaw02_LexBlanks_l20 a0 a2 (Token.at_ y2) [(35 : UInt8)] (0 : Int) (Prod.snd y1)) fun y6 =>
                          bif decide (List.length (Prod.fst (Prod.snd (Prod.snd y6))) + (1 : Nat) ≤ (9223372036854775807 : Nat)) then
                            bif decide (IntKind.wrap IntKind.i64 ((↑(List.length (Prod.fst (Prod.snd (Prod.snd y6)) ++ [(10 : UInt8)])) : Int) + (↑(List.length (Prod.fst y6)) : Int)) > (4000 : Int)) then
                              some (true)
                            else
                              bif decide ((0 : Int) ≤ (0 : Int)) && (decide ((0 : Int) ≤ Prod.fst (Prod.snd y6)) && decide (Prod.fst (Prod.snd y6) ≤ (↑(List.length (Prod.fst y6)) : Int))) then
                                bif decide (List.length (List.drop (0 : Nat) (List.take (Int.toNat (Prod.fst (Prod.snd y6))) (Prod.fst y6))) + List.length (Prod.fst (Prod.snd (Prod.snd y6)) ++ [(10 : UInt8)]) ≤ (9223372036854775807 : Nat)) then
                                  bif decide ((0 : Int) ≤ Prod.fst (Prod.snd y6)) && (decide (Prod.fst (Prod.snd y6) ≤ (↑(List.length (Prod.fst y6)) : Int)) && decide ((↑(List.length (Prod.fst y6)) : Int) ≤ (↑(List.length (Prod.fst y6)) : Int))) then
                                    bif decide (List.length (List.drop (0 : Nat) (List.take (Int.toNat (Prod.fst (Prod.snd y6))) (Prod.fst y6)) ++ (Prod.fst (Prod.snd (Prod.snd y6)) ++ [(10 : UInt8)])) + List.length (List.drop (Int.toNat (Prod.fst (Prod.snd y6))) (List.take (Int.toNat (↑(List.length (Prod.fst y6)) : Int)) (Prod.fst y6))) ≤ (9223372036854775807 : Nat)) then
                                      Option.bind (lex_Tokens (List.drop (0 : Nat) (List.take (Int.toNat (Prod.fst (Prod.snd y6))) (Prod.fst y6)) ++ (Prod.fst (Prod.snd (Prod.snd y6)) ++ [(10 : UInt8)]) ++ List.drop (Int.toNat (Prod.fst (Prod.snd y6))) (List.take (Int.toNat (↑(List.length (Prod.fst y6)) : Int)) (Prod.fst y6)))) fun y7 =>
                                      Option.bind (racetreelaw02_same (Prod.snd y7) (Prod.snd (Prod.snd (Prod.snd y6))) false) fun y8 =>
                                      bif Fault.code (Prod.fst y7) == (0 : Int) then
                                        some (y8)
                                      else
                                        some (false)
                                    else
                                      none
                                  else
                                    none
                                else
                                  none
                              else
                                none
                          else
                            none
                        else
                          bif decide (IntKind.wrap IntKind.i64 ((↑(List.length a2) : Int) + (↑(List.length a0) : Int)) > (4000 : Int)) then
                            some (true)
                          else
                            bif decide ((0 : Int) ≤ (0 : Int)) && (decide ((0 : Int) ≤ Token.at_ y2) && decide (Token.at_ y2 ≤ (↑(List.length a0) : Int))) then
                              bif decide (List.length (List.drop (0 : Nat) (List.take (Int.toNat (Token.at_ y2)) a0)) + List.length a2 ≤ (9223372036854775807 : Nat)) then
                                bif decide ((0 : Int) ≤ Token.at_ y2) && (decide (Token.at_ y2 ≤ (↑(List.length a0) : Int)) && decide ((↑(List.length a0) : Int) ≤ (↑(List.length a0) : Int))) then
                                  bif decide (List.length (List.drop (0 : Nat) (List.take (Int.toNat (Token.at_ y2)) a0) ++ a2) + List.length (List.drop (Int.toNat (Token.at_ y2)) (List.take (Int.toNat (↑(List.length a0) : Int)) a0)) ≤ (9223372036854775807 : Nat)) then
                                    Option.bind (lex_Tokens (List.drop (0 : Nat) (List.take (Int.toNat (Token.at_ y2)) a0) ++ a2 ++ List.drop (Int.toNat (Token.at_ y2)) (List.take (Int.toNat (↑(List.length a0) : Int)) a0))) fun y9 =>
                                    Option.bind (racetreelaw02_same (Prod.snd y9) (Prod.snd y1) false) fun y10 =>
                                    bif Fault.code (Prod.fst y9) == (0 : Int) then
                                      some (y10)
                                    else
                                      some (false)
                                  else
                                    none
                                else
                                  none
                              else
                                none
                            else
                              none
                      else
                        bif !(↑(List.length a2) : Int) == (1 : Int) then
                          Option.bind (racetreelaw02_LexBlanks_l20 a0 a2 (Token.at_ y2) [(35 : UInt8)] (0 : Int) (Prod.snd y1)) fun y11 =>
                          bif decide (List.length (Prod.fst (Prod.snd (Prod.snd y11))) + (1 : Nat) ≤ (9223372036854775807 : Nat)) then
                            bif decide (IntKind.wrap IntKind.i64 ((↑(List.length (Prod.fst (Prod.snd (Prod.snd y11)) ++ [(10 : UInt8)])) : Int) + (↑(List.length (Prod.fst y11)) : Int)) > (4000 : Int)) then
                              some (true)
                            else
                              bif decide ((0 : Int) ≤ (0 : Int)) && (decide ((0 : Int) ≤ Prod.fst (Prod.snd y11)) && decide (Prod.fst (Prod.snd y11) ≤ (↑(List.length (Prod.fst y11)) : Int))) then
                                bif decide (List.length (List.drop (0 : Nat) (List.take (Int.toNat (Prod.fst (Prod.snd y11))) (Prod.fst y11))) + List.length (Prod.fst (Prod.snd (Prod.snd y11)) ++ [(10 : UInt8)]) ≤ (9223372036854775807 : Nat)) then
                                  bif decide ((0 : Int) ≤ Prod.fst (Prod.snd y11)) && (decide (Prod.fst (Prod.snd y11) ≤ (↑(List.length (Prod.fst y11)) : Int)) && decide ((↑(List.length (Prod.fst y11)) : Int) ≤ (↑(List.length (Prod.fst y11)) : Int))) then
                                    bif decide (List.length (List.drop (0 : Nat) (List.take (Int.toNat (Prod.fst (Prod.snd y11))) (Prod.fst y11)) ++ (Prod.fst (Prod.snd (Prod.snd y11)) ++ [(10 : UInt8)])) + List.length (List.drop (Int.toNat (Prod.fst (Prod.snd y11))) (List.take (Int.toNat (↑(List.length (Prod.fst y11)) : Int)) (Prod.fst y11))) ≤ (9223372036854775807 : Nat)) then
                                      Option.bind (lex_Tokens (List.drop (0 : Nat) (List.take (Int.toNat (Prod.fst (Prod.snd y11))) (Prod.fst y11)) ++ (Prod.fst (Prod.snd (Prod.snd y11)) ++ [(10 : UInt8)]) ++ List.drop (Int.toNat (Prod.fst (Prod.snd y11))) (List.take (Int.toNat (↑(List.length (Prod.fst y11)) : Int)) (Prod.fst y11)))) fun y12 =>
                                      Option.bind (racetreelaw02_same (Prod.snd y12) (Prod.snd (Prod.snd (Prod.snd y11))) false) fun y13 =>
                                      bif Fault.code (Prod.fst y12) == (0 : Int) then
                                        some (y13)
                                      else
                                        some (false)
                                    else
                                      none
                                  else
                                    none
                                else
                                  none
                              else
                                none
                          else
                            none
                        else
                          bif decide (IntKind.wrap IntKind.i64 ((↑(List.length a2) : Int) + (↑(List.length a0) : Int)) > (4000 : Int)) then
                            some (true)
                          else
                            bif decide ((0 : Int) ≤ (0 : Int)) && (decide ((0 : Int) ≤ Token.at_ y2) && decide (Token.at_ y2 ≤ (↑(List.length a0) : Int))) then
                              bif decide (List.length (List.drop (0 : Nat) (List.take (Int.toNat (Token.at_ y2)) a0)) + List.length a2 ≤ (9223372036854775807 : Nat)) then
                                bif decide ((0 : Int) ≤ Token.at_ y2) && (decide (Token.at_ y2 ≤ (↑(List.length a0) : Int)) && decide ((↑(List.length a0) : Int) ≤ (↑(List.length a0) : Int))) then
                                  bif decide (List.length (List.drop (0 : Nat) (List.take (Int.toNat (Token.at_ y2)) a0) ++ a2) + List.length (List.drop (Int.toNat (Token.at_ y2)) (List.take (Int.toNat (↑(List.length a0) : Int)) a0)) ≤ (9223372036854775807 : Nat)) then
                                    Option.bind (lex_Tokens (List.drop (0 : Nat) (List.take (Int.toNat (Token.at_ y2)) a0) ++ a2 ++ List.drop (Int.toNat (Token.at_ y2)) (List.take (Int.toNat (↑(List.length a0) : Int)) a0))) fun y14 =>
                                    Option.bind (racetreelaw02_same (Prod.snd y14) (Prod.snd y1) false) fun y15 =>
                                    bif Fault.code (Prod.fst y14) == (0 : Int) then
                                      some (y15)
                                    else
                                      some (false)
                                  else
                                    none
                                else
                                  none
                              else
                                none
                            else
                              none
              else
                none

noncomputable def racetreelaw02_LexBlanks : List UInt8 → Int → List UInt8 → Option (Bool) := sealF racetreelaw02_LexBlanks_f

end Lift.Fn

