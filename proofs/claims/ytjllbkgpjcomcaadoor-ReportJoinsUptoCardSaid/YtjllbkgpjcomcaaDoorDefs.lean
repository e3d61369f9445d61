/-
  DERIVED. The functions of this seat as Lean has them; the library's modes. Conditions: none.
-/
import Derived.Test.YtjllbkgpjcomcaaDoorLiftC
import Derived.Test.YtjllbkgpjcomcaaDoorProg
import Derived.KernelRfl
set_option linter.unusedVariables false
set_option linter.unusedSimpArgs false
set_option linter.unusedSectionVars false
namespace Lift.D2
open Go Go.RowKit Go.Proofs Lift

@[reducible] noncomputable def U (n : Nat) : Type := match n with
  | 30 => Finding
  | 34 => Names
  | 38 => Fault
  | _ => Empty

noncomputable def cells (n : Nat) : U n → List (TV U) := match n with
  | 30 => fun (x : Finding) => [⟨.int .i64, x.kind⟩, ⟨.int .i64, x.thread⟩, ⟨.int .i64, x.other⟩, ⟨.int .i64, x.what⟩, ⟨.slc (.int .i64), x.schedule⟩]
  | 34 => fun (x : Names) => [⟨.slc (.str), x.cells⟩, ⟨.slc (.str), x.mutexes⟩, ⟨.slc (.str), x.threads⟩, ⟨.slc (.slc (.str)), x.regs⟩]
  | 38 => fun (x : Fault) => [⟨.int .i64, x.code⟩, ⟨.int .i64, x.at_⟩, ⟨.str, x.name⟩]
  | _ => fun _ => []

noncomputable def ctys (n : Nat) : List Ty := match n with
  | 30 => [.int .i64, .int .i64, .int .i64, .int .i64, .slc (.int .i64)]
  | 34 => [.slc (.str), .slc (.str), .slc (.str), .slc (.slc (.str))]
  | 38 => [.int .i64, .int .i64, .str]
  | _ => []

noncomputable def make (n : Nat) : List (TV U) → Option (U n) := match n with
  | 30 => fun | [⟨.int .i64, v0⟩, ⟨.int .i64, v1⟩, ⟨.int .i64, v2⟩, ⟨.int .i64, v3⟩, ⟨.slc (.int .i64), v4⟩] => some (Finding.mk v0 v1 v2 v3 v4) | _ => none
  | 34 => fun | [⟨.slc (.str), v0⟩, ⟨.slc (.str), v1⟩, ⟨.slc (.str), v2⟩, ⟨.slc (.slc (.str)), v3⟩] => some (Names.mk v0 v1 v2 v3) | _ => none
  | 38 => fun | [⟨.int .i64, v0⟩, ⟨.int .i64, v1⟩, ⟨.str, v2⟩] => some (Fault.mk v0 v1 v2) | _ => none
  | _ => fun _ => none

@[reducible] noncomputable def uni : Uni where
  U := U
  cells := cells
  ctys := ctys
  make := make
  make_ok := by
    intro n cs x h
    unfold make at h
    split at h
    · dsimp only at h
      split at h
      · cases h; rfl
      · cases h
    · dsimp only at h
      split at h
      · cases h; rfl
      · cases h
    · dsimp only at h
      split at h
      · cases h; rfl
      · cases h
    · cases h
  tys_ok := by
    intro n x
    unfold cells ctys
    split <;> rfl
  flat_ok := by
    intro n t h
    have : ∀ n, (ctys n).all Ty.flat = true := by
      intro n
      unfold ctys
      split <;> rfl
    exact List.all_eq_true.1 (this n) t h

noncomputable def tyOf : TypeId → Option Ty
  | 1 => some (.fn)
  | 2 => some (.int .i64)
  | 3 => some (.int .i64)
  | 4 => some (.bool)
  | 5 => some (.int .u8)
  | 6 => some (.int .u8)
  | 9 => some (.str)
  | 10 => some (.str)
  | 11 => some (.str)
  | 12 => some (.int .u64)
  | 21 => some (.int .i32)
  | 22 => some (.slc (.st 30))
  | 23 => some (.fn)
  | 24 => some (.int .i64)
  | 26 => some (.fn)
  | 27 => some (.fn)
  | 28 => some (.slc (.int .i64))
  | 30 => some (.st 30)
  | 31 => some (.slc (.str))
  | 32 => some (.slc (.slc (.str)))
  | 34 => some (.st 34)
  | 35 => some (.fn)
  | 36 => some (.fn)
  | 38 => some (.st 38)
  | 40 => some (.fn)
  | 41 => some (.fn)
  | 42 => some (.fn)
  | 43 => some (.fn)
  | 44 => some (.fn)
  | 46 => some (.slc (.int .u8))
  | 50 => some (.err)
  | 52 => some (.fn)
  | 53 => some (.fn)
  | 54 => some (.fn)
  | 55 => some (.fn)
  | 56 => some (.fn)
  | 58 => some (.fn)
  | 60 => some (.fn)
  | 61 => some (.fn)
  | 62 => some (.fn)
  | 64 => some (.fn)
  | 65 => some (.fn)
  | 66 => some (.fn)
  | 67 => some (.fn)
  | 68 => some (.fn)
  | 69 => some (.fn)
  | 70 => some (.fn)
  | 71 => some (.fn)
  | 72 => some (.fn)
  | 74 => some (.fn)
  | 75 => some (.fn)
  | 76 => some (.fn)
  | 77 => some (.fn)
  | 78 => some (.fn)
  | 79 => some (.fn)
  | 80 => some (.fn)
  | 81 => some (.fn)
  | 82 => some (.fn)
  | 84 => some (.fn)
  | 85 => some (.fn)
  | 86 => some (.fn)
  | 87 => some (.fn)
  | 88 => some (.fn)
  | 90 => some (.fn)
  | 91 => some (.fn)
  | 92 => some (.fn)
  | 93 => some (.int .u64)
  | 95 => some (.fn)
  | 97 => some (.int .u64)
  | 98 => some (.fn)
  | 99 => some (.fn)
  | 101 => some (.fn)
  | 102 => some (.fn)
  | 103 => some (.int .u32)
  | 105 => some (.fn)
  | 106 => some (.fn)
  | 109 => some (.fn)
  | 114 => some (.fn)
  | 122 => some (.int .u8)
  | 123 => some (.int .u8)
  | 124 => some (.fn)
  | 125 => some (.int .i32)
  | 126 => some (.int .i32)
  | _ => none

noncomputable def eqOf (T : TypeId) (n : Nat) : Option (U n → U n → Bool) := match n with
  | 38 => bif Nat.beq T 38 then some fun (a b : Fault) => decide (a = b) else none
  | _ => none

@[reducible] noncomputable def kk : Kit := { P := Tryd.prog, u := uni, tyOf, eqOf, modes := fun _ => [] }

theorem eqOk : EqOk kk := by
  refine eqOk_flat fun T n f h => ?_
  change eqOf T n = some f at h
  change flatStruct Tryd.prog T (ctys n) = true ∧ ∀ a b : U n, f a b = cellsEq (cells n a) (cells n b)
  unfold eqOf at h
  split at h
  · cases hb : Nat.beq T 38 with
    | true =>
      rw [hb] at h
      cases Nat.eq_of_beq_eq_true hb
      cases h
      refine ⟨by kernel_rfl, ?_⟩
      rintro ⟨a0, a1, a2⟩ ⟨b0, b1, b2⟩
      simp [cells, cellsEq, scalarEq, cond_eq_ite, Bool.decide_and]
    | false => rw [hb] at h; cases h
  · cases h

theorem mixed : kk.P.follows .mixedOrders = true := by kernel_rfl
end Lift.D2

/- The kit is the first half's. (For D3Gen put a line ahead of the end: ex-port Lift.D2 (U kk uni cells ctys make tyOf eqOk mixed), the word unhyphened.) -/
namespace Lift.D3
end Lift.D3

/- The library's modes. -/
namespace Lift.D2
open Go Go.RowKit Go.Proofs Lift Lift.Fn

noncomputable def strings_Join_md : Mode U := ⟨⟨⟨[0, 1], [], []⟩, [.t (.slc .str), .t (.str)], []⟩, [], [⟨⟨[0], [], []⟩, [.t (.str)], []⟩], fun ls => match ls with | [⟨.slc .str, a0⟩, ⟨.str, a1⟩] => .get (strings_Join a0 a1) (fun r => .ret (0, [⟨.str, r⟩])) | _ => .fail⟩
noncomputable def strconv_Itoa_md : Mode U := ⟨⟨⟨[0], [], []⟩, [.t (.int .i64)], []⟩, [], [⟨⟨[0], [], []⟩, [.t (.str)], []⟩], fun ls => match ls with | [⟨.int .i64, a0⟩] => .get (strconv_Itoa a0) (fun r => .ret (0, [⟨.str, r⟩])) | _ => .fail⟩
noncomputable def strings_Builder_copyCheck_md : Mode U := ⟨⟨⟨[0], [100000], [⟨.cell 100000 1, 200001, 5, .int .u8⟩]⟩, [.ptr 100000 0], [.blk 48 [.selfp 100000, .oslc 200001], .row 5 (.int .u8)]⟩, [⟨100000, .slot 0, []⟩], [⟨⟨[], [100000], [⟨.cell 100000 1, 200001, 5, .int .u8⟩]⟩, [], [.blk 48 [.selfp 100000, .oslc 200001], .row 5 (.int .u8)]⟩], fun ls => match ls with | [⟨.slc (.int .u8), l⟩] => .ret (0, [⟨.slc (.int .u8), l⟩]) | _ => .fail⟩
noncomputable def strings_Builder_String_md : Mode U := ⟨⟨⟨[0], [100000], [⟨.cell 100000 1, 200001, 5, .int .u8⟩]⟩, [.ptr 100000 0], [.blk 48 [.selfp 100000, .oslc 200001], .row 5 (.int .u8)]⟩, [⟨100000, .slot 0, []⟩], [⟨⟨[0], [], []⟩, [.t .str], []⟩], fun ls => match ls with | [⟨.slc (.int .u8), l⟩] => .get (strings_Builder_String l) (fun r => .ret (0, [⟨.str, r⟩])) | _ => .fail⟩

noncomputable def ms0 : List (FuncId × Mode U) := []
noncomputable def ms1 : List (FuncId × Mode U) := (41, strings_Join_md) :: ms0
noncomputable def ms2 : List (FuncId × Mode U) := (40, strconv_Itoa_md) :: ms1
noncomputable def ms3 : List (FuncId × Mode U) := (39, strings_Builder_copyCheck_md) :: ms2
noncomputable def ms4 : List (FuncId × Mode U) := (24, strings_Builder_String_md) :: ms3
end Lift.D2

namespace Lift.Fn
open Go Lift

noncomputable def report_between_int_f (a0 : Int) (a1 : Int) (a2 : Int) : Option (Bool) :=
    bif decide (a0 ≥ a1) then
      some (decide (a0 ≤ a2))
    else
      some (false)

noncomputable def report_between_int : Int → Int → Int → Option (Bool) := sealF report_between_int_f

noncomputable def report_digit_f (a0 : List UInt8) : Option (Int) :=
    bif (↑(List.length a0) : Int) != (1 : Int) then
      some ((-1 : Int))
    else
      Option.bind (a0[(0 : Nat)]?) fun y0 =>
      Option.bind (report_between_int (IntKind.wrap IntKind.i64 (↑(UInt8.toNat y0) : Int)) (48 : Int) (57 : Int)) fun y1 =>
      bif !y1 then
        some ((-1 : Int))
      else
        Option.bind (a0[(0 : Nat)]?) fun y2 =>
        some (IntKind.wrap IntKind.i64 (IntKind.wrap IntKind.u8 ((↑(UInt8.toNat y2) : Int) - (48 : Int))))

noncomputable def report_digit : List UInt8 → Option (Int) := sealF report_digit_f

end Lift.Fn

/- found, as a Lean function. -/
namespace Lift.Fn
open Go Lift

noncomputable def found_pre (a0 : List (List UInt8)) : Option ((List UInt8) × Bool × Int × Int × Int × Int × (List Int)) :=
    Option.bind (a0[(1 : Nat)]?) fun y0 =>
    Option.bind (report_digit y0) fun y1 =>
    Option.bind (a0[(0 : Nat)]?) fun y2 =>
    bif y2 == [(97 : UInt8), (115 : UInt8), (115 : UInt8), (101 : UInt8), (114 : UInt8), (116 : UInt8)] then
      bif decide ((0 : Int) ≤ IntKind.wrap IntKind.i64 ((↑(List.length a0) : Int) - (1 : Int))) then
        Option.bind (a0[Int.toNat (IntKind.wrap IntKind.i64 ((↑(List.length a0) : Int) - (1 : Int)))]?) fun y3 =>
        some ((y3), (!y3 == [(45 : UInt8)]), ((1 : Int)), (y1), ((0 : Int)), ((0 : Int)), ([]))
      else
        none
    else
      bif y2 == [(100 : UInt8), (101 : UInt8), (97 : UInt8), (100 : UInt8), (108 : UInt8), (111 : UInt8), (99 : UInt8), (107 : UInt8)] then
        bif decide ((0 : Int) ≤ IntKind.wrap IntKind.i64 ((↑(List.length a0) : Int) - (1 : Int))) then
          Option.bind (a0[Int.toNat (IntKind.wrap IntKind.i64 ((↑(List.length a0) : Int) - (1 : Int)))]?) fun y4 =>
          some ((y4), (!y4 == [(45 : UInt8)]), ((3 : Int)), (y1), ((0 : Int)), ((0 : Int)), ([]))
        else
          none
      else
        bif y2 == [(109 : UInt8), (105 : UInt8), (115 : UInt8), (117 : UInt8), (115 : UInt8), (101 : UInt8)] then
          Option.bind (a0[(2 : Nat)]?) fun y5 =>
          bif y5 == [(117 : UInt8), (110 : UInt8), (108 : UInt8), (111 : UInt8), (99 : UInt8), (107 : UInt8)] then
            bif decide ((0 : Int) ≤ IntKind.wrap IntKind.i64 ((↑(List.length a0) : Int) - (1 : Int))) then
              Option.bind (a0[Int.toNat (IntKind.wrap IntKind.i64 ((↑(List.length a0) : Int) - (1 : Int)))]?) fun y6 =>
              some ((y6), (!y6 == [(45 : UInt8)]), ((2 : Int)), (y1), ((0 : Int)), ((2 : Int)), ([]))
            else
              none
          else
            bif y5 == [(106 : UInt8), (111 : UInt8), (105 : UInt8), (110 : UInt8)] then
              bif decide ((0 : Int) ≤ IntKind.wrap IntKind.i64 ((↑(List.length a0) : Int) - (1 : Int))) then
                Option.bind (a0[Int.toNat (IntKind.wrap IntKind.i64 ((↑(List.length a0) : Int) - (1 : Int)))]?) fun y7 =>
                some ((y7), (!y7 == [(45 : UInt8)]), ((2 : Int)), (y1), ((0 : Int)), ((3 : Int)), ([]))
              else
                none
            else
              bif y5 == [(115 : UInt8), (116 : UInt8), (97 : UInt8), (114 : UInt8), (116 : UInt8)] then
                bif decide ((0 : Int) ≤ IntKind.wrap IntKind.i64 ((↑(List.length a0) : Int) - (1 : Int))) then
                  Option.bind (a0[Int.toNat (IntKind.wrap IntKind.i64 ((↑(List.length a0) : Int) - (1 : Int)))]?) fun y8 =>
                  some ((y8), (!y8 == [(45 : UInt8)]), ((2 : Int)), (y1), ((0 : Int)), ((4 : Int)), ([]))
                else
                  none
              else
                bif decide ((0 : Int) ≤ IntKind.wrap IntKind.i64 ((↑(List.length a0) : Int) - (1 : Int))) then
                  Option.bind (a0[Int.toNat (IntKind.wrap IntKind.i64 ((↑(List.length a0) : Int) - (1 : Int)))]?) fun y9 =>
                  some ((y9), (!y9 == [(45 : UInt8)]), ((2 : Int)), (y1), ((0 : Int)), ((0 : Int)), ([]))
                else
                  none
        else
          bif y2 == [(114 : UInt8), (97 : UInt8), (99 : UInt8), (101 : UInt8)] then
            Option.bind (a0[(2 : Nat)]?) fun y10 =>
            Option.bind (report_digit y10) fun y11 =>
            Option.bind (a0[(3 : Nat)]?) fun y12 =>
            Option.bind (report_digit y12) fun y13 =>
            bif decide ((0 : Int) ≤ IntKind.wrap IntKind.i64 ((↑(List.length a0) : Int) - (1 : Int))) then
              Option.bind (a0[Int.toNat (IntKind.wrap IntKind.i64 ((↑(List.length a0) : Int) - (1 : Int)))]?) fun y14 =>
              some ((y14), (!y14 == [(45 : UInt8)]), ((4 : Int)), (y1), (y11), (y13), ([]))
            else
              none
          else
            bif decide ((0 : Int) ≤ IntKind.wrap IntKind.i64 ((↑(List.length a0) : Int) - (1 : Int))) then
              Option.bind (a0[Int.toNat (IntKind.wrap IntKind.i64 ((↑(List.length a0) : Int) - (1 : Int)))]?) fun y15 =>
              some ((y15), (!y15 == [(45 : UInt8)]), ((0 : Int)), (y1), ((0 : Int)), ((0 : Int)), ([]))
            else
              none

/-- One round. -/
noncomputable def found_step (x : List UInt8) (l : List Int) : Option (List Int) :=
  Option.bind (report_digit x) fun y0 =>
  bif decide ((List.length l + List.length [y0]) * (8 : Nat) ≤ (140737488355328 : Nat) ∧ List.length l + List.length [y0] ≤ (9223372036854775807 : Nat)) then some (l ++ [y0]) else none

noncomputable def found_steps : List (List UInt8) → List Int → Option (List Int)
  | [], l => some l
  | x :: xs, l => (found_step x l).bind (found_steps xs)

noncomputable def report_found_f (a0 : List (List UInt8)) : Option Finding :=
  (found_pre a0).bind fun y => match y with
    | (s, b, k, t, o, w, l) => bif b then bif decide (s.length ≤ 1000000000000) then (found_steps (pieces 44 s) l).bind fun l' => some (Finding.mk k t o w l') else none else some (Finding.mk k t o w l)

noncomputable def report_found : List (List UInt8) → Option Finding := sealF report_found_f
end Lift.Fn

/- racetreeref21.Compare as a Lean function. -/
namespace Lift.Fn
open Go Lift

/-- Which of two lists of four is the lesser one. -/
def cmp4 (x0 x1 x2 x3 y0 y1 y2 y3 : Int) : Int :=
  if x0 < y0 then -1 else if x0 > y0 then 1 else if x1 < y1 then -1 else if x1 > y1 then 1 else
  if x2 < y2 then -1 else if x2 > y2 then 1 else if x3 < y3 then -1 else if x3 > y3 then 1 else 0

noncomputable def racetreeref21_Compare_f (a b : Finding) : Option Int := some (cmp4 a.kind a.thread a.other a.what b.kind b.thread b.other b.what)
noncomputable def racetreeref21_Compare : Finding → Finding → Option Int := sealF racetreeref21_Compare_f
end Lift.Fn

/- The library's modes. -/
namespace Lift.D3
open Go Go.RowKit Go.Proofs Lift Lift.Fn
open Lift.D2 (U kk uni cells ctys make tyOf eqOk mixed strings_Join_md strconv_Itoa_md strings_Builder_copyCheck_md strings_Builder_String_md)

noncomputable def strings_Cut_md : Mode U := ⟨⟨⟨[0, 1], [], []⟩, [.t (.str), .t (.str)], []⟩, [], [⟨⟨[0, 1, 2], [], []⟩, [.t (.str), .t (.str), .t (.bool)], []⟩], fun ls => match ls with | [⟨.str, a0⟩, ⟨.str, a1⟩] => .get (strings_Cut a0 a1) (fun r => .ret (0, [⟨.str, r.1⟩, ⟨.str, r.2.1⟩, ⟨.bool, r.2.2⟩])) | _ => .fail⟩
noncomputable def strings_Split_md : Mode U := ⟨⟨⟨[0, 1], [], []⟩, [.t (.str), .t (.str)], []⟩, [], [⟨⟨[0], [], []⟩, [.t (.slc .str)], []⟩], fun ls => match ls with | [⟨.str, a0⟩, ⟨.str, a1⟩] => .get (strings_Split a0 a1) (fun r => .ret (0, [⟨.slc .str, r⟩])) | _ => .fail⟩

noncomputable def ms0 : List (FuncId × Mode U) := []
noncomputable def ms1 : List (FuncId × Mode U) := (28, strings_Cut_md) :: ms0
noncomputable def ms2 : List (FuncId × Mode U) := (29, strings_Split_md) :: ms1
noncomputable def report_found_md : Mode U := ⟨⟨⟨[0], [], []⟩, [.t (.slc .str)], []⟩, [], [⟨⟨[0], [], []⟩, [.t (.st 30)], []⟩], fun ls => match ls with | [⟨.slc .str, a0⟩] => .get (report_found a0) (fun r => .ret (0, [⟨.st 30, r⟩])) | _ => .fail⟩
noncomputable def ms3 : List (FuncId × Mode U) := (41, strings_Join_md) :: ms2
noncomputable def ms4 : List (FuncId × Mode U) := (40, strconv_Itoa_md) :: ms3
noncomputable def ms5 : List (FuncId × Mode U) := (30, report_found_md) :: ms4
noncomputable def racetreeref21_Compare_md : Mode U := ⟨⟨⟨[0, 1], [], []⟩, [.t (.st 30), .t (.st 30)], []⟩, [], [⟨⟨[0], [], []⟩, [.t (.int .i64)], []⟩], fun ls => match ls with | [⟨.st 30, a0⟩, ⟨.st 30, a1⟩] => .get (racetreeref21_Compare a0 a1) (fun r => .ret (0, [⟨.int .i64, r⟩])) | _ => .fail⟩
noncomputable def ms6 : List (FuncId × Mode U) := (53, racetreeref21_Compare_md) :: ms5
noncomputable def ms7 : List (FuncId × Mode U) := (39, strings_Builder_copyCheck_md) :: ms6
noncomputable def ms8 : List (FuncId × Mode U) := (24, strings_Builder_String_md) :: ms7
end Lift.D3

namespace Lift.Fn
open Go Lift

noncomputable def report_thread_f (a0 : Int) : Option (Bool) :=
    Option.bind (report_between_int a0 (0 : Int) (7 : Int)) fun y0 =>
    some (y0)

noncomputable def report_thread : Int → Option (Bool) := sealF report_thread_f

noncomputable def report_right_1_f (a0 : Int) : Option (Bool) :=
    Option.bind (report_thread a0) fun y0 =>
    some (!y0)

noncomputable def report_right_1 : Int → Option (Bool) := sealF report_right_1_f

noncomputable def slices_IndexFunc_int_int_t2 (rec : List (Int) → Int → Int → Option ((Int) ⊕ (Unit))) (a0 : List (Int)) (a1 : Int) (a2 : Int) : Option ((Int) ⊕ (Unit)) :=
    bif decide (a2 < a1) then
      bif decide ((0 : Int) ≤ a2) then
        Option.bind (a0[Int.toNat a2]?) fun y0 =>
        Option.bind (report_right_1 y0) fun y1 =>
        bif y1 then
          some (.inl (a2))
        else
          rec (a0) (a1) (IntKind.wrap IntKind.i64 (a2 + (1 : Int)))
      else
        none
    else
      some (.inr ())

noncomputable def slices_IndexFunc_int_int_i2 : Nat → List (Int) → Int → Int → Option ((Int) ⊕ (Unit))
  | 0, _, _, _ => none
  | n + 1, a0, a1, a2 => slices_IndexFunc_int_int_t2 (slices_IndexFunc_int_int_i2 n) a0 a1 a2

noncomputable def slices_IndexFunc_int_int_l2 : List (Int) → Int → Int → Option ((Int) ⊕ (Unit)) := sealF (slices_IndexFunc_int_int_i2 fuel)

noncomputable def slices_IndexFunc_int_int_f (a0 : List (Int)) : Option (Int) :=
    Option.bind (slices_IndexFunc_int_int_l2 a0 (↑(List.length a0) : Int) (0 : Int)) fun y0 =>
    match y0 with
    | .inl y1 =>
      some (y1)
    | .inr y1 =>
      some ((-1 : Int))

noncomputable def slices_IndexFunc_int_int : List (Int) → Option (Int) := sealF slices_IndexFunc_int_int_f

noncomputable def slices_ContainsFunc_int_int_f (a0 : List (Int)) : Option (Bool) :=
    Option.bind (slices_IndexFunc_int_int a0) fun y0 =>
    some (decide (y0 ≥ (0 : Int)))

noncomputable def slices_ContainsFunc_int_int : List (Int) → Option (Bool) := sealF slices_ContainsFunc_int_int_f

noncomputable def report_right_f (a0 : Finding) : Option (Bool) :=
    Option.bind (report_thread (Finding.thread a0)) fun y0 =>
    bif !y0 then
      some (false)
    else
      bif decide ((↑(List.length (Finding.schedule a0)) : Int) > (1000 : Int)) then
        some (false)
      else
        Option.bind (slices_ContainsFunc_int_int (Finding.schedule a0)) fun y1 =>
        bif y1 then
          some (false)
        else
          bif Finding.kind a0 == (2 : Int) then
            bif Finding.other a0 == (0 : Int) then
              Option.bind (report_between_int (Finding.what a0) (2 : Int) (4 : Int)) fun y2 =>
              some (y2)
            else
              some (false)
          else
            bif Finding.kind a0 == (4 : Int) then
              Option.bind (report_thread (Finding.other a0)) fun y3 =>
              bif y3 then
                bif decide (Finding.other a0 > Finding.thread a0) then
                  Option.bind (report_thread (Finding.what a0)) fun y4 =>
                  some (y4)
                else
                  some (false)
              else
                some (false)
            else
              bif Finding.kind a0 == (1 : Int) then
                bif Finding.other a0 == (0 : Int) then
                  some (Finding.what a0 == (0 : Int))
                else
                  some (false)
              else
                bif Finding.kind a0 == (3 : Int) then
                  bif Finding.other a0 == (0 : Int) then
                    some (Finding.what a0 == (0 : Int))
                  else
                    some (false)
                else
                  some (false)

noncomputable def report_right : Finding → Option (Bool) := sealF report_right_f

noncomputable def report_Print_1_f (a0 : Finding) : Option (Bool) :=
    Option.bind (report_right (Finding.mk (Finding.kind a0) (Finding.thread a0) (Finding.other a0) (Finding.what a0) (Finding.schedule a0))) fun y0 =>
    some (!y0)

noncomputable def report_Print_1 : Finding → Option (Bool) := sealF report_Print_1_f

noncomputable def slices_IndexFunc_api_Finding_api_Finding_t2 (rec : List (Finding) → Int → Int → Option ((Int) ⊕ (Unit))) (a0 : List (Finding)) (a1 : Int) (a2 : Int) : Option ((Int) ⊕ (Unit)) :=
    bif decide (a2 < a1) then
      bif decide ((0 : Int) ≤ a2) then
        Option.bind (a0[Int.toNat a2]?) fun y0 =>
        Option.bind (report_Print_1 y0) fun y1 =>
        bif y1 then
          some (.inl (a2))
        else
          rec (a0) (a1) (IntKind.wrap IntKind.i64 (a2 + (1 : Int)))
      else
        none
    else
      some (.inr ())

noncomputable def slices_IndexFunc_api_Finding_api_Finding_i2 : Nat → List (Finding) → Int → Int → Option ((Int) ⊕ (Unit))
  | 0, _, _, _ => none
  | n + 1, a0, a1, a2 => slices_IndexFunc_api_Finding_api_Finding_t2 (slices_IndexFunc_api_Finding_api_Finding_i2 n) a0 a1 a2

noncomputable def slices_IndexFunc_api_Finding_api_Finding_l2 : List (Finding) → Int → Int → Option ((Int) ⊕ (Unit)) := sealF (slices_IndexFunc_api_Finding_api_Finding_i2 fuel)

noncomputable def slices_IndexFunc_api_Finding_api_Finding_f (a0 : List (Finding)) : Option (Int) :=
    Option.bind (slices_IndexFunc_api_Finding_api_Finding_l2 a0 (↑(List.length a0) : Int) (0 : Int)) fun y0 =>
    match y0 with
    | .inl y1 =>
      some (y1)
    | .inr y1 =>
      some ((-1 : Int))

noncomputable def slices_IndexFunc_api_Finding_api_Finding : List (Finding) → Option (Int) := sealF slices_IndexFunc_api_Finding_api_Finding_f

noncomputable def slices_ContainsFunc_api_Finding_api_Finding_f (a0 : List (Finding)) : Option (Bool) :=
    Option.bind (slices_IndexFunc_api_Finding_api_Finding a0) fun y0 =>
    some (decide (y0 ≥ (0 : Int)))

noncomputable def slices_ContainsFunc_api_Finding_api_Finding : List (Finding) → Option (Bool) := sealF slices_ContainsFunc_api_Finding_api_Finding_f

noncomputable def report_schedule_t5 (rec : List (Int) → Int → Int → List (List UInt8) → Option ((List (List UInt8)))) (a0 : List (Int)) (a1 : Int) (a2 : Int) (a3 : List (List UInt8)) : Option ((List (List UInt8))) :=
    bif decide (a2 < a1) then
      bif decide ((0 : Int) ≤ a2) then
        Option.bind (a0[Int.toNat a2]?) fun y0 =>
        Option.bind (strconv_Itoa y0) fun y1 =>
        bif decide ((0 : Int) ≤ a2) && decide (a2 < (↑(List.length a3) : Int)) then
          Option.bind (a3[Int.toNat a2]?) fun y2 =>
          rec (a0) (a1) (IntKind.wrap IntKind.i64 (a2 + (1 : Int))) (List.set a3 (Int.toNat a2) y1)
        else
          none
      else
        none
    else
      some (a3)

noncomputable def report_schedule_i5 : Nat → List (Int) → Int → Int → List (List UInt8) → Option ((List (List UInt8)))
  | 0, _, _, _, _ => none
  | n + 1, a0, a1, a2, a3 => report_schedule_t5 (report_schedule_i5 n) a0 a1 a2 a3

noncomputable def report_schedule_l5 : List (Int) → Int → Int → List (List UInt8) → Option ((List (List UInt8))) := sealF (report_schedule_i5 fuel)

noncomputable def report_schedule_f (a0 : List (Int)) : Option ((List UInt8)) :=
    bif (↑(List.length a0) : Int) == (0 : Int) then
      some ([(45 : UInt8)])
    else
      bif decide ((0 : Int) ≤ (↑(List.length a0) : Int)) && (decide ((↑(List.length a0) : Int) = (↑(List.length a0) : Int)) && decide (Int.toNat (↑(List.length a0) : Int) * (16 : Nat) ≤ (140737488355328 : Nat) ∧ Int.toNat (↑(List.length a0) : Int) ≤ (9223372036854775807 : Nat))) then
        Option.bind (report_schedule_l5 a0 (↑(List.length a0) : Int) (0 : Int) (List.replicate (Int.toNat (↑(List.length a0) : Int)) [])) fun y0 =>
        Option.bind (strings_Join y0 [(44 : UInt8)]) fun y1 =>
        some (y1)
      else
        none

noncomputable def report_schedule : List (Int) → Option ((List UInt8)) := sealF report_schedule_f

noncomputable def report_line_f (a0 : Finding) : Option ((List UInt8)) :=
    bif Finding.kind a0 == (1 : Int) then
      Option.bind (strconv_Itoa (Finding.thread a0)) fun y0 =>
      bif Finding.kind a0 == (4 : Int) then
        Option.bind (strconv_Itoa (Finding.other a0)) fun y1 =>
        Option.bind (strconv_Itoa (Finding.what a0)) fun y2 =>
        Option.bind (report_schedule (Finding.schedule a0)) fun y3 =>
        Option.bind (strings_Join ([[(97 : UInt8), (115 : UInt8), (115 : UInt8), (101 : UInt8), (114 : UInt8), (116 : UInt8)]] ++ [y0] ++ [y1, y2] ++ [[(98 : UInt8), (121 : UInt8)], y3]) [(32 : UInt8)]) fun y4 =>
        some (y4)
      else
        bif Finding.what a0 == (2 : Int) then
          Option.bind (report_schedule (Finding.schedule a0)) fun y5 =>
          Option.bind (strings_Join ([[(97 : UInt8), (115 : UInt8), (115 : UInt8), (101 : UInt8), (114 : UInt8), (116 : UInt8)]] ++ [y0] ++ [[(117 : UInt8), (110 : UInt8), (108 : UInt8), (111 : UInt8), (99 : UInt8), (107 : UInt8)]] ++ [[(98 : UInt8), (121 : UInt8)], y5]) [(32 : UInt8)]) fun y6 =>
          some (y6)
        else
          bif Finding.what a0 == (3 : Int) then
            Option.bind (report_schedule (Finding.schedule a0)) fun y7 =>
            Option.bind (strings_Join ([[(97 : UInt8), (115 : UInt8), (115 : UInt8), (101 : UInt8), (114 : UInt8), (116 : UInt8)]] ++ [y0] ++ [[(106 : UInt8), (111 : UInt8), (105 : UInt8), (110 : UInt8)]] ++ [[(98 : UInt8), (121 : UInt8)], y7]) [(32 : UInt8)]) fun y8 =>
            some (y8)
          else
            bif Finding.what a0 == (4 : Int) then
              Option.bind (report_schedule (Finding.schedule a0)) fun y9 =>
              Option.bind (strings_Join ([[(97 : UInt8), (115 : UInt8), (115 : UInt8), (101 : UInt8), (114 : UInt8), (116 : UInt8)]] ++ [y0] ++ [[(115 : UInt8), (116 : UInt8), (97 : UInt8), (114 : UInt8), (116 : UInt8)]] ++ [[(98 : UInt8), (121 : UInt8)], y9]) [(32 : UInt8)]) fun y10 =>
              some (y10)
            else
              Option.bind (report_schedule (Finding.schedule a0)) fun y11 =>
              Option.bind (strings_Join ([[(97 : UInt8), (115 : UInt8), (115 : UInt8), (101 : UInt8), (114 : UInt8), (116 : UInt8)]] ++ [y0] ++ [[(98 : UInt8), (121 : UInt8)], y11]) [(32 : UInt8)]) fun y12 =>
              some (y12)
    else
      bif Finding.kind a0 == (2 : Int) then
        Option.bind (strconv_Itoa (Finding.thread a0)) fun y13 =>
        bif Finding.kind a0 == (4 : Int) then
          Option.bind (strconv_Itoa (Finding.other a0)) fun y14 =>
          Option.bind (strconv_Itoa (Finding.what a0)) fun y15 =>
          Option.bind (report_schedule (Finding.schedule a0)) fun y16 =>
          Option.bind (strings_Join ([[(109 : UInt8), (105 : UInt8), (115 : UInt8), (117 : UInt8), (115 : UInt8), (101 : UInt8)]] ++ [y13] ++ [y14, y15] ++ [[(98 : UInt8), (121 : UInt8)], y16]) [(32 : UInt8)]) fun y17 =>
          some (y17)
        else
          bif Finding.what a0 == (2 : Int) then
            Option.bind (report_schedule (Finding.schedule a0)) fun y18 =>
            Option.bind (strings_Join ([[(109 : UInt8), (105 : UInt8), (115 : UInt8), (117 : UInt8), (115 : UInt8), (101 : UInt8)]] ++ [y13] ++ [[(117 : UInt8), (110 : UInt8), (108 : UInt8), (111 : UInt8), (99 : UInt8), (107 : UInt8)]] ++ [[(98 : UInt8), (121 : UInt8)], y18]) [(32 : UInt8)]) fun y19 =>
            some (y19)
          else
            bif Finding.what a0 == (3 : Int) then
              Option.bind (report_schedule (Finding.schedule a0)) fun y20 =>
              Option.bind (strings_Join ([[(109 : UInt8), (105 : UInt8), (115 : UInt8), (117 : UInt8), (115 : UInt8), (101 : UInt8)]] ++ [y13] ++ [[(106 : UInt8), (111 : UInt8), (105 : UInt8), (110 : UInt8)]] ++ [[(98 : UInt8), (121 : UInt8)], y20]) [(32 : UInt8)]) fun y21 =>
              some (y21)
            else
              bif Finding.what a0 == (4 : Int) then
                Option.bind (report_schedule (Finding.schedule a0)) fun y22 =>
                Option.bind (strings_Join ([[(109 : UInt8), (105 : UInt8), (115 : UInt8), (117 : UInt8), (115 : UInt8), (101 : UInt8)]] ++ [y13] ++ [[(115 : UInt8), (116 : UInt8), (97 : UInt8), (114 : UInt8), (116 : UInt8)]] ++ [[(98 : UInt8), (121 : UInt8)], y22]) [(32 : UInt8)]) fun y23 =>
                some (y23)
              else
                Option.bind (report_schedule (Finding.schedule a0)) fun y24 =>
                Option.bind (strings_Join ([[(109 : UInt8), (105 : UInt8), (115 : UInt8), (117 : UInt8), (115 : UInt8), (101 : UInt8)]] ++ [y13] ++ [[(98 : UInt8), (121 : UInt8)], y24]) [(32 : UInt8)]) fun y25 =>
                some (y25)
      else
        bif Finding.kind a0 == (3 : Int) then
          Option.bind (strconv_Itoa (Finding.thread a0)) fun y26 =>
          bif Finding.kind a0 == (4 : Int) then
            Option.bind (strconv_Itoa (Finding.other a0)) fun y27 =>
            Option.bind (strconv_Itoa (Finding.what a0)) fun y28 =>
            Option.bind (report_schedule (Finding.schedule a0)) fun y29 =>
            Option.bind (strings_Join ([[(100 : UInt8), (101 : UInt8), (97 : UInt8), (100 : UInt8), (108 : UInt8), (111 : UInt8), (99 : UInt8), (107 : UInt8)]] ++ [y26] ++ [y27, y28] ++ [[(98 : UInt8), (121 : UInt8)], y29]) [(32 : UInt8)]) fun y30 =>
            some (y30)
          else
            bif Finding.what a0 == (2 : Int) then
              Option.bind (report_schedule (Finding.schedule a0)) fun y31 =>
              Option.bind (strings_Join ([[(100 : UInt8), (101 : UInt8), (97 : UInt8), (100 : UInt8), (108 : UInt8), (111 : UInt8), (99 : UInt8), (107 : UInt8)]] ++ [y26] ++ [[(117 : UInt8), (110 : UInt8), (108 : UInt8), (111 : UInt8), (99 : UInt8), (107 : UInt8)]] ++ [[(98 : UInt8), (121 : UInt8)], y31]) [(32 : UInt8)]) fun y32 =>
              some (y32)
            else
              bif Finding.what a0 == (3 : Int) then
                Option.bind (report_schedule (Finding.schedule a0)) fun y33 =>
                Option.bind (strings_Join ([[(100 : UInt8), (101 : UInt8), (97 : UInt8), (100 : UInt8), (108 : UInt8), (111 : UInt8), (99 : UInt8), (107 : UInt8)]] ++ [y26] ++ [[(106 : UInt8), (111 : UInt8), (105 : UInt8), (110 : UInt8)]] ++ [[(98 : UInt8), (121 : UInt8)], y33]) [(32 : UInt8)]) fun y34 =>
                some (y34)
              else
                bif Finding.what a0 == (4 : Int) then
                  Option.bind (report_schedule (Finding.schedule a0)) fun y35 =>
                  Option.bind (strings_Join ([[(100 : UInt8), (101 : UInt8), (97 : UInt8), (100 : UInt8), (108 : UInt8), (111 : UInt8), (99 : UInt8), (107 : UInt8)]] ++ [y26] ++ [[(115 : UInt8), (116 : UInt8), (97 : UInt8), (114 : UInt8), (116 : UInt8)]] ++ [[(98 : UInt8), (121 : UInt8)], y35]) [(32 : UInt8)]) fun y36 =>
                  some (y36)
                else
                  Option.bind (report_schedule (Finding.schedule a0)) fun y37 =>
                  Option.bind (strings_Join ([[(100 : UInt8), (101 : UInt8), (97 : UInt8), (100 : UInt8), (108 : UInt8), (111 : UInt8), (99 : UInt8), (107 : UInt8)]] ++ [y26] ++ [[(98 : UInt8), (121 : UInt8)], y37]) [(32 : UInt8)]) fun y38 =>
                  some (y38)
        else
          bif Finding.kind a0 == (4 : Int) then
            Option.bind (strconv_Itoa (Finding.thread a0)) fun y39 =>
            bif Finding.kind a0 == (4 : Int) then
              Option.bind (strconv_Itoa (Finding.other a0)) fun y40 =>
              Option.bind (strconv_Itoa (Finding.what a0)) fun y41 =>
              Option.bind (report_schedule (Finding.schedule a0)) fun y42 =>
              Option.bind (strings_Join ([[(114 : UInt8), (97 : UInt8), (99 : UInt8), (101 : UInt8)]] ++ [y39] ++ [y40, y41] ++ [[(98 : UInt8), (121 : UInt8)], y42]) [(32 : UInt8)]) fun y43 =>
              some (y43)
            else
              bif Finding.what a0 == (2 : Int) then
                Option.bind (report_schedule (Finding.schedule a0)) fun y44 =>
                Option.bind (strings_Join ([[(114 : UInt8), (97 : UInt8), (99 : UInt8), (101 : UInt8)]] ++ [y39] ++ [[(117 : UInt8), (110 : UInt8), (108 : UInt8), (111 : UInt8), (99 : UInt8), (107 : UInt8)]] ++ [[(98 : UInt8), (121 : UInt8)], y44]) [(32 : UInt8)]) fun y45 =>
                some (y45)
              else
                bif Finding.what a0 == (3 : Int) then
                  Option.bind (report_schedule (Finding.schedule a0)) fun y46 =>
                  Option.bind (strings_Join ([[(114 : UInt8), (97 : UInt8), (99 : UInt8), (101 : UInt8)]] ++ [y39] ++ [[(106 : UInt8), (111 : UInt8), (105 : UInt8), (110 : UInt8)]] ++ [[(98 : UInt8), (121 : UInt8)], y46]) [(32 : UInt8)]) fun y47 =>
                  some (y47)
                else
                  bif Finding.what a0 == (4 : Int) then
                    Option.bind (report_schedule (Finding.schedule a0)) fun y48 =>
                    Option.bind (strings_Join ([[(114 : UInt8), (97 : UInt8), (99 : UInt8), (101 : UInt8)]] ++ [y39] ++ [[(115 : UInt8), (116 : UInt8), (97 : UInt8), (114 : UInt8), (116 : UInt8)]] ++ [[(98 : UInt8), (121 : UInt8)], y48]) [(32 : UInt8)]) fun y49 =>
                    some (y49)
                  else
                    Option.bind (report_schedule (Finding.schedule a0)) fun y50 =>
                    Option.bind (strings_Join ([[(114 : UInt8), (97 : UInt8), (99 : UInt8), (101 : UInt8)]] ++ [y39] ++ [[(98 : UInt8), (121 : UInt8)], y50]) [(32 : UInt8)]) fun y51 =>
                    some (y51)
          else
            Option.bind (strconv_Itoa (Finding.thread a0)) fun y52 =>
            bif Finding.kind a0 == (4 : Int) then
              Option.bind (strconv_Itoa (Finding.other a0)) fun y53 =>
              Option.bind (strconv_Itoa (Finding.what a0)) fun y54 =>
              Option.bind (report_schedule (Finding.schedule a0)) fun y55 =>
              Option.bind (strings_Join ([y52] ++ [y53, y54] ++ [[(98 : UInt8), (121 : UInt8)], y55]) [(32 : UInt8)]) fun y56 =>
              some (y56)
            else
              bif Finding.what a0 == (2 : Int) then
                Option.bind (report_schedule (Finding.schedule a0)) fun y57 =>
                Option.bind (strings_Join ([y52] ++ [[(117 : UInt8), (110 : UInt8), (108 : UInt8), (111 : UInt8), (99 : UInt8), (107 : UInt8)]] ++ [[(98 : UInt8), (121 : UInt8)], y57]) [(32 : UInt8)]) fun y58 =>
                some (y58)
              else
                bif Finding.what a0 == (3 : Int) then
                  Option.bind (report_schedule (Finding.schedule a0)) fun y59 =>
                  Option.bind (strings_Join ([y52] ++ [[(106 : UInt8), (111 : UInt8), (105 : UInt8), (110 : UInt8)]] ++ [[(98 : UInt8), (121 : UInt8)], y59]) [(32 : UInt8)]) fun y60 =>
                  some (y60)
                else
                  bif Finding.what a0 == (4 : Int) then
                    Option.bind (report_schedule (Finding.schedule a0)) fun y61 =>
                    Option.bind (strings_Join ([y52] ++ [[(115 : UInt8), (116 : UInt8), (97 : UInt8), (114 : UInt8), (116 : UInt8)]] ++ [[(98 : UInt8), (121 : UInt8)], y61]) [(32 : UInt8)]) fun y62 =>
                    some (y62)
                  else
                    Option.bind (report_schedule (Finding.schedule a0)) fun y63 =>
                    Option.bind (strings_Join ([y52] ++ [[(98 : UInt8), (121 : UInt8)], y63]) [(32 : UInt8)]) fun y64 =>
                    some (y64)

noncomputable def report_line : Finding → Option ((List UInt8)) := sealF report_line_f

noncomputable def strings_Builder_WriteString_f (a0 : List UInt8) (a1 : List (Int)) : Option (Int × Bool × (List (Int))) :=
    bif decide (List.length a1 + List.length a0 ≤ (140737488355328 : Nat) ∧ List.length a1 + List.length a0 ≤ (9223372036854775807 : Nat)) then
      some (((↑(List.length a0) : Int)), (false), (a1 ++ ofStr a0))
    else
      none

noncomputable def strings_Builder_WriteString : List UInt8 → List (Int) → Option (Int × Bool × (List (Int))) := sealF strings_Builder_WriteString_f

noncomputable def strings_Builder_WriteByte_f (a0 : Int) (a1 : List (Int)) : Option (Bool × (List (Int))) :=
    bif decide ((List.length a1 + List.length [a0]) * (1 : Nat) ≤ (140737488355328 : Nat) ∧ List.length a1 + List.length [a0] ≤ (9223372036854775807 : Nat)) then
      some ((false), (a1 ++ [a0]))
    else
      none

noncomputable def strings_Builder_WriteByte : Int → List (Int) → Option (Bool × (List (Int))) := sealF strings_Builder_WriteByte_f

noncomputable def strings_Builder_Len_f (a0 : List (Int)) : Option (Int × (List (Int))) :=
    some (((↑(List.length a0) : Int)), (a0))

noncomputable def strings_Builder_Len : List (Int) → Option (Int × (List (Int))) := sealF strings_Builder_Len_f

noncomputable def report_Print_t4 (rec : List (Finding) → Int → Int → List (Int) → Option (((List UInt8) × Int) ⊕ ((List (Int))))) (a0 : List (Finding)) (a1 : Int) (a2 : Int) (a3 : List (Int)) : Option (((List UInt8) × Int) ⊕ ((List (Int)))) :=
    bif decide (a2 < a1) then
      bif decide ((0 : Int) ≤ a2) then
        Option.bind (a0[Int.toNat a2]?) fun y0 =>
        Option.bind (report_line (Finding.mk (Finding.kind y0) (Finding.thread y0) (Finding.other y0) (Finding.what y0) (Finding.schedule y0))) fun y1 =>
        Option.bind (strings_Builder_WriteString y1 a3) fun y2 =>
        Option.bind (strings_Builder_WriteByte (10 : Int) (Prod.snd (Prod.snd y2))) fun y3 =>
        Option.bind (strings_Builder_Len (Prod.snd y3)) fun y4 =>
        bif decide (Prod.fst y4 > (40000 : Int)) then
          some (.inl (([]), ((251 : Int))))
        else
          rec (a0) (a1) (IntKind.wrap IntKind.i64 (a2 + (1 : Int))) (Prod.snd y4)
      else
        none
    else
      some (.inr (a3))

noncomputable def report_Print_i4 : Nat → List (Finding) → Int → Int → List (Int) → Option (((List UInt8) × Int) ⊕ ((List (Int))))
  | 0, _, _, _, _ => none
  | n + 1, a0, a1, a2, a3 => report_Print_t4 (report_Print_i4 n) a0 a1 a2 a3

noncomputable def report_Print_l4 : List (Finding) → Int → Int → List (Int) → Option (((List UInt8) × Int) ⊕ ((List (Int)))) := sealF (report_Print_i4 fuel)

noncomputable def report_Print_f (a0 : List (Finding)) : Option ((List UInt8) × Int) :=
    Option.bind (slices_ContainsFunc_api_Finding_api_Finding a0) fun y0 =>
    bif !y0 then
      Option.bind (report_Print_l4 a0 (↑(List.length a0) : Int) (0 : Int) []) fun y1 =>
      match y1 with
      | .inl y2 =>
        some ((Prod.fst y2), (Prod.snd y2))
      | .inr y2 =>
        Option.bind (strings_Builder_String y2) fun y3 =>
        some ((y3), ((0 : Int)))
    else
      some (([]), ((1 : Int)))

noncomputable def report_Print : List (Finding) → Option ((List UInt8) × Int) := sealF report_Print_f

noncomputable def racetreelaw25_awake_f : Option (Bool) :=
    Option.bind (report_Print [Finding.mk (1 : Int) (0 : Int) (0 : Int) (0 : Int) []]) fun y0 =>
    bif Prod.snd y0 == (0 : Int) then
      some (Prod.fst y0 == [(97 : UInt8), (115 : UInt8), (115 : UInt8), (101 : UInt8), (114 : UInt8), (116 : UInt8), (32 : UInt8), (48 : UInt8), (32 : UInt8), (98 : UInt8), (121 : UInt8), (32 : UInt8), (45 : UInt8), (10 : UInt8)])
    else
      some (false)

noncomputable def racetreelaw25_awake : Option (Bool) := sealF racetreelaw25_awake_f

noncomputable def racetreeref25_in_f (a0 : Int) : Option (Bool) :=
    bif decide (a0 ≥ (0 : Int)) then
      some (decide (a0 < (8 : Int)))
    else
      some (false)

noncomputable def racetreeref25_in : Int → Option (Bool) := sealF racetreeref25_in_f

noncomputable def racetreeref25_Right_t5 (rec : Int → Int → Int → Int → Int → List (Int) → Option ((Bool) ⊕ (Int × Int × Int × Int × (List (Int))))) (a0 : Int) (a1 : Int) (a2 : Int) (a3 : Int) (a4 : Int) (a5 : List (Int)) : Option ((Bool) ⊕ (Int × Int × Int × Int × (List (Int)))) :=
    bif decide (a0 < (↑(List.length a5) : Int)) then
      bif decide ((0 : Int) ≤ a0) then
        Option.bind (a5[Int.toNat a0]?) fun y0 =>
        Option.bind (racetreeref25_in y0) fun y1 =>
        bif !y1 then
          some (.inl (false))
        else
          rec (IntKind.wrap IntKind.i64 (a0 + (1 : Int))) (a1) (a2) (a3) (a4) (a5)
      else
        none
    else
      some (.inr ((a1), (a2), (a3), (a4), (a5)))

noncomputable def racetreeref25_Right_i5 : Nat → Int → Int → Int → Int → Int → List (Int) → Option ((Bool) ⊕ (Int × Int × Int × Int × (List (Int))))
  | 0, _, _, _, _, _, _ => none
  | n + 1, a0, a1, a2, a3, a4, a5 => racetreeref25_Right_t5 (racetreeref25_Right_i5 n) a0 a1 a2 a3 a4 a5

noncomputable def racetreeref25_Right_l5 : Int → Int → Int → Int → Int → List (Int) → Option ((Bool) ⊕ (Int × Int × Int × Int × (List (Int)))) := sealF (racetreeref25_Right_i5 fuel)

noncomputable def racetreeref25_Right_f (a0 : Finding) : Option (Bool) :=
    Option.bind (racetreeref25_in (Finding.thread a0)) fun y0 =>
    bif !y0 then
      some (false)
    else
      bif decide ((↑(List.length (Finding.schedule a0)) : Int) > (1000 : Int)) then
        some (false)
      else
        Option.bind (racetreeref25_Right_l5 (0 : Int) (Finding.kind a0) (Finding.thread a0) (Finding.other a0) (Finding.what a0) (Finding.schedule a0)) fun y1 =>
        match y1 with
        | .inl y2 =>
          some (y2)
        | .inr y2 =>
          bif Prod.fst y2 == (1 : Int) then
            bif Prod.fst y2 == (1 : Int) then
              bif Prod.fst (Prod.snd (Prod.snd y2)) == (0 : Int) then
                some (Prod.fst (Prod.snd (Prod.snd (Prod.snd y2))) == (0 : Int))
              else
                some (false)
            else
              bif Prod.fst y2 == (2 : Int) then
                bif Prod.fst (Prod.snd (Prod.snd y2)) == (0 : Int) then
                  bif decide (Prod.fst (Prod.snd (Prod.snd (Prod.snd y2))) ≥ (2 : Int)) then
                    some (decide (Prod.fst (Prod.snd (Prod.snd (Prod.snd y2))) ≤ (4 : Int)))
                  else
                    some (false)
                else
                  some (false)
              else
                bif Prod.fst y2 == (4 : Int) then
                  Option.bind (racetreeref25_in (Prod.fst (Prod.snd (Prod.snd y2)))) fun y3 =>
                  Option.bind (racetreeref25_in (Prod.fst (Prod.snd (Prod.snd (Prod.snd y2))))) fun y4 =>
                  bif y3 then
                    bif y4 then
                      some (decide (Prod.fst (Prod.snd (Prod.snd y2)) > Prod.fst (Prod.snd y2)))
                    else
                      some (false)
                  else
                    some (false)
                else
                  some (false)
          else
            bif Prod.fst y2 == (3 : Int) then
              bif Prod.fst (Prod.snd (Prod.snd y2)) == (0 : Int) then
                some (Prod.fst (Prod.snd (Prod.snd (Prod.snd y2))) == (0 : Int))
              else
                some (false)
            else
              bif Prod.fst y2 == (2 : Int) then
                bif Prod.fst (Prod.snd (Prod.snd y2)) == (0 : Int) then
                  bif decide (Prod.fst (Prod.snd (Prod.snd (Prod.snd y2))) ≥ (2 : Int)) then
                    some (decide (Prod.fst (Prod.snd (Prod.snd (Prod.snd y2))) ≤ (4 : Int)))
                  else
                    some (false)
                else
                  some (false)
              else
                bif Prod.fst y2 == (4 : Int) then
                  Option.bind (racetreeref25_in (Prod.fst (Prod.snd (Prod.snd y2)))) fun y5 =>
                  Option.bind (racetreeref25_in (Prod.fst (Prod.snd (Prod.snd (Prod.snd y2))))) fun y6 =>
                  bif y5 then
                    bif y6 then
                      some (decide (Prod.fst (Prod.snd (Prod.snd y2)) > Prod.fst (Prod.snd y2)))
                    else
                      some (false)
                  else
                    some (false)
                else
                  some (false)

noncomputable def racetreeref25_Right : Finding → Option (Bool) := sealF racetreeref25_Right_f

noncomputable def racetreeref25_digit_f (a0 : Int) : Option ((List UInt8)) :=
    some (bytesOf [IntKind.wrap IntKind.u8 (IntKind.wrap IntKind.i64 ((48 : Int) + a0))])

noncomputable def racetreeref25_digit : Int → Option ((List UInt8)) := sealF racetreeref25_digit_f

noncomputable def racetreeref25_misuse_f (a0 : Int) : Option ((List UInt8)) :=
    bif a0 == (2 : Int) then
      some ([(117 : UInt8), (110 : UInt8), (108 : UInt8), (111 : UInt8), (99 : UInt8), (107 : UInt8)])
    else
      bif a0 == (3 : Int) then
        some ([(106 : UInt8), (111 : UInt8), (105 : UInt8), (110 : UInt8)])
      else
        some ([(115 : UInt8), (116 : UInt8), (97 : UInt8), (114 : UInt8), (116 : UInt8)])

noncomputable def racetreeref25_misuse : Int → Option ((List UInt8)) := sealF racetreeref25_misuse_f

noncomputable def racetreeref25_line_t20 (rec : Int → Int → Int → Int → Int → List (Int) → List (Int) → Option ((List (Int)))) (a0 : Int) (a1 : Int) (a2 : Int) (a3 : Int) (a4 : Int) (a5 : List (Int)) (a6 : List (Int)) : Option ((List (Int))) :=
    bif decide (a0 < (↑(List.length a5) : Int)) then
      bif decide (a0 > (0 : Int)) then
        bif decide ((List.length a6 + (1 : Nat)) * (1 : Nat) ≤ (140737488355328 : Nat) ∧ List.length a6 + (1 : Nat) ≤ (9223372036854775807 : Nat)) then
          bif decide ((0 : Int) ≤ a0) then
            Option.bind (a5[Int.toNat a0]?) fun y0 =>
            bif decide ((List.length (a6 ++ [(44 : Int)]) + List.length [IntKind.wrap IntKind.u8 (IntKind.wrap IntKind.i64 ((48 : Int) + y0))]) * (1 : Nat) ≤ (140737488355328 : Nat) ∧ List.length (a6 ++ [(44 : Int)]) + List.length [IntKind.wrap IntKind.u8 (IntKind.wrap IntKind.i64 ((48 : Int) + y0))] ≤ (9223372036854775807 : Nat)) then
              rec (IntKind.wrap IntKind.i64 (a0 + (1 : Int))) (a1) (a2) (a3) (a4) (a5) (a6 ++ [(44 : Int)] ++ [IntKind.wrap IntKind.u8 (IntKind.wrap IntKind.i64 ((48 : Int) + y0))])
            else
              none
          else
            none
        else
          none
      else
        bif decide ((0 : Int) ≤ a0) then
          Option.bind (a5[Int.toNat a0]?) fun y1 =>
          bif decide ((List.length a6 + List.length [IntKind.wrap IntKind.u8 (IntKind.wrap IntKind.i64 ((48 : Int) + y1))]) * (1 : Nat) ≤ (140737488355328 : Nat) ∧ List.length a6 + List.length [IntKind.wrap IntKind.u8 (IntKind.wrap IntKind.i64 ((48 : Int) + y1))] ≤ (9223372036854775807 : Nat)) then
            rec (IntKind.wrap IntKind.i64 (a0 + (1 : Int))) (a1) (a2) (a3) (a4) (a5) (a6 ++ [IntKind.wrap IntKind.u8 (IntKind.wrap IntKind.i64 ((48 : Int) + y1))])
          else
            none
        else
          none
    else
      some (a6)

noncomputable def racetreeref25_line_i20 : Nat → Int → Int → Int → Int → Int → List (Int) → List (Int) → Option ((List (Int)))
  | 0, _, _, _, _, _, _, _ => none
  | n + 1, a0, a1, a2, a3, a4, a5, a6 => racetreeref25_line_t20 (racetreeref25_line_i20 n) a0 a1 a2 a3 a4 a5 a6

noncomputable def racetreeref25_line_l20 : Int → Int → Int → Int → Int → List (Int) → List (Int) → Option ((List (Int))) := sealF (racetreeref25_line_i20 fuel)

noncomputable def racetreeref25_line_f (a0 : Finding) : Option ((List UInt8)) :=
    Option.bind (racetreeref25_digit (Finding.thread a0)) fun y0 =>
    bif Finding.kind a0 == (1 : Int) then
      bif decide ((7 : Nat) + List.length y0 ≤ (9223372036854775807 : Nat)) then
        bif decide (List.length ([(97 : UInt8), (115 : UInt8), (115 : UInt8), (101 : UInt8), (114 : UInt8), (116 : UInt8), (32 : UInt8)] ++ y0) + (4 : Nat) ≤ (9223372036854775807 : Nat)) then
          bif (↑(List.length (Finding.schedule a0)) : Int) == (0 : Int) then
            bif decide (List.length ([(97 : UInt8), (115 : UInt8), (115 : UInt8), (101 : UInt8), (114 : UInt8), (116 : UInt8), (32 : UInt8)] ++ y0 ++ [(32 : UInt8), (98 : UInt8), (121 : UInt8), (32 : UInt8)]) + (1 : Nat) ≤ (9223372036854775807 : Nat)) then
              some ([(97 : UInt8), (115 : UInt8), (115 : UInt8), (101 : UInt8), (114 : UInt8), (116 : UInt8), (32 : UInt8)] ++ y0 ++ [(32 : UInt8), (98 : UInt8), (121 : UInt8), (32 : UInt8)] ++ [(45 : UInt8)])
            else
              none
          else
            bif decide (List.length ([(97 : UInt8), (115 : UInt8), (115 : UInt8), (101 : UInt8), (114 : UInt8), (116 : UInt8), (32 : UInt8)] ++ y0 ++ [(32 : UInt8), (98 : UInt8), (121 : UInt8), (32 : UInt8)]) ≤ (140737488355328 : Nat) ∧ List.length ([(97 : UInt8), (115 : UInt8), (115 : UInt8), (101 : UInt8), (114 : UInt8), (116 : UInt8), (32 : UInt8)] ++ y0 ++ [(32 : UInt8), (98 : UInt8), (121 : UInt8), (32 : UInt8)]) ≤ (9223372036854775807 : Nat)) then
              Option.bind (racetreeref25_line_l20 (0 : Int) (Finding.kind a0) (Finding.thread a0) (Finding.other a0) (Finding.what a0) (Finding.schedule a0) (ofStr ([(97 : UInt8), (115 : UInt8), (115 : UInt8), (101 : UInt8), (114 : UInt8), (116 : UInt8), (32 : UInt8)] ++ y0 ++ [(32 : UInt8), (98 : UInt8), (121 : UInt8), (32 : UInt8)]))) fun y1 =>
              some (bytesOf y1)
            else
              none
        else
          none
      else
        none
    else
      bif Finding.kind a0 == (2 : Int) then
        Option.bind (racetreeref25_misuse (Finding.what a0)) fun y2 =>
        bif decide ((7 : Nat) + List.length y0 ≤ (9223372036854775807 : Nat)) then
          bif decide (List.length ([(109 : UInt8), (105 : UInt8), (115 : UInt8), (117 : UInt8), (115 : UInt8), (101 : UInt8), (32 : UInt8)] ++ y0) + (1 : Nat) ≤ (9223372036854775807 : Nat)) then
            bif decide (List.length ([(109 : UInt8), (105 : UInt8), (115 : UInt8), (117 : UInt8), (115 : UInt8), (101 : UInt8), (32 : UInt8)] ++ y0 ++ [(32 : UInt8)]) + List.length y2 ≤ (9223372036854775807 : Nat)) then
              bif decide (List.length ([(109 : UInt8), (105 : UInt8), (115 : UInt8), (117 : UInt8), (115 : UInt8), (101 : UInt8), (32 : UInt8)] ++ y0 ++ [(32 : UInt8)] ++ y2) + (4 : Nat) ≤ (9223372036854775807 : Nat)) then
                bif (↑(List.length (Finding.schedule a0)) : Int) == (0 : Int) then
                  bif decide (List.length ([(109 : UInt8), (105 : UInt8), (115 : UInt8), (117 : UInt8), (115 : UInt8), (101 : UInt8), (32 : UInt8)] ++ y0 ++ [(32 : UInt8)] ++ y2 ++ [(32 : UInt8), (98 : UInt8), (121 : UInt8), (32 : UInt8)]) + (1 : Nat) ≤ (9223372036854775807 : Nat)) then
                    some ([(109 : UInt8), (105 : UInt8), (115 : UInt8), (117 : UInt8), (115 : UInt8), (101 : UInt8), (32 : UInt8)] ++ y0 ++ [(32 : UInt8)] ++ y2 ++ [(32 : UInt8), (98 : UInt8), (121 : UInt8), (32 : UInt8)] ++ [(45 : UInt8)])
                  else
                    none
                else
                  bif decide (List.length ([(109 : UInt8), (105 : UInt8), (115 : UInt8), (117 : UInt8), (115 : UInt8), (101 : UInt8), (32 : UInt8)] ++ y0 ++ [(32 : UInt8)] ++ y2 ++ [(32 : UInt8), (98 : UInt8), (121 : UInt8), (32 : UInt8)]) ≤ (140737488355328 : Nat) ∧ List.length ([(109 : UInt8), (105 : UInt8), (115 : UInt8), (117 : UInt8), (115 : UInt8), (101 : UInt8), (32 : UInt8)] ++ y0 ++ [(32 : UInt8)] ++ y2 ++ [(32 : UInt8), (98 : UInt8), (121 : UInt8), (32 : UInt8)]) ≤ (9223372036854775807 : Nat)) then
                    Option.bind (racetreeref25_line_l20 (0 : Int) (Finding.kind a0) (Finding.thread a0) (Finding.other a0) (Finding.what a0) (Finding.schedule a0) (ofStr ([(109 : UInt8), (105 : UInt8), (115 : UInt8), (117 : UInt8), (115 : UInt8), (101 : UInt8), (32 : UInt8)] ++ y0 ++ [(32 : UInt8)] ++ y2 ++ [(32 : UInt8), (98 : UInt8), (121 : UInt8), (32 : UInt8)]))) fun y3 =>
                    some (bytesOf y3)
                  else
                    none
              else
                none
            else
              none
          else
            none
        else
          none
      else
        bif Finding.kind a0 == (3 : Int) then
          bif decide ((9 : Nat) + List.length y0 ≤ (9223372036854775807 : Nat)) then
            bif decide (List.length ([(100 : UInt8), (101 : UInt8), (97 : UInt8), (100 : UInt8), (108 : UInt8), (111 : UInt8), (99 : UInt8), (107 : UInt8), (32 : UInt8)] ++ y0) + (4 : Nat) ≤ (9223372036854775807 : Nat)) then
              bif (↑(List.length (Finding.schedule a0)) : Int) == (0 : Int) then
                bif decide (List.length ([(100 : UInt8), (101 : UInt8), (97 : UInt8), (100 : UInt8), (108 : UInt8), (111 : UInt8), (99 : UInt8), (107 : UInt8), (32 : UInt8)] ++ y0 ++ [(32 : UInt8), (98 : UInt8), (121 : UInt8), (32 : UInt8)]) + (1 : Nat) ≤ (9223372036854775807 : Nat)) then
                  some ([(100 : UInt8), (101 : UInt8), (97 : UInt8), (100 : UInt8), (108 : UInt8), (111 : UInt8), (99 : UInt8), (107 : UInt8), (32 : UInt8)] ++ y0 ++ [(32 : UInt8), (98 : UInt8), (121 : UInt8), (32 : UInt8)] ++ [(45 : UInt8)])
                else
                  none
              else
                bif decide (List.length ([(100 : UInt8), (101 : UInt8), (97 : UInt8), (100 : UInt8), (108 : UInt8), (111 : UInt8), (99 : UInt8), (107 : UInt8), (32 : UInt8)] ++ y0 ++ [(32 : UInt8), (98 : UInt8), (121 : UInt8), (32 : UInt8)]) ≤ (140737488355328 : Nat) ∧ List.length ([(100 : UInt8), (101 : UInt8), (97 : UInt8), (100 : UInt8), (108 : UInt8), (111 : UInt8), (99 : UInt8), (107 : UInt8), (32 : UInt8)] ++ y0 ++ [(32 : UInt8), (98 : UInt8), (121 : UInt8), (32 : UInt8)]) ≤ (9223372036854775807 : Nat)) then
                  Option.bind (racetreeref25_line_l20 (0 : Int) (Finding.kind a0) (Finding.thread a0) (Finding.other a0) (Finding.what a0) (Finding.schedule a0) (ofStr ([(100 : UInt8), (101 : UInt8), (97 : UInt8), (100 : UInt8), (108 : UInt8), (111 : UInt8), (99 : UInt8), (107 : UInt8), (32 : UInt8)] ++ y0 ++ [(32 : UInt8), (98 : UInt8), (121 : UInt8), (32 : UInt8)]))) fun y4 =>
                  some (bytesOf y4)
                else
                  none
            else
              none
          else
            none
        else
          bif Finding.kind a0 == (4 : Int) then
            Option.bind (racetreeref25_digit (Finding.other a0)) fun y5 =>
            Option.bind (racetreeref25_digit (Finding.what a0)) fun y6 =>
            bif decide ((5 : Nat) + List.length y0 ≤ (9223372036854775807 : Nat)) then
              bif decide (List.length ([(114 : UInt8), (97 : UInt8), (99 : UInt8), (101 : UInt8), (32 : UInt8)] ++ y0) + (1 : Nat) ≤ (9223372036854775807 : Nat)) then
                bif decide (List.length ([(114 : UInt8), (97 : UInt8), (99 : UInt8), (101 : UInt8), (32 : UInt8)] ++ y0 ++ [(32 : UInt8)]) + List.length y5 ≤ (9223372036854775807 : Nat)) then
                  bif decide (List.length ([(114 : UInt8), (97 : UInt8), (99 : UInt8), (101 : UInt8), (32 : UInt8)] ++ y0 ++ [(32 : UInt8)] ++ y5) + (1 : Nat) ≤ (9223372036854775807 : Nat)) then
                    bif decide (List.length ([(114 : UInt8), (97 : UInt8), (99 : UInt8), (101 : UInt8), (32 : UInt8)] ++ y0 ++ [(32 : UInt8)] ++ y5 ++ [(32 : UInt8)]) + List.length y6 ≤ (9223372036854775807 : Nat)) then
                      bif decide (List.length ([(114 : UInt8), (97 : UInt8), (99 : UInt8), (101 : UInt8), (32 : UInt8)] ++ y0 ++ [(32 : UInt8)] ++ y5 ++ [(32 : UInt8)] ++ y6) + (4 : Nat) ≤ (9223372036854775807 : Nat)) then
                        bif (↑(List.length (Finding.schedule a0)) : Int) == (0 : Int) then
                          bif decide (List.length ([(114 : UInt8), (97 : UInt8), (99 : UInt8), (101 : UInt8), (32 : UInt8)] ++ y0 ++ [(32 : UInt8)] ++ y5 ++ [(32 : UInt8)] ++ y6 ++ [(32 : UInt8), (98 : UInt8), (121 : UInt8), (32 : UInt8)]) + (1 : Nat) ≤ (9223372036854775807 : Nat)) then
                            some ([(114 : UInt8), (97 : UInt8), (99 : UInt8), (101 : UInt8), (32 : UInt8)] ++ y0 ++ [(32 : UInt8)] ++ y5 ++ [(32 : UInt8)] ++ y6 ++ [(32 : UInt8), (98 : UInt8), (121 : UInt8), (32 : UInt8)] ++ [(45 : UInt8)])
                          else
                            none
                        else
                          bif decide (List.length ([(114 : UInt8), (97 : UInt8), (99 : UInt8), (101 : UInt8), (32 : UInt8)] ++ y0 ++ [(32 : UInt8)] ++ y5 ++ [(32 : UInt8)] ++ y6 ++ [(32 : UInt8), (98 : UInt8), (121 : UInt8), (32 : UInt8)]) ≤ (140737488355328 : Nat) ∧ List.length ([(114 : UInt8), (97 : UInt8), (99 : UInt8), (101 : UInt8), (32 : UInt8)] ++ y0 ++ [(32 : UInt8)] ++ y5 ++ [(32 : UInt8)] ++ y6 ++ [(32 : UInt8), (98 : UInt8), (121 : UInt8), (32 : UInt8)]) ≤ (9223372036854775807 : Nat)) then
                            Option.bind (racetreeref25_line_l20 (0 : Int) (Finding.kind a0) (Finding.thread a0) (Finding.other a0) (Finding.what a0) (Finding.schedule a0) (ofStr ([(114 : UInt8), (97 : UInt8), (99 : UInt8), (101 : UInt8), (32 : UInt8)] ++ y0 ++ [(32 : UInt8)] ++ y5 ++ [(32 : UInt8)] ++ y6 ++ [(32 : UInt8), (98 : UInt8), (121 : UInt8), (32 : UInt8)]))) fun y7 =>
                            some (bytesOf y7)
                          else
                            none
                      else
                        none
                    else
                      none
                  else
                    none
                else
                  none
              else
                none
            else
              none
          else
            bif (↑(List.length (Finding.schedule a0)) : Int) == (0 : Int) then
              some ([] ++ [(32 : UInt8), (98 : UInt8), (121 : UInt8), (32 : UInt8)] ++ [(45 : UInt8)])
            else
              Option.bind (racetreeref25_line_l20 (0 : Int) (Finding.kind a0) (Finding.thread a0) (Finding.other a0) (Finding.what a0) (Finding.schedule a0) (ofStr ([] ++ [(32 : UInt8), (98 : UInt8), (121 : UInt8), (32 : UInt8)]))) fun y8 =>
              some (bytesOf y8)

noncomputable def racetreeref25_line : Finding → Option ((List UInt8)) := sealF racetreeref25_line_f

noncomputable def racetreeref25_Print_t2 (rec : List (Finding) → Int → Option (((List UInt8) × Int) ⊕ ((List (Finding))))) (a0 : List (Finding)) (a1 : Int) : Option (((List UInt8) × Int) ⊕ ((List (Finding)))) :=
    bif decide (a1 < (↑(List.length a0) : Int)) then
      bif decide ((0 : Int) ≤ a1) then
        Option.bind (a0[Int.toNat a1]?) fun y0 =>
        Option.bind (racetreeref25_Right y0) fun y1 =>
        bif !y1 then
          some (.inl (([]), ((1 : Int))))
        else
          rec (a0) (IntKind.wrap IntKind.i64 (a1 + (1 : Int)))
      else
        none
    else
      some (.inr (a0))

noncomputable def racetreeref25_Print_i2 : Nat → List (Finding) → Int → Option (((List UInt8) × Int) ⊕ ((List (Finding))))
  | 0, _, _ => none
  | n + 1, a0, a1 => racetreeref25_Print_t2 (racetreeref25_Print_i2 n) a0 a1

noncomputable def racetreeref25_Print_l2 : List (Finding) → Int → Option (((List UInt8) × Int) ⊕ ((List (Finding)))) := sealF (racetreeref25_Print_i2 fuel)

noncomputable def racetreeref25_Print_t9 (rec : List (Finding) → Int → List (Int) → Option (((List UInt8) × Int) ⊕ ((List (Int))))) (a0 : List (Finding)) (a1 : Int) (a2 : List (Int)) : Option (((List UInt8) × Int) ⊕ ((List (Int)))) :=
    bif decide (a1 < (↑(List.length a0) : Int)) then
      bif decide ((0 : Int) ≤ a1) then
        Option.bind (a0[Int.toNat a1]?) fun y0 =>
        Option.bind (racetreeref25_line y0) fun y1 =>
        bif decide (List.length a2 + List.length y1 ≤ (140737488355328 : Nat) ∧ List.length a2 + List.length y1 ≤ (9223372036854775807 : Nat)) then
          bif decide ((List.length (a2 ++ ofStr y1) + (1 : Nat)) * (1 : Nat) ≤ (140737488355328 : Nat) ∧ List.length (a2 ++ ofStr y1) + (1 : Nat) ≤ (9223372036854775807 : Nat)) then
            bif decide ((↑(List.length (a2 ++ ofStr y1 ++ [(10 : Int)])) : Int) > (40000 : Int)) then
              some (.inl (([]), ((251 : Int))))
            else
              rec (a0) (IntKind.wrap IntKind.i64 (a1 + (1 : Int))) (a2 ++ ofStr y1 ++ [(10 : Int)])
          else
            none
        else
          none
      else
        none
    else
      some (.inr (a2))

noncomputable def racetreeref25_Print_i9 : Nat → List (Finding) → Int → List (Int) → Option (((List UInt8) × Int) ⊕ ((List (Int))))
  | 0, _, _, _ => none
  | n + 1, a0, a1, a2 => racetreeref25_Print_t9 (racetreeref25_Print_i9 n) a0 a1 a2

noncomputable def racetreeref25_Print_l9 : List (Finding) → Int → List (Int) → Option (((List UInt8) × Int) ⊕ ((List (Int)))) := sealF (racetreeref25_Print_i9 fuel)

noncomputable def racetreeref25_Print_f (a0 : List (Finding)) : Option ((List UInt8) × Int) :=
    Option.bind (racetreeref25_Print_l2 a0 (0 : Int)) fun y0 =>
    match y0 with
    | .inl y1 =>
      some ((Prod.fst y1), (Prod.snd y1))
    | .inr y1 =>
      Option.bind (racetreeref25_Print_l9 y1 (0 : Int) []) fun y2 =>
      match y2 with
      | .inl y3 =>
        some ((Prod.fst y3), (Prod.snd y3))
      | .inr y3 =>
        some ((bytesOf y3), ((0 : Int)))

noncomputable def racetreeref25_Print : List (Finding) → Option ((List UInt8) × Int) := sealF racetreeref25_Print_f

noncomputable def racetreelaw25_ReportPrints_f (a0 : List (Finding)) : Option (Bool) :=
    Option.bind (racetreelaw25_awake) fun y0 =>
    Option.bind (report_Print a0) fun y1 =>
    Option.bind (racetreeref25_Print a0) fun y2 =>
    bif y0 then
      bif Prod.fst y1 == Prod.fst y2 then
        some (Prod.snd y1 == Prod.snd y2)
      else
        some (false)
    else
      some (false)

noncomputable def racetreelaw25_ReportPrints : List (Finding) → Option (Bool) := sealF racetreelaw25_ReportPrints_f

noncomputable def report_named_f (a0 : List (List UInt8)) (a1 : Int) : Option ((List UInt8) × Bool) :=
    bif decide (a1 ≥ (↑(List.length a0) : Int)) then
      some (([]), (false))
    else
      bif decide ((0 : Int) ≤ a1) then
        Option.bind (a0[Int.toNat a1]?) fun y0 =>
        some ((y0), (true))
      else
        none

noncomputable def report_named : List (List UInt8) → Int → Option ((List UInt8) × Bool) := sealF report_named_f

noncomputable def report_Line_f (a0 : Finding) (a1 : Names) : Option ((List UInt8) × Int) :=
    Option.bind (report_right (Finding.mk (Finding.kind a0) (Finding.thread a0) (Finding.other a0) (Finding.what a0) (Finding.schedule a0))) fun y0 =>
    bif !y0 then
      some (([]), ((1 : Int)))
    else
      Option.bind (report_named (Names.threads a1) (Finding.thread a0)) fun y1 =>
      bif !Prod.snd y1 then
        some (([]), ((1 : Int)))
      else
        bif Finding.kind a0 == (1 : Int) then
          bif decide ((7 : Nat) + List.length (Prod.fst y1) ≤ (9223372036854775807 : Nat)) then
            bif decide (List.length ([(116 : UInt8), (104 : UInt8), (114 : UInt8), (101 : UInt8), (97 : UInt8), (100 : UInt8), (32 : UInt8)] ++ Prod.fst y1) + (17 : Nat) ≤ (9223372036854775807 : Nat)) then
              some (([(116 : UInt8), (104 : UInt8), (114 : UInt8), (101 : UInt8), (97 : UInt8), (100 : UInt8), (32 : UInt8)] ++ Prod.fst y1 ++ [(58 : UInt8), (32 : UInt8), (97 : UInt8), (110 : UInt8), (32 : UInt8), (97 : UInt8), (115 : UInt8), (115 : UInt8), (101 : UInt8), (114 : UInt8), (116 : UInt8), (32 : UInt8), (102 : UInt8), (97 : UInt8), (105 : UInt8), (108 : UInt8), (115 : UInt8)]), ((0 : Int)))
            else
              none
          else
            none
        else
          bif Finding.kind a0 == (3 : Int) then
            bif decide ((7 : Nat) + List.length (Prod.fst y1) ≤ (9223372036854775807 : Nat)) then
              bif decide (List.length ([(116 : UInt8), (104 : UInt8), (114 : UInt8), (101 : UInt8), (97 : UInt8), (100 : UInt8), (32 : UInt8)] ++ Prod.fst y1) + (16 : Nat) ≤ (9223372036854775807 : Nat)) then
                some (([(116 : UInt8), (104 : UInt8), (114 : UInt8), (101 : UInt8), (97 : UInt8), (100 : UInt8), (32 : UInt8)] ++ Prod.fst y1 ++ [(58 : UInt8), (32 : UInt8), (119 : UInt8), (97 : UInt8), (105 : UInt8), (116 : UInt8), (115 : UInt8), (32 : UInt8), (102 : UInt8), (111 : UInt8), (114 : UInt8), (32 : UInt8), (101 : UInt8), (118 : UInt8), (101 : UInt8), (114 : UInt8)]), ((0 : Int)))
              else
                none
            else
              none
          else
            bif Finding.kind a0 == (4 : Int) then
              Option.bind (report_named (Names.threads a1) (Finding.other a0)) fun y2 =>
              Option.bind (report_named (Names.cells a1) (Finding.what a0)) fun y3 =>
              bif !Prod.snd y2 then
                some (([]), ((1 : Int)))
              else
                bif !Prod.snd y3 then
                  some (([]), ((1 : Int)))
                else
                  bif decide ((8 : Nat) + List.length (Prod.fst y1) ≤ (9223372036854775807 : Nat)) then
                    bif decide (List.length ([(116 : UInt8), (104 : UInt8), (114 : UInt8), (101 : UInt8), (97 : UInt8), (100 : UInt8), (115 : UInt8), (32 : UInt8)] ++ Prod.fst y1) + (5 : Nat) ≤ (9223372036854775807 : Nat)) then
                      bif decide (List.length ([(116 : UInt8), (104 : UInt8), (114 : UInt8), (101 : UInt8), (97 : UInt8), (100 : UInt8), (115 : UInt8), (32 : UInt8)] ++ Prod.fst y1 ++ [(32 : UInt8), (97 : UInt8), (110 : UInt8), (100 : UInt8), (32 : UInt8)]) + List.length (Prod.fst y2) ≤ (9223372036854775807 : Nat)) then
                        bif decide (List.length ([(116 : UInt8), (104 : UInt8), (114 : UInt8), (101 : UInt8), (97 : UInt8), (100 : UInt8), (115 : UInt8), (32 : UInt8)] ++ Prod.fst y1 ++ [(32 : UInt8), (97 : UInt8), (110 : UInt8), (100 : UInt8), (32 : UInt8)] ++ Prod.fst y2) + (20 : Nat) ≤ (9223372036854775807 : Nat)) then
                          bif decide (List.length ([(116 : UInt8), (104 : UInt8), (114 : UInt8), (101 : UInt8), (97 : UInt8), (100 : UInt8), (115 : UInt8), (32 : UInt8)] ++ Prod.fst y1 ++ [(32 : UInt8), (97 : UInt8), (110 : UInt8), (100 : UInt8), (32 : UInt8)] ++ Prod.fst y2 ++ [(58 : UInt8), (32 : UInt8), (114 : UInt8), (97 : UInt8), (99 : UInt8), (101 : UInt8), (32 : UInt8), (102 : UInt8), (111 : UInt8), (114 : UInt8), (32 : UInt8), (116 : UInt8), (104 : UInt8), (101 : UInt8), (32 : UInt8), (99 : UInt8), (101 : UInt8), (108 : UInt8), (108 : UInt8), (32 : UInt8)]) + List.length (Prod.fst y3) ≤ (9223372036854775807 : Nat)) then
                            some (([(116 : UInt8), (104 : UInt8), (114 : UInt8), (101 : UInt8), (97 : UInt8), (100 : UInt8), (115 : UInt8), (32 : UInt8)] ++ Prod.fst y1 ++ [(32 : UInt8), (97 : UInt8), (110 : UInt8), (100 : UInt8), (32 : UInt8)] ++ Prod.fst y2 ++ [(58 : UInt8), (32 : UInt8), (114 : UInt8), (97 : UInt8), (99 : UInt8), (101 : UInt8), (32 : UInt8), (102 : UInt8), (111 : UInt8), (114 : UInt8), (32 : UInt8), (116 : UInt8), (104 : UInt8), (101 : UInt8), (32 : UInt8), (99 : UInt8), (101 : UInt8), (108 : UInt8), (108 : UInt8), (32 : UInt8)] ++ Prod.fst y3), ((0 : Int)))
                          else
                            none
                        else
                          none
                      else
                        none
                    else
                      none
                  else
                    none
            else
              bif Finding.what a0 == (2 : Int) then
                bif decide ((7 : Nat) + List.length (Prod.fst y1) ≤ (9223372036854775807 : Nat)) then
                  bif decide (List.length ([(116 : UInt8), (104 : UInt8), (114 : UInt8), (101 : UInt8), (97 : UInt8), (100 : UInt8), (32 : UInt8)] ++ Prod.fst y1) + (38 : Nat) ≤ (9223372036854775807 : Nat)) then
                    some (([(116 : UInt8), (104 : UInt8), (114 : UInt8), (101 : UInt8), (97 : UInt8), (100 : UInt8), (32 : UInt8)] ++ Prod.fst y1 ++ [(58 : UInt8), (32 : UInt8), (117 : UInt8), (110 : UInt8), (108 : UInt8), (111 : UInt8), (99 : UInt8), (107 : UInt8), (115 : UInt8), (32 : UInt8), (97 : UInt8), (32 : UInt8), (109 : UInt8), (117 : UInt8), (116 : UInt8), (101 : UInt8), (120 : UInt8), (32 : UInt8), (116 : UInt8), (104 : UInt8), (97 : UInt8), (116 : UInt8), (32 : UInt8), (105 : UInt8), (116 : UInt8), (32 : UInt8), (100 : UInt8), (111 : UInt8), (101 : UInt8), (115 : UInt8), (32 : UInt8), (110 : UInt8), (111 : UInt8), (116 : UInt8), (32 : UInt8), (111 : UInt8), (119 : UInt8), (110 : UInt8)]), ((0 : Int)))
                  else
                    none
                else
                  none
              else
                bif Finding.what a0 == (3 : Int) then
                  bif decide ((7 : Nat) + List.length (Prod.fst y1) ≤ (9223372036854775807 : Nat)) then
                    bif decide (List.length ([(116 : UInt8), (104 : UInt8), (114 : UInt8), (101 : UInt8), (97 : UInt8), (100 : UInt8), (32 : UInt8)] ++ Prod.fst y1) + (37 : Nat) ≤ (9223372036854775807 : Nat)) then
                      some (([(116 : UInt8), (104 : UInt8), (114 : UInt8), (101 : UInt8), (97 : UInt8), (100 : UInt8), (32 : UInt8)] ++ Prod.fst y1 ++ [(58 : UInt8), (32 : UInt8), (106 : UInt8), (111 : UInt8), (105 : UInt8), (110 : UInt8), (115 : UInt8), (32 : UInt8), (97 : UInt8), (32 : UInt8), (116 : UInt8), (104 : UInt8), (114 : UInt8), (101 : UInt8), (97 : UInt8), (100 : UInt8), (32 : UInt8), (116 : UInt8), (104 : UInt8), (97 : UInt8), (116 : UInt8), (32 : UInt8), (119 : UInt8), (97 : UInt8), (115 : UInt8), (32 : UInt8), (110 : UInt8), (111 : UInt8), (116 : UInt8), (32 : UInt8), (115 : UInt8), (116 : UInt8), (97 : UInt8), (114 : UInt8), (116 : UInt8), (101 : UInt8), (100 : UInt8)]), ((0 : Int)))
                    else
                      none
                  else
                    none
                else
                  bif decide ((7 : Nat) + List.length (Prod.fst y1) ≤ (9223372036854775807 : Nat)) then
                    bif decide (List.length ([(116 : UInt8), (104 : UInt8), (114 : UInt8), (101 : UInt8), (97 : UInt8), (100 : UInt8), (32 : UInt8)] ++ Prod.fst y1) + (34 : Nat) ≤ (9223372036854775807 : Nat)) then
                      some (([(116 : UInt8), (104 : UInt8), (114 : UInt8), (101 : UInt8), (97 : UInt8), (100 : UInt8), (32 : UInt8)] ++ Prod.fst y1 ++ [(58 : UInt8), (32 : UInt8), (115 : UInt8), (116 : UInt8), (97 : UInt8), (114 : UInt8), (116 : UInt8), (115 : UInt8), (32 : UInt8), (97 : UInt8), (32 : UInt8), (116 : UInt8), (104 : UInt8), (114 : UInt8), (101 : UInt8), (97 : UInt8), (100 : UInt8), (32 : UInt8), (116 : UInt8), (104 : UInt8), (97 : UInt8), (116 : UInt8), (32 : UInt8), (119 : UInt8), (97 : UInt8), (115 : UInt8), (32 : UInt8), (115 : UInt8), (116 : UInt8), (97 : UInt8), (114 : UInt8), (116 : UInt8), (101 : UInt8), (100 : UInt8)]), ((0 : Int)))
                    else
                      none
                  else
                    none

noncomputable def report_Line : Finding → Names → Option ((List UInt8) × Int) := sealF report_Line_f

noncomputable def racetreeref25_Line_f (a0 : Finding) (a1 : Names) : Option ((List UInt8) × Int) :=
    Option.bind (racetreeref25_Right (Finding.mk (Finding.kind a0) (Finding.thread a0) (Finding.other a0) (Finding.what a0) (Finding.schedule a0))) fun y0 =>
    bif !y0 then
      some (([]), ((1 : Int)))
    else
      bif decide (Finding.thread a0 ≥ (↑(List.length (Names.threads a1)) : Int)) then
        some (([]), ((1 : Int)))
      else
        bif Finding.kind a0 == (4 : Int) then
          bif decide (Finding.other a0 ≥ (↑(List.length (Names.threads a1)) : Int)) then
            some (([]), ((1 : Int)))
          else
            bif decide (Finding.what a0 ≥ (↑(List.length (Names.cells a1)) : Int)) then
              some (([]), ((1 : Int)))
            else
              bif decide ((0 : Int) ≤ Finding.thread a0) then
                Option.bind ((Names.threads a1)[Int.toNat (Finding.thread a0)]?) fun y1 =>
                bif decide ((7 : Nat) + List.length y1 ≤ (9223372036854775807 : Nat)) then
                  bif decide (List.length ([(116 : UInt8), (104 : UInt8), (114 : UInt8), (101 : UInt8), (97 : UInt8), (100 : UInt8), (32 : UInt8)] ++ y1) + (2 : Nat) ≤ (9223372036854775807 : Nat)) then
                    bif Finding.kind a0 == (1 : Int) then
                      bif decide (List.length ([(116 : UInt8), (104 : UInt8), (114 : UInt8), (101 : UInt8), (97 : UInt8), (100 : UInt8), (32 : UInt8)] ++ y1 ++ [(58 : UInt8), (32 : UInt8)]) + (15 : Nat) ≤ (9223372036854775807 : Nat)) then
                        some (([(116 : UInt8), (104 : UInt8), (114 : UInt8), (101 : UInt8), (97 : UInt8), (100 : UInt8), (32 : UInt8)] ++ y1 ++ [(58 : UInt8), (32 : UInt8)] ++ [(97 : UInt8), (110 : UInt8), (32 : UInt8), (97 : UInt8), (115 : UInt8), (115 : UInt8), (101 : UInt8), (114 : UInt8), (116 : UInt8), (32 : UInt8), (102 : UInt8), (97 : UInt8), (105 : UInt8), (108 : UInt8), (115 : UInt8)]), ((0 : Int)))
                      else
                        none
                    else
                      bif Finding.kind a0 == (3 : Int) then
                        bif decide (List.length ([(116 : UInt8), (104 : UInt8), (114 : UInt8), (101 : UInt8), (97 : UInt8), (100 : UInt8), (32 : UInt8)] ++ y1 ++ [(58 : UInt8), (32 : UInt8)]) + (14 : Nat) ≤ (9223372036854775807 : Nat)) then
                          some (([(116 : UInt8), (104 : UInt8), (114 : UInt8), (101 : UInt8), (97 : UInt8), (100 : UInt8), (32 : UInt8)] ++ y1 ++ [(58 : UInt8), (32 : UInt8)] ++ [(119 : UInt8), (97 : UInt8), (105 : UInt8), (116 : UInt8), (115 : UInt8), (32 : UInt8), (102 : UInt8), (111 : UInt8), (114 : UInt8), (32 : UInt8), (101 : UInt8), (118 : UInt8), (101 : UInt8), (114 : UInt8)]), ((0 : Int)))
                        else
                          none
                      else
                        bif Finding.kind a0 == (4 : Int) then
                          bif decide ((0 : Int) ≤ Finding.thread a0) then
                            Option.bind ((Names.threads a1)[Int.toNat (Finding.thread a0)]?) fun y2 =>
                            bif decide ((8 : Nat) + List.length y2 ≤ (9223372036854775807 : Nat)) then
                              bif decide (List.length ([(116 : UInt8), (104 : UInt8), (114 : UInt8), (101 : UInt8), (97 : UInt8), (100 : UInt8), (115 : UInt8), (32 : UInt8)] ++ y2) + (5 : Nat) ≤ (9223372036854775807 : Nat)) then
                                bif decide ((0 : Int) ≤ Finding.other a0) then
                                  Option.bind ((Names.threads a1)[Int.toNat (Finding.other a0)]?) fun y3 =>
                                  bif decide (List.length ([(116 : UInt8), (104 : UInt8), (114 : UInt8), (101 : UInt8), (97 : UInt8), (100 : UInt8), (115 : UInt8), (32 : UInt8)] ++ y2 ++ [(32 : UInt8), (97 : UInt8), (110 : UInt8), (100 : UInt8), (32 : UInt8)]) + List.length y3 ≤ (9223372036854775807 : Nat)) then
                                    bif decide (List.length ([(116 : UInt8), (104 : UInt8), (114 : UInt8), (101 : UInt8), (97 : UInt8), (100 : UInt8), (115 : UInt8), (32 : UInt8)] ++ y2 ++ [(32 : UInt8), (97 : UInt8), (110 : UInt8), (100 : UInt8), (32 : UInt8)] ++ y3) + (20 : Nat) ≤ (9223372036854775807 : Nat)) then
                                      bif decide ((0 : Int) ≤ Finding.what a0) then
                                        Option.bind ((Names.cells a1)[Int.toNat (Finding.what a0)]?) fun y4 =>
                                        bif decide (List.length ([(116 : UInt8), (104 : UInt8), (114 : UInt8), (101 : UInt8), (97 : UInt8), (100 : UInt8), (115 : UInt8), (32 : UInt8)] ++ y2 ++ [(32 : UInt8), (97 : UInt8), (110 : UInt8), (100 : UInt8), (32 : UInt8)] ++ y3 ++ [(58 : UInt8), (32 : UInt8), (114 : UInt8), (97 : UInt8), (99 : UInt8), (101 : UInt8), (32 : UInt8), (102 : UInt8), (111 : UInt8), (114 : UInt8), (32 : UInt8), (116 : UInt8), (104 : UInt8), (101 : UInt8), (32 : UInt8), (99 : UInt8), (101 : UInt8), (108 : UInt8), (108 : UInt8), (32 : UInt8)]) + List.length y4 ≤ (9223372036854775807 : Nat)) then
                                          some (([(116 : UInt8), (104 : UInt8), (114 : UInt8), (101 : UInt8), (97 : UInt8), (100 : UInt8), (115 : UInt8), (32 : UInt8)] ++ y2 ++ [(32 : UInt8), (97 : UInt8), (110 : UInt8), (100 : UInt8), (32 : UInt8)] ++ y3 ++ [(58 : UInt8), (32 : UInt8), (114 : UInt8), (97 : UInt8), (99 : UInt8), (101 : UInt8), (32 : UInt8), (102 : UInt8), (111 : UInt8), (114 : UInt8), (32 : UInt8), (116 : UInt8), (104 : UInt8), (101 : UInt8), (32 : UInt8), (99 : UInt8), (101 : UInt8), (108 : UInt8), (108 : UInt8), (32 : UInt8)] ++ y4), ((0 : Int)))
                                        else
                                          none
                                      else
                                        none
                                    else
                                      none
                                  else
                                    none
                                else
                                  none
                              else
                                none
                            else
                              none
                          else
                            none
                        else
                          bif Finding.what a0 == (2 : Int) then
                            bif decide (List.length ([(116 : UInt8), (104 : UInt8), (114 : UInt8), (101 : UInt8), (97 : UInt8), (100 : UInt8), (32 : UInt8)] ++ y1 ++ [(58 : UInt8), (32 : UInt8)]) + (36 : Nat) ≤ (9223372036854775807 : Nat)) then
                              some (([(116 : UInt8), (104 : UInt8), (114 : UInt8), (101 : UInt8), (97 : UInt8), (100 : UInt8), (32 : UInt8)] ++ y1 ++ [(58 : UInt8), (32 : UInt8)] ++ [(117 : UInt8), (110 : UInt8), (108 : UInt8), (111 : UInt8), (99 : UInt8), (107 : UInt8), (115 : UInt8), (32 : UInt8), (97 : UInt8), (32 : UInt8), (109 : UInt8), (117 : UInt8), (116 : UInt8), (101 : UInt8), (120 : UInt8), (32 : UInt8), (116 : UInt8), (104 : UInt8), (97 : UInt8), (116 : UInt8), (32 : UInt8), (105 : UInt8), (116 : UInt8), (32 : UInt8), (100 : UInt8), (111 : UInt8), (101 : UInt8), (115 : UInt8), (32 : UInt8), (110 : UInt8), (111 : UInt8), (116 : UInt8), (32 : UInt8), (111 : UInt8), (119 : UInt8), (110 : UInt8)]), ((0 : Int)))
                            else
                              none
                          else
                            bif Finding.what a0 == (3 : Int) then
                              bif decide (List.length ([(116 : UInt8), (104 : UInt8), (114 : UInt8), (101 : UInt8), (97 : UInt8), (100 : UInt8), (32 : UInt8)] ++ y1 ++ [(58 : UInt8), (32 : UInt8)]) + (35 : Nat) ≤ (9223372036854775807 : Nat)) then
                                some (([(116 : UInt8), (104 : UInt8), (114 : UInt8), (101 : UInt8), (97 : UInt8), (100 : UInt8), (32 : UInt8)] ++ y1 ++ [(58 : UInt8), (32 : UInt8)] ++ [(106 : UInt8), (111 : UInt8), (105 : UInt8), (110 : UInt8), (115 : UInt8), (32 : UInt8), (97 : UInt8), (32 : UInt8), (116 : UInt8), (104 : UInt8), (114 : UInt8), (101 : UInt8), (97 : UInt8), (100 : UInt8), (32 : UInt8), (116 : UInt8), (104 : UInt8), (97 : UInt8), (116 : UInt8), (32 : UInt8), (119 : UInt8), (97 : UInt8), (115 : UInt8), (32 : UInt8), (110 : UInt8), (111 : UInt8), (116 : UInt8), (32 : UInt8), (115 : UInt8), (116 : UInt8), (97 : UInt8), (114 : UInt8), (116 : UInt8), (101 : UInt8), (100 : UInt8)]), ((0 : Int)))
                              else
                                none
                            else
                              bif decide (List.length ([(116 : UInt8), (104 : UInt8), (114 : UInt8), (101 : UInt8), (97 : UInt8), (100 : UInt8), (32 : UInt8)] ++ y1 ++ [(58 : UInt8), (32 : UInt8)]) + (32 : Nat) ≤ (9223372036854775807 : Nat)) then
                                some (([(116 : UInt8), (104 : UInt8), (114 : UInt8), (101 : UInt8), (97 : UInt8), (100 : UInt8), (32 : UInt8)] ++ y1 ++ [(58 : UInt8), (32 : UInt8)] ++ [(115 : UInt8), (116 : UInt8), (97 : UInt8), (114 : UInt8), (116 : UInt8), (115 : UInt8), (32 : UInt8), (97 : UInt8), (32 : UInt8), (116 : UInt8), (104 : UInt8), (114 : UInt8), (101 : UInt8), (97 : UInt8), (100 : UInt8), (32 : UInt8), (116 : UInt8), (104 : UInt8), (97 : UInt8), (116 : UInt8), (32 : UInt8), (119 : UInt8), (97 : UInt8), (115 : UInt8), (32 : UInt8), (115 : UInt8), (116 : UInt8), (97 : UInt8), (114 : UInt8), (116 : UInt8), (101 : UInt8), (100 : UInt8)]), ((0 : Int)))
                              else
                                none
                  else
                    none
                else
                  none
              else
                none
        else
          bif decide ((0 : Int) ≤ Finding.thread a0) then
            Option.bind ((Names.threads a1)[Int.toNat (Finding.thread a0)]?) fun y5 =>
            bif decide ((7 : Nat) + List.length y5 ≤ (9223372036854775807 : Nat)) then
              bif decide (List.length ([(116 : UInt8), (104 : UInt8), (114 : UInt8), (101 : UInt8), (97 : UInt8), (100 : UInt8), (32 : UInt8)] ++ y5) + (2 : Nat) ≤ (9223372036854775807 : Nat)) then
                bif Finding.kind a0 == (1 : Int) then
                  bif decide (List.length ([(116 : UInt8), (104 : UInt8), (114 : UInt8), (101 : UInt8), (97 : UInt8), (100 : UInt8), (32 : UInt8)] ++ y5 ++ [(58 : UInt8), (32 : UInt8)]) + (15 : Nat) ≤ (9223372036854775807 : Nat)) then
                    some (([(116 : UInt8), (104 : UInt8), (114 : UInt8), (101 : UInt8), (97 : UInt8), (100 : UInt8), (32 : UInt8)] ++ y5 ++ [(58 : UInt8), (32 : UInt8)] ++ [(97 : UInt8), (110 : UInt8), (32 : UInt8), (97 : UInt8), (115 : UInt8), (115 : UInt8), (101 : UInt8), (114 : UInt8), (116 : UInt8), (32 : UInt8), (102 : UInt8), (97 : UInt8), (105 : UInt8), (108 : UInt8), (115 : UInt8)]), ((0 : Int)))
                  else
                    none
                else
                  bif Finding.kind a0 == (3 : Int) then
                    bif decide (List.length ([(116 : UInt8), (104 : UInt8), (114 : UInt8), (101 : UInt8), (97 : UInt8), (100 : UInt8), (32 : UInt8)] ++ y5 ++ [(58 : UInt8), (32 : UInt8)]) + (14 : Nat) ≤ (9223372036854775807 : Nat)) then
                      some (([(116 : UInt8), (104 : UInt8), (114 : UInt8), (101 : UInt8), (97 : UInt8), (100 : UInt8), (32 : UInt8)] ++ y5 ++ [(58 : UInt8), (32 : UInt8)] ++ [(119 : UInt8), (97 : UInt8), (105 : UInt8), (116 : UInt8), (115 : UInt8), (32 : UInt8), (102 : UInt8), (111 : UInt8), (114 : UInt8), (32 : UInt8), (101 : UInt8), (118 : UInt8), (101 : UInt8), (114 : UInt8)]), ((0 : Int)))
                    else
                      none
                  else
                    bif Finding.kind a0 == (4 : Int) then
                      bif decide ((0 : Int) ≤ Finding.thread a0) then
                        Option.bind ((Names.threads a1)[Int.toNat (Finding.thread a0)]?) fun y6 =>
                        bif decide ((8 : Nat) + List.length y6 ≤ (9223372036854775807 : Nat)) then
                          bif decide (List.length ([(116 : UInt8), (104 : UInt8), (114 : UInt8), (101 : UInt8), (97 : UInt8), (100 : UInt8), (115 : UInt8), (32 : UInt8)] ++ y6) + (5 : Nat) ≤ (9223372036854775807 : Nat)) then
                            bif decide ((0 : Int) ≤ Finding.other a0) then
                              Option.bind ((Names.threads a1)[Int.toNat (Finding.other a0)]?) fun y7 =>
                              bif decide (List.length ([(116 : UInt8), (104 : UInt8), (114 : UInt8), (101 : UInt8), (97 : UInt8), (100 : UInt8), (115 : UInt8), (32 : UInt8)] ++ y6 ++ [(32 : UInt8), (97 : UInt8), (110 : UInt8), (100 : UInt8), (32 : UInt8)]) + List.length y7 ≤ (9223372036854775807 : Nat)) then
                                bif decide (List.length ([(116 : UInt8), (104 : UInt8), (114 : UInt8), (101 : UInt8), (97 : UInt8), (100 : UInt8), (115 : UInt8), (32 : UInt8)] ++ y6 ++ [(32 : UInt8), (97 : UInt8), (110 : UInt8), (100 : UInt8), (32 : UInt8)] ++ y7) + (20 : Nat) ≤ (9223372036854775807 : Nat)) then
                                  bif decide ((0 : Int) ≤ Finding.what a0) then
                                    Option.bind ((Names.cells a1)[Int.toNat (Finding.what a0)]?) fun y8 =>
                                    bif decide (List.length ([(116 : UInt8), (104 : UInt8), (114 : UInt8), (101 : UInt8), (97 : UInt8), (100 : UInt8), (115 : UInt8), (32 : UInt8)] ++ y6 ++ [(32 : UInt8), (97 : UInt8), (110 : UInt8), (100 : UInt8), (32 : UInt8)] ++ y7 ++ [(58 : UInt8), (32 : UInt8), (114 : UInt8), (97 : UInt8), (99 : UInt8), (101 : UInt8), (32 : UInt8), (102 : UInt8), (111 : UInt8), (114 : UInt8), (32 : UInt8), (116 : UInt8), (104 : UInt8), (101 : UInt8), (32 : UInt8), (99 : UInt8), (101 : UInt8), (108 : UInt8), (108 : UInt8), (32 : UInt8)]) + List.length y8 ≤ (9223372036854775807 : Nat)) then
                                      some (([(116 : UInt8), (104 : UInt8), (114 : UInt8), (101 : UInt8), (97 : UInt8), (100 : UInt8), (115 : UInt8), (32 : UInt8)] ++ y6 ++ [(32 : UInt8), (97 : UInt8), (110 : UInt8), (100 : UInt8), (32 : UInt8)] ++ y7 ++ [(58 : UInt8), (32 : UInt8), (114 : UInt8), (97 : UInt8), (99 : UInt8), (101 : UInt8), (32 : UInt8), (102 : UInt8), (111 : UInt8), (114 : UInt8), (32 : UInt8), (116 : UInt8), (104 : UInt8), (101 : UInt8), (32 : UInt8), (99 : UInt8), (101 : UInt8), (108 : UInt8), (108 : UInt8), (32 : UInt8)] ++ y8), ((0 : Int)))
                                    else
                                      none
                                  else
                                    none
                                else
                                  none
                              else
                                none
                            else
                              none
                          else
                            none
                        else
                          none
                      else
                        none
                    else
                      bif Finding.what a0 == (2 : Int) then
                        bif decide (List.length ([(116 : UInt8), (104 : UInt8), (114 : UInt8), (101 : UInt8), (97 : UInt8), (100 : UInt8), (32 : UInt8)] ++ y5 ++ [(58 : UInt8), (32 : UInt8)]) + (36 : Nat) ≤ (9223372036854775807 : Nat)) then
                          some (([(116 : UInt8), (104 : UInt8), (114 : UInt8), (101 : UInt8), (97 : UInt8), (100 : UInt8), (32 : UInt8)] ++ y5 ++ [(58 : UInt8), (32 : UInt8)] ++ [(117 : UInt8), (110 : UInt8), (108 : UInt8), (111 : UInt8), (99 : UInt8), (107 : UInt8), (115 : UInt8), (32 : UInt8), (97 : UInt8), (32 : UInt8), (109 : UInt8), (117 : UInt8), (116 : UInt8), (101 : UInt8), (120 : UInt8), (32 : UInt8), (116 : UInt8), (104 : UInt8), (97 : UInt8), (116 : UInt8), (32 : UInt8), (105 : UInt8), (116 : UInt8), (32 : UInt8), (100 : UInt8), (111 : UInt8), (101 : UInt8), (115 : UInt8), (32 : UInt8), (110 : UInt8), (111 : UInt8), (116 : UInt8), (32 : UInt8), (111 : UInt8), (119 : UInt8), (110 : UInt8)]), ((0 : Int)))
                        else
                          none
                      else
                        bif Finding.what a0 == (3 : Int) then
                          bif decide (List.length ([(116 : UInt8), (104 : UInt8), (114 : UInt8), (101 : UInt8), (97 : UInt8), (100 : UInt8), (32 : UInt8)] ++ y5 ++ [(58 : UInt8), (32 : UInt8)]) + (35 : Nat) ≤ (9223372036854775807 : Nat)) then
                            some (([(116 : UInt8), (104 : UInt8), (114 : UInt8), (101 : UInt8), (97 : UInt8), (100 : UInt8), (32 : UInt8)] ++ y5 ++ [(58 : UInt8), (32 : UInt8)] ++ [(106 : UInt8), (111 : UInt8), (105 : UInt8), (110 : UInt8), (115 : UInt8), (32 : UInt8), (97 : UInt8), (32 : UInt8), (116 : UInt8), (104 : UInt8), (114 : UInt8), (101 : UInt8), (97 : UInt8), (100 : UInt8), (32 : UInt8), (116 : UInt8), (104 : UInt8), (97 : UInt8), (116 : UInt8), (32 : UInt8), (119 : UInt8), (97 : UInt8), (115 : UInt8), (32 : UInt8), (110 : UInt8), (111 : UInt8), (116 : UInt8), (32 : UInt8), (115 : UInt8), (116 : UInt8), (97 : UInt8), (114 : UInt8), (116 : UInt8), (101 : UInt8), (100 : UInt8)]), ((0 : Int)))
                          else
                            none
                        else
                          bif decide (List.length ([(116 : UInt8), (104 : UInt8), (114 : UInt8), (101 : UInt8), (97 : UInt8), (100 : UInt8), (32 : UInt8)] ++ y5 ++ [(58 : UInt8), (32 : UInt8)]) + (32 : Nat) ≤ (9223372036854775807 : Nat)) then
                            some (([(116 : UInt8), (104 : UInt8), (114 : UInt8), (101 : UInt8), (97 : UInt8), (100 : UInt8), (32 : UInt8)] ++ y5 ++ [(58 : UInt8), (32 : UInt8)] ++ [(115 : UInt8), (116 : UInt8), (97 : UInt8), (114 : UInt8), (116 : UInt8), (115 : UInt8), (32 : UInt8), (97 : UInt8), (32 : UInt8), (116 : UInt8), (104 : UInt8), (114 : UInt8), (101 : UInt8), (97 : UInt8), (100 : UInt8), (32 : UInt8), (116 : UInt8), (104 : UInt8), (97 : UInt8), (116 : UInt8), (32 : UInt8), (119 : UInt8), (97 : UInt8), (115 : UInt8), (32 : UInt8), (115 : UInt8), (116 : UInt8), (97 : UInt8), (114 : UInt8), (116 : UInt8), (101 : UInt8), (100 : UInt8)]), ((0 : Int)))
                          else
                            none
              else
                none
            else
              none
          else
            none

noncomputable def racetreeref25_Line : Finding → Names → Option ((List UInt8) × Int) := sealF racetreeref25_Line_f

noncomputable def racetreelaw25_ReportLines_f (a0 : Finding) (a1 : Names) : Option (Bool) :=
    Option.bind (racetreelaw25_awake) fun y0 =>
    Option.bind (report_Line (Finding.mk (Finding.kind a0) (Finding.thread a0) (Finding.other a0) (Finding.what a0) (Finding.schedule a0)) (Names.mk (Names.cells a1) (Names.mutexes a1) (Names.threads a1) (Names.regs a1))) fun y1 =>
    Option.bind (racetreeref25_Line (Finding.mk (Finding.kind a0) (Finding.thread a0) (Finding.other a0) (Finding.what a0) (Finding.schedule a0)) (Names.mk (Names.cells a1) (Names.mutexes a1) (Names.threads a1) (Names.regs a1))) fun y2 =>
    bif y0 then
      bif Prod.fst y1 == Prod.fst y2 then
        some (Prod.snd y1 == Prod.snd y2)
      else
        some (false)
    else
      some (false)

noncomputable def racetreelaw25_ReportLines : Finding → Names → Option (Bool) := sealF racetreelaw25_ReportLines_f

end Lift.Fn

namespace Lift.Fn
open Go Lift

noncomputable def report_Read_t5 (rec : List UInt8 → Int → Int → Int → List UInt8 → List (Finding) → Option ((Int × Int × (List UInt8)) ⊕ (Int × Int × (List UInt8) × (List (Finding))))) (a0 : List UInt8) (a1 : Int) (a2 : Int) (a3 : Int) (a4 : List UInt8) (a5 : List (Finding)) : Option ((Int × Int × (List UInt8)) ⊕ (Int × Int × (List UInt8) × (List (Finding)))) :=
    bif decide (a1 < (↑(List.length a0) : Int)) then
      bif decide ((0 : Int) ≤ a1) && (decide (a1 ≤ (↑(List.length a0) : Int)) && decide ((↑(List.length a0) : Int) ≤ (↑(List.length a0) : Int))) then
        Option.bind (strings_Cut (List.drop (Int.toNat a1) (List.take (Int.toNat (↑(List.length a0) : Int)) a0)) [(10 : UInt8)]) fun y0 =>
        Option.bind (strings_Split (Prod.fst y0) [(32 : UInt8)]) fun y1 =>
        bif !Prod.snd (Prod.snd y0) then
          some (.inl (((250 : Int)), (a1), ([])))
        else
          bif decide ((↑(List.length y1) : Int) < (4 : Int)) then
            some (.inl (((250 : Int)), (a1), ([])))
          else
            Option.bind (report_found y1) fun y2 =>
            Option.bind (report_right (Finding.mk (Finding.kind y2) (Finding.thread y2) (Finding.other y2) (Finding.what y2) (Finding.schedule y2))) fun y3 =>
            bif !y3 then
              some (.inl (((250 : Int)), (a1), ([])))
            else
              Option.bind (report_line (Finding.mk (Finding.kind y2) (Finding.thread y2) (Finding.other y2) (Finding.what y2) (Finding.schedule y2))) fun y4 =>
              bif !y4 == Prod.fst y0 then
                some (.inl (((250 : Int)), (a1), ([])))
              else
                bif decide ((List.length a5 + List.length [Finding.mk (Finding.kind y2) (Finding.thread y2) (Finding.other y2) (Finding.what y2) (Finding.schedule y2)]) * (56 : Nat) ≤ (140737488355328 : Nat) ∧ List.length a5 + List.length [Finding.mk (Finding.kind y2) (Finding.thread y2) (Finding.other y2) (Finding.what y2) (Finding.schedule y2)] ≤ (9223372036854775807 : Nat)) then
                  rec (a0) (IntKind.wrap IntKind.i64 (a1 + IntKind.wrap IntKind.i64 ((↑(List.length (Prod.fst y0)) : Int) + (1 : Int)))) (a2) (a3) (a4) (a5 ++ [Finding.mk (Finding.kind y2) (Finding.thread y2) (Finding.other y2) (Finding.what y2) (Finding.schedule y2)])
                else
                  none
      else
        none
    else
      some (.inr ((a2), (a3), (a4), (a5)))

noncomputable def report_Read_i5 : Nat → List UInt8 → Int → Int → Int → List UInt8 → List (Finding) → Option ((Int × Int × (List UInt8)) ⊕ (Int × Int × (List UInt8) × (List (Finding))))
  | 0, _, _, _, _, _, _ => none
  | n + 1, a0, a1, a2, a3, a4, a5 => report_Read_t5 (report_Read_i5 n) a0 a1 a2 a3 a4 a5

noncomputable def report_Read_l5 : List UInt8 → Int → Int → Int → List UInt8 → List (Finding) → Option ((Int × Int × (List UInt8)) ⊕ (Int × Int × (List UInt8) × (List (Finding)))) := sealF (report_Read_i5 fuel)

noncomputable def report_Read_f (a0 : List UInt8) : Option (Fault × (List (Finding))) :=
    bif decide ((↑(List.length a0) : Int) > (40000 : Int)) then
      some ((Fault.mk (251 : Int) (0 : Int) []), ([]))
    else
      Option.bind (report_Read_l5 a0 (0 : Int) (0 : Int) (0 : Int) [] []) fun y0 =>
      match y0 with
      | .inl y1 =>
        some ((Fault.mk (Prod.fst y1) (Prod.fst (Prod.snd y1)) (Prod.snd (Prod.snd y1))), ([]))
      | .inr y1 =>
        some ((Fault.mk (0 : Int) (0 : Int) []), (Prod.snd (Prod.snd (Prod.snd y1))))

noncomputable def report_Read : List UInt8 → Option (Fault × (List (Finding))) := sealF report_Read_f

noncomputable def racetreeref25_words_t4 (rec : List UInt8 → Int → Int → List (List UInt8) → Option ((List (List UInt8)))) (a0 : List UInt8) (a1 : Int) (a2 : Int) (a3 : List (List UInt8)) : Option ((List (List UInt8))) :=
    bif decide (a2 ≤ (↑(List.length a0) : Int)) then
      bif a2 == (↑(List.length a0) : Int) then
        bif decide ((0 : Int) ≤ a1) && (decide (a1 ≤ a2) && decide (a2 ≤ (↑(List.length a0) : Int))) then
          bif decide ((List.length a3 + List.length [List.drop (Int.toNat a1) (List.take (Int.toNat a2) a0)]) * (16 : Nat) ≤ (140737488355328 : Nat) ∧ List.length a3 + List.length [List.drop (Int.toNat a1) (List.take (Int.toNat a2) a0)] ≤ (9223372036854775807 : Nat)) then
            rec (a0) (IntKind.wrap IntKind.i64 (a2 + (1 : Int))) (IntKind.wrap IntKind.i64 (a2 + (1 : Int))) (a3 ++ [List.drop (Int.toNat a1) (List.take (Int.toNat a2) a0)])
          else
            none
        else
          none
      else
        bif decide ((0 : Int) ≤ a2) then
          Option.bind (a0[Int.toNat a2]?) fun y0 =>
          bif (↑(UInt8.toNat y0) : Int) == (32 : Int) then
            bif decide ((0 : Int) ≤ a1) && (decide (a1 ≤ a2) && decide (a2 ≤ (↑(List.length a0) : Int))) then
              bif decide ((List.length a3 + List.length [List.drop (Int.toNat a1) (List.take (Int.toNat a2) a0)]) * (16 : Nat) ≤ (140737488355328 : Nat) ∧ List.length a3 + List.length [List.drop (Int.toNat a1) (List.take (Int.toNat a2) a0)] ≤ (9223372036854775807 : Nat)) then
                rec (a0) (IntKind.wrap IntKind.i64 (a2 + (1 : Int))) (IntKind.wrap IntKind.i64 (a2 + (1 : Int))) (a3 ++ [List.drop (Int.toNat a1) (List.take (Int.toNat a2) a0)])
              else
                none
            else
              none
          else
            rec (a0) (a1) (IntKind.wrap IntKind.i64 (a2 + (1 : Int))) (a3)
        else
          none
    else
      some (a3)

noncomputable def racetreeref25_words_i4 : Nat → List UInt8 → Int → Int → List (List UInt8) → Option ((List (List UInt8)))
  | 0, _, _, _, _ => none
  | n + 1, a0, a1, a2, a3 => racetreeref25_words_t4 (racetreeref25_words_i4 n) a0 a1 a2 a3

noncomputable def racetreeref25_words_l4 : List UInt8 → Int → Int → List (List UInt8) → Option ((List (List UInt8))) := sealF (racetreeref25_words_i4 fuel)

noncomputable def racetreeref25_words_f (a0 : List UInt8) : Option ((List (List UInt8))) :=
    Option.bind (racetreeref25_words_l4 a0 (0 : Int) (0 : Int) []) fun y0 =>
    some (y0)

noncomputable def racetreeref25_words : List UInt8 → Option ((List (List UInt8))) := sealF racetreeref25_words_f

noncomputable def racetreeref25_one_f (a0 : List UInt8) : Option (Int) :=
    bif (↑(List.length a0) : Int) != (1 : Int) then
      some ((-1 : Int))
    else
      Option.bind (a0[(0 : Nat)]?) fun y0 =>
      bif decide ((↑(UInt8.toNat y0) : Int) < (48 : Int)) then
        some ((-1 : Int))
      else
        Option.bind (a0[(0 : Nat)]?) fun y1 =>
        bif decide ((↑(UInt8.toNat y1) : Int) > (55 : Int)) then
          some ((-1 : Int))
        else
          Option.bind (a0[(0 : Nat)]?) fun y2 =>
          some (IntKind.wrap IntKind.i64 (IntKind.wrap IntKind.u8 ((↑(UInt8.toNat y2) : Int) - (48 : Int))))

noncomputable def racetreeref25_one : List UInt8 → Option (Int) := sealF racetreeref25_one_f

noncomputable def racetreeref25_schedule_t5 (rec : List UInt8 → Int → List (Int) → Option ((List (Int)))) (a0 : List UInt8) (a1 : Int) (a2 : List (Int)) : Option ((List (Int))) :=
    bif decide (a1 < (↑(List.length a0) : Int)) then
      bif decide ((0 : Int) ≤ a1) then
        Option.bind (a0[Int.toNat a1]?) fun y0 =>
        bif decide ((List.length a2 + List.length [IntKind.wrap IntKind.i64 (IntKind.wrap IntKind.i64 (↑(UInt8.toNat y0) : Int) - (48 : Int))]) * (8 : Nat) ≤ (140737488355328 : Nat) ∧ List.length a2 + List.length [IntKind.wrap IntKind.i64 (IntKind.wrap IntKind.i64 (↑(UInt8.toNat y0) : Int) - (48 : Int))] ≤ (9223372036854775807 : Nat)) then
          rec (a0) (IntKind.wrap IntKind.i64 (a1 + (2 : Int))) (a2 ++ [IntKind.wrap IntKind.i64 (IntKind.wrap IntKind.i64 (↑(UInt8.toNat y0) : Int) - (48 : Int))])
        else
          none
      else
        none
    else
      some (a2)

noncomputable def racetreeref25_schedule_i5 : Nat → List UInt8 → Int → List (Int) → Option ((List (Int)))
  | 0, _, _, _ => none
  | n + 1, a0, a1, a2 => racetreeref25_schedule_t5 (racetreeref25_schedule_i5 n) a0 a1 a2

noncomputable def racetreeref25_schedule_l5 : List UInt8 → Int → List (Int) → Option ((List (Int))) := sealF (racetreeref25_schedule_i5 fuel)

noncomputable def racetreeref25_schedule_f (a0 : List UInt8) : Option ((List (Int))) :=
    bif a0 == [(45 : UInt8)] then
      some ([])
    else
      Option.bind (racetreeref25_schedule_l5 a0 (0 : Int) []) fun y0 =>
      some (y0)

noncomputable def racetreeref25_schedule : List UInt8 → Option ((List (Int))) := sealF racetreeref25_schedule_f

noncomputable def racetreeref25_read_f (a0 : List UInt8) : Option (Finding × Bool) :=
    Option.bind (racetreeref25_words a0) fun y0 =>
    bif decide ((↑(List.length y0) : Int) < (4 : Int)) then
      some ((Finding.mk (0 : Int) (0 : Int) (0 : Int) (0 : Int) []), (false))
    else
      bif decide ((↑(List.length a0) : Int) > (2040 : Int)) then
        some ((Finding.mk (0 : Int) (0 : Int) (0 : Int) (0 : Int) []), (false))
      else
        bif decide ((0 : Int) ≤ (1 : Int)) && decide ((1 : Int) < (↑(List.length y0) : Int)) then
          Option.bind (y0[(1 : Nat)]?) fun y1 =>
          Option.bind (racetreeref25_one y1) fun y2 =>
          bif decide ((0 : Int) ≤ IntKind.wrap IntKind.i64 ((↑(List.length y0) : Int) - (1 : Int))) && decide (IntKind.wrap IntKind.i64 ((↑(List.length y0) : Int) - (1 : Int)) < (↑(List.length y0) : Int)) then
            Option.bind (y0[Int.toNat (IntKind.wrap IntKind.i64 ((↑(List.length y0) : Int) - (1 : Int)))]?) fun y3 =>
            Option.bind (racetreeref25_schedule y3) fun y4 =>
            bif decide ((0 : Int) ≤ (0 : Int)) && decide ((0 : Int) < (↑(List.length y0) : Int)) then
              Option.bind (y0[(0 : Nat)]?) fun y5 =>
              bif y5 == [(97 : UInt8), (115 : UInt8), (115 : UInt8), (101 : UInt8), (114 : UInt8), (116 : UInt8)] then
                Option.bind (racetreeref25_Right (Finding.mk (1 : Int) y2 (0 : Int) (0 : Int) y4)) fun y6 =>
                bif !y6 then
                  some ((Finding.mk (0 : Int) (0 : Int) (0 : Int) (0 : Int) []), (false))
                else
                  Option.bind (racetreeref25_line (Finding.mk (1 : Int) y2 (0 : Int) (0 : Int) y4)) fun y7 =>
                  some ((Finding.mk (1 : Int) y2 (0 : Int) (0 : Int) y4), (y7 == a0))
              else
                bif y5 == [(100 : UInt8), (101 : UInt8), (97 : UInt8), (100 : UInt8), (108 : UInt8), (111 : UInt8), (99 : UInt8), (107 : UInt8)] then
                  Option.bind (racetreeref25_Right (Finding.mk (3 : Int) y2 (0 : Int) (0 : Int) y4)) fun y8 =>
                  bif !y8 then
                    some ((Finding.mk (0 : Int) (0 : Int) (0 : Int) (0 : Int) []), (false))
                  else
                    Option.bind (racetreeref25_line (Finding.mk (3 : Int) y2 (0 : Int) (0 : Int) y4)) fun y9 =>
                    some ((Finding.mk (3 : Int) y2 (0 : Int) (0 : Int) y4), (y9 == a0))
                else
                  bif y5 == [(109 : UInt8), (105 : UInt8), (115 : UInt8), (117 : UInt8), (115 : UInt8), (101 : UInt8)] then
                    bif decide ((0 : Int) ≤ (2 : Int)) && decide ((2 : Int) < (↑(List.length y0) : Int)) then
                      Option.bind (y0[(2 : Nat)]?) fun y10 =>
                      bif y10 == [(117 : UInt8), (110 : UInt8), (108 : UInt8), (111 : UInt8), (99 : UInt8), (107 : UInt8)] then
                        bif decide ((0 : Int) ≤ (2 : Int)) && decide ((2 : Int) < (↑(List.length y0) : Int)) then
                          Option.bind (y0[(2 : Nat)]?) fun y11 =>
                          bif y11 == [(106 : UInt8), (111 : UInt8), (105 : UInt8), (110 : UInt8)] then
                            Option.bind (racetreeref25_Right (Finding.mk (2 : Int) y2 (0 : Int) (3 : Int) y4)) fun y12 =>
                            bif !y12 then
                              some ((Finding.mk (0 : Int) (0 : Int) (0 : Int) (0 : Int) []), (false))
                            else
                              Option.bind (racetreeref25_line (Finding.mk (2 : Int) y2 (0 : Int) (3 : Int) y4)) fun y13 =>
                              some ((Finding.mk (2 : Int) y2 (0 : Int) (3 : Int) y4), (y13 == a0))
                          else
                            Option.bind (racetreeref25_Right (Finding.mk (2 : Int) y2 (0 : Int) (2 : Int) y4)) fun y14 =>
                            bif !y14 then
                              some ((Finding.mk (0 : Int) (0 : Int) (0 : Int) (0 : Int) []), (false))
                            else
                              Option.bind (racetreeref25_line (Finding.mk (2 : Int) y2 (0 : Int) (2 : Int) y4)) fun y15 =>
                              some ((Finding.mk (2 : Int) y2 (0 : Int) (2 : Int) y4), (y15 == a0))
                        else
                          none
                      else
                        bif decide ((0 : Int) ≤ (2 : Int)) && decide ((2 : Int) < (↑(List.length y0) : Int)) then
                          Option.bind (y0[(2 : Nat)]?) fun y16 =>
                          bif y16 == [(106 : UInt8), (111 : UInt8), (105 : UInt8), (110 : UInt8)] then
                            Option.bind (racetreeref25_Right (Finding.mk (2 : Int) y2 (0 : Int) (3 : Int) y4)) fun y17 =>
                            bif !y17 then
                              some ((Finding.mk (0 : Int) (0 : Int) (0 : Int) (0 : Int) []), (false))
                            else
                              Option.bind (racetreeref25_line (Finding.mk (2 : Int) y2 (0 : Int) (3 : Int) y4)) fun y18 =>
                              some ((Finding.mk (2 : Int) y2 (0 : Int) (3 : Int) y4), (y18 == a0))
                          else
                            Option.bind (racetreeref25_Right (Finding.mk (2 : Int) y2 (0 : Int) (4 : Int) y4)) fun y19 =>
                            bif !y19 then
                              some ((Finding.mk (0 : Int) (0 : Int) (0 : Int) (0 : Int) []), (false))
                            else
                              Option.bind (racetreeref25_line (Finding.mk (2 : Int) y2 (0 : Int) (4 : Int) y4)) fun y20 =>
                              some ((Finding.mk (2 : Int) y2 (0 : Int) (4 : Int) y4), (y20 == a0))
                        else
                          none
                    else
                      none
                  else
                    bif y5 == [(114 : UInt8), (97 : UInt8), (99 : UInt8), (101 : UInt8)] then
                      bif decide ((0 : Int) ≤ (2 : Int)) && decide ((2 : Int) < (↑(List.length y0) : Int)) then
                        Option.bind (y0[(2 : Nat)]?) fun y21 =>
                        Option.bind (racetreeref25_one y21) fun y22 =>
                        bif decide ((0 : Int) ≤ (3 : Int)) && decide ((3 : Int) < (↑(List.length y0) : Int)) then
                          Option.bind (y0[(3 : Nat)]?) fun y23 =>
                          Option.bind (racetreeref25_one y23) fun y24 =>
                          Option.bind (racetreeref25_Right (Finding.mk (4 : Int) y2 y22 y24 y4)) fun y25 =>
                          bif !y25 then
                            some ((Finding.mk (0 : Int) (0 : Int) (0 : Int) (0 : Int) []), (false))
                          else
                            Option.bind (racetreeref25_line (Finding.mk (4 : Int) y2 y22 y24 y4)) fun y26 =>
                            some ((Finding.mk (4 : Int) y2 y22 y24 y4), (y26 == a0))
                        else
                          none
                      else
                        none
                    else
                      Option.bind (racetreeref25_Right (Finding.mk (0 : Int) y2 (0 : Int) (0 : Int) y4)) fun y27 =>
                      bif !y27 then
                        some ((Finding.mk (0 : Int) (0 : Int) (0 : Int) (0 : Int) []), (false))
                      else
                        Option.bind (racetreeref25_line (Finding.mk (0 : Int) y2 (0 : Int) (0 : Int) y4)) fun y28 =>
                        some ((Finding.mk (0 : Int) y2 (0 : Int) (0 : Int) y4), (y28 == a0))
            else
              none
          else
            none
        else
          none

noncomputable def racetreeref25_read : List UInt8 → Option (Finding × Bool) := sealF racetreeref25_read_f

noncomputable def racetreeref25_Read_t6 (rec : List UInt8 → Int → Int → Int → Int → List UInt8 → List (Finding) → Option ((Int × Int × (List UInt8)) ⊕ ((List UInt8) × Int × Int × Int × (List UInt8) × (List (Finding))))) (a0 : List UInt8) (a1 : Int) (a2 : Int) (a3 : Int) (a4 : Int) (a5 : List UInt8) (a6 : List (Finding)) : Option ((Int × Int × (List UInt8)) ⊕ ((List UInt8) × Int × Int × Int × (List UInt8) × (List (Finding)))) :=
    bif decide (a2 < (↑(List.length a0) : Int)) then
      bif decide ((0 : Int) ≤ a2) then
        Option.bind (a0[Int.toNat a2]?) fun y0 =>
        bif (↑(UInt8.toNat y0) : Int) != (10 : Int) then
          rec (a0) (a1) (IntKind.wrap IntKind.i64 (a2 + (1 : Int))) (a3) (a4) (a5) (a6)
        else
          bif decide ((0 : Int) ≤ a1) && (decide (a1 ≤ a2) && decide (a2 ≤ (↑(List.length a0) : Int))) then
            Option.bind (racetreeref25_read (List.drop (Int.toNat a1) (List.take (Int.toNat a2) a0))) fun y1 =>
            bif !Prod.snd y1 then
              some (.inl (((250 : Int)), (a1), ([])))
            else
              bif decide ((List.length a6 + List.length [Finding.mk (Finding.kind (Prod.fst y1)) (Finding.thread (Prod.fst y1)) (Finding.other (Prod.fst y1)) (Finding.what (Prod.fst y1)) (Finding.schedule (Prod.fst y1))]) * (56 : Nat) ≤ (140737488355328 : Nat) ∧ List.length a6 + List.length [Finding.mk (Finding.kind (Prod.fst y1)) (Finding.thread (Prod.fst y1)) (Finding.other (Prod.fst y1)) (Finding.what (Prod.fst y1)) (Finding.schedule (Prod.fst y1))] ≤ (9223372036854775807 : Nat)) then
                rec (a0) (IntKind.wrap IntKind.i64 (a2 + (1 : Int))) (IntKind.wrap IntKind.i64 (a2 + (1 : Int))) (a3) (a4) (a5) (a6 ++ [Finding.mk (Finding.kind (Prod.fst y1)) (Finding.thread (Prod.fst y1)) (Finding.other (Prod.fst y1)) (Finding.what (Prod.fst y1)) (Finding.schedule (Prod.fst y1))])
              else
                none
          else
            none
      else
        none
    else
      some (.inr ((a0), (a1), (a3), (a4), (a5), (a6)))

noncomputable def racetreeref25_Read_i6 : Nat → List UInt8 → Int → Int → Int → Int → List UInt8 → List (Finding) → Option ((Int × Int × (List UInt8)) ⊕ ((List UInt8) × Int × Int × Int × (List UInt8) × (List (Finding))))
  | 0, _, _, _, _, _, _, _ => none
  | n + 1, a0, a1, a2, a3, a4, a5, a6 => racetreeref25_Read_t6 (racetreeref25_Read_i6 n) a0 a1 a2 a3 a4 a5 a6

noncomputable def racetreeref25_Read_l6 : List UInt8 → Int → Int → Int → Int → List UInt8 → List (Finding) → Option ((Int × Int × (List UInt8)) ⊕ ((List UInt8) × Int × Int × Int × (List UInt8) × (List (Finding)))) := sealF (racetreeref25_Read_i6 fuel)

noncomputable def racetreeref25_Read_f (a0 : List UInt8) : Option (Fault × (List (Finding))) :=
    bif decide ((↑(List.length a0) : Int) > (40000 : Int)) then
      some ((Fault.mk (251 : Int) (0 : Int) []), ([]))
    else
      Option.bind (racetreeref25_Read_l6 a0 (0 : Int) (0 : Int) (0 : Int) (0 : Int) [] []) fun y0 =>
      match y0 with
      | .inl y1 =>
        some ((Fault.mk (Prod.fst y1) (Prod.fst (Prod.snd y1)) (Prod.snd (Prod.snd y1))), ([]))
      | .inr y1 =>
        bif decide (Prod.fst (Prod.snd y1) < (↑(List.length (Prod.fst y1)) : Int)) then
          some ((Fault.mk (250 : Int) (Prod.fst (Prod.snd y1)) []), ([]))
        else
          some ((Fault.mk (0 : Int) (0 : Int) []), (Prod.snd (Prod.snd (Prod.snd (Prod.snd (Prod.snd y1))))))

noncomputable def racetreeref25_Read : List UInt8 → Option (Fault × (List (Finding))) := sealF racetreeref25_Read_f

noncomputable def racetreeref21_Alike_t4 (rec : List (Finding) → List (Finding) → Int → Option ((Bool) ⊕ (Unit))) (a0 : List (Finding)) (a1 : List (Finding)) (a2 : Int) : Option ((Bool) ⊕ (Unit)) :=
    bif decide (a2 < (↑(List.length a0) : Int)) then
      bif decide ((0 : Int) ≤ a2) then
        Option.bind (a0[Int.toNat a2]?) fun y0 =>
        bif decide ((0 : Int) ≤ a2) then
          Option.bind (a1[Int.toNat a2]?) fun y1 =>
          Option.bind (racetreeref21_Compare y0 y1) fun y2 =>
          bif y2 != (0 : Int) then
            some (.inl (false))
          else
            rec (a0) (a1) (IntKind.wrap IntKind.i64 (a2 + (1 : Int)))
        else
          none
      else
        none
    else
      some (.inr ())

noncomputable def racetreeref21_Alike_i4 : Nat → List (Finding) → List (Finding) → Int → Option ((Bool) ⊕ (Unit))
  | 0, _, _, _ => none
  | n + 1, a0, a1, a2 => racetreeref21_Alike_t4 (racetreeref21_Alike_i4 n) a0 a1 a2

noncomputable def racetreeref21_Alike_l4 : List (Finding) → List (Finding) → Int → Option ((Bool) ⊕ (Unit)) := sealF (racetreeref21_Alike_i4 fuel)

noncomputable def racetreeref21_Alike_f (a0 : List (Finding)) (a1 : List (Finding)) : Option (Bool) :=
    bif (↑(List.length a0) : Int) != (↑(List.length a1) : Int) then
      some (false)
    else
      Option.bind (racetreeref21_Alike_l4 a0 a1 (0 : Int)) fun y0 =>
      match y0 with
      | .inl y1 =>
        some (y1)
      | .inr y1 =>
        some (true)

noncomputable def racetreeref21_Alike : List (Finding) → List (Finding) → Option (Bool) := sealF racetreeref21_Alike_f

noncomputable def racetreeref21_equal_t4 (rec : List (Int) → List (Int) → Int → Option ((Bool) ⊕ (Unit))) (a0 : List (Int)) (a1 : List (Int)) (a2 : Int) : Option ((Bool) ⊕ (Unit)) :=
    bif decide (a2 < (↑(List.length a0) : Int)) then
      bif decide ((0 : Int) ≤ a2) then
        Option.bind (a0[Int.toNat a2]?) fun y0 =>
        bif decide ((0 : Int) ≤ a2) then
          Option.bind (a1[Int.toNat a2]?) fun y1 =>
          bif y0 != y1 then
            some (.inl (false))
          else
            rec (a0) (a1) (IntKind.wrap IntKind.i64 (a2 + (1 : Int)))
        else
          none
      else
        none
    else
      some (.inr ())

noncomputable def racetreeref21_equal_i4 : Nat → List (Int) → List (Int) → Int → Option ((Bool) ⊕ (Unit))
  | 0, _, _, _ => none
  | n + 1, a0, a1, a2 => racetreeref21_equal_t4 (racetreeref21_equal_i4 n) a0 a1 a2

noncomputable def racetreeref21_equal_l4 : List (Int) → List (Int) → Int → Option ((Bool) ⊕ (Unit)) := sealF (racetreeref21_equal_i4 fuel)

noncomputable def racetreeref21_equal_f (a0 : List (Int)) (a1 : List (Int)) : Option (Bool) :=
    bif (↑(List.length a0) : Int) != (↑(List.length a1) : Int) then
      some (false)
    else
      Option.bind (racetreeref21_equal_l4 a0 a1 (0 : Int)) fun y0 =>
      match y0 with
      | .inl y1 =>
        some (y1)
      | .inr y1 =>
        some (true)

noncomputable def racetreeref21_equal : List (Int) → List (Int) → Option (Bool) := sealF racetreeref21_equal_f

noncomputable def racetreeref21_Same_t5 (rec : List (Finding) → List (Finding) → Int → Option ((Bool) ⊕ (Unit))) (a0 : List (Finding)) (a1 : List (Finding)) (a2 : Int) : Option ((Bool) ⊕ (Unit)) :=
    bif decide (a2 < (↑(List.length a0) : Int)) then
      bif decide ((0 : Int) ≤ a2) then
        Option.bind (a0[Int.toNat a2]?) fun y0 =>
        bif decide ((0 : Int) ≤ a2) then
          Option.bind (a1[Int.toNat a2]?) fun y1 =>
          Option.bind (racetreeref21_equal (Finding.schedule y0) (Finding.schedule y1)) fun y2 =>
          bif !y2 then
            some (.inl (false))
          else
            rec (a0) (a1) (IntKind.wrap IntKind.i64 (a2 + (1 : Int)))
        else
          none
      else
        none
    else
      some (.inr ())

noncomputable def racetreeref21_Same_i5 : Nat → List (Finding) → List (Finding) → Int → Option ((Bool) ⊕ (Unit))
  | 0, _, _, _ => none
  | n + 1, a0, a1, a2 => racetreeref21_Same_t5 (racetreeref21_Same_i5 n) a0 a1 a2

noncomputable def racetreeref21_Same_l5 : List (Finding) → List (Finding) → Int → Option ((Bool) ⊕ (Unit)) := sealF (racetreeref21_Same_i5 fuel)

noncomputable def racetreeref21_Same_f (a0 : List (Finding)) (a1 : List (Finding)) : Option (Bool) :=
    Option.bind (racetreeref21_Alike a0 a1) fun y0 =>
    bif !y0 then
      some (false)
    else
      Option.bind (racetreeref21_Same_l5 a0 a1 (0 : Int)) fun y1 =>
      match y1 with
      | .inl y2 =>
        some (y2)
      | .inr y2 =>
        some (true)

noncomputable def racetreeref21_Same : List (Finding) → List (Finding) → Option (Bool) := sealF racetreeref21_Same_f

noncomputable def racetreelaw25_ReportReads_f (a0 : List UInt8) : Option (Bool) :=
    Option.bind (racetreelaw25_awake) fun y0 =>
    Option.bind (report_Read a0) fun y1 =>
    Option.bind (racetreeref25_Read a0) fun y2 =>
    Option.bind (racetreeref21_Same (Prod.snd y1) (Prod.snd y2)) fun y3 =>
    bif y0 then
      bif decide (Fault.mk (Fault.code (Prod.fst y1)) (Fault.at_ (Prod.fst y1)) (Fault.name (Prod.fst y1)) = Fault.mk (Fault.code (Prod.fst y2)) (Fault.at_ (Prod.fst y2)) (Fault.name (Prod.fst y2))) then
        some (y3)
      else
        some (false)
    else
      some (false)

noncomputable def racetreelaw25_ReportReads : List UInt8 → Option (Bool) := sealF racetreelaw25_ReportReads_f

noncomputable def racetreelaw25_ReportThere_f (a0 : List (Finding)) : Option (Bool) :=
    Option.bind (racetreelaw25_awake) fun y0 =>
    Option.bind (report_Print a0) fun y1 =>
    Option.bind (racetreeref25_Print a0) fun y2 =>
    bif Prod.snd y2 != (0 : Int) then
      bif y0 then
        some (Prod.snd y1 == Prod.snd y2)
      else
        some (false)
    else
      Option.bind (report_Read (Prod.fst y1)) fun y3 =>
      Option.bind (racetreeref21_Same a0 (Prod.snd y3)) fun y4 =>
      bif y0 then
        bif Prod.snd y1 == (0 : Int) then
          bif decide (Fault.mk (Fault.code (Prod.fst y3)) (Fault.at_ (Prod.fst y3)) (Fault.name (Prod.fst y3)) = Fault.mk (0 : Int) (0 : Int) []) then
            some (y4)
          else
            some (false)
        else
          some (false)
      else
        some (false)

noncomputable def racetreelaw25_ReportThere : List (Finding) → Option (Bool) := sealF racetreelaw25_ReportThere_f

noncomputable def racetreelaw25_ReportBack_f (a0 : List UInt8) : Option (Bool) :=
    Option.bind (racetreelaw25_awake) fun y0 =>
    Option.bind (report_Read a0) fun y1 =>
    Option.bind (racetreeref25_Read a0) fun y2 =>
    bif Fault.code (Prod.fst y2) != (0 : Int) then
      bif y0 then
        some (decide (Fault.mk (Fault.code (Prod.fst y1)) (Fault.at_ (Prod.fst y1)) (Fault.name (Prod.fst y1)) = Fault.mk (Fault.code (Prod.fst y2)) (Fault.at_ (Prod.fst y2)) (Fault.name (Prod.fst y2))))
      else
        some (false)
    else
      Option.bind (report_Print (Prod.snd y1)) fun y3 =>
      bif y0 then
        bif Fault.code (Prod.fst y1) == (0 : Int) then
          bif Prod.snd y3 == (0 : Int) then
            some (Prod.fst y3 == a0)
          else
            some (false)
        else
          some (false)
      else
        some (false)

noncomputable def racetreelaw25_ReportBack : List UInt8 → Option (Bool) := sealF racetreelaw25_ReportBack_f

noncomputable def racetreelaw25_ReportJoins_f (a0 : List (Finding)) (a1 : List (Finding)) : Option (Bool) :=
    Option.bind (racetreelaw25_awake) fun y0 =>
    bif decide (((0 : Nat) + List.length a0) * (56 : Nat) ≤ (140737488355328 : Nat) ∧ (0 : Nat) + List.length a0 ≤ (9223372036854775807 : Nat)) then
      bif decide ((List.length ([] ++ a0) + List.length a1) * (56 : Nat) ≤ (140737488355328 : Nat) ∧ List.length ([] ++ a0) + List.length a1 ≤ (9223372036854775807 : Nat)) then
        Option.bind (racetreeref25_Print ([] ++ a0 ++ a1)) fun y1 =>
        bif Prod.snd y1 != (0 : Int) then
          some (y0)
        else
          Option.bind (report_Print a0) fun y2 =>
          Option.bind (report_Print a1) fun y3 =>
          bif decide (List.length (Prod.fst y2) + List.length (Prod.fst y3) ≤ (9223372036854775807 : Nat)) then
            Option.bind (report_Read (Prod.fst y2 ++ Prod.fst y3)) fun y4 =>
            Option.bind (racetreeref21_Same ([] ++ a0 ++ a1) (Prod.snd y4)) fun y5 =>
            bif y0 then
              bif Prod.snd y2 == (0 : Int) then
                bif Prod.snd y3 == (0 : Int) then
                  bif Fault.code (Prod.fst y4) == (0 : Int) then
                    some (y5)
                  else
                    some (false)
                else
                  some (false)
              else
                some (false)
            else
              some (false)
          else
            none
      else
        none
    else
      none

noncomputable def racetreelaw25_ReportJoins : List (Finding) → List (Finding) → Option (Bool) := sealF racetreelaw25_ReportJoins_f

end Lift.Fn

/- The library's modes hold of this program. -/
namespace Go.Proofs
open Go.Shelf Go.RowKit
def Tryd.laysJoin_ren : Go.Shelf.Ren := ⟨fun | 156 => 41 | 165 => 57 | 166 => 20 | 169 => 24 | 240 => 39 | 241 => 64 | 276 => 55 | 277 => 77 | n => n, fun | 31 => 31 | 9 => 9 | 3 => 3 | 4 => 4 | 0 => 0 | 20 => 20 | 72 => 48 | 76 => 51 | 70 => 45 | 37 => 46 | 75 => 50 | 127 => 73 | 164 => 83 | 5 => 5 | 80 => 56 | n => n, fun | n => n⟩
theorem Tryd.laysJoin : Go.Proofs.Lays.n156 Tryd.prog Tryd.laysJoin_ren where
  mixed := by kernel_rfl
  f156 := Tryd.func41.trans (congrArg some (by kernel_rfl))
  f165 := Tryd.func57.trans (congrArg some (by kernel_rfl))
  f166 := Tryd.func20.trans (congrArg some (by kernel_rfl))
  f169 := Tryd.func24.trans (congrArg some (by kernel_rfl))
  f240 := Tryd.func39.trans (congrArg some (by kernel_rfl))
  f241 := Tryd.func64.trans (congrArg some (by kernel_rfl))
  f276 := Tryd.func55.trans (congrArg some (by kernel_rfl))
  f277 := Tryd.func77.trans (congrArg some (by kernel_rfl))
  t0 := Tryd.underlying0
  a0 := Tryd.isAgg0
  z0 := Tryd.sizeOf0
  v0 := Tryd.zeroValue0
  t3 := Tryd.underlying3
  a3 := Tryd.isAgg3
  z3 := Tryd.sizeOf3
  v3 := Tryd.zeroValue3
  t4 := Tryd.underlying4
  a4 := Tryd.isAgg4
  z4 := Tryd.sizeOf4
  v4 := Tryd.zeroValue4
  t9 := Tryd.underlying9
  a9 := Tryd.isAgg9
  z9 := Tryd.sizeOf9
  v9 := Tryd.zeroValue9
  t20 := Tryd.underlying20
  a20 := Tryd.isAgg20
  z20 := Tryd.sizeOf20
  v20 := Tryd.zeroValue20
  t31 := Tryd.underlying31
  a31 := Tryd.isAgg31
  z31 := Tryd.sizeOf31
  v31 := Tryd.zeroValue31
  t37 := Tryd.underlying46
  a37 := Tryd.isAgg46
  z37 := Tryd.sizeOf46
  v37 := Tryd.zeroValue46
  t70 := Tryd.underlying45
  a70 := Tryd.isAgg45
  z70 := Tryd.sizeOf45
  v70 := Tryd.zeroValue45
  t72 := Tryd.underlying48
  a72 := Tryd.isAgg48
  z72 := Tryd.sizeOf48
  v72 := Tryd.zeroValue48
  t75 := Tryd.underlying50
  a75 := Tryd.isAgg50
  z75 := Tryd.sizeOf50
  v75 := Tryd.zeroValue50
  t76 := Tryd.underlying51
  a76 := Tryd.isAgg51
  z76 := Tryd.sizeOf51
  v76 := Tryd.zeroValue51
  t127 := Tryd.underlying73
  a127 := Tryd.isAgg73
  z127 := Tryd.sizeOf73
  v127 := Tryd.zeroValue73
  t164 := Tryd.underlying83
  a164 := Tryd.isAgg83
  z164 := Tryd.sizeOf83
  v164 := Tryd.zeroValue83

def Tryd.laysItoa_ren : Go.Shelf.Ren := ⟨fun | 171 => 40 | 243 => 56 | 246 => 63 | 283 => 73 | 284 => 74 | 285 => 75 | 286 => 76 | 129 => 82 | 317 => 81 | 318 => 83 | 319 => 84 | 320 => 85 | 337 => 86 | 338 => 87 | n => n, fun | 3 => 3 | 9 => 9 | 2 => 2 | 4 => 4 | 171 => 96 | 0 => 0 | 53 => 97 | 37 => 46 | 5 => 5 | 173 => 100 | 212 => 107 | 51 => 103 | 20 => 20 | 213 => 108 | 46 => 93 | 232 => 115 | 233 => 116 | n => n, fun | 17 => 1 | 18 => 4 | 19 => 5 | n => n⟩
theorem Tryd.laysItoa : Go.Proofs.Lays.n171 Tryd.prog Tryd.laysItoa_ren where
  mixed := by kernel_rfl
  f129 := Tryd.func82.trans (congrArg some (by kernel_rfl))
  f171 := Tryd.func40.trans (congrArg some (by kernel_rfl))
  f243 := Tryd.func56.trans (congrArg some (by kernel_rfl))
  f246 := Tryd.func63.trans (congrArg some (by kernel_rfl))
  f283 := Tryd.func73.trans (congrArg some (by kernel_rfl))
  f284 := Tryd.func74.trans (congrArg some (by kernel_rfl))
  f285 := Tryd.func75.trans (congrArg some (by kernel_rfl))
  f286 := Tryd.func76.trans (congrArg some (by kernel_rfl))
  f317 := Tryd.func81.trans (congrArg some (by kernel_rfl))
  f318 := Tryd.func83.trans (congrArg some (by kernel_rfl))
  f319 := Tryd.func84.trans (congrArg some (by kernel_rfl))
  f320 := Tryd.func85.trans (congrArg some (by kernel_rfl))
  f337 := Tryd.func86.trans (congrArg some (by kernel_rfl))
  f338 := Tryd.func87.trans (congrArg some (by kernel_rfl))
  t0 := Tryd.underlying0
  a0 := Tryd.isAgg0
  z0 := Tryd.sizeOf0
  v0 := Tryd.zeroValue0
  t2 := Tryd.underlying2
  a2 := Tryd.isAgg2
  z2 := Tryd.sizeOf2
  v2 := Tryd.zeroValue2
  t3 := Tryd.underlying3
  a3 := Tryd.isAgg3
  z3 := Tryd.sizeOf3
  v3 := Tryd.zeroValue3
  t4 := Tryd.underlying4
  a4 := Tryd.isAgg4
  z4 := Tryd.sizeOf4
  v4 := Tryd.zeroValue4
  t5 := Tryd.underlying5
  a5 := Tryd.isAgg5
  z5 := Tryd.sizeOf5
  v5 := Tryd.zeroValue5
  t9 := Tryd.underlying9
  a9 := Tryd.isAgg9
  z9 := Tryd.sizeOf9
  v9 := Tryd.zeroValue9
  t20 := Tryd.underlying20
  a20 := Tryd.isAgg20
  z20 := Tryd.sizeOf20
  v20 := Tryd.zeroValue20
  t37 := Tryd.underlying46
  a37 := Tryd.isAgg46
  z37 := Tryd.sizeOf46
  v37 := Tryd.zeroValue46
  t46 := Tryd.underlying93
  a46 := Tryd.isAgg93
  z46 := Tryd.sizeOf93
  v46 := Tryd.zeroValue93
  t51 := Tryd.underlying103
  a51 := Tryd.isAgg103
  z51 := Tryd.sizeOf103
  v51 := Tryd.zeroValue103
  t53 := Tryd.underlying97
  a53 := Tryd.isAgg97
  z53 := Tryd.sizeOf97
  v53 := Tryd.zeroValue97
  t171 := Tryd.underlying96
  a171 := Tryd.isAgg96
  z171 := Tryd.sizeOf96
  v171 := Tryd.zeroValue96
  t173 := Tryd.underlying100
  a173 := Tryd.isAgg100
  z173 := Tryd.sizeOf100
  v173 := Tryd.zeroValue100
  t212 := Tryd.underlying107
  a212 := Tryd.isAgg107
  z212 := Tryd.sizeOf107
  v212 := Tryd.zeroValue107
  t213 := Tryd.underlying108
  a213 := Tryd.isAgg108
  z213 := Tryd.sizeOf108
  t232 := Tryd.underlying115
  a232 := Tryd.isAgg115
  z232 := Tryd.sizeOf115
  v232 := Tryd.zeroValue115
  t233 := Tryd.underlying116
  a233 := Tryd.isAgg116
  z233 := Tryd.sizeOf116
  v233 := Tryd.zeroValue116
  g17 := by kernel_rfl
  g18 := by kernel_rfl
  g19 := by kernel_rfl

def Tryd.laysString_ren : Go.Shelf.Ren := ⟨fun | 169 => 24 | n => n, fun | 70 => 45 | 9 => 9 | 0 => 0 | 72 => 48 | 37 => 46 | 127 => 73 | 3 => 3 | 5 => 5 | n => n, fun | n => n⟩
theorem Tryd.laysString : Go.Proofs.Lays.n169 Tryd.prog Tryd.laysString_ren where
  mixed := by kernel_rfl
  f169 := Tryd.func24.trans (congrArg some (by kernel_rfl))
  t0 := Tryd.underlying0
  a0 := Tryd.isAgg0
  z0 := Tryd.sizeOf0
  v0 := Tryd.zeroValue0
  t3 := Tryd.underlying3
  a3 := Tryd.isAgg3
  z3 := Tryd.sizeOf3
  v3 := Tryd.zeroValue3
  t9 := Tryd.underlying9
  a9 := Tryd.isAgg9
  z9 := Tryd.sizeOf9
  v9 := Tryd.zeroValue9
  t37 := Tryd.underlying46
  a37 := Tryd.isAgg46
  z37 := Tryd.sizeOf46
  v37 := Tryd.zeroValue46
  t70 := Tryd.underlying45
  a70 := Tryd.isAgg45
  z70 := Tryd.sizeOf45
  v70 := Tryd.zeroValue45
  t72 := Tryd.underlying48
  a72 := Tryd.isAgg48
  z72 := Tryd.sizeOf48
  v72 := Tryd.zeroValue48
  t127 := Tryd.underlying73
  a127 := Tryd.isAgg73
  z127 := Tryd.sizeOf73
  v127 := Tryd.zeroValue73

theorem Tryd.extra : Builder.Extra Tryd.prog Tryd.laysJoin_ren where
  sizeBuilder := by kernel_rfl
  liesBuilder := by kernel_rfl
  t5 := Tryd.underlying5
  a5 := Tryd.isAgg5
  z5 := Tryd.sizeOf5
  v5 := Tryd.zeroValue5
  infoByte := by kernel_rfl
  cellsByte := by kernel_rfl
  sizeByte := by kernel_rfl
  neB5 := by decide
theorem Tryd.extraS : Builder.Extra Tryd.prog Tryd.laysString_ren where
  sizeBuilder := by kernel_rfl
  liesBuilder := by kernel_rfl
  t5 := Tryd.underlying5
  a5 := Tryd.isAgg5
  z5 := Tryd.sizeOf5
  v5 := Tryd.zeroValue5
  infoByte := by kernel_rfl
  cellsByte := by kernel_rfl
  sizeByte := by kernel_rfl
  neB5 := by decide
end Go.Proofs
namespace Lift.D2
open Go Go.RowKit Go.Proofs Lift Lift.Fn

theorem cell_same {w w' : World} {n : Nat} (h : ∀ k, k < n → w'.heap[k]? = w.heap[k]?) {b o : Nat} (hb : b < n) : w'.cell? ⟨b, o, none⟩ = w.cell? ⟨b, o, none⟩ := by
  unfold World.cell?
  rw [h b hb]

def globs (_ : World) : Prop := True

@[reducible] def env0 : Env := ⟨globs, 0, fun _ _ _ _ _ _ _ => trivial⟩

theorem known0 : Known kk env0 (modesOf ms0) := known_nil

theorem strings_Join_post : ∀ ls j rs, (strings_Join_md.sum ls).val = some (j, rs) → FnPost kk env0 41 strings_Join_md.sh strings_Join_md.outs ls j rs := by
  intro ls j rs h
  simp only [strings_Join_md] at h
  split at h
  · obtain ⟨r, hr, h⟩ := Tr.get_val h
    rw [strings_Join, sealF_eq, strings_Join_f, cond_eq_ite, Option.ite_none_right_eq_some, decide_eq_true_eq] at hr
    obtain ⟨hc, hr⟩ := hr
    cases hr
    cases h
    exact join_post (K := kk) (ρ := Tryd.laysJoin_ren) Tryd.laysJoin Tryd.extra _ _ hc.1 hc.2
  · cases h
theorem known1 : Known kk env0 (modesOf ms1) := known_cons (by kernel_rfl) strings_Join_post known0

theorem strconv_Itoa_post : ∀ ls j rs, (strconv_Itoa_md.sum ls).val = some (j, rs) → FnPost kk env0 40 strconv_Itoa_md.sh strconv_Itoa_md.outs ls j rs := by
  intro ls j rs h
  simp only [strconv_Itoa_md] at h
  split at h
  · obtain ⟨r, hr, h⟩ := Tr.get_val h
    rw [strconv_Itoa, sealF_eq, strconv_Itoa_f, cond_eq_ite, Option.ite_none_right_eq_some, decide_eq_true_eq] at hr
    obtain ⟨hc, hr⟩ := hr
    cases hr
    cases h
    exact itoa_post (K := kk) (V := env0) (ρ := Tryd.laysItoa_ren) Tryd.laysItoa _ hc
  · cases h
theorem known2 : Known kk env0 (modesOf ms2) := known_cons (by kernel_rfl) strconv_Itoa_post known1

theorem strings_Builder_copyCheck_post : ∀ ls j rs, (strings_Builder_copyCheck_md.sum ls).val = some (j, rs) → FnPost kk env0 39 strings_Builder_copyCheck_md.sh strings_Builder_copyCheck_md.outs ls j rs := by
  intro ls j rs h
  simp only [strings_Builder_copyCheck_md] at h
  split at h
  · cases h
    exact copyCheck_post (K := kk) (V := env0) (ρ := Tryd.laysJoin_ren) ({ Tryd.laysJoin with }) Tryd.extra.toX72 5 _
  · cases h
theorem known3 : Known kk env0 (modesOf ms3) := known_cons (by kernel_rfl) strings_Builder_copyCheck_post known2

theorem strings_Builder_String_post : ∀ ls j rs, (strings_Builder_String_md.sum ls).val = some (j, rs) → FnPost kk env0 24 strings_Builder_String_md.sh strings_Builder_String_md.outs ls j rs := by
  intro ls j rs h
  simp only [strings_Builder_String_md] at h
  split at h
  · obtain ⟨r, hr, h⟩ := Tr.get_val h
    rw [strings_Builder_String, sealF_eq, strings_Builder_String_f, cond_eq_ite, Option.ite_none_right_eq_some, List.all_eq_true] at hr
    obtain ⟨hc, hr⟩ := hr
    cases hr
    cases h
    exact bstring_post (K := kk) (V := env0) (ρ := Tryd.laysString_ren) Tryd.laysString Tryd.extraS _ (fun n hn => by simpa using hc n hn)
  · cases h
theorem known4 : Known kk env0 (modesOf ms4) := known_cons (by kernel_rfl) strings_Builder_String_post known3

end Lift.D2

namespace Lift.D2.F
open Go Go.RowKit Go.Proofs Lift Lift.Fn

noncomputable def report_between_int_sh : StSh := ⟨⟨[0, 1, 2], [], []⟩, [.t (.int .i64), .t (.int .i64), .t (.int .i64)], []⟩

noncomputable def report_between_int_os : List StSh := [⟨⟨[0], [], []⟩, [.t .bool], []⟩]

noncomputable def report_between_int_L : Nat → Option (Lift.Loop U) := fun n => none

noncomputable def report_between_int_enc : Nat → List (TV U) → Option (Bool)
  | 0, [⟨.bool, a0⟩] => some a0
  | _, _ => none

noncomputable def report_between_int_dec : Bool → Nat × List (TV U) := fun x => (0, [⟨.bool, x⟩])

noncomputable def report_between_int_tr : Bool → Tr (Nat × List (TV U)) := fun r => (fun x => .ret (0, [⟨.bool, x⟩])) r

noncomputable def report_between_int_md : Mode U := ⟨report_between_int_sh, [], report_between_int_os, fun ls => match ls with | [⟨(.int .i64), a0⟩, ⟨(.int .i64), a1⟩, ⟨(.int .i64), a2⟩] => .get (report_between_int a0 a1 a2) report_between_int_tr | _ => .fail⟩

theorem report_between_int_E (a0 : Int) (a1 : Int) (a2 : Int) : (Kit.withModes kk (modesOf ms0)).fnEval report_between_int_L Tryd.f38 report_between_int_sh report_between_int_os [⟨(.int .i64), a0⟩, ⟨(.int .i64), a1⟩, ⟨(.int .i64), a2⟩] report_between_int_enc = report_between_int_f a0 a1 a2 := by kernel_rfl

theorem report_between_int_post : ∀ ls j rs, (report_between_int_md.sum ls).val = some (j, rs) → FnPost kk env0 38 report_between_int_sh report_between_int_os ls j rs := by
  have inner : LoopsOk (Kit.withModes kk (modesOf ms0)) env0 Tryd.f38.ntmps report_between_int_L (bodyOf Tryd.f38) := by
    exact loopsOk_of (bs := []) (by kernel_rfl) trivial
  intro ls j rs h
  simp only [report_between_int_md] at h
  split at h
  · obtain ⟨r, hr, h⟩ := Tr.get_val h
    rw [report_between_int, sealF_eq] at hr
    have hd : report_between_int_dec r = (j, rs) := by
      exact Option.some.inj h
    refine FnPost.modes.1 (fn_sound (kitOk_of eqOk mixed known0) (by kernel_rfl) inner ((report_between_int_E _ _ _).trans hr) ?_)
    intro i qs he
    unfold report_between_int_enc at he
    split at he <;> cases he <;> (cases hd; exact ⟨rfl, rfl⟩)
  · cases h

noncomputable def ms1 : List (FuncId × Mode U) := (38, report_between_int_md) :: ms0

theorem known1 : Known kk env0 (modesOf ms1) := known_cons (by kernel_rfl) report_between_int_post known0

noncomputable def report_digit_sh : StSh := ⟨⟨[0], [], []⟩, [.t .str], []⟩

noncomputable def report_digit_os : List StSh := [⟨⟨[0], [], []⟩, [.t (.int .i64)], []⟩]

noncomputable def report_digit_L : Nat → Option (Lift.Loop U) := fun n => none

noncomputable def report_digit_enc : Nat → List (TV U) → Option (Int)
  | 0, [⟨(.int .i64), a0⟩] => some a0
  | _, _ => none

noncomputable def report_digit_dec : Int → Nat × List (TV U) := fun x => (0, [⟨(.int .i64), x⟩])

noncomputable def report_digit_tr : Int → Tr (Nat × List (TV U)) := fun r => (fun x => .ret (0, [⟨(.int .i64), x⟩])) r

noncomputable def report_digit_md : Mode U := ⟨report_digit_sh, [], report_digit_os, fun ls => match ls with | [⟨.str, a0⟩] => .get (report_digit a0) report_digit_tr | _ => .fail⟩

theorem report_digit_E (a0 : List UInt8) : (Kit.withModes kk (modesOf ms1)).fnEval report_digit_L Tryd.f48 report_digit_sh report_digit_os [⟨.str, a0⟩] report_digit_enc = report_digit_f a0 := by kernel_rfl

theorem report_digit_post : ∀ ls j rs, (report_digit_md.sum ls).val = some (j, rs) → FnPost kk env0 48 report_digit_sh report_digit_os ls j rs := by
  have inner : LoopsOk (Kit.withModes kk (modesOf ms1)) env0 Tryd.f48.ntmps report_digit_L (bodyOf Tryd.f48) := by
    exact loopsOk_of (bs := []) (by kernel_rfl) trivial
  intro ls j rs h
  simp only [report_digit_md] at h
  split at h
  · obtain ⟨r, hr, h⟩ := Tr.get_val h
    rw [report_digit, sealF_eq] at hr
    have hd : report_digit_dec r = (j, rs) := by
      exact Option.some.inj h
    refine FnPost.modes.1 (fn_sound (kitOk_of eqOk mixed known1) (by kernel_rfl) inner ((report_digit_E _).trans hr) ?_)
    intro i qs he
    unfold report_digit_enc at he
    split at he <;> cases he <;> (cases hd; exact ⟨rfl, rfl⟩)
  · cases h

noncomputable def ms2 : List (FuncId × Mode U) := (48, report_digit_md) :: ms1

theorem known2 : Known kk env0 (modesOf ms2) := known_cons (by kernel_rfl) report_digit_post known1

end Lift.D2.F

