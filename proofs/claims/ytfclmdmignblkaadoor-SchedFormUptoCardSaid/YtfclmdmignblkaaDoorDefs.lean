/-
  DERIVED. The functions of this seat as Lean has them; the library's modes. Conditions: none.
-/
import Derived.Test.YtfclmdmignblkaaDoorLiftC
import Derived.Test.YtfclmdmignblkaaDoorProg
import Derived.KernelRfl
set_option linter.unusedVariables false
set_option linter.unusedSimpArgs false
set_option linter.unusedSectionVars false
namespace Lift.E2
open Go Go.RowKit Go.Proofs Lift

@[reducible] noncomputable def U (n : Nat) : Type := match n with
  | 34 => Fault
  | 47 => Run
  | 53 => Run
  | 67 => Rdr
  | _ => Empty

noncomputable def cells (n : Nat) : U n → List (TV U) := match n with
  | 34 => fun (x : Fault) => [⟨.int .i64, x.code⟩, ⟨.int .i64, x.at_⟩, ⟨.str, x.name⟩]
  | 47 => fun (x : Run) => [⟨.int .i64, x.n⟩, ⟨.int .i64, x.times⟩]
  | 53 => fun (x : Run) => [⟨.int .i64, x.n⟩, ⟨.int .i64, x.times⟩]
  | 67 => fun (x : Rdr) => [⟨.slc (.int .u8), x.b⟩, ⟨.int .i64, x.at_⟩, ⟨.bool, x.bad⟩]
  | _ => fun _ => []

noncomputable def ctys (n : Nat) : List Ty := match n with
  | 34 => [.int .i64, .int .i64, .str]
  | 47 => [.int .i64, .int .i64]
  | 53 => [.int .i64, .int .i64]
  | 67 => [.slc (.int .u8), .int .i64, .bool]
  | _ => []

noncomputable def make (n : Nat) : List (TV U) → Option (U n) := match n with
  | 34 => fun | [⟨.int .i64, v0⟩, ⟨.int .i64, v1⟩, ⟨.str, v2⟩] => some (Fault.mk v0 v1 v2) | _ => none
  | 47 => fun | [⟨.int .i64, v0⟩, ⟨.int .i64, v1⟩] => some (Run.mk v0 v1) | _ => none
  | 53 => fun | [⟨.int .i64, v0⟩, ⟨.int .i64, v1⟩] => some (Run.mk v0 v1) | _ => none
  | 67 => fun | [⟨.slc (.int .u8), v0⟩, ⟨.int .i64, v1⟩, ⟨.bool, v2⟩] => some (Rdr.mk v0 v1 v2) | _ => none
  | _ => fun _ => none

@[reducible] noncomputable def uni : Uni where
  U := U
  cells := cells
  ctys := ctys
  make := make
  make_ok := by
    intro n cs x h
    unfold make at h
    split at h
    · dsimp only at h
      split at h
      · cases h; rfl
      · cases h
    · dsimp only at h
      split at h
      · cases h; rfl
      · cases h
    · dsimp only at h
      split at h
      · cases h; rfl
      · cases h
    · dsimp only at h
      split at h
      · cases h; rfl
      · cases h
    · cases h
  tys_ok := by
    intro n x
    unfold cells ctys
    split <;> rfl
  flat_ok := by
    intro n t h
    have : ∀ n, (ctys n).all Ty.flat = true := by
      intro n
      unfold ctys
      split <;> rfl
    exact List.all_eq_true.1 (this n) t h

noncomputable def tyOf : TypeId → Option Ty
  | 1 => some (.fn)
  | 2 => some (.int .i64)
  | 3 => some (.int .i64)
  | 4 => some (.bool)
  | 5 => some (.int .u8)
  | 6 => some (.int .u8)
  | 9 => some (.str)
  | 10 => some (.str)
  | 11 => some (.str)
  | 12 => some (.int .u64)
  | 21 => some (.int .i32)
  | 22 => some (.slc (.int .i64))
  | 23 => some (.fn)
  | 24 => some (.fn)
  | 25 => some (.int .i64)
  | 27 => some (.fn)
  | 28 => some (.fn)
  | 29 => some (.fn)
  | 30 => some (.slc (.int .u8))
  | 32 => some (.fn)
  | 34 => some (.st 34)
  | 36 => some (.fn)
  | 37 => some (.fn)
  | 39 => some (.fn)
  | 40 => some (.fn)
  | 41 => some (.fn)
  | 42 => some (.fn)
  | 43 => some (.slc (.st 47))
  | 44 => some (.fn)
  | 45 => some (.fn)
  | 47 => some (.st 47)
  | 48 => some (.slc (.st 53))
  | 50 => some (.fn)
  | 51 => some (.slc (.str))
  | 53 => some (.st 53)
  | 54 => some (.fn)
  | 55 => some (.fn)
  | 56 => some (.fn)
  | 58 => some (.fn)
  | 59 => some (.fn)
  | 60 => some (.fn)
  | 61 => some (.fn)
  | 63 => some (.fn)
  | 64 => some (.fn)
  | 67 => some (.st 67)
  | 68 => some (.fn)
  | 70 => some (.fn)
  | 71 => some (.int .u64)
  | 75 => some (.fn)
  | 77 => some (.err)
  | 79 => some (.fn)
  | 80 => some (.fn)
  | 81 => some (.int .u64)
  | 83 => some (.fn)
  | 84 => some (.fn)
  | 86 => some (.fn)
  | 88 => some (.fn)
  | 89 => some (.fn)
  | 91 => some (.fn)
  | 93 => some (.fn)
  | 94 => some (.fn)
  | 95 => some (.int .u32)
  | 97 => some (.fn)
  | 99 => some (.fn)
  | 101 => some (.fn)
  | 102 => some (.fn)
  | 104 => some (.fn)
  | 106 => some (.fn)
  | 107 => some (.fn)
  | 108 => some (.fn)
  | 109 => some (.fn)
  | 112 => some (.fn)
  | 113 => some (.fn)
  | 118 => some (.fn)
  | 119 => some (.int .i64)
  | 121 => some (.fn)
  | 123 => some (.fn)
  | 124 => some (.fn)
  | 125 => some (.fn)
  | 126 => some (.fn)
  | 128 => some (.fn)
  | 129 => some (.fn)
  | 132 => some (.fn)
  | 135 => some (.fn)
  | 144 => some (.fn)
  | 145 => some (.int .u8)
  | 146 => some (.int .u8)
  | 147 => some (.fn)
  | 148 => some (.int .i32)
  | 149 => some (.int .i32)
  | _ => none

noncomputable def eqOf (T : TypeId) (n : Nat) : Option (U n → U n → Bool) := match n with
  | 34 => bif Nat.beq T 34 then some fun (a b : Fault) => decide (a = b) else none
  | 47 => bif Nat.beq T 47 then some fun (a b : Run) => decide (a = b) else none
  | 53 => bif Nat.beq T 53 then some fun (a b : Run) => decide (a = b) else none
  | _ => none

@[reducible] noncomputable def kk : Kit := { P := Tryd.prog, u := uni, tyOf, eqOf, modes := fun _ => [] }

theorem eqOk : EqOk kk := by
  refine eqOk_flat fun T n f h => ?_
  change eqOf T n = some f at h
  change flatStruct Tryd.prog T (ctys n) = true ∧ ∀ a b : U n, f a b = cellsEq (cells n a) (cells n b)
  unfold eqOf at h
  split at h
  · cases hb : Nat.beq T 34 with
    | true =>
      rw [hb] at h
      cases Nat.eq_of_beq_eq_true hb
      cases h
      refine ⟨by kernel_rfl, ?_⟩
      rintro ⟨a0, a1, a2⟩ ⟨b0, b1, b2⟩
      simp [cells, cellsEq, scalarEq, cond_eq_ite, Bool.decide_and]
    | false => rw [hb] at h; cases h
  · cases hb : Nat.beq T 47 with
    | true =>
      rw [hb] at h
      cases Nat.eq_of_beq_eq_true hb
      cases h
      refine ⟨by kernel_rfl, ?_⟩
      rintro ⟨a0, a1⟩ ⟨b0, b1⟩
      simp [cells, cellsEq, scalarEq, cond_eq_ite, Bool.decide_and]
    | false => rw [hb] at h; cases h
  · cases hb : Nat.beq T 53 with
    | true =>
      rw [hb] at h
      cases Nat.eq_of_beq_eq_true hb
      cases h
      refine ⟨by kernel_rfl, ?_⟩
      rintro ⟨a0, a1⟩ ⟨b0, b1⟩
      simp [cells, cellsEq, scalarEq, cond_eq_ite, Bool.decide_and]
    | false => rw [hb] at h; cases h
  · cases h

theorem mixed : kk.P.follows .mixedOrders = true := by kernel_rfl
end Lift.E2

/- slices.Repeat of one number, as a Lean function. -/
namespace Lift.Fn
open Go Lift

noncomputable def slices_Repeat_int_int_f (x : List Int) (k : Int) : Option (List Int) := match x with
  | [v] => bif decide (0 ≤ k ∧ k ≤ 1000000) then some (List.replicate k.toNat v) else none
  | _ => none
noncomputable def slices_Repeat_int_int : List Int → Int → Option (List Int) := sealF slices_Repeat_int_int_f
end Lift.Fn

/- The library's modes. -/
namespace Lift.E2
open Go Go.RowKit Go.Proofs Lift Lift.Fn

noncomputable def strings_Join_md : Mode U := ⟨⟨⟨[0, 1], [], []⟩, [.t (.slc .str), .t (.str)], []⟩, [], [⟨⟨[0], [], []⟩, [.t (.str)], []⟩], fun ls => match ls with | [⟨.slc .str, a0⟩, ⟨.str, a1⟩] => .get (strings_Join a0 a1) (fun r => .ret (0, [⟨.str, r⟩])) | _ => .fail⟩
noncomputable def strconv_ItoaW_md : Mode U := ⟨⟨⟨[0], [], []⟩, [.t (.int .i64)], []⟩, [], [⟨⟨[0], [], []⟩, [.t (.str)], []⟩], fun ls => match ls with | [⟨.int .i64, a0⟩] => .get (strconv_ItoaW a0) (fun r => .ret (0, [⟨.str, r⟩])) | _ => .fail⟩
noncomputable def strings_Cut_md : Mode U := ⟨⟨⟨[0, 1], [], []⟩, [.t (.str), .t (.str)], []⟩, [], [⟨⟨[0, 1, 2], [], []⟩, [.t (.str), .t (.str), .t (.bool)], []⟩], fun ls => match ls with | [⟨.str, a0⟩, ⟨.str, a1⟩] => .get (strings_Cut a0 a1) (fun r => .ret (0, [⟨.str, r.1⟩, ⟨.str, r.2.1⟩, ⟨.bool, r.2.2⟩])) | _ => .fail⟩
noncomputable def strconv_Atoi_md : Mode U := ⟨⟨⟨[0], [], []⟩, [.t (.str)], []⟩, [], [⟨⟨[0, 1], [], []⟩, [.t (.int .i64), .t (.err)], []⟩], fun ls => match ls with | [⟨.str, a0⟩] => .get (strconv_Atoi a0) (fun r => .ret (0, [⟨.int .i64, r.1⟩, ⟨.err, r.2⟩])) | _ => .fail⟩

noncomputable def ms0 : List (FuncId × Mode U) := []
noncomputable def ms1 : List (FuncId × Mode U) := (26, strings_Join_md) :: ms0
noncomputable def ms2 : List (FuncId × Mode U) := (25, strconv_ItoaW_md) :: ms1
noncomputable def ms3 : List (FuncId × Mode U) := (44, strings_Cut_md) :: ms2
noncomputable def ms4 : List (FuncId × Mode U) := (55, strconv_Atoi_md) :: ms3
noncomputable def slices_Repeat_int_int_md : Mode U := ⟨⟨⟨[0, 1], [], []⟩, [.t (.slc (.int .i64)), .t (.int .i64)], []⟩, [], [⟨⟨[0], [], []⟩, [.t (.slc (.int .i64))], []⟩], fun ls => match ls with | [⟨.slc (.int .i64), a0⟩, ⟨.int .i64, a1⟩] => .get (slices_Repeat_int_int a0 a1) (fun r => .ret (0, [⟨.slc (.int .i64), r⟩])) | _ => .fail⟩
noncomputable def ms5 : List (FuncId × Mode U) := (33, slices_Repeat_int_int_md) :: ms4
end Lift.E2

namespace Lift.Fn
open Go Lift

noncomputable def sched_number_f (a0 : List UInt8) (a1 : Int) : Option (Int × Bool) :=
    Option.bind (strconv_Atoi a0) fun y0 =>
    bif !Prod.snd y0 then
      bif decide (Prod.fst y0 ≥ (0 : Int)) then
        bif decide (Prod.fst y0 ≤ a1) then
          Option.bind (strconv_ItoaW (Prod.fst y0)) fun y1 =>
          some ((Prod.fst y0), (y1 == a0))
        else
          some ((Prod.fst y0), (false))
      else
        some ((Prod.fst y0), (false))
    else
      some ((Prod.fst y0), (false))

noncomputable def sched_number : List UInt8 → Int → Option (Int × Bool) := sealF sched_number_f

noncomputable def sched_field_f (a0 : List UInt8) : Option (Run × Bool) :=
    Option.bind (strings_Cut a0 [(42 : UInt8)]) fun y0 =>
    Option.bind (sched_number (Prod.fst y0) (2147483647 : Int)) fun y1 =>
    bif !Prod.snd (Prod.snd y0) then
      some ((Run.mk (Prod.fst y1) (1 : Int)), (Prod.snd y1))
    else
      Option.bind (sched_number (Prod.fst (Prod.snd y0)) (1000 : Int)) fun y2 =>
      bif Prod.snd y1 then
        bif Prod.snd y2 then
          some ((Run.mk (Prod.fst y1) (Prod.fst y2)), (decide (Prod.fst y2 > (1 : Int))))
        else
          some ((Run.mk (Prod.fst y1) (Prod.fst y2)), (false))
      else
        some ((Run.mk (Prod.fst y1) (Prod.fst y2)), (false))

noncomputable def sched_field : List UInt8 → Option (Run × Bool) := sealF sched_field_f

noncomputable def sched_take_t3 (rec : List (Int) → Int → List (Int) → Int → Int → Option ((Unit) ⊕ (Int × (List (Int)) × Bool))) (a0 : List (Int)) (a1 : Int) (a2 : List (Int)) (a3 : Int) (a4 : Int) : Option ((Unit) ⊕ (Int × (List (Int)) × Bool)) :=
    bif decide (a4 < a3) then
      bif decide ((0 : Int) ≤ a4) then
        Option.bind (a2[Int.toNat a4]?) fun y0 =>
        bif decide (a4 > (4 : Int)) then
          some (.inl ())
        else
          bif decide (IntKind.wrap IntKind.i64 ((7 : Int) * a4) < (0 : Int)) then
            none
          else
            bif decide (y0 < (128 : Int)) then
              bif decide ((0 : Int) ≤ IntKind.wrap IntKind.i64 (a4 + (1 : Int))) && (decide (IntKind.wrap IntKind.i64 (a4 + (1 : Int)) ≤ (↑(List.length a0) : Int)) && decide ((↑(List.length a0) : Int) ≤ (↑(List.length a0) : Int))) then
                bif a4 == (0 : Int) then
                  some (.inr ((IntKind.wrap IntKind.i64 (↑(BitVec.toNat (BitVec.ofInt (64 : Nat) a1 ||| BitVec.ofInt (64 : Nat) (IntKind.wrap IntKind.i64 (IntKind.wrap IntKind.i64 (IntKind.wrap IntKind.u8 (↑(BitVec.toNat (BitVec.ofInt (8 : Nat) y0 &&& BitVec.ofInt (8 : Nat) (127 : Int))) : Int)) * (2 : Int) ^ min (Int.toNat (IntKind.wrap IntKind.i64 ((7 : Int) * a4))) (64 : Nat))))) : Int)), (List.drop (Int.toNat (IntKind.wrap IntKind.i64 (a4 + (1 : Int)))) (List.take (Int.toNat (↑(List.length a0) : Int)) a0)), (true)))
                else
                  some (.inr ((IntKind.wrap IntKind.i64 (↑(BitVec.toNat (BitVec.ofInt (64 : Nat) a1 ||| BitVec.ofInt (64 : Nat) (IntKind.wrap IntKind.i64 (IntKind.wrap IntKind.i64 (IntKind.wrap IntKind.u8 (↑(BitVec.toNat (BitVec.ofInt (8 : Nat) y0 &&& BitVec.ofInt (8 : Nat) (127 : Int))) : Int)) * (2 : Int) ^ min (Int.toNat (IntKind.wrap IntKind.i64 ((7 : Int) * a4))) (64 : Nat))))) : Int)), (List.drop (Int.toNat (IntKind.wrap IntKind.i64 (a4 + (1 : Int)))) (List.take (Int.toNat (↑(List.length a0) : Int)) a0)), (decide (y0 > (0 : Int)))))
              else
                none
            else
              rec (a0) (IntKind.wrap IntKind.i64 (↑(BitVec.toNat (BitVec.ofInt (64 : Nat) a1 ||| BitVec.ofInt (64 : Nat) (IntKind.wrap IntKind.i64 (IntKind.wrap IntKind.i64 (IntKind.wrap IntKind.u8 (↑(BitVec.toNat (BitVec.ofInt (8 : Nat) y0 &&& BitVec.ofInt (8 : Nat) (127 : Int))) : Int)) * (2 : Int) ^ min (Int.toNat (IntKind.wrap IntKind.i64 ((7 : Int) * a4))) (64 : Nat))))) : Int)) (a2) (a3) (IntKind.wrap IntKind.i64 (a4 + (1 : Int)))
      else
        none
    else
      some (.inl ())

noncomputable def sched_take_i3 : Nat → List (Int) → Int → List (Int) → Int → Int → Option ((Unit) ⊕ (Int × (List (Int)) × Bool))
  | 0, _, _, _, _, _ => none
  | n + 1, a0, a1, a2, a3, a4 => sched_take_t3 (sched_take_i3 n) a0 a1 a2 a3 a4

noncomputable def sched_take_l3 : List (Int) → Int → List (Int) → Int → Int → Option ((Unit) ⊕ (Int × (List (Int)) × Bool)) := sealF (sched_take_i3 fuel)

noncomputable def sched_take_f (a0 : List (Int)) : Option (Int × (List (Int)) × Bool) :=
    Option.bind (sched_take_l3 a0 (0 : Int) a0 (↑(List.length a0) : Int) (0 : Int)) fun y0 =>
    match y0 with
    | .inl y1 =>
      some (((0 : Int)), ([]), (false))
    | .inr y1 =>
      some ((Prod.fst y1), (Prod.fst (Prod.snd y1)), (Prod.snd (Prod.snd y1)))

noncomputable def sched_take : List (Int) → Option (Int × (List (Int)) × Bool) := sealF sched_take_f

noncomputable def slices_Clip_int_int_f (a0 : List (Int)) : Option ((List (Int))) :=
    bif decide ((↑(List.length a0) : Int) = (↑(List.length a0) : Int)) && decide ((↑(List.length a0) : Int) = (↑(List.length a0) : Int)) then
      some (a0)
    else
      none

noncomputable def slices_Clip_int_int : List (Int) → Option ((List (Int))) := sealF slices_Clip_int_int_f

noncomputable def sched_Load_t4 (rec : List (Int) → Bool → Int → Int → List (Int) → Option ((List (Int)) × Bool × (List (Int)))) (a0 : List (Int)) (a1 : Bool) (a2 : Int) (a3 : Int) (a4 : List (Int)) : Option ((List (Int)) × Bool × (List (Int))) :=
    bif decide (a3 < a2) then
      bif !a1 then
        some ((a0), (a1), (a4))
      else
        Option.bind (sched_take a0) fun y0 =>
        Option.bind (sched_take (Prod.fst (Prod.snd y0))) fun y1 =>
        bif Prod.snd (Prod.snd y0) then
          bif Prod.snd (Prod.snd y1) then
            bif decide (Prod.fst y0 ≤ (2147483647 : Int)) then
              bif decide (Prod.fst y1 ≥ (1 : Int)) then
                bif decide (Prod.fst y1 ≤ IntKind.wrap IntKind.i64 ((1000 : Int) - (↑(List.length a4) : Int))) then
                  bif (↑(List.length a4) : Int) == (0 : Int) then
                    Option.bind (slices_Repeat_int_int [Prod.fst y0] (Prod.fst y1)) fun y2 =>
                    bif decide ((List.length a4 + List.length y2) * (8 : Nat) ≤ (140737488355328 : Nat) ∧ List.length a4 + List.length y2 ≤ (9223372036854775807 : Nat)) then
                      rec (Prod.fst (Prod.snd y1)) (true) (a2) (IntKind.wrap IntKind.i64 (a3 + (1 : Int))) (a4 ++ y2)
                    else
                      none
                  else
                    bif decide ((0 : Int) ≤ IntKind.wrap IntKind.i64 ((↑(List.length a4) : Int) - (1 : Int))) && decide (IntKind.wrap IntKind.i64 ((↑(List.length a4) : Int) - (1 : Int)) < (↑(List.length a4) : Int)) then
                      Option.bind (a4[Int.toNat (IntKind.wrap IntKind.i64 ((↑(List.length a4) : Int) - (1 : Int)))]?) fun y3 =>
                      bif y3 != Prod.fst y0 then
                        Option.bind (slices_Repeat_int_int [Prod.fst y0] (Prod.fst y1)) fun y4 =>
                        bif decide ((List.length a4 + List.length y4) * (8 : Nat) ≤ (140737488355328 : Nat) ∧ List.length a4 + List.length y4 ≤ (9223372036854775807 : Nat)) then
                          rec (Prod.fst (Prod.snd y1)) (y3 != Prod.fst y0) (a2) (IntKind.wrap IntKind.i64 (a3 + (1 : Int))) (a4 ++ y4)
                        else
                          none
                      else
                        rec (Prod.fst (Prod.snd y1)) (y3 != Prod.fst y0) (a2) (IntKind.wrap IntKind.i64 (a3 + (1 : Int))) (a4)
                    else
                      none
                else
                  rec (Prod.fst (Prod.snd y1)) (false) (a2) (IntKind.wrap IntKind.i64 (a3 + (1 : Int))) (a4)
              else
                rec (Prod.fst (Prod.snd y1)) (false) (a2) (IntKind.wrap IntKind.i64 (a3 + (1 : Int))) (a4)
            else
              rec (Prod.fst (Prod.snd y1)) (false) (a2) (IntKind.wrap IntKind.i64 (a3 + (1 : Int))) (a4)
          else
            rec (Prod.fst (Prod.snd y1)) (false) (a2) (IntKind.wrap IntKind.i64 (a3 + (1 : Int))) (a4)
        else
          rec (Prod.fst (Prod.snd y1)) (false) (a2) (IntKind.wrap IntKind.i64 (a3 + (1 : Int))) (a4)
    else
      some ((a0), (a1), (a4))

noncomputable def sched_Load_i4 : Nat → List (Int) → Bool → Int → Int → List (Int) → Option ((List (Int)) × Bool × (List (Int)))
  | 0, _, _, _, _, _ => none
  | n + 1, a0, a1, a2, a3, a4 => sched_Load_t4 (sched_Load_i4 n) a0 a1 a2 a3 a4

noncomputable def sched_Load_l4 : List (Int) → Bool → Int → Int → List (Int) → Option ((List (Int)) × Bool × (List (Int))) := sealF (sched_Load_i4 fuel)

noncomputable def sched_Load_f (a0 : List (Int)) : Option (Int × (List (Int))) :=
    Option.bind (sched_take a0) fun y0 =>
    Option.bind (sched_Load_l4 (Prod.fst (Prod.snd y0)) (Prod.snd (Prod.snd y0)) (Prod.fst y0) (0 : Int) []) fun y1 =>
    bif !Prod.fst (Prod.snd y1) then
      some (((220 : Int)), ([]))
    else
      bif decide ((↑(List.length (Prod.fst y1)) : Int) > (0 : Int)) then
        some (((220 : Int)), ([]))
      else
        Option.bind (slices_Clip_int_int (Prod.snd (Prod.snd y1))) fun y2 =>
        some (((0 : Int)), (y2))

noncomputable def sched_Load : List (Int) → Option (Int × (List (Int))) := sealF sched_Load_f

noncomputable def sched_runs_t5 (rec : List (Int) → Int → Int → List (Run) → Option ((Int) ⊕ ((List (Run))))) (a0 : List (Int)) (a1 : Int) (a2 : Int) (a3 : List (Run)) : Option ((Int) ⊕ ((List (Run)))) :=
    bif decide (a2 < a1) then
      bif decide ((0 : Int) ≤ a2) then
        Option.bind (a0[Int.toNat a2]?) fun y0 =>
        bif decide (y0 < (0 : Int)) then
          some (.inl ((1 : Int)))
        else
          bif decide (y0 > (2147483647 : Int)) then
            some (.inl ((1 : Int)))
          else
            bif decide (IntKind.wrap IntKind.i64 ((↑(List.length a3) : Int) - (1 : Int)) ≥ (0 : Int)) then
              bif decide ((0 : Int) ≤ IntKind.wrap IntKind.i64 ((↑(List.length a3) : Int) - (1 : Int))) && decide (IntKind.wrap IntKind.i64 ((↑(List.length a3) : Int) - (1 : Int)) < (↑(List.length a3) : Int)) then
                Option.bind (a3[Int.toNat (IntKind.wrap IntKind.i64 ((↑(List.length a3) : Int) - (1 : Int)))]?) fun y1 =>
                bif Run.n y1 == y0 then
                  bif decide ((0 : Int) ≤ IntKind.wrap IntKind.i64 ((↑(List.length a3) : Int) - (1 : Int))) && decide (IntKind.wrap IntKind.i64 ((↑(List.length a3) : Int) - (1 : Int)) < (↑(List.length a3) : Int)) then
                    Option.bind (a3[Int.toNat (IntKind.wrap IntKind.i64 ((↑(List.length a3) : Int) - (1 : Int)))]?) fun y2 =>
                    bif decide ((0 : Int) ≤ IntKind.wrap IntKind.i64 ((↑(List.length a3) : Int) - (1 : Int))) && decide (IntKind.wrap IntKind.i64 ((↑(List.length a3) : Int) - (1 : Int)) < (↑(List.length a3) : Int)) then
                      Option.bind (a3[Int.toNat (IntKind.wrap IntKind.i64 ((↑(List.length a3) : Int) - (1 : Int)))]?) fun y3 =>
                      rec (a0) (a1) (IntKind.wrap IntKind.i64 (a2 + (1 : Int))) (List.set a3 (Int.toNat (IntKind.wrap IntKind.i64 ((↑(List.length a3) : Int) - (1 : Int)))) (Run.mk (Run.n y3) (IntKind.wrap IntKind.i64 (Run.times y2 + (1 : Int)))))
                    else
                      none
                  else
                    none
                else
                  bif decide ((List.length a3 + List.length [Run.mk y0 (1 : Int)]) * (16 : Nat) ≤ (140737488355328 : Nat) ∧ List.length a3 + List.length [Run.mk y0 (1 : Int)] ≤ (9223372036854775807 : Nat)) then
                    rec (a0) (a1) (IntKind.wrap IntKind.i64 (a2 + (1 : Int))) (a3 ++ [Run.mk y0 (1 : Int)])
                  else
                    none
              else
                none
            else
              bif decide ((List.length a3 + List.length [Run.mk y0 (1 : Int)]) * (16 : Nat) ≤ (140737488355328 : Nat) ∧ List.length a3 + List.length [Run.mk y0 (1 : Int)] ≤ (9223372036854775807 : Nat)) then
                rec (a0) (a1) (IntKind.wrap IntKind.i64 (a2 + (1 : Int))) (a3 ++ [Run.mk y0 (1 : Int)])
              else
                none
      else
        none
    else
      some (.inr (a3))

noncomputable def sched_runs_i5 : Nat → List (Int) → Int → Int → List (Run) → Option ((Int) ⊕ ((List (Run))))
  | 0, _, _, _, _ => none
  | n + 1, a0, a1, a2, a3 => sched_runs_t5 (sched_runs_i5 n) a0 a1 a2 a3

noncomputable def sched_runs_l5 : List (Int) → Int → Int → List (Run) → Option ((Int) ⊕ ((List (Run)))) := sealF (sched_runs_i5 fuel)

noncomputable def sched_runs_f (a0 : List (Int)) : Option (Int × (List (Run))) :=
    bif decide ((↑(List.length a0) : Int) > (1000 : Int)) then
      some (((221 : Int)), ([]))
    else
      Option.bind (sched_runs_l5 a0 (↑(List.length a0) : Int) (0 : Int) []) fun y0 =>
      match y0 with
      | .inl y1 =>
        some ((y1), ([]))
      | .inr y1 =>
        some (((0 : Int)), (y1))

noncomputable def sched_runs : List (Int) → Option (Int × (List (Run))) := sealF sched_runs_f

noncomputable def sched_put_t1 (rec : Int → List (Int) → Option (Int × (List (Int)))) (a0 : Int) (a1 : List (Int)) : Option (Int × (List (Int))) :=
    bif decide (a0 > (127 : Int)) then
      bif decide ((List.length a1 + List.length [IntKind.wrap IntKind.u8 (IntKind.wrap IntKind.i64 (↑(BitVec.toNat (BitVec.ofInt (64 : Nat) a0 ||| BitVec.ofInt (64 : Nat) (128 : Int))) : Int))]) * (1 : Nat) ≤ (140737488355328 : Nat) ∧ List.length a1 + List.length [IntKind.wrap IntKind.u8 (IntKind.wrap IntKind.i64 (↑(BitVec.toNat (BitVec.ofInt (64 : Nat) a0 ||| BitVec.ofInt (64 : Nat) (128 : Int))) : Int))] ≤ (9223372036854775807 : Nat)) then
        rec (Int.fdiv a0 ((2 : Int) ^ (7 : Nat))) (a1 ++ [IntKind.wrap IntKind.u8 (IntKind.wrap IntKind.i64 (↑(BitVec.toNat (BitVec.ofInt (64 : Nat) a0 ||| BitVec.ofInt (64 : Nat) (128 : Int))) : Int))])
      else
        none
    else
      some ((a0), (a1))

noncomputable def sched_put_i1 : Nat → Int → List (Int) → Option (Int × (List (Int)))
  | 0, _, _ => none
  | n + 1, a0, a1 => sched_put_t1 (sched_put_i1 n) a0 a1

noncomputable def sched_put_l1 : Int → List (Int) → Option (Int × (List (Int))) := sealF (sched_put_i1 fuel)

noncomputable def sched_put_f (a0 : Int) (a1 : List (Int)) : Option ((List (Int))) :=
    Option.bind (sched_put_l1 a0 a1) fun y0 =>
    bif decide ((List.length (Prod.snd y0) + List.length [IntKind.wrap IntKind.u8 (Prod.fst y0)]) * (1 : Nat) ≤ (140737488355328 : Nat) ∧ List.length (Prod.snd y0) + List.length [IntKind.wrap IntKind.u8 (Prod.fst y0)] ≤ (9223372036854775807 : Nat)) then
      some (Prod.snd y0 ++ [IntKind.wrap IntKind.u8 (Prod.fst y0)])
    else
      none

noncomputable def sched_put : Int → List (Int) → Option ((List (Int))) := sealF sched_put_f

noncomputable def slices_Clip_byte_byte_f (a0 : List (Int)) : Option ((List (Int))) :=
    bif decide ((↑(List.length a0) : Int) = (↑(List.length a0) : Int)) && decide ((↑(List.length a0) : Int) = (↑(List.length a0) : Int)) then
      some (a0)
    else
      none

noncomputable def slices_Clip_byte_byte : List (Int) → Option ((List (Int))) := sealF slices_Clip_byte_byte_f

noncomputable def sched_Bytes_t6 (rec : Int → Int → List (Int) → List (Run) → Option ((List (Int)))) (a0 : Int) (a1 : Int) (a2 : List (Int)) (a3 : List (Run)) : Option ((List (Int))) :=
    bif decide (a1 < a0) then
      bif decide ((0 : Int) ≤ a1) && decide (a1 < (↑(List.length a3) : Int)) then
        Option.bind (a3[Int.toNat a1]?) fun y0 =>
        Option.bind (sched_put (Run.n y0) a2) fun y1 =>
        Option.bind (sched_put (Run.times y0) y1) fun y2 =>
        rec (a0) (IntKind.wrap IntKind.i64 (a1 + (1 : Int))) (y2) (a3)
      else
        none
    else
      some (a2)

noncomputable def sched_Bytes_i6 : Nat → Int → Int → List (Int) → List (Run) → Option ((List (Int)))
  | 0, _, _, _, _ => none
  | n + 1, a0, a1, a2, a3 => sched_Bytes_t6 (sched_Bytes_i6 n) a0 a1 a2 a3

noncomputable def sched_Bytes_l6 : Int → Int → List (Int) → List (Run) → Option ((List (Int))) := sealF (sched_Bytes_i6 fuel)

noncomputable def sched_Bytes_f (a0 : List (Int)) : Option (Int × (List (Int))) :=
    Option.bind (sched_runs a0) fun y0 =>
    bif Prod.fst y0 != (0 : Int) then
      some ((Prod.fst y0), ([]))
    else
      Option.bind (sched_put (↑(List.length (Prod.snd y0)) : Int) []) fun y1 =>
      Option.bind (sched_Bytes_l6 (↑(List.length (Prod.snd y0)) : Int) (0 : Int) y1 (Prod.snd y0)) fun y2 =>
      Option.bind (slices_Clip_byte_byte y2) fun y3 =>
      some (((0 : Int)), (y3))

noncomputable def sched_Bytes : List (Int) → Option (Int × (List (Int))) := sealF sched_Bytes_f

end Lift.Fn

/- sched.Read, as a Lean function. -/
namespace Lift.Fn
open Go Lift

/-- One round. -/
noncomputable def read_step (a0 : List UInt8) (a1 : Int) (a2 : List Int) : Option ((Int × List Int) ⊕ (Int × Int × List UInt8)) :=
    Option.bind (sched_field a0) fun y0 =>
    bif !Prod.snd y0 then
      some (.inr ((220 : Int), a1, []))
    else
      bif decide ((↑(List.length a2) : Int) > (0 : Int)) then
        bif decide ((0 : Int) ≤ IntKind.wrap IntKind.i64 ((↑(List.length a2) : Int) - (1 : Int))) && decide (IntKind.wrap IntKind.i64 ((↑(List.length a2) : Int) - (1 : Int)) < (↑(List.length a2) : Int)) then
          Option.bind (a2[Int.toNat (IntKind.wrap IntKind.i64 ((↑(List.length a2) : Int) - (1 : Int)))]?) fun y1 =>
          bif y1 == Run.n (Prod.fst y0) then
            some (.inr ((220 : Int), a1, []))
          else
            bif decide (IntKind.wrap IntKind.i64 ((↑(List.length a2) : Int) + Run.times (Prod.fst y0)) > (1000 : Int)) then
              some (.inr ((221 : Int), a1, []))
            else
              Option.bind (slices_Repeat_int_int [Run.n (Prod.fst y0)] (Run.times (Prod.fst y0))) fun y2 =>
              bif decide ((List.length a2 + List.length y2) * (8 : Nat) ≤ (140737488355328 : Nat) ∧ List.length a2 + List.length y2 ≤ (9223372036854775807 : Nat)) then
                some (.inl (IntKind.wrap IntKind.i64 (a1 + IntKind.wrap IntKind.i64 ((↑(List.length a0) : Int) + (1 : Int))), a2 ++ y2))
              else
                none
        else
          none
      else
        bif decide (IntKind.wrap IntKind.i64 ((↑(List.length a2) : Int) + Run.times (Prod.fst y0)) > (1000 : Int)) then
          some (.inr ((221 : Int), a1, []))
        else
          Option.bind (slices_Repeat_int_int [Run.n (Prod.fst y0)] (Run.times (Prod.fst y0))) fun y3 =>
          bif decide ((List.length a2 + List.length y3) * (8 : Nat) ≤ (140737488355328 : Nat) ∧ List.length a2 + List.length y3 ≤ (9223372036854775807 : Nat)) then
            some (.inl (IntKind.wrap IntKind.i64 (a1 + IntKind.wrap IntKind.i64 ((↑(List.length a0) : Int) + (1 : Int))), a2 ++ y3))
          else
            none

noncomputable def read_steps : List (List UInt8) → Int → List Int → Option ((Int × List Int) ⊕ (Int × Int × List UInt8))
  | [], a, l => some (.inl (a, l))
  | x :: xs, a, l => match read_step x a l with
    | none => none
    | some (.inl (a', l')) => read_steps xs a' l'
    | some (.inr r) => some (.inr r)

noncomputable def sched_Read_f (s : List UInt8) : Option (Fault × List Int) :=
  bif s == [] then some (Fault.mk 0 0 [], [])
  else bif decide (s.length ≤ 1000000000000) then
    match read_steps (pieces 32 s) 0 [] with
    | none => none
    | some (.inl (_, l)) => (slices_Clip_int_int l).bind fun y => some (Fault.mk 0 0 [], y)
    | some (.inr (c, a, n)) => some (Fault.mk c a n, [])
  else none

noncomputable def sched_Read : List UInt8 → Option (Fault × List Int) := sealF sched_Read_f

theorem steps_append : ∀ (p q : List (List UInt8)) (a : Int) (l : List Int), read_steps (p ++ q) a l = match read_steps p a l with
    | none => none
    | some (.inl (a', l')) => read_steps q a' l'
    | some (.inr r) => some (.inr r)
  | [], q, a, l => rfl
  | x :: p, q, a, l => by
    show (match read_step x a l with
      | none => none
      | some (.inl (a', l')) => read_steps (p ++ q) a' l'
      | some (.inr r) => some (.inr r)) = _
    have e : read_steps (x :: p) a l = match read_step x a l with
      | none => none
      | some (.inl (a', l')) => read_steps p a' l'
      | some (.inr r) => some (.inr r) := rfl
    rw [e]
    cases read_step x a l with
    | none => rfl
    | some y => cases y with
      | inl z => exact steps_append p q z.1 z.2
      | inr r => rfl
end Lift.Fn

/- The modes, Read's too. -/
namespace Lift.E3
open Go Go.RowKit Go.Proofs Lift Lift.Fn
open Lift.E2 (U kk uni cells ctys make tyOf eqOk mixed ms0 ms1 ms2 ms3 ms4 ms5 strings_Join_md strconv_ItoaW_md strings_Cut_md strconv_Atoi_md slices_Repeat_int_int_md)

noncomputable def sched_Read_md : Mode U := ⟨⟨⟨[0], [], []⟩, [.t .str], []⟩, [], [⟨⟨[0, 1], [], [⟨.slot 0, 100000, 3, .int .i64⟩]⟩, [.oslc 100000, .t (.st 34)], [.row 3 (.int .i64)]⟩], fun ls => match ls with | [⟨.str, a0⟩] => .get (sched_Read a0) (fun r => .ret (0, [⟨.st 34, r.1⟩, ⟨.slc (.int .i64), r.2⟩])) | _ => .fail⟩
noncomputable def ms6 : List (FuncId × Mode U) := (17, sched_Read_md) :: ms5
end Lift.E3

namespace Lift.Fn
open Go Lift

noncomputable def sched_Print_t6 (rec : Int → Int → List (Run) → List (List UInt8) → Option ((List (List UInt8)))) (a0 : Int) (a1 : Int) (a2 : List (Run)) (a3 : List (List UInt8)) : Option ((List (List UInt8))) :=
    bif decide (a1 < a0) then
      bif decide ((0 : Int) ≤ a1) && decide (a1 < (↑(List.length a2) : Int)) then
        Option.bind (a2[Int.toNat a1]?) fun y0 =>
        Option.bind (strconv_ItoaW (Run.n y0)) fun y1 =>
        bif decide (Run.times y0 > (1 : Int)) then
          Option.bind (strconv_ItoaW (Run.times y0)) fun y2 =>
          bif decide ((1 : Nat) + List.length y2 ≤ (9223372036854775807 : Nat)) then
            bif decide (List.length y1 + List.length ([(42 : UInt8)] ++ y2) ≤ (9223372036854775807 : Nat)) then
              bif decide ((List.length a3 + List.length [y1 ++ ([(42 : UInt8)] ++ y2)]) * (16 : Nat) ≤ (140737488355328 : Nat) ∧ List.length a3 + List.length [y1 ++ ([(42 : UInt8)] ++ y2)] ≤ (9223372036854775807 : Nat)) then
                rec (a0) (IntKind.wrap IntKind.i64 (a1 + (1 : Int))) (a2) (a3 ++ [y1 ++ ([(42 : UInt8)] ++ y2)])
              else
                none
            else
              none
          else
            none
        else
          bif decide ((List.length a3 + List.length [y1]) * (16 : Nat) ≤ (140737488355328 : Nat) ∧ List.length a3 + List.length [y1] ≤ (9223372036854775807 : Nat)) then
            rec (a0) (IntKind.wrap IntKind.i64 (a1 + (1 : Int))) (a2) (a3 ++ [y1])
          else
            none
      else
        none
    else
      some (a3)

noncomputable def sched_Print_i6 : Nat → Int → Int → List (Run) → List (List UInt8) → Option ((List (List UInt8)))
  | 0, _, _, _, _ => none
  | n + 1, a0, a1, a2, a3 => sched_Print_t6 (sched_Print_i6 n) a0 a1 a2 a3

noncomputable def sched_Print_l6 : Int → Int → List (Run) → List (List UInt8) → Option ((List (List UInt8))) := sealF (sched_Print_i6 fuel)

noncomputable def sched_Print_f (a0 : List (Int)) : Option ((List UInt8) × Int) :=
    Option.bind (sched_runs a0) fun y0 =>
    bif Prod.fst y0 != (0 : Int) then
      some (([]), (Prod.fst y0))
    else
      Option.bind (sched_Print_l6 (↑(List.length (Prod.snd y0)) : Int) (0 : Int) (Prod.snd y0) []) fun y1 =>
      Option.bind (strings_Join y1 [(32 : UInt8)]) fun y2 =>
      some ((y2), ((0 : Int)))

noncomputable def sched_Print : List (Int) → Option ((List UInt8) × Int) := sealF sched_Print_f

noncomputable def racetreeref08_sameInts_t4 (rec : List (Int) → List (Int) → Int → Option ((Bool) ⊕ (Unit))) (a0 : List (Int)) (a1 : List (Int)) (a2 : Int) : Option ((Bool) ⊕ (Unit)) :=
    bif decide (a2 < (↑(List.length a0) : Int)) then
      bif decide ((0 : Int) ≤ a2) then
        Option.bind (a0[Int.toNat a2]?) fun y0 =>
        bif decide ((0 : Int) ≤ a2) then
          Option.bind (a1[Int.toNat a2]?) fun y1 =>
          bif y0 != y1 then
            some (.inl (false))
          else
            rec (a0) (a1) (IntKind.wrap IntKind.i64 (a2 + (1 : Int)))
        else
          none
      else
        none
    else
      some (.inr ())

noncomputable def racetreeref08_sameInts_i4 : Nat → List (Int) → List (Int) → Int → Option ((Bool) ⊕ (Unit))
  | 0, _, _, _ => none
  | n + 1, a0, a1, a2 => racetreeref08_sameInts_t4 (racetreeref08_sameInts_i4 n) a0 a1 a2

noncomputable def racetreeref08_sameInts_l4 : List (Int) → List (Int) → Int → Option ((Bool) ⊕ (Unit)) := sealF (racetreeref08_sameInts_i4 fuel)

noncomputable def racetreeref08_sameInts_f (a0 : List (Int)) (a1 : List (Int)) : Option (Bool) :=
    bif (↑(List.length a0) : Int) != (↑(List.length a1) : Int) then
      some (false)
    else
      Option.bind (racetreeref08_sameInts_l4 a0 a1 (0 : Int)) fun y0 =>
      match y0 with
      | .inl y1 =>
        some (y1)
      | .inr y1 =>
        some (true)

noncomputable def racetreeref08_sameInts : List (Int) → List (Int) → Option (Bool) := sealF racetreeref08_sameInts_f

noncomputable def racetreeref08_SameInts_f (a0 : List (Int)) (a1 : List (Int)) : Option (Bool) :=
    Option.bind (racetreeref08_sameInts a0 a1) fun y0 =>
    some (y0)

noncomputable def racetreeref08_SameInts : List (Int) → List (Int) → Option (Bool) := sealF racetreeref08_SameInts_f

noncomputable def racetreelaw22_shown_f : Option (Bool) :=
    Option.bind (sched_Print [(0 : Int), (1 : Int), (1 : Int), (1 : Int), (2 : Int)]) fun y0 =>
    Option.bind (sched_Read [(48 : UInt8), (32 : UInt8), (49 : UInt8), (42 : UInt8), (51 : UInt8), (32 : UInt8), (50 : UInt8)]) fun y1 =>
    Option.bind (sched_Bytes [(300 : Int), (300 : Int)]) fun y2 =>
    Option.bind (sched_Load [(1 : Int), (172 : Int), (2 : Int), (2 : Int)]) fun y3 =>
    Option.bind (racetreeref08_SameInts (Prod.snd y1) [(0 : Int), (1 : Int), (1 : Int), (1 : Int), (2 : Int)]) fun y4 =>
    Option.bind (racetreeref08_SameInts (Prod.snd y3) [(300 : Int), (300 : Int)]) fun y5 =>
    bif Prod.snd y0 == (0 : Int) then
      bif Prod.fst y0 == [(48 : UInt8), (32 : UInt8), (49 : UInt8), (42 : UInt8), (51 : UInt8), (32 : UInt8), (50 : UInt8)] then
        bif Fault.code (Prod.fst y1) == (0 : Int) then
          bif y4 then
            bif Prod.fst y2 == (0 : Int) then
              bif bytesOf (Prod.snd y2) == [(1 : UInt8), (172 : UInt8), (2 : UInt8), (2 : UInt8)] then
                bif Prod.fst y3 == (0 : Int) then
                  some (y5)
                else
                  some (false)
              else
                some (false)
            else
              some (false)
          else
            some (false)
        else
          some (false)
      else
        some (false)
    else
      some (false)

noncomputable def racetreelaw22_shown : Option (Bool) := sealF racetreelaw22_shown_f

noncomputable def racetreelaw22_lent_f (a0 : List (Int)) : Option ((List (Int))) :=
    bif decide ((0 : Int) ≤ IntKind.wrap IntKind.i64 ((↑(List.length a0) : Int) + (2 : Int))) && (decide (IntKind.wrap IntKind.i64 ((↑(List.length a0) : Int) + (2 : Int)) = IntKind.wrap IntKind.i64 ((↑(List.length a0) : Int) + (2 : Int))) && decide (Int.toNat (IntKind.wrap IntKind.i64 ((↑(List.length a0) : Int) + (2 : Int))) * (8 : Nat) ≤ (140737488355328 : Nat) ∧ Int.toNat (IntKind.wrap IntKind.i64 ((↑(List.length a0) : Int) + (2 : Int))) ≤ (9223372036854775807 : Nat))) then
      bif decide ((0 : Int) ≤ (↑(List.length a0) : Int)) && decide ((↑(List.length a0) : Int) < (↑(List.length (List.take (List.length (List.replicate (Int.toNat (IntKind.wrap IntKind.i64 ((↑(List.length a0) : Int) + (2 : Int)))) (0 : Int))) a0 ++ List.drop (List.length a0) (List.replicate (Int.toNat (IntKind.wrap IntKind.i64 ((↑(List.length a0) : Int) + (2 : Int)))) (0 : Int)))) : Int)) then
        Option.bind ((List.take (List.length (List.replicate (Int.toNat (IntKind.wrap IntKind.i64 ((↑(List.length a0) : Int) + (2 : Int)))) (0 : Int))) a0 ++ List.drop (List.length a0) (List.replicate (Int.toNat (IntKind.wrap IntKind.i64 ((↑(List.length a0) : Int) + (2 : Int)))) (0 : Int)))[Int.toNat (↑(List.length a0) : Int)]?) fun y0 =>
        bif decide ((0 : Int) ≤ IntKind.wrap IntKind.i64 ((↑(List.length a0) : Int) + (1 : Int))) && decide (IntKind.wrap IntKind.i64 ((↑(List.length a0) : Int) + (1 : Int)) < (↑(List.length (List.set (List.take (List.length (List.replicate (Int.toNat (IntKind.wrap IntKind.i64 ((↑(List.length a0) : Int) + (2 : Int)))) (0 : Int))) a0 ++ List.drop (List.length a0) (List.replicate (Int.toNat (IntKind.wrap IntKind.i64 ((↑(List.length a0) : Int) + (2 : Int)))) (0 : Int))) (Int.toNat (↑(List.length a0) : Int)) (-77 : Int))) : Int)) then
          Option.bind ((List.set (List.take (List.length (List.replicate (Int.toNat (IntKind.wrap IntKind.i64 ((↑(List.length a0) : Int) + (2 : Int)))) (0 : Int))) a0 ++ List.drop (List.length a0) (List.replicate (Int.toNat (IntKind.wrap IntKind.i64 ((↑(List.length a0) : Int) + (2 : Int)))) (0 : Int))) (Int.toNat (↑(List.length a0) : Int)) (-77 : Int))[Int.toNat (IntKind.wrap IntKind.i64 ((↑(List.length a0) : Int) + (1 : Int)))]?) fun y1 =>
          some (List.set (List.set (List.take (List.length (List.replicate (Int.toNat (IntKind.wrap IntKind.i64 ((↑(List.length a0) : Int) + (2 : Int)))) (0 : Int))) a0 ++ List.drop (List.length a0) (List.replicate (Int.toNat (IntKind.wrap IntKind.i64 ((↑(List.length a0) : Int) + (2 : Int)))) (0 : Int))) (Int.toNat (↑(List.length a0) : Int)) (-77 : Int)) (Int.toNat (IntKind.wrap IntKind.i64 ((↑(List.length a0) : Int) + (1 : Int)))) (-78 : Int))
        else
          none
      else
        none
    else
      none

noncomputable def racetreelaw22_lent : List (Int) → Option ((List (Int))) := sealF racetreelaw22_lent_f

noncomputable def racetreeref22_may_t4 (rec : List (Int) → Int → Option ((Int) ⊕ (Unit))) (a0 : List (Int)) (a1 : Int) : Option ((Int) ⊕ (Unit)) :=
    bif decide (a1 < (↑(List.length a0) : Int)) then
      bif decide ((0 : Int) ≤ a1) then
        Option.bind (a0[Int.toNat a1]?) fun y0 =>
        bif decide (y0 < (0 : Int)) then
          some (.inl ((1 : Int)))
        else
          bif decide ((0 : Int) ≤ a1) then
            Option.bind (a0[Int.toNat a1]?) fun y1 =>
            bif decide (y1 > (2147483647 : Int)) then
              some (.inl ((1 : Int)))
            else
              rec (a0) (IntKind.wrap IntKind.i64 (a1 + (1 : Int)))
          else
            none
      else
        none
    else
      some (.inr ())

noncomputable def racetreeref22_may_i4 : Nat → List (Int) → Int → Option ((Int) ⊕ (Unit))
  | 0, _, _ => none
  | n + 1, a0, a1 => racetreeref22_may_t4 (racetreeref22_may_i4 n) a0 a1

noncomputable def racetreeref22_may_l4 : List (Int) → Int → Option ((Int) ⊕ (Unit)) := sealF (racetreeref22_may_i4 fuel)

noncomputable def racetreeref22_may_f (a0 : List (Int)) : Option (Int) :=
    bif decide ((↑(List.length a0) : Int) > (1000 : Int)) then
      some ((221 : Int))
    else
      Option.bind (racetreeref22_may_l4 a0 (0 : Int)) fun y0 =>
      match y0 with
      | .inl y1 =>
        some (y1)
      | .inr y1 =>
        some ((0 : Int))

noncomputable def racetreeref22_may : List (Int) → Option (Int) := sealF racetreeref22_may_f

noncomputable def racetreeref22_runs_t3 (rec : List (Int) → Int → List (Run) → Option ((List (Run)))) (a0 : List (Int)) (a1 : Int) (a2 : List (Run)) : Option ((List (Run))) :=
    bif decide (a1 < (↑(List.length a0) : Int)) then
      bif decide (IntKind.wrap IntKind.i64 ((↑(List.length a2) : Int) - (1 : Int)) ≥ (0 : Int)) then
        bif decide ((0 : Int) ≤ IntKind.wrap IntKind.i64 ((↑(List.length a2) : Int) - (1 : Int))) && decide (IntKind.wrap IntKind.i64 ((↑(List.length a2) : Int) - (1 : Int)) < (↑(List.length a2) : Int)) then
          Option.bind (a2[Int.toNat (IntKind.wrap IntKind.i64 ((↑(List.length a2) : Int) - (1 : Int)))]?) fun y0 =>
          bif decide ((0 : Int) ≤ a1) then
            Option.bind (a0[Int.toNat a1]?) fun y1 =>
            bif Run.n y0 == y1 then
              bif decide ((0 : Int) ≤ IntKind.wrap IntKind.i64 ((↑(List.length a2) : Int) - (1 : Int))) && decide (IntKind.wrap IntKind.i64 ((↑(List.length a2) : Int) - (1 : Int)) < (↑(List.length a2) : Int)) then
                Option.bind (a2[Int.toNat (IntKind.wrap IntKind.i64 ((↑(List.length a2) : Int) - (1 : Int)))]?) fun y2 =>
                bif decide ((0 : Int) ≤ IntKind.wrap IntKind.i64 ((↑(List.length a2) : Int) - (1 : Int))) && decide (IntKind.wrap IntKind.i64 ((↑(List.length a2) : Int) - (1 : Int)) < (↑(List.length a2) : Int)) then
                  Option.bind (a2[Int.toNat (IntKind.wrap IntKind.i64 ((↑(List.length a2) : Int) - (1 : Int)))]?) fun y3 =>
                  rec (a0) (IntKind.wrap IntKind.i64 (a1 + (1 : Int))) (List.set a2 (Int.toNat (IntKind.wrap IntKind.i64 ((↑(List.length a2) : Int) - (1 : Int)))) (Run.mk (Run.n y3) (IntKind.wrap IntKind.i64 (Run.times y2 + (1 : Int)))))
                else
                  none
              else
                none
            else
              bif decide ((0 : Int) ≤ a1) then
                Option.bind (a0[Int.toNat a1]?) fun y4 =>
                bif decide ((List.length a2 + List.length [Run.mk y4 (1 : Int)]) * (16 : Nat) ≤ (140737488355328 : Nat) ∧ List.length a2 + List.length [Run.mk y4 (1 : Int)] ≤ (9223372036854775807 : Nat)) then
                  rec (a0) (IntKind.wrap IntKind.i64 (a1 + (1 : Int))) (a2 ++ [Run.mk y4 (1 : Int)])
                else
                  none
              else
                none
          else
            none
        else
          none
      else
        bif decide ((0 : Int) ≤ a1) then
          Option.bind (a0[Int.toNat a1]?) fun y5 =>
          bif decide ((List.length a2 + List.length [Run.mk y5 (1 : Int)]) * (16 : Nat) ≤ (140737488355328 : Nat) ∧ List.length a2 + List.length [Run.mk y5 (1 : Int)] ≤ (9223372036854775807 : Nat)) then
            rec (a0) (IntKind.wrap IntKind.i64 (a1 + (1 : Int))) (a2 ++ [Run.mk y5 (1 : Int)])
          else
            none
        else
          none
    else
      some (a2)

noncomputable def racetreeref22_runs_i3 : Nat → List (Int) → Int → List (Run) → Option ((List (Run)))
  | 0, _, _, _ => none
  | n + 1, a0, a1, a2 => racetreeref22_runs_t3 (racetreeref22_runs_i3 n) a0 a1 a2

noncomputable def racetreeref22_runs_l3 : List (Int) → Int → List (Run) → Option ((List (Run))) := sealF (racetreeref22_runs_i3 fuel)

noncomputable def racetreeref22_runs_f (a0 : List (Int)) : Option ((List (Run))) :=
    Option.bind (racetreeref22_runs_l3 a0 (0 : Int) []) fun y0 =>
    some (y0)

noncomputable def racetreeref22_runs : List (Int) → Option ((List (Run))) := sealF racetreeref22_runs_f

noncomputable def racetreeref05_Digits_t5 (rec : Int → Int → List UInt8 → Option (Int × Int × (List UInt8))) (a0 : Int) (a1 : Int) (a2 : List UInt8) : Option (Int × Int × (List UInt8)) :=
    bif decide (a1 ≥ (10 : Int)) then
      bif decide (List.length (bytesOf [IntKind.wrap IntKind.u8 (IntKind.wrap IntKind.u64 ((48 : Int) + Int.tmod a1 (10 : Int)))]) + List.length a2 ≤ (9223372036854775807 : Nat)) then
        rec (a0) (IntKind.wrap IntKind.u64 (Int.tdiv a1 (10 : Int))) (bytesOf [IntKind.wrap IntKind.u8 (IntKind.wrap IntKind.u64 ((48 : Int) + Int.tmod a1 (10 : Int)))] ++ a2)
      else
        none
    else
      some ((a0), (a1), (a2))

noncomputable def racetreeref05_Digits_i5 : Nat → Int → Int → List UInt8 → Option (Int × Int × (List UInt8))
  | 0, _, _, _ => none
  | n + 1, a0, a1, a2 => racetreeref05_Digits_t5 (racetreeref05_Digits_i5 n) a0 a1 a2

noncomputable def racetreeref05_Digits_l5 : Int → Int → List UInt8 → Option (Int × Int × (List UInt8)) := sealF (racetreeref05_Digits_i5 fuel)

noncomputable def racetreeref05_Digits_f (a0 : Int) : Option ((List UInt8)) :=
    bif decide (a0 < (0 : Int)) then
      Option.bind (racetreeref05_Digits_l5 a0 (IntKind.wrap IntKind.u64 ((0 : Int) - IntKind.wrap IntKind.u64 a0)) []) fun y0 =>
      bif decide (List.length (bytesOf [IntKind.wrap IntKind.u8 (IntKind.wrap IntKind.u64 ((48 : Int) + Prod.fst (Prod.snd y0)))]) + List.length (Prod.snd (Prod.snd y0)) ≤ (9223372036854775807 : Nat)) then
        bif decide (Prod.fst y0 < (0 : Int)) then
          bif decide ((1 : Nat) + List.length (bytesOf [IntKind.wrap IntKind.u8 (IntKind.wrap IntKind.u64 ((48 : Int) + Prod.fst (Prod.snd y0)))] ++ Prod.snd (Prod.snd y0)) ≤ (9223372036854775807 : Nat)) then
            some ([(45 : UInt8)] ++ (bytesOf [IntKind.wrap IntKind.u8 (IntKind.wrap IntKind.u64 ((48 : Int) + Prod.fst (Prod.snd y0)))] ++ Prod.snd (Prod.snd y0)))
          else
            none
        else
          some (bytesOf [IntKind.wrap IntKind.u8 (IntKind.wrap IntKind.u64 ((48 : Int) + Prod.fst (Prod.snd y0)))] ++ Prod.snd (Prod.snd y0))
      else
        none
    else
      Option.bind (racetreeref05_Digits_l5 a0 (IntKind.wrap IntKind.u64 a0) []) fun y1 =>
      bif decide (List.length (bytesOf [IntKind.wrap IntKind.u8 (IntKind.wrap IntKind.u64 ((48 : Int) + Prod.fst (Prod.snd y1)))]) + List.length (Prod.snd (Prod.snd y1)) ≤ (9223372036854775807 : Nat)) then
        bif decide (Prod.fst y1 < (0 : Int)) then
          bif decide ((1 : Nat) + List.length (bytesOf [IntKind.wrap IntKind.u8 (IntKind.wrap IntKind.u64 ((48 : Int) + Prod.fst (Prod.snd y1)))] ++ Prod.snd (Prod.snd y1)) ≤ (9223372036854775807 : Nat)) then
            some ([(45 : UInt8)] ++ (bytesOf [IntKind.wrap IntKind.u8 (IntKind.wrap IntKind.u64 ((48 : Int) + Prod.fst (Prod.snd y1)))] ++ Prod.snd (Prod.snd y1)))
          else
            none
        else
          some (bytesOf [IntKind.wrap IntKind.u8 (IntKind.wrap IntKind.u64 ((48 : Int) + Prod.fst (Prod.snd y1)))] ++ Prod.snd (Prod.snd y1))
      else
        none

noncomputable def racetreeref05_Digits : Int → Option ((List UInt8)) := sealF racetreeref05_Digits_f

noncomputable def racetreeref22_Print_t7 (rec : Int → List (Run) → List (Int) → Option ((List (Int)))) (a0 : Int) (a1 : List (Run)) (a2 : List (Int)) : Option ((List (Int))) :=
    bif decide (a0 < (↑(List.length a1) : Int)) then
      bif decide (a0 > (0 : Int)) then
        bif decide ((List.length a2 + (1 : Nat)) * (1 : Nat) ≤ (140737488355328 : Nat) ∧ List.length a2 + (1 : Nat) ≤ (9223372036854775807 : Nat)) then
          bif decide ((0 : Int) ≤ a0) && decide (a0 < (↑(List.length a1) : Int)) then
            Option.bind (a1[Int.toNat a0]?) fun y0 =>
            Option.bind (racetreeref05_Digits (Run.n y0)) fun y1 =>
            bif decide (List.length (a2 ++ [(32 : Int)]) + List.length y1 ≤ (140737488355328 : Nat) ∧ List.length (a2 ++ [(32 : Int)]) + List.length y1 ≤ (9223372036854775807 : Nat)) then
              bif decide ((0 : Int) ≤ a0) && decide (a0 < (↑(List.length a1) : Int)) then
                Option.bind (a1[Int.toNat a0]?) fun y2 =>
                bif decide (Run.times y2 > (1 : Int)) then
                  bif decide ((0 : Int) ≤ a0) && decide (a0 < (↑(List.length a1) : Int)) then
                    Option.bind (a1[Int.toNat a0]?) fun y3 =>
                    Option.bind (racetreeref05_Digits (Run.times y3)) fun y4 =>
                    bif decide ((List.length (a2 ++ [(32 : Int)] ++ ofStr y1) + (1 : Nat)) * (1 : Nat) ≤ (140737488355328 : Nat) ∧ List.length (a2 ++ [(32 : Int)] ++ ofStr y1) + (1 : Nat) ≤ (9223372036854775807 : Nat)) then
                      bif decide (List.length (a2 ++ [(32 : Int)] ++ ofStr y1 ++ [(42 : Int)]) + List.length y4 ≤ (140737488355328 : Nat) ∧ List.length (a2 ++ [(32 : Int)] ++ ofStr y1 ++ [(42 : Int)]) + List.length y4 ≤ (9223372036854775807 : Nat)) then
                        rec (IntKind.wrap IntKind.i64 (a0 + (1 : Int))) (a1) (a2 ++ [(32 : Int)] ++ ofStr y1 ++ [(42 : Int)] ++ ofStr y4)
                      else
                        none
                    else
                      none
                  else
                    none
                else
                  rec (IntKind.wrap IntKind.i64 (a0 + (1 : Int))) (a1) (a2 ++ [(32 : Int)] ++ ofStr y1)
              else
                none
            else
              none
          else
            none
        else
          none
      else
        bif decide ((0 : Int) ≤ a0) && decide (a0 < (↑(List.length a1) : Int)) then
          Option.bind (a1[Int.toNat a0]?) fun y5 =>
          Option.bind (racetreeref05_Digits (Run.n y5)) fun y6 =>
          bif decide (List.length a2 + List.length y6 ≤ (140737488355328 : Nat) ∧ List.length a2 + List.length y6 ≤ (9223372036854775807 : Nat)) then
            bif decide ((0 : Int) ≤ a0) && decide (a0 < (↑(List.length a1) : Int)) then
              Option.bind (a1[Int.toNat a0]?) fun y7 =>
              bif decide (Run.times y7 > (1 : Int)) then
                bif decide ((0 : Int) ≤ a0) && decide (a0 < (↑(List.length a1) : Int)) then
                  Option.bind (a1[Int.toNat a0]?) fun y8 =>
                  Option.bind (racetreeref05_Digits (Run.times y8)) fun y9 =>
                  bif decide ((List.length (a2 ++ ofStr y6) + (1 : Nat)) * (1 : Nat) ≤ (140737488355328 : Nat) ∧ List.length (a2 ++ ofStr y6) + (1 : Nat) ≤ (9223372036854775807 : Nat)) then
                    bif decide (List.length (a2 ++ ofStr y6 ++ [(42 : Int)]) + List.length y9 ≤ (140737488355328 : Nat) ∧ List.length (a2 ++ ofStr y6 ++ [(42 : Int)]) + List.length y9 ≤ (9223372036854775807 : Nat)) then
                      rec (IntKind.wrap IntKind.i64 (a0 + (1 : Int))) (a1) (a2 ++ ofStr y6 ++ [(42 : Int)] ++ ofStr y9)
                    else
                      none
                  else
                    none
                else
                  none
              else
                rec (IntKind.wrap IntKind.i64 (a0 + (1 : Int))) (a1) (a2 ++ ofStr y6)
            else
              none
          else
            none
        else
          none
    else
      some (a2)

noncomputable def racetreeref22_Print_i7 : Nat → Int → List (Run) → List (Int) → Option ((List (Int)))
  | 0, _, _, _ => none
  | n + 1, a0, a1, a2 => racetreeref22_Print_t7 (racetreeref22_Print_i7 n) a0 a1 a2

noncomputable def racetreeref22_Print_l7 : Int → List (Run) → List (Int) → Option ((List (Int))) := sealF (racetreeref22_Print_i7 fuel)

noncomputable def racetreeref22_Print_f (a0 : List (Int)) : Option ((List UInt8) × Int) :=
    Option.bind (racetreeref22_may a0) fun y0 =>
    bif y0 != (0 : Int) then
      some (([]), (y0))
    else
      Option.bind (racetreeref22_runs a0) fun y1 =>
      Option.bind (racetreeref22_Print_l7 (0 : Int) y1 []) fun y2 =>
      some ((bytesOf y2), ((0 : Int)))

noncomputable def racetreeref22_Print : List (Int) → Option ((List UInt8) × Int) := sealF racetreeref22_Print_f

noncomputable def racetreelaw22_stays_t2 (rec : List (Int) → List (Int) → Int → Option ((Bool) ⊕ ((List (Int)) × (List (Int))))) (a0 : List (Int)) (a1 : List (Int)) (a2 : Int) : Option ((Bool) ⊕ ((List (Int)) × (List (Int)))) :=
    bif decide (a2 < (↑(List.length a1) : Int)) then
      bif decide ((0 : Int) ≤ a2) then
        Option.bind (a0[Int.toNat a2]?) fun y0 =>
        bif decide ((0 : Int) ≤ a2) then
          Option.bind (a1[Int.toNat a2]?) fun y1 =>
          bif y0 != y1 then
            some (.inl (false))
          else
            rec (a0) (a1) (IntKind.wrap IntKind.i64 (a2 + (1 : Int)))
        else
          none
      else
        none
    else
      some (.inr ((a0), (a1)))

noncomputable def racetreelaw22_stays_i2 : Nat → List (Int) → List (Int) → Int → Option ((Bool) ⊕ ((List (Int)) × (List (Int))))
  | 0, _, _, _ => none
  | n + 1, a0, a1, a2 => racetreelaw22_stays_t2 (racetreelaw22_stays_i2 n) a0 a1 a2

noncomputable def racetreelaw22_stays_l2 : List (Int) → List (Int) → Int → Option ((Bool) ⊕ ((List (Int)) × (List (Int)))) := sealF (racetreelaw22_stays_i2 fuel)

noncomputable def racetreelaw22_stays_f (a0 : List (Int)) (a1 : List (Int)) : Option (Bool) :=
    Option.bind (racetreelaw22_stays_l2 a0 a1 (0 : Int)) fun y0 =>
    match y0 with
    | .inl y1 =>
      some (y1)
    | .inr y1 =>
      Option.bind ((Prod.fst y1)[Int.toNat (↑(List.length (Prod.snd y1)) : Int)]?) fun y2 =>
      bif y2 == (-77 : Int) then
        bif decide ((0 : Int) ≤ IntKind.wrap IntKind.i64 ((↑(List.length (Prod.snd y1)) : Int) + (1 : Int))) then
          Option.bind ((Prod.fst y1)[Int.toNat (IntKind.wrap IntKind.i64 ((↑(List.length (Prod.snd y1)) : Int) + (1 : Int)))]?) fun y3 =>
          some (y3 == (-78 : Int))
        else
          none
      else
        some (false)

noncomputable def racetreelaw22_stays : List (Int) → List (Int) → Option (Bool) := sealF racetreelaw22_stays_f

noncomputable def racetreelaw22_SchedPrints_f (a0 : List (Int)) : Option (Bool) :=
    Option.bind (racetreelaw22_shown) fun y0 =>
    Option.bind (racetreelaw22_lent a0) fun y1 =>
    Option.bind (racetreeref22_Print a0) fun y2 =>
    bif decide ((0 : Int) ≤ (0 : Int)) && (decide ((0 : Int) ≤ (↑(List.length a0) : Int)) && decide ((↑(List.length a0) : Int) ≤ (↑(List.length y1) : Int))) then
      Option.bind (sched_Print (List.drop (0 : Nat) (List.take (Int.toNat (↑(List.length a0) : Int)) y1))) fun y3 =>
      Option.bind (racetreelaw22_stays y1 a0) fun y4 =>
      bif y0 then
        bif Prod.snd y3 == Prod.snd y2 then
          bif Prod.fst y3 == Prod.fst y2 then
            some (y4)
          else
            some (false)
        else
          some (false)
      else
        some (false)
    else
      none

noncomputable def racetreelaw22_SchedPrints : List (Int) → Option (Bool) := sealF racetreelaw22_SchedPrints_f

noncomputable def racetreeref22_put_t1 (rec : Int → List (Int) → Option (Int × (List (Int)))) (a0 : Int) (a1 : List (Int)) : Option (Int × (List (Int))) :=
    bif decide (a0 ≥ (128 : Int)) then
      bif decide ((List.length a1 + List.length [IntKind.wrap IntKind.u8 (IntKind.wrap IntKind.i64 ((128 : Int) + Int.tmod a0 (128 : Int)))]) * (1 : Nat) ≤ (140737488355328 : Nat) ∧ List.length a1 + List.length [IntKind.wrap IntKind.u8 (IntKind.wrap IntKind.i64 ((128 : Int) + Int.tmod a0 (128 : Int)))] ≤ (9223372036854775807 : Nat)) then
        rec (IntKind.wrap IntKind.i64 (Int.tdiv a0 (128 : Int))) (a1 ++ [IntKind.wrap IntKind.u8 (IntKind.wrap IntKind.i64 ((128 : Int) + Int.tmod a0 (128 : Int)))])
      else
        none
    else
      some ((a0), (a1))

noncomputable def racetreeref22_put_i1 : Nat → Int → List (Int) → Option (Int × (List (Int)))
  | 0, _, _ => none
  | n + 1, a0, a1 => racetreeref22_put_t1 (racetreeref22_put_i1 n) a0 a1

noncomputable def racetreeref22_put_l1 : Int → List (Int) → Option (Int × (List (Int))) := sealF (racetreeref22_put_i1 fuel)

noncomputable def racetreeref22_put_f (a0 : Int) (a1 : List (Int)) : Option ((List (Int))) :=
    Option.bind (racetreeref22_put_l1 a0 a1) fun y0 =>
    bif decide ((List.length (Prod.snd y0) + List.length [IntKind.wrap IntKind.u8 (Prod.fst y0)]) * (1 : Nat) ≤ (140737488355328 : Nat) ∧ List.length (Prod.snd y0) + List.length [IntKind.wrap IntKind.u8 (Prod.fst y0)] ≤ (9223372036854775807 : Nat)) then
      some (Prod.snd y0 ++ [IntKind.wrap IntKind.u8 (Prod.fst y0)])
    else
      none

noncomputable def racetreeref22_put : Int → List (Int) → Option ((List (Int))) := sealF racetreeref22_put_f

noncomputable def racetreeref22_Bytes_t7 (rec : Int → List (Run) → List (Int) → Option ((List (Int)))) (a0 : Int) (a1 : List (Run)) (a2 : List (Int)) : Option ((List (Int))) :=
    bif decide (a0 < (↑(List.length a1) : Int)) then
      bif decide ((0 : Int) ≤ a0) && decide (a0 < (↑(List.length a1) : Int)) then
        Option.bind (a1[Int.toNat a0]?) fun y0 =>
        Option.bind (racetreeref22_put (Run.n y0) a2) fun y1 =>
        bif decide ((0 : Int) ≤ a0) && decide (a0 < (↑(List.length a1) : Int)) then
          Option.bind (a1[Int.toNat a0]?) fun y2 =>
          Option.bind (racetreeref22_put (Run.times y2) y1) fun y3 =>
          rec (IntKind.wrap IntKind.i64 (a0 + (1 : Int))) (a1) (y3)
        else
          none
      else
        none
    else
      some (a2)

noncomputable def racetreeref22_Bytes_i7 : Nat → Int → List (Run) → List (Int) → Option ((List (Int)))
  | 0, _, _, _ => none
  | n + 1, a0, a1, a2 => racetreeref22_Bytes_t7 (racetreeref22_Bytes_i7 n) a0 a1 a2

noncomputable def racetreeref22_Bytes_l7 : Int → List (Run) → List (Int) → Option ((List (Int))) := sealF (racetreeref22_Bytes_i7 fuel)

noncomputable def racetreeref22_Bytes_f (a0 : List (Int)) : Option (Int × (List (Int))) :=
    Option.bind (racetreeref22_may a0) fun y0 =>
    bif y0 != (0 : Int) then
      some ((y0), ([]))
    else
      Option.bind (racetreeref22_runs a0) fun y1 =>
      Option.bind (racetreeref22_put (↑(List.length y1) : Int) []) fun y2 =>
      Option.bind (racetreeref22_Bytes_l7 (0 : Int) y1 y2) fun y3 =>
      some (((0 : Int)), (y3))

noncomputable def racetreeref22_Bytes : List (Int) → Option (Int × (List (Int))) := sealF racetreeref22_Bytes_f

noncomputable def racetreelaw22_SchedBytes_t7 (rec : List (Int) → Bool → List (Int) → Int → Int → Bool → Int → List (Int) → List (Int) → Option ((List (Int)) × Bool × (List (Int)) × Int × Int × Bool × (List (Int)) × (List (Int)))) (a0 : List (Int)) (a1 : Bool) (a2 : List (Int)) (a3 : Int) (a4 : Int) (a5 : Bool) (a6 : Int) (a7 : List (Int)) (a8 : List (Int)) : Option ((List (Int)) × Bool × (List (Int)) × Int × Int × Bool × (List (Int)) × (List (Int))) :=
    bif decide (a6 < (↑(List.length a8) : Int)) then
      bif decide ((0 : Int) ≤ a6) && decide (a6 < (↑(List.length a8) : Int)) then
        Option.bind (a8[Int.toNat a6]?) fun y0 =>
        rec (a0) (a1) (a2) (a3) (a4) (a5) (IntKind.wrap IntKind.i64 (a6 + (1 : Int))) (a7) (List.set a8 (Int.toNat a6) (77 : Int))
      else
        none
    else
      some ((a0), (a1), (a2), (a3), (a4), (a5), (a7), (a8))

noncomputable def racetreelaw22_SchedBytes_i7 : Nat → List (Int) → Bool → List (Int) → Int → Int → Bool → Int → List (Int) → List (Int) → Option ((List (Int)) × Bool × (List (Int)) × Int × Int × Bool × (List (Int)) × (List (Int)))
  | 0, _, _, _, _, _, _, _, _, _ => none
  | n + 1, a0, a1, a2, a3, a4, a5, a6, a7, a8 => racetreelaw22_SchedBytes_t7 (racetreelaw22_SchedBytes_i7 n) a0 a1 a2 a3 a4 a5 a6 a7 a8

noncomputable def racetreelaw22_SchedBytes_l7 : List (Int) → Bool → List (Int) → Int → Int → Bool → Int → List (Int) → List (Int) → Option ((List (Int)) × Bool × (List (Int)) × Int × Int × Bool × (List (Int)) × (List (Int))) := sealF (racetreelaw22_SchedBytes_i7 fuel)

noncomputable def racetreelaw22_SchedBytes_f (a0 : List (Int)) : Option (Bool) :=
    Option.bind (racetreelaw22_shown) fun y0 =>
    Option.bind (racetreelaw22_lent a0) fun y1 =>
    Option.bind (racetreeref22_Bytes a0) fun y2 =>
    bif decide ((0 : Int) ≤ (0 : Int)) && (decide ((0 : Int) ≤ (↑(List.length a0) : Int)) && decide ((↑(List.length a0) : Int) ≤ (↑(List.length y1) : Int))) then
      Option.bind (sched_Bytes (List.drop (0 : Nat) (List.take (Int.toNat (↑(List.length a0) : Int)) y1))) fun y3 =>
      Option.bind (racetreelaw22_SchedBytes_l7 a0 y0 y1 (Prod.fst y2) (Prod.fst y3) (bytesOf (Prod.snd y3) == bytesOf (Prod.snd y2)) (0 : Int) (Prod.snd y2) (Prod.snd y3)) fun y4 =>
      bif decide ((List.length (Prod.snd (Prod.snd (Prod.snd (Prod.snd (Prod.snd (Prod.snd (Prod.snd y4))))))) + (2 : Nat)) * (1 : Nat) ≤ (140737488355328 : Nat) ∧ List.length (Prod.snd (Prod.snd (Prod.snd (Prod.snd (Prod.snd (Prod.snd (Prod.snd y4))))))) + (2 : Nat) ≤ (9223372036854775807 : Nat)) then
        bif decide ((0 : Int) ≤ (0 : Int)) && (decide ((0 : Int) ≤ (↑(List.length (Prod.fst y4)) : Int)) && decide ((↑(List.length (Prod.fst y4)) : Int) ≤ (↑(List.length (Prod.fst (Prod.snd (Prod.snd y4)))) : Int))) then
          Option.bind (sched_Bytes (List.drop (0 : Nat) (List.take (Int.toNat (↑(List.length (Prod.fst y4)) : Int)) (Prod.fst (Prod.snd (Prod.snd y4)))))) fun y5 =>
          Option.bind (racetreelaw22_stays (Prod.fst (Prod.snd (Prod.snd y4))) (Prod.fst y4)) fun y6 =>
          bif Prod.fst (Prod.snd y4) then
            bif Prod.fst (Prod.snd (Prod.snd (Prod.snd (Prod.snd y4)))) == Prod.fst (Prod.snd (Prod.snd (Prod.snd y4))) then
              bif Prod.fst y5 == Prod.fst (Prod.snd (Prod.snd (Prod.snd y4))) then
                bif Prod.fst (Prod.snd (Prod.snd (Prod.snd (Prod.snd (Prod.snd y4))))) then
                  bif bytesOf (Prod.snd y5) == bytesOf (Prod.fst (Prod.snd (Prod.snd (Prod.snd (Prod.snd (Prod.snd (Prod.snd y4))))))) then
                    bif y6 then
                      bif decide ((0 : Int) ≤ IntKind.wrap IntKind.i64 ((↑(List.length (Prod.snd (Prod.snd (Prod.snd (Prod.snd (Prod.snd (Prod.snd (Prod.snd y4)))))) ++ [(78 : Int), (79 : Int)])) : Int) - (1 : Int))) && decide (IntKind.wrap IntKind.i64 ((↑(List.length (Prod.snd (Prod.snd (Prod.snd (Prod.snd (Prod.snd (Prod.snd (Prod.snd y4)))))) ++ [(78 : Int), (79 : Int)])) : Int) - (1 : Int)) < (↑(List.length (Prod.snd (Prod.snd (Prod.snd (Prod.snd (Prod.snd (Prod.snd (Prod.snd y4)))))) ++ [(78 : Int), (79 : Int)])) : Int)) then
                        Option.bind ((Prod.snd (Prod.snd (Prod.snd (Prod.snd (Prod.snd (Prod.snd (Prod.snd y4)))))) ++ [(78 : Int), (79 : Int)])[Int.toNat (IntKind.wrap IntKind.i64 ((↑(List.length (Prod.snd (Prod.snd (Prod.snd (Prod.snd (Prod.snd (Prod.snd (Prod.snd y4)))))) ++ [(78 : Int), (79 : Int)])) : Int) - (1 : Int)))]?) fun y7 =>
                        some (y7 == (79 : Int))
                      else
                        none
                    else
                      some (false)
                  else
                    some (false)
                else
                  some (false)
              else
                some (false)
            else
              some (false)
          else
            some (false)
        else
          none
      else
        none
    else
      none

noncomputable def racetreelaw22_SchedBytes : List (Int) → Option (Bool) := sealF racetreelaw22_SchedBytes_f

noncomputable def racetreeref10_Number_t8 (rec : List UInt8 → Bool → Int → Int → Option ((Int × Bool) ⊕ (Bool × Int))) (a0 : List UInt8) (a1 : Bool) (a2 : Int) (a3 : Int) : Option ((Int × Bool) ⊕ (Bool × Int)) :=
    bif decide (a3 < (↑(List.length a0) : Int)) then
      bif decide ((0 : Int) ≤ a3) then
        Option.bind (a0[Int.toNat a3]?) fun y0 =>
        bif decide ((↑(UInt8.toNat y0) : Int) < (48 : Int)) then
          some (.inl (((0 : Int)), (false)))
        else
          bif decide ((0 : Int) ≤ a3) then
            Option.bind (a0[Int.toNat a3]?) fun y1 =>
            bif decide ((↑(UInt8.toNat y1) : Int) > (57 : Int)) then
              some (.inl (((0 : Int)), (false)))
            else
              bif decide ((0 : Int) ≤ a3) then
                Option.bind (a0[Int.toNat a3]?) fun y2 =>
                rec (a0) (a1) (IntKind.wrap IntKind.i64 (IntKind.wrap IntKind.i64 (IntKind.wrap IntKind.i64 ((10 : Int) * a2) + IntKind.wrap IntKind.i64 (↑(UInt8.toNat y2) : Int)) - (48 : Int))) (IntKind.wrap IntKind.i64 (a3 + (1 : Int)))
              else
                none
          else
            none
      else
        none
    else
      some (.inr ((a1), (a2)))

noncomputable def racetreeref10_Number_i8 : Nat → List UInt8 → Bool → Int → Int → Option ((Int × Bool) ⊕ (Bool × Int))
  | 0, _, _, _, _ => none
  | n + 1, a0, a1, a2, a3 => racetreeref10_Number_t8 (racetreeref10_Number_i8 n) a0 a1 a2 a3

noncomputable def racetreeref10_Number_l8 : List UInt8 → Bool → Int → Int → Option ((Int × Bool) ⊕ (Bool × Int)) := sealF (racetreeref10_Number_i8 fuel)

noncomputable def racetreeref10_Number_f (a0 : List UInt8) : Option (Int × Bool) :=
    bif decide ((↑(List.length a0) : Int) > (0 : Int)) then
      Option.bind (a0[(0 : Nat)]?) fun y0 =>
      bif (↑(UInt8.toNat y0) : Int) == (45 : Int) then
        bif decide ((0 : Int) ≤ (1 : Int)) && (decide ((1 : Int) ≤ (↑(List.length a0) : Int)) && decide ((↑(List.length a0) : Int) ≤ (↑(List.length a0) : Int))) then
          bif decide ((↑(List.length (List.drop (1 : Nat) (List.take (Int.toNat (↑(List.length a0) : Int)) a0))) : Int) < (1 : Int)) then
            some (((0 : Int)), (false))
          else
            bif decide ((↑(List.length (List.drop (1 : Nat) (List.take (Int.toNat (↑(List.length a0) : Int)) a0))) : Int) > (10 : Int)) then
              some (((0 : Int)), (false))
            else
              Option.bind ((List.drop (1 : Nat) (List.take (Int.toNat (↑(List.length a0) : Int)) a0))[(0 : Nat)]?) fun y1 =>
              bif (↑(UInt8.toNat y1) : Int) == (48 : Int) then
                bif (↑(UInt8.toNat y0) : Int) == (45 : Int) then
                  some (((0 : Int)), (false))
                else
                  bif decide ((↑(List.length (List.drop (1 : Nat) (List.take (Int.toNat (↑(List.length a0) : Int)) a0))) : Int) > (1 : Int)) then
                    some (((0 : Int)), (false))
                  else
                    Option.bind (racetreeref10_Number_l8 (List.drop (1 : Nat) (List.take (Int.toNat (↑(List.length a0) : Int)) a0)) ((↑(UInt8.toNat y0) : Int) == (45 : Int)) (0 : Int) (0 : Int)) fun y2 =>
                    match y2 with
                    | .inl y3 =>
                      some ((Prod.fst y3), (Prod.snd y3))
                    | .inr y3 =>
                      bif Prod.fst y3 then
                        some ((IntKind.wrap IntKind.i64 ((0 : Int) - Prod.snd y3)), (true))
                      else
                        some ((Prod.snd y3), (true))
              else
                Option.bind (racetreeref10_Number_l8 (List.drop (1 : Nat) (List.take (Int.toNat (↑(List.length a0) : Int)) a0)) ((↑(UInt8.toNat y0) : Int) == (45 : Int)) (0 : Int) (0 : Int)) fun y4 =>
                match y4 with
                | .inl y5 =>
                  some ((Prod.fst y5), (Prod.snd y5))
                | .inr y5 =>
                  bif Prod.fst y5 then
                    some ((IntKind.wrap IntKind.i64 ((0 : Int) - Prod.snd y5)), (true))
                  else
                    some ((Prod.snd y5), (true))
        else
          none
      else
        bif decide ((↑(List.length a0) : Int) < (1 : Int)) then
          some (((0 : Int)), (false))
        else
          bif decide ((↑(List.length a0) : Int) > (10 : Int)) then
            some (((0 : Int)), (false))
          else
            Option.bind (a0[(0 : Nat)]?) fun y6 =>
            bif (↑(UInt8.toNat y6) : Int) == (48 : Int) then
              bif (↑(UInt8.toNat y0) : Int) == (45 : Int) then
                some (((0 : Int)), (false))
              else
                bif decide ((↑(List.length a0) : Int) > (1 : Int)) then
                  some (((0 : Int)), (false))
                else
                  Option.bind (racetreeref10_Number_l8 a0 ((↑(UInt8.toNat y0) : Int) == (45 : Int)) (0 : Int) (0 : Int)) fun y7 =>
                  match y7 with
                  | .inl y8 =>
                    some ((Prod.fst y8), (Prod.snd y8))
                  | .inr y8 =>
                    bif Prod.fst y8 then
                      some ((IntKind.wrap IntKind.i64 ((0 : Int) - Prod.snd y8)), (true))
                    else
                      some ((Prod.snd y8), (true))
            else
              Option.bind (racetreeref10_Number_l8 a0 ((↑(UInt8.toNat y0) : Int) == (45 : Int)) (0 : Int) (0 : Int)) fun y9 =>
              match y9 with
              | .inl y10 =>
                some ((Prod.fst y10), (Prod.snd y10))
              | .inr y10 =>
                bif Prod.fst y10 then
                  some ((IntKind.wrap IntKind.i64 ((0 : Int) - Prod.snd y10)), (true))
                else
                  some ((Prod.snd y10), (true))
    else
      bif decide ((↑(List.length a0) : Int) < (1 : Int)) then
        some (((0 : Int)), (false))
      else
        bif decide ((↑(List.length a0) : Int) > (10 : Int)) then
          some (((0 : Int)), (false))
        else
          Option.bind (a0[(0 : Nat)]?) fun y11 =>
          bif (↑(UInt8.toNat y11) : Int) == (48 : Int) then
            bif decide ((↑(List.length a0) : Int) > (1 : Int)) then
              some (((0 : Int)), (false))
            else
              Option.bind (racetreeref10_Number_l8 a0 false (0 : Int) (0 : Int)) fun y12 =>
              match y12 with
              | .inl y13 =>
                some ((Prod.fst y13), (Prod.snd y13))
              | .inr y13 =>
                bif Prod.fst y13 then
                  some ((IntKind.wrap IntKind.i64 ((0 : Int) - Prod.snd y13)), (true))
                else
                  some ((Prod.snd y13), (true))
          else
            Option.bind (racetreeref10_Number_l8 a0 false (0 : Int) (0 : Int)) fun y14 =>
            match y14 with
            | .inl y15 =>
              some ((Prod.fst y15), (Prod.snd y15))
            | .inr y15 =>
              bif Prod.fst y15 then
                some ((IntKind.wrap IntKind.i64 ((0 : Int) - Prod.snd y15)), (true))
              else
                some ((Prod.snd y15), (true))

noncomputable def racetreeref10_Number : List UInt8 → Option (Int × Bool) := sealF racetreeref10_Number_f

noncomputable def racetreeref22_whole_f (a0 : List UInt8) (a1 : Int) : Option (Int × Bool) :=
    Option.bind (racetreeref10_Number a0) fun y0 =>
    bif Prod.snd y0 then
      bif decide (Prod.fst y0 ≥ (0 : Int)) then
        some ((Prod.fst y0), (decide (Prod.fst y0 ≤ a1)))
      else
        some ((Prod.fst y0), (false))
    else
      some ((Prod.fst y0), (false))

noncomputable def racetreeref22_whole : List UInt8 → Int → Option (Int × Bool) := sealF racetreeref22_whole_f

noncomputable def racetreeref22_field_t2 (rec : List UInt8 → Int → Int → Int → Option ((Bool × Int × Int) ⊕ ((List UInt8) × Int × Int))) (a0 : List UInt8) (a1 : Int) (a2 : Int) (a3 : Int) : Option ((Bool × Int × Int) ⊕ ((List UInt8) × Int × Int)) :=
    bif decide (a1 < (↑(List.length a0) : Int)) then
      bif decide ((0 : Int) ≤ a1) then
        Option.bind (a0[Int.toNat a1]?) fun y0 =>
        bif (↑(UInt8.toNat y0) : Int) == (42 : Int) then
          bif decide ((0 : Int) ≤ (0 : Int)) && (decide ((0 : Int) ≤ a1) && decide (a1 ≤ (↑(List.length a0) : Int))) then
            Option.bind (racetreeref22_whole (List.drop (0 : Nat) (List.take (Int.toNat a1) a0)) (2147483647 : Int)) fun y1 =>
            bif decide ((0 : Int) ≤ IntKind.wrap IntKind.i64 (a1 + (1 : Int))) && (decide (IntKind.wrap IntKind.i64 (a1 + (1 : Int)) ≤ (↑(List.length a0) : Int)) && decide ((↑(List.length a0) : Int) ≤ (↑(List.length a0) : Int))) then
              Option.bind (racetreeref22_whole (List.drop (Int.toNat (IntKind.wrap IntKind.i64 (a1 + (1 : Int)))) (List.take (Int.toNat (↑(List.length a0) : Int)) a0)) (1000 : Int)) fun y2 =>
              bif Prod.snd y1 then
                bif Prod.snd y2 then
                  some (.inl ((decide (Prod.fst y2 ≥ (2 : Int))), (Prod.fst y1), (Prod.fst y2)))
                else
                  some (.inl ((false), (Prod.fst y1), (Prod.fst y2)))
              else
                some (.inl ((false), (Prod.fst y1), (Prod.fst y2)))
            else
              none
          else
            none
        else
          rec (a0) (IntKind.wrap IntKind.i64 (a1 + (1 : Int))) (a2) (a3)
      else
        none
    else
      some (.inr ((a0), (a2), (a3)))

noncomputable def racetreeref22_field_i2 : Nat → List UInt8 → Int → Int → Int → Option ((Bool × Int × Int) ⊕ ((List UInt8) × Int × Int))
  | 0, _, _, _, _ => none
  | n + 1, a0, a1, a2, a3 => racetreeref22_field_t2 (racetreeref22_field_i2 n) a0 a1 a2 a3

noncomputable def racetreeref22_field_l2 : List UInt8 → Int → Int → Int → Option ((Bool × Int × Int) ⊕ ((List UInt8) × Int × Int)) := sealF (racetreeref22_field_i2 fuel)

noncomputable def racetreeref22_field_f (a0 : List UInt8) : Option (Run × Bool) :=
    Option.bind (racetreeref22_field_l2 a0 (0 : Int) (0 : Int) (0 : Int)) fun y0 =>
    match y0 with
    | .inl y1 =>
      some ((Run.mk (Prod.fst (Prod.snd y1)) (Prod.snd (Prod.snd y1))), (Prod.fst y1))
    | .inr y1 =>
      Option.bind (racetreeref22_whole (Prod.fst y1) (2147483647 : Int)) fun y2 =>
      some ((Run.mk (Prod.fst y2) (1 : Int)), (Prod.snd y2))

noncomputable def racetreeref22_field : List UInt8 → Option (Run × Bool) := sealF racetreeref22_field_f

noncomputable def racetreeref22_Read_t5 (rec : List UInt8 → Int → Int → Int → Int → List UInt8 → List (Int) → Option ((List UInt8) × Int × Int × Int × Int × (List UInt8) × (List (Int)))) (a0 : List UInt8) (a1 : Int) (a2 : Int) (a3 : Int) (a4 : Int) (a5 : List UInt8) (a6 : List (Int)) : Option ((List UInt8) × Int × Int × Int × Int × (List UInt8) × (List (Int))) :=
    bif decide (a2 < (↑(List.length a0) : Int)) then
      bif decide ((0 : Int) ≤ a2) then
        Option.bind (a0[Int.toNat a2]?) fun y0 =>
        bif (↑(UInt8.toNat y0) : Int) != (32 : Int) then
          rec (a0) (a1) (IntKind.wrap IntKind.i64 (a2 + (1 : Int))) (a3) (a4) (a5) (a6)
        else
          some ((a0), (a1), (a2), (a3), (a4), (a5), (a6))
      else
        none
    else
      some ((a0), (a1), (a2), (a3), (a4), (a5), (a6))

noncomputable def racetreeref22_Read_i5 : Nat → List UInt8 → Int → Int → Int → Int → List UInt8 → List (Int) → Option ((List UInt8) × Int × Int × Int × Int × (List UInt8) × (List (Int)))
  | 0, _, _, _, _, _, _, _ => none
  | n + 1, a0, a1, a2, a3, a4, a5, a6 => racetreeref22_Read_t5 (racetreeref22_Read_i5 n) a0 a1 a2 a3 a4 a5 a6

noncomputable def racetreeref22_Read_l5 : List UInt8 → Int → Int → Int → Int → List UInt8 → List (Int) → Option ((List UInt8) × Int × Int × Int × Int × (List UInt8) × (List (Int))) := sealF (racetreeref22_Read_i5 fuel)

noncomputable def racetreeref22_Read_t13 (rec : List UInt8 → Int → Int → Int → Int → List UInt8 → Int → Int → List (Int) → Option ((List UInt8) × Int × Int × Int × (List UInt8) × (List (Int)))) (a0 : List UInt8) (a1 : Int) (a2 : Int) (a3 : Int) (a4 : Int) (a5 : List UInt8) (a6 : Int) (a7 : Int) (a8 : List (Int)) : Option ((List UInt8) × Int × Int × Int × (List UInt8) × (List (Int))) :=
    bif decide (a2 < a7) then
      bif decide ((List.length a8 + List.length [a6]) * (8 : Nat) ≤ (140737488355328 : Nat) ∧ List.length a8 + List.length [a6] ≤ (9223372036854775807 : Nat)) then
        rec (a0) (a1) (IntKind.wrap IntKind.i64 (a2 + (1 : Int))) (a3) (a4) (a5) (a6) (a7) (a8 ++ [a6])
      else
        none
    else
      some ((a0), (a1), (a3), (a4), (a5), (a8))

noncomputable def racetreeref22_Read_i13 : Nat → List UInt8 → Int → Int → Int → Int → List UInt8 → Int → Int → List (Int) → Option ((List UInt8) × Int × Int × Int × (List UInt8) × (List (Int)))
  | 0, _, _, _, _, _, _, _, _, _ => none
  | n + 1, a0, a1, a2, a3, a4, a5, a6, a7, a8 => racetreeref22_Read_t13 (racetreeref22_Read_i13 n) a0 a1 a2 a3 a4 a5 a6 a7 a8

noncomputable def racetreeref22_Read_l13 : List UInt8 → Int → Int → Int → Int → List UInt8 → Int → Int → List (Int) → Option ((List UInt8) × Int × Int × Int × (List UInt8) × (List (Int))) := sealF (racetreeref22_Read_i13 fuel)

noncomputable def racetreeref22_Read_t3 (rec : List UInt8 → Int → Int → Int → List UInt8 → List (Int) → Option ((Int × Int × (List UInt8)) ⊕ (Int × Int × (List UInt8) × (List (Int))))) (a0 : List UInt8) (a1 : Int) (a2 : Int) (a3 : Int) (a4 : List UInt8) (a5 : List (Int)) : Option ((Int × Int × (List UInt8)) ⊕ (Int × Int × (List UInt8) × (List (Int)))) :=
    bif decide ((↑(List.length a0) : Int) > (0 : Int)) then
      bif decide (a1 ≤ (↑(List.length a0) : Int)) then
        Option.bind (racetreeref22_Read_l5 a0 a1 a1 a2 a3 a4 a5) fun y0 =>
        bif decide ((0 : Int) ≤ Prod.fst (Prod.snd y0)) && (decide (Prod.fst (Prod.snd y0) ≤ Prod.fst (Prod.snd (Prod.snd y0))) && decide (Prod.fst (Prod.snd (Prod.snd y0)) ≤ (↑(List.length (Prod.fst y0)) : Int))) then
          Option.bind (racetreeref22_field (List.drop (Int.toNat (Prod.fst (Prod.snd y0))) (List.take (Int.toNat (Prod.fst (Prod.snd (Prod.snd y0)))) (Prod.fst y0)))) fun y1 =>
          bif !Prod.snd y1 then
            some (.inl (((220 : Int)), (Prod.fst (Prod.snd y0)), ([])))
          else
            bif decide ((↑(List.length (Prod.snd (Prod.snd (Prod.snd (Prod.snd (Prod.snd (Prod.snd y0))))))) : Int) > (0 : Int)) then
              bif decide ((0 : Int) ≤ IntKind.wrap IntKind.i64 ((↑(List.length (Prod.snd (Prod.snd (Prod.snd (Prod.snd (Prod.snd (Prod.snd y0))))))) : Int) - (1 : Int))) && decide (IntKind.wrap IntKind.i64 ((↑(List.length (Prod.snd (Prod.snd (Prod.snd (Prod.snd (Prod.snd (Prod.snd y0))))))) : Int) - (1 : Int)) < (↑(List.length (Prod.snd (Prod.snd (Prod.snd (Prod.snd (Prod.snd (Prod.snd y0))))))) : Int)) then
                Option.bind ((Prod.snd (Prod.snd (Prod.snd (Prod.snd (Prod.snd (Prod.snd y0))))))[Int.toNat (IntKind.wrap IntKind.i64 ((↑(List.length (Prod.snd (Prod.snd (Prod.snd (Prod.snd (Prod.snd (Prod.snd y0))))))) : Int) - (1 : Int)))]?) fun y2 =>
                bif y2 == Run.n (Prod.fst y1) then
                  some (.inl (((220 : Int)), (Prod.fst (Prod.snd y0)), ([])))
                else
                  bif decide (Run.times (Prod.fst y1) > IntKind.wrap IntKind.i64 ((1000 : Int) - (↑(List.length (Prod.snd (Prod.snd (Prod.snd (Prod.snd (Prod.snd (Prod.snd y0))))))) : Int))) then
                    some (.inl (((221 : Int)), (Prod.fst (Prod.snd y0)), ([])))
                  else
                    Option.bind (racetreeref22_Read_l13 (Prod.fst y0) (Prod.fst (Prod.snd (Prod.snd y0))) (0 : Int) (Prod.fst (Prod.snd (Prod.snd (Prod.snd y0)))) (Prod.fst (Prod.snd (Prod.snd (Prod.snd (Prod.snd y0))))) (Prod.fst (Prod.snd (Prod.snd (Prod.snd (Prod.snd (Prod.snd y0)))))) (Run.n (Prod.fst y1)) (Run.times (Prod.fst y1)) (Prod.snd (Prod.snd (Prod.snd (Prod.snd (Prod.snd (Prod.snd y0))))))) fun y3 =>
                    rec (Prod.fst y3) (IntKind.wrap IntKind.i64 (Prod.fst (Prod.snd y3) + (1 : Int))) (Prod.fst (Prod.snd (Prod.snd y3))) (Prod.fst (Prod.snd (Prod.snd (Prod.snd y3)))) (Prod.fst (Prod.snd (Prod.snd (Prod.snd (Prod.snd y3))))) (Prod.snd (Prod.snd (Prod.snd (Prod.snd (Prod.snd y3)))))
              else
                none
            else
              bif decide (Run.times (Prod.fst y1) > IntKind.wrap IntKind.i64 ((1000 : Int) - (↑(List.length (Prod.snd (Prod.snd (Prod.snd (Prod.snd (Prod.snd (Prod.snd y0))))))) : Int))) then
                some (.inl (((221 : Int)), (Prod.fst (Prod.snd y0)), ([])))
              else
                Option.bind (racetreeref22_Read_l13 (Prod.fst y0) (Prod.fst (Prod.snd (Prod.snd y0))) (0 : Int) (Prod.fst (Prod.snd (Prod.snd (Prod.snd y0)))) (Prod.fst (Prod.snd (Prod.snd (Prod.snd (Prod.snd y0))))) (Prod.fst (Prod.snd (Prod.snd (Prod.snd (Prod.snd (Prod.snd y0)))))) (Run.n (Prod.fst y1)) (Run.times (Prod.fst y1)) (Prod.snd (Prod.snd (Prod.snd (Prod.snd (Prod.snd (Prod.snd y0))))))) fun y4 =>
                rec (Prod.fst y4) (IntKind.wrap IntKind.i64 (Prod.fst (Prod.snd y4) + (1 : Int))) (Prod.fst (Prod.snd (Prod.snd y4))) (Prod.fst (Prod.snd (Prod.snd (Prod.snd y4)))) (Prod.fst (Prod.snd (Prod.snd (Prod.snd (Prod.snd y4))))) (Prod.snd (Prod.snd (Prod.snd (Prod.snd (Prod.snd y4)))))
        else
          none
      else
        some (.inr ((a2), (a3), (a4), (a5)))
    else
      some (.inr ((a2), (a3), (a4), (a5)))

noncomputable def racetreeref22_Read_i3 : Nat → List UInt8 → Int → Int → Int → List UInt8 → List (Int) → Option ((Int × Int × (List UInt8)) ⊕ (Int × Int × (List UInt8) × (List (Int))))
  | 0, _, _, _, _, _, _ => none
  | n + 1, a0, a1, a2, a3, a4, a5 => racetreeref22_Read_t3 (racetreeref22_Read_i3 n) a0 a1 a2 a3 a4 a5

noncomputable def racetreeref22_Read_l3 : List UInt8 → Int → Int → Int → List UInt8 → List (Int) → Option ((Int × Int × (List UInt8)) ⊕ (Int × Int × (List UInt8) × (List (Int)))) := sealF (racetreeref22_Read_i3 fuel)

noncomputable def racetreeref22_Read_f (a0 : List UInt8) : Option (Fault × (List (Int))) :=
    Option.bind (racetreeref22_Read_l3 a0 (0 : Int) (0 : Int) (0 : Int) [] []) fun y0 =>
    match y0 with
    | .inl y1 =>
      some ((Fault.mk (Prod.fst y1) (Prod.fst (Prod.snd y1)) (Prod.snd (Prod.snd y1))), ([]))
    | .inr y1 =>
      some ((Fault.mk (0 : Int) (0 : Int) []), (Prod.snd (Prod.snd (Prod.snd y1))))

noncomputable def racetreeref22_Read : List UInt8 → Option (Fault × (List (Int))) := sealF racetreeref22_Read_f

noncomputable def racetreelaw22_SchedReads_t6 (rec : List UInt8 → Bool → Bool → Int → Int → Int → List UInt8 → Int → Int → List UInt8 → List (Int) → List (Int) → Option ((List UInt8) × Bool × Bool × Int × Int × (List UInt8) × Int × Int × (List UInt8) × (List (Int)) × (List (Int)))) (a0 : List UInt8) (a1 : Bool) (a2 : Bool) (a3 : Int) (a4 : Int) (a5 : Int) (a6 : List UInt8) (a7 : Int) (a8 : Int) (a9 : List UInt8) (a10 : List (Int)) (a11 : List (Int)) : Option ((List UInt8) × Bool × Bool × Int × Int × (List UInt8) × Int × Int × (List UInt8) × (List (Int)) × (List (Int))) :=
    bif decide (a3 < (↑(List.length a11) : Int)) then
      bif decide ((0 : Int) ≤ a3) && decide (a3 < (↑(List.length a11) : Int)) then
        Option.bind (a11[Int.toNat a3]?) fun y0 =>
        rec (a0) (a1) (a2) (IntKind.wrap IntKind.i64 (a3 + (1 : Int))) (a4) (a5) (a6) (a7) (a8) (a9) (a10) (List.set a11 (Int.toNat a3) (-77 : Int))
      else
        none
    else
      some ((a0), (a1), (a2), (a4), (a5), (a6), (a7), (a8), (a9), (a10), (a11))

noncomputable def racetreelaw22_SchedReads_i6 : Nat → List UInt8 → Bool → Bool → Int → Int → Int → List UInt8 → Int → Int → List UInt8 → List (Int) → List (Int) → Option ((List UInt8) × Bool × Bool × Int × Int × (List UInt8) × Int × Int × (List UInt8) × (List (Int)) × (List (Int)))
  | 0, _, _, _, _, _, _, _, _, _, _, _, _ => none
  | n + 1, a0, a1, a2, a3, a4, a5, a6, a7, a8, a9, a10, a11 => racetreelaw22_SchedReads_t6 (racetreelaw22_SchedReads_i6 n) a0 a1 a2 a3 a4 a5 a6 a7 a8 a9 a10 a11

noncomputable def racetreelaw22_SchedReads_l6 : List UInt8 → Bool → Bool → Int → Int → Int → List UInt8 → Int → Int → List UInt8 → List (Int) → List (Int) → Option ((List UInt8) × Bool × Bool × Int × Int × (List UInt8) × Int × Int × (List UInt8) × (List (Int)) × (List (Int))) := sealF (racetreelaw22_SchedReads_i6 fuel)

noncomputable def racetreelaw22_SchedReads_f (a0 : List UInt8) : Option (Bool) :=
    Option.bind (racetreelaw22_shown) fun y0 =>
    Option.bind (racetreeref22_Read a0) fun y1 =>
    Option.bind (sched_Read a0) fun y2 =>
    Option.bind (racetreeref08_SameInts (Prod.snd y2) (Prod.snd y1)) fun y3 =>
    Option.bind (racetreelaw22_SchedReads_l6 a0 y0 y3 (0 : Int) (Fault.code (Prod.fst y1)) (Fault.at_ (Prod.fst y1)) (Fault.name (Prod.fst y1)) (Fault.code (Prod.fst y2)) (Fault.at_ (Prod.fst y2)) (Fault.name (Prod.fst y2)) (Prod.snd y1) (Prod.snd y2)) fun y4 =>
    bif decide ((List.length (Prod.snd (Prod.snd (Prod.snd (Prod.snd (Prod.snd (Prod.snd (Prod.snd (Prod.snd (Prod.snd (Prod.snd y4)))))))))) + (2 : Nat)) * (8 : Nat) ≤ (140737488355328 : Nat) ∧ List.length (Prod.snd (Prod.snd (Prod.snd (Prod.snd (Prod.snd (Prod.snd (Prod.snd (Prod.snd (Prod.snd (Prod.snd y4)))))))))) + (2 : Nat) ≤ (9223372036854775807 : Nat)) then
      Option.bind (sched_Read (Prod.fst y4)) fun y5 =>
      Option.bind (racetreeref08_SameInts (Prod.snd y5) (Prod.fst (Prod.snd (Prod.snd (Prod.snd (Prod.snd (Prod.snd (Prod.snd (Prod.snd (Prod.snd (Prod.snd y4))))))))))) fun y6 =>
      bif Prod.fst (Prod.snd y4) then
        bif decide (Fault.mk (Prod.fst (Prod.snd (Prod.snd (Prod.snd (Prod.snd (Prod.snd (Prod.snd y4))))))) (Prod.fst (Prod.snd (Prod.snd (Prod.snd (Prod.snd (Prod.snd (Prod.snd (Prod.snd y4)))))))) (Prod.fst (Prod.snd (Prod.snd (Prod.snd (Prod.snd (Prod.snd (Prod.snd (Prod.snd (Prod.snd y4))))))))) = Fault.mk (Prod.fst (Prod.snd (Prod.snd (Prod.snd y4)))) (Prod.fst (Prod.snd (Prod.snd (Prod.snd (Prod.snd y4))))) (Prod.fst (Prod.snd (Prod.snd (Prod.snd (Prod.snd (Prod.snd y4))))))) then
          bif decide (Fault.mk (Fault.code (Prod.fst y5)) (Fault.at_ (Prod.fst y5)) (Fault.name (Prod.fst y5)) = Fault.mk (Prod.fst (Prod.snd (Prod.snd (Prod.snd y4)))) (Prod.fst (Prod.snd (Prod.snd (Prod.snd (Prod.snd y4))))) (Prod.fst (Prod.snd (Prod.snd (Prod.snd (Prod.snd (Prod.snd y4))))))) then
            bif Prod.fst (Prod.snd (Prod.snd y4)) then
              bif y6 then
                bif decide ((0 : Int) ≤ IntKind.wrap IntKind.i64 ((↑(List.length (Prod.snd (Prod.snd (Prod.snd (Prod.snd (Prod.snd (Prod.snd (Prod.snd (Prod.snd (Prod.snd (Prod.snd y4))))))))) ++ [(-78 : Int), (-79 : Int)])) : Int) - (1 : Int))) && decide (IntKind.wrap IntKind.i64 ((↑(List.length (Prod.snd (Prod.snd (Prod.snd (Prod.snd (Prod.snd (Prod.snd (Prod.snd (Prod.snd (Prod.snd (Prod.snd y4))))))))) ++ [(-78 : Int), (-79 : Int)])) : Int) - (1 : Int)) < (↑(List.length (Prod.snd (Prod.snd (Prod.snd (Prod.snd (Prod.snd (Prod.snd (Prod.snd (Prod.snd (Prod.snd (Prod.snd y4))))))))) ++ [(-78 : Int), (-79 : Int)])) : Int)) then
                  Option.bind ((Prod.snd (Prod.snd (Prod.snd (Prod.snd (Prod.snd (Prod.snd (Prod.snd (Prod.snd (Prod.snd (Prod.snd y4))))))))) ++ [(-78 : Int), (-79 : Int)])[Int.toNat (IntKind.wrap IntKind.i64 ((↑(List.length (Prod.snd (Prod.snd (Prod.snd (Prod.snd (Prod.snd (Prod.snd (Prod.snd (Prod.snd (Prod.snd (Prod.snd y4))))))))) ++ [(-78 : Int), (-79 : Int)])) : Int) - (1 : Int)))]?) fun y7 =>
                  some (y7 == (-79 : Int))
                else
                  none
              else
                some (false)
            else
              some (false)
          else
            some (false)
        else
          some (false)
      else
        some (false)
    else
      none

noncomputable def racetreelaw22_SchedReads : List UInt8 → Option (Bool) := sealF racetreelaw22_SchedReads_f

noncomputable def racetreeref22_reader_number_t4 (rec : Int → Int → Int → Int → List (Int) → Int → Bool → Option (((List (Int)) × Int × Bool) ⊕ (Int × (List (Int)) × Int × Bool))) (a0 : Int) (a1 : Int) (a2 : Int) (a3 : Int) (a4 : List (Int)) (a5 : Int) (a6 : Bool) : Option (((List (Int)) × Int × Bool) ⊕ (Int × (List (Int)) × Int × Bool)) :=
    bif decide (a3 < (5 : Int)) then
      bif a6 then
        some (.inl ((a4), (a5), (a6)))
      else
        bif decide (a5 ≥ (↑(List.length a4) : Int)) then
          some (.inl ((a4), (a5), (a6)))
        else
          bif decide ((0 : Int) ≤ a5) then
            Option.bind (a4[Int.toNat a5]?) fun y0 =>
            bif decide (IntKind.wrap IntKind.i64 y0 < (128 : Int)) then
              bif decide (IntKind.wrap IntKind.i64 (a1 + IntKind.wrap IntKind.i64 (Int.tmod (IntKind.wrap IntKind.i64 y0) (128 : Int) * a2)) > a0) then
                some (.inr ((IntKind.wrap IntKind.i64 (a1 + IntKind.wrap IntKind.i64 (Int.tmod (IntKind.wrap IntKind.i64 y0) (128 : Int) * a2))), (a4), (IntKind.wrap IntKind.i64 (a5 + (1 : Int))), (true)))
              else
                bif decide (a3 > (0 : Int)) then
                  some (.inr ((IntKind.wrap IntKind.i64 (a1 + IntKind.wrap IntKind.i64 (Int.tmod (IntKind.wrap IntKind.i64 y0) (128 : Int) * a2))), (a4), (IntKind.wrap IntKind.i64 (a5 + (1 : Int))), (IntKind.wrap IntKind.i64 y0 == (0 : Int))))
                else
                  some (.inr ((IntKind.wrap IntKind.i64 (a1 + IntKind.wrap IntKind.i64 (Int.tmod (IntKind.wrap IntKind.i64 y0) (128 : Int) * a2))), (a4), (IntKind.wrap IntKind.i64 (a5 + (1 : Int))), (false)))
            else
              rec (a0) (IntKind.wrap IntKind.i64 (a1 + IntKind.wrap IntKind.i64 (Int.tmod (IntKind.wrap IntKind.i64 y0) (128 : Int) * a2))) (IntKind.wrap IntKind.i64 ((128 : Int) * a2)) (IntKind.wrap IntKind.i64 (a3 + (1 : Int))) (a4) (IntKind.wrap IntKind.i64 (a5 + (1 : Int))) (a6)
          else
            none
    else
      some (.inl ((a4), (a5), (a6)))

noncomputable def racetreeref22_reader_number_i4 : Nat → Int → Int → Int → Int → List (Int) → Int → Bool → Option (((List (Int)) × Int × Bool) ⊕ (Int × (List (Int)) × Int × Bool))
  | 0, _, _, _, _, _, _, _ => none
  | n + 1, a0, a1, a2, a3, a4, a5, a6 => racetreeref22_reader_number_t4 (racetreeref22_reader_number_i4 n) a0 a1 a2 a3 a4 a5 a6

noncomputable def racetreeref22_reader_number_l4 : Int → Int → Int → Int → List (Int) → Int → Bool → Option (((List (Int)) × Int × Bool) ⊕ (Int × (List (Int)) × Int × Bool)) := sealF (racetreeref22_reader_number_i4 fuel)

noncomputable def racetreeref22_reader_number_f (a0 : Int) (a1 : List (Int)) (a2 : Int) (a3 : Bool) : Option (Int × (List (Int)) × Int × Bool) :=
    Option.bind (racetreeref22_reader_number_l4 a0 (0 : Int) (1 : Int) (0 : Int) a1 a2 a3) fun y0 =>
    match y0 with
    | .inl y1 =>
      some (((0 : Int)), (Prod.fst y1), (Prod.fst (Prod.snd y1)), (true))
    | .inr y1 =>
      some ((Prod.fst y1), (Prod.fst (Prod.snd y1)), (Prod.fst (Prod.snd (Prod.snd y1))), (Prod.snd (Prod.snd (Prod.snd y1))))

noncomputable def racetreeref22_reader_number : Int → List (Int) → Int → Bool → Option (Int × (List (Int)) × Int × Bool) := sealF racetreeref22_reader_number_f

noncomputable def racetreeref22_Load_t12 (rec : List (Int) → Int → Int → Int → Int → Int → List (Int) → Int → Bool → List (Int) → Option ((List (Int)) × Int × Int × (List (Int)) × Int × Bool × (List (Int)))) (a0 : List (Int)) (a1 : Int) (a2 : Int) (a3 : Int) (a4 : Int) (a5 : Int) (a6 : List (Int)) (a7 : Int) (a8 : Bool) (a9 : List (Int)) : Option ((List (Int)) × Int × Int × (List (Int)) × Int × Bool × (List (Int))) :=
    bif decide (a5 < a4) then
      bif decide ((List.length a9 + List.length [a3]) * (8 : Nat) ≤ (140737488355328 : Nat) ∧ List.length a9 + List.length [a3] ≤ (9223372036854775807 : Nat)) then
        rec (a0) (a1) (a2) (a3) (a4) (IntKind.wrap IntKind.i64 (a5 + (1 : Int))) (a6) (a7) (a8) (a9 ++ [a3])
      else
        none
    else
      some ((a0), (a1), (a2), (a6), (a7), (a8), (a9))

noncomputable def racetreeref22_Load_i12 : Nat → List (Int) → Int → Int → Int → Int → Int → List (Int) → Int → Bool → List (Int) → Option ((List (Int)) × Int × Int × (List (Int)) × Int × Bool × (List (Int)))
  | 0, _, _, _, _, _, _, _, _, _, _ => none
  | n + 1, a0, a1, a2, a3, a4, a5, a6, a7, a8, a9 => racetreeref22_Load_t12 (racetreeref22_Load_i12 n) a0 a1 a2 a3 a4 a5 a6 a7 a8 a9

noncomputable def racetreeref22_Load_l12 : List (Int) → Int → Int → Int → Int → Int → List (Int) → Int → Bool → List (Int) → Option ((List (Int)) × Int × Int × (List (Int)) × Int × Bool × (List (Int))) := sealF (racetreeref22_Load_i12 fuel)

noncomputable def racetreeref22_Load_t5 (rec : List (Int) → Int → Int → List (Int) → Int → Bool → List (Int) → Option ((List (Int)) × (List (Int)) × Int × Bool × (List (Int)))) (a0 : List (Int)) (a1 : Int) (a2 : Int) (a3 : List (Int)) (a4 : Int) (a5 : Bool) (a6 : List (Int)) : Option ((List (Int)) × (List (Int)) × Int × Bool × (List (Int))) :=
    bif decide (a2 < a1) then
      bif !a5 then
        Option.bind (racetreeref22_reader_number (2147483647 : Int) a3 a4 a5) fun y0 =>
        Option.bind (racetreeref22_reader_number (1000 : Int) (Prod.fst (Prod.snd y0)) (Prod.fst (Prod.snd (Prod.snd y0))) (Prod.snd (Prod.snd (Prod.snd y0)))) fun y1 =>
        bif Prod.snd (Prod.snd (Prod.snd y1)) then
          some ((a0), (Prod.fst (Prod.snd y1)), (Prod.fst (Prod.snd (Prod.snd y1))), (true), (a6))
        else
          bif decide (Prod.fst y1 < (1 : Int)) then
            some ((a0), (Prod.fst (Prod.snd y1)), (Prod.fst (Prod.snd (Prod.snd y1))), (true), (a6))
          else
            bif decide (Prod.fst y1 > IntKind.wrap IntKind.i64 ((1000 : Int) - (↑(List.length a6) : Int))) then
              some ((a0), (Prod.fst (Prod.snd y1)), (Prod.fst (Prod.snd (Prod.snd y1))), (true), (a6))
            else
              bif decide ((↑(List.length a6) : Int) > (0 : Int)) then
                bif decide ((0 : Int) ≤ IntKind.wrap IntKind.i64 ((↑(List.length a6) : Int) - (1 : Int))) && decide (IntKind.wrap IntKind.i64 ((↑(List.length a6) : Int) - (1 : Int)) < (↑(List.length a6) : Int)) then
                  Option.bind (a6[Int.toNat (IntKind.wrap IntKind.i64 ((↑(List.length a6) : Int) - (1 : Int)))]?) fun y2 =>
                  bif y2 == Prod.fst y0 then
                    some ((a0), (Prod.fst (Prod.snd y1)), (Prod.fst (Prod.snd (Prod.snd y1))), (true), (a6))
                  else
                    Option.bind (racetreeref22_Load_l12 a0 a1 a2 (Prod.fst y0) (Prod.fst y1) (0 : Int) (Prod.fst (Prod.snd y1)) (Prod.fst (Prod.snd (Prod.snd y1))) (Prod.snd (Prod.snd (Prod.snd y1))) a6) fun y3 =>
                    rec (Prod.fst y3) (Prod.fst (Prod.snd y3)) (IntKind.wrap IntKind.i64 (Prod.fst (Prod.snd (Prod.snd y3)) + (1 : Int))) (Prod.fst (Prod.snd (Prod.snd (Prod.snd y3)))) (Prod.fst (Prod.snd (Prod.snd (Prod.snd (Prod.snd y3))))) (Prod.fst (Prod.snd (Prod.snd (Prod.snd (Prod.snd (Prod.snd y3)))))) (Prod.snd (Prod.snd (Prod.snd (Prod.snd (Prod.snd (Prod.snd y3))))))
                else
                  none
              else
                Option.bind (racetreeref22_Load_l12 a0 a1 a2 (Prod.fst y0) (Prod.fst y1) (0 : Int) (Prod.fst (Prod.snd y1)) (Prod.fst (Prod.snd (Prod.snd y1))) (Prod.snd (Prod.snd (Prod.snd y1))) a6) fun y4 =>
                rec (Prod.fst y4) (Prod.fst (Prod.snd y4)) (IntKind.wrap IntKind.i64 (Prod.fst (Prod.snd (Prod.snd y4)) + (1 : Int))) (Prod.fst (Prod.snd (Prod.snd (Prod.snd y4)))) (Prod.fst (Prod.snd (Prod.snd (Prod.snd (Prod.snd y4))))) (Prod.fst (Prod.snd (Prod.snd (Prod.snd (Prod.snd (Prod.snd y4)))))) (Prod.snd (Prod.snd (Prod.snd (Prod.snd (Prod.snd (Prod.snd y4))))))
      else
        some ((a0), (a3), (a4), (a5), (a6))
    else
      some ((a0), (a3), (a4), (a5), (a6))

noncomputable def racetreeref22_Load_i5 : Nat → List (Int) → Int → Int → List (Int) → Int → Bool → List (Int) → Option ((List (Int)) × (List (Int)) × Int × Bool × (List (Int)))
  | 0, _, _, _, _, _, _, _ => none
  | n + 1, a0, a1, a2, a3, a4, a5, a6 => racetreeref22_Load_t5 (racetreeref22_Load_i5 n) a0 a1 a2 a3 a4 a5 a6

noncomputable def racetreeref22_Load_l5 : List (Int) → Int → Int → List (Int) → Int → Bool → List (Int) → Option ((List (Int)) × (List (Int)) × Int × Bool × (List (Int))) := sealF (racetreeref22_Load_i5 fuel)

noncomputable def racetreeref22_Load_f (a0 : List (Int)) : Option (Int × (List (Int))) :=
    Option.bind (racetreeref22_reader_number (1000 : Int) a0 (0 : Int) false) fun y0 =>
    Option.bind (racetreeref22_Load_l5 a0 (Prod.fst y0) (0 : Int) (Prod.fst (Prod.snd y0)) (Prod.fst (Prod.snd (Prod.snd y0))) (Prod.snd (Prod.snd (Prod.snd y0))) []) fun y1 =>
    bif Prod.fst (Prod.snd (Prod.snd (Prod.snd y1))) then
      some (((220 : Int)), ([]))
    else
      bif decide (Prod.fst (Prod.snd (Prod.snd y1)) < (↑(List.length (Prod.fst y1)) : Int)) then
        some (((220 : Int)), ([]))
      else
        some (((0 : Int)), (Prod.snd (Prod.snd (Prod.snd (Prod.snd y1)))))

noncomputable def racetreeref22_Load : List (Int) → Option (Int × (List (Int))) := sealF racetreeref22_Load_f

noncomputable def racetreelaw22_SchedLoads_f (a0 : List (Int)) : Option (Bool) :=
    Option.bind (racetreelaw22_shown) fun y0 =>
    bif decide ((0 : Int) ≤ IntKind.wrap IntKind.i64 ((↑(List.length a0) : Int) + (1 : Int))) && (decide (IntKind.wrap IntKind.i64 ((↑(List.length a0) : Int) + (1 : Int)) = IntKind.wrap IntKind.i64 ((↑(List.length a0) : Int) + (1 : Int))) && decide (Int.toNat (IntKind.wrap IntKind.i64 ((↑(List.length a0) : Int) + (1 : Int))) * (1 : Nat) ≤ (140737488355328 : Nat) ∧ Int.toNat (IntKind.wrap IntKind.i64 ((↑(List.length a0) : Int) + (1 : Int))) ≤ (9223372036854775807 : Nat))) then
      bif decide ((0 : Int) ≤ (↑(List.length a0) : Int)) && decide ((↑(List.length a0) : Int) < (↑(List.length (List.take (List.length (List.replicate (Int.toNat (IntKind.wrap IntKind.i64 ((↑(List.length a0) : Int) + (1 : Int)))) (0 : Int))) a0 ++ List.drop (List.length a0) (List.replicate (Int.toNat (IntKind.wrap IntKind.i64 ((↑(List.length a0) : Int) + (1 : Int)))) (0 : Int)))) : Int)) then
        Option.bind ((List.take (List.length (List.replicate (Int.toNat (IntKind.wrap IntKind.i64 ((↑(List.length a0) : Int) + (1 : Int)))) (0 : Int))) a0 ++ List.drop (List.length a0) (List.replicate (Int.toNat (IntKind.wrap IntKind.i64 ((↑(List.length a0) : Int) + (1 : Int)))) (0 : Int)))[Int.toNat (↑(List.length a0) : Int)]?) fun y1 =>
        Option.bind (racetreeref22_Load a0) fun y2 =>
        bif decide ((0 : Int) ≤ (0 : Int)) && (decide ((0 : Int) ≤ (↑(List.length a0) : Int)) && decide ((↑(List.length a0) : Int) ≤ (↑(List.length (List.set (List.take (List.length (List.replicate (Int.toNat (IntKind.wrap IntKind.i64 ((↑(List.length a0) : Int) + (1 : Int)))) (0 : Int))) a0 ++ List.drop (List.length a0) (List.replicate (Int.toNat (IntKind.wrap IntKind.i64 ((↑(List.length a0) : Int) + (1 : Int)))) (0 : Int))) (Int.toNat (↑(List.length a0) : Int)) (77 : Int))) : Int))) then
          Option.bind (sched_Load (List.drop (0 : Nat) (List.take (Int.toNat (↑(List.length a0) : Int)) (List.set (List.take (List.length (List.replicate (Int.toNat (IntKind.wrap IntKind.i64 ((↑(List.length a0) : Int) + (1 : Int)))) (0 : Int))) a0 ++ List.drop (List.length a0) (List.replicate (Int.toNat (IntKind.wrap IntKind.i64 ((↑(List.length a0) : Int) + (1 : Int)))) (0 : Int))) (Int.toNat (↑(List.length a0) : Int)) (77 : Int))))) fun y3 =>
          Option.bind (racetreeref08_SameInts (Prod.snd y3) (Prod.snd y2)) fun y4 =>
          bif y0 then
            bif Prod.fst y3 == Prod.fst y2 then
              bif y4 then
                bif decide ((0 : Int) ≤ (0 : Int)) && (decide ((0 : Int) ≤ (↑(List.length a0) : Int)) && decide ((↑(List.length a0) : Int) ≤ (↑(List.length (List.set (List.take (List.length (List.replicate (Int.toNat (IntKind.wrap IntKind.i64 ((↑(List.length a0) : Int) + (1 : Int)))) (0 : Int))) a0 ++ List.drop (List.length a0) (List.replicate (Int.toNat (IntKind.wrap IntKind.i64 ((↑(List.length a0) : Int) + (1 : Int)))) (0 : Int))) (Int.toNat (↑(List.length a0) : Int)) (77 : Int))) : Int))) then
                  bif bytesOf (List.drop (0 : Nat) (List.take (Int.toNat (↑(List.length a0) : Int)) (List.set (List.take (List.length (List.replicate (Int.toNat (IntKind.wrap IntKind.i64 ((↑(List.length a0) : Int) + (1 : Int)))) (0 : Int))) a0 ++ List.drop (List.length a0) (List.replicate (Int.toNat (IntKind.wrap IntKind.i64 ((↑(List.length a0) : Int) + (1 : Int)))) (0 : Int))) (Int.toNat (↑(List.length a0) : Int)) (77 : Int)))) == bytesOf a0 then
                    bif decide ((0 : Int) ≤ (↑(List.length a0) : Int)) && decide ((↑(List.length a0) : Int) < (↑(List.length (List.set (List.take (List.length (List.replicate (Int.toNat (IntKind.wrap IntKind.i64 ((↑(List.length a0) : Int) + (1 : Int)))) (0 : Int))) a0 ++ List.drop (List.length a0) (List.replicate (Int.toNat (IntKind.wrap IntKind.i64 ((↑(List.length a0) : Int) + (1 : Int)))) (0 : Int))) (Int.toNat (↑(List.length a0) : Int)) (77 : Int))) : Int)) then
                      Option.bind ((List.set (List.take (List.length (List.replicate (Int.toNat (IntKind.wrap IntKind.i64 ((↑(List.length a0) : Int) + (1 : Int)))) (0 : Int))) a0 ++ List.drop (List.length a0) (List.replicate (Int.toNat (IntKind.wrap IntKind.i64 ((↑(List.length a0) : Int) + (1 : Int)))) (0 : Int))) (Int.toNat (↑(List.length a0) : Int)) (77 : Int))[Int.toNat (↑(List.length a0) : Int)]?) fun y5 =>
                      some (y5 == (77 : Int))
                    else
                      none
                  else
                    some (false)
                else
                  none
              else
                some (false)
            else
              some (false)
          else
            some (false)
        else
          none
      else
        none
    else
      none

noncomputable def racetreelaw22_SchedLoads : List (Int) → Option (Bool) := sealF racetreelaw22_SchedLoads_f

noncomputable def racetreelaw22_SchedBack_f (a0 : List (Int)) : Option (Bool) :=
    Option.bind (racetreelaw22_shown) fun y0 =>
    Option.bind (sched_Print a0) fun y1 =>
    Option.bind (sched_Bytes a0) fun y2 =>
    bif !y0 then
      some (false)
    else
      bif Prod.snd y1 != Prod.fst y2 then
        some (false)
      else
        bif Prod.snd y1 != (0 : Int) then
          bif Prod.fst y1 == [] then
            bif (↑(List.length (Prod.snd y2)) : Int) == (0 : Int) then
              some ((Prod.snd y1 == (221 : Int)) == decide ((↑(List.length a0) : Int) > (1000 : Int)))
            else
              some (false)
          else
            some (false)
        else
          Option.bind (sched_Read (Prod.fst y1)) fun y3 =>
          Option.bind (sched_Load (Prod.snd y2)) fun y4 =>
          Option.bind (racetreeref08_SameInts (Prod.snd y3) a0) fun y5 =>
          Option.bind (racetreeref08_SameInts (Prod.snd y4) a0) fun y6 =>
          bif Fault.code (Prod.fst y3) == (0 : Int) then
            bif Prod.fst y4 == (0 : Int) then
              bif y5 then
                some (y6)
              else
                some (false)
            else
              some (false)
          else
            some (false)

noncomputable def racetreelaw22_SchedBack : List (Int) → Option (Bool) := sealF racetreelaw22_SchedBack_f

noncomputable def racetreelaw22_SchedForm_f (a0 : List UInt8) (a1 : List (Int)) : Option (Bool) :=
    Option.bind (racetreelaw22_shown) fun y0 =>
    Option.bind (sched_Read a0) fun y1 =>
    bif Fault.code (Prod.fst y1) == (0 : Int) then
      Option.bind (sched_Print (Prod.snd y1)) fun y2 =>
      bif Prod.snd y2 != (0 : Int) then
        some (false)
      else
        bif !Prod.fst y2 == a0 then
          some (false)
        else
          Option.bind (sched_Load a1) fun y3 =>
          bif Prod.fst y3 == (0 : Int) then
            Option.bind (sched_Bytes (Prod.snd y3)) fun y4 =>
            bif Prod.fst y4 != (0 : Int) then
              some (false)
            else
              bif !bytesOf (Prod.snd y4) == bytesOf a1 then
                some (false)
              else
                some (y0)
          else
            some (y0)
    else
      Option.bind (sched_Load a1) fun y5 =>
      bif Prod.fst y5 == (0 : Int) then
        Option.bind (sched_Bytes (Prod.snd y5)) fun y6 =>
        bif Prod.fst y6 != (0 : Int) then
          some (false)
        else
          bif !bytesOf (Prod.snd y6) == bytesOf a1 then
            some (false)
          else
            some (y0)
      else
        some (y0)

noncomputable def racetreelaw22_SchedForm : List UInt8 → List (Int) → Option (Bool) := sealF racetreelaw22_SchedForm_f

end Lift.Fn

