/-
  DERIVED. The functions of this seat as Lean has them. Conditions: none.
-/
import Derived.Test.YtndniigjlaccgaaLiftC
import Derived.Test.YtndniigjlaccgaaProg
import Derived.KernelRfl
set_option linter.unusedVariables false
set_option linter.unusedSimpArgs false
set_option linter.unusedSectionVars false
namespace Lift.A1
open Go Go.RowKit Go.Proofs Lift

@[reducible] noncomputable def U (n : Nat) : Type := match n with
  | 26 => Fault
  | 31 => Spot
  | _ => Empty

noncomputable def cells (n : Nat) : U n → List (TV U) := match n with
  | 26 => fun (x : Fault) => [⟨.int .i64, x.code⟩, ⟨.int .i64, x.at_⟩, ⟨.str, x.name⟩]
  | 31 => fun (x : Spot) => [⟨.int .i64, x.rune⟩, ⟨.int .i64, x.at_⟩, ⟨.int .i64, x.line⟩, ⟨.int .i64, x.col⟩]
  | _ => fun _ => []

noncomputable def ctys (n : Nat) : List Ty := match n with
  | 26 => [.int .i64, .int .i64, .str]
  | 31 => [.int .i64, .int .i64, .int .i64, .int .i64]
  | _ => []

noncomputable def make (n : Nat) : List (TV U) → Option (U n) := match n with
  | 26 => fun | [⟨.int .i64, v0⟩, ⟨.int .i64, v1⟩, ⟨.str, v2⟩] => some (Fault.mk v0 v1 v2) | _ => none
  | 31 => fun | [⟨.int .i64, v0⟩, ⟨.int .i64, v1⟩, ⟨.int .i64, v2⟩, ⟨.int .i64, v3⟩] => some (Spot.mk v0 v1 v2 v3) | _ => none
  | _ => fun _ => none

@[reducible] noncomputable def uni : Uni where
  U := U
  cells := cells
  ctys := ctys
  make := make
  make_ok := by
    intro n cs x h
    unfold make at h
    split at h
    · dsimp only at h
      split at h
      · cases h; rfl
      · cases h
    · dsimp only at h
      split at h
      · cases h; rfl
      · cases h
    · cases h
  tys_ok := by
    intro n x
    unfold cells ctys
    split <;> rfl
  flat_ok := by
    intro n t h
    have : ∀ n, (ctys n).all Ty.flat = true := by
      intro n
      unfold ctys
      split <;> rfl
    exact List.all_eq_true.1 (this n) t h

noncomputable def tyOf : TypeId → Option Ty
  | 1 => some (.fn)
  | 2 => some (.int .i64)
  | 3 => some (.int .i64)
  | 4 => some (.bool)
  | 5 => some (.int .u8)
  | 6 => some (.int .u8)
  | 9 => some (.str)
  | 10 => some (.str)
  | 11 => some (.str)
  | 12 => some (.int .u64)
  | 21 => some (.int .i32)
  | 22 => some (.fn)
  | 23 => some (.slc (.st 31))
  | 24 => some (.int .i64)
  | 26 => some (.st 26)
  | 28 => some (.fn)
  | 29 => some (.fn)
  | 31 => some (.st 31)
  | 32 => some (.fn)
  | 34 => some (.fn)
  | 35 => some (.fn)
  | 36 => some (.slc (.int .i64))
  | 38 => some (.fn)
  | 39 => some (.fn)
  | 40 => some (.fn)
  | 41 => some (.fn)
  | 43 => some (.fn)
  | 44 => some (.slc (.int .u8))
  | 45 => some (.fn)
  | 46 => some (.slc (.int .i32))
  | 48 => some (.fn)
  | 49 => some (.fn)
  | 50 => some (.fn)
  | 51 => some (.fn)
  | 52 => some (.fn)
  | 53 => some (.fn)
  | 59 => some (.fn)
  | 60 => some (.int .u32)
  | 61 => some (.int .u8)
  | 62 => some (.int .u8)
  | 63 => some (.fn)
  | 65 => some (.int .i32)
  | 66 => some (.int .i32)
  | _ => none

noncomputable def eqOf (T : TypeId) (n : Nat) : Option (U n → U n → Bool) := match n with
  | 26 => bif Nat.beq T 26 then some fun (a b : Fault) => decide (a = b) else none
  | 31 => bif Nat.beq T 31 then some fun (a b : Spot) => decide (a = b) else none
  | _ => none

@[reducible] noncomputable def kk : Kit := { P := Try.prog, u := uni, tyOf, eqOf, modes := fun _ => [] }

theorem eqOk : EqOk kk := by
  refine eqOk_flat fun T n f h => ?_
  change eqOf T n = some f at h
  change flatStruct Try.prog T (ctys n) = true ∧ ∀ a b : U n, f a b = cellsEq (cells n a) (cells n b)
  unfold eqOf at h
  split at h
  · cases hb : Nat.beq T 26 with
    | true =>
      rw [hb] at h
      cases Nat.eq_of_beq_eq_true hb
      cases h
      refine ⟨by kernel_rfl, ?_⟩
      rintro ⟨a0, a1, a2⟩ ⟨b0, b1, b2⟩
      simp [cells, cellsEq, scalarEq, cond_eq_ite, Bool.decide_and]
    | false => rw [hb] at h; cases h
  · cases hb : Nat.beq T 31 with
    | true =>
      rw [hb] at h
      cases Nat.eq_of_beq_eq_true hb
      cases h
      refine ⟨by kernel_rfl, ?_⟩
      rintro ⟨a0, a1, a2, a3⟩ ⟨b0, b1, b2, b3⟩
      simp [cells, cellsEq, scalarEq, cond_eq_ite, Bool.decide_and]
    | false => rw [hb] at h; cases h
  · cases h

theorem mixed : kk.P.follows .mixedOrders = true := by kernel_rfl
noncomputable def ms0 : List (FuncId × Mode U) := []
theorem known0 : Known kk anyEnv (modesOf ms0) := known_nil
end Lift.A1

namespace Lift.Fn
open Go Lift

noncomputable def unicode_utf8_RuneLen_f (a0 : Int) : Option (Int) :=
    bif decide (a0 < (0 : Int)) then
      some ((-1 : Int))
    else
      bif decide (a0 ≤ (127 : Int)) then
        some ((1 : Int))
      else
        bif decide (a0 ≤ (2047 : Int)) then
          some ((2 : Int))
        else
          bif decide ((55296 : Int) ≤ a0) then
            bif decide (a0 ≤ (57343 : Int)) then
              some ((-1 : Int))
            else
              bif decide (a0 ≤ (65535 : Int)) then
                some ((3 : Int))
              else
                bif decide (a0 ≤ (1114111 : Int)) then
                  some ((4 : Int))
                else
                  some ((-1 : Int))
          else
            bif decide (a0 ≤ (65535 : Int)) then
              some ((3 : Int))
            else
              bif decide (a0 ≤ (1114111 : Int)) then
                some ((4 : Int))
              else
                some ((-1 : Int))

noncomputable def unicode_utf8_RuneLen : Int → Option (Int) := sealF unicode_utf8_RuneLen_f

noncomputable def scan_gone_t4 (rec : List UInt8 → Int → Int → Int → Int → Int → Int → Int → Int → List UInt8 → Nat → List (Spot) → Option ((Int × Int × Int × Int × (List (Spot))) ⊕ (Int × Int × Int × Int × Int × Int × Int × Int × (List (Spot))))) (a0 : List UInt8) (a1 : Int) (a2 : Int) (a3 : Int) (a4 : Int) (a5 : Int) (a6 : Int) (a7 : Int) (a8 : Int) (a9 : List UInt8) (a10 : Nat) (a11 : List (Spot)) : Option ((Int × Int × Int × Int × (List (Spot))) ⊕ (Int × Int × Int × Int × Int × Int × Int × Int × (List (Spot)))) :=
    bif decide (a10 < List.length a9) then
      bif (↑(Prod.fst (Utf8.decode (ByteArray.mk (List.toArray a9)) a10)) : Int) == (65533 : Int) then
        bif decide ((0 : Int) ≤ (↑a10 : Int)) && (decide ((↑a10 : Int) ≤ if IntKind.wrap IntKind.i64 ((↑a10 : Int) + (3 : Int)) < (↑(List.length a0) : Int) then IntKind.wrap IntKind.i64 ((↑a10 : Int) + (3 : Int)) else (↑(List.length a0) : Int)) && decide ((if IntKind.wrap IntKind.i64 ((↑a10 : Int) + (3 : Int)) < (↑(List.length a0) : Int) then IntKind.wrap IntKind.i64 ((↑a10 : Int) + (3 : Int)) else (↑(List.length a0) : Int)) ≤ (↑(List.length a0) : Int))) then
          bif !List.drop (Int.toNat (↑a10 : Int)) (List.take (Int.toNat (if IntKind.wrap IntKind.i64 ((↑a10 : Int) + (3 : Int)) < (↑(List.length a0) : Int) then IntKind.wrap IntKind.i64 ((↑a10 : Int) + (3 : Int)) else (↑(List.length a0) : Int))) a0) == [(239 : UInt8), (191 : UInt8), (189 : UInt8)] then
            some (.inl ((a5), (a6), (a7), (a8), (a11)))
          else
            bif decide ((List.length a11 + List.length [Spot.mk (IntKind.wrap IntKind.i64 (↑(Prod.fst (Utf8.decode (ByteArray.mk (List.toArray a9)) a10)) : Int)) a6 a7 a8]) * (32 : Nat) ≤ (140737488355328 : Nat) ∧ List.length a11 + List.length [Spot.mk (IntKind.wrap IntKind.i64 (↑(Prod.fst (Utf8.decode (ByteArray.mk (List.toArray a9)) a10)) : Int)) a6 a7 a8] ≤ (9223372036854775807 : Nat)) then
              Option.bind (unicode_utf8_RuneLen (↑(Prod.fst (Utf8.decode (ByteArray.mk (List.toArray a9)) a10)) : Int)) fun y0 =>
              bif (↑(Prod.fst (Utf8.decode (ByteArray.mk (List.toArray a9)) a10)) : Int) == (10 : Int) then
                rec (a0) (a1) (a2) (a3) (a4) ((-1 : Int)) (IntKind.wrap IntKind.i64 (a6 + y0)) (IntKind.wrap IntKind.i64 (a7 + (1 : Int))) ((1 : Int)) (a9) (a10 + Prod.snd (Utf8.decode (ByteArray.mk (List.toArray a9)) a10)) (a11 ++ [Spot.mk (IntKind.wrap IntKind.i64 (↑(Prod.fst (Utf8.decode (ByteArray.mk (List.toArray a9)) a10)) : Int)) a6 a7 a8])
              else
                rec (a0) (a1) (a2) (a3) (a4) ((-1 : Int)) (IntKind.wrap IntKind.i64 (a6 + y0)) (a7) (IntKind.wrap IntKind.i64 (a8 + (1 : Int))) (a9) (a10 + Prod.snd (Utf8.decode (ByteArray.mk (List.toArray a9)) a10)) (a11 ++ [Spot.mk (IntKind.wrap IntKind.i64 (↑(Prod.fst (Utf8.decode (ByteArray.mk (List.toArray a9)) a10)) : Int)) a6 a7 a8])
            else
              none
        else
          none
      else
        bif decide ((List.length a11 + List.length [Spot.mk (IntKind.wrap IntKind.i64 (↑(Prod.fst (Utf8.decode (ByteArray.mk (List.toArray a9)) a10)) : Int)) a6 a7 a8]) * (32 : Nat) ≤ (140737488355328 : Nat) ∧ List.length a11 + List.length [Spot.mk (IntKind.wrap IntKind.i64 (↑(Prod.fst (Utf8.decode (ByteArray.mk (List.toArray a9)) a10)) : Int)) a6 a7 a8] ≤ (9223372036854775807 : Nat)) then
          Option.bind (unicode_utf8_RuneLen (↑(Prod.fst (Utf8.decode (ByteArray.mk (List.toArray a9)) a10)) : Int)) fun y1 =>
          bif (↑(Prod.fst (Utf8.decode (ByteArray.mk (List.toArray a9)) a10)) : Int) == (10 : Int) then
            rec (a0) (a1) (a2) (a3) (a4) ((-1 : Int)) (IntKind.wrap IntKind.i64 (a6 + y1)) (IntKind.wrap IntKind.i64 (a7 + (1 : Int))) ((1 : Int)) (a9) (a10 + Prod.snd (Utf8.decode (ByteArray.mk (List.toArray a9)) a10)) (a11 ++ [Spot.mk (IntKind.wrap IntKind.i64 (↑(Prod.fst (Utf8.decode (ByteArray.mk (List.toArray a9)) a10)) : Int)) a6 a7 a8])
          else
            rec (a0) (a1) (a2) (a3) (a4) ((-1 : Int)) (IntKind.wrap IntKind.i64 (a6 + y1)) (a7) (IntKind.wrap IntKind.i64 (a8 + (1 : Int))) (a9) (a10 + Prod.snd (Utf8.decode (ByteArray.mk (List.toArray a9)) a10)) (a11 ++ [Spot.mk (IntKind.wrap IntKind.i64 (↑(Prod.fst (Utf8.decode (ByteArray.mk (List.toArray a9)) a10)) : Int)) a6 a7 a8])
        else
          none
    else
      some (.inr ((a1), (a2), (a3), (a4), (a5), (a6), (a7), (a8), (a11)))

noncomputable def scan_gone_i4 : Nat → List UInt8 → Int → Int → Int → Int → Int → Int → Int → Int → List UInt8 → Nat → List (Spot) → Option ((Int × Int × Int × Int × (List (Spot))) ⊕ (Int × Int × Int × Int × Int × Int × Int × Int × (List (Spot))))
  | 0, _, _, _, _, _, _, _, _, _, _, _, _ => none
  | n + 1, a0, a1, a2, a3, a4, a5, a6, a7, a8, a9, a10, a11 => scan_gone_t4 (scan_gone_i4 n) a0 a1 a2 a3 a4 a5 a6 a7 a8 a9 a10 a11

noncomputable def scan_gone_l4 : List UInt8 → Int → Int → Int → Int → Int → Int → Int → Int → List UInt8 → Nat → List (Spot) → Option ((Int × Int × Int × Int × (List (Spot))) ⊕ (Int × Int × Int × Int × Int × Int × Int × Int × (List (Spot)))) := sealF (scan_gone_i4 fuel)

noncomputable def scan_gone_f (a0 : List UInt8) : Option (Spot × (List (Spot))) :=
    Option.bind (scan_gone_l4 a0 (0 : Int) (0 : Int) (0 : Int) (0 : Int) (-1 : Int) (0 : Int) (1 : Int) (1 : Int) a0 (0 : Nat) []) fun y0 =>
    match y0 with
    | .inl y1 =>
      some ((Spot.mk (Prod.fst y1) (Prod.fst (Prod.snd y1)) (Prod.fst (Prod.snd (Prod.snd y1))) (Prod.fst (Prod.snd (Prod.snd (Prod.snd y1))))), (Prod.snd (Prod.snd (Prod.snd (Prod.snd y1)))))
    | .inr y1 =>
      some ((Spot.mk (Prod.fst (Prod.snd (Prod.snd (Prod.snd (Prod.snd y1))))) (Prod.fst (Prod.snd (Prod.snd (Prod.snd (Prod.snd (Prod.snd y1)))))) (Prod.fst (Prod.snd (Prod.snd (Prod.snd (Prod.snd (Prod.snd (Prod.snd y1))))))) (Prod.fst (Prod.snd (Prod.snd (Prod.snd (Prod.snd (Prod.snd (Prod.snd (Prod.snd y1))))))))), (Prod.snd (Prod.snd (Prod.snd (Prod.snd (Prod.snd (Prod.snd (Prod.snd (Prod.snd y1)))))))))

noncomputable def scan_gone : List UInt8 → Option (Spot × (List (Spot))) := sealF scan_gone_f

noncomputable def scan_Runes_f (a0 : List UInt8) : Option (Fault × (List (Spot))) :=
    bif decide ((↑(List.length a0) : Int) > (4000 : Int)) then
      some ((Fault.mk (10 : Int) (4000 : Int) []), ([]))
    else
      Option.bind (scan_gone a0) fun y0 =>
      bif decide (Spot.at_ (Prod.fst y0) < (↑(List.length a0) : Int)) then
        some ((Fault.mk (11 : Int) (Spot.at_ (Prod.fst y0)) []), ([]))
      else
        some ((Fault.mk (0 : Int) (0 : Int) []), (Prod.snd y0))

noncomputable def scan_Runes : List UInt8 → Option (Fault × (List (Spot))) := sealF scan_Runes_f

noncomputable def unicode_utf8_ValidRune_f (a0 : Int) : Option (Bool) :=
    bif decide ((0 : Int) ≤ a0) then
      bif decide (a0 < (55296 : Int)) then
        some (true)
      else
        bif decide ((57343 : Int) < a0) then
          bif decide (a0 ≤ (1114111 : Int)) then
            some (true)
          else
            some (false)
        else
          some (false)
    else
      bif decide ((57343 : Int) < a0) then
        bif decide (a0 ≤ (1114111 : Int)) then
          some (true)
        else
          some (false)
      else
        some (false)

noncomputable def unicode_utf8_ValidRune : Int → Option (Bool) := sealF unicode_utf8_ValidRune_f

noncomputable def scan_whole_f (a0 : Int) : Option (Bool) :=
    bif decide (a0 ≥ (0 : Int)) then
      bif decide (a0 ≤ (1114111 : Int)) then
        Option.bind (unicode_utf8_ValidRune (IntKind.wrap IntKind.i32 a0)) fun y0 =>
        some (y0)
      else
        some (false)
    else
      some (false)

noncomputable def scan_whole : Int → Option (Bool) := sealF scan_whole_f

noncomputable def scan_Text_t5 (rec : List (Int) → Int → Int → List (Int) → Option (((List UInt8) × Int) ⊕ ((List (Int))))) (a0 : List (Int)) (a1 : Int) (a2 : Int) (a3 : List (Int)) : Option (((List UInt8) × Int) ⊕ ((List (Int)))) :=
    bif decide (a2 < a1) then
      bif decide ((0 : Int) ≤ a2) then
        Option.bind (a0[Int.toNat a2]?) fun y0 =>
        Option.bind (scan_whole y0) fun y1 =>
        bif !y1 then
          some (.inl (([]), ((1 : Int))))
        else
          bif decide ((List.length a3 + List.length [IntKind.wrap IntKind.i32 y0]) * (4 : Nat) ≤ (140737488355328 : Nat) ∧ List.length a3 + List.length [IntKind.wrap IntKind.i32 y0] ≤ (9223372036854775807 : Nat)) then
            rec (a0) (a1) (IntKind.wrap IntKind.i64 (a2 + (1 : Int))) (a3 ++ [IntKind.wrap IntKind.i32 y0])
          else
            none
      else
        none
    else
      some (.inr (a3))

noncomputable def scan_Text_i5 : Nat → List (Int) → Int → Int → List (Int) → Option (((List UInt8) × Int) ⊕ ((List (Int))))
  | 0, _, _, _, _ => none
  | n + 1, a0, a1, a2, a3 => scan_Text_t5 (scan_Text_i5 n) a0 a1 a2 a3

noncomputable def scan_Text_l5 : List (Int) → Int → Int → List (Int) → Option (((List UInt8) × Int) ⊕ ((List (Int)))) := sealF (scan_Text_i5 fuel)

noncomputable def scan_Text_f (a0 : List (Int)) : Option ((List UInt8) × Int) :=
    bif decide ((↑(List.length a0) : Int) > (4000 : Int)) then
      some (([]), ((10 : Int)))
    else
      Option.bind (scan_Text_l5 a0 (↑(List.length a0) : Int) (0 : Int) []) fun y0 =>
      match y0 with
      | .inl y1 =>
        some ((Prod.fst y1), (Prod.snd y1))
      | .inr y1 =>
        bif decide ((↑(List.length (runesOf y1)) : Int) > (4000 : Int)) then
          some (([]), ((10 : Int)))
        else
          some ((runesOf y1), ((0 : Int)))

noncomputable def scan_Text : List (Int) → Option ((List UInt8) × Int) := sealF scan_Text_f

noncomputable def scan_Place_t8 (rec : Int → Int → Int → Int → Int → Int → Int → List (Spot) → Option ((Int × Int × Int × Int × Int) ⊕ (Int × Int × Int × Int))) (a0 : Int) (a1 : Int) (a2 : Int) (a3 : Int) (a4 : Int) (a5 : Int) (a6 : Int) (a7 : List (Spot)) : Option ((Int × Int × Int × Int × Int) ⊕ (Int × Int × Int × Int)) :=
    bif decide (a2 < a1) then
      bif decide ((0 : Int) ≤ a2) && decide (a2 < (↑(List.length a7) : Int)) then
        Option.bind (a7[Int.toNat a2]?) fun y0 =>
        bif Spot.at_ y0 == a0 then
          some (.inl (((0 : Int)), (Spot.rune y0), (Spot.at_ y0), (Spot.line y0), (Spot.col y0)))
        else
          rec (a0) (a1) (IntKind.wrap IntKind.i64 (a2 + (1 : Int))) (a3) (a4) (a5) (a6) (a7)
      else
        none
    else
      some (.inr ((a3), (a4), (a5), (a6)))

noncomputable def scan_Place_i8 : Nat → Int → Int → Int → Int → Int → Int → Int → List (Spot) → Option ((Int × Int × Int × Int × Int) ⊕ (Int × Int × Int × Int))
  | 0, _, _, _, _, _, _, _, _ => none
  | n + 1, a0, a1, a2, a3, a4, a5, a6, a7 => scan_Place_t8 (scan_Place_i8 n) a0 a1 a2 a3 a4 a5 a6 a7

noncomputable def scan_Place_l8 : Int → Int → Int → Int → Int → Int → Int → List (Spot) → Option ((Int × Int × Int × Int × Int) ⊕ (Int × Int × Int × Int)) := sealF (scan_Place_i8 fuel)

noncomputable def scan_Place_f (a0 : List UInt8) (a1 : Int) : Option (Spot × Int) :=
    Option.bind (scan_Runes a0) fun y0 =>
    bif Fault.code (Prod.fst y0) != (0 : Int) then
      some ((Spot.mk (0 : Int) (0 : Int) (0 : Int) (0 : Int)), (Fault.code (Prod.fst y0)))
    else
      bif a1 == (↑(List.length a0) : Int) then
        Option.bind (scan_gone a0) fun y1 =>
        some ((Spot.mk (Spot.rune (Prod.fst y1)) (Spot.at_ (Prod.fst y1)) (Spot.line (Prod.fst y1)) (Spot.col (Prod.fst y1))), ((0 : Int)))
      else
        Option.bind (scan_Place_l8 a1 (↑(List.length (Prod.snd y0)) : Int) (0 : Int) (0 : Int) (0 : Int) (0 : Int) (0 : Int) (Prod.snd y0)) fun y2 =>
        match y2 with
        | .inl y3 =>
          some ((Spot.mk (Prod.fst (Prod.snd y3)) (Prod.fst (Prod.snd (Prod.snd y3))) (Prod.fst (Prod.snd (Prod.snd (Prod.snd y3)))) (Prod.snd (Prod.snd (Prod.snd (Prod.snd y3))))), (Prod.fst y3))
        | .inr y3 =>
          some ((Spot.mk (0 : Int) (0 : Int) (0 : Int) (0 : Int)), ((1 : Int)))

noncomputable def scan_Place : List UInt8 → Int → Option (Spot × Int) := sealF scan_Place_f

noncomputable def racetreelaw01_shown_f : Option (Bool) :=
    Option.bind (scan_Runes [(97 : UInt8), (10 : UInt8), (195 : UInt8), (169 : UInt8)]) fun y0 =>
    Option.bind (scan_Text [(97 : Int), (233 : Int)]) fun y1 =>
    Option.bind (scan_Place [(97 : UInt8), (10 : UInt8), (195 : UInt8), (169 : UInt8)] (4 : Int)) fun y2 =>
    bif Fault.code (Prod.fst y0) == (0 : Int) then
      bif (↑(List.length (Prod.snd y0)) : Int) == (3 : Int) then
        bif decide ((0 : Int) ≤ (2 : Int)) && decide ((2 : Int) < (↑(List.length (Prod.snd y0)) : Int)) then
          Option.bind ((Prod.snd y0)[(2 : Nat)]?) fun y3 =>
          bif decide (y3 = Spot.mk (233 : Int) (2 : Int) (2 : Int) (1 : Int)) then
            bif Prod.snd y1 == (0 : Int) then
              bif Prod.fst y1 == [(97 : UInt8), (195 : UInt8), (169 : UInt8)] then
                bif Prod.snd y2 == (0 : Int) then
                  some (decide (Spot.mk (Spot.rune (Prod.fst y2)) (Spot.at_ (Prod.fst y2)) (Spot.line (Prod.fst y2)) (Spot.col (Prod.fst y2)) = Spot.mk (-1 : Int) (4 : Int) (2 : Int) (2 : Int)))
                else
                  some (false)
              else
                some (false)
            else
              some (false)
          else
            some (false)
        else
          none
      else
        some (false)
    else
      some (false)

noncomputable def racetreelaw01_shown : Option (Bool) := sealF racetreelaw01_shown_f

noncomputable def scan_Letter_f (a0 : Int) : Option (Bool) :=
    bif decide (a0 ≥ (97 : Int)) then
      bif decide (a0 ≤ (122 : Int)) then
        bif decide (a0 ≤ (122 : Int)) then
          some (true)
        else
          bif decide (a0 ≥ (192 : Int)) then
            Option.bind (scan_whole a0) fun y0 =>
            some (y0)
          else
            some (false)
      else
        bif decide (a0 ≥ (65 : Int)) then
          bif decide (a0 ≤ (90 : Int)) then
            bif decide (a0 ≤ (90 : Int)) then
              some (true)
            else
              bif decide (a0 ≥ (192 : Int)) then
                Option.bind (scan_whole a0) fun y1 =>
                some (y1)
              else
                some (false)
          else
            bif a0 == (95 : Int) then
              some (true)
            else
              bif decide (a0 ≥ (192 : Int)) then
                Option.bind (scan_whole a0) fun y2 =>
                some (y2)
              else
                some (false)
        else
          bif a0 == (95 : Int) then
            some (true)
          else
            bif decide (a0 ≥ (192 : Int)) then
              Option.bind (scan_whole a0) fun y3 =>
              some (y3)
            else
              some (false)
    else
      bif decide (a0 ≥ (65 : Int)) then
        bif decide (a0 ≤ (90 : Int)) then
          bif decide (a0 ≤ (90 : Int)) then
            some (true)
          else
            bif decide (a0 ≥ (192 : Int)) then
              Option.bind (scan_whole a0) fun y4 =>
              some (y4)
            else
              some (false)
        else
          bif a0 == (95 : Int) then
            some (true)
          else
            bif decide (a0 ≥ (192 : Int)) then
              Option.bind (scan_whole a0) fun y5 =>
              some (y5)
            else
              some (false)
      else
        bif a0 == (95 : Int) then
          some (true)
        else
          bif decide (a0 ≥ (192 : Int)) then
            Option.bind (scan_whole a0) fun y6 =>
            some (y6)
          else
            some (false)

noncomputable def scan_Letter : Int → Option (Bool) := sealF scan_Letter_f

noncomputable def scan_Digit_f (a0 : Int) : Option (Bool) :=
    bif decide (a0 ≥ (48 : Int)) then
      some (decide (a0 ≤ (57 : Int)))
    else
      some (false)

noncomputable def scan_Digit : Int → Option (Bool) := sealF scan_Digit_f

noncomputable def scan_Blank_f (a0 : Int) : Option (Bool) :=
    bif a0 == (9 : Int) then
      some (true)
    else
      bif a0 == (10 : Int) then
        some (true)
      else
        bif a0 == (13 : Int) then
          some (true)
        else
          some (a0 == (32 : Int))

noncomputable def scan_Blank : Int → Option (Bool) := sealF scan_Blank_f

noncomputable def racetreeref01_IsRune_f (a0 : Int) : Option (Bool) :=
    bif decide (a0 ≥ (0 : Int)) then
      bif decide (a0 ≤ (1114111 : Int)) then
        bif decide (a0 < (55296 : Int)) then
          some (true)
        else
          some (decide (a0 > (57343 : Int)))
      else
        some (false)
    else
      some (false)

noncomputable def racetreeref01_IsRune : Int → Option (Bool) := sealF racetreeref01_IsRune_f

noncomputable def racetreeref01_Letter_f (a0 : Int) : Option (Bool) :=
    Option.bind (racetreeref01_IsRune a0) fun y0 =>
    bif y0 then
      bif decide (a0 ≥ (65 : Int)) then
        bif decide (a0 ≤ (90 : Int)) then
          some (true)
        else
          bif a0 == (95 : Int) then
            some (true)
          else
            bif decide (a0 ≥ (97 : Int)) then
              bif decide (a0 ≤ (122 : Int)) then
                some (true)
              else
                some (decide (a0 ≥ (192 : Int)))
            else
              some (decide (a0 ≥ (192 : Int)))
      else
        bif a0 == (95 : Int) then
          some (true)
        else
          bif decide (a0 ≥ (97 : Int)) then
            bif decide (a0 ≤ (122 : Int)) then
              some (true)
            else
              some (decide (a0 ≥ (192 : Int)))
          else
            some (decide (a0 ≥ (192 : Int)))
    else
      some (false)

noncomputable def racetreeref01_Letter : Int → Option (Bool) := sealF racetreeref01_Letter_f

noncomputable def racetreeref01_Digit_f (a0 : Int) : Option (Bool) :=
    bif decide (a0 ≥ (48 : Int)) then
      some (decide (a0 ≤ (57 : Int)))
    else
      some (false)

noncomputable def racetreeref01_Digit : Int → Option (Bool) := sealF racetreeref01_Digit_f

noncomputable def racetreeref01_Blank_f (a0 : Int) : Option (Bool) :=
    bif a0 == (9 : Int) then
      some (true)
    else
      bif a0 == (10 : Int) then
        some (true)
      else
        bif a0 == (13 : Int) then
          some (true)
        else
          some (a0 == (32 : Int))

noncomputable def racetreeref01_Blank : Int → Option (Bool) := sealF racetreeref01_Blank_f

noncomputable def racetreelaw01_ScanClasses_f (a0 : Int) : Option (Bool) :=
    Option.bind (racetreelaw01_shown) fun y0 =>
    Option.bind (scan_Letter a0) fun y1 =>
    Option.bind (scan_Digit a0) fun y2 =>
    Option.bind (scan_Blank a0) fun y3 =>
    Option.bind (racetreeref01_Letter a0) fun y4 =>
    Option.bind (racetreeref01_Digit a0) fun y5 =>
    Option.bind (racetreeref01_Blank a0) fun y6 =>
    bif y0 then
      bif y1 == y4 then
        bif y2 == y5 then
          some (y3 == y6)
        else
          some (false)
      else
        some (false)
    else
      some (false)

noncomputable def racetreelaw01_ScanClasses : Int → Option (Bool) := sealF racetreelaw01_ScanClasses_f

noncomputable def racetreeref01_long_f (a0 : Int) : Option (Int) :=
    bif decide (a0 < (128 : Int)) then
      some ((1 : Int))
    else
      bif decide (a0 < (2048 : Int)) then
        some ((2 : Int))
      else
        bif decide (a0 < (65536 : Int)) then
          some ((3 : Int))
        else
          some ((4 : Int))

noncomputable def racetreeref01_long : Int → Option (Int) := sealF racetreeref01_long_f

noncomputable def racetreeref01_At_t18 (rec : List UInt8 → Int → Int → Int → Int → Option ((Int × Int) ⊕ (Int × Int))) (a0 : List UInt8) (a1 : Int) (a2 : Int) (a3 : Int) (a4 : Int) : Option ((Int × Int) ⊕ (Int × Int)) :=
    bif decide (a4 < a2) then
      bif decide ((0 : Int) ≤ IntKind.wrap IntKind.i64 (a1 + a4)) then
        Option.bind (a0[Int.toNat (IntKind.wrap IntKind.i64 (a1 + a4))]?) fun y0 =>
        bif decide (IntKind.wrap IntKind.i64 (↑(UInt8.toNat y0) : Int) < (128 : Int)) then
          some (.inl (((0 : Int)), ((0 : Int))))
        else
          bif decide (IntKind.wrap IntKind.i64 (↑(UInt8.toNat y0) : Int) > (191 : Int)) then
            some (.inl (((0 : Int)), ((0 : Int))))
          else
            rec (a0) (a1) (a2) (IntKind.wrap IntKind.i64 (IntKind.wrap IntKind.i64 (IntKind.wrap IntKind.i64 ((64 : Int) * a3) + IntKind.wrap IntKind.i64 (↑(UInt8.toNat y0) : Int)) - (128 : Int))) (IntKind.wrap IntKind.i64 (a4 + (1 : Int)))
      else
        none
    else
      some (.inr ((a2), (a3)))

noncomputable def racetreeref01_At_i18 : Nat → List UInt8 → Int → Int → Int → Int → Option ((Int × Int) ⊕ (Int × Int))
  | 0, _, _, _, _, _ => none
  | n + 1, a0, a1, a2, a3, a4 => racetreeref01_At_t18 (racetreeref01_At_i18 n) a0 a1 a2 a3 a4

noncomputable def racetreeref01_At_l18 : List UInt8 → Int → Int → Int → Int → Option ((Int × Int) ⊕ (Int × Int)) := sealF (racetreeref01_At_i18 fuel)

noncomputable def racetreeref01_At_f (a0 : List UInt8) (a1 : Int) : Option (Int × Int) :=
    bif decide ((0 : Int) ≤ a1) then
      Option.bind (a0[Int.toNat a1]?) fun y0 =>
      bif decide (IntKind.wrap IntKind.i64 (↑(UInt8.toNat y0) : Int) ≥ (240 : Int)) then
        bif decide (IntKind.wrap IntKind.i64 ((↑(List.length a0) : Int) - a1) < (4 : Int)) then
          some (((0 : Int)), ((0 : Int)))
        else
          Option.bind (racetreeref01_At_l18 a0 a1 (4 : Int) (IntKind.wrap IntKind.i64 (IntKind.wrap IntKind.i64 (↑(UInt8.toNat y0) : Int) - (240 : Int))) (1 : Int)) fun y1 =>
          match y1 with
          | .inl y2 =>
            some ((Prod.fst y2), (Prod.snd y2))
          | .inr y2 =>
            Option.bind (racetreeref01_IsRune (Prod.snd y2)) fun y3 =>
            bif !y3 then
              some (((0 : Int)), ((0 : Int)))
            else
              Option.bind (racetreeref01_long (Prod.snd y2)) fun y4 =>
              bif y4 != Prod.fst y2 then
                some (((0 : Int)), ((0 : Int)))
              else
                some ((Prod.snd y2), (Prod.fst y2))
      else
        bif decide (IntKind.wrap IntKind.i64 (↑(UInt8.toNat y0) : Int) ≥ (224 : Int)) then
          bif decide (IntKind.wrap IntKind.i64 ((↑(List.length a0) : Int) - a1) < (3 : Int)) then
            some (((0 : Int)), ((0 : Int)))
          else
            Option.bind (racetreeref01_At_l18 a0 a1 (3 : Int) (IntKind.wrap IntKind.i64 (IntKind.wrap IntKind.i64 (↑(UInt8.toNat y0) : Int) - (224 : Int))) (1 : Int)) fun y5 =>
            match y5 with
            | .inl y6 =>
              some ((Prod.fst y6), (Prod.snd y6))
            | .inr y6 =>
              Option.bind (racetreeref01_IsRune (Prod.snd y6)) fun y7 =>
              bif !y7 then
                some (((0 : Int)), ((0 : Int)))
              else
                Option.bind (racetreeref01_long (Prod.snd y6)) fun y8 =>
                bif y8 != Prod.fst y6 then
                  some (((0 : Int)), ((0 : Int)))
                else
                  some ((Prod.snd y6), (Prod.fst y6))
        else
          bif decide (IntKind.wrap IntKind.i64 (↑(UInt8.toNat y0) : Int) ≥ (192 : Int)) then
            bif decide (IntKind.wrap IntKind.i64 ((↑(List.length a0) : Int) - a1) < (2 : Int)) then
              some (((0 : Int)), ((0 : Int)))
            else
              Option.bind (racetreeref01_At_l18 a0 a1 (2 : Int) (IntKind.wrap IntKind.i64 (IntKind.wrap IntKind.i64 (↑(UInt8.toNat y0) : Int) - (192 : Int))) (1 : Int)) fun y9 =>
              match y9 with
              | .inl y10 =>
                some ((Prod.fst y10), (Prod.snd y10))
              | .inr y10 =>
                Option.bind (racetreeref01_IsRune (Prod.snd y10)) fun y11 =>
                bif !y11 then
                  some (((0 : Int)), ((0 : Int)))
                else
                  Option.bind (racetreeref01_long (Prod.snd y10)) fun y12 =>
                  bif y12 != Prod.fst y10 then
                    some (((0 : Int)), ((0 : Int)))
                  else
                    some ((Prod.snd y10), (Prod.fst y10))
          else
            bif decide (IntKind.wrap IntKind.i64 (↑(UInt8.toNat y0) : Int) ≥ (128 : Int)) then
              some (((0 : Int)), ((0 : Int)))
            else
              bif decide (IntKind.wrap IntKind.i64 ((↑(List.length a0) : Int) - a1) < (1 : Int)) then
                some (((0 : Int)), ((0 : Int)))
              else
                Option.bind (racetreeref01_At_l18 a0 a1 (1 : Int) (IntKind.wrap IntKind.i64 (↑(UInt8.toNat y0) : Int)) (1 : Int)) fun y13 =>
                match y13 with
                | .inl y14 =>
                  some ((Prod.fst y14), (Prod.snd y14))
                | .inr y14 =>
                  Option.bind (racetreeref01_IsRune (Prod.snd y14)) fun y15 =>
                  bif !y15 then
                    some (((0 : Int)), ((0 : Int)))
                  else
                    Option.bind (racetreeref01_long (Prod.snd y14)) fun y16 =>
                    bif y16 != Prod.fst y14 then
                      some (((0 : Int)), ((0 : Int)))
                    else
                      some ((Prod.snd y14), (Prod.fst y14))
    else
      none

noncomputable def racetreeref01_At : List UInt8 → Int → Option (Int × Int) := sealF racetreeref01_At_f

noncomputable def racetreeref01_on_f (a0 : Spot) (a1 : Int) (a2 : Int) : Option (Spot) :=
    bif a1 == (10 : Int) then
      some (Spot.mk (Spot.rune a0) (IntKind.wrap IntKind.i64 (Spot.at_ a0 + a2)) (IntKind.wrap IntKind.i64 (Spot.line a0 + (1 : Int))) (1 : Int))
    else
      some (Spot.mk (Spot.rune a0) (IntKind.wrap IntKind.i64 (Spot.at_ a0 + a2)) (Spot.line a0) (IntKind.wrap IntKind.i64 (Spot.col a0 + (1 : Int))))

noncomputable def racetreeref01_on : Spot → Int → Int → Option (Spot) := sealF racetreeref01_on_f

noncomputable def racetreeref01_spots_t3 (rec : List UInt8 → Int → Int → Int → Int → Int → Int → Int → Int → List (Spot) → Option (Int × Int × Int × Int × Int × Int × Int × Int × (List (Spot)))) (a0 : List UInt8) (a1 : Int) (a2 : Int) (a3 : Int) (a4 : Int) (a5 : Int) (a6 : Int) (a7 : Int) (a8 : Int) (a9 : List (Spot)) : Option (Int × Int × Int × Int × Int × Int × Int × Int × (List (Spot))) :=
    bif decide (a6 < (↑(List.length a0) : Int)) then
      Option.bind (racetreeref01_At a0 a6) fun y0 =>
      bif Prod.snd y0 == (0 : Int) then
        some ((a1), (a2), (a3), (a4), (a5), (a6), (a7), (a8), (a9))
      else
        bif decide ((List.length a9 + List.length [Spot.mk (Prod.fst y0) a6 a7 a8]) * (32 : Nat) ≤ (140737488355328 : Nat) ∧ List.length a9 + List.length [Spot.mk (Prod.fst y0) a6 a7 a8] ≤ (9223372036854775807 : Nat)) then
          Option.bind (racetreeref01_on (Spot.mk (Prod.fst y0) a6 a7 a8) (Prod.fst y0) (Prod.snd y0)) fun y1 =>
          rec (a0) (a1) (a2) (a3) (a4) (Spot.rune y1) (Spot.at_ y1) (Spot.line y1) (Spot.col y1) (a9 ++ [Spot.mk (Prod.fst y0) a6 a7 a8])
        else
          none
    else
      some ((a1), (a2), (a3), (a4), (a5), (a6), (a7), (a8), (a9))

noncomputable def racetreeref01_spots_i3 : Nat → List UInt8 → Int → Int → Int → Int → Int → Int → Int → Int → List (Spot) → Option (Int × Int × Int × Int × Int × Int × Int × Int × (List (Spot)))
  | 0, _, _, _, _, _, _, _, _, _, _ => none
  | n + 1, a0, a1, a2, a3, a4, a5, a6, a7, a8, a9 => racetreeref01_spots_t3 (racetreeref01_spots_i3 n) a0 a1 a2 a3 a4 a5 a6 a7 a8 a9

noncomputable def racetreeref01_spots_l3 : List UInt8 → Int → Int → Int → Int → Int → Int → Int → Int → List (Spot) → Option (Int × Int × Int × Int × Int × Int × Int × Int × (List (Spot))) := sealF (racetreeref01_spots_i3 fuel)

noncomputable def racetreeref01_spots_f (a0 : List UInt8) : Option (Spot × (List (Spot))) :=
    Option.bind (racetreeref01_spots_l3 a0 (0 : Int) (0 : Int) (0 : Int) (0 : Int) (0 : Int) (0 : Int) (1 : Int) (1 : Int) []) fun y0 =>
    some ((Spot.mk (-1 : Int) (Prod.fst (Prod.snd (Prod.snd (Prod.snd (Prod.snd (Prod.snd y0)))))) (Prod.fst (Prod.snd (Prod.snd (Prod.snd (Prod.snd (Prod.snd (Prod.snd y0))))))) (Prod.fst (Prod.snd (Prod.snd (Prod.snd (Prod.snd (Prod.snd (Prod.snd (Prod.snd y0))))))))), (Prod.snd (Prod.snd (Prod.snd (Prod.snd (Prod.snd (Prod.snd (Prod.snd (Prod.snd y0)))))))))

noncomputable def racetreeref01_spots : List UInt8 → Option (Spot × (List (Spot))) := sealF racetreeref01_spots_f

noncomputable def racetreeref01_Runes_f (a0 : List UInt8) : Option (Fault × (List (Spot))) :=
    bif decide ((↑(List.length a0) : Int) > (4000 : Int)) then
      some ((Fault.mk (10 : Int) (4000 : Int) []), ([]))
    else
      Option.bind (racetreeref01_spots a0) fun y0 =>
      bif decide (Spot.at_ (Prod.fst y0) < (↑(List.length a0) : Int)) then
        some ((Fault.mk (11 : Int) (Spot.at_ (Prod.fst y0)) []), ([]))
      else
        some ((Fault.mk (0 : Int) (0 : Int) []), (Prod.snd y0))

noncomputable def racetreeref01_Runes : List UInt8 → Option (Fault × (List (Spot))) := sealF racetreeref01_Runes_f

noncomputable def racetreeref01_Place_t5 (rec : List UInt8 → Int → Int → Int → Int → Int → Int → List (Spot) → Option ((Int × Int × Int × Int × Int) ⊕ ((List UInt8) × Int × Int × Int × Int × Int))) (a0 : List UInt8) (a1 : Int) (a2 : Int) (a3 : Int) (a4 : Int) (a5 : Int) (a6 : Int) (a7 : List (Spot)) : Option ((Int × Int × Int × Int × Int) ⊕ ((List UInt8) × Int × Int × Int × Int × Int)) :=
    bif decide (a2 < (↑(List.length a7) : Int)) then
      bif decide ((0 : Int) ≤ a2) && decide (a2 < (↑(List.length a7) : Int)) then
        Option.bind (a7[Int.toNat a2]?) fun y0 =>
        bif Spot.at_ y0 == a1 then
          bif decide ((0 : Int) ≤ a2) && decide (a2 < (↑(List.length a7) : Int)) then
            Option.bind (a7[Int.toNat a2]?) fun y1 =>
            some (.inl (((0 : Int)), (Spot.rune y1), (Spot.at_ y1), (Spot.line y1), (Spot.col y1)))
          else
            none
        else
          rec (a0) (a1) (IntKind.wrap IntKind.i64 (a2 + (1 : Int))) (a3) (a4) (a5) (a6) (a7)
      else
        none
    else
      some (.inr ((a0), (a1), (a3), (a4), (a5), (a6)))

noncomputable def racetreeref01_Place_i5 : Nat → List UInt8 → Int → Int → Int → Int → Int → Int → List (Spot) → Option ((Int × Int × Int × Int × Int) ⊕ ((List UInt8) × Int × Int × Int × Int × Int))
  | 0, _, _, _, _, _, _, _, _ => none
  | n + 1, a0, a1, a2, a3, a4, a5, a6, a7 => racetreeref01_Place_t5 (racetreeref01_Place_i5 n) a0 a1 a2 a3 a4 a5 a6 a7

noncomputable def racetreeref01_Place_l5 : List UInt8 → Int → Int → Int → Int → Int → Int → List (Spot) → Option ((Int × Int × Int × Int × Int) ⊕ ((List UInt8) × Int × Int × Int × Int × Int)) := sealF (racetreeref01_Place_i5 fuel)

noncomputable def racetreeref01_Place_f (a0 : List UInt8) (a1 : Int) : Option (Spot × Int) :=
    Option.bind (racetreeref01_Runes a0) fun y0 =>
    bif Fault.code (Prod.fst y0) != (0 : Int) then
      some ((Spot.mk (0 : Int) (0 : Int) (0 : Int) (0 : Int)), (Fault.code (Prod.fst y0)))
    else
      Option.bind (racetreeref01_Place_l5 a0 a1 (0 : Int) (0 : Int) (0 : Int) (0 : Int) (0 : Int) (Prod.snd y0)) fun y1 =>
      match y1 with
      | .inl y2 =>
        some ((Spot.mk (Prod.fst (Prod.snd y2)) (Prod.fst (Prod.snd (Prod.snd y2))) (Prod.fst (Prod.snd (Prod.snd (Prod.snd y2)))) (Prod.snd (Prod.snd (Prod.snd (Prod.snd y2))))), (Prod.fst y2))
      | .inr y2 =>
        bif Prod.fst (Prod.snd y2) != (↑(List.length (Prod.fst y2)) : Int) then
          some ((Spot.mk (0 : Int) (0 : Int) (0 : Int) (0 : Int)), ((1 : Int)))
        else
          Option.bind (racetreeref01_spots (Prod.fst y2)) fun y3 =>
          some ((Spot.mk (Spot.rune (Prod.fst y3)) (Spot.at_ (Prod.fst y3)) (Spot.line (Prod.fst y3)) (Spot.col (Prod.fst y3))), ((0 : Int)))

noncomputable def racetreeref01_Place : List UInt8 → Int → Option (Spot × Int) := sealF racetreeref01_Place_f

noncomputable def racetreelaw01_ScanPlaces_f (a0 : List UInt8) (a1 : Int) : Option (Bool) :=
    Option.bind (racetreelaw01_shown) fun y0 =>
    Option.bind (racetreeref01_Place a0 a1) fun y1 =>
    Option.bind (scan_Place a0 a1) fun y2 =>
    bif y0 then
      bif Prod.snd y2 == Prod.snd y1 then
        some (decide (Spot.mk (Spot.rune (Prod.fst y2)) (Spot.at_ (Prod.fst y2)) (Spot.line (Prod.fst y2)) (Spot.col (Prod.fst y2)) = Spot.mk (Spot.rune (Prod.fst y1)) (Spot.at_ (Prod.fst y1)) (Spot.line (Prod.fst y1)) (Spot.col (Prod.fst y1))))
      else
        some (false)
    else
      some (false)

noncomputable def racetreelaw01_ScanPlaces : List UInt8 → Int → Option (Bool) := sealF racetreelaw01_ScanPlaces_f

noncomputable def racetreelaw01_ScanCut_f (a0 : List UInt8) (a1 : List UInt8) : Option (Bool) :=
    Option.bind (racetreelaw01_shown) fun y0 =>
    Option.bind (scan_Runes a0) fun y1 =>
    bif !y0 then
      some (y0)
    else
      bif Fault.code (Prod.fst y1) != (11 : Int) then
        some (y0)
      else
        bif decide (Fault.at_ (Prod.fst y1) < (0 : Int)) then
          some (false)
        else
          bif decide (Fault.at_ (Prod.fst y1) ≥ (↑(List.length a0) : Int)) then
            some (false)
          else
            bif decide ((0 : Int) ≤ (0 : Int)) && (decide ((0 : Int) ≤ Fault.at_ (Prod.fst y1)) && decide (Fault.at_ (Prod.fst y1) ≤ (↑(List.length a0) : Int))) then
              Option.bind (scan_Runes (List.drop (0 : Nat) (List.take (Int.toNat (Fault.at_ (Prod.fst y1))) a0))) fun y2 =>
              bif Fault.code (Prod.fst y2) != (0 : Int) then
                some (Fault.code (Prod.fst y2) == (0 : Int))
              else
                bif decide (IntKind.wrap IntKind.i64 ((↑(List.length a0) : Int) - Fault.at_ (Prod.fst y1)) < (4 : Int)) then
                  some (Fault.code (Prod.fst y2) == (0 : Int))
                else
                  bif decide ((0 : Int) ≤ (0 : Int)) && (decide ((0 : Int) ≤ IntKind.wrap IntKind.i64 (Fault.at_ (Prod.fst y1) + (4 : Int))) && decide (IntKind.wrap IntKind.i64 (Fault.at_ (Prod.fst y1) + (4 : Int)) ≤ (↑(List.length a0) : Int))) then
                    bif decide (List.length (List.drop (0 : Nat) (List.take (Int.toNat (IntKind.wrap IntKind.i64 (Fault.at_ (Prod.fst y1) + (4 : Int)))) a0)) + List.length a1 ≤ (9223372036854775807 : Nat)) then
                      bif decide ((↑(List.length (List.drop (0 : Nat) (List.take (Int.toNat (IntKind.wrap IntKind.i64 (Fault.at_ (Prod.fst y1) + (4 : Int)))) a0) ++ a1)) : Int) > (4000 : Int)) then
                        some (true)
                      else
                        Option.bind (scan_Runes (List.drop (0 : Nat) (List.take (Int.toNat (IntKind.wrap IntKind.i64 (Fault.at_ (Prod.fst y1) + (4 : Int)))) a0) ++ a1)) fun y3 =>
                        some (decide (Fault.mk (Fault.code (Prod.fst y3)) (Fault.at_ (Prod.fst y3)) (Fault.name (Prod.fst y3)) = Fault.mk (Fault.code (Prod.fst y1)) (Fault.at_ (Prod.fst y1)) (Fault.name (Prod.fst y1))))
                    else
                      none
                  else
                    none
            else
              none

noncomputable def racetreelaw01_ScanCut : List UInt8 → List UInt8 → Option (Bool) := sealF racetreelaw01_ScanCut_f

noncomputable def racetreelaw01_ScanThere_t9 (rec : List (Int) → Int → List (Spot) → Option ((Bool) ⊕ (Unit))) (a0 : List (Int)) (a1 : Int) (a2 : List (Spot)) : Option ((Bool) ⊕ (Unit)) :=
    bif decide (a1 < (↑(List.length a0) : Int)) then
      bif decide ((0 : Int) ≤ a1) && decide (a1 < (↑(List.length a2) : Int)) then
        Option.bind (a2[Int.toNat a1]?) fun y0 =>
        bif decide ((0 : Int) ≤ a1) then
          Option.bind (a0[Int.toNat a1]?) fun y1 =>
          bif Spot.rune y0 != y1 then
            some (.inl (false))
          else
            rec (a0) (IntKind.wrap IntKind.i64 (a1 + (1 : Int))) (a2)
        else
          none
      else
        none
    else
      some (.inr ())

noncomputable def racetreelaw01_ScanThere_i9 : Nat → List (Int) → Int → List (Spot) → Option ((Bool) ⊕ (Unit))
  | 0, _, _, _ => none
  | n + 1, a0, a1, a2 => racetreelaw01_ScanThere_t9 (racetreelaw01_ScanThere_i9 n) a0 a1 a2

noncomputable def racetreelaw01_ScanThere_l9 : List (Int) → Int → List (Spot) → Option ((Bool) ⊕ (Unit)) := sealF (racetreelaw01_ScanThere_i9 fuel)

noncomputable def racetreelaw01_ScanThere_f (a0 : List (Int)) : Option (Bool) :=
    Option.bind (racetreelaw01_shown) fun y0 =>
    Option.bind (scan_Text a0) fun y1 =>
    bif !y0 then
      bif y0 then
        some (Prod.fst y1 == [])
      else
        some (false)
    else
      bif Prod.snd y1 != (0 : Int) then
        bif y0 then
          some (Prod.fst y1 == [])
        else
          some (false)
      else
        Option.bind (scan_Runes (Prod.fst y1)) fun y2 =>
        bif Fault.code (Prod.fst y2) != (0 : Int) then
          some (false)
        else
          bif (↑(List.length (Prod.snd y2)) : Int) != (↑(List.length a0) : Int) then
            some (false)
          else
            Option.bind (racetreelaw01_ScanThere_l9 a0 (0 : Int) (Prod.snd y2)) fun y3 =>
            match y3 with
            | .inl y4 =>
              some (y4)
            | .inr y4 =>
              some (true)

noncomputable def racetreelaw01_ScanThere : List (Int) → Option (Bool) := sealF racetreelaw01_ScanThere_f

noncomputable def racetreelaw01_same_t4 (rec : List (Spot) → List (Spot) → Int → Option ((Bool) ⊕ (Unit))) (a0 : List (Spot)) (a1 : List (Spot)) (a2 : Int) : Option ((Bool) ⊕ (Unit)) :=
    bif decide (a2 < (↑(List.length a0) : Int)) then
      bif decide ((0 : Int) ≤ a2) then
        Option.bind (a0[Int.toNat a2]?) fun y0 =>
        bif decide ((0 : Int) ≤ a2) then
          Option.bind (a1[Int.toNat a2]?) fun y1 =>
          bif !decide (y0 = y1) then
            some (.inl (false))
          else
            rec (a0) (a1) (IntKind.wrap IntKind.i64 (a2 + (1 : Int)))
        else
          none
      else
        none
    else
      some (.inr ())

noncomputable def racetreelaw01_same_i4 : Nat → List (Spot) → List (Spot) → Int → Option ((Bool) ⊕ (Unit))
  | 0, _, _, _ => none
  | n + 1, a0, a1, a2 => racetreelaw01_same_t4 (racetreelaw01_same_i4 n) a0 a1 a2

noncomputable def racetreelaw01_same_l4 : List (Spot) → List (Spot) → Int → Option ((Bool) ⊕ (Unit)) := sealF (racetreelaw01_same_i4 fuel)

noncomputable def racetreelaw01_same_f (a0 : List (Spot)) (a1 : List (Spot)) : Option (Bool) :=
    bif (↑(List.length a0) : Int) != (↑(List.length a1) : Int) then
      some (false)
    else
      Option.bind (racetreelaw01_same_l4 a0 a1 (0 : Int)) fun y0 =>
      match y0 with
      | .inl y1 =>
        some (y1)
      | .inr y1 =>
        some (true)

noncomputable def racetreelaw01_same : List (Spot) → List (Spot) → Option (Bool) := sealF racetreelaw01_same_f

noncomputable def racetreelaw01_ScanBack_t7 (rec : List UInt8 → Int → Int → List (Spot) → List (Int) → Option ((List UInt8) × Int × (List (Spot)) × (List (Int)))) (a0 : List UInt8) (a1 : Int) (a2 : Int) (a3 : List (Spot)) (a4 : List (Int)) : Option ((List UInt8) × Int × (List (Spot)) × (List (Int))) :=
    bif decide (a2 < (↑(List.length a3) : Int)) then
      bif decide ((0 : Int) ≤ a2) && decide (a2 < (↑(List.length a3) : Int)) then
        Option.bind (a3[Int.toNat a2]?) fun y0 =>
        bif decide ((List.length a4 + List.length [Spot.rune y0]) * (8 : Nat) ≤ (140737488355328 : Nat) ∧ List.length a4 + List.length [Spot.rune y0] ≤ (9223372036854775807 : Nat)) then
          rec (a0) (a1) (IntKind.wrap IntKind.i64 (a2 + (1 : Int))) (a3) (a4 ++ [Spot.rune y0])
        else
          none
      else
        none
    else
      some ((a0), (a1), (a3), (a4))

noncomputable def racetreelaw01_ScanBack_i7 : Nat → List UInt8 → Int → Int → List (Spot) → List (Int) → Option ((List UInt8) × Int × (List (Spot)) × (List (Int)))
  | 0, _, _, _, _, _ => none
  | n + 1, a0, a1, a2, a3, a4 => racetreelaw01_ScanBack_t7 (racetreelaw01_ScanBack_i7 n) a0 a1 a2 a3 a4

noncomputable def racetreelaw01_ScanBack_l7 : List UInt8 → Int → Int → List (Spot) → List (Int) → Option ((List UInt8) × Int × (List (Spot)) × (List (Int))) := sealF (racetreelaw01_ScanBack_i7 fuel)

noncomputable def racetreelaw01_ScanBack_f (a0 : List UInt8) (a1 : Int) : Option (Bool) :=
    Option.bind (racetreelaw01_shown) fun y0 =>
    Option.bind (scan_Runes a0) fun y1 =>
    bif !y0 then
      bif y0 then
        some ((↑(List.length (Prod.snd y1)) : Int) == (0 : Int))
      else
        some (false)
    else
      bif Fault.code (Prod.fst y1) != (0 : Int) then
        bif y0 then
          some ((↑(List.length (Prod.snd y1)) : Int) == (0 : Int))
        else
          some (false)
      else
        Option.bind (racetreelaw01_ScanBack_l7 a0 a1 (0 : Int) (Prod.snd y1) []) fun y2 =>
        Option.bind (scan_Text (Prod.snd (Prod.snd (Prod.snd y2)))) fun y3 =>
        bif Prod.snd y3 != (0 : Int) then
          bif Prod.snd y3 == (0 : Int) then
            some (Prod.fst y3 == Prod.fst y2)
          else
            some (false)
        else
          bif !Prod.fst y3 == Prod.fst y2 then
            bif Prod.snd y3 == (0 : Int) then
              some (Prod.fst y3 == Prod.fst y2)
            else
              some (false)
          else
            bif (↑(List.length (Prod.fst (Prod.snd (Prod.snd y2)))) : Int) == (0 : Int) then
              bif Prod.snd y3 == (0 : Int) then
                some (Prod.fst y3 == Prod.fst y2)
              else
                some (false)
            else
              bif decide (Prod.fst (Prod.snd y2) < (0 : Int)) then
                bif Prod.snd y3 == (0 : Int) then
                  some (Prod.fst y3 == Prod.fst y2)
                else
                  some (false)
              else
                bif (↑(List.length (Prod.fst (Prod.snd (Prod.snd y2)))) : Int) == (0 : Int) then
                  none
                else
                  bif decide ((0 : Int) ≤ Int.tmod (Prod.fst (Prod.snd y2)) (↑(List.length (Prod.fst (Prod.snd (Prod.snd y2)))) : Int)) && decide (Int.tmod (Prod.fst (Prod.snd y2)) (↑(List.length (Prod.fst (Prod.snd (Prod.snd y2)))) : Int) < (↑(List.length (Prod.fst (Prod.snd (Prod.snd y2)))) : Int)) then
                    Option.bind ((Prod.fst (Prod.snd (Prod.snd y2)))[Int.toNat (Int.tmod (Prod.fst (Prod.snd y2)) (↑(List.length (Prod.fst (Prod.snd (Prod.snd y2)))) : Int))]?) fun y4 =>
                    bif decide (Spot.at_ y4 < (0 : Int)) then
                      some (false)
                    else
                      bif decide (Spot.at_ y4 > (↑(List.length (Prod.fst y2)) : Int)) then
                        some (false)
                      else
                        Option.bind (scan_Place (Prod.fst y2) (Spot.at_ y4)) fun y5 =>
                        bif decide ((0 : Int) ≤ (0 : Int)) && (decide ((0 : Int) ≤ Spot.at_ y4) && decide (Spot.at_ y4 ≤ (↑(List.length (Prod.fst y2)) : Int))) then
                          Option.bind (scan_Runes (List.drop (0 : Nat) (List.take (Int.toNat (Spot.at_ y4)) (Prod.fst y2)))) fun y6 =>
                          bif decide ((0 : Int) ≤ (0 : Int)) && (decide ((0 : Int) ≤ Int.tmod (Prod.fst (Prod.snd y2)) (↑(List.length (Prod.fst (Prod.snd (Prod.snd y2)))) : Int)) && decide (Int.tmod (Prod.fst (Prod.snd y2)) (↑(List.length (Prod.fst (Prod.snd (Prod.snd y2)))) : Int) ≤ (↑(List.length (Prod.fst (Prod.snd (Prod.snd y2)))) : Int))) then
                            Option.bind (racetreelaw01_same (Prod.snd y6) (List.drop (0 : Nat) (List.take (Int.toNat (Int.tmod (Prod.fst (Prod.snd y2)) (↑(List.length (Prod.fst (Prod.snd (Prod.snd y2)))) : Int))) (Prod.fst (Prod.snd (Prod.snd y2)))))) fun y7 =>
                            bif Prod.snd y5 == (0 : Int) then
                              bif decide ((0 : Int) ≤ Int.tmod (Prod.fst (Prod.snd y2)) (↑(List.length (Prod.fst (Prod.snd (Prod.snd y2)))) : Int)) && decide (Int.tmod (Prod.fst (Prod.snd y2)) (↑(List.length (Prod.fst (Prod.snd (Prod.snd y2)))) : Int) < (↑(List.length (Prod.fst (Prod.snd (Prod.snd y2)))) : Int)) then
                                Option.bind ((Prod.fst (Prod.snd (Prod.snd y2)))[Int.toNat (Int.tmod (Prod.fst (Prod.snd y2)) (↑(List.length (Prod.fst (Prod.snd (Prod.snd y2)))) : Int))]?) fun y8 =>
                                bif decide (Spot.mk (Spot.rune (Prod.fst y5)) (Spot.at_ (Prod.fst y5)) (Spot.line (Prod.fst y5)) (Spot.col (Prod.fst y5)) = y8) then
                                  bif Fault.code (Prod.fst y6) == (0 : Int) then
                                    some (y7)
                                  else
                                    some (false)
                                else
                                  some (false)
                              else
                                none
                            else
                              some (false)
                          else
                            none
                        else
                          none
                  else
                    none

noncomputable def racetreelaw01_ScanBack : List UInt8 → Int → Option (Bool) := sealF racetreelaw01_ScanBack_f

noncomputable def racetreeref01_Encoded_f (a0 : Int) : Option ((List (Int))) :=
    Option.bind (racetreeref01_long a0) fun y0 =>
    bif y0 == (1 : Int) then
      some ([IntKind.wrap IntKind.u8 a0])
    else
      bif y0 == (2 : Int) then
        some ([IntKind.wrap IntKind.u8 (IntKind.wrap IntKind.i64 ((192 : Int) + IntKind.wrap IntKind.i64 (Int.tdiv a0 (64 : Int)))), IntKind.wrap IntKind.u8 (IntKind.wrap IntKind.i64 ((128 : Int) + Int.tmod a0 (64 : Int)))])
      else
        bif y0 == (3 : Int) then
          some ([IntKind.wrap IntKind.u8 (IntKind.wrap IntKind.i64 ((224 : Int) + IntKind.wrap IntKind.i64 (Int.tdiv a0 (4096 : Int)))), IntKind.wrap IntKind.u8 (IntKind.wrap IntKind.i64 ((128 : Int) + Int.tmod (IntKind.wrap IntKind.i64 (Int.tdiv a0 (64 : Int))) (64 : Int))), IntKind.wrap IntKind.u8 (IntKind.wrap IntKind.i64 ((128 : Int) + Int.tmod a0 (64 : Int)))])
        else
          some ([IntKind.wrap IntKind.u8 (IntKind.wrap IntKind.i64 ((240 : Int) + IntKind.wrap IntKind.i64 (Int.tdiv a0 (262144 : Int)))), IntKind.wrap IntKind.u8 (IntKind.wrap IntKind.i64 ((128 : Int) + Int.tmod (IntKind.wrap IntKind.i64 (Int.tdiv a0 (4096 : Int))) (64 : Int))), IntKind.wrap IntKind.u8 (IntKind.wrap IntKind.i64 ((128 : Int) + Int.tmod (IntKind.wrap IntKind.i64 (Int.tdiv a0 (64 : Int))) (64 : Int))), IntKind.wrap IntKind.u8 (IntKind.wrap IntKind.i64 ((128 : Int) + Int.tmod a0 (64 : Int)))])

noncomputable def racetreeref01_Encoded : Int → Option ((List (Int))) := sealF racetreeref01_Encoded_f

noncomputable def racetreeref01_Text_t5 (rec : List (Int) → Int → List (Int) → Option (((List UInt8) × Int) ⊕ ((List (Int))))) (a0 : List (Int)) (a1 : Int) (a2 : List (Int)) : Option (((List UInt8) × Int) ⊕ ((List (Int)))) :=
    bif decide (a1 < (↑(List.length a0) : Int)) then
      bif decide ((0 : Int) ≤ a1) then
        Option.bind (a0[Int.toNat a1]?) fun y0 =>
        Option.bind (racetreeref01_IsRune y0) fun y1 =>
        bif !y1 then
          some (.inl (([]), ((1 : Int))))
        else
          bif decide ((0 : Int) ≤ a1) then
            Option.bind (a0[Int.toNat a1]?) fun y2 =>
            Option.bind (racetreeref01_Encoded y2) fun y3 =>
            bif decide ((List.length a2 + List.length y3) * (1 : Nat) ≤ (140737488355328 : Nat) ∧ List.length a2 + List.length y3 ≤ (9223372036854775807 : Nat)) then
              rec (a0) (IntKind.wrap IntKind.i64 (a1 + (1 : Int))) (a2 ++ y3)
            else
              none
          else
            none
      else
        none
    else
      some (.inr (a2))

noncomputable def racetreeref01_Text_i5 : Nat → List (Int) → Int → List (Int) → Option (((List UInt8) × Int) ⊕ ((List (Int))))
  | 0, _, _, _ => none
  | n + 1, a0, a1, a2 => racetreeref01_Text_t5 (racetreeref01_Text_i5 n) a0 a1 a2

noncomputable def racetreeref01_Text_l5 : List (Int) → Int → List (Int) → Option (((List UInt8) × Int) ⊕ ((List (Int)))) := sealF (racetreeref01_Text_i5 fuel)

noncomputable def racetreeref01_Text_f (a0 : List (Int)) : Option ((List UInt8) × Int) :=
    bif decide ((↑(List.length a0) : Int) > (4000 : Int)) then
      some (([]), ((10 : Int)))
    else
      Option.bind (racetreeref01_Text_l5 a0 (0 : Int) []) fun y0 =>
      match y0 with
      | .inl y1 =>
        some ((Prod.fst y1), (Prod.snd y1))
      | .inr y1 =>
        bif decide ((↑(List.length y1) : Int) > (4000 : Int)) then
          some (([]), ((10 : Int)))
        else
          some ((bytesOf y1), ((0 : Int)))

noncomputable def racetreeref01_Text : List (Int) → Option ((List UInt8) × Int) := sealF racetreeref01_Text_f

noncomputable def racetreelaw01_ScanTexts_t10 (rec : List (Int) → Bool → List (Int) → List UInt8 → Int → List UInt8 → Int → Bool → Int → Option (Bool × (List UInt8) × Int × (List UInt8) × Int × Bool)) (a0 : List (Int)) (a1 : Bool) (a2 : List (Int)) (a3 : List UInt8) (a4 : Int) (a5 : List UInt8) (a6 : Int) (a7 : Bool) (a8 : Int) : Option (Bool × (List UInt8) × Int × (List UInt8) × Int × Bool) :=
    bif decide (a8 < (↑(List.length a0) : Int)) then
      bif a7 then
        bif decide ((0 : Int) ≤ a8) then
          Option.bind (a2[Int.toNat a8]?) fun y0 =>
          bif decide ((0 : Int) ≤ a8) then
            Option.bind (a0[Int.toNat a8]?) fun y1 =>
            rec (a0) (a1) (a2) (a3) (a4) (a5) (a6) (y0 == y1) (IntKind.wrap IntKind.i64 (a8 + (1 : Int)))
          else
            none
        else
          none
      else
        rec (a0) (a1) (a2) (a3) (a4) (a5) (a6) (false) (IntKind.wrap IntKind.i64 (a8 + (1 : Int)))
    else
      some ((a1), (a3), (a4), (a5), (a6), (a7))

noncomputable def racetreelaw01_ScanTexts_i10 : Nat → List (Int) → Bool → List (Int) → List UInt8 → Int → List UInt8 → Int → Bool → Int → Option (Bool × (List UInt8) × Int × (List UInt8) × Int × Bool)
  | 0, _, _, _, _, _, _, _, _, _ => none
  | n + 1, a0, a1, a2, a3, a4, a5, a6, a7, a8 => racetreelaw01_ScanTexts_t10 (racetreelaw01_ScanTexts_i10 n) a0 a1 a2 a3 a4 a5 a6 a7 a8

noncomputable def racetreelaw01_ScanTexts_l10 : List (Int) → Bool → List (Int) → List UInt8 → Int → List UInt8 → Int → Bool → Int → Option (Bool × (List UInt8) × Int × (List UInt8) × Int × Bool) := sealF (racetreelaw01_ScanTexts_i10 fuel)

noncomputable def racetreelaw01_ScanTexts_f (a0 : List (Int)) : Option (Bool) :=
    Option.bind (racetreelaw01_shown) fun y0 =>
    bif decide ((0 : Int) ≤ IntKind.wrap IntKind.i64 ((↑(List.length a0) : Int) + (2 : Int))) && (decide (IntKind.wrap IntKind.i64 ((↑(List.length a0) : Int) + (2 : Int)) = IntKind.wrap IntKind.i64 ((↑(List.length a0) : Int) + (2 : Int))) && decide (Int.toNat (IntKind.wrap IntKind.i64 ((↑(List.length a0) : Int) + (2 : Int))) * (8 : Nat) ≤ (140737488355328 : Nat) ∧ Int.toNat (IntKind.wrap IntKind.i64 ((↑(List.length a0) : Int) + (2 : Int))) ≤ (9223372036854775807 : Nat))) then
      bif decide ((0 : Int) ≤ (↑(List.length a0) : Int)) && decide ((↑(List.length a0) : Int) < (↑(List.length (List.take (List.length (List.replicate (Int.toNat (IntKind.wrap IntKind.i64 ((↑(List.length a0) : Int) + (2 : Int)))) (0 : Int))) a0 ++ List.drop (List.length a0) (List.replicate (Int.toNat (IntKind.wrap IntKind.i64 ((↑(List.length a0) : Int) + (2 : Int)))) (0 : Int)))) : Int)) then
        Option.bind ((List.take (List.length (List.replicate (Int.toNat (IntKind.wrap IntKind.i64 ((↑(List.length a0) : Int) + (2 : Int)))) (0 : Int))) a0 ++ List.drop (List.length a0) (List.replicate (Int.toNat (IntKind.wrap IntKind.i64 ((↑(List.length a0) : Int) + (2 : Int)))) (0 : Int)))[Int.toNat (↑(List.length a0) : Int)]?) fun y1 =>
        bif decide ((0 : Int) ≤ IntKind.wrap IntKind.i64 ((↑(List.length a0) : Int) + (1 : Int))) && decide (IntKind.wrap IntKind.i64 ((↑(List.length a0) : Int) + (1 : Int)) < (↑(List.length (List.set (List.take (List.length (List.replicate (Int.toNat (IntKind.wrap IntKind.i64 ((↑(List.length a0) : Int) + (2 : Int)))) (0 : Int))) a0 ++ List.drop (List.length a0) (List.replicate (Int.toNat (IntKind.wrap IntKind.i64 ((↑(List.length a0) : Int) + (2 : Int)))) (0 : Int))) (Int.toNat (↑(List.length a0) : Int)) (-77 : Int))) : Int)) then
          Option.bind ((List.set (List.take (List.length (List.replicate (Int.toNat (IntKind.wrap IntKind.i64 ((↑(List.length a0) : Int) + (2 : Int)))) (0 : Int))) a0 ++ List.drop (List.length a0) (List.replicate (Int.toNat (IntKind.wrap IntKind.i64 ((↑(List.length a0) : Int) + (2 : Int)))) (0 : Int))) (Int.toNat (↑(List.length a0) : Int)) (-77 : Int))[Int.toNat (IntKind.wrap IntKind.i64 ((↑(List.length a0) : Int) + (1 : Int)))]?) fun y2 =>
          Option.bind (racetreeref01_Text a0) fun y3 =>
          bif decide ((0 : Int) ≤ (0 : Int)) && (decide ((0 : Int) ≤ (↑(List.length a0) : Int)) && decide ((↑(List.length a0) : Int) ≤ (↑(List.length (List.set (List.set (List.take (List.length (List.replicate (Int.toNat (IntKind.wrap IntKind.i64 ((↑(List.length a0) : Int) + (2 : Int)))) (0 : Int))) a0 ++ List.drop (List.length a0) (List.replicate (Int.toNat (IntKind.wrap IntKind.i64 ((↑(List.length a0) : Int) + (2 : Int)))) (0 : Int))) (Int.toNat (↑(List.length a0) : Int)) (-77 : Int)) (Int.toNat (IntKind.wrap IntKind.i64 ((↑(List.length a0) : Int) + (1 : Int)))) (-78 : Int))) : Int))) then
            Option.bind (scan_Text (List.drop (0 : Nat) (List.take (Int.toNat (↑(List.length a0) : Int)) (List.set (List.set (List.take (List.length (List.replicate (Int.toNat (IntKind.wrap IntKind.i64 ((↑(List.length a0) : Int) + (2 : Int)))) (0 : Int))) a0 ++ List.drop (List.length a0) (List.replicate (Int.toNat (IntKind.wrap IntKind.i64 ((↑(List.length a0) : Int) + (2 : Int)))) (0 : Int))) (Int.toNat (↑(List.length a0) : Int)) (-77 : Int)) (Int.toNat (IntKind.wrap IntKind.i64 ((↑(List.length a0) : Int) + (1 : Int)))) (-78 : Int))))) fun y4 =>
            bif decide ((0 : Int) ≤ (↑(List.length a0) : Int)) && decide ((↑(List.length a0) : Int) < (↑(List.length (List.set (List.set (List.take (List.length (List.replicate (Int.toNat (IntKind.wrap IntKind.i64 ((↑(List.length a0) : Int) + (2 : Int)))) (0 : Int))) a0 ++ List.drop (List.length a0) (List.replicate (Int.toNat (IntKind.wrap IntKind.i64 ((↑(List.length a0) : Int) + (2 : Int)))) (0 : Int))) (Int.toNat (↑(List.length a0) : Int)) (-77 : Int)) (Int.toNat (IntKind.wrap IntKind.i64 ((↑(List.length a0) : Int) + (1 : Int)))) (-78 : Int))) : Int)) then
              Option.bind ((List.set (List.set (List.take (List.length (List.replicate (Int.toNat (IntKind.wrap IntKind.i64 ((↑(List.length a0) : Int) + (2 : Int)))) (0 : Int))) a0 ++ List.drop (List.length a0) (List.replicate (Int.toNat (IntKind.wrap IntKind.i64 ((↑(List.length a0) : Int) + (2 : Int)))) (0 : Int))) (Int.toNat (↑(List.length a0) : Int)) (-77 : Int)) (Int.toNat (IntKind.wrap IntKind.i64 ((↑(List.length a0) : Int) + (1 : Int)))) (-78 : Int))[Int.toNat (↑(List.length a0) : Int)]?) fun y5 =>
              bif y5 == (-77 : Int) then
                bif decide ((0 : Int) ≤ IntKind.wrap IntKind.i64 ((↑(List.length a0) : Int) + (1 : Int))) && decide (IntKind.wrap IntKind.i64 ((↑(List.length a0) : Int) + (1 : Int)) < (↑(List.length (List.set (List.set (List.take (List.length (List.replicate (Int.toNat (IntKind.wrap IntKind.i64 ((↑(List.length a0) : Int) + (2 : Int)))) (0 : Int))) a0 ++ List.drop (List.length a0) (List.replicate (Int.toNat (IntKind.wrap IntKind.i64 ((↑(List.length a0) : Int) + (2 : Int)))) (0 : Int))) (Int.toNat (↑(List.length a0) : Int)) (-77 : Int)) (Int.toNat (IntKind.wrap IntKind.i64 ((↑(List.length a0) : Int) + (1 : Int)))) (-78 : Int))) : Int)) then
                  Option.bind ((List.set (List.set (List.take (List.length (List.replicate (Int.toNat (IntKind.wrap IntKind.i64 ((↑(List.length a0) : Int) + (2 : Int)))) (0 : Int))) a0 ++ List.drop (List.length a0) (List.replicate (Int.toNat (IntKind.wrap IntKind.i64 ((↑(List.length a0) : Int) + (2 : Int)))) (0 : Int))) (Int.toNat (↑(List.length a0) : Int)) (-77 : Int)) (Int.toNat (IntKind.wrap IntKind.i64 ((↑(List.length a0) : Int) + (1 : Int)))) (-78 : Int))[Int.toNat (IntKind.wrap IntKind.i64 ((↑(List.length a0) : Int) + (1 : Int)))]?) fun y6 =>
                  Option.bind (racetreelaw01_ScanTexts_l10 a0 y0 (List.set (List.set (List.take (List.length (List.replicate (Int.toNat (IntKind.wrap IntKind.i64 ((↑(List.length a0) : Int) + (2 : Int)))) (0 : Int))) a0 ++ List.drop (List.length a0) (List.replicate (Int.toNat (IntKind.wrap IntKind.i64 ((↑(List.length a0) : Int) + (2 : Int)))) (0 : Int))) (Int.toNat (↑(List.length a0) : Int)) (-77 : Int)) (Int.toNat (IntKind.wrap IntKind.i64 ((↑(List.length a0) : Int) + (1 : Int)))) (-78 : Int)) (Prod.fst y3) (Prod.snd y3) (Prod.fst y4) (Prod.snd y4) (y6 == (-78 : Int)) (0 : Int)) fun y7 =>
                  bif Prod.fst y7 then
                    bif Prod.fst (Prod.snd (Prod.snd (Prod.snd (Prod.snd y7)))) == Prod.fst (Prod.snd (Prod.snd y7)) then
                      bif Prod.fst (Prod.snd (Prod.snd (Prod.snd y7))) == Prod.fst (Prod.snd y7) then
                        some (Prod.snd (Prod.snd (Prod.snd (Prod.snd (Prod.snd y7)))))
                      else
                        some (false)
                    else
                      some (false)
                  else
                    some (false)
                else
                  none
              else
                Option.bind (racetreelaw01_ScanTexts_l10 a0 y0 (List.set (List.set (List.take (List.length (List.replicate (Int.toNat (IntKind.wrap IntKind.i64 ((↑(List.length a0) : Int) + (2 : Int)))) (0 : Int))) a0 ++ List.drop (List.length a0) (List.replicate (Int.toNat (IntKind.wrap IntKind.i64 ((↑(List.length a0) : Int) + (2 : Int)))) (0 : Int))) (Int.toNat (↑(List.length a0) : Int)) (-77 : Int)) (Int.toNat (IntKind.wrap IntKind.i64 ((↑(List.length a0) : Int) + (1 : Int)))) (-78 : Int)) (Prod.fst y3) (Prod.snd y3) (Prod.fst y4) (Prod.snd y4) false (0 : Int)) fun y8 =>
                bif Prod.fst y8 then
                  bif Prod.fst (Prod.snd (Prod.snd (Prod.snd (Prod.snd y8)))) == Prod.fst (Prod.snd (Prod.snd y8)) then
                    bif Prod.fst (Prod.snd (Prod.snd (Prod.snd y8))) == Prod.fst (Prod.snd y8) then
                      some (Prod.snd (Prod.snd (Prod.snd (Prod.snd (Prod.snd y8)))))
                    else
                      some (false)
                  else
                    some (false)
                else
                  some (false)
            else
              none
          else
            none
        else
          none
      else
        none
    else
      none

noncomputable def racetreelaw01_ScanTexts : List (Int) → Option (Bool) := sealF racetreelaw01_ScanTexts_f

noncomputable def racetreelaw01_ScanRunes_t6 (rec : List UInt8 → Bool → Bool → Int → Int → Int → List UInt8 → Int → Int → List UInt8 → List (Spot) → List (Spot) → Option ((List UInt8) × Bool × Bool × Int × Int × (List UInt8) × Int × Int × (List UInt8) × (List (Spot)) × (List (Spot)))) (a0 : List UInt8) (a1 : Bool) (a2 : Bool) (a3 : Int) (a4 : Int) (a5 : Int) (a6 : List UInt8) (a7 : Int) (a8 : Int) (a9 : List UInt8) (a10 : List (Spot)) (a11 : List (Spot)) : Option ((List UInt8) × Bool × Bool × Int × Int × (List UInt8) × Int × Int × (List UInt8) × (List (Spot)) × (List (Spot))) :=
    bif decide (a3 < (↑(List.length a11) : Int)) then
      bif decide ((0 : Int) ≤ a3) && decide (a3 < (↑(List.length a11) : Int)) then
        Option.bind (a11[Int.toNat a3]?) fun y0 =>
        rec (a0) (a1) (a2) (IntKind.wrap IntKind.i64 (a3 + (1 : Int))) (a4) (a5) (a6) (a7) (a8) (a9) (a10) (List.set a11 (Int.toNat a3) (Spot.mk (-77 : Int) (0 : Int) (0 : Int) (0 : Int)))
      else
        none
    else
      some ((a0), (a1), (a2), (a4), (a5), (a6), (a7), (a8), (a9), (a10), (a11))

noncomputable def racetreelaw01_ScanRunes_i6 : Nat → List UInt8 → Bool → Bool → Int → Int → Int → List UInt8 → Int → Int → List UInt8 → List (Spot) → List (Spot) → Option ((List UInt8) × Bool × Bool × Int × Int × (List UInt8) × Int × Int × (List UInt8) × (List (Spot)) × (List (Spot)))
  | 0, _, _, _, _, _, _, _, _, _, _, _, _ => none
  | n + 1, a0, a1, a2, a3, a4, a5, a6, a7, a8, a9, a10, a11 => racetreelaw01_ScanRunes_t6 (racetreelaw01_ScanRunes_i6 n) a0 a1 a2 a3 a4 a5 a6 a7 a8 a9 a10 a11

noncomputable def racetreelaw01_ScanRunes_l6 : List UInt8 → Bool → Bool → Int → Int → Int → List UInt8 → Int → Int → List UInt8 → List (Spot) → List (Spot) → Option ((List UInt8) × Bool × Bool × Int × Int × (List UInt8) × Int × Int × (List UInt8) × (List (Spot)) × (List (Spot))) := sealF (racetreelaw01_ScanRunes_i6 fuel)

noncomputable def racetreelaw01_ScanRunes_f (a0 : List UInt8) : Option (Bool) :=
    Option.bind (racetreelaw01_shown) fun y0 =>
    Option.bind (racetreeref01_Runes a0) fun y1 =>
    Option.bind (scan_Runes a0) fun y2 =>
    Option.bind (racetreelaw01_same (Prod.snd y2) (Prod.snd y1)) fun y3 =>
    Option.bind (racetreelaw01_ScanRunes_l6 a0 y0 y3 (0 : Int) (Fault.code (Prod.fst y1)) (Fault.at_ (Prod.fst y1)) (Fault.name (Prod.fst y1)) (Fault.code (Prod.fst y2)) (Fault.at_ (Prod.fst y2)) (Fault.name (Prod.fst y2)) (Prod.snd y1) (Prod.snd y2)) fun y4 =>
    bif decide ((List.length (Prod.snd (Prod.snd (Prod.snd (Prod.snd (Prod.snd (Prod.snd (Prod.snd (Prod.snd (Prod.snd (Prod.snd y4)))))))))) + (2 : Nat)) * (32 : Nat) ≤ (140737488355328 : Nat) ∧ List.length (Prod.snd (Prod.snd (Prod.snd (Prod.snd (Prod.snd (Prod.snd (Prod.snd (Prod.snd (Prod.snd (Prod.snd y4)))))))))) + (2 : Nat) ≤ (9223372036854775807 : Nat)) then
      Option.bind (scan_Runes (Prod.fst y4)) fun y5 =>
      Option.bind (racetreelaw01_same (Prod.snd y5) (Prod.fst (Prod.snd (Prod.snd (Prod.snd (Prod.snd (Prod.snd (Prod.snd (Prod.snd (Prod.snd (Prod.snd y4))))))))))) fun y6 =>
      bif Prod.fst (Prod.snd y4) then
        bif decide (Fault.mk (Prod.fst (Prod.snd (Prod.snd (Prod.snd (Prod.snd (Prod.snd (Prod.snd y4))))))) (Prod.fst (Prod.snd (Prod.snd (Prod.snd (Prod.snd (Prod.snd (Prod.snd (Prod.snd y4)))))))) (Prod.fst (Prod.snd (Prod.snd (Prod.snd (Prod.snd (Prod.snd (Prod.snd (Prod.snd (Prod.snd y4))))))))) = Fault.mk (Prod.fst (Prod.snd (Prod.snd (Prod.snd y4)))) (Prod.fst (Prod.snd (Prod.snd (Prod.snd (Prod.snd y4))))) (Prod.fst (Prod.snd (Prod.snd (Prod.snd (Prod.snd (Prod.snd y4))))))) then
          bif decide (Fault.mk (Fault.code (Prod.fst y5)) (Fault.at_ (Prod.fst y5)) (Fault.name (Prod.fst y5)) = Fault.mk (Prod.fst (Prod.snd (Prod.snd (Prod.snd y4)))) (Prod.fst (Prod.snd (Prod.snd (Prod.snd (Prod.snd y4))))) (Prod.fst (Prod.snd (Prod.snd (Prod.snd (Prod.snd (Prod.snd y4))))))) then
            bif Prod.fst (Prod.snd (Prod.snd y4)) then
              bif y6 then
                bif decide ((0 : Int) ≤ IntKind.wrap IntKind.i64 ((↑(List.length (Prod.snd (Prod.snd (Prod.snd (Prod.snd (Prod.snd (Prod.snd (Prod.snd (Prod.snd (Prod.snd (Prod.snd y4))))))))) ++ [Spot.mk (-78 : Int) (0 : Int) (0 : Int) (0 : Int), Spot.mk (-79 : Int) (0 : Int) (0 : Int) (0 : Int)])) : Int) - (1 : Int))) && decide (IntKind.wrap IntKind.i64 ((↑(List.length (Prod.snd (Prod.snd (Prod.snd (Prod.snd (Prod.snd (Prod.snd (Prod.snd (Prod.snd (Prod.snd (Prod.snd y4))))))))) ++ [Spot.mk (-78 : Int) (0 : Int) (0 : Int) (0 : Int), Spot.mk (-79 : Int) (0 : Int) (0 : Int) (0 : Int)])) : Int) - (1 : Int)) < (↑(List.length (Prod.snd (Prod.snd (Prod.snd (Prod.snd (Prod.snd (Prod.snd (Prod.snd (Prod.snd (Prod.snd (Prod.snd y4))))))))) ++ [Spot.mk (-78 : Int) (0 : Int) (0 : Int) (0 : Int), Spot.mk (-79 : Int) (0 : Int) (0 : Int) (0 : Int)])) : Int)) then
                  Option.bind ((Prod.snd (Prod.snd (Prod.snd (Prod.snd (Prod.snd (Prod.snd (Prod.snd (Prod.snd (Prod.snd (Prod.snd y4))))))))) ++ [Spot.mk (-78 : Int) (0 : Int) (0 : Int) (0 : Int), Spot.mk (-79 : Int) (0 : Int) (0 : Int) (0 : Int)])[Int.toNat (IntKind.wrap IntKind.i64 ((↑(List.length (Prod.snd (Prod.snd (Prod.snd (Prod.snd (Prod.snd (Prod.snd (Prod.snd (Prod.snd (Prod.snd (Prod.snd y4))))))))) ++ [Spot.mk (-78 : Int) (0 : Int) (0 : Int) (0 : Int), Spot.mk (-79 : Int) (0 : Int) (0 : Int) (0 : Int)])) : Int) - (1 : Int)))]?) fun y7 =>
                  some (Spot.rune y7 == (-79 : Int))
                else
                  none
              else
                some (false)
            else
              some (false)
          else
            some (false)
        else
          some (false)
      else
        some (false)
    else
      none

noncomputable def racetreelaw01_ScanRunes : List UInt8 → Option (Bool) := sealF racetreelaw01_ScanRunes_f

end Lift.Fn

