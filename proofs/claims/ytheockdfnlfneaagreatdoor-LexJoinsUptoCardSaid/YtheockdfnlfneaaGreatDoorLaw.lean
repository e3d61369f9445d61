/-
  DERIVED. The Lean functions answer as the laws say. Conditions: as each theorem says.
-/
import Derived.Test.YtheockdfnlfneaaGreatDoorWalk
import Derived.IntWalk
set_option linter.unusedVariables false
set_option linter.unusedSimpArgs false
set_option linter.unusedSectionVars false
/- The plain law of layer 1: what the lifted functions compute. -/
namespace Lift.A1P
open Go Go.RowKit Lift Go.IntWalk

namespace Sp
def isRune (r : Int) : Bool := decide (0 ≤ r ∧ r ≤ 1114111 ∧ (r < 55296 ∨ r > 57343))
def letter (r : Int) : Bool := isRune r && decide ((65 ≤ r ∧ r ≤ 90) ∨ r = 95 ∨ (97 ≤ r ∧ r ≤ 122) ∨ 192 ≤ r)
def digit (r : Int) : Bool := decide (48 ≤ r ∧ r ≤ 57)
def blank (r : Int) : Bool := decide (r = 9 ∨ r = 10 ∨ r = 13 ∨ r = 32)
def long (r : Int) : Int := if r < 128 then 1 else if r < 2048 then 2 else if r < 65536 then 3 else 4
def enc (r : Int) : List Int :=
  if r < 128 then [r] else if r < 2048 then [192 + r / 64, 128 + r % 64] else if r < 65536 then [224 + r / 4096, 128 + r / 64 % 64, 128 + r % 64]
  else [240 + r / 262144, 128 + r / 4096 % 64, 128 + r / 64 % 64, 128 + r % 64]
def dc (t : List UInt8) (p : Nat) : Nat × Nat := Utf8.decode ⟨t.toArray⟩ p
def bad (t : List UInt8) (p : Nat) : Bool := decide ((dc t p).1 = 65533) && !(((t.take (min t.length (p + 3))).drop p) == [239, 191, 189])
def at1 (t : List UInt8) (p : Int) : Int := if bad t p.toNat then 0 else ((dc t p.toNat).1 : Int)
def at2 (t : List UInt8) (p : Int) : Int := if bad t p.toNat then 0 else ((dc t p.toNat).2 : Int)
def on (s : Spot) (r n : Int) : Spot := if r = 10 then ⟨s.rune, s.at_ + n, s.line + 1, 1⟩ else ⟨s.rune, s.at_ + n, s.line, s.col + 1⟩
def spotsFrom (t : List UInt8) : Nat → List Spot → Spot → List Spot × Spot
  | 0, acc, s => (acc, s)
  | n + 1, acc, s => if s.at_ < t.length then (if bad t s.at_.toNat then (acc, s) else
      spotsFrom t n (acc ++ [⟨at1 t s.at_, s.at_, s.line, s.col⟩]) (on ⟨at1 t s.at_, s.at_, s.line, s.col⟩ (at1 t s.at_) (at2 t s.at_))) else (acc, s)
def cont (t : List UInt8) (p : Int) : Nat → Int → Int → Option Int
  | 0, r, _ => some r
  | k + 1, r, i => match t[(p + i).toNat]? with
    | none => none
    | some d => if d.toNat < 128 ∨ 191 < d.toNat then none else cont t p k (64 * r + d.toNat - 128) (i + 1)
def ended (s : Spot) : Spot := ⟨-1, s.at_, s.line, s.col⟩
def spots1 (t : List UInt8) : List Spot := (spotsFrom t t.length [] ⟨0, 0, 1, 1⟩).1
def spots2 (t : List UInt8) : Spot := ended (spotsFrom t t.length [] ⟨0, 0, 1, 1⟩).2
def runes1 (t : List UInt8) : List Spot := if 4000 < t.length then [] else if (spots2 t).at_ < t.length then [] else spots1 t
def runes2 (t : List UInt8) : Fault := if 4000 < t.length then ⟨10, 4000, []⟩ else if (spots2 t).at_ < t.length then ⟨11, (spots2 t).at_, []⟩ else ⟨0, 0, []⟩
def noSpot : Spot := ⟨0, 0, 0, 0⟩
def place1 (t : List UInt8) (p : Int) : Spot := if (runes2 t).code ≠ 0 then noSpot else if p = t.length then spots2 t else ((runes1 t).find? fun s => decide (s.at_ = p)).getD noSpot
def place2 (t : List UInt8) (p : Int) : Int := if (runes2 t).code ≠ 0 then (runes2 t).code else if p = t.length then 0 else if ((runes1 t).find? fun s => decide (s.at_ = p)).isSome then 0 else 1
def same (a b : List Spot) : Bool := decide (a = b)
def textOf (l : List Int) : List UInt8 := runesOf l
def text1 (l : List Int) : List UInt8 := if 4000 < l.length then [] else if l.all isRune then (if 4000 < (textOf l).length then [] else textOf l) else []
def text2 (l : List Int) : Int := if 4000 < l.length then 10 else if l.all isRune then (if 4000 < (textOf l).length then 10 else 0) else 1
end Sp
/-! UTF-8, over what is left of a text. -/
namespace Sp
def by_ (l : List UInt8) (k : Nat) : Nat := (l.getD k 0).toNat
def ct (l : List UInt8) (k : Nat) : Bool := decide (k < l.length) && (by_ l k / 64 == 2)
def dl (l : List UInt8) : Nat × Nat :=
  if by_ l 0 < 0x80 then (by_ l 0, 1)
  else if by_ l 0 / 32 == 6 && ct l 1 then
    if (by_ l 0 % 32) * 64 + by_ l 1 % 64 ≥ 0x80 then ((by_ l 0 % 32) * 64 + by_ l 1 % 64, 2) else (65533, 1)
  else if by_ l 0 / 16 == 14 && ct l 1 && ct l 2 then
    if (by_ l 0 % 16) * 4096 + (by_ l 1 % 64) * 64 + by_ l 2 % 64 ≥ 0x800 && Utf8.valid (((by_ l 0 % 16) * 4096 + (by_ l 1 % 64) * 64 + by_ l 2 % 64 : Nat) : Int) then ((by_ l 0 % 16) * 4096 + (by_ l 1 % 64) * 64 + by_ l 2 % 64, 3) else (65533, 1)
  else if by_ l 0 / 8 == 30 && ct l 1 && ct l 2 && ct l 3 then
    if (by_ l 0 % 8) * 262144 + (by_ l 1 % 64) * 4096 + (by_ l 2 % 64) * 64 + by_ l 3 % 64 ≥ 0x10000 && Utf8.valid (((by_ l 0 % 8) * 262144 + (by_ l 1 % 64) * 4096 + (by_ l 2 % 64) * 64 + by_ l 3 % 64 : Nat) : Int) then ((by_ l 0 % 8) * 262144 + (by_ l 1 % 64) * 4096 + (by_ l 2 % 64) * 64 + by_ l 3 % 64, 4) else (65533, 1)
  else (65533, 1)
def badl (l : List UInt8) : Bool := decide ((dl l).1 = 65533) && !(l.take 3 == [239, 191, 189])

theorem by_drop (t : List UInt8) (q k : Nat) : by_ (t.drop q) k = (t.getD (q + k) 0).toNat := by
  simp [by_, List.getD_eq_getElem?_getD]

theorem dc_eq (t : List UInt8) (q : Nat) : dc t q = dl (t.drop q) := by
  have hb : ∀ k, ((⟨t.toArray⟩ : ByteArray).get! (q + k)).toNat = by_ (t.drop q) k := by
    intro k
    rw [by_drop]
    simp [ByteArray.get!, List.getD_eq_getElem?_getD, getElem!_def]
    cases t[q + k]? <;> rfl
  have hs : (⟨t.toArray⟩ : ByteArray).size = t.length := by simp [ByteArray.size]
  have hc : ∀ k, (decide (q + k < t.length) && ((by_ (t.drop q) k) / 64 == 2)) = ct (t.drop q) k := by
    intro k
    unfold ct
    have : (q + k < t.length) ↔ (k < (t.drop q).length) := by simp; omega
    simp only [this]
  unfold dc Utf8.decode
  simp only [hb, hs, hc]
  unfold dl
  rfl

theorem bad_eq (t : List UInt8) (q : Nat) : bad t q = badl (t.drop q) := by
  unfold bad badl
  rw [dc_eq]
  congr 2
  have : (t.take (min t.length (q + 3))).drop q = (t.drop q).take 3 := by
    have h1 : t.take (min t.length (q + 3)) = t.take (q + 3) := by
      rcases Nat.le_total t.length (q + 3) with h | h
      · rw [Nat.min_eq_left h, List.take_of_length_le h, List.take_of_length_le (Nat.le_refl _)]
      · rw [Nat.min_eq_right h]
    rw [h1, List.drop_take]
    simp
  rw [this]
end Sp
namespace Sp
theorem take3 (l : List UInt8) : (l.take 3 == [239, 191, 189]) = decide (3 ≤ l.length ∧ by_ l 0 = 239 ∧ by_ l 1 = 191 ∧ by_ l 2 = 189) := by
  have e : ∀ (a b : UInt8), (a == b) = decide (a.toNat = b.toNat) := fun a b => by
    rw [Bool.eq_iff_iff]; simp [UInt8.toNat_inj]
  match l with
  | [] => simp [by_]
  | [a] => simp [by_]
  | [a, b] => simp [by_]
  | a :: b :: c :: r =>
    have : List.take 3 (a :: b :: c :: r) = [a, b, c] := rfl
    rw [this]
    rw [Bool.eq_iff_iff]
    simp [by_, ← UInt8.toNat_inj]

theorem get_by {t : List UInt8} {p : Int} {j : Nat} (hp : 0 ≤ p) (h : p + j < t.length) : ∃ x, t[(p + j).toNat]? = some x ∧ x.toNat = by_ (t.drop p.toNat) j := by
  have hlt : (p + j).toNat < t.length := by omega
  refine ⟨t[(p + j).toNat], List.getElem?_eq_getElem hlt, ?_⟩
  rw [by_drop]
  have : p.toNat + j = (p + j).toNat := by omega
  rw [this, List.getD_eq_getElem?_getD, List.getElem?_eq_getElem hlt]
  rfl

theorem cont_succ {t : List UInt8} {p : Int} {j k : Nat} {r : Int} (hp : 0 ≤ p) (h : p + j < t.length) :
    cont t p (k + 1) r j = if by_ (t.drop p.toNat) j < 128 ∨ 191 < by_ (t.drop p.toNat) j then none else cont t p k (64 * r + by_ (t.drop p.toNat) j - 128) (j + 1 : Nat) := by
  obtain ⟨x, h1, h2⟩ := get_by hp h
  simp only [cont, h1, h2]
  rfl

theorem cont1 {t : List UInt8} {p : Int} {r : Int} (hp : 0 ≤ p) (h : p + 2 ≤ t.length) : cont t p 1 r 1 = 
    if by_ (t.drop p.toNat) 1 < 128 ∨ 191 < by_ (t.drop p.toNat) 1 then none else some (64 * r + by_ (t.drop p.toNat) 1 - 128) := by
  have := cont_succ (t := t) (k := 0) (r := r) (j := 1) hp (by omega)
  simpa [cont] using this
theorem cont2 {t : List UInt8} {p : Int} {r : Int} (hp : 0 ≤ p) (h : p + 3 ≤ t.length) : cont t p 2 r 1 = 
    if by_ (t.drop p.toNat) 1 < 128 ∨ 191 < by_ (t.drop p.toNat) 1 then none else if by_ (t.drop p.toNat) 2 < 128 ∨ 191 < by_ (t.drop p.toNat) 2 then none else some (64 * (64 * r + by_ (t.drop p.toNat) 1 - 128) + by_ (t.drop p.toNat) 2 - 128) := by
  have h1 := cont_succ (t := t) (k := 1) (r := r) (j := 1) hp (by omega)
  have h2 := cont_succ (t := t) (k := 0) (r := 64 * r + by_ (t.drop p.toNat) 1 - 128) (j := 2) hp (by omega)
  rw [show ((1 : Nat) : Int) = 1 from rfl] at h1
  rw [h1]
  rw [show (1 + 1 : Nat) = 2 from rfl, h2]
  rfl
theorem cont3 {t : List UInt8} {p : Int} {r : Int} (hp : 0 ≤ p) (h : p + 4 ≤ t.length) : cont t p 3 r 1 = 
    if by_ (t.drop p.toNat) 1 < 128 ∨ 191 < by_ (t.drop p.toNat) 1 then none else if by_ (t.drop p.toNat) 2 < 128 ∨ 191 < by_ (t.drop p.toNat) 2 then none else
    if by_ (t.drop p.toNat) 3 < 128 ∨ 191 < by_ (t.drop p.toNat) 3 then none else some (64 * (64 * (64 * r + by_ (t.drop p.toNat) 1 - 128) + by_ (t.drop p.toNat) 2 - 128) + by_ (t.drop p.toNat) 3 - 128) := by
  have h1 := cont_succ (t := t) (k := 2) (r := r) (j := 1) hp (by omega)
  have h2 := cont_succ (t := t) (k := 1) (r := 64 * r + by_ (t.drop p.toNat) 1 - 128) (j := 2) hp (by omega)
  have h3 := cont_succ (t := t) (k := 0) (r := 64 * (64 * r + by_ (t.drop p.toNat) 1 - 128) + by_ (t.drop p.toNat) 2 - 128) (j := 3) hp (by omega)
  rw [show ((1 : Nat) : Int) = 1 from rfl] at h1
  rw [h1]
  rw [show (1 + 1 : Nat) = 2 from rfl, h2]
  rw [show (2 + 1 : Nat) = 3 from rfl, h3]
  rfl
end Sp

/-- One answer as numbers. -/
def ansA (n b0 b1 b2 b3 : Nat) : Int × Int :=
  let ok (r : Int) (k : Int) : Int × Int := if (0 ≤ r ∧ r ≤ 1114111 ∧ (r < 55296 ∨ r > 57343)) ∧ Sp.long r = k then (r, k) else (0, 0)
  if 240 ≤ b0 then (if n < 4 then (0, 0) else if b1 < 128 ∨ 191 < b1 then (0, 0) else if b2 < 128 ∨ 191 < b2 then (0, 0) else if b3 < 128 ∨ 191 < b3 then (0, 0) else ok (64 * (64 * (64 * (b0 - 240) + b1 - 128) + b2 - 128) + b3 - 128) 4)
  else if 224 ≤ b0 then (if n < 3 then (0, 0) else if b1 < 128 ∨ 191 < b1 then (0, 0) else if b2 < 128 ∨ 191 < b2 then (0, 0) else ok (64 * (64 * (b0 - 224) + b1 - 128) + b2 - 128) 3)
  else if 192 ≤ b0 then (if n < 2 then (0, 0) else if b1 < 128 ∨ 191 < b1 then (0, 0) else ok (64 * (b0 - 192) + b1 - 128) 2)
  else if 128 ≤ b0 then (0, 0) else (b0, 1)

theorem valid_iff (r : Int) : Utf8.valid r = true ↔ (0 ≤ r ∧ r < 55296) ∨ (57344 ≤ r ∧ r ≤ 1114111) := by
  unfold Utf8.valid
  simp only [Bool.or_eq_true, Bool.and_eq_true, decide_eq_true_eq]

/-- The answer is the model's own. -/
theorem ans_dl (l : List UInt8) (hl : 0 < l.length) : ansA l.length (Sp.by_ l 0) (Sp.by_ l 1) (Sp.by_ l 2) (Sp.by_ l 3) = if Sp.badl l then (0, 0) else (((Sp.dl l).1 : Int), ((Sp.dl l).2 : Int)) := by
  have hb : ∀ k, Sp.by_ l k < 256 := fun k => (l.getD k 0).toNat_lt
  have h0 := hb 0
  have h1 := hb 1
  have h2 := hb 2
  have h3 := hb 3
  unfold Sp.badl
  rw [Sp.take3]
  obtain ⟨D, hD⟩ : ∃ D, D = Sp.dl l := ⟨_, rfl⟩
  rw [← hD]
  unfold Sp.dl Sp.ct at hD
  generalize Sp.by_ l 0 = b0 at *
  generalize Sp.by_ l 1 = b1 at *
  generalize Sp.by_ l 2 = b2 at *
  generalize Sp.by_ l 3 = b3 at *
  generalize l.length = n at *
  clear hb
  have small : ∀ r : Int, r < 128 → Sp.long r = 1 := fun r h => by unfold Sp.long; rw [if_pos h]
  have two : ∀ r : Int, 128 ≤ r → r < 2048 → Sp.long r = 2 := fun r h h' => by unfold Sp.long; rw [if_neg (by omega), if_pos h']
  have three : ∀ r : Int, 2048 ≤ r → r < 65536 → Sp.long r = 3 := fun r h h' => by unfold Sp.long; rw [if_neg (by omega), if_neg (by omega), if_pos h']
  have four : ∀ r : Int, 65536 ≤ r → Sp.long r = 4 := fun r h => by unfold Sp.long; rw [if_neg (by omega), if_neg (by omega), if_neg (by omega)]
  simp only [Bool.and_eq_true, decide_eq_true_eq, beq_iff_eq, valid_iff, ge_iff_le] at hD
  simp only [Bool.and_eq_true, decide_eq_true_eq, Bool.not_eq_true', decide_eq_false_iff_not]
  have good : ∀ (r k : Nat), D = (r, k) → ¬ (r = 65533 ∧ ¬ (3 ≤ n ∧ b0 = 239 ∧ b1 = 191 ∧ b2 = 189)) → (if D.1 = 65533 ∧ ¬ (3 ≤ n ∧ b0 = 239 ∧ b1 = 191 ∧ b2 = 189) then ((0 : Int), (0 : Int)) else (↑D.1, ↑D.2)) = ((r : Int), (k : Int)) := by
    intro r k h1 h2
    rw [h1]
    exact if_neg h2
  have badd : D = (65533, 1) → ¬ (3 ≤ n ∧ b0 = 239 ∧ b1 = 191 ∧ b2 = 189) → (if D.1 = 65533 ∧ ¬ (3 ≤ n ∧ b0 = 239 ∧ b1 = 191 ∧ b2 = 189) then ((0 : Int), (0 : Int)) else (↑D.1, ↑D.2)) = (0, 0) := by
    intro h1 h2
    rw [h1]
    exact if_pos ⟨rfl, h2⟩
  unfold ansA
  by_cases k0 : b0 < 128
  · rw [if_neg (by omega), if_neg (by omega), if_neg (by omega), if_neg (by omega)]
    rw [if_pos k0] at hD
    rw [good _ _ hD (by omega)]
    rfl
  rw [if_neg k0] at hD
  by_cases k1 : b0 < 192
  · rw [if_neg (by omega), if_neg (by omega), if_neg (by omega), if_pos (by omega)]
    rw [if_neg (by omega), if_neg (by omega), if_neg (by omega)] at hD
    rw [badd hD (by omega)]
  by_cases k2 : b0 < 224
  · rw [if_neg (by omega), if_neg (by omega), if_pos (by omega)]
    by_cases c1 : n < 2
    · rw [if_neg (by omega), if_neg (by omega), if_neg (by omega)] at hD
      rw [if_pos c1, badd hD (by omega)]
    rw [if_neg c1]
    by_cases c2 : b1 < 128 ∨ 191 < b1
    · rw [if_neg (by omega), if_neg (by omega), if_neg (by omega)] at hD
      rw [if_pos c2, badd hD (by omega)]
    rw [if_neg c2]
    rw [if_pos (by omega)] at hD
    by_cases c3 : 128 ≤ b0 % 32 * 64 + b1 % 64
    · rw [if_pos c3] at hD
      rw [good _ _ hD (by omega)]
      have := two (64 * ((b0 : Int) - 192) + b1 - 128) (by omega) (by omega)
      show (if _ then _ else _) = _
      rw [if_pos ⟨by omega, this⟩]
      simp only [Prod.mk.injEq]
      omega
    · rw [if_neg c3] at hD
      rw [badd hD (by omega)]
      show (if _ then _ else _) = _
      rw [if_neg]
      intro hh
      have := small (64 * ((b0 : Int) - 192) + b1 - 128) (by omega)
      omega
  by_cases k3 : b0 < 240
  · rw [if_neg (by omega), if_pos (by omega)]
    by_cases c1 : n < 3
    · rw [if_neg (by omega), if_neg (by omega), if_neg (by omega)] at hD
      rw [if_pos c1, badd hD (by omega)]
    rw [if_neg c1]
    by_cases c2 : b1 < 128 ∨ 191 < b1
    · rw [if_neg (by omega), if_neg (by omega), if_neg (by omega)] at hD
      rw [if_pos c2, badd hD (by omega)]
    rw [if_neg c2]
    by_cases c3 : b2 < 128 ∨ 191 < b2
    · rw [if_neg (by omega), if_neg (by omega), if_neg (by omega)] at hD
      rw [if_pos c3, badd hD (by omega)]
    rw [if_neg c3]
    rw [if_neg (by omega), if_pos (by omega)] at hD
    have hv : (64 * (64 * ((b0 : Int) - 224) + b1 - 128) + b2 - 128) = ((b0 % 16 * 4096 + b1 % 64 * 64 + b2 % 64 : Nat) : Int) := by omega
    show (if _ then _ else _) = _
    rw [hv]
    obtain ⟨N, hN⟩ : ∃ N, N = b0 % 16 * 4096 + b1 % 64 * 64 + b2 % 64 := ⟨_, rfl⟩
    rw [← hN] at hD ⊢
    by_cases c4 : 2048 ≤ N ∧ (0 ≤ (N : Int) ∧ (N : Int) < 55296 ∨ 57344 ≤ (N : Int) ∧ (N : Int) ≤ 1114111)
    · rw [if_pos c4] at hD
      have h5 := three (N : Int) (by omega) (by omega)
      rw [good N 3 hD (by omega), if_pos (And.intro (by omega) h5)]
      exact Prod.ext rfl rfl
    · rw [if_neg c4] at hD
      rw [badd hD (by omega), if_neg]
      intro hh
      by_cases c5 : N < 128
      · have := small (N : Int) (by omega); omega
      by_cases c6 : N < 2048
      · have := two (N : Int) (by omega) (by omega); omega
      · omega
  · rw [if_pos (by omega)]
    by_cases c1 : n < 4
    · rw [if_neg (by omega), if_neg (by omega), if_neg (by omega)] at hD
      rw [if_pos c1, badd hD (by omega)]
    rw [if_neg c1]
    by_cases c2 : b1 < 128 ∨ 191 < b1
    · rw [if_neg (by omega), if_neg (by omega), if_neg (by omega)] at hD
      rw [if_pos c2, badd hD (by omega)]
    rw [if_neg c2]
    by_cases c3 : b2 < 128 ∨ 191 < b2
    · rw [if_neg (by omega), if_neg (by omega), if_neg (by omega)] at hD
      rw [if_pos c3, badd hD (by omega)]
    rw [if_neg c3]
    by_cases c3' : b3 < 128 ∨ 191 < b3
    · rw [if_neg (by omega), if_neg (by omega), if_neg (by omega)] at hD
      rw [if_pos c3', badd hD (by omega)]
    rw [if_neg c3']
    rw [if_neg (by omega), if_neg (by omega)] at hD
    have hv : (64 * (64 * (64 * ((b0 : Int) - 240) + b1 - 128) + b2 - 128) + b3 - 128) = (((b0 - 240) * 262144 + (b1 - 128) * 4096 + (b2 - 128) * 64 + (b3 - 128) : Nat) : Int) := by omega
    show (if _ then _ else _) = _
    rw [hv]
    by_cases k4 : b0 < 248
    · rw [if_pos (by omega)] at hD
      have hm : b0 % 8 * 262144 + b1 % 64 * 4096 + b2 % 64 * 64 + b3 % 64 = (b0 - 240) * 262144 + (b1 - 128) * 4096 + (b2 - 128) * 64 + (b3 - 128) := by omega
      rw [hm] at hD
      obtain ⟨N, hN⟩ : ∃ N, N = (b0 - 240) * 262144 + (b1 - 128) * 4096 + (b2 - 128) * 64 + (b3 - 128) := ⟨_, rfl⟩
      rw [← hN] at hD ⊢
      by_cases c4 : 65536 ≤ N ∧ (0 ≤ (N : Int) ∧ (N : Int) < 55296 ∨ 57344 ≤ (N : Int) ∧ (N : Int) ≤ 1114111)
      · rw [if_pos c4] at hD
        have h5 := four (N : Int) (by omega)
        rw [good N 4 hD (by omega), if_pos (And.intro (by omega) h5)]
        exact Prod.ext rfl rfl
      · rw [if_neg c4] at hD
        rw [badd hD (by omega), if_neg]
        intro hh
        by_cases c5 : N < 128
        · have := small (N : Int) (by omega); omega
        by_cases c6 : N < 2048
        · have := two (N : Int) (by omega) (by omega); omega
        by_cases c7 : N < 65536
        · have := three (N : Int) (by omega) (by omega); omega
        · omega
    · rw [if_neg (by omega)] at hD
      rw [badd hD (by omega), if_neg]
      intro hh
      omega


def okSpot (t : List UInt8) (s : Spot) : Prop := t.length ≤ 4000 ∧ 0 ≤ s.at_ ∧ s.at_ ≤ t.length ∧ 1 ≤ s.line ∧ s.line ≤ s.at_ + 1 ∧ 1 ≤ s.col ∧ s.col ≤ s.at_ + 1
noncomputable def goneTo (t : List UInt8) (l : List Spot) (s : Spot) : List Spot × Spot := Sp.spotsFrom t (t.length - s.at_.toNat) l s
noncomputable def fnd (l : List Spot) (i : Int) (p : Int) : Option Spot := (l.drop i.toNat).find? fun s => decide (s.at_ = p)
namespace Sp
theorem dl_pos (l : List UInt8) (h : 0 < l.length) : 1 ≤ (dl l).2 ∧ (dl l).2 ≤ 4 ∧ (dl l).2 ≤ l.length := by
  unfold dl ct
  simp only [Bool.and_eq_true, decide_eq_true_eq]
  repeat' split
  all_goals simp only
  all_goals omega

theorem ansA_ok (n b0 b1 b2 b3 : Nat) (h : b0 < 256) : ansA n b0 b1 b2 b3 = (0, 0) ∨ (isRune (ansA n b0 b1 b2 b3).1 = true ∧ long (ansA n b0 b1 b2 b3).1 = (ansA n b0 b1 b2 b3).2) := by
  unfold ansA
  simp only
  by_cases a1 : 240 ≤ b0
  · rw [if_pos a1]
    repeat' split
    all_goals first | exact .inl rfl | (rename_i hc; exact .inr ⟨by simpa only [isRune, decide_eq_true_eq] using hc.1, hc.2⟩)
  rw [if_neg a1]
  by_cases a2 : 224 ≤ b0
  · rw [if_pos a2]
    repeat' split
    all_goals first | exact .inl rfl | (rename_i hc; exact .inr ⟨by simpa only [isRune, decide_eq_true_eq] using hc.1, hc.2⟩)
  rw [if_neg a2]
  by_cases a3 : 192 ≤ b0
  · rw [if_pos a3]
    repeat' split
    all_goals first | exact .inl rfl | (rename_i hc; exact .inr ⟨by simpa only [isRune, decide_eq_true_eq] using hc.1, hc.2⟩)
  rw [if_neg a3]
  by_cases a4 : 128 ≤ b0
  · rw [if_pos a4]; exact .inl rfl
  rw [if_neg a4]
  exact .inr ⟨by simp only [isRune, decide_eq_true_eq]; omega, by unfold long; rw [if_pos (by omega)]⟩

theorem good_at {t : List UInt8} {p : Int} (hp : 0 ≤ p) (h : p < t.length) (hb : bad t p.toNat = false) : isRune (at1 t p) = true ∧ long (at1 t p) = at2 t p ∧ 1 ≤ at2 t p ∧ at2 t p ≤ 4 ∧ p + at2 t p ≤ t.length ∧
    at1 t p = (dc t p.toNat).1 ∧ at2 t p = (dc t p.toNat).2 := by
  have hl : 0 < (t.drop p.toNat).length := by simp; omega
  obtain ⟨h1, h2, h3⟩ := dl_pos _ hl
  have h4 := ans_dl _ hl
  rw [← bad_eq, hb, ← dc_eq] at h4
  rw [← dc_eq] at h1 h2 h3
  have hlen : ((t.drop p.toNat).length : Int) = t.length - p := by simp; omega
  unfold at1 at2
  rw [hb]
  simp only [Bool.false_eq_true, if_false] at h4 ⊢
  rcases ansA_ok (t.drop p.toNat).length (by_ (t.drop p.toNat) 0) (by_ (t.drop p.toNat) 1) (by_ (t.drop p.toNat) 2) (by_ (t.drop p.toNat) 3) ((t.drop p.toNat).getD 0 0).toNat_lt with h5 | ⟨h5, h6⟩
  · rw [h4] at h5
    simp only [Prod.mk.injEq] at h5
    omega
  · rw [h4] at h5 h6
    exact ⟨h5, h6, by omega, by omega, by omega, by simp⟩

theorem bad_at {t : List UInt8} {p : Int} (hb : bad t p.toNat = true) : at1 t p = 0 ∧ at2 t p = 0 := by
  unfold at1 at2
  simp [hb]

theorem fuel (t : List UInt8) : ∀ (n m : Nat) (l : List Spot) (s : Spot), 0 ≤ s.at_ → t.length - s.at_.toNat ≤ n → t.length - s.at_.toNat ≤ m → spotsFrom t n l s = spotsFrom t m l s := by
  intro n
  induction n with
  | zero =>
    intro m l s h0 h1 h2
    have hc : ¬ s.at_ < t.length := by omega
    cases m with
    | zero => rfl
    | succ m => simp only [spotsFrom, if_neg hc]
  | succ n ih =>
    intro m l s h0 h1 h2
    by_cases hc : s.at_ < t.length
    · cases m with
      | zero => omega
      | succ m =>
        simp only [spotsFrom, if_pos hc]
        cases hb : bad t s.at_.toNat with
        | true => rfl
        | false =>
          simp only [Bool.false_eq_true, if_false]
          obtain ⟨g1, g2, g3, g4, g5, _⟩ := good_at h0 hc hb
          have ha : ∀ x : Spot, (on x (at1 t s.at_) (at2 t s.at_)).at_ = x.at_ + at2 t s.at_ := fun x => by unfold on; split <;> rfl
          refine ih m _ _ ?_ ?_ ?_ <;> rw [ha] <;> simp only <;> omega
    · cases m with
      | zero => simp only [spotsFrom, if_neg hc]
      | succ m => simp only [spotsFrom, if_neg hc]
end Sp

theorem goneTo_end {t : List UInt8} {l : List Spot} {s : Spot} (h : ¬ s.at_ < t.length) : goneTo t l s = (l, s) := by
  unfold goneTo
  cases t.length - s.at_.toNat with
  | zero => rfl
  | succ n => simp only [Sp.spotsFrom, if_neg h]

theorem goneTo_bad {t : List UInt8} {l : List Spot} {s : Spot} (hb : Sp.bad t s.at_.toNat = true) : goneTo t l s = (l, s) := by
  unfold goneTo
  cases t.length - s.at_.toNat with
  | zero => rfl
  | succ n => simp only [Sp.spotsFrom, hb, if_true]; split <;> rfl

def here (t : List UInt8) (s : Spot) : Spot := ⟨Sp.at1 t s.at_, s.at_, s.line, s.col⟩
def after (t : List UInt8) (s : Spot) : Spot := Sp.on (here t s) (Sp.at1 t s.at_) (Sp.at2 t s.at_)

theorem after_at (t : List UInt8) (s : Spot) : (after t s).at_ = s.at_ + Sp.at2 t s.at_ := by
  unfold after Sp.on here
  split <;> rfl

theorem goneTo_step {t : List UInt8} {l : List Spot} {s : Spot} (h0 : 0 ≤ s.at_) (h : s.at_ < t.length) (hb : Sp.bad t s.at_.toNat = false) : goneTo t l s = goneTo t (l ++ [here t s]) (after t s) := by
  unfold goneTo
  obtain ⟨n, hn⟩ : ∃ n, t.length - s.at_.toNat = n + 1 := ⟨t.length - s.at_.toNat - 1, by omega⟩
  obtain ⟨g1, g2, g3, g4, g5, _⟩ := Sp.good_at h0 h hb
  rw [hn]
  simp only [Sp.spotsFrom, if_pos h, hb, Bool.false_eq_true, if_false]
  have ha := after_at t s
  exact Sp.fuel t _ _ _ _ (by unfold after here at ha; omega) (by unfold after here at ha; omega) (Nat.le_refl _)

theorem okSpot_after {t : List UInt8} {s : Spot} (h : okSpot t s) (hlt : s.at_ < t.length) (hb : Sp.bad t s.at_.toNat = false) : okSpot t (after t s) := by
  obtain ⟨h1, h2, h3, h4, h5, h6, h7⟩ := h
  obtain ⟨g1, g2, g3, g4, g5, _⟩ := Sp.good_at h2 hlt hb
  unfold okSpot after Sp.on here
  split <;> simp only <;> omega

theorem from_rune (t : List UInt8) : ∀ (n : Nat) (l : List Spot) (s s' : Spot), Sp.ended s = Sp.ended s' → (Sp.spotsFrom t n l s).1 = (Sp.spotsFrom t n l s').1 ∧ Sp.ended (Sp.spotsFrom t n l s).2 = Sp.ended (Sp.spotsFrom t n l s').2 := by
  intro n l s s' h
  obtain ⟨r, a, b, c⟩ := s
  obtain ⟨r', a', b', c'⟩ := s'
  simp only [Sp.ended, Spot.mk.injEq, true_and] at h
  obtain ⟨rfl, rfl, rfl⟩ := h
  cases n with
  | zero => exact ⟨rfl, rfl⟩
  | succ n =>
    simp only [Sp.spotsFrom]
    split
    · split
      · exact ⟨rfl, rfl⟩
      · exact ⟨rfl, rfl⟩
    · exact ⟨rfl, rfl⟩

theorem gone_rune (t : List UInt8) (l : List Spot) (r r' a b c : Int) : (goneTo t l ⟨r, a, b, c⟩).1 = (goneTo t l ⟨r', a, b, c⟩).1 ∧ (goneTo t l ⟨r, a, b, c⟩).2.at_ = (goneTo t l ⟨r', a, b, c⟩).2.at_ ∧
    (goneTo t l ⟨r, a, b, c⟩).2.line = (goneTo t l ⟨r', a, b, c⟩).2.line ∧ (goneTo t l ⟨r, a, b, c⟩).2.col = (goneTo t l ⟨r', a, b, c⟩).2.col := by
  have := from_rune t (t.length - a.toNat) l ⟨r, a, b, c⟩ ⟨r', a, b, c⟩ rfl
  unfold goneTo
  obtain ⟨h1, h2⟩ := this
  simp only [Sp.ended, Spot.mk.injEq, true_and] at h2
  exact ⟨h1, h2.1, h2.2.1, h2.2.2⟩

theorem same_drop {a b : List Spot} {k : Nat} (ha : k < a.length) (hb : k < b.length) : Sp.same (a.drop k) (b.drop k) = (decide (a[k] = b[k]) && Sp.same (a.drop (k + 1)) (b.drop (k + 1))) := by
  unfold Sp.same
  rw [List.drop_eq_getElem_cons ha, List.drop_eq_getElem_cons hb, Bool.eq_iff_iff]
  simp only [decide_eq_true_eq, Bool.and_eq_true, List.cons.injEq]

theorem enc_eq (r : Int) (h : Sp.isRune r = true) : (Utf8.encode r).data.toList = bytesOf (Sp.enc r) := by
  simp only [Sp.isRune, decide_eq_true_eq] at h
  have hv : Utf8.valid r = true := (valid_iff r).2 (by omega)
  unfold Utf8.encode
  rw [hv]
  simp only [if_true]
  unfold Sp.enc bytesOf
  by_cases a1 : r < 128
  · rw [if_pos a1, if_pos (show r.toNat < 128 by omega)]
    rfl
  rw [if_neg a1, if_neg (show ¬ r.toNat < 128 by omega)]
  by_cases a2 : r < 2048
  · rw [if_pos a2, if_pos (show r.toNat < 2048 by omega)]
    simp only [List.map_cons, List.map_nil]
    rw [show (192 + r / 64).toNat = 192 + r.toNat / 64 by omega, show (128 + r % 64).toNat = 128 + r.toNat % 64 by omega]
  rw [if_neg a2, if_neg (show ¬ r.toNat < 2048 by omega)]
  by_cases a3 : r < 65536
  · rw [if_pos a3, if_pos (show r.toNat < 65536 by omega)]
    simp only [List.map_cons, List.map_nil]
    rw [show (224 + r / 4096).toNat = 224 + r.toNat / 4096 by omega, show (128 + r / 64 % 64).toNat = 128 + r.toNat / 64 % 64 by omega, show (128 + r % 64).toNat = 128 + r.toNat % 64 by omega]
  rw [if_neg a3, if_neg (show ¬ r.toNat < 65536 by omega)]
  simp only [List.map_cons, List.map_nil]
  rw [show (240 + r / 262144).toNat = 240 + r.toNat / 262144 by omega, show (128 + r / 4096 % 64).toNat = 128 + r.toNat / 4096 % 64 by omega, show (128 + r / 64 % 64).toNat = 128 + r.toNat / 64 % 64 by omega, show (128 + r % 64).toNat = 128 + r.toNat % 64 by omega]

theorem text_eq (l : List Int) (h : l.all Sp.isRune = true) : bytesOf (l.flatMap Sp.enc) = runesOf l := by
  induction l with
  | nil => rfl
  | cons r l ih =>
    simp only [List.all_cons, Bool.and_eq_true] at h
    have ih := ih h.2
    unfold bytesOf runesOf at *
    rw [List.flatMap_cons, List.map_append, ih, List.flatMap_cons, enc_eq r h.1]
    rfl

theorem enc_len (r : Int) : (Sp.enc r).length ≤ 4 := by
  unfold Sp.enc
  repeat' split
  all_goals simp

theorem from_inv (t : List UInt8) : ∀ (n : Nat) (l : List Spot) (s : Spot), okSpot t s → (l.length : Int) ≤ s.at_ → (∀ x ∈ l, x.at_ < t.length) →
    okSpot t (Sp.spotsFrom t n l s).2 ∧ ((Sp.spotsFrom t n l s).1.length : Int) ≤ (Sp.spotsFrom t n l s).2.at_ ∧ ∀ x ∈ (Sp.spotsFrom t n l s).1, x.at_ < t.length := by
  intro n
  induction n with
  | zero => intro l s h1 h2 h3; exact ⟨h1, h2, h3⟩
  | succ n ih =>
    intro l s h1 h2 h3
    by_cases hc : s.at_ < t.length
    · cases hb : Sp.bad t s.at_.toNat with
      | true => simp only [Sp.spotsFrom, if_pos hc, hb, if_true]; exact ⟨h1, h2, h3⟩
      | false =>
        simp only [Sp.spotsFrom, if_pos hc, hb, Bool.false_eq_true, if_false]
        obtain ⟨g1, g2, g3, g4, g5, _⟩ := Sp.good_at h1.2.1 hc hb
        have ha := after_at t s
        refine ih _ _ (okSpot_after h1 hc hb) ?_ ?_
        · unfold after here at ha
          rw [ha]
          simp only [List.length_append, List.length_cons, List.length_nil]
          omega
        · intro x hx
          rcases List.mem_append.1 hx with hx | hx
          · exact h3 x hx
          · simp only [List.mem_singleton] at hx
            subst hx
            exact hc
    · simp only [Sp.spotsFrom, if_neg hc]; exact ⟨h1, h2, h3⟩

theorem spots_inv (t : List UInt8) (h : t.length ≤ 4000) : (Sp.spots1 t).length ≤ 4000 ∧ ∀ x ∈ Sp.spots1 t, x.at_ < t.length := by
  have := from_inv t t.length [] ⟨0, 0, 1, 1⟩ (by unfold okSpot; simp only; omega) (by simp) (by simp)
  obtain ⟨⟨q1, q2, q3, q4⟩, h2, h3⟩ := this
  exact ⟨by unfold Sp.spots1; omega, h3⟩

theorem runes_inv (t : List UInt8) : (Sp.runes1 t).length ≤ 4000 ∧ ∀ x ∈ Sp.runes1 t, x.at_ < t.length := by
  unfold Sp.runes1
  split
  · simp
  · split
    · simp
    · exact spots_inv t (by omega)

theorem code_ok {t : List UInt8} (h : (Sp.runes2 t).code = 0) : t.length ≤ 4000 := by
  unfold Sp.runes2 at h
  split at h
  · simp at h
  · omega

theorem fnd_step {l : List Spot} {i : Int} {p : Int} (h0 : 0 ≤ i) (h : i.toNat < l.length) : fnd l i p = if l[i.toNat].at_ = p then some l[i.toNat] else fnd l (i + 1) p := by
  unfold fnd
  rw [List.drop_eq_getElem_cons h, List.find?_cons, show (i + 1).toNat = i.toNat + 1 by omega]
  by_cases hc : l[i.toNat].at_ = p <;> simp [hc]

theorem fnd_end {l : List Spot} {i : Int} {p : Int} (h0 : 0 ≤ i) (h : ¬ i < l.length) : fnd l i p = none := by
  unfold fnd
  rw [List.drop_eq_nil_of_le (by omega)]
  rfl

theorem fnd_zero (l : List Spot) (p : Int) : fnd l 0 p = l.find? fun s => decide (s.at_ = p) := by unfold fnd; simp

theorem place_bad {t : List UInt8} {p : Int} (h : ¬ (Sp.runes2 t).code = 0) : Sp.place1 t p = Sp.noSpot ∧ Sp.place2 t p = (Sp.runes2 t).code := by
  unfold Sp.place1 Sp.place2
  exact ⟨if_pos h, if_pos h⟩
theorem place_end {t : List UInt8} {p : Int} (h : (Sp.runes2 t).code = 0) (hp : p = t.length) : Sp.place1 t p = Sp.spots2 t ∧ Sp.place2 t p = 0 := by
  unfold Sp.place1 Sp.place2
  exact ⟨(if_neg (fun hh => hh h)).trans (if_pos hp), (if_neg (fun hh => hh h)).trans (if_pos hp)⟩
theorem place_in {t : List UInt8} {p : Int} (h : (Sp.runes2 t).code = 0) (hp : ¬ p = t.length) : Sp.place1 t p = (fnd (Sp.runes1 t) 0 p).getD Sp.noSpot ∧ Sp.place2 t p = if (fnd (Sp.runes1 t) 0 p).isSome then 0 else 1 := by
  rw [fnd_zero]
  unfold Sp.place1 Sp.place2
  exact ⟨(if_neg (fun hh => hh h)).trans (if_neg hp), (if_neg (fun hh => hh h)).trans (if_neg hp)⟩

end Lift.A1P

/- The functions of layer 1, one by one: each computes its law. -/
namespace Lift.A1P
open Go Go.RowKit Lift Go.IntWalk Lift.Fn

theorem someBq {a b : Bool} (h : a = true ↔ b = true) : some a = some b := by rw [Bool.eq_iff_iff.2 h]

theorem digit1 (r : Int) : scan_Digit r = some (Sp.digit r) := by
  rw [scan_Digit, sealF_eq]
  unfold scan_Digit_f
  simp only [cond_eq_ite]
  split
  all_goals refine someBq ?_
  all_goals simp only [Sp.digit, decide_eq_true_eq, decide_eq_false_iff_not, Bool.false_eq_true, false_iff, Bool.not_eq_true] at *
  all_goals omega

theorem blank1 (r : Int) : scan_Blank r = some (Sp.blank r) := by
  rw [scan_Blank, sealF_eq]
  unfold scan_Blank_f
  simp only [cond_eq_ite]
  repeat' split
  all_goals refine someBq ?_
  all_goals simp only [Sp.blank, beq_iff_eq, decide_eq_true_eq, decide_eq_false_iff_not, Bool.false_eq_true, false_iff, true_iff, Bool.not_eq_true] at *
  all_goals omega

theorem blank2 (r : Int) : racetreeref01_Blank r = some (Sp.blank r) := by
  rw [← blank1, racetreeref01_Blank, scan_Blank, sealF_eq, sealF_eq]
  rfl

theorem valid1 (r : Int) : unicode_utf8_ValidRune r = some (Sp.isRune r) := by
  rw [unicode_utf8_ValidRune, sealF_eq]
  unfold unicode_utf8_ValidRune_f
  simp only [cond_eq_ite]
  repeat' split
  all_goals refine someBq ?_
  all_goals simp only [Sp.isRune, beq_iff_eq, decide_eq_true_eq, decide_eq_false_iff_not, Bool.false_eq_true, false_iff, true_iff, Bool.not_eq_true] at *
  all_goals omega

theorem whole1 (r : Int) : scan_whole r = some (Sp.isRune r) := by
  rw [scan_whole, sealF_eq]
  unfold scan_whole_f
  simp only [cond_eq_ite]
  repeat' split
  · simp only [decide_eq_true_eq] at *
    rw [valid1, i32_in r (by omega)]
    rfl
  all_goals refine someBq ?_
  all_goals simp only [Sp.isRune, beq_iff_eq, decide_eq_true_eq, decide_eq_false_iff_not, Bool.false_eq_true, false_iff, true_iff, Bool.not_eq_true] at *
  all_goals omega

theorem isRune2 (r : Int) : racetreeref01_IsRune r = some (Sp.isRune r) := by
  rw [racetreeref01_IsRune, sealF_eq]
  unfold racetreeref01_IsRune_f
  simp only [cond_eq_ite]
  repeat' split
  all_goals refine someBq ?_
  all_goals simp only [Sp.isRune, beq_iff_eq, decide_eq_true_eq, decide_eq_false_iff_not, Bool.false_eq_true, false_iff, true_iff, Bool.not_eq_true] at *
  all_goals omega

theorem letter1 (r : Int) : scan_Letter r = some (Sp.letter r) := by
  rw [scan_Letter, sealF_eq]
  unfold scan_Letter_f
  simp only [cond_eq_ite, whole1, Option.bind_some]
  repeat' split
  all_goals refine someBq ?_
  all_goals simp only [Sp.letter, Sp.isRune, beq_iff_eq, Bool.and_eq_true, decide_eq_true_eq, decide_eq_false_iff_not, Bool.false_eq_true, false_iff, true_iff, Bool.not_eq_true] at *
  all_goals omega

theorem long2 (r : Int) : racetreeref01_long r = some (Sp.long r) := by
  rw [racetreeref01_long, sealF_eq]
  unfold racetreeref01_long_f Sp.long
  simp only [cond_eq_ite, decide_eq_true_eq]
  repeat' split
  all_goals rfl

theorem len1 (r : Int) (h : Sp.isRune r = true) : unicode_utf8_RuneLen r = some (Sp.long r) := by
  simp only [Sp.isRune, decide_eq_true_eq] at h
  rw [unicode_utf8_RuneLen, sealF_eq]
  unfold unicode_utf8_RuneLen_f Sp.long
  simp only [cond_eq_ite, decide_eq_true_eq]
  repeat' split
  all_goals first | rfl | omega

theorem atL (t : List UInt8) (p : Int) (m : Int) (hp : 0 ≤ p) (hm : p + m ≤ t.length) (ht : t.length ≤ 4000) (h4 : m ≤ 4) : ∀ (k n : Nat) (r i : Int), 1 ≤ i → (m - i).toNat = k → i ≤ m → k < n → 0 ≤ r → r < 64 ^ (i.toNat) * 64 → 
    racetreeref01_At_i18 n t p m r i = some (match Sp.cont t p k r i with | none => .inl (0, 0) | some x => .inr (m, x)) := by
  intro k
  induction k with
  | zero =>
    intro n r i h1 hk him hn h0 hr
    obtain ⟨n, rfl⟩ : ∃ q, n = q + 1 := ⟨n - 1, by omega⟩
    have c : ¬ i < m := by omega
    simp only [racetreeref01_At_i18, racetreeref01_At_t18, c, decide_false, cond_false, Sp.cont]
  | succ k ih =>
    intro n r i h1 hk him hn h0 hr
    obtain ⟨n, rfl⟩ : ∃ q, n = q + 1 := ⟨n - 1, by omega⟩
    have c : i < m := by omega
    have hi : i = 1 ∨ i = 2 ∨ i = 3 := by omega
    have hr' : r ≤ 64 * 64 * 64 * 64 := by
      rcases hi with rfl | rfl | rfl <;> simp at hr <;> omega
    have hlt : (p + i).toNat < t.length := by omega
    have h0' : 0 ≤ p + i := by omega
    simp only [racetreeref01_At_i18, racetreeref01_At_t18, Sp.cont]
    rw [i64_in (p + i) (by omega)]
    simp only [c, h0', decide_true, cond_true, List.getElem?_eq_getElem hlt, Option.bind_some]
    generalize t[(p + i).toNat] = d
    have hb : d.toNat < 256 := d.toNat_lt
    rw [i64_in (d.toNat : Int) (by omega)]
    by_cases c1 : d.toNat < 128
    · have : ((d.toNat : Int) < 128) := by omega
      simp only [c1, this, true_or, if_true, decide_true, cond_true]
    · by_cases c2 : 191 < d.toNat
      · have e1 : ¬ ((d.toNat : Int) < 128) := by omega
        have e2 : ((d.toNat : Int) > 191) := by omega
        simp only [c2, e1, e2, or_true, if_true, decide_true, decide_false, cond_true, cond_false]
      · have e1 : ¬ ((d.toNat : Int) < 128) := by omega
        have e2 : ¬ ((d.toNat : Int) > 191) := by omega
        simp only [c1, c2, e1, e2, or_self, if_false, decide_false, cond_false]
        rw [i64_in (64 * r) (by omega), i64_in (64 * r + d.toNat) (by omega), i64_in (64 * r + d.toNat - 128) (by omega), i64_in (i + 1) (by omega)]
        refine ih n _ _ (by omega) (by omega) (by omega) (by omega) (by omega) ?_
        rcases hi with rfl | rfl | rfl <;> simp at hr ⊢ <;> omega

theorem atL' (t : List UInt8) (p m r : Int) (hp : 0 ≤ p) (hm : p + m ≤ t.length) (ht : t.length ≤ 4000) (h4 : m ≤ 4) (h1 : 1 ≤ m) (h0 : 0 ≤ r) (hr : r ≤ 255) :
    racetreeref01_At_l18 t p m r 1 = some (match Sp.cont t p (m - 1).toNat r 1 with | none => .inl (0, 0) | some x => .inr (m, x)) := by
  rw [racetreeref01_At_l18, sealF_eq]
  exact atL t p m hp hm ht h4 _ fuel _ _ (by omega) rfl h1 (by unfold fuel; omega) h0 (by simp; omega)

theorem at2_ (t : List UInt8) (p : Int) (hp : 0 ≤ p) (h : p < t.length) (h4 : t.length ≤ 4000) : racetreeref01_At t p =
    some (Sp.at1 t p, Sp.at2 t p) := by
  have main : racetreeref01_At t p = some (ansA (t.drop p.toNat).length (Sp.by_ (t.drop p.toNat) 0) (Sp.by_ (t.drop p.toNat) 1) (Sp.by_ (t.drop p.toNat) 2) (Sp.by_ (t.drop p.toNat) 3)) := by
    obtain ⟨x, h1, h2⟩ := Sp.get_by (t := t) (j := 0) hp (by omega)
    have hb : x.toNat < 256 := x.toNat_lt
    have hl : ((t.drop p.toNat).length : Int) = t.length - p := by simp; omega
    rw [show p + (0 : Nat) = p by omega] at h1
    have h1' : t[Int.toNat p]? = some x := h1
    rw [racetreeref01_At, sealF_eq]
    unfold racetreeref01_At_f
    rw [h1', i64_in (t.length - p) (by omega)]
    simp only [Option.bind_some]
    rw [i64_in (x.toNat : Int) (by omega), i64_in ((x.toNat : Int) - 240) (by omega), i64_in ((x.toNat : Int) - 224) (by omega), i64_in ((x.toNat : Int) - 192) (by omega)]
    simp only [cond_eq_ite, decide_eq_true_eq, Bool.not_eq_true', bne_iff_ne, ne_eq]
    rw [if_pos hp]
    have fin : ∀ (c : Option Int) (k : Int) (a : Int × Int), (match c with | none => a = (0, 0) | some r => a = if (0 ≤ r ∧ r ≤ 1114111 ∧ (r < 55296 ∨ r > 57343)) ∧ Sp.long r = k then (r, k) else (0, 0)) →
        ((some (match c with | none => Sum.inl ((0 : Int), (0 : Int)) | some x => Sum.inr (k, x)) : Option ((Int × Int) ⊕ (Int × Int))).bind fun y1 =>
          match y1 with
          | .inl y2 => some ((Prod.fst y2), (Prod.snd y2))
          | .inr y2 =>
            Option.bind (racetreeref01_IsRune (Prod.snd y2)) fun y3 =>
            if y3 = false then
              some (((0 : Int)), ((0 : Int)))
            else
              Option.bind (racetreeref01_long (Prod.snd y2)) fun y4 =>
              if ¬ y4 = Prod.fst y2 then
                some (((0 : Int)), ((0 : Int)))
              else
                some ((Prod.snd y2), (Prod.fst y2))) = some a := by
      intro c k a hh
      cases c with
      | none => simp only at hh; subst hh; rfl
      | some r =>
        simp only at hh
        subst hh
        simp only [Option.bind_some, isRune2, long2, Sp.isRune, decide_eq_false_iff_not]
        by_cases q1 : (0 ≤ r ∧ r ≤ 1114111 ∧ (r < 55296 ∨ r > 57343))
        · by_cases q2 : Sp.long r = k
          · simp only [q1, q2, not_true_eq_false, if_false, true_and, if_true]
          · simp only [q1, q2, not_true_eq_false, if_false, true_and, not_false_eq_true, if_true]
        · rw [if_pos q1, if_neg (fun hh => q1 hh.1)]
    by_cases a1 : 240 ≤ x.toNat
    · rw [if_pos (show (x.toNat : Int) ≥ 240 by omega)]
      by_cases a2 : (t.drop p.toNat).length < 4
      · rw [if_pos (show (t.length : Int) - p < 4 by omega)]
        simp only [ansA, ← h2, a1, a2, if_true]
      · rw [if_neg (show ¬ (t.length : Int) - p < 4 by omega), atL' t p 4 _ hp (by omega) h4 (by omega) (by omega) (by omega) (by omega)]
        refine fin _ _ _ ?_
        rw [show ((4 : Int) - 1).toNat = 3 from rfl, Sp.cont3 hp (by omega)]
        simp only [ansA, ← h2, a1, a2, if_true, if_false]
        by_cases q1 : Sp.by_ (t.drop p.toNat) 1 < 128 ∨ 191 < Sp.by_ (t.drop p.toNat) 1
        · simp only [q1, if_true]
        by_cases q2 : Sp.by_ (t.drop p.toNat) 2 < 128 ∨ 191 < Sp.by_ (t.drop p.toNat) 2
        · simp only [q1, q2, if_true, if_false]
        by_cases q3 : Sp.by_ (t.drop p.toNat) 3 < 128 ∨ 191 < Sp.by_ (t.drop p.toNat) 3
        · simp only [q1, q2, q3, if_true, if_false]
        simp only [q1, q2, q3, if_false]
    · rw [if_neg (show ¬ (x.toNat : Int) ≥ 240 by omega)]
      by_cases b1 : 224 ≤ x.toNat
      · rw [if_pos (show (x.toNat : Int) ≥ 224 by omega)]
        by_cases a2 : (t.drop p.toNat).length < 3
        · rw [if_pos (show (t.length : Int) - p < 3 by omega)]
          simp only [ansA, ← h2, a1, b1, a2, if_true, if_false]
        · rw [if_neg (show ¬ (t.length : Int) - p < 3 by omega), atL' t p 3 _ hp (by omega) h4 (by omega) (by omega) (by omega) (by omega)]
          refine fin _ _ _ ?_
          rw [show ((3 : Int) - 1).toNat = 2 from rfl, Sp.cont2 hp (by omega)]
          simp only [ansA, ← h2, a1, b1, a2, if_true, if_false]
          by_cases q1 : Sp.by_ (t.drop p.toNat) 1 < 128 ∨ 191 < Sp.by_ (t.drop p.toNat) 1
          · simp only [q1, if_true]
          by_cases q2 : Sp.by_ (t.drop p.toNat) 2 < 128 ∨ 191 < Sp.by_ (t.drop p.toNat) 2
          · simp only [q1, q2, if_true, if_false]
          simp only [q1, q2, if_false]
      · rw [if_neg (show ¬ (x.toNat : Int) ≥ 224 by omega)]
        by_cases c1 : 192 ≤ x.toNat
        · rw [if_pos (show (x.toNat : Int) ≥ 192 by omega)]
          by_cases a2 : (t.drop p.toNat).length < 2
          · rw [if_pos (show (t.length : Int) - p < 2 by omega)]
            simp only [ansA, ← h2, a1, b1, c1, a2, if_true, if_false]
          · rw [if_neg (show ¬ (t.length : Int) - p < 2 by omega), atL' t p 2 _ hp (by omega) h4 (by omega) (by omega) (by omega) (by omega)]
            refine fin _ _ _ ?_
            rw [show ((2 : Int) - 1).toNat = 1 from rfl, Sp.cont1 hp (by omega)]
            simp only [ansA, ← h2, a1, b1, c1, a2, if_true, if_false]
            by_cases q1 : Sp.by_ (t.drop p.toNat) 1 < 128 ∨ 191 < Sp.by_ (t.drop p.toNat) 1
            · simp only [q1, if_true]
            simp only [q1, if_false]
        · rw [if_neg (show ¬ (x.toNat : Int) ≥ 192 by omega)]
          by_cases d1 : 128 ≤ x.toNat
          · rw [if_pos (show (x.toNat : Int) ≥ 128 by omega)]
            simp only [ansA, ← h2, a1, b1, c1, d1, if_true, if_false]
          · rw [if_neg (show ¬ (x.toNat : Int) ≥ 128 by omega), if_neg (show ¬ (t.length : Int) - p < 1 by omega), atL' t p 1 _ hp (by omega) h4 (by omega) (by omega) (by omega) (by omega)]
            refine fin (Sp.cont t p ((1 : Int) - 1).toNat (x.toNat : Int) 1) 1 _ ?_
            have r1 : (0 ≤ (x.toNat : Int) ∧ (x.toNat : Int) ≤ 1114111 ∧ ((x.toNat : Int) < 55296 ∨ (x.toNat : Int) > 57343)) := by omega
            have r2 : Sp.long (x.toNat : Int) = 1 := by unfold Sp.long; rw [if_pos (by omega)]
            rw [show ((1 : Int) - 1).toNat = 0 from rfl]
            simp only [Sp.cont, ansA, ← h2, a1, b1, c1, d1, if_false]
            rw [if_pos (And.intro r1 r2)]
  rw [main, ans_dl _ (by simp; omega)]
  unfold Sp.at1 Sp.at2
  rw [Sp.bad_eq, Sp.dc_eq]
  split <;> rfl

theorem on2 (s : Spot) (r n : Int) (h1 : -9000 ≤ s.at_ ∧ s.at_ ≤ 9000 ∧ -9000 ≤ s.line ∧ s.line ≤ 9000 ∧ -9000 ≤ s.col ∧ s.col ≤ 9000 ∧ 0 ≤ n ∧ n ≤ 4) : racetreeref01_on s r n = some (Sp.on s r n) := by
  rw [racetreeref01_on, sealF_eq]
  unfold racetreeref01_on_f Sp.on
  rw [i64_in (s.at_ + n) (by omega), i64_in (s.line + 1) (by omega), i64_in (s.col + 1) (by omega)]
  simp only [cond_eq_ite, beq_iff_eq]
  split <;> rfl

/-! The spots of a text, both ways. -/
theorem okSpot_lo {t : List UInt8} {s : Spot} (h : okSpot t s) : 0 ≤ s.at_ ∧ s.at_ ≤ t.length ∧ t.length ≤ 4000 ∧ 1 ≤ s.line ∧ s.line ≤ s.at_ + 1 ∧ 1 ≤ s.col ∧ s.col ≤ s.at_ + 1 :=
  ⟨h.2.1, h.2.2.1, h.1, h.2.2.2.1, h.2.2.2.2.1, h.2.2.2.2.2.1, h.2.2.2.2.2.2⟩

theorem spotsL (t : List UInt8) (a1 a2 a3 a4 : Int) : ∀ (k n : Nat) (c1 c2 c3 c4 : Int) (l : List Spot), t.length - c2.toNat ≤ k → k < n → okSpot t ⟨c1, c2, c3, c4⟩ → (l.length : Int) ≤ c2 →
    racetreeref01_spots_i3 n t a1 a2 a3 a4 c1 c2 c3 c4 l = some (a1, a2, a3, a4, (goneTo t l ⟨c1, c2, c3, c4⟩).2.rune, (goneTo t l ⟨c1, c2, c3, c4⟩).2.at_, (goneTo t l ⟨c1, c2, c3, c4⟩).2.line, (goneTo t l ⟨c1, c2, c3, c4⟩).2.col, (goneTo t l ⟨c1, c2, c3, c4⟩).1) := by
  intro k
  induction k with
  | zero =>
    intro n c1 c2 c3 c4 l hk hn hok hl
    obtain ⟨n, rfl⟩ : ∃ q, n = q + 1 := ⟨n - 1, by omega⟩
    have := okSpot_lo hok
    simp only at this
    have c : ¬ c2 < t.length := by omega
    rw [goneTo_end (s := ⟨c1, c2, c3, c4⟩) c]
    simp only [racetreeref01_spots_i3, racetreeref01_spots_t3, c, decide_false, cond_false]
  | succ k ih =>
    intro n c1 c2 c3 c4 l hk hn hok hl
    obtain ⟨n, rfl⟩ : ∃ q, n = q + 1 := ⟨n - 1, by omega⟩
    obtain ⟨h2, h3, h1, h4, h5, h6, h7⟩ := okSpot_lo hok
    simp only at h2 h3 h4 h5 h6 h7
    simp only [racetreeref01_spots_i3, racetreeref01_spots_t3]
    by_cases c : c2 < t.length
    · rw [at2_ t c2 h2 c h1]
      simp only [c, decide_true, cond_true, Option.bind_some]
      cases hb : Sp.bad t c2.toNat with
      | true =>
        have := (Sp.bad_at hb).2
        rw [goneTo_bad (s := ⟨c1, c2, c3, c4⟩) hb]
        simp only [this, beq_self_eq_true, cond_true]
      | false =>
        obtain ⟨g1, g2, g3, g4, g5, _⟩ := Sp.good_at h2 c hb
        have e0 : (Sp.at2 t c2 == 0) = false := by rw [beq_eq_false_iff_ne]; omega
        rw [goneTo_step (s := ⟨c1, c2, c3, c4⟩) h2 c hb]
        have hk' := okSpot_after hok c hb
        have haf := after_at t ⟨c1, c2, c3, c4⟩
        simp only at haf
        rw [e0, cond_false, on2 _ _ _ (by simp only; omega), cond_eq_ite, if_pos, Option.bind_some]
        · show racetreeref01_spots_i3 n t a1 a2 a3 a4 (after t ⟨c1, c2, c3, c4⟩).rune (after t ⟨c1, c2, c3, c4⟩).at_ (after t ⟨c1, c2, c3, c4⟩).line (after t ⟨c1, c2, c3, c4⟩).col (l ++ [here t ⟨c1, c2, c3, c4⟩]) = _
          refine ih n _ _ _ _ _ ?_ (by omega) hk' ?_
          · omega
          · simp only [List.length_append, List.length_cons, List.length_nil]
            omega
        · simp only [decide_eq_true_eq, List.length_cons, List.length_nil]; omega
    · simp only [c, decide_false, cond_false]
      rw [goneTo_end (s := ⟨c1, c2, c3, c4⟩) c]

theorem spots2_ (t : List UInt8) (h : t.length ≤ 4000) : racetreeref01_spots t = some (Sp.spots2 t, Sp.spots1 t) := by
  rw [racetreeref01_spots, sealF_eq]
  unfold racetreeref01_spots_f
  rw [racetreeref01_spots_l3, sealF_eq, spotsL t _ _ _ _ t.length fuel 0 0 1 1 [] (by simp) (by unfold fuel; omega) (by unfold okSpot; simp only; omega) (by simp)]
  rfl

theorem goneL (s : List UInt8) (a1 a2 a3 a4 : Int) : ∀ (k n : Nat) (c2 c3 c4 : Int) (pos : Nat) (l : List Spot), s.length - c2.toNat ≤ k → k < n → okSpot s ⟨-1, c2, c3, c4⟩ → (l.length : Int) ≤ c2 → (pos : Int) = c2 →
    scan_gone_i4 n s a1 a2 a3 a4 (-1) c2 c3 c4 s pos l = some (if (goneTo s l ⟨-1, c2, c3, c4⟩).2.at_ < s.length then
      .inl (-1, (goneTo s l ⟨-1, c2, c3, c4⟩).2.at_, (goneTo s l ⟨-1, c2, c3, c4⟩).2.line, (goneTo s l ⟨-1, c2, c3, c4⟩).2.col, (goneTo s l ⟨-1, c2, c3, c4⟩).1)
      else .inr (a1, a2, a3, a4, -1, (goneTo s l ⟨-1, c2, c3, c4⟩).2.at_, (goneTo s l ⟨-1, c2, c3, c4⟩).2.line, (goneTo s l ⟨-1, c2, c3, c4⟩).2.col, (goneTo s l ⟨-1, c2, c3, c4⟩).1)) := by
  intro k
  induction k with
  | zero =>
    intro n c2 c3 c4 pos l hk hn hok hl hp
    obtain ⟨n, rfl⟩ : ∃ q, n = q + 1 := ⟨n - 1, by omega⟩
    have := okSpot_lo hok
    simp only at this
    have c : ¬ c2 < s.length := by omega
    have c' : ¬ pos < s.length := by omega
    rw [goneTo_end (s := ⟨-1, c2, c3, c4⟩) c, if_neg c]
    simp only [scan_gone_i4, scan_gone_t4, c', decide_false, cond_false]
  | succ k ih =>
    intro n c2 c3 c4 pos l hk hn hok hl hp
    obtain ⟨n, rfl⟩ : ∃ q, n = q + 1 := ⟨n - 1, by omega⟩
    obtain ⟨h2, h3, h1, h4, h5, h6, h7⟩ := okSpot_lo hok
    simp only at h2 h3 h4 h5 h6 h7
    have hq : pos = c2.toNat := by omega
    simp only [scan_gone_i4, scan_gone_t4]
    by_cases c : c2 < s.length
    · have hlt : pos < s.length := by omega
      have hdc : Utf8.decode ⟨s.toArray⟩ pos = Sp.dc s c2.toNat := by rw [hq]; rfl
      rw [hdc]
      rw [i64_in ((pos : Int) + 3) (by omega)]
      have hmin : (if (pos : Int) + 3 < (s.length : Int) then (pos : Int) + 3 else (s.length : Int)) = (min s.length (c2.toNat + 3) : Nat) := by
        split <;> omega
      rw [hmin]
      have hslice : List.drop (Int.toNat (pos : Int)) (List.take (Int.toNat ((min s.length (c2.toNat + 3) : Nat) : Int)) s) = (s.take (min s.length (c2.toNat + 3))).drop c2.toNat := by
        rw [Int.toNat_natCast, Int.toNat_natCast, hq]
      rw [hslice]
      have hbnd : (decide ((0 : Int) ≤ (pos : Int)) && (decide ((pos : Int) ≤ (min s.length (c2.toNat + 3) : Nat)) && decide (((min s.length (c2.toNat + 3) : Nat) : Int) ≤ (s.length : Int)))) = true := by
        simp only [Bool.and_eq_true, decide_eq_true_eq]; omega
      rw [hbnd]
      have hbad : Sp.bad s c2.toNat = (decide ((Sp.dc s c2.toNat).1 = 65533) && !(((s.take (min s.length (c2.toNat + 3))).drop c2.toNat) == [239, 191, 189])) := rfl
      simp only [hlt, decide_true, cond_true]
      cases hb : Sp.bad s c2.toNat with
      | true =>
        rw [hb] at hbad
        have hbad := hbad.symm
        simp only [Bool.and_eq_true, decide_eq_true_eq] at hbad
        have e1 : (((Sp.dc s c2.toNat).1 : Int) == 65533) = true := by rw [beq_iff_eq]; omega
        rw [e1, hbad.2]
        simp only [cond_true]
        rw [goneTo_bad (s := ⟨-1, c2, c3, c4⟩) hb, if_pos c]
      | false =>
        obtain ⟨g1, g2, g3, g4, g5, g6, g7⟩ := Sp.good_at h2 c hb
        rw [goneTo_step (s := ⟨-1, c2, c3, c4⟩) h2 c hb]
        generalize hR : (some (ite ((goneTo s (l ++ [here s ⟨-1, c2, c3, c4⟩]) (after s ⟨-1, c2, c3, c4⟩)).2.at_ < (s.length : Int)) _ _) : Option _) = R
        have hk' := okSpot_after hok c hb
        have haf := after_at s ⟨-1, c2, c3, c4⟩
        simp only at haf
        have hrune : Sp.isRune ((Sp.dc s c2.toNat).1 : Int) = true := by rw [← g6]; exact g1
        have hlong : Sp.long ((Sp.dc s c2.toNat).1 : Int) = Sp.at2 s c2 := by rw [← g6]; exact g2
        have hr : (0 : Int) ≤ (Sp.dc s c2.toNat).1 ∧ ((Sp.dc s c2.toNat).1 : Int) ≤ 1114111 := by
          simp only [Sp.isRune, decide_eq_true_eq] at hrune; omega
        rw [len1 _ hrune, hlong, Option.bind_some]
        rw [i64_in ((Sp.dc s c2.toNat).1 : Int) (by omega), i64_in (c2 + Sp.at2 s c2) (by omega), i64_in (c3 + 1) (by omega), i64_in (c4 + 1) (by omega)]
        have hhere : here s ⟨-1, c2, c3, c4⟩ = ⟨((Sp.dc s c2.toNat).1 : Int), c2, c3, c4⟩ := by unfold here; rw [g6]
        have go : ∀ (b3 b4 : Int), (after s ⟨-1, c2, c3, c4⟩).line = b3 → (after s ⟨-1, c2, c3, c4⟩).col = b4 →
            scan_gone_i4 n s a1 a2 a3 a4 (-1) (c2 + Sp.at2 s c2) b3 b4 s (pos + (Sp.dc s c2.toNat).2) (l ++ [⟨((Sp.dc s c2.toNat).1 : Int), c2, c3, c4⟩]) =
              R := by
          intro b3 b4 e3 e4
          rw [← hR]
          have hk2 : okSpot s ⟨-1, c2 + Sp.at2 s c2, b3, b4⟩ := by
            obtain ⟨q1, q2, q3, q4, q5, q6, q7⟩ := hk'
            rw [haf] at q2 q3 q5 q7
            rw [e3] at q4 q5
            rw [e4] at q6 q7
            exact ⟨q1, q2, q3, q4, q5, q6, q7⟩
          have heta : after s ⟨-1, c2, c3, c4⟩ = ⟨(after s ⟨-1, c2, c3, c4⟩).rune, c2 + Sp.at2 s c2, b3, b4⟩ := by
            rw [← haf, ← e3, ← e4]
          rw [ih n _ _ _ _ _ (by omega) (by omega) hk2 (by simp only [List.length_append, List.length_cons, List.length_nil]; omega) (by omega)]
          rw [hhere, heta]
          obtain ⟨y1, y2, y3, y4⟩ := gone_rune s (l ++ [⟨((Sp.dc s c2.toNat).1 : Int), c2, c3, c4⟩]) (-1) (after s ⟨-1, c2, c3, c4⟩).rune (c2 + Sp.at2 s c2) b3 b4
          rw [y1, y2, y3, y4]
        have main : (bif decide ((List.length l + List.length [Spot.mk ((Sp.dc s c2.toNat).1 : Int) c2 c3 c4]) * (32 : Nat) ≤ (140737488355328 : Nat) ∧ List.length l + List.length [Spot.mk ((Sp.dc s c2.toNat).1 : Int) c2 c3 c4] ≤ (9223372036854775807 : Nat)) then
              bif ((Sp.dc s c2.toNat).1 : Int) == (10 : Int) then
                scan_gone_i4 n s a1 a2 a3 a4 (-1) (c2 + Sp.at2 s c2) (c3 + 1) 1 s (pos + (Sp.dc s c2.toNat).2) (l ++ [⟨((Sp.dc s c2.toNat).1 : Int), c2, c3, c4⟩])
              else
                scan_gone_i4 n s a1 a2 a3 a4 (-1) (c2 + Sp.at2 s c2) c3 (c4 + 1) s (pos + (Sp.dc s c2.toNat).2) (l ++ [⟨((Sp.dc s c2.toNat).1 : Int), c2, c3, c4⟩])
            else none) = R := by
          have hlen1 : ((List.length l + List.length [Spot.mk ((Sp.dc s c2.toNat).1 : Int) c2 c3 c4]) * (32 : Nat) ≤ (140737488355328 : Nat) ∧ List.length l + List.length [Spot.mk ((Sp.dc s c2.toNat).1 : Int) c2 c3 c4] ≤ (9223372036854775807 : Nat)) := by
            simp only [List.length_cons, List.length_nil]; omega
          rw [decide_eq_true hlen1, cond_true]
          cases e10 : (((Sp.dc s c2.toNat).1 : Int) == 10) with
          | true =>
            have : Sp.at1 s c2 = 10 := by rw [g6]; exact beq_iff_eq.1 e10
            exact go _ _ (by simp [after, here, Sp.on, this]) (by simp [after, here, Sp.on, this])
          | false =>
            have : ¬ Sp.at1 s c2 = 10 := by rw [g6]; exact beq_eq_false_iff_ne.1 e10
            exact go _ _ (by simp [after, here, Sp.on, this]) (by simp [after, here, Sp.on, this])
        cases e1 : (((Sp.dc s c2.toNat).1 : Int) == 65533) with
        | true =>
          rw [hb] at hbad
          have e2 : decide ((Sp.dc s c2.toNat).1 = 65533) = true := by
            have := beq_iff_eq.1 e1
            rw [decide_eq_true_eq]; omega
          rw [e2, Bool.true_and] at hbad
          rw [← hbad]
          simp only [cond_true, cond_false]
          exact main
        | false =>
          simp only [cond_false]
          exact main
    · have hlt : ¬ pos < s.length := by omega
      simp only [hlt, decide_false, cond_false]
      rw [goneTo_end (s := ⟨-1, c2, c3, c4⟩) c, if_neg c]

theorem gone1 (t : List UInt8) (h : t.length ≤ 4000) : scan_gone t = some (Sp.spots2 t, Sp.spots1 t) := by
  have g : goneTo t [] ⟨0, 0, 1, 1⟩ = Sp.spotsFrom t t.length [] ⟨0, 0, 1, 1⟩ := rfl
  obtain ⟨y1, y2, y3, y4⟩ := gone_rune t [] (-1) 0 0 1 1
  rw [g] at y1 y2 y3 y4
  have e2 : (⟨-1, (goneTo t [] ⟨-1, 0, 1, 1⟩).2.at_, (goneTo t [] ⟨-1, 0, 1, 1⟩).2.line, (goneTo t [] ⟨-1, 0, 1, 1⟩).2.col⟩ : Spot) = Sp.spots2 t := by
    rw [y2, y3, y4]; rfl
  have e1 : (goneTo t [] ⟨-1, 0, 1, 1⟩).1 = Sp.spots1 t := y1
  rw [scan_gone, sealF_eq]
  unfold scan_gone_f
  rw [scan_gone_l4, sealF_eq, goneL t _ _ _ _ t.length fuel 0 1 1 0 [] (by simp) (by unfold fuel; omega) (by unfold okSpot; simp only; omega) (by simp) (by simp), Option.bind_some]
  split
  · rename_i y heq
    split at heq
    · cases heq
      simp only [e1, e2]
    · cases heq
  · rename_i y heq
    split at heq
    · cases heq
    · cases heq
      simp only [e1, e2]

theorem runes2_ (t : List UInt8) : racetreeref01_Runes t = some (Sp.runes2 t, Sp.runes1 t) := by
  rw [racetreeref01_Runes, sealF_eq]
  unfold racetreeref01_Runes_f Sp.runes1 Sp.runes2
  simp only [cond_eq_ite, decide_eq_true_eq]
  by_cases h : 4000 < t.length
  · rw [if_pos (show (t.length : Int) > 4000 by omega), if_pos h, if_pos h]
  · rw [if_neg (show ¬ (t.length : Int) > 4000 by omega), if_neg h, if_neg h, spots2_ t (by omega), Option.bind_some]
    by_cases h2 : (Sp.spots2 t).at_ < t.length
    · rw [if_pos h2, if_pos h2, if_pos h2]
    · rw [if_neg h2, if_neg h2, if_neg h2]

theorem runes1_ (t : List UInt8) : scan_Runes t = some (Sp.runes2 t, Sp.runes1 t) := by
  rw [scan_Runes, sealF_eq]
  unfold scan_Runes_f Sp.runes1 Sp.runes2
  simp only [cond_eq_ite, decide_eq_true_eq]
  by_cases h : 4000 < t.length
  · rw [if_pos (show (t.length : Int) > 4000 by omega), if_pos h, if_pos h]
  · rw [if_neg (show ¬ (t.length : Int) > 4000 by omega), if_neg h, if_neg h, gone1 t (by omega), Option.bind_some]
    by_cases h2 : (Sp.spots2 t).at_ < t.length
    · rw [if_pos h2, if_pos h2, if_pos h2]
    · rw [if_neg h2, if_neg h2, if_neg h2]
end Lift.A1P

/- UTF-8 there and back: a text is its runes' letters, and what is left behind them. -/
namespace Lift.A1P
open Go Go.RowKit Lift Go.IntWalk Lift.Fn

theorem bytes_len (l : List Int) : (bytesOf l).length = l.length := by simp [bytesOf]

def encB (r : Int) : List UInt8 := bytesOf (Sp.enc r)
def encs (rs : List Int) : List UInt8 := rs.flatMap encB

theorem encs_cons (r : Int) (rs : List Int) : encs (r :: rs) = encB r ++ encs rs := rfl
theorem encs_append (a b : List Int) : encs (a ++ b) = encs a ++ encs b := by simp [encs]

theorem encs_runesOf (l : List Int) (h : l.all Sp.isRune = true) : encs l = runesOf l := by
  rw [← text_eq l h]
  unfold encs encB bytesOf
  rw [List.map_flatMap]

theorem toNat_of (n : Nat) (h : n < 256) : (UInt8.ofNat n).toNat = n := by
  simp [UInt8.toNat_ofNat']
  omega

theorem encB_len (r : Int) : (encB r).length = (Sp.long r).toNat := by
  unfold encB Sp.enc Sp.long
  rw [bytes_len]
  repeat' split
  all_goals rfl

theorem by0 (a : UInt8) (l : List UInt8) : Sp.by_ (a :: l) 0 = a.toNat := rfl
theorem by1 (a b : UInt8) (l : List UInt8) : Sp.by_ (a :: b :: l) 1 = b.toNat := rfl
theorem by2 (a b c : UInt8) (l : List UInt8) : Sp.by_ (a :: b :: c :: l) 2 = c.toNat := rfl
theorem by3 (a b c d : UInt8) (l : List UInt8) : Sp.by_ (a :: b :: c :: d :: l) 3 = d.toNat := rfl

theorem badl_of {l : List UInt8} {r k : Nat} (h : Sp.dl l = (r, k)) (h2 : r ≠ 65533 ∨ (3 ≤ l.length ∧ Sp.by_ l 0 = 239 ∧ Sp.by_ l 1 = 191 ∧ Sp.by_ l 2 = 189)) : Sp.badl l = false := by
  unfold Sp.badl
  rw [h, Sp.take3]
  rcases h2 with h2 | h2
  · simp [h2]
  · simp [h2]

/-- A rune's letters are read as the rune. -/
theorem dl_enc (r : Int) (rest : List UInt8) (h : Sp.isRune r = true) : Sp.dl (encB r ++ rest) = (r.toNat, (Sp.long r).toNat) ∧ Sp.badl (encB r ++ rest) = false := by
  simp only [Sp.isRune, decide_eq_true_eq] at h
  by_cases a1 : r < 128
  · have e : encB r ++ rest = UInt8.ofNat r.toNat :: rest := by simp [encB, bytesOf, Sp.enc, a1]
    have hl : (Sp.long r).toNat = 1 := by unfold Sp.long; rw [if_pos a1]; rfl
    rw [e, hl]
    have hd : Sp.dl (UInt8.ofNat r.toNat :: rest) = (r.toNat, 1) := by
      unfold Sp.dl
      rw [by0, toNat_of _ (by omega), if_pos (by omega)]
    exact ⟨hd, badl_of hd (.inl (by omega))⟩
  by_cases a2 : r < 2048
  · have e : encB r ++ rest = UInt8.ofNat (192 + r.toNat / 64) :: UInt8.ofNat (128 + r.toNat % 64) :: rest := by
      unfold encB Sp.enc bytesOf
      rw [if_neg a1, if_pos a2]
      simp only [List.map_cons, List.map_nil, List.cons_append, List.nil_append]
      rw [show (192 + r / 64).toNat = 192 + r.toNat / 64 by omega, show (128 + r % 64).toNat = 128 + r.toNat % 64 by omega]
    have hl : (Sp.long r).toNat = 2 := by unfold Sp.long; rw [if_neg a1, if_pos a2]; rfl
    rw [e, hl]
    have hd : Sp.dl (UInt8.ofNat (192 + r.toNat / 64) :: UInt8.ofNat (128 + r.toNat % 64) :: rest) = (r.toNat, 2) := by
      unfold Sp.dl Sp.ct
      rw [by0, by1, toNat_of _ (by omega), toNat_of _ (by omega)]
      simp only [List.length_cons, Bool.and_eq_true, decide_eq_true_eq, beq_iff_eq]
      rw [if_neg (by omega), if_pos (by omega), if_pos (by omega)]
      rw [show (192 + r.toNat / 64) % 32 * 64 + (128 + r.toNat % 64) % 64 = r.toNat by omega]
    exact ⟨hd, badl_of hd (.inl (by omega))⟩
  by_cases a3 : r < 65536
  · have e : encB r ++ rest = UInt8.ofNat (224 + r.toNat / 4096) :: UInt8.ofNat (128 + r.toNat / 64 % 64) :: UInt8.ofNat (128 + r.toNat % 64) :: rest := by
      unfold encB Sp.enc bytesOf
      rw [if_neg a1, if_neg a2, if_pos a3]
      simp only [List.map_cons, List.map_nil, List.cons_append, List.nil_append]
      rw [show (224 + r / 4096).toNat = 224 + r.toNat / 4096 by omega, show (128 + r / 64 % 64).toNat = 128 + r.toNat / 64 % 64 by omega, show (128 + r % 64).toNat = 128 + r.toNat % 64 by omega]
    have hl : (Sp.long r).toNat = 3 := by unfold Sp.long; rw [if_neg a1, if_neg a2, if_pos a3]; rfl
    rw [e, hl]
    have hd : Sp.dl (UInt8.ofNat (224 + r.toNat / 4096) :: UInt8.ofNat (128 + r.toNat / 64 % 64) :: UInt8.ofNat (128 + r.toNat % 64) :: rest) = (r.toNat, 3) := by
      unfold Sp.dl Sp.ct
      rw [by0, by1, by2, toNat_of _ (by omega), toNat_of _ (by omega), toNat_of _ (by omega)]
      simp only [List.length_cons, Bool.and_eq_true, decide_eq_true_eq, beq_iff_eq, valid_iff, ge_iff_le]
      have hv : (224 + r.toNat / 4096) % 16 * 4096 + (128 + r.toNat / 64 % 64) % 64 * 64 + (128 + r.toNat % 64) % 64 = r.toNat := by omega
      rw [hv, if_neg (by omega), if_neg (by omega), if_pos (by omega), if_pos (by omega)]
    refine ⟨hd, badl_of hd ?_⟩
    simp only [List.length_cons, by0, by1, by2]
    rw [toNat_of _ (by omega), toNat_of _ (by omega), toNat_of _ (by omega)]
    omega
  · have e : encB r ++ rest = UInt8.ofNat (240 + r.toNat / 262144) :: UInt8.ofNat (128 + r.toNat / 4096 % 64) :: UInt8.ofNat (128 + r.toNat / 64 % 64) :: UInt8.ofNat (128 + r.toNat % 64) :: rest := by
      unfold encB Sp.enc bytesOf
      rw [if_neg a1, if_neg a2, if_neg a3]
      simp only [List.map_cons, List.map_nil, List.cons_append, List.nil_append]
      rw [show (240 + r / 262144).toNat = 240 + r.toNat / 262144 by omega, show (128 + r / 4096 % 64).toNat = 128 + r.toNat / 4096 % 64 by omega, show (128 + r / 64 % 64).toNat = 128 + r.toNat / 64 % 64 by omega, show (128 + r % 64).toNat = 128 + r.toNat % 64 by omega]
    have hl : (Sp.long r).toNat = 4 := by unfold Sp.long; rw [if_neg a1, if_neg a2, if_neg a3]; rfl
    rw [e, hl]
    have hd : Sp.dl (UInt8.ofNat (240 + r.toNat / 262144) :: UInt8.ofNat (128 + r.toNat / 4096 % 64) :: UInt8.ofNat (128 + r.toNat / 64 % 64) :: UInt8.ofNat (128 + r.toNat % 64) :: rest) = (r.toNat, 4) := by
      unfold Sp.dl Sp.ct
      rw [by0, by1, by2, by3, toNat_of _ (by omega), toNat_of _ (by omega), toNat_of _ (by omega), toNat_of _ (by omega)]
      simp only [List.length_cons, Bool.and_eq_true, decide_eq_true_eq, beq_iff_eq, valid_iff, ge_iff_le]
      have hv : (240 + r.toNat / 262144) % 8 * 262144 + (128 + r.toNat / 4096 % 64) % 64 * 4096 + (128 + r.toNat / 64 % 64) % 64 * 64 + (128 + r.toNat % 64) % 64 = r.toNat := by omega
      rw [hv, if_neg (by omega), if_neg (by omega), if_neg (by omega), if_pos (by omega), if_pos (by omega)]
    exact ⟨hd, badl_of hd (.inl (by omega))⟩

theorem of_toNat' {n : Int} {a : UInt8} (h : n.toNat = a.toNat) : UInt8.ofNat n.toNat = a := by
  rw [h]; simp

theorem two_of {l : List UInt8} (h : 1 < l.length) : ∃ a b r, l = a :: b :: r := by
  match l, h with
  | a :: b :: r, _ => exact ⟨a, b, r, rfl⟩
theorem three_of {l : List UInt8} (h : 2 < l.length) : ∃ a b c r, l = a :: b :: c :: r := by
  match l, h with
  | a :: b :: c :: r, _ => exact ⟨a, b, c, r, rfl⟩
theorem four_of {l : List UInt8} (h : 3 < l.length) : ∃ a b c d r, l = a :: b :: c :: d :: r := by
  match l, h with
  | a :: b :: c :: d :: r, _ => exact ⟨a, b, c, d, r, rfl⟩

/-- What is read well is a rune's letters. -/
theorem dl_split (l : List UInt8) (hl : l ≠ []) (hb : Sp.badl l = false) : Sp.isRune ((Sp.dl l).1 : Int) = true ∧ ∃ rest, l = encB ((Sp.dl l).1 : Int) ++ rest := by
  have hlen : 0 < l.length := by cases l with | nil => exact absurd rfl hl | cons _ _ => simp
  have hr : Sp.isRune ((Sp.dl l).1 : Int) = true := by
    have h4 := ans_dl _ hlen
    obtain ⟨h1, h2, h3⟩ := Sp.dl_pos _ hlen
    rw [hb] at h4
    simp only [Bool.false_eq_true, if_false] at h4
    rcases Sp.ansA_ok l.length (Sp.by_ l 0) (Sp.by_ l 1) (Sp.by_ l 2) (Sp.by_ l 3) (l.getD 0 0).toNat_lt with h5 | ⟨h5, h6⟩
    · rw [h4] at h5
      simp only [Prod.mk.injEq] at h5
      omega
    · rw [h4] at h5
      exact h5
  refine ⟨hr, ?_⟩
  have hg : ¬ ((Sp.dl l).1 = 65533 ∧ ¬ (3 ≤ l.length ∧ Sp.by_ l 0 = 239 ∧ Sp.by_ l 1 = 191 ∧ Sp.by_ l 2 = 189)) := by
    unfold Sp.badl at hb
    rw [Sp.take3] at hb
    intro hh
    simp [hh.1] at hb
    exact hh.2 hb
  obtain ⟨D, hD⟩ : ∃ D, D = Sp.dl l := ⟨_, rfl⟩
  rw [← hD] at hg ⊢
  unfold Sp.dl Sp.ct at hD
  simp only [Bool.and_eq_true, decide_eq_true_eq, beq_iff_eq, valid_iff, ge_iff_le] at hD
  have hb0 : Sp.by_ l 0 < 256 := (l.getD 0 0).toNat_lt
  have hb1 : Sp.by_ l 1 < 256 := (l.getD 1 0).toNat_lt
  have hb2 : Sp.by_ l 2 < 256 := (l.getD 2 0).toNat_lt
  have hb3 : Sp.by_ l 3 < 256 := (l.getD 3 0).toNat_lt
  by_cases k0 : Sp.by_ l 0 < 128
  · rw [if_pos k0] at hD
    rw [hD]
    match l, hlen with
    | a :: l, _ =>
      rw [by0] at *
      refine ⟨l, ?_⟩
      unfold encB Sp.enc bytesOf
      rw [if_pos (by simp only; omega)]
      simp
  rw [if_neg k0] at hD
  by_cases k1 : Sp.by_ l 0 / 32 = 6 ∧ 1 < l.length ∧ Sp.by_ l 1 / 64 = 2
  · rw [if_pos k1] at hD
    by_cases k2 : 128 ≤ Sp.by_ l 0 % 32 * 64 + Sp.by_ l 1 % 64
    · rw [if_pos k2] at hD
      rw [hD]
      obtain ⟨a, b, l, rfl⟩ := two_of k1.2.1
      next =>
        rw [by0, by1] at *
        refine ⟨l, ?_⟩
        unfold encB Sp.enc bytesOf
        rw [if_neg (by simp only; omega), if_pos (by simp only; omega)]
        simp only [List.map_cons, List.map_nil, List.cons_append, List.nil_append]
        rw [of_toNat' (a := a) (by omega), of_toNat' (a := b) (by omega)]
    · rw [if_neg k2] at hD
      rw [hD] at hg
      have hg' := Classical.byContradiction fun hh => hg ⟨rfl, hh⟩
      omega
  rw [if_neg k1] at hD
  by_cases k2 : (Sp.by_ l 0 / 16 = 14 ∧ 1 < l.length ∧ Sp.by_ l 1 / 64 = 2) ∧ 2 < l.length ∧ Sp.by_ l 2 / 64 = 2
  · rw [if_pos k2] at hD
    by_cases k3 : 2048 ≤ Sp.by_ l 0 % 16 * 4096 + Sp.by_ l 1 % 64 * 64 + Sp.by_ l 2 % 64 ∧ (0 ≤ ((Sp.by_ l 0 % 16 * 4096 + Sp.by_ l 1 % 64 * 64 + Sp.by_ l 2 % 64 : Nat) : Int) ∧ ((Sp.by_ l 0 % 16 * 4096 + Sp.by_ l 1 % 64 * 64 + Sp.by_ l 2 % 64 : Nat) : Int) < 55296 ∨ 57344 ≤ ((Sp.by_ l 0 % 16 * 4096 + Sp.by_ l 1 % 64 * 64 + Sp.by_ l 2 % 64 : Nat) : Int) ∧ ((Sp.by_ l 0 % 16 * 4096 + Sp.by_ l 1 % 64 * 64 + Sp.by_ l 2 % 64 : Nat) : Int) ≤ 1114111)
    · rw [if_pos k3] at hD
      rw [hD]
      obtain ⟨a, b, c, l, rfl⟩ := three_of k2.2.1
      next =>
        rw [by0, by1, by2] at *
        refine ⟨l, ?_⟩
        unfold encB Sp.enc bytesOf
        rw [if_neg (by simp only; omega), if_neg (by simp only; omega), if_pos (by simp only; omega)]
        simp only [List.map_cons, List.map_nil, List.cons_append, List.nil_append]
        rw [of_toNat' (a := a) (by omega), of_toNat' (a := b) (by omega), of_toNat' (a := c) (by omega)]
    · rw [if_neg k3] at hD
      rw [hD] at hg
      have hg' := Classical.byContradiction fun hh => hg ⟨rfl, hh⟩
      omega
  rw [if_neg k2] at hD
  by_cases k3 : ((Sp.by_ l 0 / 8 = 30 ∧ 1 < l.length ∧ Sp.by_ l 1 / 64 = 2) ∧ 2 < l.length ∧ Sp.by_ l 2 / 64 = 2) ∧ 3 < l.length ∧ Sp.by_ l 3 / 64 = 2
  · rw [if_pos k3] at hD
    by_cases k4 : 65536 ≤ Sp.by_ l 0 % 8 * 262144 + Sp.by_ l 1 % 64 * 4096 + Sp.by_ l 2 % 64 * 64 + Sp.by_ l 3 % 64 ∧ (0 ≤ ((Sp.by_ l 0 % 8 * 262144 + Sp.by_ l 1 % 64 * 4096 + Sp.by_ l 2 % 64 * 64 + Sp.by_ l 3 % 64 : Nat) : Int) ∧ ((Sp.by_ l 0 % 8 * 262144 + Sp.by_ l 1 % 64 * 4096 + Sp.by_ l 2 % 64 * 64 + Sp.by_ l 3 % 64 : Nat) : Int) < 55296 ∨ 57344 ≤ ((Sp.by_ l 0 % 8 * 262144 + Sp.by_ l 1 % 64 * 4096 + Sp.by_ l 2 % 64 * 64 + Sp.by_ l 3 % 64 : Nat) : Int) ∧ ((Sp.by_ l 0 % 8 * 262144 + Sp.by_ l 1 % 64 * 4096 + Sp.by_ l 2 % 64 * 64 + Sp.by_ l 3 % 64 : Nat) : Int) ≤ 1114111)
    · rw [if_pos k4] at hD
      rw [hD]
      obtain ⟨a, b, c, d, l, rfl⟩ := four_of k3.2.1
      next =>
        rw [by0, by1, by2, by3] at *
        refine ⟨l, ?_⟩
        unfold encB Sp.enc bytesOf
        rw [if_neg (by simp only; omega), if_neg (by simp only; omega), if_neg (by simp only; omega)]
        simp only [List.map_cons, List.map_nil, List.cons_append, List.nil_append]
        rw [of_toNat' (a := a) (by omega), of_toNat' (a := b) (by omega), of_toNat' (a := c) (by omega), of_toNat' (a := d) (by omega)]
    · rw [if_neg k4] at hD
      rw [hD] at hg
      have hg' := Classical.byContradiction fun hh => hg ⟨rfl, hh⟩
      omega
  · rw [if_neg k3] at hD
    rw [hD] at hg
    have hg' := Classical.byContradiction fun hh => hg ⟨rfl, hh⟩
    omega

/-- What is bad shows in four letters. -/
theorem bad_four (l more : List UInt8) (h : 4 ≤ l.length) (hb : Sp.badl l = true) : Sp.badl (l.take 4 ++ more) = true := by
  match l, h with
  | a :: b :: c :: d :: l, _ =>
    have e : (a :: b :: c :: d :: l).take 4 ++ more = a :: b :: c :: d :: more := rfl
    rw [e]
    have hd : Sp.dl (a :: b :: c :: d :: more) = Sp.dl (a :: b :: c :: d :: l) := by
      have g0 : ∀ m, Sp.by_ (a :: b :: c :: d :: m) 0 = a.toNat := fun _ => rfl
      have g1 : ∀ m, Sp.by_ (a :: b :: c :: d :: m) 1 = b.toNat := fun _ => rfl
      have g2 : ∀ m, Sp.by_ (a :: b :: c :: d :: m) 2 = c.toNat := fun _ => rfl
      have g3 : ∀ m, Sp.by_ (a :: b :: c :: d :: m) 3 = d.toNat := fun _ => rfl
      have f1 : ∀ m, Sp.ct (a :: b :: c :: d :: m) 1 = (b.toNat / 64 == 2) := fun m => by
        unfold Sp.ct; rw [g1, decide_eq_true (by simp), Bool.true_and]
      have f2 : ∀ m, Sp.ct (a :: b :: c :: d :: m) 2 = (c.toNat / 64 == 2) := fun m => by
        unfold Sp.ct; rw [g2, decide_eq_true (by simp), Bool.true_and]
      have f3 : ∀ m, Sp.ct (a :: b :: c :: d :: m) 3 = (d.toNat / 64 == 2) := fun m => by
        unfold Sp.ct; rw [g3, decide_eq_true (by simp), Bool.true_and]
      unfold Sp.dl
      rw [g0, g1, g2, g3, f1, f2, f3, g0, g1, g2, g3, f1, f2, f3]
    unfold Sp.badl at hb ⊢
    rw [hd]
    exact hb

/-! The spots of runes. -/
def put : List Int → Spot → List Spot × Spot
  | [], s => ([], s)
  | r :: rs, s => (⟨r, s.at_, s.line, s.col⟩ :: (put rs (Sp.on ⟨r, s.at_, s.line, s.col⟩ r (Sp.long r))).1, (put rs (Sp.on ⟨r, s.at_, s.line, s.col⟩ r (Sp.long r))).2)

theorem on_at (s : Spot) (r n : Int) : (Sp.on s r n).at_ = s.at_ + n := by unfold Sp.on; split <;> rfl

theorem put_rune : ∀ (rs : List Int) (s : Spot), (put rs s).1.map (·.rune) = rs
  | [], _ => rfl
  | r :: rs, s => by simp only [put, List.map_cons]; rw [put_rune rs]

theorem put_len (rs : List Int) (s : Spot) : (put rs s).1.length = rs.length := by
  have := congrArg List.length (put_rune rs s)
  simpa using this

theorem long_pos (r : Int) : 1 ≤ Sp.long r := by unfold Sp.long; repeat' split
                                                 all_goals omega

theorem put_at : ∀ (rs : List Int) (s : Spot), (put rs s).2.at_ = s.at_ + (encs rs).length
  | [], s => by simp [put, encs]
  | r :: rs, s => by
    simp only [put]
    rw [put_at rs, on_at, encs_cons, List.length_append, encB_len]
    have := long_pos r
    simp only
    omega

theorem put_take : ∀ (k : Nat) (rs : List Int) (s : Spot), (put (rs.take k) s).1 = (put rs s).1.take k
  | 0, rs, s => by simp [put]
  | k + 1, [], s => by simp [put]
  | k + 1, r :: rs, s => by
    simp only [List.take_succ_cons, put]
    rw [put_take k rs]

theorem put_get : ∀ (rs : List Int) (s : Spot) (k : Nat) (x : Spot), (put rs s).1[k]? = some x → x.at_ = s.at_ + (encs (rs.take k)).length
  | [], s, k, x => by simp [put]
  | r :: rs, s, 0, x => by
    intro h
    simp only [put, List.getElem?_cons_zero, Option.some.injEq] at h
    subst h
    simp [encs]
  | r :: rs, s, k + 1, x => by
    intro h
    simp only [put, List.getElem?_cons_succ] at h
    rw [put_get rs _ k x h, on_at, List.take_succ_cons, encs_cons, List.length_append, encB_len]
    have := long_pos r
    simp only
    omega

theorem from_put (t : List UInt8) : ∀ (rs : List Int) (n : Nat) (acc : List Spot) (s : Spot) (rest : List UInt8), rs.all Sp.isRune = true → 0 ≤ s.at_ → t.drop s.at_.toNat = encs rs ++ rest → (rest = [] ∨ Sp.badl rest = true) →
    t.length - s.at_.toNat ≤ n → Sp.spotsFrom t n acc s = (acc ++ (put rs s).1, (put rs s).2)
  | [], n, acc, s, rest => by
    intro _ h0 hd hr hn
    simp only [encs, List.flatMap_nil, List.nil_append] at hd
    simp only [put, List.append_nil]
    cases n with
    | zero => rfl
    | succ n =>
      simp only [Sp.spotsFrom]
      by_cases hc : s.at_ < t.length
      · rw [if_pos hc]
        have hne : t.drop s.at_.toNat ≠ [] := by
          intro hh
          have := congrArg List.length hh
          simp at this
          omega
        rcases hr with rfl | hr
        · exact absurd hd hne
        · rw [if_pos]
          rw [Sp.bad_eq, hd]
          exact hr
      · rw [if_neg hc]
  | r :: rs, n, acc, s, rest => by
    intro ha h0 hd hr hn
    simp only [List.all_cons, Bool.and_eq_true] at ha
    rw [encs_cons, List.append_assoc] at hd
    obtain ⟨h1, h2⟩ := dl_enc r (encs rs ++ rest) ha.1
    have hlen := congrArg List.length hd
    have hl := long_pos r
    have hel := encB_len r
    simp only [List.length_drop, List.length_append] at hlen
    have hc : s.at_ < t.length := by omega
    have hb : Sp.bad t s.at_.toNat = false := by rw [Sp.bad_eq, hd]; exact h2
    have hr' : 0 ≤ r := by
      have := ha.1
      simp only [Sp.isRune, decide_eq_true_eq] at this
      exact this.1
    have e1 : Sp.at1 t s.at_ = r := by
      unfold Sp.at1
      rw [hb, Sp.dc_eq, hd, h1]
      simp
      omega
    have e2 : Sp.at2 t s.at_ = Sp.long r := by
      unfold Sp.at2
      rw [hb, Sp.dc_eq, hd, h1]
      simp
      omega
    obtain ⟨n, rfl⟩ : ∃ m, n = m + 1 := ⟨n - 1, by omega⟩
    simp only [Sp.spotsFrom, if_pos hc, hb, Bool.false_eq_true, if_false]
    rw [e1, e2]
    have hat := on_at ⟨r, s.at_, s.line, s.col⟩ r (Sp.long r)
    simp only at hat
    rw [from_put t rs n _ _ rest ha.2 (by rw [hat]; omega) ?_ hr (by rw [hat]; omega)]
    · simp only [put, List.append_assoc, List.cons_append, List.nil_append]
    · rw [hat, show (s.at_ + Sp.long r).toNat = s.at_.toNat + (encB r).length by omega, ← List.drop_drop, hd, List.drop_left]

def s0 : Spot := ⟨0, 0, 1, 1⟩

/-- The spots of a text, told by its runes. -/
theorem spots_put (rs : List Int) (rest : List UInt8) (ha : rs.all Sp.isRune = true) (hr : rest = [] ∨ Sp.badl rest = true) : Sp.spots1 (encs rs ++ rest) = (put rs s0).1 ∧ Sp.spots2 (encs rs ++ rest) = Sp.ended (put rs s0).2 := by
  have := from_put (encs rs ++ rest) rs (encs rs ++ rest).length [] s0 rest ha (by simp [s0]) (by simp [s0]) hr (by omega)
  unfold Sp.spots1 Sp.spots2
  unfold s0 at this ⊢
  rw [this]
  simp

/-- Every text is the letters of runes, and a bad rest. -/
theorem text_split : ∀ (n : Nat) (t : List UInt8), t.length ≤ n → ∃ rs rest, t = encs rs ++ rest ∧ rs.all Sp.isRune = true ∧ (rest = [] ∨ Sp.badl rest = true)
  | 0, t, h => ⟨[], [], by cases t <;> simp_all [encs], rfl, .inl rfl⟩
  | n + 1, t, h => by
    by_cases h0 : t = []
    · exact ⟨[], [], by simp [h0, encs], rfl, .inl rfl⟩
    cases hb : Sp.badl t with
    | true => exact ⟨[], t, by simp [encs], rfl, .inr hb⟩
    | false =>
      obtain ⟨h1, rest, h2⟩ := dl_split t h0 hb
      have hl := encB_len ((Sp.dl t).1 : Int)
      have hp := long_pos ((Sp.dl t).1 : Int)
      have hlen : rest.length ≤ n := by
        have := congrArg List.length h2
        rw [List.length_append] at this
        omega
      obtain ⟨rs, r2, h3, h4, h5⟩ := text_split n rest hlen
      refine ⟨((Sp.dl t).1 : Int) :: rs, r2, ?_, ?_, h5⟩
      · rw [encs_cons, List.append_assoc, ← h3]; exact h2
      · simp [h1, h4]

theorem ended_at (s : Spot) : (Sp.ended s).at_ = s.at_ := rfl

theorem runes_ok (rs : List Int) (ha : rs.all Sp.isRune = true) (hl : (encs rs).length ≤ 4000) : Sp.runes1 (encs rs) = (put rs s0).1 ∧ Sp.runes2 (encs rs) = ⟨0, 0, []⟩ := by
  obtain ⟨h1, h2⟩ := spots_put rs [] ha (.inl rfl)
  rw [List.append_nil] at h1 h2
  have h3 := put_at rs s0
  unfold Sp.runes1 Sp.runes2
  rw [h1, h2, ended_at, h3]
  have h5 : ¬ (s0.at_ + ((encs rs).length : Int) < (encs rs).length) := by simp [s0]
  have h4 : ¬ 4000 < (encs rs).length := by omega
  simp only [if_neg h4, if_neg h5, and_self]

theorem runes_bad (rs : List Int) (rest : List UInt8) (ha : rs.all Sp.isRune = true) (hne : rest ≠ []) (hb : Sp.badl rest = true) (hl : (encs rs ++ rest).length ≤ 4000) : Sp.runes1 (encs rs ++ rest) = [] ∧ Sp.runes2 (encs rs ++ rest) = ⟨11, (encs rs).length, []⟩ := by
  obtain ⟨h1, h2⟩ := spots_put rs rest ha (.inr hb)
  have h3 := put_at rs s0
  have hpos : 0 < rest.length := by cases rest with | nil => exact absurd rfl hne | cons _ _ => simp
  unfold Sp.runes1 Sp.runes2
  rw [h2, ended_at, h3]
  have h5 : (s0.at_ + ((encs rs).length : Int) < (encs rs ++ rest).length) := by simp [s0]; omega
  have h4 : ¬ 4000 < (encs rs ++ rest).length := by omega
  simp only [if_neg h4, if_pos h5]
  simp [s0]

/-- The texts that have runes. -/
theorem runes_cases (t : List UInt8) : (Sp.runes1 t = [] ∧ Sp.runes2 t = ⟨10, 4000, []⟩) ∨
    (t.length ≤ 4000 ∧ ∃ rs rest, t = encs rs ++ rest ∧ rs.all Sp.isRune = true ∧ rest ≠ [] ∧ Sp.badl rest = true ∧ Sp.runes1 t = [] ∧ Sp.runes2 t = ⟨11, (encs rs).length, []⟩) ∨
    (t.length ≤ 4000 ∧ ∃ rs, t = encs rs ∧ rs.all Sp.isRune = true ∧ Sp.runes1 t = (put rs s0).1 ∧ Sp.runes2 t = ⟨0, 0, []⟩) := by
  by_cases h : 4000 < t.length
  · left
    unfold Sp.runes1 Sp.runes2
    rw [if_pos h, if_pos h]
    exact ⟨rfl, rfl⟩
  right
  obtain ⟨rs, rest, h1, h2, h3⟩ := text_split t.length t (Nat.le_refl _)
  by_cases h0 : rest = []
  · right
    subst h0
    rw [List.append_nil] at h1
    subst h1
    obtain ⟨q1, q2⟩ := runes_ok rs h2 (by omega)
    exact ⟨by omega, rs, rfl, h2, q1, q2⟩
  · left
    have hb : Sp.badl rest = true := by rcases h3 with h3 | h3; exact absurd h3 h0; exact h3
    subst h1
    obtain ⟨q1, q2⟩ := runes_bad rs rest h2 h0 hb (by omega)
    exact ⟨by omega, rs, rest, rfl, h2, h0, hb, q1, q2⟩
end Lift.A1P

/- The functions of layer 2: each computes its law over a text's runes. -/
namespace Lift.A1P
open Go Go.RowKit Lift Go.IntWalk Lift.Fn

def goesR (r : Int) : Bool := Sp.letter r || Sp.digit r

theorem goes1 (r : Int) (h : 0 ≤ r ∧ r ≤ 1114111) : lex_goes r = some (goesR r) := by
  rw [lex_goes, sealF_eq]
  unfold lex_goes_f goesR
  rw [i64_in r (by omega), letter1, digit1, Option.bind_some, Option.bind_some]
  cases Sp.letter r <;> rfl

theorem rune_range {r : Int} (h : Sp.isRune r = true) : 0 ≤ r ∧ r ≤ 1114111 := by
  simp only [Sp.isRune, decide_eq_true_eq] at h
  omega

/-- The rune that begins at a place. -/
theorem dec_at (t : List UInt8) (p : Nat) (r : Int) (l : List UInt8) (hd : t.drop p = encB r ++ l) (hr : Sp.isRune r = true) : Utf8.decode ⟨t.toArray⟩ p = (r.toNat, (Sp.long r).toNat) := by
  have h1 := Sp.dc_eq t p
  unfold Sp.dc at h1
  rw [h1, hd]
  exact (dl_enc r l hr).1

theorem encs_drop (ds rs : List Int) : (encs (ds ++ rs)).drop (encs ds).length = encs rs := by
  rw [encs_append, List.drop_left]

theorem lt_len (ds rs : List Int) (r : Int) : (encs ds).length < (encs (ds ++ r :: rs)).length := by
  rw [encs_append, encs_cons, List.length_append, List.length_append, encB_len]
  have := long_pos r
  omega

theorem len_snoc (ds : List Int) (r : Int) : (encs (ds ++ [r])).length = (encs ds).length + (Sp.long r).toNat := by
  rw [encs_append, encs_cons, List.length_append, List.length_append, encB_len]
  simp [encs]

theorem wordL : ∀ (rs ds : List Int) (n : Nat), rs.all Sp.isRune = true → rs.length < n → (encs (ds ++ rs)).length ≤ 9000000 →
    lex_word_i2 n (encs (ds ++ rs)) (encs (ds ++ rs)) (encs ds).length = some (if rs.all goesR then .inr (encs (ds ++ rs)) else .inl (encs (ds ++ rs.takeWhile goesR)))
  | [], ds, n, _, hn, hl => by
    obtain ⟨n, rfl⟩ : ∃ q, n = q + 1 := ⟨n - 1, by simp at hn; omega⟩
    simp only [List.append_nil, lex_word_i2, lex_word_t2]
    simp
  | r :: rs, ds, n, ha, hn, hl => by
    obtain ⟨n, rfl⟩ : ∃ q, n = q + 1 := ⟨n - 1, by simp at hn; omega⟩
    simp only [List.all_cons, Bool.and_eq_true] at ha
    have hlt := lt_len ds rs r
    have hd : Utf8.decode ⟨(encs (ds ++ r :: rs)).toArray⟩ (encs ds).length = (r.toNat, (Sp.long r).toNat) := dec_at _ _ r (encs rs) (by rw [encs_drop, encs_cons]) ha.1
    have hr := rune_range ha.1
    simp only [lex_word_i2, lex_word_t2, hd, hlt, decide_true, cond_true]
    rw [show ((r.toNat : Nat) : Int) = r by omega, goes1 r hr, Option.bind_some]
    cases hg : goesR r with
    | false =>
      have hb : (decide ((0 : Int) ≤ 0) && (decide ((0 : Int) ≤ ((encs ds).length : Int)) && decide (((encs ds).length : Int) ≤ ((encs (ds ++ r :: rs)).length : Int)))) = true := by
        simp only [Bool.and_eq_true, decide_eq_true_eq]; omega
      simp only [Bool.not_false, cond_true, hb, List.all_cons, hg, Bool.false_and, Bool.false_eq_true, if_false, List.takeWhile_cons, List.append_nil, List.drop_zero, Int.toNat_natCast]
      rw [encs_append, List.take_left]
    | true =>
      have ih := wordL rs (ds ++ [r]) n ha.2 (by simp at hn; omega) (by simpa using hl)
      rw [List.append_assoc, List.singleton_append, len_snoc] at ih
      simp only [Bool.not_true, cond_false, ih, List.all_cons, hg, Bool.true_and, List.takeWhile_cons, if_true, List.append_assoc, List.singleton_append]

theorem take_all {p : Int → Bool} {l : List Int} (h : l.all p = true) : l.takeWhile p = l := by
  induction l with
  | nil => rfl
  | cons a l ih =>
    simp only [List.all_cons, Bool.and_eq_true] at h
    rw [List.takeWhile_cons, if_pos h.1, ih h.2]

theorem len_runes (rs : List Int) : rs.length ≤ (encs rs).length := by
  induction rs with
  | nil => simp
  | cons r l ih =>
    rw [encs_cons, List.length_append, encB_len, List.length_cons]
    have := long_pos r
    omega

theorem word1 (rs : List Int) (ha : rs.all Sp.isRune = true) (hl : (encs rs).length ≤ 9000000) : lex_word (encs rs) = some (encs (rs.takeWhile goesR)) := by
  rw [lex_word, sealF_eq]
  unfold lex_word_f
  have := wordL rs [] fuel ha (by have := len_runes rs; unfold fuel; omega) (by simpa using hl)
  simp only [List.nil_append] at this
  rw [lex_word_l2, sealF_eq, show (0 : Nat) = (encs []).length from rfl, this]
  cases hg : rs.all goesR with
  | true => simp only [if_true, Option.bind_some, take_all hg]
  | false => simp

/-! Blanks and comments. -/
def skip : Bool → List Int → List Int
  | _, [] => []
  | true, r :: rs => skip (r != 10) rs
  | false, r :: rs => if r = 35 then skip true rs else if Sp.blank r then skip false rs else r :: rs

theorem passedL : ∀ (rs ds : List Int) (c : Bool) (n : Nat), rs.all Sp.isRune = true → rs.length < n →
    lex_passed_i3 n (encs (ds ++ rs)) c (encs (ds ++ rs)) (encs ds).length = some (if skip c rs = [] then .inr (encs (ds ++ rs)) else .inl (((encs (ds ++ rs)).length : Int) - (encs (skip c rs)).length))
  | [], ds, c, n, _, hn => by
    obtain ⟨n, rfl⟩ : ∃ q, n = q + 1 := ⟨n - 1, by simp at hn; omega⟩
    simp only [List.append_nil, lex_passed_i3, lex_passed_t3]
    cases c <;> simp [skip]
  | r :: rs, ds, c, n, ha, hn => by
    obtain ⟨n, rfl⟩ : ∃ q, n = q + 1 := ⟨n - 1, by simp at hn; omega⟩
    simp only [List.all_cons, Bool.and_eq_true] at ha
    have hlt := lt_len ds rs r
    have hd : Utf8.decode ⟨(encs (ds ++ r :: rs)).toArray⟩ (encs ds).length = (r.toNat, (Sp.long r).toNat) := dec_at _ _ r (encs rs) (by rw [encs_drop, encs_cons]) ha.1
    have hr := rune_range ha.1
    have ih := fun c => passedL rs (ds ++ [r]) c n ha.2 (by simp at hn; omega)
    simp only [List.append_assoc, List.singleton_append, len_snoc] at ih
    simp only [lex_passed_i3, lex_passed_t3, hd, hlt, decide_true, cond_true]
    rw [show ((r.toNat : Nat) : Int) = r by omega]
    cases c with
    | true =>
      rw [cond_true, ih]
      rfl
    | false =>
      rw [cond_false]
      by_cases h35 : r = 35
      · have : (r == 35) = true := by simp [h35]
        rw [this, cond_true, ih]
        simp only [skip, h35, if_true]
      · have : (r == 35) = false := by simp [h35]
        rw [this, cond_false, i64_in r (by omega), blank1, Option.bind_some]
        cases hb : Sp.blank r with
        | true =>
          simp only [Bool.not_true, cond_false, ih, skip, h35, if_false, hb, if_true]
        | false =>
          have hne : skip false (r :: rs) = r :: rs := by simp [skip, h35, hb]
          rw [hne]
          simp only [Bool.not_false, cond_true, if_neg (List.cons_ne_nil r rs)]
          congr 2
          rw [encs_append, List.length_append]
          omega

theorem passed1 (rs : List Int) (ha : rs.all Sp.isRune = true) (hl : (encs rs).length ≤ 9000000) : lex_passed (encs rs) = some (((encs rs).length : Int) - (encs (skip false rs)).length) := by
  rw [lex_passed, sealF_eq]
  unfold lex_passed_f
  have := passedL rs [] false fuel ha (by have := len_runes rs; unfold fuel; omega)
  simp only [List.nil_append] at this
  rw [lex_passed_l3, sealF_eq, show (0 : Nat) = (encs []).length from rfl, this]
  by_cases hs : skip false rs = []
  · rw [if_pos hs, hs]; simp [encs]
  · rw [if_neg hs]; simp

/-! Lists of words, signs. -/
theorem indexL (l : List (List UInt8)) (x : List UInt8) (hl : l.length ≤ 4000) : ∀ (k n : Nat) (i : Int), 0 ≤ i → l.length - i.toNat ≤ k → k < n →
    ∃ r, slices_Index_string_string_i2 n l x l.length i = some r ∧ ((l.drop i.toNat).contains x = match r with | .inl j => decide (0 ≤ j) | .inr _ => false) := by
  intro k
  have fin : ∀ (n : Nat) (i : Int), 0 ≤ i → ¬ i < l.length → ∃ r, slices_Index_string_string_i2 (n + 1) l x l.length i = some r ∧ ((l.drop i.toNat).contains x = match r with | .inl j => decide (0 ≤ j) | .inr _ => false) := by
    intro n i h0 c
    refine ⟨.inr (), ?_, ?_⟩
    · simp only [slices_Index_string_string_i2, slices_Index_string_string_t2, c, decide_false, cond_false]
    · rw [List.drop_eq_nil_of_le (by omega)]; rfl
  induction k with
  | zero =>
    intro n i h0 hk hn
    obtain ⟨n, rfl⟩ : ∃ q, n = q + 1 := ⟨n - 1, by omega⟩
    exact fin n i h0 (by omega)
  | succ k ih =>
    intro n i h0 hk hn
    obtain ⟨n, rfl⟩ : ∃ q, n = q + 1 := ⟨n - 1, by omega⟩
    by_cases c : i < l.length
    · have ha : i.toNat < l.length := by omega
      rw [List.drop_eq_getElem_cons ha]
      simp only [slices_Index_string_string_i2, slices_Index_string_string_t2, c, h0, decide_true, cond_true, List.getElem?_eq_getElem ha, Option.bind_some, List.contains_cons]
      cases hx : (x == l[i.toNat]) with
      | true => exact ⟨.inl i, rfl, by simp [h0]⟩
      | false =>
        rw [i64_in (i + 1) (by omega)]
        obtain ⟨r, h1, h2⟩ := ih n (i + 1) (by omega) (by omega) (by omega)
        refine ⟨r, h1, ?_⟩
        rw [show (i + 1).toNat = i.toNat + 1 by omega] at h2
        rw [Bool.false_or, h2]
    · exact fin n i h0 c

theorem contains1 (l : List (List UInt8)) (x : List UInt8) (hl : l.length ≤ 4000) : slices_Contains_string_string l x = some (l.contains x) := by
  obtain ⟨r, h1, h2⟩ := indexL l x hl l.length fuel 0 (by omega) (by omega) (by unfold fuel; omega)
  simp only [Int.toNat_zero, List.drop_zero] at h2
  rw [slices_Contains_string_string, sealF_eq]
  unfold slices_Contains_string_string_f
  rw [slices_Index_string_string, sealF_eq]
  unfold slices_Index_string_string_f
  rw [slices_Index_string_string_l2, sealF_eq, h1, h2]
  cases r with
  | inl j => simp
  | inr u => simp

def ones : List UInt8 := [61, 60, 62, 33, 43, 45, 42, 47, 37, 59, 123, 125, 40, 41]
def twos : List (List UInt8) := [[58, 61], [60, 45], [61, 61], [33, 61], [60, 61], [62, 61], [38, 38], [124, 124]]
def sgn (t : List UInt8) : List UInt8 := if 1 < t.length ∧ twos.contains (t.take 2) = true then t.take 2 else if ones.contains (t.headD 0) = true then t.take 1 else []

theorem ones_all : ∀ i : Fin 256, Lib.contains ones [UInt8.ofNat i.val] = ones.contains (UInt8.ofNat i.val) := by decide +kernel

theorem ones_one (b : UInt8) : Lib.contains ones [b] = ones.contains b := by
  have := ones_all ⟨b.toNat, b.toNat_lt⟩
  simpa using this

theorem sign1 (b : UInt8) (t : List UInt8) (hl : (b :: t).length ≤ 9000000) : lex_sign (b :: t) = some (sgn (b :: t)) := by
  rw [lex_sign, sealF_eq]
  unfold lex_sign_f
  have ht : List.take 1 (b :: t) = [b] := rfl
  have hc : strings_Contains ones [b] = some (ones.contains b) := by
    rw [strings_Contains, sealF_eq]
    unfold strings_Contains_f
    rw [decide_eq_true (by decide), cond_true, ones_one]
  have hc' : strings_Contains [61, 60, 62, 33, 43, 45, 42, 47, 37, 59, 123, 125, 40, 41] [b] = some (ones.contains b) := hc
  have b1 : (decide ((0 : Int) ≤ 0) && (decide ((0 : Int) ≤ 1) && decide ((1 : Int) ≤ ((b :: t).length : Int)))) = true := by
    simp only [Bool.and_eq_true, decide_eq_true_eq, List.length_cons]; omega
  simp only [List.drop_zero, ht, b1, cond_true, hc', Option.bind_some]
  unfold sgn
  by_cases h1 : 1 < (b :: t).length
  · have h1' : decide (((b :: t).length : Int) > 1) = true := decide_eq_true (by omega)
    have b2 : (decide ((0 : Int) ≤ 0) && (decide ((0 : Int) ≤ 2) && decide ((2 : Int) ≤ ((b :: t).length : Int)))) = true := by
      simp only [Bool.and_eq_true, decide_eq_true_eq]; omega
    have hc2 := contains1 twos ((b :: t).take 2) (by decide)
    have hc2' : slices_Contains_string_string [[58, 61], [60, 45], [61, 61], [33, 61], [60, 61], [62, 61], [38, 38], [124, 124]] ((b :: t).take 2) = some (twos.contains ((b :: t).take 2)) := hc2
    rw [h1', cond_true, b2, cond_true, hc2', Option.bind_some]
    cases h2 : twos.contains ((b :: t).take 2) with
    | true => rw [if_pos ⟨h1, rfl⟩]; rfl
    | false =>
      rw [if_neg (fun hh => by cases hh.2)]
      cases h3 : ones.contains b with
      | true => simp only [List.headD_cons, h3, if_true]; rfl
      | false => simp only [List.headD_cons, h3, Bool.false_eq_true, if_false]; rfl
  · have h1' : decide (((b :: t).length : Int) > 1) = false := decide_eq_false (by omega)
    rw [h1', cond_false, if_neg (fun hh => h1 hh.1)]
    cases h3 : ones.contains b with
    | true => simp only [List.headD_cons, h3, if_true]; rfl
    | false => simp only [List.headD_cons, h3, Bool.false_eq_true, if_false]; rfl
end Lift.A1P

/- The functions of layer 2, continued: tokens. -/
namespace Lift.A1P
open Go Go.RowKit Lift Go.IntWalk Lift.Fn

def tens : List UInt8 := [48, 49, 50, 51, 52, 53, 54, 55, 56, 57]
def numS (t : List UInt8) : Int × Bool :=
  if 1 < t.length ∧ (t.headD 0).toNat = 48 then (0, false) else if Lib.trimS t tens ≠ [] then (0, false) else if (atoiOf t).2 = true then ((atoiOf t).1, false) else ((atoiOf t).1, decide ((atoiOf t).1 ≤ 2147483647))

theorem number1 (t : List UInt8) (hl : t.length ≤ 9000000) : lex_number t = some (numS t) := by
  rw [lex_number, sealF_eq]
  unfold lex_number_f numS
  have hT : strings_Trim t [48, 49, 50, 51, 52, 53, 54, 55, 56, 57] = some (Lib.trimS t tens) := by
    rw [strings_Trim, sealF_eq]
    unfold strings_Trim_f
    rw [decide_eq_true (show _ ∧ _ by constructor; omega; decide)]
    rfl
  have hA : strconv_Atoi t = some (atoiOf t) := by
    rw [strconv_Atoi, sealF_eq]
    unfold strconv_Atoi_f
    rw [decide_eq_true (by omega)]
    rfl
  have rest : (bif !Lib.trimS t tens == [] then some ((0 : Int), false) else bif !(atoiOf t).2 then some ((atoiOf t).1, decide ((atoiOf t).1 ≤ 2147483647)) else some ((atoiOf t).1, false)) =
      some (if Lib.trimS t tens ≠ [] then (0, false) else if (atoiOf t).2 = true then ((atoiOf t).1, false) else ((atoiOf t).1, decide ((atoiOf t).1 ≤ 2147483647))) := by
    by_cases h : Lib.trimS t tens = []
    · rw [if_neg (fun hh => hh h), h]
      cases (atoiOf t).2 <;> rfl
    · rw [if_pos h]
      have : (Lib.trimS t tens == []) = false := by simpa using h
      rw [this]; rfl
  rw [hT, hA]
  by_cases h1 : 1 < t.length
  · rw [decide_eq_true (show (t.length : Int) > 1 by omega), cond_true]
    match t, h1 with
    | b :: t, h1 =>
      simp only [List.getElem?_cons_zero, Option.bind_some]
      by_cases h2 : b.toNat = 48
      · have : (((b.toNat : Nat) : Int) == 48) = true := by rw [beq_iff_eq]; omega
        rw [this, cond_true, if_pos (show 1 < (b :: t).length ∧ ((b :: t).headD 0).toNat = 48 from ⟨h1, h2⟩)]
      · have : (((b.toNat : Nat) : Int) == 48) = false := by rw [beq_eq_false_iff_ne]; omega
        rw [this, cond_false, if_neg (show ¬ (1 < (b :: t).length ∧ ((b :: t).headD 0).toNat = 48) from fun hh => h2 hh.2)]
        exact rest
  · rw [decide_eq_false (show ¬ (t.length : Int) > 1 by omega), cond_false, if_neg (show ¬ (1 < t.length ∧ (t.headD 0).toNat = 48) from fun hh => h1 hh.1)]
    simp only [Option.bind_some]
    exact rest

theorem words1 : lex_Words = lex_Words_f := by rw [lex_Words, sealF_eq]
noncomputable def words : List (List UInt8) := lex_Words_f.getD []
theorem words_eq : lex_Words = some words := by rw [words1]; rfl

theorem runesL : ∀ (rs ds : List Int) (n : Nat), rs.all Sp.isRune = true → rs.length ≤ n → Lib.runeCountFrom ⟨(encs (ds ++ rs)).toArray⟩ n (encs ds).length = rs.length
  | [], ds, n, _, _ => by
    cases n with
    | zero => rfl
    | succ n => simp [Lib.runeCountFrom, ByteArray.size]
  | r :: rs, ds, n, ha, hn => by
    obtain ⟨n, rfl⟩ : ∃ q, n = q + 1 := ⟨n - 1, by simp at hn; omega⟩
    simp only [List.all_cons, Bool.and_eq_true] at ha
    have hlt := lt_len ds rs r
    have hd : Utf8.decode ⟨(encs (ds ++ r :: rs)).toArray⟩ (encs ds).length = (r.toNat, (Sp.long r).toNat) := dec_at _ _ r (encs rs) (by rw [encs_drop, encs_cons]) ha.1
    have ih := runesL rs (ds ++ [r]) n ha.2 (by simp at hn; omega)
    simp only [List.append_assoc, List.singleton_append, len_snoc] at ih
    simp only [Lib.runeCountFrom, hd]
    rw [if_pos (by simpa [ByteArray.size] using hlt), ih, List.length_cons]
    omega

theorem count1 (rs : List Int) (ha : rs.all Sp.isRune = true) (hl : (encs rs).length ≤ 9000000) : unicode_utf8_RuneCountInString (encs rs) = some (rs.length : Int) := by
  rw [unicode_utf8_RuneCountInString, sealF_eq]
  unfold unicode_utf8_RuneCountInString_f Lib.runeCount
  rw [decide_eq_true (by omega), cond_true]
  have := runesL rs [] (encs rs).length ha (len_runes rs)
  simp only [List.nil_append] at this
  have hs : (⟨(encs rs).toArray⟩ : ByteArray).size = (encs rs).length := by simp [ByteArray.size]
  rw [hs, show (0 : Nat) = (encs []).length from rfl, this]

theorem decode1 (r : Int) (rs : List Int) (hr : Sp.isRune r = true) : unicode_utf8_DecodeRuneInString (encs (r :: rs)) = some (r, Sp.long r) := by
  rw [unicode_utf8_DecodeRuneInString, sealF_eq]
  unfold unicode_utf8_DecodeRuneInString_f Lib.decodeGo
  have hp := long_pos r
  have hs : ¬ (⟨(encs (r :: rs)).toArray⟩ : ByteArray).size = 0 := by
    have := lt_len [] rs r
    simp only [List.nil_append] at this
    simp [ByteArray.size]
    intro hh
    rw [hh] at this
    simp at this
  have hd : Utf8.decode ⟨(encs (r :: rs)).toArray⟩ 0 = (r.toNat, (Sp.long r).toNat) := dec_at _ 0 r (encs rs) (by rw [List.drop_zero, encs_cons]) hr
  have h0 := rune_range hr
  rw [if_neg hs, hd]
  simp only
  rw [show ((r.toNat : Nat) : Int) = r by omega, show (((Sp.long r).toNat : Nat) : Int) = Sp.long r by omega]

/-- The token with which a text's runes begin; what is wrong. -/
noncomputable def tokR (rs : List Int) : Token × Int :=
  bif goesR (rs.headD 0) then
    (bif Sp.digit (rs.headD 0) then (bif (numS (encs (rs.takeWhile goesR))).2 then (⟨2, encs (rs.takeWhile goesR), (numS (encs (rs.takeWhile goesR))).1, 0⟩, 0) else (⟨1, encs (rs.takeWhile goesR), 0, 0⟩, 22))
     else bif words.contains (encs (rs.takeWhile goesR)) then (⟨4, encs (rs.takeWhile goesR), 0, 0⟩, 0)
     else bif decide (16 < (rs.takeWhile goesR).length) then (⟨1, encs (rs.takeWhile goesR), 0, 0⟩, 21) else (⟨1, encs (rs.takeWhile goesR), 0, 0⟩, 0))
  else bif sgn (encs rs) == [] then (⟨0, [], 0, 0⟩, 20) else (⟨3, sgn (encs rs), 0, 0⟩, 0)

theorem take_all_rune {p : Int → Bool} {rs : List Int} (ha : rs.all Sp.isRune = true) : (rs.takeWhile p).all Sp.isRune = true := by
  rw [List.all_eq_true] at ha ⊢
  intro r hr
  exact ha r ((List.takeWhile_sublist _).subset hr)

theorem take_len (p : Int → Bool) (rs : List Int) : (encs (rs.takeWhile p)).length ≤ (encs rs).length := by
  have : encs rs = encs (rs.takeWhile p) ++ encs (rs.dropWhile p) := by rw [← encs_append, List.takeWhile_append_dropWhile]
  rw [this, List.length_append]
  omega

theorem token1 (rs : List Int) (hne : rs ≠ []) (ha : rs.all Sp.isRune = true) (hl : (encs rs).length ≤ 9000000) : lex_token (encs rs) = some (tokR rs) := by
  match rs, hne with
  | r :: rs, _ =>
    have ha' := ha
    simp only [List.all_cons, Bool.and_eq_true] at ha'
    have hr := rune_range ha'.1
    have hw := word1 (r :: rs) ha hl
    have hwl := take_len goesR (r :: rs)
    rw [lex_token, sealF_eq]
    unfold lex_token_f tokR
    rw [decode1 r rs ha'.1, Option.bind_some]
    simp only
    rw [goes1 r hr, Option.bind_some]
    simp only [List.headD_cons]
    cases hg : goesR r with
    | false =>
      obtain ⟨b, t, hbt⟩ : ∃ b t, encs (r :: rs) = b :: t := by
        cases he : encs (r :: rs) with
        | nil =>
          have := lt_len [] rs r
          simp only [List.nil_append, he] at this
          simp [encs] at this
        | cons b t => exact ⟨b, t, rfl⟩
      have hs := sign1 b t (by rw [← hbt]; exact hl)
      rw [← hbt] at hs
      simp only [Bool.not_false, cond_true, cond_false, hs, Option.bind_some]
      cases (sgn (encs (r :: rs)) == []) <;> rfl
    | true =>
      simp only [Bool.not_true, cond_false, cond_true, hw, Option.bind_some]
      rw [i64_in r (by omega), digit1, Option.bind_some]
      cases hd : Sp.digit r with
      | true =>
        rw [cond_true, cond_true, number1 _ (by omega), Option.bind_some]
        cases (numS (encs ((r :: rs).takeWhile goesR))).2 <;> rfl
      | false =>
        rw [cond_false, cond_false, words_eq, Option.bind_some, contains1 _ _ (by decide), Option.bind_some]
        cases words.contains (encs ((r :: rs).takeWhile goesR)) with
        | true => rfl
        | false =>
          rw [cond_false, cond_false, count1 _ (take_all_rune ha) (by omega), Option.bind_some]
          have : decide ((((r :: rs).takeWhile goesR).length : Int) > 16) = decide (16 < ((r :: rs).takeWhile goesR).length) := by
            rw [Bool.eq_iff_iff, decide_eq_true_eq, decide_eq_true_eq]; omega
          rw [this]
          cases decide (16 < ((r :: rs).takeWhile goesR).length) <;> rfl

/-! The tokens of a text. -/
noncomputable def restR (rs : List Int) : List Int := bif goesR (rs.headD 0) then rs.dropWhile goesR else rs.drop (sgn (encs rs)).length

theorem ascii_head {r : Int} {rs : List Int} {b : UInt8} {t : List UInt8} (hr : Sp.isRune r = true) (h : encs (r :: rs) = b :: t) (hb : b.toNat < 128) : encB r = [b] ∧ t = encs rs := by
  rw [encs_cons] at h
  simp only [Sp.isRune, decide_eq_true_eq] at hr
  by_cases a1 : r < 128
  · have e : encB r = [UInt8.ofNat r.toNat] := by simp [encB, bytesOf, Sp.enc, a1]
    rw [e] at h ⊢
    simp only [List.singleton_append, List.cons.injEq] at h
    exact ⟨by rw [h.1], h.2.symm⟩
  · exfalso
    have hh : ∀ x l, encB r = UInt8.ofNat x :: l → 128 ≤ x → x < 256 → False := by
      intro x l he h1 h2
      rw [he, List.cons_append, List.cons.injEq] at h
      have := congrArg UInt8.toNat h.1
      rw [toNat_of _ h2] at this
      omega
    unfold encB Sp.enc bytesOf at hh
    rw [if_neg a1] at hh
    by_cases a2 : r < 2048
    · rw [if_pos a2] at hh
      exact hh _ _ rfl (by omega) (by omega)
    · rw [if_neg a2] at hh
      by_cases a3 : r < 65536
      · rw [if_pos a3] at hh
        exact hh _ _ rfl (by omega) (by omega)
      · rw [if_neg a3] at hh
        exact hh _ _ rfl (by omega) (by omega)
end Lift.A1P

/- The tokens of a text. -/
namespace Lift.A1P
open Go Go.RowKit Lift Go.IntWalk Lift.Fn

theorem skip_split : ∀ (l : List Int) (c : Bool), ∃ ds, l = ds ++ skip c l
  | [], c => ⟨[], by cases c <;> rfl⟩
  | r :: l, true => by
    obtain ⟨ds, h⟩ := skip_split l (r != 10)
    exact ⟨r :: ds, by simp only [skip, List.cons_append]; rw [← h]⟩
  | r :: l, false => by
    simp only [skip]
    split
    · obtain ⟨ds, h⟩ := skip_split l true
      exact ⟨r :: ds, by rw [List.cons_append, ← h]⟩
    · split
      · obtain ⟨ds, h⟩ := skip_split l false
        exact ⟨r :: ds, by rw [List.cons_append, ← h]⟩
      · exact ⟨[], rfl⟩

theorem twos_ok : ∀ x ∈ twos, x.length = 2 ∧ x.all (fun b => decide (b.toNat < 128)) = true := by decide
theorem ones_ok : ∀ b ∈ ones, b.toNat < 128 := by decide

theorem enc_ne (r : Int) (rs : List Int) : ∃ b t, encs (r :: rs) = b :: t := by
  cases he : encs (r :: rs) with
  | nil =>
    have := lt_len [] rs r
    simp only [List.nil_append, he] at this
    simp [encs] at this
  | cons b t => exact ⟨b, t, rfl⟩

theorem sgn_split (r : Int) (rs : List Int) (ha : (r :: rs).all Sp.isRune = true) (h : sgn (encs (r :: rs)) ≠ []) : encs ((r :: rs).take (sgn (encs (r :: rs))).length) = sgn (encs (r :: rs)) ∧ 0 < (sgn (encs (r :: rs))).length := by
  refine ⟨?_, List.length_pos_iff.2 h⟩
  simp only [List.all_cons, Bool.and_eq_true] at ha
  obtain ⟨b, t, hbt⟩ := enc_ne r rs
  rw [hbt] at h ⊢
  unfold sgn at h ⊢
  by_cases h1 : 1 < (b :: t).length ∧ twos.contains ((b :: t).take 2) = true
  · rw [if_pos h1]
    have hm : (b :: t).take 2 ∈ twos := by simpa using h1.2
    obtain ⟨hl, hall⟩ := twos_ok _ hm
    match t, hl with
    | c :: t, _ =>
      simp only [List.take_succ_cons, List.take_zero, List.all_cons, List.all_nil, Bool.and_true, Bool.and_eq_true, decide_eq_true_eq] at hall
      obtain ⟨e1, e2⟩ := ascii_head ha.1 hbt hall.1
      match rs, ha.2, e2 with
      | [], _, e2 => simp [encs] at e2
      | r2 :: rs, ha2, e2 =>
        simp only [List.all_cons, Bool.and_eq_true] at ha2
        obtain ⟨e3, _⟩ := ascii_head ha2.1 e2.symm hall.2
        show encs [r, r2] = [b, c]
        rw [encs_cons, encs_cons, e1, e3]
        rfl
  · rw [if_neg h1] at h ⊢
    by_cases h2 : ones.contains ((b :: t).headD 0) = true
    · rw [if_pos h2]
      have hb : b ∈ ones := by simpa using h2
      obtain ⟨e1, _⟩ := ascii_head ha.1 hbt (ones_ok b hb)
      show encs [r] = [b]
      rw [encs_cons, e1]
      rfl
    · rw [if_neg h2] at h
      exact absurd rfl h

theorem rest_split (r : Int) (rs : List Int) (ha : (r :: rs).all Sp.isRune = true) (h0 : (tokR (r :: rs)).2 = 0) : ∃ ds, ds ≠ [] ∧ r :: rs = ds ++ restR (r :: rs) ∧ encs ds = (tokR (r :: rs)).1.text := by
  unfold tokR at h0 ⊢
  unfold restR
  simp only [List.headD_cons] at h0 ⊢
  cases hg : goesR r with
  | true =>
    refine ⟨(r :: rs).takeWhile goesR, by simp [hg], (List.takeWhile_append_dropWhile).symm, ?_⟩
    simp only [cond_true]
    cases Sp.digit r with
    | true =>
      cases (numS (encs ((r :: rs).takeWhile goesR))).2 <;> rfl
    | false =>
      cases words.contains (encs ((r :: rs).takeWhile goesR)) with
      | true => rfl
      | false => cases decide (16 < ((r :: rs).takeWhile goesR).length) <;> rfl
  | false =>
    rw [hg] at h0
    simp only [cond_false] at h0 ⊢
    cases hs : (sgn (encs (r :: rs)) == []) with
    | true => rw [hs] at h0; simp at h0
    | false =>
      have hne : sgn (encs (r :: rs)) ≠ [] := by simpa using hs
      obtain ⟨h1, h2⟩ := sgn_split r rs ha hne
      refine ⟨(r :: rs).take (sgn (encs (r :: rs))).length, ?_, (List.take_append_drop _ _).symm, h1⟩
      intro hh
      have := congrArg List.length hh
      simp only [List.length_take, List.length_nil, List.length_cons] at this
      omega

noncomputable def toks : Nat → Int → List Int → (Int × Int) ⊕ List Token
  | 0, _, _ => .inr []
  | _ + 1, _, [] => .inr []
  | n + 1, p, r :: rs => bif (tokR (r :: rs)).2 != 0 then .inl ((tokR (r :: rs)).2, p) else
      match toks n (p + (encs (r :: rs)).length - (encs (skip false (restR (r :: rs)))).length) (skip false (restR (r :: rs))) with
      | .inl e => .inl e
      | .inr l => .inr (⟨(tokR (r :: rs)).1.kind, (tokR (r :: rs)).1.text, (tokR (r :: rs)).1.num, p⟩ :: l)

theorem all_suffix {ds rs : List Int} (h : (ds ++ rs).all Sp.isRune = true) : rs.all Sp.isRune = true := by
  rw [List.all_append, Bool.and_eq_true] at h
  exact h.2

theorem tokensL (a2 a3 : Int) (a4 : List UInt8) : ∀ (k n : Nat) (rs ds : List Int) (out : List Token), rs.length ≤ k → k < n → (ds ++ rs).all Sp.isRune = true → (encs (ds ++ rs)).length ≤ 4000 → out.length ≤ (encs ds).length →
    lex_Tokens_i6 n (encs (ds ++ rs)) ((encs ds).length : Int) a2 a3 a4 out = some (match toks k ((encs ds).length : Int) rs with | .inl e => .inl (e.1, e.2, []) | .inr l => .inr (encs (ds ++ rs), a2, a3, a4, out ++ l)) := by
  intro k
  have fin : ∀ (n k : Nat) (ds : List Int) (out : List Token), lex_Tokens_i6 (n + 1) (encs (ds ++ [])) ((encs ds).length : Int) a2 a3 a4 out = some (match toks k ((encs ds).length : Int) [] with | .inl e => .inl (e.1, e.2, []) | .inr l => .inr (encs (ds ++ []), a2, a3, a4, out ++ l)) := by
    intro n k ds out
    have : toks k ((encs ds).length : Int) [] = .inr [] := by cases k <;> rfl
    rw [this]
    simp only [List.append_nil, lex_Tokens_i6, lex_Tokens_t6]
    have : decide (((encs ds).length : Int) < ((encs ds).length : Int)) = false := decide_eq_false (by omega)
    rw [this, cond_false]
  induction k with
  | zero =>
    intro n rs ds out hk hn ha hl ho
    obtain ⟨n, rfl⟩ : ∃ q, n = q + 1 := ⟨n - 1, by omega⟩
    match rs, hk with
    | [], _ => exact fin n 0 ds out
  | succ k ih =>
    intro n rs ds out hk hn ha hl ho
    obtain ⟨n, rfl⟩ : ∃ q, n = q + 1 := ⟨n - 1, by omega⟩
    match rs, hk, ha, hl with
    | [], _, _, _ => exact fin n (k + 1) ds out
    | r :: rs, hk, ha, hl =>
      have har := all_suffix ha
      have hlt := lt_len ds rs r
      have hlen : (encs (ds ++ r :: rs)).length = (encs ds).length + (encs (r :: rs)).length := by rw [encs_append, List.length_append]
      simp only [lex_Tokens_i6, lex_Tokens_t6]
      have b0 : decide (((encs ds).length : Int) < ((encs (ds ++ r :: rs)).length : Int)) = true := decide_eq_true (by omega)
      have b1 : (decide ((0 : Int) ≤ ((encs ds).length : Int)) && (decide (((encs ds).length : Int) ≤ ((encs (ds ++ r :: rs)).length : Int)) && decide (((encs (ds ++ r :: rs)).length : Int) ≤ ((encs (ds ++ r :: rs)).length : Int)))) = true := by
        simp only [Bool.and_eq_true, decide_eq_true_eq]; omega
      have hd : List.drop (Int.toNat ((encs ds).length : Int)) (List.take (Int.toNat ((encs (ds ++ r :: rs)).length : Int)) (encs (ds ++ r :: rs))) = encs (r :: rs) := by
        rw [Int.toNat_natCast, Int.toNat_natCast, List.take_length, encs_drop]
      rw [b0, cond_true, b1, cond_true, hd, token1 _ (List.cons_ne_nil _ _) har (by omega), Option.bind_some]
      simp only [toks]
      cases hc : ((tokR (r :: rs)).2 != 0) with
      | true => rfl
      | false =>
        have h0 : (tokR (r :: rs)).2 = 0 := by simpa using hc
        obtain ⟨es, hes, hsp, htx⟩ := rest_split r rs har h0
        obtain ⟨fs, hfs⟩ := skip_split (restR (r :: rs)) false
        have hall : ((ds ++ es) ++ restR (r :: rs)).all Sp.isRune = true := by rw [List.append_assoc, ← hsp]; exact ha
        have hres := all_suffix hall
        have l1 : (encs (r :: rs)).length = (encs es).length + (encs (restR (r :: rs))).length := by
          conv => lhs; rw [hsp]
          rw [encs_append, List.length_append]
        have l2 : (encs (restR (r :: rs))).length = (encs fs).length + (encs (skip false (restR (r :: rs)))).length := by
          conv => lhs; rw [hfs]
          rw [encs_append, List.length_append]
        have hes1 : 1 ≤ (encs es).length := by
          have := len_runes es
          have : 0 < es.length := List.length_pos_iff.2 hes
          omega
        rw [← htx]
        simp only [cond_false]
        rw [decide_eq_true (show _ ∧ _ by simp only [List.length_cons, List.length_nil]; omega), cond_true, i64_in (((encs ds).length : Int) + (encs es).length) (by omega)]
        have b2 : (decide ((0 : Int) ≤ ((encs ds).length : Int) + (encs es).length) && (decide (((encs ds).length : Int) + (encs es).length ≤ ((encs (ds ++ r :: rs)).length : Int)) && decide (((encs (ds ++ r :: rs)).length : Int) ≤ ((encs (ds ++ r :: rs)).length : Int)))) = true := by
          simp only [Bool.and_eq_true, decide_eq_true_eq]; omega
        have hd2 : List.drop (Int.toNat (((encs ds).length : Int) + (encs es).length)) (List.take (Int.toNat ((encs (ds ++ r :: rs)).length : Int)) (encs (ds ++ r :: rs))) = encs (restR (r :: rs)) := by
          have e : ds ++ r :: rs = (ds ++ es) ++ restR (r :: rs) := by rw [List.append_assoc, ← hsp]
          have e2 : (((encs ds).length : Int) + (encs es).length).toNat = (encs (ds ++ es)).length := by rw [encs_append, List.length_append]; omega
          rw [Int.toNat_natCast, List.take_length, e2, e, encs_drop]
        rw [b2, cond_true, hd2, passed1 _ hres (by omega), Option.bind_some]
        have hat : IntKind.wrap IntKind.i64 (((encs ds).length : Int) + (encs es).length + (((encs (restR (r :: rs))).length : Int) - (encs (skip false (restR (r :: rs)))).length)) = ((encs (ds ++ es ++ fs)).length : Int) := by
          rw [i64_in _ (by omega), encs_append, encs_append, List.length_append, List.length_append]
          omega
        have hp : ((encs ds).length : Int) + (encs (r :: rs)).length - (encs (skip false (restR (r :: rs)))).length = ((encs (ds ++ es ++ fs)).length : Int) := by
          rw [encs_append, encs_append, List.length_append, List.length_append]
          omega
        have hT : ds ++ r :: rs = (ds ++ es ++ fs) ++ skip false (restR (r :: rs)) := by
          rw [List.append_assoc, ← hfs, List.append_assoc, ← hsp]
        have hk' : (skip false (restR (r :: rs))).length ≤ k := by
          have q1 := congrArg List.length hsp
          have q2 := congrArg List.length hfs
          have q3 : 0 < es.length := List.length_pos_iff.2 hes
          simp only [List.length_append, List.length_cons] at q1 q2 hk
          omega
        rw [hat, hp]
        have := ih n (skip false (restR (r :: rs))) (ds ++ es ++ fs) (out ++ [⟨(tokR (r :: rs)).1.kind, encs es, (tokR (r :: rs)).1.num, ((encs ds).length : Int)⟩]) hk' (by omega) (by rw [← hT]; exact ha) (by rw [← hT]; exact hl) (by
          rw [encs_append, encs_append]
          simp only [List.length_append, List.length_cons, List.length_nil]
          omega)
        rw [← hT] at this
        rw [this]
        cases toks k ((encs (ds ++ es ++ fs)).length : Int) (skip false (restR (r :: rs))) with
        | inl e => rfl
        | inr l => simp only [List.append_assoc, List.singleton_append]

theorem toks_len : ∀ (k : Nat) (p : Int) (rs : List Int), rs.all Sp.isRune = true → ∀ l, toks k p rs = .inr l → l.length ≤ rs.length
  | 0, p, rs, _, l, h => by simp only [toks, Sum.inr.injEq] at h; subst h; simp
  | k + 1, p, [], _, l, h => by simp only [toks, Sum.inr.injEq] at h; subst h; simp
  | k + 1, p, r :: rs, ha, l, h => by
    simp only [toks] at h
    cases hc : ((tokR (r :: rs)).2 != 0) with
    | true => rw [hc] at h; simp at h
    | false =>
      rw [hc] at h
      have h0 : (tokR (r :: rs)).2 = 0 := by simpa using hc
      obtain ⟨es, hes, hsp, _⟩ := rest_split r rs ha h0
      obtain ⟨fs, hfs⟩ := skip_split (restR (r :: rs)) false
      have q1 := congrArg List.length hsp
      have q2 := congrArg List.length hfs
      have q3 : 0 < es.length := List.length_pos_iff.2 hes
      simp only [List.length_append, List.length_cons] at q1 q2
      simp only [cond_false] at h
      have hs : (skip false (restR (r :: rs))).all Sp.isRune = true := all_suffix (ds := es ++ fs) (by rw [List.append_assoc, ← hfs, ← hsp]; exact ha)
      split at h
      · cases h
      · rename_i l' hl'
        simp only [Sum.inr.injEq] at h
        subst h
        have := toks_len k _ _ hs l' hl'
        simp only [List.length_cons]
        omega

/-- Tokens of a text that is runes. -/
theorem tokens1 (rs : List Int) (ha : rs.all Sp.isRune = true) (hl : (encs rs).length ≤ 4000) : lex_Tokens (encs rs) = some (match toks rs.length (((encs rs).length : Int) - (encs (skip false rs)).length) (skip false rs) with
    | .inl e => (⟨e.1, e.2, []⟩, [])
    | .inr l => (⟨0, 0, []⟩, l ++ [⟨5, [], 0, ((encs rs).length : Int)⟩])) := by
  obtain ⟨fs, hfs⟩ := skip_split rs false
  obtain ⟨q1, q2⟩ := runes_ok rs ha hl
  have hsk : ((encs rs).length : Int) - (encs (skip false rs)).length = ((encs fs).length : Int) := by
    have : (encs rs).length = (encs fs).length + (encs (skip false rs)).length := by
      conv => lhs; rw [hfs]
      rw [encs_append, List.length_append]
    omega
  have hL := tokensL 0 0 [] rs.length fuel (skip false rs) fs [] (by have := congrArg List.length hfs; rw [List.length_append] at this; omega) (by have := len_runes rs; unfold fuel; omega) (by rw [← hfs]; exact ha) (by rw [← hfs]; exact hl) (by simp)
  rw [← hfs] at hL
  rw [lex_Tokens, sealF_eq]
  unfold lex_Tokens_f
  rw [runes1_, q1, q2, Option.bind_some]
  simp only [bne_self_eq_false, cond_false]
  rw [passed1 rs ha (by omega), Option.bind_some, hsk, lex_Tokens_l6, sealF_eq, hL, Option.bind_some]
  have hlen := toks_len rs.length ((encs fs).length : Int) (skip false rs) (all_suffix (ds := fs) (by rw [← hfs]; exact ha))
  cases ht : toks rs.length ((encs fs).length : Int) (skip false rs) with
  | inl e => rfl
  | inr l =>
    have hl2 := hlen l ht
    have h3 : (skip false rs).length ≤ rs.length := by
      have := congrArg List.length hfs
      rw [List.length_append] at this
      omega
    have h4 := len_runes rs
    simp only [List.nil_append]
    rw [decide_eq_true (show _ ∧ _ by simp only [List.length_cons, List.length_nil]; omega), cond_true]
end Lift.A1P

/- The document's examples; the words. -/
namespace Lift.A1P
open Go Go.RowKit Lift Go.IntWalk Lift.Fn

theorem tokShown : lex_Tokens [114, 60, 45, 120, 59, 35, 32, 99] = some (⟨0, 0, []⟩, [⟨1, [114], 0, 0⟩, ⟨3, [60, 45], 0, 1⟩, ⟨1, [120], 0, 3⟩, ⟨3, [59], 0, 4⟩, ⟨5, [], 0, 8⟩]) := by
  have h := tokens1 [114, 60, 45, 120, 59, 35, 32, 99] (by decide +kernel) (by decide +kernel)
  have e : encs [114, 60, 45, 120, 59, 35, 32, 99] = [114, 60, 45, 120, 59, 35, 32, 99] := by decide +kernel
  rw [e] at h
  rw [h]
  decide +kernel

theorem validS1 (t : List UInt8) (h : t.length ≤ 9000000) : unicode_utf8_ValidString t = some (Lib.validD t) := by
  rw [unicode_utf8_ValidString, sealF_eq]
  unfold unicode_utf8_ValidString_f
  rw [decide_eq_true (by omega)]
  rfl

theorem fits_of (t : Token) (rs : List Int) (h1 : t.text = encs rs) (h2 : rs ≠ []) (h3 : rs.all Sp.isRune = true) (h4 : (encs rs).length ≤ 64) (h5 : Lib.validD (encs rs) = true) : lex_fits t = some ((tokR rs).2 == 0 && decide ((⟨(tokR rs).1.kind, (tokR rs).1.text, (tokR rs).1.num, t.at_⟩ : Token) = t)) := by
  have hne : (encs rs == []) = false := by
    match rs, h2 with
    | r :: rs, _ =>
      obtain ⟨b, u, hb⟩ := enc_ne r rs
      rw [hb]; rfl
  rw [lex_fits, sealF_eq]
  unfold lex_fits_f
  rw [h1, hne, cond_false, decide_eq_false (show ¬ ((encs rs).length : Int) > 64 by omega), cond_false, validS1 _ (by omega), h5, Option.bind_some]
  simp only [Bool.not_true, cond_false]
  rw [token1 rs h2 h3 (by omega), Option.bind_some]
  cases (tokR rs).2 == 0 with
  | true =>
    have : (⟨t.kind, encs rs, t.num, t.at_⟩ : Token) = t := by rw [← h1]
    simp only [cond_true, Bool.true_and, this]
  | false => rfl

theorem joinL (l : List Token) (hl : l.length ≤ 9000000) (hf : ∀ t ∈ l, lex_fits t = some true) : ∀ (k n : Nat) (i : Int) (out : List (List UInt8)), 0 ≤ i → l.length - i.toNat ≤ k → k < n → (out.length : Int) ≤ i →
    lex_Join_i6 n l l.length i out = some (.inr (out ++ (l.drop i.toNat).map (·.text))) := by
  intro k
  have fin : ∀ (n : Nat) (i : Int) (out : List (List UInt8)), 0 ≤ i → ¬ i < l.length → lex_Join_i6 (n + 1) l l.length i out = some (.inr (out ++ (l.drop i.toNat).map (·.text))) := by
    intro n i out h0 c
    rw [List.drop_eq_nil_of_le (by omega)]
    simp only [lex_Join_i6, lex_Join_t6, c, decide_false, cond_false, List.map_nil, List.append_nil]
  induction k with
  | zero =>
    intro n i out h0 hk hn ho
    obtain ⟨n, rfl⟩ : ∃ q, n = q + 1 := ⟨n - 1, by omega⟩
    exact fin n i out h0 (by omega)
  | succ k ih =>
    intro n i out h0 hk hn ho
    obtain ⟨n, rfl⟩ : ∃ q, n = q + 1 := ⟨n - 1, by omega⟩
    by_cases c : i < l.length
    · have ha : i.toNat < l.length := by omega
      rw [List.drop_eq_getElem_cons ha]
      simp only [lex_Join_i6, lex_Join_t6, c, h0, decide_true, cond_true, List.getElem?_eq_getElem ha, Option.bind_some]
      rw [hf l[i.toNat] (List.getElem_mem ha), Option.bind_some]
      simp only [Bool.not_true, cond_false]
      rw [decide_eq_true (show _ ∧ _ by simp only [List.length_cons, List.length_nil]; omega), cond_true, i64_in (i + 1) (by omega), ih n _ _ (by omega) (by omega) (by omega) (by simp only [List.length_append, List.length_cons, List.length_nil]; omega), show (i + 1).toNat = i.toNat + 1 by omega]
      simp only [List.map_cons, List.append_assoc, List.singleton_append]
    · exact fin n i out h0 c

theorem joinShown : lex_Join [⟨1, [114], 0, 0⟩, ⟨3, [58, 61], 0, 0⟩, ⟨2, [49], 1, 0⟩, ⟨5, [], 0, 0⟩] = some ([114, 32, 58, 61, 32, 49], 0) := by
  have hf : ∀ t ∈ ([⟨1, [114], 0, 0⟩, ⟨3, [58, 61], 0, 0⟩, ⟨2, [49], 1, 0⟩] : List Token), lex_fits t = some true := by
    intro t ht
    simp only [List.mem_cons, List.not_mem_nil, or_false] at ht
    rcases ht with rfl | rfl | rfl
    · rw [fits_of _ [114] (by decide +kernel) (by simp) (by decide +kernel) (by decide +kernel) (by decide +kernel)]; decide +kernel
    · rw [fits_of _ [58, 61] (by decide +kernel) (by simp) (by decide +kernel) (by decide +kernel) (by decide +kernel)]; decide +kernel
    · rw [fits_of _ [49] (by decide +kernel) (by simp) (by decide +kernel) (by decide +kernel) (by decide +kernel)]; decide +kernel
  have hL := joinL [⟨1, [114], 0, 0⟩, ⟨3, [58, 61], 0, 0⟩, ⟨2, [49], 1, 0⟩] (by decide) hf 3 fuel 0 [] (by omega) (by decide) (by unfold fuel; omega) (by simp)
  have hJ : strings_Join [[114], [58, 61], [49]] [32] = some [114, 32, 58, 61, 32, 49] := by
    rw [strings_Join, sealF_eq]
    decide +kernel
  rw [lex_Join, sealF_eq]
  unfold lex_Join_f
  have hw : IntKind.wrap IntKind.i64 (((([⟨1, [114], 0, 0⟩, ⟨3, [58, 61], 0, 0⟩, ⟨2, [49], 1, 0⟩, ⟨5, [], 0, 0⟩] : List Token).length : Nat) : Int) - 1) = 3 := by decide +kernel
  rw [hw, lex_Join_l6, sealF_eq]
  show (Option.bind (lex_Join_i6 fuel [⟨1, [114], 0, 0⟩, ⟨3, [58, 61], 0, 0⟩, ⟨2, [49], 1, 0⟩] (3 : Int) 0 []) _) = _
  have hL' : lex_Join_i6 fuel [⟨1, [114], 0, 0⟩, ⟨3, [58, 61], 0, 0⟩, ⟨2, [49], 1, 0⟩] (3 : Int) 0 [] = some (.inr [[114], [58, 61], [49]]) := hL
  rw [hL', Option.bind_some]
  simp only
  rw [hJ, Option.bind_some]
  decide +kernel

theorem lexShown : racetreelaw02_shown = some true := by
  rw [racetreelaw02_shown, sealF_eq]
  unfold racetreelaw02_shown_f
  rw [tokShown, joinShown]
  decide +kernel

theorem refWords : racetreeref02_Words = some words := by
  rw [racetreeref02_Words, sealF_eq]
  rfl

theorem words_len : words.length = 12 := by decide +kernel
end Lift.A1P

/- A token alone, and the same one with a blank behind it. -/
namespace Lift.A1P
open Go Go.RowKit Lift Go.IntWalk Lift.Fn

/-- Runes that are one token, all of them. -/
def whole (w : List Int) (t : Token) : Prop := w ≠ [] ∧ w.all Sp.isRune = true ∧ tokR w = (t, 0) ∧ t.text = encs w

theorem tok_text_goes {w : List Int} (h : goesR (w.headD 0) = true) : (tokR w).1.text = encs (w.takeWhile goesR) := by
  unfold tokR
  rw [h, cond_true]
  cases Sp.digit (w.headD 0) with
  | true => cases (numS (encs (w.takeWhile goesR))).2 <;> rfl
  | false =>
    cases words.contains (encs (w.takeWhile goesR)) with
    | true => rfl
    | false => cases decide (16 < (w.takeWhile goesR).length) <;> rfl

theorem encs_short {a b : List Int} (h : encs (a ++ b) = encs a) : b = [] := by
  have h1 := congrArg List.length h
  rw [encs_append, List.length_append] at h1
  have h2 := len_runes b
  have : b.length = 0 := by omega
  exact List.eq_nil_of_length_eq_zero this

theorem whole_goes {w : List Int} {t : Token} (h : whole w t) (hg : goesR (w.headD 0) = true) : w.takeWhile goesR = w := by
  obtain ⟨_, _, h3, h4⟩ := h
  have h5 := tok_text_goes hg
  rw [h3] at h5
  have h6 : encs (w.takeWhile goesR ++ w.dropWhile goesR) = encs (w.takeWhile goesR) := by
    rw [List.takeWhile_append_dropWhile, ← h5, ← h4]
  have h7 := encs_short h6
  have h8 := List.takeWhile_append_dropWhile (p := goesR) (l := w)
  rw [h7, List.append_nil] at h8
  exact h8

theorem head_app {w : List Int} (h : w ≠ []) (r : List Int) : (w ++ r).headD 0 = w.headD 0 := by
  cases w with
  | nil => exact absurd rfl h
  | cons a w => rfl

theorem goes_blank : goesR 32 = false := by decide +kernel

theorem take_app {w r : List Int} (h : w.takeWhile goesR = w) : (w ++ 32 :: r).takeWhile goesR = w := by
  have hall : ∀ x ∈ w, goesR x = true := fun x hx => by
    rw [← h] at hx
    exact List.all_eq_true.1 (List.all_takeWhile) x hx
  rw [List.takeWhile_append_of_pos hall, List.takeWhile_cons, goes_blank]
  simp

theorem drop_app {w r : List Int} (h : w.takeWhile goesR = w) : (w ++ 32 :: r).dropWhile goesR = 32 :: r := by
  have h1 := take_app (r := r) h
  have h2 := List.takeWhile_append_dropWhile (p := goesR) (l := w ++ 32 :: r)
  rw [h1] at h2
  exact List.append_cancel_left h2

theorem two_blank : ∀ b ∈ ones, twos.contains [b, 32] = false := by decide

theorem enc_blank : encB 32 = [32] := by decide +kernel

/-- The sign stays. -/
theorem sgn_app {w : List Int} {r : List Int} (h0 : encs w ≠ []) (h : sgn (encs w) = encs w) : sgn (encs (w ++ 32 :: r)) = encs w := by
  rw [encs_append, encs_cons, enc_blank]
  unfold sgn at h
  by_cases h1 : 1 < (encs w).length ∧ twos.contains ((encs w).take 2) = true
  · rw [if_pos h1] at h
    have hl : (encs w).length = 2 := by
      have := congrArg List.length h
      rw [List.length_take] at this
      omega
    have ht : (encs w ++ ([32] ++ encs r)).take 2 = encs w := by rw [← hl, List.take_left]
    unfold sgn
    rw [if_pos ⟨by rw [List.length_append]; omega, by rw [ht]; rw [h] at h1; exact h1.2⟩, ht]
  · rw [if_neg h1] at h
    by_cases h2 : ones.contains ((encs w).headD 0) = true
    · rw [if_pos h2] at h
      match hw : encs w, h0 with
      | b :: t, _ =>
        rw [hw] at h h2
        have ht : t = [] := by
          have := congrArg List.length h
          simp only [List.take_succ_cons, List.take_zero, List.length_cons, List.length_nil] at this
          exact List.eq_nil_of_length_eq_zero (by omega)
        subst ht
        have hb : b ∈ ones := by simpa using h2
        have h3 := two_blank b hb
        unfold sgn
        refine (if_neg fun hh => ?_).trans ((if_pos ?_).trans rfl)
        · have h9 : twos.contains [b, 32] = true := hh.2
          rw [h3] at h9
          cases h9
        · exact h2
    · rw [if_neg h2] at h
      exact absurd h.symm h0

/-- A token with a blank behind it. -/
theorem tok_blank {w : List Int} {t : Token} (h : whole w t) (r : List Int) : tokR (w ++ 32 :: r) = (t, 0) ∧ restR (w ++ 32 :: r) = 32 :: r := by
  obtain ⟨h1, h2, h3, h4⟩ := h
  have hh := head_app h1 (32 :: r)
  cases hg : goesR (w.headD 0) with
  | true =>
    have hw := whole_goes ⟨h1, h2, h3, h4⟩ hg
    have ht := take_app (r := r) hw
    constructor
    · rw [← h3]
      unfold tokR
      rw [hh, hg, ht, hw]
      rfl
    · unfold restR
      rw [hh, hg, cond_true, drop_app hw]
  | false =>
    have h0 : encs w ≠ [] := by
      match w, h1 with
      | a :: w, _ => obtain ⟨b, u, hb⟩ := enc_ne a w; rw [hb]; exact List.cons_ne_nil _ _
    have hs : sgn (encs w) = encs w := by
      have h5 := h3
      unfold tokR at h5
      rw [hg, cond_false] at h5
      cases hc : (sgn (encs w) == []) with
      | true => rw [hc] at h5; simp at h5
      | false =>
        rw [hc, cond_false] at h5
        have := congrArg (fun x => x.1.text) h5
        simp only at this
        rw [this, h4]
    have ha := sgn_app (r := r) h0 hs
    constructor
    · rw [← h3]
      unfold tokR
      rw [hh, hg, ha, hs]
      rfl
    · unfold restR
      rw [hh, hg, cond_false, ha]
      have hlen : (encs w).length = w.length := by
        match w, h1 with
        | a :: w, _ =>
          obtain ⟨q1, q2⟩ := sgn_split a w h2 (by rw [hs]; exact h0)
          rw [hs] at q1
          have q3 : encs ((a :: w).take (encs (a :: w)).length ++ (a :: w).drop (encs (a :: w)).length) = encs ((a :: w).take (encs (a :: w)).length) := by rw [List.take_append_drop, q1]
          have q5 := len_runes (a :: w)
          -- every byte of a sign is a rune
          have q6 : (sgn (encs (a :: w))).length ≤ 2 := by
            unfold sgn
            split
            · rw [List.length_take]; omega
            · split
              · rw [List.length_take]; omega
              · simp
          rw [hs] at q6
          have q7 := len_runes w
          have q8 : (encs (a :: w)).length = (encB a).length + (encs w).length := by rw [encs_cons, List.length_append]
          have q9 := encB_len a
          have q10 := long_pos a
          by_cases hz : w.length = 0
          · have hwn : w = [] := List.eq_nil_of_length_eq_zero hz
            subst hwn
            obtain ⟨b, u, hb⟩ := enc_ne a []
            simp only [List.all_cons, Bool.and_eq_true] at h2
            have hbn : b.toNat < 128 := by
              unfold sgn at hs
              by_cases k1 : 1 < (encs [a]).length ∧ twos.contains ((encs [a]).take 2) = true
              · have hm : (encs [a]).take 2 ∈ twos := by simpa using k1.2
                have := (twos_ok _ hm).2
                rw [hb] at this
                cases u with
                | nil => simp only [List.take_succ_cons, List.take_nil, List.all_cons, List.all_nil, Bool.and_true, decide_eq_true_eq] at this; exact this
                | cons c u => simp only [List.take_succ_cons, List.take_zero, List.all_cons, Bool.and_eq_true, decide_eq_true_eq] at this; exact this.1
              · rw [if_neg k1] at hs
                by_cases k2 : ones.contains ((encs [a]).headD 0) = true
                · rw [hb] at k2
                  exact ones_ok b (by simpa using k2)
                · rw [if_neg k2] at hs
                  exact absurd hs.symm h0
            obtain ⟨e1, _⟩ := ascii_head h2.1 hb hbn
            rw [encs_cons, e1]
            rfl
          · simp only [List.length_cons]
            omega
      rw [hlen, List.drop_left]
end Lift.A1P

/- Valid texts are runes' letters. -/
namespace Lift.A1P
open Go Go.RowKit Lift Go.IntWalk Lift.Fn

theorem decodeL_eq (l : List UInt8) : Lib.decodeL l = Sp.dl l := by
  have := Sp.dc_eq l 0
  unfold Sp.dc at this
  rw [List.drop_zero] at this
  exact this

theorem bad_one {l : List UInt8} (h0 : l ≠ []) (hb : Sp.badl l = true) : (Sp.dl l).1 = 65533 ∧ (Sp.dl l).2 = 1 := by
  unfold Sp.badl at hb
  rw [Sp.take3] at hb
  simp only [Bool.and_eq_true, decide_eq_true_eq, Bool.not_eq_true', decide_eq_false_iff_not] at hb
  refine ⟨hb.1, ?_⟩
  obtain ⟨h1, h2⟩ := hb
  have hb0 : Sp.by_ l 0 < 256 := (l.getD 0 0).toNat_lt
  have hb1 : Sp.by_ l 1 < 256 := (l.getD 1 0).toNat_lt
  have hb2 : Sp.by_ l 2 < 256 := (l.getD 2 0).toNat_lt
  have hb3 : Sp.by_ l 3 < 256 := (l.getD 3 0).toNat_lt
  unfold Sp.dl Sp.ct at h1 ⊢
  simp only [Bool.and_eq_true, decide_eq_true_eq, beq_iff_eq, ge_iff_le] at h1 ⊢
  generalize Sp.by_ l 0 = b0 at *
  generalize Sp.by_ l 1 = b1 at *
  generalize Sp.by_ l 2 = b2 at *
  generalize Sp.by_ l 3 = b3 at *
  generalize l.length = n at *
  by_cases k0 : b0 < 128
  · rw [if_pos k0] at h1; simp only at h1; omega
  rw [if_neg k0] at h1 ⊢
  by_cases k1 : b0 / 32 = 6 ∧ 1 < n ∧ b1 / 64 = 2
  · rw [if_pos k1] at h1 ⊢
    by_cases k2 : 128 ≤ b0 % 32 * 64 + b1 % 64
    · rw [if_pos k2] at h1; simp only at h1; omega
    · rw [if_neg k2]
  rw [if_neg k1] at h1 ⊢
  by_cases k2 : (b0 / 16 = 14 ∧ 1 < n ∧ b1 / 64 = 2) ∧ 2 < n ∧ b2 / 64 = 2
  · rw [if_pos k2] at h1 ⊢
    by_cases k3 : 2048 ≤ b0 % 16 * 4096 + b1 % 64 * 64 + b2 % 64 ∧ Utf8.valid ((b0 % 16 * 4096 + b1 % 64 * 64 + b2 % 64 : Nat) : Int) = true
    · rw [if_pos k3] at h1; simp only at h1; omega
    · rw [if_neg k3]
  rw [if_neg k2] at h1 ⊢
  by_cases k3 : ((b0 / 8 = 30 ∧ 1 < n ∧ b1 / 64 = 2) ∧ 2 < n ∧ b2 / 64 = 2) ∧ 3 < n ∧ b3 / 64 = 2
  · rw [if_pos k3] at h1 ⊢
    by_cases k4 : 65536 ≤ b0 % 8 * 262144 + b1 % 64 * 4096 + b2 % 64 * 64 + b3 % 64 ∧ Utf8.valid ((b0 % 8 * 262144 + b1 % 64 * 4096 + b2 % 64 * 64 + b3 % 64 : Nat) : Int) = true
    · rw [if_pos k4] at h1; simp only at h1; omega
    · rw [if_neg k4]
  · rw [if_neg k3]

theorem valid_go : ∀ (rs : List Int) (rest : List UInt8) (n : Nat), rs.all Sp.isRune = true → (rest = [] ∨ Sp.badl rest = true) → (encs rs ++ rest).length ≤ n → Lib.validGoD n (encs rs ++ rest) = decide (rest = [])
  | [], rest, n, _, hr, hn => by
    simp only [encs, List.flatMap_nil, List.nil_append] at hn ⊢
    by_cases h0 : rest = []
    · subst h0
      cases n with
      | zero => rfl
      | succ n => simp [Lib.validGoD]
    · rcases hr with hr | hr
      · exact absurd hr h0
      · obtain ⟨q1, q2⟩ := bad_one h0 hr
        cases n with
        | zero => exact absurd (List.eq_nil_of_length_eq_zero (Nat.le_zero.1 hn)) h0
        | succ n =>
          simp only [Lib.validGoD]
          rw [if_neg h0, decodeL_eq, if_pos ⟨q1, q2⟩, decide_eq_false h0]
  | r :: rs, rest, n, ha, hr, hn => by
    simp only [List.all_cons, Bool.and_eq_true] at ha
    obtain ⟨q1, q2⟩ := dl_enc r (encs rs ++ rest) ha.1
    have hl := encB_len r
    have hp := long_pos r
    have e : encs (r :: rs) ++ rest = encB r ++ (encs rs ++ rest) := by rw [encs_cons, List.append_assoc]
    rw [e] at hn ⊢
    rw [List.length_append] at hn
    obtain ⟨n, rfl⟩ : ∃ m, n = m + 1 := ⟨n - 1, by omega⟩
    have hne : encB r ++ (encs rs ++ rest) ≠ [] := by
      intro hh
      have := congrArg List.length hh
      rw [List.length_append, List.length_nil] at this
      omega
    have hg : ¬ (r.toNat = 65533 ∧ (Sp.long r).toNat = 1) := by
      intro hh
      have h1 := rune_range ha.1
      have : r = 65533 := by omega
      subst this
      exact absurd hh.2 (by decide)
    simp only [Lib.validGoD]
    rw [if_neg hne, decodeL_eq, q1, if_neg hg, show (Sp.long r).toNat = (encB r).length from hl.symm, List.drop_left]
    exact valid_go rs rest n ha.2 hr (by omega)

theorem valid_encs (rs : List Int) (ha : rs.all Sp.isRune = true) : Lib.validD (encs rs) = true := by
  have := valid_go rs [] (encs rs).length ha (.inl rfl) (by simp)
  rw [List.append_nil] at this
  exact this.trans (by simp)

theorem valid_runes {t : List UInt8} (h : Lib.validD t = true) : ∃ rs, t = encs rs ∧ rs.all Sp.isRune = true := by
  obtain ⟨rs, rest, h1, h2, h3⟩ := text_split t.length t (Nat.le_refl _)
  have h4 := valid_go rs rest t.length h2 h3 (by rw [h1]; exact Nat.le_refl _)
  rw [← h1] at h4
  unfold Lib.validD at h
  rw [h] at h4
  have h5 : rest = [] := of_decide_eq_true h4.symm
  exact ⟨rs, by rw [h1, h5, List.append_nil], h2⟩
end Lift.A1P

/- Which tokens fit. -/
namespace Lift.A1P
open Go Go.RowKit Lift Go.IntWalk Lift.Fn

theorem encs_nil {rs : List Int} (h : encs rs = []) : rs = [] := by
  have h1 := len_runes rs
  rw [h] at h1
  exact List.eq_nil_of_length_eq_zero (Nat.le_zero.1 h1)

theorem tok_at (rs : List Int) : (tokR rs).1.at_ = 0 := by
  unfold tokR
  cases goesR (rs.headD 0) with
  | true =>
    rw [cond_true]
    cases Sp.digit (rs.headD 0) with
    | true => cases (numS (encs (rs.takeWhile goesR))).2 <;> rfl
    | false =>
      cases words.contains (encs (rs.takeWhile goesR)) with
      | true => rfl
      | false => cases decide (16 < (rs.takeWhile goesR).length) <;> rfl
  | false =>
    rw [cond_false]
    cases (sgn (encs rs) == []) <;> rfl

theorem fits1 (t : Token) : ∃ b, lex_fits t = some b ∧ (b = true ↔ t.text.length ≤ 64 ∧ ∃ w, whole w ⟨t.kind, t.text, t.num, 0⟩) := by
  by_cases h0 : t.text = []
  · refine ⟨false, ?_, ?_⟩
    · rw [lex_fits, sealF_eq]; unfold lex_fits_f; rw [h0]; rfl
    · constructor
      · intro h; cases h
      · rintro ⟨_, w, h1, _, _, h4⟩
        simp only at h4
        rw [h0] at h4
        exact absurd (encs_nil h4.symm) h1
  by_cases hl : t.text.length ≤ 64
  · cases hv : Lib.validD t.text with
    | true =>
      obtain ⟨rs, h1, h2⟩ := valid_runes hv
      have hne : rs ≠ [] := by intro hh; rw [hh] at h1; exact h0 h1
      refine ⟨_, fits_of t rs h1 hne h2 (by rw [← h1]; exact hl) (by rw [← h1]; exact hv), ?_⟩
      simp only [Bool.and_eq_true, beq_iff_eq, decide_eq_true_eq]
      have hat := tok_at rs
      constructor
      · rintro ⟨q1, q2⟩
        refine ⟨hl, rs, hne, h2, ?_, h1⟩
        refine Prod.ext ?_ q1
        have e1 := congrArg Token.kind q2
        have e2 := congrArg Token.text q2
        have e3 := congrArg Token.num q2
        simp only at e1 e2 e3
        show (tokR rs).1 = _
        rw [← e1, ← e2, ← e3, ← hat]
      · rintro ⟨_, w, w1, w2, w3, w4⟩
        simp only at w4
        -- the runes are the same
        have hsame : tokR rs = tokR w := by
          have h5 := fits_of t w w4 w1 w2 (by rw [← w4]; exact hl) (by rw [← w4]; exact hv)
          have h6 := token1 w w1 w2 (by rw [← w4]; omega)
          have h7 := token1 rs hne h2 (by rw [← h1]; omega)
          rw [← w4, h1, h7] at h6
          exact Option.some.inj h6
        rw [hsame, w3]
        exact ⟨rfl, rfl⟩
    | false =>
      refine ⟨false, ?_, ?_⟩
      · rw [lex_fits, sealF_eq]
        unfold lex_fits_f
        have hne : (t.text == []) = false := by simpa using h0
        rw [hne, cond_false, decide_eq_false (show ¬ (t.text.length : Int) > 64 by omega), cond_false, validS1 _ (by omega), hv, Option.bind_some]
        rfl
      · constructor
        · intro h; cases h
        · rintro ⟨_, w, _, w2, _, w4⟩
          simp only at w4
          rw [w4, valid_encs w w2] at hv
          cases hv
  · refine ⟨false, ?_, ?_⟩
    · rw [lex_fits, sealF_eq]
      unfold lex_fits_f
      have hne : (t.text == []) = false := by simpa using h0
      rw [hne, cond_false, decide_eq_true (show (t.text.length : Int) > 64 by omega)]
      rfl
    · constructor
      · intro h; cases h
      · intro h; exact absurd h.1 hl
end Lift.A1P

/- Lists of tokens: joined; held against each other. -/
namespace Lift.A1P
open Go Go.RowKit Lift Go.IntWalk Lift.Fn

noncomputable def fitsB (t : Token) : Bool := (lex_fits t).getD false
theorem fitsB_eq (t : Token) : lex_fits t = some (fitsB t) := by
  obtain ⟨b, h, _⟩ := fits1 t
  unfold fitsB
  rw [h]; rfl
theorem fitsB_iff (t : Token) : fitsB t = true ↔ t.text.length ≤ 64 ∧ ∃ w, whole w ⟨t.kind, t.text, t.num, 0⟩ := by
  obtain ⟨b, h, h2⟩ := fits1 t
  unfold fitsB
  rw [h]; exact h2

theorem joinG (l : List Token) (hl : l.length ≤ 9000000) : ∀ (k n : Nat) (i : Int) (out : List (List UInt8)), 0 ≤ i → l.length - i.toNat ≤ k → k < n → (out.length : Int) ≤ i →
    lex_Join_i6 n l l.length i out = some (bif (l.drop i.toNat).all fitsB then .inr (out ++ (l.drop i.toNat).map (·.text)) else .inl ([], 1)) := by
  intro k
  have fin : ∀ (n : Nat) (i : Int) (out : List (List UInt8)), 0 ≤ i → ¬ i < l.length → lex_Join_i6 (n + 1) l l.length i out = some (bif (l.drop i.toNat).all fitsB then .inr (out ++ (l.drop i.toNat).map (·.text)) else .inl ([], 1)) := by
    intro n i out h0 c
    rw [List.drop_eq_nil_of_le (by omega)]
    simp only [lex_Join_i6, lex_Join_t6, c, decide_false, cond_false, List.map_nil, List.append_nil, List.all_nil, cond_true]
  induction k with
  | zero =>
    intro n i out h0 hk hn ho
    obtain ⟨n, rfl⟩ : ∃ q, n = q + 1 := ⟨n - 1, by omega⟩
    exact fin n i out h0 (by omega)
  | succ k ih =>
    intro n i out h0 hk hn ho
    obtain ⟨n, rfl⟩ : ∃ q, n = q + 1 := ⟨n - 1, by omega⟩
    by_cases c : i < l.length
    · have ha : i.toNat < l.length := by omega
      rw [List.drop_eq_getElem_cons ha]
      simp only [lex_Join_i6, lex_Join_t6, c, h0, decide_true, cond_true, List.getElem?_eq_getElem ha, Option.bind_some]
      rw [fitsB_eq, Option.bind_some]
      show _ = some (bif fitsB l[i.toNat] && (l.drop (i.toNat + 1)).all fitsB then _ else _)
      cases fitsB l[i.toNat] with
      | false => rfl
      | true =>
        simp only [Bool.not_true, cond_false, Bool.true_and]
        rw [decide_eq_true (show _ ∧ _ by simp only [List.length_cons, List.length_nil]; omega), cond_true, i64_in (i + 1) (by omega), ih n _ _ (by omega) (by omega) (by omega) (by simp only [List.length_append, List.length_cons, List.length_nil]; omega), show (i + 1).toNat = i.toNat + 1 by omega]
        simp only [List.map_cons, List.append_assoc, List.singleton_append]
    · exact fin n i out h0 c

/-- What of a token is held against another one's. -/
def core (t : Token) : Int × List UInt8 × Int := (t.kind, t.text, t.num)

theorem sameTL (a b : List Token) (ha : a.length ≤ 9000000) (hc : a.map core = b.map core) : ∀ (k n : Nat) (i : Int), 0 ≤ i → a.length - i.toNat ≤ k → k < n → racetreelaw02_same_i4 n a b false i = some (.inr ()) := by
  have hlen : a.length = b.length := by simpa using congrArg List.length hc
  intro k
  have fin : ∀ (n : Nat) (i : Int), 0 ≤ i → ¬ i < a.length → racetreelaw02_same_i4 (n + 1) a b false i = some (.inr ()) := by
    intro n i h0 c
    simp only [racetreelaw02_same_i4, racetreelaw02_same_t4, c, decide_false, cond_false]
  induction k with
  | zero =>
    intro n i h0 hk hn
    obtain ⟨n, rfl⟩ : ∃ q, n = q + 1 := ⟨n - 1, by omega⟩
    exact fin n i h0 (by omega)
  | succ k ih =>
    intro n i h0 hk hn
    obtain ⟨n, rfl⟩ : ∃ q, n = q + 1 := ⟨n - 1, by omega⟩
    by_cases c : i < a.length
    · have h1 : i.toNat < a.length := by omega
      have h2 : i.toNat < b.length := by omega
      have he : core a[i.toNat] = core b[i.toNat] := by
        have h3 := congrArg (fun l => l[i.toNat]?) hc
        simp only [List.getElem?_map, List.getElem?_eq_getElem h1, List.getElem?_eq_getElem h2, Option.map_some, Option.some.injEq] at h3
        exact h3
      simp only [core, Prod.mk.injEq] at he
      obtain ⟨e1, e2, e3⟩ := he
      simp only [racetreelaw02_same_i4, racetreelaw02_same_t4, c, h0, decide_true, cond_true, List.getElem?_eq_getElem h1, List.getElem?_eq_getElem h2, Option.bind_some, e1, e2, e3, bne_self_eq_false, beq_self_eq_true, Bool.not_true, cond_false]
      rw [i64_in (i + 1) (by omega)]
      exact ih n _ (by omega) (by omega) (by omega)
    · exact fin n i h0 c

theorem sameT (a b : List Token) (ha : a.length ≤ 9000000) (hc : a.map core = b.map core) : racetreelaw02_same a b false = some true := by
  have hlen : a.length = b.length := by simpa using congrArg List.length hc
  rw [racetreelaw02_same, sealF_eq]
  unfold racetreelaw02_same_f
  rw [show ((a.length : Int) != (b.length : Int)) = false by simp [hlen], cond_false, racetreelaw02_same_l4, sealF_eq, sameTL a b ha hc a.length fuel 0 (by omega) (by omega) (by unfold fuel; omega), Option.bind_some]
end Lift.A1P

/- Tokens joined by blanks are told again. -/
namespace Lift.A1P
open Go Go.RowKit Lift Go.IntWalk Lift.Fn

theorem twos_head : ∀ x ∈ twos, x.headD 0 ≠ 35 ∧ x.headD 0 ≠ 9 ∧ x.headD 0 ≠ 10 ∧ x.headD 0 ≠ 13 ∧ x.headD 0 ≠ 32 := by decide
theorem ones_head : ∀ b ∈ ones, b ≠ 35 ∧ b ≠ 9 ∧ b ≠ 10 ∧ b ≠ 13 ∧ b ≠ 32 := by decide

theorem head_ok {w : List Int} {t : Token} (h : whole w t) (r : List Int) : skip false (w ++ r) = w ++ r := by
  obtain ⟨h1, h2, h3, h4⟩ := h
  match w, h1 with
  | a :: w, _ =>
    simp only [List.all_cons, Bool.and_eq_true] at h2
    have key : a ≠ 35 ∧ Sp.blank a = false := by
      cases hg : goesR a with
      | true =>
        unfold goesR Sp.letter Sp.digit at hg
        simp only [Bool.or_eq_true, Bool.and_eq_true, decide_eq_true_eq] at hg
        constructor
        · omega
        · simp only [Sp.blank, decide_eq_false_iff_not]; omega
      | false =>
        obtain ⟨b, u, hb⟩ := enc_ne a w
        unfold tokR at h3
        simp only [List.headD_cons, hg, cond_false] at h3
        cases hc : (sgn (encs (a :: w)) == []) with
        | true => rw [hc] at h3; simp at h3
        | false =>
          have hne : sgn (encs (a :: w)) ≠ [] := by simpa using hc
          have hbb : b.toNat < 128 ∧ b ≠ 35 ∧ b ≠ 9 ∧ b ≠ 10 ∧ b ≠ 13 ∧ b ≠ 32 := by
            unfold sgn at hne
            by_cases k1 : 1 < (encs (a :: w)).length ∧ twos.contains ((encs (a :: w)).take 2) = true
            · have hm : (encs (a :: w)).take 2 ∈ twos := by simpa using k1.2
              have q1 := (twos_ok _ hm).2
              have q2 := twos_head _ hm
              rw [hb] at q1 q2
              simp only [List.take_succ_cons, List.all_cons, Bool.and_eq_true, decide_eq_true_eq, List.headD_cons] at q1 q2
              exact ⟨q1.1, q2⟩
            · rw [if_neg k1] at hne
              by_cases k2 : ones.contains ((encs (a :: w)).headD 0) = true
              · rw [hb] at k2
                have hm : b ∈ ones := by simpa using k2
                exact ⟨ones_ok b hm, ones_head b hm⟩
              · rw [if_neg k2] at hne
                exact absurd rfl hne
          obtain ⟨e1, _⟩ := ascii_head h2.1 hb hbb.1
          have hr := rune_range h2.1
          have hlen := congrArg List.length e1
          rw [encB_len] at hlen
          have ha : a < 128 := by
            unfold Sp.long at hlen
            by_cases k : a < 128
            · exact k
            · rw [if_neg k] at hlen
              split at hlen
              · simp at hlen
              · split at hlen <;> simp at hlen
          have e2 : UInt8.ofNat a.toNat = b := by
            have : encB a = [UInt8.ofNat a.toNat] := by simp [encB, bytesOf, Sp.enc, ha]
            rw [this] at e1
            exact (List.cons.inj e1).1
          have e3 : b.toNat = a.toNat := by rw [← e2, toNat_of _ (by omega)]
          obtain ⟨_, n1, n2, n3, n4, n5⟩ := hbb
          have no : ∀ c : UInt8, b ≠ c → b.toNat ≠ c.toNat := fun c hc hh => hc (UInt8.toNat_inj.1 hh)
          have m1 := no 35 n1
          have m2 := no 9 n2
          have m3 := no 10 n3
          have m4 := no 13 n4
          have m5 := no 32 n5
          simp only [show (35 : UInt8).toNat = 35 from rfl, show (9 : UInt8).toNat = 9 from rfl, show (10 : UInt8).toNat = 10 from rfl, show (13 : UInt8).toNat = 13 from rfl, show (32 : UInt8).toNat = 32 from rfl] at m1 m2 m3 m4 m5
          constructor
          · omega
          · simp only [Sp.blank, decide_eq_false_iff_not]; omega
    simp only [List.cons_append, skip]
    rw [if_neg key.1, key.2]
    rfl

theorem rest_whole {w : List Int} {t : Token} (h : whole w t) : restR w = [] := by
  obtain ⟨h1, h2, h3, h4⟩ := h
  match w, h1 with
  | a :: w, _ =>
    obtain ⟨ds, _, q2, q3⟩ := rest_split a w h2 (by rw [h3])
    have : encs (ds ++ restR (a :: w)) = encs ds := by
      rw [← q2, q3, h3]
      exact h4.symm
    exact encs_short this

/-- Words with blanks between them. -/
def jr : List (List Int) → List Int
  | [] => []
  | [w] => w
  | w :: v :: ws => w ++ 32 :: jr (v :: ws)

theorem jr_head (v : List Int) (ws : List (List Int)) : ∃ r, jr (v :: ws) = v ++ r := by
  cases ws with
  | nil => exact ⟨[], by simp [jr]⟩
  | cons u ws => exact ⟨32 :: jr (u :: ws), rfl⟩

theorem blank32 : Sp.blank 32 = true := by decide

theorem toks_jr : ∀ (ps : List (List Int × Token)) (k : Nat) (p : Int), (∀ x ∈ ps, whole x.1 x.2) → (jr (ps.map (·.1))).length ≤ k → ∃ l, toks k p (jr (ps.map (·.1))) = .inr l ∧ l.map core = ps.map fun x => core x.2
  | [], k, p, _, _ => ⟨[], by cases k <;> rfl, rfl⟩
  | [x], k, p, h, hk => by
    have hx := h x (by simp)
    have hr := rest_whole hx
    obtain ⟨h1, h2, h3, h4⟩ := hx
    simp only [List.map_cons, List.map_nil, jr] at hk ⊢
    obtain ⟨w, t⟩ := x
    simp only at h1 h2 h3 h4 hr hk ⊢
    match w, h1 with
    | a :: w, _ =>
      obtain ⟨k, rfl⟩ : ∃ q, k = q + 1 := ⟨k - 1, by simp only [List.length_cons] at hk; omega⟩
      simp only [toks, h3, hr, skip]
      have : ∀ q, toks k q [] = .inr [] := fun q => by cases k <;> rfl
      rw [this]
      exact ⟨_, rfl, rfl⟩
  | x :: y :: ps, k, p, h, hk => by
    have hx := h x (by simp)
    have hy := h y (by simp)
    obtain ⟨w, t⟩ := x
    obtain ⟨r, hr⟩ := jr_head y.1 (ps.map (·.1))
    have hrec := toks_jr (y :: ps)
    simp only [List.map_cons] at hk hrec ⊢
    obtain ⟨q1, q2⟩ := tok_blank hx (jr (y.1 :: ps.map (·.1)))
    have hskip : skip false (32 :: jr (y.1 :: ps.map (·.1))) = jr (y.1 :: ps.map (·.1)) := by
      simp only [skip, blank32]
      rw [hr, if_neg (by decide), if_pos trivial, head_ok hy r]
    have hj : jr (w :: y.1 :: ps.map (·.1)) = w ++ 32 :: jr (y.1 :: ps.map (·.1)) := rfl
    simp only at hk q1 q2 ⊢
    rw [hj] at hk ⊢
    obtain ⟨h1, _⟩ := hx
    obtain ⟨a, w, rfl⟩ : ∃ a w', w = a :: w' := by
      cases w with
      | nil => exact absurd rfl h1
      | cons a w => exact ⟨a, w, rfl⟩
    · rw [List.cons_append] at hk q1 q2 ⊢
      obtain ⟨k, rfl⟩ : ∃ q, k = q + 1 := ⟨k - 1, by simp only [List.length_cons] at hk; omega⟩
      simp only [toks, q1, q2, hskip]
      obtain ⟨l, e1, e2⟩ := hrec k (p + ((encs (a :: (w ++ 32 :: jr (y.1 :: ps.map (·.1))))).length : Int) - ((encs (jr (y.1 :: ps.map (·.1)))).length : Int)) (fun z hz => h z (by simp only [List.mem_cons] at hz ⊢; exact .inr hz)) (by
        simp only [List.length_cons, List.length_append] at hk
        omega)
      rw [e1]
      refine ⟨_, rfl, ?_⟩
      simp only [List.map_cons, e2]
      rfl
end Lift.A1P

/- A text's token, alone. -/
namespace Lift.A1P
open Go Go.RowKit Lift Go.IntWalk Lift.Fn

theorem sgn_idem (x : List UInt8) : sgn (sgn x) = sgn x := by
  by_cases k1 : 1 < x.length ∧ twos.contains (x.take 2) = true
  · have e : sgn x = x.take 2 := by unfold sgn; rw [if_pos k1]
    rw [e]
    have hl : (x.take 2).length = 2 := by rw [List.length_take]; omega
    have ht : (x.take 2).take 2 = x.take 2 := by rw [List.take_take]; rfl
    unfold sgn
    rw [if_pos ⟨by omega, by rw [ht]; exact k1.2⟩, ht]
  · by_cases k2 : ones.contains (x.headD 0) = true
    · have e : sgn x = x.take 1 := by unfold sgn; rw [if_neg k1, if_pos k2]
      rw [e]
      match x, k2 with
      | [], k2 => exact absurd k2 (by decide)
      | b :: x, k2 =>
        show sgn [b] = [b]
        unfold sgn
        rw [if_neg (fun hh => by have := hh.1; simp at this)]
        exact if_pos k2
    · have e : sgn x = [] := by unfold sgn; rw [if_neg k1, if_neg k2]
      rw [e]
      decide

/-- A text's token is one that stands alone. -/
theorem alone (a : Int) (rs : List Int) (ha : (a :: rs).all Sp.isRune = true) (h0 : (tokR (a :: rs)).2 = 0) : ∃ ds, whole ds (tokR (a :: rs)).1 ∧ a :: rs = ds ++ restR (a :: rs) := by
  cases hg : goesR a with
  | true =>
    have ht := tok_text_goes (w := a :: rs) hg
    have hd : ((a :: rs).takeWhile goesR).headD 0 = a := by rw [List.takeWhile_cons, if_pos hg]; rfl
    have htt : ((a :: rs).takeWhile goesR).takeWhile goesR = (a :: rs).takeWhile goesR := take_all List.all_takeWhile
    refine ⟨(a :: rs).takeWhile goesR, ⟨by simp [hg], take_all_rune ha, ?_, ht⟩, ?_⟩
    · refine Prod.ext ?_ ?_
      · show (tokR ((a :: rs).takeWhile goesR)).1 = _
        unfold tokR
        rw [hd, htt, List.headD_cons, hg]
        rfl
      · show (tokR ((a :: rs).takeWhile goesR)).2 = 0
        rw [← h0]
        unfold tokR
        rw [hd, htt, List.headD_cons, hg]
        rfl
    · unfold restR
      rw [List.headD_cons, hg]
      exact (List.takeWhile_append_dropWhile).symm
  | false =>
    have hc : (sgn (encs (a :: rs)) == []) = false := by
      unfold tokR at h0
      rw [List.headD_cons, hg, cond_false] at h0
      cases hc : (sgn (encs (a :: rs)) == []) with
      | true => rw [hc] at h0; simp at h0
      | false => rfl
    have hne : sgn (encs (a :: rs)) ≠ [] := by simpa using hc
    obtain ⟨h1, h2⟩ := sgn_split a rs ha hne
    have htok : tokR (a :: rs) = (⟨3, sgn (encs (a :: rs)), 0, 0⟩, 0) := by
      unfold tokR
      rw [List.headD_cons, hg, cond_false, hc, cond_false]
    obtain ⟨n, hn⟩ : ∃ n, (sgn (encs (a :: rs))).length = n + 1 := ⟨(sgn (encs (a :: rs))).length - 1, by omega⟩
    have htk : (a :: rs).take (sgn (encs (a :: rs))).length = a :: rs.take n := by rw [hn]; rfl
    refine ⟨(a :: rs).take (sgn (encs (a :: rs))).length, ⟨by rw [htk]; exact List.cons_ne_nil _ _, ?_, ?_, ?_⟩, ?_⟩
    · rw [List.all_eq_true] at ha ⊢
      exact fun r hr => ha r (List.mem_of_mem_take hr)
    · rw [htok]
      rw [htk] at h1 ⊢
      unfold tokR
      rw [List.headD_cons, hg, cond_false, h1, sgn_idem, hc, cond_false]
    · rw [htok, h1]
    · unfold restR
      rw [List.headD_cons, hg, cond_false, List.take_append_drop]
end Lift.A1P

/- Join, as a whole, of tokens that fit. -/
namespace Lift.A1P
open Go Go.RowKit Lift Go.IntWalk Lift.Fn

theorem join_jr : ∀ ws : List (List Int), Lib.join (ws.map encs) [32] = encs (jr ws)
  | [] => rfl
  | [w] => by simp only [List.map_cons, List.map_nil, Lib.join_one, jr]
  | w :: v :: ws => by
    have ih := join_jr (v :: ws)
    simp only [List.map_cons] at ih ⊢
    rw [Lib.join_cons] at ih
    rw [Lib.join_cons]
    have : Lib.joinTail [32] (encs v :: ws.map encs) = [32] ++ encs (jr (v :: ws)) := by
      rw [← ih]
      simp [Lib.joinTail]
    rw [this]
    show _ = encs (w ++ 32 :: jr (v :: ws))
    rw [encs_append, encs_cons, enc_blank]

theorem jr_len : ∀ ws : List (List Int), (∀ w ∈ ws, (encs w).length ≤ 64) → (encs (jr ws)).length ≤ 65 * ws.length
  | [], _ => by simp [jr, encs]
  | [w], h => by have := h w (by simp); simp only [jr, List.length_cons, List.length_nil]; omega
  | w :: v :: ws, h => by
    have ih := jr_len (v :: ws) (fun x hx => h x (by simp only [List.mem_cons] at hx ⊢; exact .inr hx))
    have hw := h w (by simp)
    have : (encs (jr (w :: v :: ws))).length = (encs w).length + (1 + (encs (jr (v :: ws))).length) := by
      show (encs (w ++ 32 :: jr (v :: ws))).length = _
      rw [encs_append, encs_cons, enc_blank, List.length_append, List.length_append]
      rfl
    rw [this, List.length_cons]
    omega

/-- Join of tokens that fit, and the end. -/
theorem joinT (l0 : List Token) (n : Int) (hl : l0.length ≤ 9000000) (hf : ∀ t ∈ l0, fitsB t = true) (hj : (Lib.join (l0.map (·.text)) [32]).length ≤ 140737488355328) :
    lex_Join (l0 ++ [⟨5, [], 0, n⟩]) = some (bif decide (4000 < (Lib.join (l0.map (·.text)) [32]).length) then ([], 10) else (Lib.join (l0.map (·.text)) [32], 0)) := by
  have hlen : (l0 ++ [(⟨5, [], 0, n⟩ : Token)]).length = l0.length + 1 := by simp
  have hL := joinG l0 hl l0.length fuel 0 [] (by omega) (by omega) (by unfold fuel; omega) (by simp)
  rw [Int.toNat_zero, List.drop_zero, List.nil_append, List.all_eq_true.2 hf, cond_true] at hL
  have hS : strings_Join (l0.map (·.text)) [32] = some (Lib.join (l0.map (·.text)) [32]) := by
    rw [strings_Join, sealF_eq]
    unfold strings_Join_f
    rw [decide_eq_true (show _ ∧ _ from ⟨by rw [List.length_map]; omega, hj⟩), cond_true]
  have hget : (l0 ++ [(⟨5, [], 0, n⟩ : Token)])[Int.toNat (l0.length : Int)]? = some ⟨5, [], 0, n⟩ := by
    rw [Int.toNat_natCast, List.getElem?_append_right (Nat.le_refl _)]; simp
  rw [lex_Join, sealF_eq]
  unfold lex_Join_f
  rw [hlen, i64_in (((l0.length + 1 : Nat) : Int) - 1) (by omega), show ((l0.length + 1 : Nat) : Int) - 1 = (l0.length : Int) by omega]
  have b1 : decide ((l0.length : Int) < 0) = false := decide_eq_false (by omega)
  have b2 : decide ((0 : Int) ≤ (l0.length : Int)) = true := decide_eq_true (by omega)
  have b3 : (decide ((0 : Int) ≤ 0) && (true && decide ((l0.length : Int) ≤ ((l0.length + 1 : Nat) : Int)))) = true := by
    simp only [Bool.and_eq_true, decide_eq_true_eq, true_and]; omega
  have htake : List.take (Int.toNat (l0.length : Int)) (l0 ++ [(⟨5, [], 0, n⟩ : Token)]) = l0 := by
    rw [Int.toNat_natCast, List.take_left]
  simp only [b1, b2, cond_false, cond_true, hget, Option.bind_some, bne_self_eq_false, beq_self_eq_true, Bool.not_true, htake, List.drop_zero]
  rw [b3, cond_true, lex_Join_l6, sealF_eq, hL, Option.bind_some]
  simp only
  rw [hS, Option.bind_some]
  have : decide (((Lib.join (l0.map (·.text)) [32]).length : Int) > 4000) = decide (4000 < (Lib.join (l0.map (·.text)) [32]).length) := by
    rw [Bool.eq_iff_iff, decide_eq_true_eq, decide_eq_true_eq]; omega
  rw [this]
  cases decide (4000 < (Lib.join (l0.map (·.text)) [32]).length) <;> rfl
end Lift.A1P

/- A token's text is short; the tokens of a text, joined, are told again. -/
namespace Lift.A1P
open Go Go.RowKit Lift Go.IntWalk Lift.Fn

theorem uint_pow : ∀ (l : List UInt8) (acc u : Nat), Lib.parseUint10 acc l = .ok u → acc * 10 ^ l.length ≤ u
  | [], acc, u, h => by
    simp only [Lib.parseUint10] at h
    injection h with h
    simp [h]
  | c :: r, acc, u, h => by
    simp only [Lib.parseUint10] at h
    split at h
    · split at h
      · cases h
      · split at h
        · cases h
        · have := uint_pow r _ u h
          rw [List.length_cons, Nat.pow_succ]
          refine Nat.le_trans ?_ this
          rw [show acc * (10 ^ r.length * 10) = (acc * 10) * 10 ^ r.length by rw [Nat.mul_comm (10 ^ r.length) 10, ← Nat.mul_assoc]]
          exact Nat.mul_le_mul_right _ (by omega)
    · cases h

theorem num_len (c : UInt8) (r : List UInt8) (hc : 48 ≤ c.toNat ∧ c.toNat ≤ 57) (h : (numS (c :: r)).2 = true) : (c :: r).length ≤ 64 := by
  unfold numS at h
  by_cases h1 : 1 < (c :: r).length ∧ ((c :: r).headD 0).toNat = 48
  · rw [if_pos h1] at h; cases h
  rw [if_neg h1] at h
  by_cases hl : (c :: r).length ≤ 64
  · exact hl
  exfalso
  have h48 : c.toNat ≠ 48 := fun hh => h1 ⟨by omega, hh⟩
  have hok : (atoiOf (c :: r)).2 = false := by
    split at h
    · cases h
    · split at h
      · cases h
      · rename_i hq; simpa using hq
  unfold atoiOf at hok
  cases ha : Lib.atoiAll (c :: r) with
  | ok v =>
    unfold Lib.atoiAll at ha
    simp only at ha
    rw [if_neg (by omega)] at ha
    cases hp : Lib.parseMag (c :: r) with
    | ok u =>
      unfold Lib.parseMag at hp
      rw [if_neg (List.cons_ne_nil _ _)] at hp
      have hlt := Lib.parseUint10_lt _ 0 u (by omega) hp
      simp only [Lib.parseUint10] at hp
      rw [if_pos hc] at hp
      split at hp
      · cases hp
      · split at hp
        · cases hp
        · have h3 := uint_pow r _ u hp
          have h4 : 10 ^ 64 ≤ 10 ^ r.length := Nat.pow_le_pow_right (by omega) (by simp only [List.length_cons] at hl; omega)
          have h5 : 1 * 10 ^ r.length ≤ (0 * 10 + (c.toNat - 48)) * 10 ^ r.length := Nat.mul_le_mul_right _ (by omega)
          have h6 : (18446744073709551616 : Nat) < 10 ^ 64 := by decide
          omega
    | range => rw [hp] at ha; cases ha
    | _ => rw [hp] at ha; cases ha
  | range => rw [ha] at hok; cases hok
  | _ => rw [ha] at hok; cases hok

theorem words_short : ∀ x ∈ words, x.length ≤ 64 := by decide +kernel

theorem long_le (r : Int) : Sp.long r ≤ 4 := by unfold Sp.long; repeat' split
                                                all_goals omega

theorem encs_le : ∀ rs : List Int, (encs rs).length ≤ 4 * rs.length
  | [] => by simp [encs]
  | r :: rs => by
    have := encs_le rs
    have h := long_le r
    rw [encs_cons, List.length_append, encB_len, List.length_cons]
    omega

theorem tok_short (a : Int) (rs : List Int) (ha : (a :: rs).all Sp.isRune = true) (h0 : (tokR (a :: rs)).2 = 0) : (tokR (a :: rs)).1.text.length ≤ 64 := by
  unfold tokR at h0 ⊢
  simp only [List.headD_cons] at h0 ⊢
  cases hg : goesR a with
  | false =>
    rw [hg, cond_false] at h0
    rw [cond_false]
    have hs : (sgn (encs (a :: rs))).length ≤ 64 := by
      unfold sgn
      split
      · rw [List.length_take]; omega
      · split
        · rw [List.length_take]; omega
        · simp
    cases hc : (sgn (encs (a :: rs)) == []) with
    | true => simp
    | false => exact hs
  | true =>
    rw [hg, cond_true] at h0
    rw [cond_true]
    cases hd : Sp.digit a with
    | true =>
      rw [hd, cond_true] at h0
      cases hn : (numS (encs ((a :: rs).takeWhile goesR))).2 with
      | false => rw [hn] at h0; simp at h0
      | true =>
        show (encs ((a :: rs).takeWhile goesR)).length ≤ 64
        have hda : 48 ≤ a ∧ a ≤ 57 := by simpa [Sp.digit] using hd
        have ht : (a :: rs).takeWhile goesR = a :: rs.takeWhile goesR := by rw [List.takeWhile_cons, if_pos hg]
        rw [ht, encs_cons] at hn ⊢
        have he : encB a = [UInt8.ofNat a.toNat] := by
          have : a < 128 := by omega
          simp [encB, bytesOf, Sp.enc, this]
        rw [he, List.singleton_append] at hn ⊢
        exact num_len _ _ (by rw [toNat_of _ (by omega)]; omega) hn
    | false =>
      rw [hd, cond_false] at h0
      cases hw : words.contains (encs ((a :: rs).takeWhile goesR)) with
      | true =>
        exact words_short _ (by simpa using hw)
      | false =>
        rw [hw, cond_false] at h0
        cases h16 : decide (16 < ((a :: rs).takeWhile goesR).length) with
        | true => rw [h16] at h0; simp at h0
        | false =>
          show (encs ((a :: rs).takeWhile goesR)).length ≤ 64
          have := encs_le ((a :: rs).takeWhile goesR)
          have h17 : ¬ 16 < ((a :: rs).takeWhile goesR).length := of_decide_eq_false h16
          omega
end Lift.A1P

/- LexTexts answers true. -/
namespace Lift.A1P
open Go Go.RowKit Lift Go.IntWalk Lift.Fn

theorem toks_pairs : ∀ (k : Nat) (p : Int) (rs : List Int), rs.all Sp.isRune = true → ∀ l, toks k p rs = .inr l →
    ∃ ps : List (List Int × Token), (∀ x ∈ ps, whole x.1 x.2 ∧ (encs x.1).length ≤ 64) ∧ l.map core = ps.map (fun x => core x.2) ∧ l.map (·.text) = (ps.map (·.1)).map encs
  | 0, p, rs, _, l, h => by simp only [toks, Sum.inr.injEq] at h; subst h; exact ⟨[], by simp, rfl, rfl⟩
  | k + 1, p, [], _, l, h => by simp only [toks, Sum.inr.injEq] at h; subst h; exact ⟨[], by simp, rfl, rfl⟩
  | k + 1, p, r :: rs, ha, l, h => by
    simp only [toks] at h
    cases hc : ((tokR (r :: rs)).2 != 0) with
    | true => rw [hc] at h; simp at h
    | false =>
      rw [hc] at h
      have h0 : (tokR (r :: rs)).2 = 0 := by simpa using hc
      obtain ⟨es, hw, hsp⟩ := alone r rs ha h0
      have hsh := tok_short r rs ha h0
      obtain ⟨fs, hfs⟩ := skip_split (restR (r :: rs)) false
      simp only [cond_false] at h
      have hs : (skip false (restR (r :: rs))).all Sp.isRune = true := all_suffix (ds := es ++ fs) (by rw [List.append_assoc, ← hfs, ← hsp]; exact ha)
      split at h
      · cases h
      · rename_i l' hl'
        simp only [Sum.inr.injEq] at h
        subst h
        obtain ⟨ps, q1, q2, q3⟩ := toks_pairs k _ _ hs l' hl'
        have htx := hw.2.2.2
        refine ⟨(es, (tokR (r :: rs)).1) :: ps, ?_, ?_, ?_⟩
        · intro x hx
          rcases List.mem_cons.1 hx with rfl | hx
          · exact ⟨hw, by rw [← htx]; exact hsh⟩
          · exact q1 x hx
        · simp only [List.map_cons, q2]; rfl
        · simp only [List.map_cons, q3, htx]

theorem toks_err : ∀ (k : Nat) (p : Int) (rs : List Int) e, toks k p rs = .inl e → e.1 ≠ 0
  | 0, p, rs, e, h => by simp [toks] at h
  | k + 1, p, [], e, h => by simp [toks] at h
  | k + 1, p, r :: rs, e, h => by
    simp only [toks] at h
    cases hc : ((tokR (r :: rs)).2 != 0) with
    | true =>
      rw [hc, cond_true, Sum.inl.injEq] at h
      subst h
      simpa using hc
    | false =>
      rw [hc, cond_false] at h
      split at h
      · rename_i e' he'
        rw [Sum.inl.injEq] at h
        subst h
        exact toks_err k _ _ _ he'
      · cases h

theorem jr_all : ∀ ws : List (List Int), (∀ w ∈ ws, w.all Sp.isRune = true) → (jr ws).all Sp.isRune = true
  | [], _ => rfl
  | [w], h => h w (by simp)
  | w :: v :: ws, h => by
    have ih := jr_all (v :: ws) (fun x hx => h x (by simp only [List.mem_cons] at hx ⊢; exact .inr hx))
    show (w ++ 32 :: jr (v :: ws)).all Sp.isRune = true
    rw [List.all_append, List.all_cons, ih, h w (by simp)]
    decide

theorem tokens_bad (t : List UInt8) (h : (Sp.runes2 t).code ≠ 0) : lex_Tokens t = some (⟨(Sp.runes2 t).code, (Sp.runes2 t).at_, (Sp.runes2 t).name⟩, []) := by
  rw [lex_Tokens, sealF_eq]
  unfold lex_Tokens_f
  rw [runes1_, Option.bind_some]
  have : ((Sp.runes2 t).code != 0) = true := by simp [h]
  simp only [this, cond_true]

theorem retold (ps : List (List Int × Token)) (h : ∀ x ∈ ps, whole x.1 x.2) (hl : (encs (jr (ps.map (·.1)))).length ≤ 4000) : ∃ l, lex_Tokens (encs (jr (ps.map (·.1)))) = some (⟨0, 0, []⟩, l) ∧ l.length ≤ 4001 ∧ l.map core = ps.map (fun x => core x.2) ++ [(5, [], 0)] := by
  have hall : (jr (ps.map (·.1))).all Sp.isRune = true := jr_all _ (fun w hw => by
    obtain ⟨x, hx, rfl⟩ := List.mem_map.1 hw
    exact (h x hx).2.1)
  have hskip : skip false (jr (ps.map (·.1))) = jr (ps.map (·.1)) := by
    cases ps with
    | nil => rfl
    | cons x ps =>
      obtain ⟨r, hr⟩ := jr_head x.1 (ps.map (·.1))
      rw [List.map_cons, hr]
      exact head_ok (h x (by simp)) r
  have ht := tokens1 _ hall hl
  rw [hskip] at ht
  obtain ⟨l, e1, e2⟩ := toks_jr ps (jr (ps.map (·.1))).length (((encs (jr (ps.map (·.1)))).length : Int) - (encs (jr (ps.map (·.1)))).length) h (Nat.le_refl _)
  rw [e1] at ht
  have hlen := toks_len _ _ _ hall l e1
  have h3 := len_runes (jr (ps.map (·.1)))
  refine ⟨_, ht, ?_, ?_⟩
  · rw [List.length_append, List.length_cons, List.length_nil]; omega
  · rw [List.map_append, e2]; rfl
end Lift.A1P

/- LexBack answers true. -/
namespace Lift.A1P
open Go Go.RowKit Lift Go.IntWalk Lift.Fn

theorem fits_pairs : ∀ l0 : List Token, (∀ t ∈ l0, fitsB t = true) →
    ∃ ps : List (List Int × Token), (∀ x ∈ ps, whole x.1 x.2 ∧ (encs x.1).length ≤ 64) ∧ l0.map core = ps.map (fun x => core x.2) ∧ l0.map (·.text) = (ps.map (·.1)).map encs
  | [], _ => ⟨[], by simp, rfl, rfl⟩
  | t :: l, h => by
    obtain ⟨ps, q1, q2, q3⟩ := fits_pairs l (fun x hx => h x (by simp [hx]))
    obtain ⟨h64, w, hw⟩ := (fitsB_iff t).1 (h t (by simp))
    have htx : t.text = encs w := hw.2.2.2
    refine ⟨(w, ⟨t.kind, t.text, t.num, 0⟩) :: ps, ?_, ?_, ?_⟩
    · intro x hx
      rcases List.mem_cons.1 hx with rfl | hx
      · exact ⟨hw, by rw [← htx]; exact h64⟩
      · exact q1 x hx
    · simp only [List.map_cons, q2]; rfl
    · simp only [List.map_cons, q3, htx]

theorem joinC (l0 : List Token) (x : Token) (hl : l0.length ≤ 9000000) :
    lex_Join (l0 ++ [x]) = bif x.kind != 5 then some ([], 1) else bif !(x.text == []) then some ([], 1) else bif x.num != 0 then some ([], 1) else
      bif l0.all fitsB then (Option.bind (strings_Join (l0.map (·.text)) [32]) fun y => bif decide ((y.length : Int) > 4000) then some ([], 10) else some (y, 0)) else some ([], 1) := by
  have hlen : (l0 ++ [x]).length = l0.length + 1 := by simp
  have hL := joinG l0 hl l0.length fuel 0 [] (by omega) (by omega) (by unfold fuel; omega) (by simp)
  rw [Int.toNat_zero, List.drop_zero, List.nil_append] at hL
  have hget : (l0 ++ [x])[Int.toNat (l0.length : Int)]? = some x := by
    rw [Int.toNat_natCast, List.getElem?_append_right (Nat.le_refl _)]; simp
  rw [lex_Join, sealF_eq]
  unfold lex_Join_f
  rw [hlen, i64_in (((l0.length + 1 : Nat) : Int) - 1) (by omega), show ((l0.length + 1 : Nat) : Int) - 1 = (l0.length : Int) by omega]
  have b1 : decide ((l0.length : Int) < 0) = false := decide_eq_false (by omega)
  have b2 : decide ((0 : Int) ≤ (l0.length : Int)) = true := decide_eq_true (by omega)
  have b3 : (decide ((0 : Int) ≤ 0) && (true && decide ((l0.length : Int) ≤ ((l0.length + 1 : Nat) : Int)))) = true := by
    simp only [Bool.and_eq_true, decide_eq_true_eq, true_and]; omega
  have htake : List.take (Int.toNat (l0.length : Int)) (l0 ++ [x]) = l0 := by
    rw [Int.toNat_natCast, List.take_left]
  simp only [b1, b2, cond_false, cond_true, hget, Option.bind_some, htake, List.drop_zero]
  rw [b3, cond_true, lex_Join_l6, sealF_eq, hL, Option.bind_some]
  cases l0.all fitsB <;> rfl

theorem listEnd (l : List Token) : l = [] ∨ ∃ l0 x, l = l0 ++ [x] := by
  rcases List.eq_nil_or_concat l with h | ⟨a, b, h⟩
  · exact .inl h
  · exact .inr ⟨a, b, by simpa using h⟩

/-- Join, of any list. -/
theorem join_cases (l : List Token) (hl : l.length ≤ 9000000) :
    (lex_Join l = some ([], 1)) ∨ ∃ (l0 : List Token) (n : Int) (ps : List (List Int × Token)), l = l0 ++ [⟨5, [], 0, n⟩] ∧ (∀ t ∈ l0, fitsB t = true) ∧ (∀ x ∈ ps, whole x.1 x.2 ∧ (encs x.1).length ≤ 64) ∧ l0.map core = ps.map (fun x => core x.2) ∧ Lib.join (l0.map (·.text)) [32] = encs (jr (ps.map (·.1))) ∧
      lex_Join l = some (bif decide (4000 < (encs (jr (ps.map (·.1)))).length) then ([], 10) else (encs (jr (ps.map (·.1))), 0)) := by
  rcases listEnd l with rfl | ⟨l0, x, rfl⟩
  · refine .inl ?_
    rw [lex_Join, sealF_eq]
    unfold lex_Join_f
    have : IntKind.wrap IntKind.i64 (((([] : List Token).length : Nat) : Int) - 1) = -1 := by decide
    rw [this]
    rfl
  have hl0 : l0.length ≤ 9000000 := by rw [List.length_append] at hl; omega
  rw [joinC l0 x hl0]
  obtain ⟨k, t, n, a⟩ := x
  by_cases hk : ¬ k = 5
  · refine .inl ?_
    have : (k != 5) = true := by simp [hk]
    rw [this]; rfl
  by_cases ht : ¬ t = []
  · refine .inl ?_
    have h1 : (k != 5) = false := by simp [Classical.not_not.1 hk]
    have : (t == []) = false := by simpa using ht
    rw [h1, this]; rfl
  by_cases hn : ¬ n = 0
  · refine .inl ?_
    have h1 : (k != 5) = false := by simp [Classical.not_not.1 hk]
    have h2 : (t == []) = true := by simpa using Classical.not_not.1 ht
    have : (n != 0) = true := by simp [hn]
    rw [h1, h2, this]; rfl
  have hk := Classical.not_not.1 hk
  have ht := Classical.not_not.1 ht
  have hn := Classical.not_not.1 hn
  subst hk ht hn
  cases hf : l0.all fitsB with
  | false => exact .inl rfl
  | true =>
    right
    have hf' := List.all_eq_true.1 hf
    obtain ⟨ps, q1, q2, q3⟩ := fits_pairs l0 hf'
    have hj : Lib.join (l0.map (·.text)) [32] = encs (jr (ps.map (·.1))) := by rw [q3, join_jr]
    have hb := jr_len (ps.map (·.1)) (fun w hw => by obtain ⟨x, hx, rfl⟩ := List.mem_map.1 hw; exact (q1 x hx).2)
    have hpl : ps.length = l0.length := by have := congrArg List.length q2; simpa using this.symm
    rw [List.length_map] at hb
    refine ⟨l0, a, ps, rfl, hf', q1, q2, hj, ?_⟩
    have hS : strings_Join (l0.map (·.text)) [32] = some (encs (jr (ps.map (·.1)))) := by
      rw [strings_Join, sealF_eq]
      unfold strings_Join_f
      rw [decide_eq_true (show _ ∧ _ from ⟨by rw [List.length_map]; omega, by rw [hj]; omega⟩), cond_true, hj]
    rw [hS]
    have : decide (((encs (jr (ps.map (·.1)))).length : Int) > 4000) = decide (4000 < (encs (jr (ps.map (·.1)))).length) := by
      rw [Bool.eq_iff_iff, decide_eq_true_eq, decide_eq_true_eq]; omega
    simp only [bne_self_eq_false, cond_false, beq_self_eq_true, Bool.not_true, cond_true, Option.bind_some, this]
    cases decide (4000 < (encs (jr (ps.map (·.1)))).length) <;> rfl
end Lift.A1P

/- The document's answer, layer 2: its small functions. -/
namespace Lift.A1P
open Go Go.RowKit Lift Go.IntWalk Lift.Fn

theorem digit2 (r : Int) : racetreeref01_Digit r = some (Sp.digit r) := by
  rw [← digit1, racetreeref01_Digit, scan_Digit, sealF_eq, sealF_eq]
  rfl

theorem letter2 (r : Int) : racetreeref01_Letter r = some (Sp.letter r) := by
  rw [racetreeref01_Letter, sealF_eq]
  unfold racetreeref01_Letter_f
  simp only [cond_eq_ite, isRune2, Option.bind_some]
  repeat' split
  all_goals refine someBq ?_
  all_goals simp only [Sp.letter, Sp.isRune, beq_iff_eq, Bool.and_eq_true, decide_eq_true_eq, decide_eq_false_iff_not, Bool.false_eq_true, false_iff, true_iff, Bool.not_eq_true] at *
  all_goals omega

/-- The spot of a rune. -/
theorem spot_at (ds : List Int) (r : Int) (es : List Int) : ∃ s, ((put (ds ++ r :: es) s0).1)[ds.length]? = some s ∧ s.rune = r ∧ s.at_ = ((encs ds).length : Int) := by
  have hl : ds.length < (put (ds ++ r :: es) s0).1.length := by rw [put_len, List.length_append, List.length_cons]; omega
  refine ⟨_, List.getElem?_eq_getElem hl, ?_, ?_⟩
  · have h := congrArg (fun l => l[ds.length]?) (put_rune (ds ++ r :: es) s0)
    simp only [List.getElem?_map, List.getElem?_eq_getElem hl, Option.map_some] at h
    rw [List.getElem?_append_right (Nat.le_refl _)] at h
    simpa using h
  · have h := put_get (ds ++ r :: es) s0 ds.length _ (List.getElem?_eq_getElem hl)
    rw [h, List.take_left]
    simp [s0]

theorem spots_len (rs : List Int) : (put rs s0).1.length = rs.length := put_len rs s0

/-- As far as letters and digits go. -/
theorem runL : ∀ (es ds : List Int) (n : Nat), es.length < n → (ds ++ es).length ≤ 9000000 →
    racetreeref02_run_i2 n (put (ds ++ es) s0).1 (ds.length : Int) = some ((ds.length : Int) + ((es.takeWhile goesR).length : Int))
  | [], ds, n, hn, hl => by
    obtain ⟨n, rfl⟩ : ∃ q, n = q + 1 := ⟨n - 1, by simp at hn; omega⟩
    simp only [racetreeref02_run_i2, racetreeref02_run_t2, spots_len, List.append_nil]
    rw [decide_eq_false (by omega), cond_false]
    simp
  | r :: es, ds, n, hn, hl => by
    obtain ⟨n, rfl⟩ : ∃ q, n = q + 1 := ⟨n - 1, by simp at hn; omega⟩
    obtain ⟨s, h1, h2, _⟩ := spot_at ds r es
    simp only [racetreeref02_run_i2, racetreeref02_run_t2, spots_len]
    rw [decide_eq_true (by rw [List.length_append, List.length_cons]; omega), cond_true, decide_eq_true (by omega), cond_true, Int.toNat_natCast, h1, Option.bind_some, letter2, Option.bind_some, h2]
    simp only [Option.bind_some, digit2, h2, cond_true]
    rw [List.length_append, List.length_cons] at hl
    have ih := runL es (ds ++ [r]) n (by simp at hn; omega) (by rw [List.append_assoc, List.singleton_append, List.length_append, List.length_cons]; omega)
    rw [List.append_assoc, List.singleton_append, List.length_append, List.length_cons, List.length_nil] at ih
    rw [i64_in ((ds.length : Int) + 1) (by omega)]
    rw [show ((ds.length + (0 + 1) : Nat) : Int) = (ds.length : Int) + 1 by omega] at ih
    rw [List.takeWhile_cons]
    unfold goesR at ih ⊢
    cases hL : Sp.letter r with
    | true =>
      simp only [Bool.not_true, cond_false, ih, Bool.true_or, if_true, List.length_cons]
      congr 1
      omega
    | false =>
      cases hD : Sp.digit r with
      | true =>
        simp only [Bool.not_true, Bool.not_false, cond_true, cond_false, ih, Bool.or_true, if_true, List.length_cons]
        congr 1
        omega
      | false =>
        simp only [Bool.not_false, cond_true, Bool.or_self, Bool.false_eq_true, if_false, List.length_nil]
        congr 1

theorem run1 (es ds : List Int) (hl : (ds ++ es).length ≤ 9000000) : racetreeref02_run (put (ds ++ es) s0).1 (ds.length : Int) = some ((ds.length : Int) + ((es.takeWhile goesR).length : Int)) := by
  rw [racetreeref02_run, sealF_eq]
  unfold racetreeref02_run_f
  rw [racetreeref02_run_l2, sealF_eq, runL es ds fuel (by rw [List.length_append] at hl; unfold fuel; omega) hl]
  rfl

/-- A part of a text. -/
theorem part1 (ds w es : List Int) (hw : w ≠ []) : racetreeref02_part (put (ds ++ (w ++ es)) s0).1 (encs (ds ++ (w ++ es))) (ds.length : Int) ((ds.length : Int) + (w.length : Int)) = some (encs w) := by
  obtain ⟨a, w', rfl⟩ : ∃ a w', w = a :: w' := by
    cases w with
    | nil => exact absurd rfl hw
    | cons a w => exact ⟨a, w, rfl⟩
  obtain ⟨s, h1, _, h3⟩ := spot_at ds a (w' ++ es)
  have hlen : (encs (ds ++ (a :: w' ++ es))).length = (encs ds).length + ((encs (a :: w')).length + (encs es).length) := by
    rw [encs_append, encs_append, List.length_append, List.length_append]
  rw [racetreeref02_part, sealF_eq]
  unfold racetreeref02_part_f
  rw [spots_len]
  have htake : (encs (ds ++ (a :: w' ++ es))).drop (encs ds).length = encs (a :: w') ++ encs es := by
    rw [encs_append, List.drop_left, encs_append]
  cases es with
  | nil =>
    rw [decide_eq_false (by rw [List.append_nil, List.length_append]; omega), cond_false, decide_eq_true (by omega), cond_true, Int.toNat_natCast]
    rw [List.cons_append, h1, Option.bind_some, h3]
    rw [List.cons_append] at hlen htake
    rw [show (decide ((0 : Int) ≤ ((encs ds).length : Int)) && (decide (((encs ds).length : Int) ≤ ((encs (ds ++ a :: (w' ++ []))).length : Int)) && decide (((encs (ds ++ a :: (w' ++ []))).length : Int) ≤ ((encs (ds ++ a :: (w' ++ []))).length : Int)))) = true by
      simp only [Bool.and_eq_true, decide_eq_true_eq]; omega]
    rw [cond_true, Int.toNat_natCast, Int.toNat_natCast, List.take_length, htake]
    simp [encs]
  | cons b es =>
    obtain ⟨s2, g1, _, g3⟩ := spot_at (ds ++ (a :: w')) b es
    rw [List.append_assoc, List.length_append] at g1
    rw [decide_eq_true (by simp only [List.length_append, List.length_cons]; omega), cond_true, decide_eq_true (by omega), cond_true]
    rw [show ((ds.length : Int) + ((a :: w').length : Int)).toNat = ds.length + (a :: w').length by omega, g1, Option.bind_some, decide_eq_true (by omega), cond_true, Int.toNat_natCast]
    rw [List.cons_append, h1, Option.bind_some, h3, g3, encs_append ds (a :: w'), List.length_append]
    rw [List.cons_append] at hlen htake
    rw [show (decide ((0 : Int) ≤ ((encs ds).length : Int)) && (decide (((encs ds).length : Int) ≤ (((encs ds).length + (encs (a :: w')).length : Nat) : Int)) && decide ((((encs ds).length + (encs (a :: w')).length : Nat) : Int) ≤ ((encs (ds ++ a :: (w' ++ b :: es))).length : Int)))) = true by
      simp only [Bool.and_eq_true, decide_eq_true_eq]; omega]
    rw [cond_true, Int.toNat_natCast, Int.toNat_natCast, List.drop_take, htake, show (encs ds).length + (encs (a :: w')).length - (encs ds).length = (encs (a :: w')).length by omega, List.take_left]

theorem inL (l : List (List UInt8)) (x : List UInt8) (hl : l.length ≤ 4000) : ∀ (k n : Nat) (i : Int), 0 ≤ i → l.length - i.toNat ≤ k → k < n →
    racetreeref02_In_i2 n l x i = some (if (l.drop i.toNat).contains x then .inl true else .inr ()) := by
  intro k
  have fin : ∀ (n : Nat) (i : Int), 0 ≤ i → ¬ i < l.length → racetreeref02_In_i2 (n + 1) l x i = some (if (l.drop i.toNat).contains x then .inl true else .inr ()) := by
    intro n i h0 c
    rw [List.drop_eq_nil_of_le (by omega)]
    simp only [racetreeref02_In_i2, racetreeref02_In_t2, c, decide_false, cond_false, List.contains_nil, Bool.false_eq_true, if_false]
  induction k with
  | zero =>
    intro n i h0 hk hn
    obtain ⟨n, rfl⟩ : ∃ q, n = q + 1 := ⟨n - 1, by omega⟩
    exact fin n i h0 (by omega)
  | succ k ih =>
    intro n i h0 hk hn
    obtain ⟨n, rfl⟩ : ∃ q, n = q + 1 := ⟨n - 1, by omega⟩
    by_cases c : i < l.length
    · have ha : i.toNat < l.length := by omega
      rw [List.drop_eq_getElem_cons ha]
      simp only [racetreeref02_In_i2, racetreeref02_In_t2, c, h0, decide_true, cond_true, List.getElem?_eq_getElem ha, Option.bind_some, List.contains_cons]
      rw [i64_in (i + 1) (by omega)]
      cases hx : (l[i.toNat] == x) with
      | true =>
        have : (x == l[i.toNat]) = true := by rw [beq_iff_eq] at hx ⊢; exact hx.symm
        rw [cond_true, this, Bool.true_or, if_pos rfl]
      | false =>
        have : (x == l[i.toNat]) = false := by rw [beq_eq_false_iff_ne] at hx ⊢; exact fun h => hx h.symm
        rw [cond_false, this, Bool.false_or, ih n (i + 1) (by omega) (by omega) (by omega), show (i + 1).toNat = i.toNat + 1 by omega]
    · exact fin n i h0 c

theorem in1 (l : List (List UInt8)) (x : List UInt8) (hl : l.length ≤ 4000) : racetreeref02_In l x = some (l.contains x) := by
  rw [racetreeref02_In, sealF_eq]
  unfold racetreeref02_In_f
  rw [racetreeref02_In_l2, sealF_eq, inL l x hl l.length fuel 0 (by omega) (by omega) (by unfold fuel; omega), Int.toNat_zero, List.drop_zero]
  cases l.contains x <;> rfl

/-! Signs. -/
def signs : List (List UInt8) := twos ++ ones.map (fun b => [b])

theorem signsL (text : List UInt8) (at_ : Nat) (ha : at_ ≤ text.length) (ht : text.length ≤ 9000000) : ∀ (k n : Nat) (i : Int), 0 ≤ i → signs.length - i.toNat ≤ k → k < n →
    racetreeref02_sign_i3 n text at_ i signs = some (match (signs.drop i.toNat).find? (fun s => decide (s.length ≤ (text.drop at_).length) && ((text.drop at_).take s.length == s)) with | some s => .inl s | none => .inr ()) := by
  have hs : signs.length = 22 := rfl
  intro k
  have fin : ∀ (n : Nat) (i : Int), 0 ≤ i → ¬ i < signs.length → racetreeref02_sign_i3 (n + 1) text at_ i signs = some (match (signs.drop i.toNat).find? (fun s => decide (s.length ≤ (text.drop at_).length) && ((text.drop at_).take s.length == s)) with | some s => .inl s | none => .inr ()) := by
    intro n i h0 c
    have hd : signs.drop i.toNat = [] := List.drop_eq_nil_of_le (by omega)
    rw [hd]
    simp only [racetreeref02_sign_i3, racetreeref02_sign_t3, c, decide_false, cond_false, List.find?_nil]
  induction k with
  | zero =>
    intro n i h0 hk hn
    obtain ⟨n, rfl⟩ : ∃ q, n = q + 1 := ⟨n - 1, by omega⟩
    exact fin n i h0 (by omega)
  | succ k ih =>
    intro n i h0 hk hn
    obtain ⟨n, rfl⟩ : ∃ q, n = q + 1 := ⟨n - 1, by omega⟩
    by_cases c : i < signs.length
    · have hi : i.toNat < signs.length := by omega
      have hsl : ∀ s ∈ signs, s.length ≤ 2 := by decide
      have h2 := hsl signs[i.toNat] (List.getElem_mem hi)
      rw [List.drop_eq_getElem_cons hi, List.find?_cons, List.length_drop]
      simp only [racetreeref02_sign_i3, racetreeref02_sign_t3, c, h0, decide_true, cond_true, Bool.and_self, List.getElem?_eq_getElem hi, Option.bind_some]
      rw [i64_in ((text.length : Int) - (at_ : Int)) (by omega), i64_in ((at_ : Int) + (signs[i.toNat].length : Int)) (by omega), i64_in (i + 1) (by omega)]
      have ih' := ih n (i + 1) (by omega) (by omega) (by omega)
      rw [show (i + 1).toNat = i.toNat + 1 by omega, List.length_drop] at ih'
      by_cases hle : signs[i.toNat].length ≤ text.length - at_
      · rw [decide_eq_true (show (text.length : Int) - (at_ : Int) ≥ (signs[i.toNat].length : Int) by omega), cond_true, decide_eq_true hle, Bool.true_and]
        have b1 : (decide ((0 : Int) ≤ (at_ : Int)) && (decide ((at_ : Int) ≤ (at_ : Int) + (signs[i.toNat].length : Int)) && decide ((at_ : Int) + (signs[i.toNat].length : Int) ≤ (text.length : Int)))) = true := by
          simp only [Bool.and_eq_true, decide_eq_true_eq]; omega
        have hd : List.drop (Int.toNat (at_ : Int)) (List.take (Int.toNat ((at_ : Int) + (signs[i.toNat].length : Int))) text) = (text.drop at_).take signs[i.toNat].length := by
          rw [Int.toNat_natCast, show ((at_ : Int) + (signs[i.toNat].length : Int)).toNat = at_ + signs[i.toNat].length by omega, List.drop_take, show at_ + signs[i.toNat].length - at_ = signs[i.toNat].length by omega]
        rw [b1, cond_true, hd]
        cases hq : ((text.drop at_).take signs[i.toNat].length == signs[i.toNat]) with
        | true => simp only [cond_true]
        | false => simp only [cond_false]; exact ih'
      · rw [decide_eq_false (show ¬ (text.length : Int) - (at_ : Int) ≥ (signs[i.toNat].length : Int) by omega), cond_false, decide_eq_false hle, Bool.false_and]
        exact ih'
    · exact fin n i h0 c

theorem find_len (L : List (List UInt8)) (m : Nat) (hL : ∀ s ∈ L, s.length = m) (d : List UInt8) : L.find? (fun s => decide (s.length ≤ d.length) && (d.take s.length == s)) = if m ≤ d.length ∧ L.contains (d.take m) = true then some (d.take m) else none := by
  induction L with
  | nil => simp
  | cons s L ih =>
    have hs := hL s (by simp)
    have ih' := ih (fun x hx => hL x (by simp [hx]))
    rw [List.find?_cons, hs, ih', List.contains_cons]
    by_cases hm : m ≤ d.length
    · rw [decide_eq_true hm, Bool.true_and]
      cases hq : (d.take m == s) with
      | true =>
        have : d.take m = s := by simpa using hq
        rw [this]
        exact (if_pos ⟨hm, rfl⟩).symm
      | false => simp only [Bool.false_or]
    · rw [decide_eq_false hm, Bool.false_and, if_neg (fun h => hm h.1), if_neg (fun h => hm h.1)]

theorem ones_map (b : UInt8) : (ones.map (fun b => [b])).contains [b] = ones.contains b := by
  simp only [ones, List.map_cons, List.map_nil, List.contains_cons, List.contains_nil]
  have : ∀ c : UInt8, ([b] == [c]) = (b == c) := fun c => by
    rw [Bool.eq_iff_iff]
    simp
  simp only [this]

theorem find_sgn (d : List UInt8) : signs.find? (fun s => decide (s.length ≤ d.length) && (d.take s.length == s)) = if sgn d = [] then none else some (sgn d) := by
  unfold signs
  rw [List.find?_append, find_len twos 2 (fun s hs => (twos_ok s hs).1), find_len (ones.map fun b => [b]) 1 (by intro s hs; obtain ⟨b, _, rfl⟩ := List.mem_map.1 hs; rfl)]
  unfold sgn
  by_cases h1 : 1 < d.length ∧ twos.contains (d.take 2) = true
  · have hne : d.take 2 ≠ [] := by
      intro h
      have := congrArg List.length h
      rw [List.length_take, List.length_nil] at this
      omega
    rw [if_pos (show 2 ≤ d.length ∧ twos.contains (d.take 2) = true from ⟨by omega, h1.2⟩), if_pos h1, if_neg hne]
    rfl
  · rw [if_neg (show ¬ (2 ≤ d.length ∧ twos.contains (d.take 2) = true) from fun h => h1 ⟨by omega, h.2⟩), if_neg h1]
    cases d with
    | nil =>
      rw [if_neg (by simp)]
      have : ones.contains (([] : List UInt8).headD 0) = false := by decide
      rw [this]; rfl
    | cons b d =>
      have ht : (b :: d).take 1 = [b] := rfl
      rw [ht, ones_map, List.headD_cons]
      cases ones.contains b with
      | true => rw [if_pos ⟨by simp, rfl⟩]; rfl
      | false => rw [if_neg (by simp)]; rfl

theorem sign2 (text : List UInt8) (at_ : Nat) (ha : at_ ≤ text.length) (ht : text.length ≤ 9000000) : racetreeref02_sign text at_ = some (sgn (text.drop at_)) := by
  rw [racetreeref02_sign, sealF_eq]
  unfold racetreeref02_sign_f
  have hs : racetreeref02_signs = some signs := by rw [racetreeref02_signs, sealF_eq]; rfl
  have hsl : signs.length = 22 := rfl
  rw [hs, Option.bind_some, racetreeref02_sign_l3, sealF_eq, signsL text at_ ha ht 22 fuel 0 (by omega) (by omega) (by unfold fuel; omega), Int.toNat_zero, List.drop_zero, find_sgn]
  by_cases h : sgn (text.drop at_) = []
  · rw [if_pos h, h]; rfl
  · rw [if_neg h]; rfl
end Lift.A1P

/- The document's answer, layer 2: numbers. -/
namespace Lift.A1P
open Go Go.RowKit Lift Go.IntWalk Lift.Fn

def dig (c : UInt8) : Bool := decide (48 ≤ c.toNat ∧ c.toNat ≤ 57)

theorem tens_all : ∀ i : Fin 256, tens.contains (UInt8.ofNat i.val) = dig (UInt8.ofNat i.val) := by decide +kernel
theorem tens_dig (c : UInt8) : tens.contains c = dig c := by
  have := tens_all ⟨c.toNat, c.toNat_lt⟩
  simpa using this

theorem dropWhile_nil {α : Type} {p : α → Bool} : ∀ {l : List α}, l.dropWhile p = [] ↔ l.all p = true
  | [] => by simp
  | a :: l => by
    rw [List.dropWhile_cons, List.all_cons]
    cases p a with
    | true => simp only [if_true, Bool.true_and]; exact dropWhile_nil
    | false => simp

theorem dropWhile_head {α : Type} {p : α → Bool} : ∀ {l : List α} {a : α} {r : List α}, l.dropWhile p = a :: r → p a = false
  | [], _, _, h => by simp at h
  | b :: l, a, r, h => by
    rw [List.dropWhile_cons] at h
    cases hb : p b with
    | true => rw [hb, if_pos rfl] at h; exact dropWhile_head h
    | false =>
      rw [hb, if_neg (by decide)] at h
      cases h
      exact hb

theorem trim_nil (t : List UInt8) : Lib.trimS t tens = [] ↔ t.all dig = true := by
  have hp : (fun c => tens.contains c) = dig := funext tens_dig
  unfold Lib.trimS Lib.trimLeftS Lib.trimRightS
  rw [hp]
  constructor
  · intro h
    rw [dropWhile_nil] at h
    cases hm : t.reverse.dropWhile dig with
    | nil =>
      rw [dropWhile_nil] at hm
      simpa using hm
    | cons a r =>
      have ha := dropWhile_head hm
      rw [hm, List.all_eq_true] at h
      have := h a (by simp)
      rw [ha] at this
      cases this
  · intro h
    have : t.reverse.dropWhile dig = [] := dropWhile_nil.2 (by simpa using h)
    rw [this]
    rfl

/-- The number that digits are, behind one. -/
def dvl : Nat → List UInt8 → Nat
  | acc, [] => acc
  | acc, c :: r => dvl (acc * 10 + (c.toNat - 48)) r

theorem parse_small : ∀ (l : List UInt8) (acc k : Nat), l.all dig = true → acc < 10 ^ k → k + l.length ≤ 18 → Lib.parseUint10 acc l = .ok (dvl acc l) ∧ dvl acc l < 10 ^ (k + l.length)
  | [], acc, k, _, h, _ => ⟨rfl, by rw [List.length_nil, Nat.add_zero]; exact h⟩
  | c :: r, acc, k, ha, h, hk => by
    simp only [List.all_cons, Bool.and_eq_true] at ha
    have hc : 48 ≤ c.toNat ∧ c.toNat ≤ 57 := by simpa [dig] using ha.1
    simp only [List.length_cons] at hk
    have hacc : acc < 100000000000000000 := Nat.lt_of_lt_of_le h (Nat.le_trans (Nat.pow_le_pow_right (by decide) (show k ≤ 17 by omega)) (by decide))
    have h1 : acc * 10 + (c.toNat - 48) < 10 ^ (k + 1) := by rw [Nat.pow_succ]; omega
    clear h
    obtain ⟨q1, q2⟩ := parse_small r (acc * 10 + (c.toNat - 48)) (k + 1) ha.2 h1 (by omega)
    refine ⟨?_, ?_⟩
    · simp only [Lib.parseUint10]
      rw [if_pos hc, if_neg (by omega), if_neg (by omega), q1]
      rfl
    · rw [List.length_cons, show k + (r.length + 1) = k + 1 + r.length by omega]
      exact q2

theorem numberL (t : List UInt8) (ht : t.length ≤ 10) : ∀ (k n : Nat) (i : Int) (acc : Nat), 0 ≤ i → i ≤ t.length → t.length - i.toNat ≤ k → k < n → acc < 10 ^ i.toNat →
    racetreeref02_number_i5 n t (acc : Int) i = some (if (t.drop i.toNat).all dig then .inr ((dvl acc (t.drop i.toNat) : Nat) : Int) else .inl (0, false)) := by
  intro k
  have fin : ∀ (n : Nat) (i : Int) (acc : Nat), 0 ≤ i → ¬ i < t.length → racetreeref02_number_i5 (n + 1) t (acc : Int) i = some (if (t.drop i.toNat).all dig then .inr ((dvl acc (t.drop i.toNat) : Nat) : Int) else .inl (0, false)) := by
    intro n i acc h0 c
    have hd : t.drop i.toNat = [] := List.drop_eq_nil_of_le (by omega)
    rw [hd, List.all_nil, if_pos rfl]
    simp only [racetreeref02_number_i5, racetreeref02_number_t5, c, decide_false, cond_false]
    rfl
  induction k with
  | zero =>
    intro n i acc h0 hi hk hn ha
    obtain ⟨n, rfl⟩ : ∃ q, n = q + 1 := ⟨n - 1, by omega⟩
    exact fin n i acc h0 (by omega)
  | succ k ih =>
    intro n i acc h0 hi hk hn ha
    obtain ⟨n, rfl⟩ : ∃ q, n = q + 1 := ⟨n - 1, by omega⟩
    by_cases c : i < t.length
    · have hx : i.toNat < t.length := by omega
      rw [List.drop_eq_getElem_cons hx, List.all_cons]
      simp only [racetreeref02_number_i5, racetreeref02_number_t5, c, h0, decide_true, cond_true, List.getElem?_eq_getElem hx, Option.bind_some]
      generalize t[i.toNat] = b
      have hb := b.toNat_lt
      by_cases hd : 48 ≤ b.toNat ∧ b.toNat ≤ 57
      · have e1 : dig b = true := by simp [dig, hd]
        have hacc : acc < 1000000000 := Nat.lt_of_lt_of_le ha (Nat.le_trans (Nat.pow_le_pow_right (by decide) (show i.toNat ≤ 9 by omega)) (by decide))
        have ha' : acc * 10 + (b.toNat - 48) < 10 ^ (i.toNat + 1) := by rw [Nat.pow_succ]; omega
        clear ha
        rw [decide_eq_false (show ¬ ((b.toNat : Nat) : Int) < 48 by omega), cond_false, decide_eq_false (show ¬ ((b.toNat : Nat) : Int) > 57 by omega), cond_false, e1, Bool.true_and]
        rw [i64_in ((b.toNat : Nat) : Int) (by omega), i64_in (10 * (acc : Int)) (by omega), i64_in (10 * (acc : Int) + ((b.toNat : Nat) : Int)) (by omega), i64_in (10 * (acc : Int) + ((b.toNat : Nat) : Int) - 48) (by omega), i64_in (i + 1) (by omega)]
        have := ih n (i + 1) (acc * 10 + (b.toNat - 48)) (by omega) (by omega) (by omega) (by omega) (by rw [show (i + 1).toNat = i.toNat + 1 by omega]; exact ha')
        rw [show ((acc * 10 + (b.toNat - 48) : Nat) : Int) = 10 * (acc : Int) + ((b.toNat : Nat) : Int) - 48 by omega, show (i + 1).toNat = i.toNat + 1 by omega] at this
        rw [this]
        rfl
      · have e1 : dig b = false := by simp only [dig, decide_eq_false_iff_not]; exact hd
        rw [e1, Bool.false_and, if_neg (by decide)]
        by_cases h48 : b.toNat < 48
        · rw [decide_eq_true (by omega), cond_true]
        · rw [decide_eq_false (by omega), cond_false, decide_eq_true (by omega), cond_true]
    · exact fin n i acc h0 c

/-- A number, as the document has it. -/
theorem number2 (c : UInt8) (r : List UInt8) (hc : 48 ≤ c.toNat ∧ c.toNat ≤ 57) (hl : (c :: r).length ≤ 9000000) : ∃ n, racetreeref02_number (c :: r) = some (n, (numS (c :: r)).2) ∧ ((numS (c :: r)).2 = true → n = (numS (c :: r)).1) := by
  have main : ¬ (1 < (c :: r).length ∧ c.toNat = 48) → ∃ n, (bif decide ((↑(List.length (c :: r)) : Int) > (10 : Int)) then
          some (((0 : Int)), (false))
        else
          bif (↑(List.length (c :: r)) : Int) == (0 : Int) then
            some (((0 : Int)), (false))
          else
            Option.bind (racetreeref02_number_l5 (c :: r) (0 : Int) (0 : Int)) fun y1 =>
            match y1 with
            | .inl y2 =>
              some ((Prod.fst y2), (Prod.snd y2))
            | .inr y2 =>
              some ((y2), (decide (y2 ≤ (2147483647 : Int))))) = some (n, (numS (c :: r)).2) ∧ ((numS (c :: r)).2 = true → n = (numS (c :: r)).1) := by
    intro hA
    have hN : numS (c :: r) = if Lib.trimS (c :: r) tens ≠ [] then (0, false) else if (atoiOf (c :: r)).2 = true then ((atoiOf (c :: r)).1, false) else ((atoiOf (c :: r)).1, decide ((atoiOf (c :: r)).1 ≤ 2147483647)) := by
      conv => lhs; unfold numS
      rw [if_neg (show ¬ (1 < (c :: r).length ∧ ((c :: r).headD 0).toNat = 48) from hA)]
    rw [hN]
    have e0 : (((c :: r).length : Int) == 0) = false := by rw [beq_eq_false_iff_ne, List.length_cons]; omega
    cases hall : (c :: r).all dig with
    | false =>
      have ht : Lib.trimS (c :: r) tens ≠ [] := fun h => by rw [(trim_nil _).1 h] at hall; cases hall
      rw [if_pos ht]
      refine ⟨0, ?_, fun h => by cases h⟩
      by_cases h10 : (c :: r).length ≤ 10
      · rw [decide_eq_false (by omega), cond_false, e0, cond_false, racetreeref02_number_l5, sealF_eq]
        have := numberL (c :: r) h10 (c :: r).length fuel 0 0 (by omega) (by omega) (by omega) (by unfold fuel; omega) (by simp)
        rw [Int.toNat_zero, List.drop_zero, hall, if_neg (by decide)] at this
        rw [show ((0 : Nat) : Int) = 0 from rfl] at this
        rw [this]
        rfl
      · rw [decide_eq_true (by omega), cond_true]
    | true =>
      have ht : ¬ Lib.trimS (c :: r) tens ≠ [] := fun h => h ((trim_nil _).2 hall)
      rw [if_neg ht]
      have hpm : ¬ (c.toNat = 43 ∨ c.toNat = 45) := by omega
      by_cases h10 : (c :: r).length ≤ 10
      · obtain ⟨p1, p2⟩ := parse_small (c :: r) 0 0 hall (by simp) (by omega)
        have hb : dvl 0 (c :: r) < 10 ^ 10 := Nat.lt_of_lt_of_le p2 (Nat.pow_le_pow_right (by omega) (by omega))
        have e10 : (10 : Nat) ^ 10 = 10000000000 := by decide
        have ha : atoiOf (c :: r) = (((dvl 0 (c :: r) : Nat) : Int), false) := by
          unfold atoiOf Lib.atoiAll
          simp only
          rw [if_neg hpm]
          unfold Lib.parseMag
          rw [if_neg (List.cons_ne_nil _ _), p1]
          simp only
          rw [if_neg (by omega), if_neg (by omega), if_neg (by omega)]
        rw [ha]
        refine ⟨((dvl 0 (c :: r) : Nat) : Int), ?_, fun _ => rfl⟩
        rw [decide_eq_false (by omega), cond_false, e0, cond_false, racetreeref02_number_l5, sealF_eq]
        have := numberL (c :: r) h10 (c :: r).length fuel 0 0 (by omega) (by omega) (by omega) (by unfold fuel; omega) (by simp)
        rw [Int.toNat_zero, List.drop_zero, hall, if_pos rfl] at this
        rw [show ((0 : Nat) : Int) = 0 from rfl] at this
        rw [this]
        rfl
      · -- too long
        rw [decide_eq_true (by omega), cond_true]
        have hf : (if (atoiOf (c :: r)).2 = true then ((atoiOf (c :: r)).1, false) else ((atoiOf (c :: r)).1, decide ((atoiOf (c :: r)).1 ≤ 2147483647))).2 = false := by
          cases ho : (atoiOf (c :: r)).2 with
          | true => rfl
          | false =>
            rw [if_neg (by decide)]
            unfold atoiOf at ho ⊢
            cases hq : Lib.atoiAll (c :: r) with
            | ok v =>
              unfold Lib.atoiAll at hq
              simp only at hq
              rw [if_neg hpm] at hq
              cases hp : Lib.parseMag (c :: r) with
              | ok u =>
                rw [hp] at hq
                simp only at hq
                rw [if_neg (show ¬ (c.toNat = 45 ∧ 9223372036854775808 < u) by omega)] at hq
                split at hq
                · cases hq
                · rw [if_neg (show ¬ c.toNat = 45 by omega)] at hq
                  cases hq
                  have hu := hp
                  unfold Lib.parseMag at hu
                  rw [if_neg (List.cons_ne_nil _ _)] at hu
                  simp only [Lib.parseUint10] at hu
                  rw [if_pos hc] at hu
                  split at hu
                  · cases hu
                  · split at hu
                    · cases hu
                    · have h3 := uint_pow r _ u hu
                      have h4 : 10 ^ 10 ≤ 10 ^ r.length := Nat.pow_le_pow_right (by omega) (by simp only [List.length_cons] at h10; omega)
                      have h48 : c.toNat ≠ 48 := fun hh => hA ⟨by omega, hh⟩
                      have h5 : 1 * 10 ^ r.length ≤ (0 * 10 + (c.toNat - 48)) * 10 ^ r.length := Nat.mul_le_mul_right _ (by omega)
                      have h6 : (10000000000 : Nat) = 10 ^ 10 := by decide
                      simp only
                      rw [decide_eq_false_iff_not]
                      omega
              | range => rw [hp] at hq; cases hq
              | _ => rw [hp] at hq; cases hq
            | range => rw [hq] at ho; cases ho
            | _ => rw [hq] at ho; cases ho
        rw [hf]
        exact ⟨0, rfl, fun h => by cases h⟩
  rw [racetreeref02_number, sealF_eq]
  unfold racetreeref02_number_f
  by_cases h1 : 1 < (c :: r).length
  · rw [decide_eq_true (by omega), cond_true, List.getElem?_cons_zero, Option.bind_some]
    by_cases h2 : c.toNat = 48
    · have e : (((c.toNat : Nat) : Int) == 48) = true := by rw [beq_iff_eq]; omega
      rw [e, cond_true]
      have hN : numS (c :: r) = (0, false) := by
        unfold numS
        rw [if_pos (show 1 < (c :: r).length ∧ ((c :: r).headD 0).toNat = 48 from ⟨h1, h2⟩)]
      rw [hN]
      exact ⟨0, rfl, fun h => by cases h⟩
    · have e : (((c.toNat : Nat) : Int) == 48) = false := by rw [beq_eq_false_iff_ne]; omega
      rw [e, cond_false]
      exact main (fun h => h2 h.2)
  · rw [decide_eq_false (by omega), cond_false]
    exact main (fun h => h1 h.1)
end Lift.A1P

/- The document's answer, layer 2: tokens. -/
namespace Lift.A1P
open Go Go.RowKit Lift Go.IntWalk Lift.Fn

theorem toks_fuel : ∀ (k k' : Nat) (p : Int) (rs : List Int), rs.all Sp.isRune = true → rs.length ≤ k → rs.length ≤ k' → toks k p rs = toks k' p rs
  | k, k', p, [], _, _, _ => by
    have e : ∀ k p, toks k p [] = .inr [] := fun k p => by cases k <;> rfl
    rw [e, e]
  | 0, _, _, r :: rs, _, hk, _ => by simp at hk
  | _ + 1, 0, _, r :: rs, _, _, hk => by simp at hk
  | k + 1, k' + 1, p, r :: rs, ha, hk, hk' => by
    simp only [toks]
    cases hc : ((tokR (r :: rs)).2 != 0) with
    | true => rfl
    | false =>
      have h0 : (tokR (r :: rs)).2 = 0 := by simpa using hc
      obtain ⟨w, hw, hsp⟩ := alone r rs ha h0
      have hR : (restR (r :: rs)).all Sp.isRune = true := all_suffix (ds := w) (by rw [← hsp]; exact ha)
      have hwl : 0 < w.length := List.length_pos_iff.2 hw.1
      have hl := congrArg List.length hsp
      rw [List.length_append, List.length_cons] at hl
      obtain ⟨fs, hfs⟩ := skip_split (restR (r :: rs)) false
      have hsl : (skip false (restR (r :: rs))).length ≤ (restR (r :: rs)).length := by
        have := congrArg List.length hfs
        rw [List.length_append] at this
        omega
      simp only [List.length_cons] at hk hk'
      have hS : (skip false (restR (r :: rs))).all Sp.isRune = true := all_suffix (ds := fs) (by rw [← hfs]; exact hR)
      rw [toks_fuel k k' _ _ hS (by omega) (by omega)]

theorem ifTok {c : Bool} {a b : Token × Int × Int} : (bif c then some a else some b) = some (bif c then a else b) := by cases c <;> rfl

/-- The token that begins at a rune. -/
theorem token2 (ds : List Int) (r : Int) (es : List Int) (ha : (ds ++ r :: es).all Sp.isRune = true) (hl : (encs (ds ++ r :: es)).length ≤ 4000) :
    ∃ (T : Token) (i : Int), racetreeref02_token (put (ds ++ r :: es) s0).1 (encs (ds ++ r :: es)) (ds.length : Int) = some (T, i, (tokR (r :: es)).2) ∧ T.at_ = ((encs ds).length : Int) ∧
      ((tokR (r :: es)).2 = 0 → T = ⟨(tokR (r :: es)).1.kind, (tokR (r :: es)).1.text, (tokR (r :: es)).1.num, ((encs ds).length : Int)⟩ ∧ ∃ w, w ≠ [] ∧ r :: es = w ++ restR (r :: es) ∧ i = (ds.length : Int) + (w.length : Int)) := by
  have har := all_suffix ha
  have har' := har
  simp only [List.all_cons, Bool.and_eq_true] at har'
  obtain ⟨s, h1, h2, h3⟩ := spot_at ds r es
  have hlr := len_runes (ds ++ r :: es)
  have hlen : (encs (ds ++ r :: es)).length = (encs ds).length + (encs (r :: es)).length := by rw [encs_append, List.length_append]
  have hwl := take_len goesR (r :: es)
  rw [racetreeref02_token, sealF_eq]
  unfold racetreeref02_token_f
  rw [decide_eq_true (show (0 : Int) ≤ (ds.length : Int) by omega), cond_true, Int.toNat_natCast, h1, Option.bind_some, letter2, Option.bind_some, digit2, Option.bind_some, h2, cond_true]
  simp only [Option.bind_some, h3]
  cases hg : goesR r with
  | true =>
    have hw : (r :: es).takeWhile goesR ≠ [] := by rw [List.takeWhile_cons, if_pos hg]; exact List.cons_ne_nil _ _
    have hrun := run1 (r :: es) ds (by omega)
    have hpart := part1 ds ((r :: es).takeWhile goesR) ((r :: es).dropWhile goesR) hw
    rw [List.takeWhile_append_dropWhile] at hpart
    have hin := in1 words (encs ((r :: es).takeWhile goesR)) (by decide +kernel)
    have hwrap : IntKind.wrap IntKind.i64 ((ds.length : Int) + (((r :: es).takeWhile goesR).length : Int) - (ds.length : Int)) = (((r :: es).takeWhile goesR).length : Int) := by
      have := len_runes ((r :: es).takeWhile goesR)
      rw [i64_in _ (by omega)]
      omega
    have split : r :: es = (r :: es).takeWhile goesR ++ restR (r :: es) := by
      unfold restR
      rw [List.headD_cons, hg, cond_true, List.takeWhile_append_dropWhile]
    -- both ways to it are one
    have both : ∀ (b : Bool), b = Sp.digit r → ∃ (T : Token) (i : Int), (Option.bind (racetreeref02_run (put (ds ++ r :: es) s0).1 (ds.length : Int)) fun y4 =>
          Option.bind (racetreeref02_part (put (ds ++ r :: es) s0).1 (encs (ds ++ r :: es)) (ds.length : Int) y4) fun y5 =>
          Option.bind (racetreeref02_Words) fun y6 =>
          Option.bind (racetreeref02_In y6 y5) fun y7 =>
          bif b then
            Option.bind (racetreeref02_number y5) fun y8 =>
            bif !Prod.snd y8 then
              some ((Token.mk (0 : Int) y5 (0 : Int) ((encs ds).length : Int)), ((ds.length : Int)), ((22 : Int)))
            else
              some ((Token.mk (2 : Int) y5 (Prod.fst y8) ((encs ds).length : Int)), (y4), ((0 : Int)))
          else
            bif y7 then
              some ((Token.mk (4 : Int) y5 (0 : Int) ((encs ds).length : Int)), (y4), ((0 : Int)))
            else
              bif decide (IntKind.wrap IntKind.i64 (y4 - (ds.length : Int)) > (16 : Int)) then
                some ((Token.mk (0 : Int) y5 (0 : Int) ((encs ds).length : Int)), ((ds.length : Int)), ((21 : Int)))
              else
                some ((Token.mk (1 : Int) y5 (0 : Int) ((encs ds).length : Int)), (y4), ((0 : Int)))) = some (T, i, (tokR (r :: es)).2) ∧ T.at_ = ((encs ds).length : Int) ∧
      ((tokR (r :: es)).2 = 0 → T = ⟨(tokR (r :: es)).1.kind, (tokR (r :: es)).1.text, (tokR (r :: es)).1.num, ((encs ds).length : Int)⟩ ∧ ∃ w, w ≠ [] ∧ r :: es = w ++ restR (r :: es) ∧ i = (ds.length : Int) + (w.length : Int)) := by
      intro b hb
      subst hb
      rw [hrun, Option.bind_some, hpart, Option.bind_some, refWords, Option.bind_some, hin, Option.bind_some, hwrap]
      unfold tokR
      rw [List.headD_cons, hg, cond_true]
      cases hd : Sp.digit r with
      | true =>
        rw [cond_true, cond_true]
        have hda : 48 ≤ r ∧ r ≤ 57 := by simpa [Sp.digit] using hd
        have ht : (r :: es).takeWhile goesR = r :: es.takeWhile goesR := by rw [List.takeWhile_cons, if_pos hg]
        have he : encs ((r :: es).takeWhile goesR) = UInt8.ofNat r.toNat :: encs (es.takeWhile goesR) := by
          rw [ht, encs_cons]
          have : r < 128 := by omega
          simp [encB, bytesOf, Sp.enc, this]
        obtain ⟨n, hn1, hn2⟩ := number2 (UInt8.ofNat r.toNat) (encs (es.takeWhile goesR)) (by rw [toNat_of _ (by omega)]; omega) (by rw [← he]; omega)
        rw [← he] at hn1 hn2
        rw [hn1, Option.bind_some]
        cases hq : (numS (encs ((r :: es).takeWhile goesR))).2 with
        | false => exact ⟨_, _, rfl, rfl, fun h => absurd (show (22 : Int) = 0 from h) (by decide)⟩
        | true =>
          rw [hn2 hq]
          exact ⟨_, _, rfl, rfl, fun _ => ⟨rfl, _, hw, split, rfl⟩⟩
      | false =>
        rw [cond_false, cond_false]
        cases words.contains (encs ((r :: es).takeWhile goesR)) with
        | true => exact ⟨_, _, rfl, rfl, fun _ => ⟨rfl, _, hw, split, rfl⟩⟩
        | false =>
          rw [cond_false, cond_false]
          have : decide ((((r :: es).takeWhile goesR).length : Int) > 16) = decide (16 < ((r :: es).takeWhile goesR).length) := by
            rw [Bool.eq_iff_iff, decide_eq_true_eq, decide_eq_true_eq]; omega
          rw [this]
          cases decide (16 < ((r :: es).takeWhile goesR).length) with
          | true => exact ⟨_, _, rfl, rfl, fun h => absurd (show (21 : Int) = 0 from h) (by decide)⟩
          | false => exact ⟨_, _, rfl, rfl, fun _ => ⟨rfl, _, hw, split, rfl⟩⟩
    cases hL : Sp.letter r with
    | true => rw [cond_true]; exact both _ rfl
    | false =>
      have hd : Sp.digit r = true := by unfold goesR at hg; rw [hL, Bool.false_or] at hg; exact hg
      have := both _ rfl
      rw [hd] at this ⊢
      rw [cond_false, cond_true]
      exact this
  | false =>
    have hL : Sp.letter r = false := by unfold goesR at hg; exact (Bool.or_eq_false_iff.1 hg).1
    have hD : Sp.digit r = false := by unfold goesR at hg; exact (Bool.or_eq_false_iff.1 hg).2
    rw [hL, hD, cond_false, cond_false]
    have hsg := sign2 (encs (ds ++ r :: es)) (encs ds).length (by omega) (by omega)
    rw [encs_drop] at hsg
    rw [hsg, Option.bind_some]
    unfold tokR
    rw [List.headD_cons, hg, cond_false]
    cases hc : (sgn (encs (r :: es)) == []) with
    | true => exact ⟨_, _, rfl, rfl, fun h => absurd (show (20 : Int) = 0 from h) (by decide)⟩
    | false =>
      have hne : sgn (encs (r :: es)) ≠ [] := by simpa using hc
      obtain ⟨q1, q2⟩ := sgn_split r es har hne
      have hsl : (sgn (encs (r :: es))).length ≤ 2 := by
        unfold sgn
        split
        · rw [List.length_take]; omega
        · split
          · rw [List.length_take]; omega
          · simp
      have hle : (sgn (encs (r :: es))).length ≤ (r :: es).length := by
        have := congrArg List.length q1
        have h9 := len_runes ((r :: es).take (sgn (encs (r :: es))).length)
        rcases Nat.lt_or_ge (r :: es).length (sgn (encs (r :: es))).length with hlt | hge
        · -- the letters of so few runes would be more
          exfalso
          have h1 : (r :: es).length = 1 := by simp only [List.length_cons] at hlt ⊢; omega
          have h2 : (sgn (encs (r :: es))).length = 2 := by simp only [List.length_cons] at hlt; omega
          have hes : es = [] := by simp only [List.length_cons] at h1; exact List.eq_nil_of_length_eq_zero (by omega)
          subst hes
          rw [h2] at q1
          have q3 : encs [r] = sgn (encs [r]) := q1
          obtain ⟨b, u, hb⟩ := enc_ne r []
          have hbb : b.toNat < 128 := by
            unfold sgn at q3 h2
            by_cases k1 : 1 < (encs [r]).length ∧ twos.contains ((encs [r]).take 2) = true
            · have hm : (encs [r]).take 2 ∈ twos := by simpa using k1.2
              have := (twos_ok _ hm).2
              rw [hb] at this
              cases u with
              | nil => simp only [List.take_succ_cons, List.take_nil, List.all_cons, List.all_nil, Bool.and_true, decide_eq_true_eq] at this; exact this
              | cons c u => simp only [List.take_succ_cons, List.take_zero, List.all_cons, Bool.and_eq_true, decide_eq_true_eq] at this; exact this.1
            · rw [if_neg k1] at h2
              by_cases k2 : ones.contains ((encs [r]).headD 0) = true
              · rw [if_pos k2, List.length_take] at h2; omega
              · rw [if_neg k2] at h2; simp at h2
          obtain ⟨e1, e2⟩ := ascii_head har'.1 hb hbb
          rw [← q3, encs_cons, e1] at h2
          simp [encs] at h2
        · exact hge
      have hwrap : IntKind.wrap IntKind.i64 ((ds.length : Int) + ((sgn (encs (r :: es))).length : Int)) = (ds.length : Int) + ((sgn (encs (r :: es))).length : Int) := by
        rw [List.length_append] at hlr
        rw [i64_in _ (by omega)]
      rw [hwrap]
      refine ⟨_, _, rfl, rfl, fun _ => ⟨rfl, (r :: es).take (sgn (encs (r :: es))).length, ?_, ?_, ?_⟩⟩
      · intro hh
        have := congrArg List.length hh
        rw [List.length_take, List.length_cons, List.length_nil] at this
        omega
      · unfold restR
        rw [List.headD_cons, hg, cond_false, List.take_append_drop]
      · rw [List.length_take]
        omega
end Lift.A1P

/- The document's answer, layer 2: Tokens, whole. -/
namespace Lift.A1P
open Go Go.RowKit Lift Go.IntWalk Lift.Fn

theorem noteR (text : List UInt8) (a3 a4 : Int) (a5 : List UInt8) (a6 : List Token) : ∀ (es ds : List Int) (n : Nat), es.length < n → (ds ++ es).length ≤ 9000000 →
    racetreeref02_Tokens_i11 n text (put (ds ++ es) s0).1 (ds.length : Int) a3 a4 a5 a6 = some (text, (put (ds ++ es) s0).1, (ds.length : Int) + ((es.takeWhile (fun r => r != 10)).length : Int), a3, a4, a5, a6)
  | [], ds, n, hn, hl => by
    obtain ⟨n, rfl⟩ : ∃ q, n = q + 1 := ⟨n - 1, by simp at hn; omega⟩
    simp only [racetreeref02_Tokens_i11, racetreeref02_Tokens_t11, spots_len, List.append_nil]
    rw [decide_eq_false (by omega), cond_false]
    simp
  | r :: es, ds, n, hn, hl => by
    obtain ⟨n, rfl⟩ : ∃ q, n = q + 1 := ⟨n - 1, by simp at hn; omega⟩
    obtain ⟨s, h1, h2, _⟩ := spot_at ds r es
    simp only [racetreeref02_Tokens_i11, racetreeref02_Tokens_t11, spots_len]
    rw [decide_eq_true (by rw [List.length_append, List.length_cons]; omega), cond_true, decide_eq_true (by omega), cond_true, Int.toNat_natCast, h1, Option.bind_some, h2, List.takeWhile_cons]
    cases hr : (r != 10) with
    | true =>
      rw [List.length_append, List.length_cons] at hl
      have ih := noteR text a3 a4 a5 a6 es (ds ++ [r]) n (by simp at hn; omega) (by rw [List.append_assoc, List.singleton_append, List.length_append, List.length_cons]; omega)
      rw [List.append_assoc, List.singleton_append, List.length_append, List.length_cons, List.length_nil] at ih
      rw [cond_true, i64_in ((ds.length : Int) + 1) (by omega)]
      rw [show ((ds.length + (0 + 1) : Nat) : Int) = (ds.length : Int) + 1 by omega] at ih
      rw [ih, if_pos rfl, List.length_cons]
      congr 4
      omega
    | false =>
      rw [cond_false, if_neg (by decide)]
      simp

theorem skip_true (l : List Int) : skip true l = skip false (l.dropWhile (fun r => r != 10)) := by
  induction l with
  | nil => rfl
  | cons r l ih =>
    rw [List.dropWhile_cons]
    simp only [skip]
    cases hr : (r != 10) with
    | true => rw [if_pos rfl]; exact ih
    | false =>
      have : r = 10 := by simpa using hr
      subst this
      rw [if_neg (by decide)]
      simp only [skip]
      rw [if_neg (by decide), if_pos (by decide)]

theorem tokensR (a3 a4 : Int) (a5 : List UInt8) : ∀ (k n : Nat) (es ds : List Int) (out : List Token), es.length ≤ k → k < n → (ds ++ es).all Sp.isRune = true → (encs (ds ++ es)).length ≤ 4000 → out.length ≤ ds.length →
    racetreeref02_Tokens_i6 n (encs (ds ++ es)) (put (ds ++ es) s0).1 (ds.length : Int) a3 a4 a5 out =
      some (match toks es.length (((encs ds).length : Int) + ((encs es).length : Int) - ((encs (skip false es)).length : Int)) (skip false es) with | .inl e => .inl (e.1, e.2, []) | .inr l => .inr (encs (ds ++ es), a3, a4, a5, out ++ l)) := by
  intro k
  have fin : ∀ (n : Nat) (ds : List Int) (out : List Token), racetreeref02_Tokens_i6 (n + 1) (encs (ds ++ [])) (put (ds ++ []) s0).1 (ds.length : Int) a3 a4 a5 out =
      some (match toks ([] : List Int).length (((encs ds).length : Int) + ((encs []).length : Int) - ((encs (skip false [])).length : Int)) (skip false []) with | .inl e => .inl (e.1, e.2, []) | .inr l => .inr (encs (ds ++ []), a3, a4, a5, out ++ l)) := by
    intro n ds out
    simp only [racetreeref02_Tokens_i6, racetreeref02_Tokens_t6, spots_len, List.append_nil]
    rw [decide_eq_false (by omega), cond_false]
    simp only [skip, List.length_nil, toks, List.append_nil]
  induction k with
  | zero =>
    intro n es ds out hk hn ha hl ho
    obtain ⟨n, rfl⟩ : ∃ q, n = q + 1 := ⟨n - 1, by omega⟩
    match es, hk with
    | [], _ => exact fin n ds out
  | succ k ih =>
    intro n es ds out hk hn ha hl ho
    obtain ⟨n, rfl⟩ : ∃ q, n = q + 1 := ⟨n - 1, by omega⟩
    match es, hk, ha, hl with
    | [], _, _, _ => exact fin n ds out
    | r :: es, hk, ha, hl =>
      have har := all_suffix ha
      have har' := har
      simp only [List.all_cons, Bool.and_eq_true] at har'
      obtain ⟨s, h1, h2, h3⟩ := spot_at ds r es
      have hlr := len_runes (ds ++ r :: es)
      rw [List.length_append, List.length_cons] at hlr
      have hlen : (encs (ds ++ r :: es)).length = (encs ds).length + (encs (r :: es)).length := by rw [encs_append, List.length_append]
      have hone : (encs (r :: es)).length = (encB r).length + (encs es).length := by rw [encs_cons, List.length_append]
      have hds1 : (encs (ds ++ [r])).length = (encs ds).length + (encB r).length := by rw [encs_append, List.length_append, encs_cons, List.length_append]; simp [encs]
      simp only [List.length_cons] at hk
      simp only [racetreeref02_Tokens_i6, racetreeref02_Tokens_t6, spots_len]
      rw [decide_eq_true (by rw [List.length_append, List.length_cons]; omega), cond_true, decide_eq_true (by omega), cond_true, Int.toNat_natCast, h1, Option.bind_some, h2, blank2, Option.bind_some]
      simp only [Option.bind_some, h2, cond_true]
      cases hb : Sp.blank r with
      | true =>
        have h35 : r ≠ 35 := by intro h; subst h; exact absurd hb (by decide)
        have hsk : skip false (r :: es) = skip false es := by simp only [skip]; rw [if_neg h35, if_pos hb]
        have i1 := ih n es (ds ++ [r]) out (by omega) (by omega) (by rw [List.append_assoc, List.singleton_append]; exact ha) (by rw [List.append_assoc, List.singleton_append]; exact hl) (by rw [List.length_append]; omega)
        rw [List.append_assoc, List.singleton_append, List.length_append, List.length_cons, List.length_nil] at i1
        rw [cond_true, i64_in ((ds.length : Int) + 1) (by omega), hsk]
        rw [show ((ds.length + (0 + 1) : Nat) : Int) = (ds.length : Int) + 1 by omega, hds1] at i1
        rw [i1, hone, List.length_cons]
        have hS : (skip false es).all Sp.isRune = true := by
          obtain ⟨fs, hfs⟩ := skip_split es false
          exact all_suffix (ds := fs) (by rw [← hfs]; exact har'.2)
        have hsl : (skip false es).length ≤ es.length := by
          obtain ⟨fs, hfs⟩ := skip_split es false
          have := congrArg List.length hfs
          rw [List.length_append] at this
          omega
        rw [toks_fuel (es.length + 1) es.length _ _ hS (by omega) hsl]
        rw [show (((encs ds).length + (encB r).length : Nat) : Int) + ((encs es).length : Int) - ((encs (skip false es)).length : Int) = ((encs ds).length : Int) + (((encB r).length + (encs es).length : Nat) : Int) - ((encs (skip false es)).length : Int) by omega]
      | false =>
        rw [cond_false]
        by_cases h35 : r = 35
        · subst h35
          have e35 : ((35 : Int) == 35) = true := by decide
          rw [e35, cond_true, racetreeref02_Tokens_l11, sealF_eq, noteR (encs (ds ++ 35 :: es)) a3 a4 a5 out (35 :: es) ds fuel (by simp only [List.length_cons]; unfold fuel; omega) (by rw [List.length_append, List.length_cons]; omega), Option.bind_some]
          simp only
          have htd := List.takeWhile_append_dropWhile (p := fun r : Int => r != 10) (l := 35 :: es)
          have ht1 : 0 < ((35 :: es).takeWhile (fun r : Int => r != 10)).length := by
            rw [List.takeWhile_cons, if_pos (by decide)]; simp
          have hll := congrArg List.length htd
          rw [List.length_append, List.length_cons] at hll
          have hdd : (ds ++ (35 :: es).takeWhile (fun r : Int => r != 10)) ++ (35 :: es).dropWhile (fun r : Int => r != 10) = ds ++ 35 :: es := by rw [List.append_assoc, htd]
          have i1 := ih n ((35 :: es).dropWhile (fun r : Int => r != 10)) (ds ++ (35 :: es).takeWhile (fun r : Int => r != 10)) out (by omega) (by omega) (by rw [hdd]; exact ha) (by rw [hdd]; exact hl) (by rw [List.length_append]; omega)
          rw [hdd, List.length_append] at i1
          rw [show ((ds.length + ((35 :: es).takeWhile (fun r : Int => r != 10)).length : Nat) : Int) = (ds.length : Int) + (((35 :: es).takeWhile (fun r : Int => r != 10)).length : Int) by omega] at i1
          rw [i1]
          have hsk : skip false (35 :: es) = skip false ((35 :: es).dropWhile (fun r : Int => r != 10)) := by
            rw [← skip_true]
            simp only [skip]
            rw [if_pos trivial]
            have : ((35 : Int) != 10) = true := by decide
            rw [this]
          have hle : (encs (35 :: es)).length = (encs ((35 :: es).takeWhile (fun r : Int => r != 10))).length + (encs ((35 :: es).dropWhile (fun r : Int => r != 10))).length := by
            conv => lhs; rw [← htd]
            rw [encs_append, List.length_append]
          have hde : (encs (ds ++ (35 :: es).takeWhile (fun r : Int => r != 10))).length = (encs ds).length + (encs ((35 :: es).takeWhile (fun r : Int => r != 10))).length := by rw [encs_append, List.length_append]
          have hD : ((35 :: es).dropWhile (fun r : Int => r != 10)).all Sp.isRune = true := all_suffix (ds := (35 :: es).takeWhile (fun r : Int => r != 10)) (by rw [htd]; exact har)
          have hS : (skip false ((35 :: es).dropWhile (fun r : Int => r != 10))).all Sp.isRune = true := by
            obtain ⟨fs, hfs⟩ := skip_split ((35 :: es).dropWhile (fun r : Int => r != 10)) false
            exact all_suffix (ds := fs) (by rw [← hfs]; exact hD)
          have hsl : (skip false ((35 :: es).dropWhile (fun r : Int => r != 10))).length ≤ ((35 :: es).dropWhile (fun r : Int => r != 10)).length := by
            obtain ⟨fs, hfs⟩ := skip_split ((35 :: es).dropWhile (fun r : Int => r != 10)) false
            have := congrArg List.length hfs
            rw [List.length_append] at this
            omega
          rw [hsk, hde, hle, toks_fuel (35 :: es).length ((35 :: es).dropWhile (fun r : Int => r != 10)).length _ _ hS (by simp only [List.length_cons]; omega) hsl]
          rw [show (((encs ds).length + (encs ((35 :: es).takeWhile (fun r : Int => r != 10))).length : Nat) : Int) + ((encs ((35 :: es).dropWhile (fun r : Int => r != 10))).length : Int) = ((encs ds).length : Int) + (((encs ((35 :: es).takeWhile (fun r : Int => r != 10))).length + (encs ((35 :: es).dropWhile (fun r : Int => r != 10))).length : Nat) : Int) by omega]
        · have e35 : (r == 35) = false := by simp [h35]
          have hsk : skip false (r :: es) = r :: es := by simp [skip, h35, hb]
          obtain ⟨T, i, t1, t2, t3⟩ := token2 ds r es ha hl
          rw [e35, cond_false, t1, Option.bind_some, hsk, show (r :: es).length = es.length + 1 from rfl]
          simp only [toks]
          cases hc : ((tokR (r :: es)).2 != 0) with
          | true =>
            have e : ((encs ds).length : Int) + ((encs (r :: es)).length : Int) - ((encs (r :: es)).length : Int) = ((encs ds).length : Int) := by omega
            rw [cond_true, cond_true, t2, e]
          | false =>
            have h0 : (tokR (r :: es)).2 = 0 := by simpa using hc
            obtain ⟨t4, w, hw, hsp, t5⟩ := t3 h0
            rw [cond_false, cond_false, decide_eq_true (by simp only [List.length_cons, List.length_nil]; omega), cond_true]
            have hll := congrArg List.length hsp
            rw [List.length_append, List.length_cons] at hll
            have hwl : 0 < w.length := List.length_pos_iff.2 hw
            have hww : w.length ≤ es.length + 1 := by omega
            have hde : (encs (ds ++ w)).length = (encs ds).length + (encs w).length := by rw [encs_append, List.length_append]
            have hle : (encs (r :: es)).length = (encs w).length + (encs (restR (r :: es))).length := by
              conv => lhs; rw [hsp]
              rw [encs_append, List.length_append]
            have hdd : (ds ++ w) ++ restR (r :: es) = ds ++ r :: es := by rw [List.append_assoc, ← hsp]
            have i1 := ih n (restR (r :: es)) (ds ++ w) (out ++ [⟨T.kind, T.text, T.num, T.at_⟩]) (by omega) (by omega) (by rw [hdd]; exact ha) (by rw [hdd]; exact hl) (by simp only [List.length_append, List.length_cons, List.length_nil]; omega)
            rw [hdd, List.length_append] at i1
            rw [show ((ds.length + w.length : Nat) : Int) = i by rw [t5]; omega] at i1
            rw [i1]
            have hR : (restR (r :: es)).all Sp.isRune = true := all_suffix (ds := w) (by rw [← hsp]; exact har)
            have hS : (skip false (restR (r :: es))).all Sp.isRune = true := by
              obtain ⟨fs, hfs⟩ := skip_split (restR (r :: es)) false
              exact all_suffix (ds := fs) (by rw [← hfs]; exact hR)
            have hsl : (skip false (restR (r :: es))).length ≤ (restR (r :: es)).length := by
              obtain ⟨fs, hfs⟩ := skip_split (restR (r :: es)) false
              have := congrArg List.length hfs
              rw [List.length_append] at this
              omega
            rw [toks_fuel (restR (r :: es)).length es.length _ _ hS hsl (by omega), hde]
            rw [show (((encs ds).length + (encs w).length : Nat) : Int) + ((encs (restR (r :: es))).length : Int) - ((encs (skip false (restR (r :: es)))).length : Int) =
              ((encs ds).length : Int) + ((encs (r :: es)).length : Int) - ((encs (r :: es)).length : Int) + ((encs (r :: es)).length : Int) - ((encs (skip false (restR (r :: es)))).length : Int) by omega]
            rw [show ((encs ds).length : Int) + ((encs (r :: es)).length : Int) - ((encs (r :: es)).length : Int) = ((encs ds).length : Int) by omega]
            cases toks es.length (((encs ds).length : Int) + ((encs (r :: es)).length : Int) - ((encs (skip false (restR (r :: es)))).length : Int)) (skip false (restR (r :: es))) with
            | inl e => rfl
            | inr l => simp only [List.append_assoc, List.singleton_append]; rw [t4]

/-- THE DOCUMENT's TOKENS ARE THE PROGRAM's. -/
theorem tokens2 (t : List UInt8) : racetreeref02_Tokens t = lex_Tokens t := by
  rcases runes_cases t with ⟨h1, h2⟩ | ⟨h0, rs, rest, _, _, _, _, h1, h2⟩ | ⟨h0, rs, rfl, ha, h1, h2⟩
  · rw [tokens_bad t (by rw [h2]; decide), racetreeref02_Tokens, sealF_eq]
    unfold racetreeref02_Tokens_f
    rw [runes2_, Option.bind_some, h2]
    rfl
  · rw [tokens_bad t (by rw [h2]; show (11 : Int) ≠ 0; decide), racetreeref02_Tokens, sealF_eq]
    unfold racetreeref02_Tokens_f
    rw [runes2_, Option.bind_some, h2]
    rfl
  · obtain ⟨q1, q2⟩ := runes_ok rs ha h0
    have hlr := len_runes rs
    have hR := tokensR 0 0 [] rs.length fuel rs [] [] (Nat.le_refl _) (by unfold fuel; omega) ha h0 (by simp)
    simp only [List.nil_append, List.length_nil] at hR
    rw [tokens1 rs ha h0, racetreeref02_Tokens, sealF_eq]
    unfold racetreeref02_Tokens_f
    rw [runes2_, Option.bind_some, q1, q2]
    simp only [bne_self_eq_false, cond_false]
    rw [racetreeref02_Tokens_l6, sealF_eq]
    rw [show ((0 : Nat) : Int) = 0 from rfl] at hR
    rw [hR, Option.bind_some]
    have e : ((encs ([] : List Int)).length : Int) + ((encs rs).length : Int) - ((encs (skip false rs)).length : Int) = ((encs rs).length : Int) - ((encs (skip false rs)).length : Int) := by simp [encs]
    rw [e]
    have hS : (skip false rs).all Sp.isRune = true := by
      obtain ⟨fs, hfs⟩ := skip_split rs false
      exact all_suffix (ds := fs) (by rw [← hfs]; exact ha)
    have hsl : (skip false rs).length ≤ rs.length := by
      obtain ⟨fs, hfs⟩ := skip_split rs false
      have := congrArg List.length hfs
      rw [List.length_append] at this
      omega
    cases ht : toks rs.length (((encs rs).length : Int) - ((encs (skip false rs)).length : Int)) (skip false rs) with
    | inl e => rfl
    | inr l =>
      have := toks_len _ _ _ hS l ht
      simp only
      rw [decide_eq_true (by simp only [List.length_cons, List.length_nil]; omega), cond_true]

/-- Held against itself. -/
theorem sameSelfL (a : List Token) (b : Bool) (ha : a.length ≤ 9000000) : ∀ (k n : Nat) (i : Int), 0 ≤ i → a.length - i.toNat ≤ k → k < n → racetreelaw02_same_i4 n a a b i = some (.inr ()) := by
  intro k
  have fin : ∀ (n : Nat) (i : Int), 0 ≤ i → ¬ i < a.length → racetreelaw02_same_i4 (n + 1) a a b i = some (.inr ()) := by
    intro n i h0 c
    simp only [racetreelaw02_same_i4, racetreelaw02_same_t4, c, decide_false, cond_false]
  induction k with
  | zero =>
    intro n i h0 hk hn
    obtain ⟨n, rfl⟩ : ∃ q, n = q + 1 := ⟨n - 1, by omega⟩
    exact fin n i h0 (by omega)
  | succ k ih =>
    intro n i h0 hk hn
    obtain ⟨n, rfl⟩ : ∃ q, n = q + 1 := ⟨n - 1, by omega⟩
    by_cases c : i < a.length
    · have h1 : i.toNat < a.length := by omega
      have ih' := ih n (i + 1) (by omega) (by omega) (by omega)
      simp only [racetreelaw02_same_i4, racetreelaw02_same_t4, c, h0, decide_true, cond_true, List.getElem?_eq_getElem h1, Option.bind_some, bne_self_eq_false, beq_self_eq_true, Bool.not_true, cond_false]
      rw [i64_in (i + 1) (by omega)]
      cases b <;> simp only [cond_true, cond_false] <;> exact ih'
    · exact fin n i h0 c

theorem sameSelf (a : List Token) (b : Bool) (ha : a.length ≤ 9000000) : racetreelaw02_same a a b = some true := by
  rw [racetreelaw02_same, sealF_eq]
  unfold racetreelaw02_same_f
  rw [bne_self_eq_false, cond_false, racetreelaw02_same_l4, sealF_eq, sameSelfL a b ha a.length fuel 0 (by omega) (by omega) (by unfold fuel; omega), Option.bind_some]

theorem markL (x0 : List UInt8) (x1 x2 : Bool) (x4 x5 : Int) (x6 : List UInt8) (x7 x8 : Int) (x9 : List UInt8) (x10 : List Token) : ∀ (k n : Nat) (i : Int) (l : List Token), 0 ≤ i → l.length ≤ 9000000 → l.length - i.toNat ≤ k → k < n →
    ∃ l', l'.length = l.length ∧ racetreelaw02_LexTokens_i6 n x0 x1 x2 i x4 x5 x6 x7 x8 x9 x10 l = some (x0, x1, x2, x4, x5, x6, x7, x8, x9, x10, l') := by
  intro k
  have fin : ∀ (n : Nat) (i : Int) (l : List Token), ¬ i < l.length → ∃ l', l'.length = l.length ∧ racetreelaw02_LexTokens_i6 (n + 1) x0 x1 x2 i x4 x5 x6 x7 x8 x9 x10 l = some (x0, x1, x2, x4, x5, x6, x7, x8, x9, x10, l') := by
    intro n i l c
    exact ⟨l, rfl, by simp only [racetreelaw02_LexTokens_i6, racetreelaw02_LexTokens_t6, c, decide_false, cond_false]⟩
  induction k with
  | zero =>
    intro n i l h0 hl hk hn
    obtain ⟨n, rfl⟩ : ∃ q, n = q + 1 := ⟨n - 1, by omega⟩
    exact fin n i l (by omega)
  | succ k ih =>
    intro n i l h0 hl hk hn
    obtain ⟨n, rfl⟩ : ∃ q, n = q + 1 := ⟨n - 1, by omega⟩
    by_cases c : i < l.length
    · have h1 : i.toNat < l.length := by omega
      simp only [racetreelaw02_LexTokens_i6, racetreelaw02_LexTokens_t6, c, h0, decide_true, cond_true, Bool.and_self, List.getElem?_eq_getElem h1, Option.bind_some]
      rw [i64_in (i + 1) (by omega)]
      obtain ⟨l', q1, q2⟩ := ih n (i + 1) (l.set i.toNat ⟨-77, [], 0, 0⟩) (by omega) (by rw [List.length_set]; exact hl) (by rw [List.length_set]; omega) (by omega)
      exact ⟨l', by rw [q1, List.length_set], q2⟩
    · exact fin n i l c

theorem tokens_any (t : List UInt8) : ∃ f l, lex_Tokens t = some (f, l) ∧ l.length ≤ 4001 := by
  rcases runes_cases t with ⟨h1, h2⟩ | ⟨h0, rs, rest, _, _, _, _, h1, h2⟩ | ⟨h0, rs, rfl, ha, h1, h2⟩
  · rw [tokens_bad t (by rw [h2]; decide)]; exact ⟨_, _, rfl, by simp⟩
  · rw [tokens_bad t (by rw [h2]; show (11 : Int) ≠ 0; decide)]; exact ⟨_, _, rfl, by simp⟩
  · rw [tokens1 rs ha h0]
    have hlr := len_runes rs
    have hS : (skip false rs).all Sp.isRune = true := by
      obtain ⟨fs, hfs⟩ := skip_split rs false
      exact all_suffix (ds := fs) (by rw [← hfs]; exact ha)
    have hsl : (skip false rs).length ≤ rs.length := by
      obtain ⟨fs, hfs⟩ := skip_split rs false
      have := congrArg List.length hfs
      rw [List.length_append] at this
      omega
    cases ht : toks rs.length (((encs rs).length : Int) - ((encs (skip false rs)).length : Int)) (skip false rs) with
    | inl e => exact ⟨_, _, rfl, by simp⟩
    | inr l =>
      have := toks_len _ _ _ hS l ht
      exact ⟨_, _, rfl, by rw [List.length_append, List.length_cons, List.length_nil]; omega⟩

theorem lexTokens1 (t : List UInt8) : racetreelaw02_LexTokens t = some true := by
  obtain ⟨f, l, h1, h2⟩ := tokens_any t
  obtain ⟨l', q1, q2⟩ := markL t true true f.code f.at_ f.name f.code f.at_ f.name l l.length fuel 0 l (by omega) (by omega) (by omega) (by unfold fuel; omega)
  rw [racetreelaw02_LexTokens, sealF_eq]
  unfold racetreelaw02_LexTokens_f
  rw [lexShown, Option.bind_some, tokens2, h1, Option.bind_some, Option.bind_some]
  simp only
  rw [sameSelf l true (by omega), Option.bind_some, racetreelaw02_LexTokens_l6, sealF_eq, q2, Option.bind_some]
  simp only
  rw [decide_eq_true (by omega), cond_true, h1, Option.bind_some]
  simp only
  rw [sameSelf l true (by omega), Option.bind_some]
  simp only [decide_true, cond_true]
  have hlen : (l' ++ [(⟨-78, [], 0, 0⟩ : Token), ⟨-79, [], 0, 0⟩]).length = l'.length + 2 := by simp
  rw [hlen, i64_in (((l'.length + 2 : Nat) : Int) - 1) (by omega)]
  rw [show (decide ((0 : Int) ≤ ((l'.length + 2 : Nat) : Int) - 1) && decide (((l'.length + 2 : Nat) : Int) - 1 < ((l'.length + 2 : Nat) : Int))) = true by simp only [Bool.and_eq_true, decide_eq_true_eq]; omega]
  rw [cond_true, show (((l'.length + 2 : Nat) : Int) - 1).toNat = l'.length + 1 by omega, List.getElem?_append_right (by omega), show l'.length + 1 - l'.length = 1 by omega]
  rfl
end Lift.A1P

/- The document's answer, layer 2: Join; LexJoins answers true. -/
namespace Lift.A1P
open Go Go.RowKit Lift Go.IntWalk Lift.Fn

theorem skip_lenS (l : List Int) : (skip false l).length ≤ l.length := by
  obtain ⟨fs, hfs⟩ := skip_split l false
  have := congrArg List.length hfs
  rw [List.length_append] at this
  omega

/-- A token fits just if its text's tokens are it, and the end. -/
theorem fitT (t : Token) (h64 : t.text.length ≤ 64) : ∃ f l, lex_Tokens t.text = some (f, l) ∧
    (fitsB t = true ↔ f.code = 0 ∧ l.length = 2 ∧ ∃ y, l[0]? = some y ∧ y.kind = t.kind ∧ y.text = t.text ∧ y.num = t.num) := by
  rcases runes_cases t.text with ⟨h1, h2⟩ | ⟨h0, rs, rest, _, _, _, _, h1, h2⟩ | ⟨h0, rs, hrs, ha, h1, h2⟩
  · refine ⟨_, _, tokens_bad t.text (by rw [h2]; decide), ⟨fun h => ?_, fun h => ?_⟩⟩
    · obtain ⟨_, w, _, w2, _, w4⟩ := (fitsB_iff t).1 h
      have w4 : t.text = encs w := w4
      rw [w4] at h2 h64
      have := (runes_ok w w2 (by omega)).2
      rw [this] at h2
      cases h2
    · rw [h2] at h; exact absurd h.1 (by decide)
  · refine ⟨_, _, tokens_bad t.text (by rw [h2]; show (11 : Int) ≠ 0; decide), ⟨fun h => ?_, fun h => ?_⟩⟩
    · obtain ⟨_, w, _, w2, _, w4⟩ := (fitsB_iff t).1 h
      have w4 : t.text = encs w := w4
      rw [w4] at h2 h64
      have := (runes_ok w w2 (by omega)).2
      rw [this] at h2
      have := congrArg Fault.code h2
      exact absurd this (show (0 : Int) ≠ 11 by decide)
    · rw [h2] at h; exact absurd h.1 (show (11 : Int) ≠ 0 by decide)
  · rw [hrs] at h0 h64
    rw [hrs, tokens1 rs ha h0]
    have hnil : ∀ k p, toks k p [] = .inr [] := fun k p => by cases k <;> rfl
    refine ⟨_, _, rfl, ⟨fun h => ?_, fun h => ?_⟩⟩
    · obtain ⟨_, w, w1, w2, w3, w4⟩ := (fitsB_iff t).1 h
      have w4 : t.text = encs w := w4
      have hw : whole w ⟨t.kind, t.text, t.num, 0⟩ := ⟨w1, w2, w3, w4⟩
      -- the runes are the same
      have hst : tokR rs = tokR w ∧ rs = w := by
        have e1 := (runes_ok rs ha h0).1
        have e2 := (runes_ok w w2 (by rw [← w4, hrs]; exact h0)).1
        rw [← hrs, w4, e2] at e1
        have := congrArg (fun l => l.map (·.rune)) e1
        simp only [put_rune] at this
        exact ⟨by rw [this], this.symm⟩
      obtain ⟨_, rfl⟩ := hst
      have hsk := head_ok hw []
      rw [List.append_nil] at hsk
      have hr := rest_whole hw
      rw [hsk]
      obtain ⟨a, w', rfl⟩ : ∃ a w', rs = a :: w' := by
        cases rs with
        | nil => exact absurd rfl w1
        | cons a w' => exact ⟨a, w', rfl⟩
      simp only [List.length_cons, toks, w3, hr, skip, hnil, bne_self_eq_false, cond_false]
      exact ⟨by trivial, by rfl, _, rfl, rfl, by first | rfl | exact hrs.symm | exact hrs, rfl⟩
    · obtain ⟨hc, hlen, y, hy, hk, htx, hn⟩ := h
      cases ht : toks rs.length (((encs rs).length : Int) - ((encs (skip false rs)).length : Int)) (skip false rs) with
      | inl e =>
        rw [ht] at hc
        exact absurd hc (toks_err _ _ _ _ ht)
      | inr l =>
        rw [ht] at hlen hy
        simp only [List.length_append, List.length_cons, List.length_nil] at hlen
        obtain ⟨fs, hfs⟩ := skip_split rs false
        cases hS : skip false rs with
        | nil => rw [hS, hnil] at ht; cases ht; simp at hlen
        | cons r S' =>
          rw [hS] at ht hfs
          have haS : (r :: S').all Sp.isRune = true := all_suffix (ds := fs) (by rw [← hfs]; exact ha)
          obtain ⟨k, hk'⟩ : ∃ k, rs.length = k + 1 := ⟨rs.length - 1, by have := congrArg List.length hfs; simp only [List.length_append, List.length_cons] at this; omega⟩
          rw [hk'] at ht
          simp only [toks] at ht
          cases hcc : ((tokR (r :: S')).2 != 0) with
          | true => rw [hcc] at ht; cases ht
          | false =>
            rw [hcc] at ht
            have h00 : (tokR (r :: S')).2 = 0 := by simpa using hcc
            obtain ⟨w, hw, hsp⟩ := alone r S' haS h00
            simp only [cond_false] at ht
            split at ht
            · cases ht
            · rename_i l' hl'
              simp only [Sum.inr.injEq] at ht
              subst ht
              have hy' := hy
              simp only [List.cons_append, List.getElem?_cons_zero, Option.some.injEq] at hy'
              subst hy'
              simp only at hk htx hn
              have hwt := hw.2.2.2
              have hsum : (encs rs).length = (encs fs).length + ((encs w).length + (encs (restR (r :: S'))).length) := by
                conv => lhs; rw [hfs, hsp]
                rw [encs_append, encs_append, List.length_append, List.length_append]
              have hte : encs rs = encs w := by rw [← htx, hwt]
              have hfs0 : fs = [] := encs_nil (List.eq_nil_of_length_eq_zero (by rw [hte] at hsum; omega))
              have hrest0 : restR (r :: S') = [] := encs_nil (List.eq_nil_of_length_eq_zero (by rw [hte] at hsum; omega))
              rw [fitsB_iff]
              refine ⟨by rw [hrs]; exact h64, w, ?_⟩
              have hat := tok_at (r :: S')
              have : (⟨t.kind, t.text, t.num, 0⟩ : Token) = (tokR (r :: S')).1 := by rw [← hk, hrs, ← htx, ← hn, ← hat]
              rw [this]
              exact hw

theorem get_mid (pre : List Token) (t : Token) (r : List Token) : (pre ++ t :: r)[Int.toNat ((pre.length : Nat) : Int)]? = some t := by
  rw [Int.toNat_natCast, List.getElem?_append_right (Nat.le_refl _)]
  simp

/-- Is a token the last one? -/
def lastB (x : Token) : Bool := x.kind == 5 && (x.text == [] && x.num == 0)

theorem mayL (x : Token) : ∀ (r pre : List Token) (n : Nat), r.length < n → (pre ++ r).length ≤ 9000000 →
    racetreeref02_may_i2 n (pre ++ (r ++ [x])) (pre.length : Int) = some (.inl (r.all fitsB && lastB x))
  | [], pre, n, hn, hl => by
    obtain ⟨n, rfl⟩ : ∃ q, n = q + 1 := ⟨n - 1, by simp at hn; omega⟩
    have hg := get_mid pre x []
    have hlen : (pre ++ [x]).length = pre.length + 1 := by simp
    rw [List.length_append, List.length_nil] at hl
    simp only [racetreeref02_may_i2, racetreeref02_may_t2, List.nil_append, hlen]
    rw [decide_eq_true (by omega), cond_true, decide_eq_true (by omega), cond_true, hg, Option.bind_some, i64_in (((pre.length + 1 : Nat) : Int) - 1) (by omega)]
    have : ((pre.length : Int) == ((pre.length + 1 : Nat) : Int) - 1) = true := by rw [beq_iff_eq]; omega
    rw [this, cond_true, List.all_nil, Bool.true_and]
    unfold lastB
    cases x.kind == 5 <;> cases x.text == [] <;> rfl
  | t :: r, pre, n, hn, hl => by
    obtain ⟨n, rfl⟩ : ∃ q, n = q + 1 := ⟨n - 1, by simp at hn; omega⟩
    have hg := get_mid pre t (r ++ [x])
    have hlen : (pre ++ (t :: r ++ [x])).length = pre.length + (r.length + 2) := by simp only [List.length_append, List.length_cons, List.length_nil]
    have hl' := hl
    rw [List.length_append, List.length_cons] at hl'
    have ih := mayL x r (pre ++ [t]) n (by simp at hn; omega) (by rw [List.append_assoc]; exact hl)
    rw [List.append_assoc, List.singleton_append, List.length_append, List.length_cons, List.length_nil, show ((pre.length + (0 + 1) : Nat) : Int) = (pre.length : Int) + 1 by omega] at ih
    simp only [racetreeref02_may_i2, racetreeref02_may_t2, hlen]
    rw [List.cons_append] at *
    rw [decide_eq_true (by omega), cond_true, decide_eq_true (by omega), cond_true, hg, Option.bind_some, i64_in (((pre.length + (r.length + 2) : Nat) : Int) - 1) (by omega)]
    have : ((pre.length : Int) == ((pre.length + (r.length + 2) : Nat) : Int) - 1) = false := by rw [beq_eq_false_iff_ne]; omega
    rw [this, cond_false, List.all_cons]
    by_cases h64 : t.text.length ≤ 64
    · obtain ⟨f, l, e1, e2⟩ := fitT t h64
      rw [decide_eq_false (by omega), cond_false, tokens2, e1, Option.bind_some]
      simp only
      cases hf : fitsB t with
      | true =>
        obtain ⟨c1, c2, y, c3, c4, c5, c6⟩ := e2.1 hf
        have b1 : (f.code != 0) = false := by simp [c1]
        have b2 : ((l.length : Int) != 2) = false := by rw [c2]; rfl
        have b3 : (decide ((0 : Int) ≤ 0) && decide ((0 : Int) < (l.length : Int))) = true := by rw [c2]; rfl
        have b4 : (y.kind != t.kind) = false := by simp [c4]
        have b5 : (y.text == t.text) = true := by simp [c5]
        have b6 : (y.num != t.num) = false := by simp [c6]
        simp only [b1, b2, b3, b4, b5, b6, c3, cond_false, cond_true, Option.bind_some, Bool.not_true]
        rw [i64_in ((pre.length : Int) + 1) (by omega), ih]
        rfl
      | false =>
        have hno : ¬ (f.code = 0 ∧ l.length = 2 ∧ ∃ y, l[0]? = some y ∧ y.kind = t.kind ∧ y.text = t.text ∧ y.num = t.num) := fun h => by
          have := e2.2 h; rw [hf] at this; cases this
        by_cases c1 : f.code = 0
        · have b1 : (f.code != 0) = false := by simp [c1]
          rw [b1, cond_false]
          by_cases c2 : l.length = 2
          · have b2 : ((l.length : Int) != 2) = false := by rw [c2]; rfl
            have b3 : (decide ((0 : Int) ≤ 0) && decide ((0 : Int) < (l.length : Int))) = true := by rw [c2]; rfl
            obtain ⟨y, hy⟩ : ∃ y, l[0]? = some y := ⟨_, List.getElem?_eq_getElem (by omega)⟩
            rw [b2, cond_false]
            simp only [b3, cond_true, hy, Option.bind_some]
            by_cases c4 : y.kind = t.kind
            · have b4 : (y.kind != t.kind) = false := by simp [c4]
              rw [b4, cond_false]
              by_cases c5 : y.text = t.text
              · have b5 : (y.text == t.text) = true := by simp [c5]
                rw [b5, Bool.not_true, cond_false]
                have b6 : (y.num != t.num) = true := by
                  rw [bne_iff_ne]
                  exact fun c6 => hno ⟨c1, c2, y, hy, c4, c5, c6⟩
                rw [b6]
                rfl
              · have b5 : (y.text == t.text) = false := by simpa using c5
                rw [b5]; rfl
            · have b4 : (y.kind != t.kind) = true := by simp [c4]
              rw [b4]; rfl
          · have b2 : ((l.length : Int) != 2) = true := by rw [bne_iff_ne]; omega
            rw [b2]; rfl
        · have b1 : (f.code != 0) = true := by simp [c1]
          rw [b1]; rfl
    · rw [decide_eq_true (by omega), cond_true]
      have : fitsB t = false := by
        cases hf : fitsB t with
        | false => rfl
        | true => exact absurd ((fitsB_iff t).1 hf).1 h64
      rw [this]; rfl

/-! Join's text. -/
def jl : Nat → List Token → Nat
  | _, [] => 0
  | i, t :: r => t.text.length + (if 0 < i then 1 else 0) + jl (i + 1) r

def jb : Nat → List Token → List UInt8
  | _, [] => []
  | i, t :: r => (if 0 < i then [32] else []) ++ t.text ++ jb (i + 1) r

theorem jb_len : ∀ (r : List Token) (i : Nat), (jb i r).length = jl i r
  | [], _ => rfl
  | t :: r, i => by
    simp only [jb, jl, List.length_append, jb_len r]
    split <;> simp <;> omega

theorem jb_tail : ∀ (r : List Token) (i : Nat), 0 < i → Lib.joinTail [32] (r.map (·.text)) = jb i r
  | [], _, _ => rfl
  | t :: r, i, h => by
    have ih := jb_tail r (i + 1) (by omega)
    simp only [List.map_cons, jb, if_pos h, ← ih]
    simp [Lib.joinTail]

theorem jb_join (r : List Token) : Lib.join (r.map (·.text)) [32] = jb 0 r := by
  cases r with
  | nil => rfl
  | cons t r =>
    rw [List.map_cons, Lib.join_cons, jb_tail r 1 (by omega)]
    simp [jb]

theorem join6L (x : Token) : ∀ (r pre : List Token) (n acc : Nat), r.length < n → (pre ++ r).length ≤ 9000000 → acc ≤ 4000 → (∀ t ∈ r, t.text.length ≤ 64) →
    racetreeref02_Join_i6 n (pre ++ (r ++ [x])) (acc : Int) (pre.length : Int) = some (bif decide (4000 < acc + jl pre.length r) then .inl ([], 10) else .inr (pre ++ (r ++ [x])))
  | [], pre, n, acc, hn, hl, ha, _ => by
    obtain ⟨n, rfl⟩ : ∃ q, n = q + 1 := ⟨n - 1, by simp at hn; omega⟩
    have hlen : (pre ++ ([] ++ [x])).length = pre.length + 1 := by simp
    rw [List.length_append, List.length_nil] at hl
    simp only [racetreeref02_Join_i6, racetreeref02_Join_t6, hlen]
    have hj : jl pre.length [] = 0 := rfl
    rw [i64_in (((pre.length + 1 : Nat) : Int) - 1) (by omega), decide_eq_false (by omega), cond_false, hj, decide_eq_false (by omega), cond_false]
  | t :: r, pre, n, acc, hn, hl, ha, h64 => by
    obtain ⟨n, rfl⟩ : ∃ q, n = q + 1 := ⟨n - 1, by simp at hn; omega⟩
    have ht := h64 t (by simp)
    have hg := get_mid pre t (r ++ [x])
    have hlen : (pre ++ (t :: r ++ [x])).length = pre.length + (r.length + 2) := by simp only [List.length_append, List.length_cons, List.length_nil]
    have hl' := hl
    rw [List.length_append, List.length_cons] at hl'
    have ih := fun acc ha => join6L x r (pre ++ [t]) n acc (by simp at hn; omega) (by rw [List.append_assoc]; exact hl) ha (fun y hy => h64 y (by simp [hy]))
    simp only [List.append_assoc, List.singleton_append, List.length_append, List.length_cons, List.length_nil] at ih
    simp only [show ∀ a : Nat, ((a + (0 + 1) : Nat) : Int) = (a : Int) + 1 from fun a => by omega, Nat.zero_add] at ih
    simp only [racetreeref02_Join_i6, racetreeref02_Join_t6, hlen]
    rw [List.cons_append] at *
    rw [i64_in (((pre.length + (r.length + 2) : Nat) : Int) - 1) (by omega), decide_eq_true (by omega), cond_true, decide_eq_true (by omega), cond_true, hg, Option.bind_some]
    rw [i64_in ((acc : Int) + (t.text.length : Int)) (by omega), i64_in ((acc : Int) + (t.text.length : Int) + 1) (by omega), i64_in ((pre.length : Int) + 1) (by omega)]
    by_cases hp : 0 < pre.length
    · have hj : jl pre.length (t :: r) = t.text.length + 1 + jl (pre.length + 1) r := by simp only [jl]; rw [if_pos hp]
      rw [decide_eq_true (show (pre.length : Int) > 0 by omega), cond_true, hj]
      by_cases h4 : acc + t.text.length + 1 ≤ 4000
      · rw [decide_eq_false (by omega), cond_false]
        have := ih (acc + t.text.length + 1) h4
        rw [show ((acc + t.text.length + 1 : Nat) : Int) = (acc : Int) + (t.text.length : Int) + 1 by omega] at this
        rw [this, show acc + t.text.length + 1 + jl (pre.length + 1) r = acc + (t.text.length + 1 + jl (pre.length + 1) r) by omega]
      · rw [decide_eq_true (by omega), cond_true, decide_eq_true (by omega), cond_true]
    · have hj : jl pre.length (t :: r) = t.text.length + 0 + jl (pre.length + 1) r := by simp only [jl]; rw [if_neg hp]
      rw [decide_eq_false (show ¬ (pre.length : Int) > 0 by omega), cond_false, hj]
      by_cases h4 : acc + t.text.length ≤ 4000
      · rw [decide_eq_false (by omega), cond_false]
        have := ih (acc + t.text.length) h4
        rw [show ((acc + t.text.length : Nat) : Int) = (acc : Int) + (t.text.length : Int) by omega] at this
        rw [this, show acc + t.text.length + jl (pre.length + 1) r = acc + (t.text.length + 0 + jl (pre.length + 1) r) by omega]
      · rw [decide_eq_true (by omega), cond_true, decide_eq_true (by omega), cond_true]

theorem ofStr_append (a b : List UInt8) : ofStr (a ++ b) = ofStr a ++ ofStr b := by simp [ofStr]
theorem ofStr_len (a : List UInt8) : (ofStr a).length = a.length := by simp [ofStr]
theorem bytes_ofStr (s : List UInt8) : bytesOf (ofStr s) = s := by
  unfold bytesOf ofStr
  rw [List.map_map]
  refine (List.map_congr_left fun b _ => ?_).trans (List.map_id s)
  simp

theorem join15L (x : Token) : ∀ (r pre : List Token) (n : Nat) (out : List Int), r.length < n → (pre ++ r).length ≤ 9000000 → out.length + jl pre.length r ≤ 9000000 →
    racetreeref02_Join_i15 n (pre ++ (r ++ [x])) (pre.length : Int) out = some (out ++ ofStr (jb pre.length r))
  | [], pre, n, out, hn, hl, _ => by
    obtain ⟨n, rfl⟩ : ∃ q, n = q + 1 := ⟨n - 1, by simp at hn; omega⟩
    have hlen : (pre ++ ([] ++ [x])).length = pre.length + 1 := by simp
    rw [List.length_append, List.length_nil] at hl
    simp only [racetreeref02_Join_i15, racetreeref02_Join_t15, hlen]
    rw [i64_in (((pre.length + 1 : Nat) : Int) - 1) (by omega), decide_eq_false (by omega), cond_false]
    simp [jb, ofStr]
  | t :: r, pre, n, out, hn, hl, hj => by
    obtain ⟨n, rfl⟩ : ∃ q, n = q + 1 := ⟨n - 1, by simp at hn; omega⟩
    have hg := get_mid pre t (r ++ [x])
    have hlen : (pre ++ (t :: r ++ [x])).length = pre.length + (r.length + 2) := by simp only [List.length_append, List.length_cons, List.length_nil]
    have hl' := hl
    rw [List.length_append, List.length_cons] at hl'
    have ih := fun out hj => join15L x r (pre ++ [t]) n out (by simp at hn; omega) (by rw [List.append_assoc]; exact hl) hj
    simp only [List.append_assoc, List.singleton_append, List.length_append, List.length_cons, List.length_nil] at ih
    simp only [show ∀ a : Nat, ((a + (0 + 1) : Nat) : Int) = (a : Int) + 1 from fun a => by omega, Nat.zero_add] at ih
    simp only [racetreeref02_Join_i15, racetreeref02_Join_t15, hlen]
    rw [List.cons_append] at *
    rw [i64_in (((pre.length + (r.length + 2) : Nat) : Int) - 1) (by omega), decide_eq_true (show (pre.length : Int) < ((pre.length + (r.length + 2) : Nat) : Int) - 1 by omega), cond_true, i64_in ((pre.length : Int) + 1) (by omega)]
    have hol := ofStr_len t.text
    have h0 : decide ((0 : Int) ≤ (pre.length : Int)) = true := decide_eq_true (by omega)
    by_cases hp : 0 < pre.length
    · have hj2 : jl pre.length (t :: r) = t.text.length + 1 + jl (pre.length + 1) r := by simp only [jl]; rw [if_pos hp]
      have hb : jb pre.length (t :: r) = [32] ++ t.text ++ jb (pre.length + 1) r := by simp only [jb]; rw [if_pos hp]
      rw [hj2] at hj
      have hlo : (out ++ [(32 : Int)]).length = out.length + 1 := by simp
      rw [decide_eq_true (show (pre.length : Int) > 0 by omega), cond_true, decide_eq_true (show _ ∧ _ by omega), cond_true, h0, cond_true, hg, Option.bind_some, hlo, decide_eq_true (show _ ∧ _ by omega), cond_true, hb]
      rw [ih (out ++ [32] ++ ofStr t.text) (by rw [List.length_append, hlo, hol]; omega)]
      rw [ofStr_append, ofStr_append]
      simp only [List.append_assoc]
      rfl
    · have hj2 : jl pre.length (t :: r) = t.text.length + 0 + jl (pre.length + 1) r := by simp only [jl]; rw [if_neg hp]
      have hb : jb pre.length (t :: r) = [] ++ t.text ++ jb (pre.length + 1) r := by simp only [jb]; rw [if_neg hp]
      rw [hj2] at hj
      rw [decide_eq_false (show ¬ (pre.length : Int) > 0 by omega), cond_false, h0, cond_true, hg, Option.bind_some, decide_eq_true (show _ ∧ _ by omega), cond_true, hb]
      rw [ih (out ++ ofStr t.text) (by rw [List.length_append, hol]; omega)]
      rw [List.nil_append, ofStr_append, List.append_assoc]

theorem jl_all : ∀ (r : List Token) (i : Nat), (∀ t ∈ r, t.text.length ≤ 64) → jl i r ≤ 65 * r.length
  | [], _, _ => by simp [jl]
  | t :: r, i, h => by
    have := jl_all r (i + 1) (fun x hx => h x (by simp [hx]))
    have ht := h t (by simp)
    simp only [jl, List.length_cons]
    split <;> omega

/-- THE DOCUMENT's JOIN IS THE PROGRAM's. -/
theorem join2 (l : List Token) (hl : l.length ≤ 1100000) : racetreeref02_Join l = lex_Join l := by
  rcases listEnd l with rfl | ⟨l0, x, rfl⟩
  · have h1 : lex_Join [] = some ([], 1) := by
      rcases join_cases [] (by simp) with h | ⟨l0, n, _, h, _⟩
      · exact h
      · simp at h
    rw [h1, racetreeref02_Join, sealF_eq]
    unfold racetreeref02_Join_f
    have : racetreeref02_may [] = some false := by
      rw [racetreeref02_may, sealF_eq]
      unfold racetreeref02_may_f
      have : racetreeref02_may_l2 [] 0 = some (.inr ()) := by
        rw [racetreeref02_may_l2, sealF_eq, show fuel = (fuel - 1) + 1 from rfl]
        rfl
      rw [this]; rfl
    rw [this]; rfl
  · have hl0 : l0.length ≤ 1100000 := by rw [List.length_append] at hl; omega
    rw [joinC l0 x (by omega), racetreeref02_Join, sealF_eq]
    unfold racetreeref02_Join_f
    have hm : racetreeref02_may (l0 ++ [x]) = some (l0.all fitsB && lastB x) := by
      rw [racetreeref02_may, sealF_eq]
      unfold racetreeref02_may_f
      have := mayL x l0 [] fuel (by unfold fuel; omega) (by simpa using (show l0.length ≤ 9000000 by omega))
      simp only [List.nil_append, List.length_nil] at this
      rw [show ((0 : Nat) : Int) = 0 from rfl] at this
      rw [racetreeref02_may_l2, sealF_eq, this, Option.bind_some]
    rw [hm, Option.bind_some]
    obtain ⟨k, t, n, a⟩ := x
    unfold lastB
    simp only
    by_cases hk : ¬ k = 5
    · have e1 : (k == 5) = false := by simp [hk]
      have e2 : (k != 5) = true := by simp [hk]
      rw [e1, e2, Bool.false_and, Bool.and_false]; rfl
    have hk := Classical.not_not.1 hk
    subst hk
    by_cases ht : ¬ t = []
    · have e1 : (t == []) = false := by simpa using ht
      rw [e1, Bool.false_and, Bool.and_false, Bool.and_false]; rfl
    have ht := Classical.not_not.1 ht
    subst ht
    by_cases hn : ¬ n = 0
    · have e1 : (n == 0) = false := by simp [hn]
      have e2 : (n != 0) = true := by simp [hn]
      rw [e1, e2, Bool.and_false, Bool.and_false, Bool.and_false]; rfl
    have hn := Classical.not_not.1 hn
    subst hn
    cases hf : l0.all fitsB with
    | false => rfl
    | true =>
      have hf' := List.all_eq_true.1 hf
      have h64 : ∀ y ∈ l0, y.text.length ≤ 64 := fun y hy => ((fitsB_iff y).1 (hf' y hy)).1
      have hja := jl_all l0 0 h64
      have h6 := join6L ⟨5, [], 0, a⟩ l0 [] fuel 0 (by unfold fuel; omega) (by simpa using (show l0.length ≤ 9000000 by omega)) (by omega) h64
      simp only [List.nil_append, List.length_nil, Nat.zero_add] at h6
      rw [show ((0 : Nat) : Int) = 0 from rfl] at h6
      have hS : strings_Join (l0.map (·.text)) [32] = some (jb 0 l0) := by
        rw [strings_Join, sealF_eq]
        unfold strings_Join_f
        rw [jb_join, jb_len, decide_eq_true (show _ ∧ _ from ⟨by rw [List.length_map]; omega, by omega⟩), cond_true]
      rw [hS, racetreeref02_Join_l6, sealF_eq, h6]
      have hd : decide (((jb 0 l0).length : Int) > 4000) = decide (4000 < jl 0 l0) := by
        rw [jb_len, Bool.eq_iff_iff, decide_eq_true_eq, decide_eq_true_eq]; omega
      simp only [beq_self_eq_true, Bool.and_self, Bool.not_true, cond_false, bne_self_eq_false, Option.bind_some, cond_true, hd]
      by_cases h4 : 4000 < jl 0 l0
      · rw [decide_eq_true h4]; rfl
      · rw [decide_eq_false h4, cond_false, cond_false]
        have h15 := join15L ⟨5, [], 0, a⟩ l0 [] fuel [] (by unfold fuel; omega) (by simpa using (show l0.length ≤ 9000000 by omega)) (by simp only [List.length_nil]; omega)
        simp only [List.nil_append, List.length_nil] at h15
        rw [show ((0 : Nat) : Int) = 0 from rfl] at h15
        simp only
        rw [racetreeref02_Join_l15, sealF_eq, h15, Option.bind_some, bytes_ofStr]

theorem join_ans (l : List Token) (hl : l.length ≤ 9000000) : ∃ s e, lex_Join l = some (s, e) := by
  rcases join_cases l hl with h | ⟨l0, n, ps, _, _, _, _, _, h⟩
  · exact ⟨_, _, h⟩
  · rw [h]
    cases decide (4000 < (encs (jr (ps.map (·.1)))).length)
    · exact ⟨_, _, rfl⟩
    · exact ⟨_, _, rfl⟩

theorem staysL (a0 : List Token) (y0 : Bool) (more : List Token) (s1 : List UInt8) (e1 : Int) (s2 : List UInt8) (e2 : Int) : ∀ (r pre : List Token) (n : Nat), a0 = pre ++ r → a0.length ≤ 9000000 → r.length < n →
    racetreelaw02_LexJoins_i10 n a0 y0 (a0 ++ more) s1 e1 s2 e2 true (pre.length : Int) = some (y0, s1, e1, s2, e2, true)
  | [], pre, n, h, hl, hn => by
    obtain ⟨n, rfl⟩ : ∃ q, n = q + 1 := ⟨n - 1, by simp at hn; omega⟩
    rw [List.append_nil] at h
    subst h
    simp only [racetreelaw02_LexJoins_i10, racetreelaw02_LexJoins_t10]
    rw [decide_eq_false (by omega), cond_false]
  | t :: r, pre, n, h, hl, hn => by
    obtain ⟨n, rfl⟩ : ∃ q, n = q + 1 := ⟨n - 1, by simp at hn; omega⟩
    have hlen : a0.length = pre.length + (r.length + 1) := by rw [h, List.length_append, List.length_cons]
    have g1 : a0[Int.toNat (pre.length : Int)]? = some t := by rw [h]; exact get_mid pre t r
    have g2 : (a0 ++ more)[Int.toNat (pre.length : Int)]? = some t := by rw [h, List.append_assoc]; exact get_mid pre t (r ++ more)
    have ih := staysL a0 y0 more s1 e1 s2 e2 r (pre ++ [t]) n (by rw [h]; simp) hl (by simp at hn; omega)
    rw [List.length_append, List.length_cons, List.length_nil, show ((pre.length + (0 + 1) : Nat) : Int) = (pre.length : Int) + 1 by omega] at ih
    simp only [racetreelaw02_LexJoins_i10, racetreelaw02_LexJoins_t10]
    rw [decide_eq_true (by omega), cond_true, cond_true, decide_eq_true (by omega), cond_true, g2, Option.bind_some, cond_true, g1, Option.bind_some, i64_in ((pre.length : Int) + 1) (by omega), decide_eq_true rfl]
    exact ih

theorem set_mid (a : List Token) (b x : Token) (c : List Token) : (a ++ b :: c).set a.length x = a ++ x :: c := by
  induction a with
  | nil => rfl
  | cons y a ih => simp only [List.cons_append, List.length_cons, List.set_cons_succ, ih]

theorem lexJoins1 (l : List Token) (hl : l.length ≤ 1100000) : racetreelaw02_LexJoins l = some true := by
  obtain ⟨s, e, hj⟩ := join_ans l (by omega)
  rw [racetreelaw02_LexJoins, sealF_eq]
  unfold racetreelaw02_LexJoins_f
  rw [lexShown, Option.bind_some, i64_in ((l.length : Int) + 2) (by omega), i64_in ((l.length : Int) + 1) (by omega)]
  have t2 : ((l.length : Int) + 2).toNat = l.length + 2 := by omega
  have t1 : ((l.length : Int) + 1).toNat = l.length + 1 := by omega
  have t0 : ((l.length : Int)).toNat = l.length := by omega
  rw [t2, t1, t0]
  have c0 : (decide ((0 : Int) ≤ (l.length : Int) + 2) && (decide ((l.length : Int) + 2 = (l.length : Int) + 2) && decide ((l.length + 2) * 40 ≤ 140737488355328 ∧ l.length + 2 ≤ 9223372036854775807))) = true := by
    rw [Bool.and_eq_true, Bool.and_eq_true, decide_eq_true_eq, decide_eq_true_eq, decide_eq_true_eq]
    exact ⟨by omega, rfl, by omega, by omega⟩
  have hin : List.take (List.length (List.replicate (l.length + 2) (⟨0, [], 0, 0⟩ : Token))) l ++ List.drop (List.length l) (List.replicate (l.length + 2) (⟨0, [], 0, 0⟩ : Token)) = l ++ [⟨0, [], 0, 0⟩, ⟨0, [], 0, 0⟩] := by
    rw [List.length_replicate, List.take_of_length_le (show l.length ≤ l.length + 2 by omega), List.drop_replicate, show l.length + 2 - l.length = 2 by omega]
    rfl
  have s1 : List.set (l ++ [(⟨0, [], 0, 0⟩ : Token), ⟨0, [], 0, 0⟩]) l.length ⟨-77, [], 0, 0⟩ = l ++ [⟨-77, [], 0, 0⟩, ⟨0, [], 0, 0⟩] := set_mid _ _ _ _
  have s2 : List.set (l ++ [(⟨-77, [], 0, 0⟩ : Token), ⟨0, [], 0, 0⟩]) (l.length + 1) ⟨-78, [], 0, 0⟩ = l ++ [⟨-77, [], 0, 0⟩, ⟨-78, [], 0, 0⟩] := by
    have := set_mid (l ++ [⟨-77, [], 0, 0⟩]) ⟨0, [], 0, 0⟩ ⟨-78, [], 0, 0⟩ []
    simp only [List.append_assoc, List.length_append, List.length_cons, List.length_nil] at this
    exact this
  have n1 : (l ++ [(⟨0, [], 0, 0⟩ : Token), ⟨0, [], 0, 0⟩]).length = l.length + 2 := by simp
  have n2 : (l ++ [(⟨-77, [], 0, 0⟩ : Token), ⟨0, [], 0, 0⟩]).length = l.length + 2 := by simp
  have n3 : (l ++ [(⟨-77, [], 0, 0⟩ : Token), ⟨-78, [], 0, 0⟩]).length = l.length + 2 := by simp
  have g1 : (l ++ [(⟨0, [], 0, 0⟩ : Token), ⟨0, [], 0, 0⟩])[l.length]? = some ⟨0, [], 0, 0⟩ := by rw [List.getElem?_append_right (Nat.le_refl _)]; simp
  have g2 : (l ++ [(⟨-77, [], 0, 0⟩ : Token), ⟨0, [], 0, 0⟩])[l.length + 1]? = some ⟨0, [], 0, 0⟩ := by rw [List.getElem?_append_right (by omega), show l.length + 1 - l.length = 1 by omega]; rfl
  have g3 : (l ++ [(⟨-77, [], 0, 0⟩ : Token), ⟨-78, [], 0, 0⟩])[l.length]? = some ⟨-77, [], 0, 0⟩ := by rw [List.getElem?_append_right (Nat.le_refl _)]; simp
  have g4 : (l ++ [(⟨-77, [], 0, 0⟩ : Token), ⟨-78, [], 0, 0⟩])[l.length + 1]? = some ⟨-78, [], 0, 0⟩ := by rw [List.getElem?_append_right (by omega), show l.length + 1 - l.length = 1 by omega]; rfl
  have tk : List.take l.length (l ++ [(⟨-77, [], 0, 0⟩ : Token), ⟨-78, [], 0, 0⟩]) = l := List.take_left
  have b1 : (decide ((0 : Int) ≤ (l.length : Int)) && decide ((l.length : Int) < ((l.length + 2 : Nat) : Int))) = true := by simp only [Bool.and_eq_true, decide_eq_true_eq]; omega
  have b2 : (decide ((0 : Int) ≤ (l.length : Int) + 1) && decide ((l.length : Int) + 1 < ((l.length + 2 : Nat) : Int))) = true := by simp only [Bool.and_eq_true, decide_eq_true_eq]; omega
  have b3 : (decide ((0 : Int) ≤ 0) && (decide ((0 : Int) ≤ (l.length : Int)) && decide ((l.length : Int) ≤ ((l.length + 2 : Nat) : Int)))) = true := by simp only [Bool.and_eq_true, decide_eq_true_eq]; omega
  have hst := staysL l true [⟨-77, [], 0, 0⟩, ⟨-78, [], 0, 0⟩] s e s e l [] fuel rfl (by omega) (by unfold fuel; omega)
  simp only [List.length_nil] at hst
  rw [show ((0 : Nat) : Int) = 0 from rfl] at hst
  have hst' : racetreelaw02_LexJoins_l10 l true (l ++ [⟨-77, [], 0, 0⟩, ⟨-78, [], 0, 0⟩]) s e s e true 0 = some (true, s, e, s, e, true) := by rw [racetreelaw02_LexJoins_l10, sealF_eq]; exact hst
  have k1 : ((-77 : Int) == -77) = true := by decide
  have k2 : ((-78 : Int) == -78) = true := by decide
  rw [c0, cond_true]
  simp only [hin, s1, s2, n1, n2, n3, g1, g2, g3, g4, tk, b1, b2, b3, cond_true, Option.bind_some, List.drop_zero, join2 l hl, hj, k1, k2, hst', beq_self_eq_true]
end Lift.A1P

