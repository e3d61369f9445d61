/-
  DERIVED. The Lean functions answer as the laws say. Conditions: as each theorem says.
-/
import Derived.Test.YtndniigjlaccgaaWalk
import Derived.IntWalk
set_option linter.unusedVariables false
set_option linter.unusedSimpArgs false
set_option linter.unusedSectionVars false
/- The plain law of layer 1: what the lifted functions compute. -/
namespace Lift.A1P
open Go Go.RowKit Lift Go.IntWalk

namespace Sp
def isRune (r : Int) : Bool := decide (0 ≤ r ∧ r ≤ 1114111 ∧ (r < 55296 ∨ r > 57343))
def letter (r : Int) : Bool := isRune r && decide ((65 ≤ r ∧ r ≤ 90) ∨ r = 95 ∨ (97 ≤ r ∧ r ≤ 122) ∨ 192 ≤ r)
def digit (r : Int) : Bool := decide (48 ≤ r ∧ r ≤ 57)
def blank (r : Int) : Bool := decide (r = 9 ∨ r = 10 ∨ r = 13 ∨ r = 32)
def long (r : Int) : Int := if r < 128 then 1 else if r < 2048 then 2 else if r < 65536 then 3 else 4
def enc (r : Int) : List Int :=
  if r < 128 then [r] else if r < 2048 then [192 + r / 64, 128 + r % 64] else if r < 65536 then [224 + r / 4096, 128 + r / 64 % 64, 128 + r % 64]
  else [240 + r / 262144, 128 + r / 4096 % 64, 128 + r / 64 % 64, 128 + r % 64]
def dc (t : List UInt8) (p : Nat) : Nat × Nat := Utf8.decode ⟨t.toArray⟩ p
def bad (t : List UInt8) (p : Nat) : Bool := decide ((dc t p).1 = 65533) && !(((t.take (min t.length (p + 3))).drop p) == [239, 191, 189])
def at1 (t : List UInt8) (p : Int) : Int := if bad t p.toNat then 0 else ((dc t p.toNat).1 : Int)
def at2 (t : List UInt8) (p : Int) : Int := if bad t p.toNat then 0 else ((dc t p.toNat).2 : Int)
def on (s : Spot) (r n : Int) : Spot := if r = 10 then ⟨s.rune, s.at_ + n, s.line + 1, 1⟩ else ⟨s.rune, s.at_ + n, s.line, s.col + 1⟩
def spotsFrom (t : List UInt8) : Nat → List Spot → Spot → List Spot × Spot
  | 0, acc, s => (acc, s)
  | n + 1, acc, s => if s.at_ < t.length then (if bad t s.at_.toNat then (acc, s) else
      spotsFrom t n (acc ++ [⟨at1 t s.at_, s.at_, s.line, s.col⟩]) (on ⟨at1 t s.at_, s.at_, s.line, s.col⟩ (at1 t s.at_) (at2 t s.at_))) else (acc, s)
def cont (t : List UInt8) (p : Int) : Nat → Int → Int → Option Int
  | 0, r, _ => some r
  | k + 1, r, i => match t[(p + i).toNat]? with
    | none => none
    | some d => if d.toNat < 128 ∨ 191 < d.toNat then none else cont t p k (64 * r + d.toNat - 128) (i + 1)
def ended (s : Spot) : Spot := ⟨-1, s.at_, s.line, s.col⟩
def spots1 (t : List UInt8) : List Spot := (spotsFrom t t.length [] ⟨0, 0, 1, 1⟩).1
def spots2 (t : List UInt8) : Spot := ended (spotsFrom t t.length [] ⟨0, 0, 1, 1⟩).2
def runes1 (t : List UInt8) : List Spot := if 4000 < t.length then [] else if (spots2 t).at_ < t.length then [] else spots1 t
def runes2 (t : List UInt8) : Fault := if 4000 < t.length then ⟨10, 4000, []⟩ else if (spots2 t).at_ < t.length then ⟨11, (spots2 t).at_, []⟩ else ⟨0, 0, []⟩
def noSpot : Spot := ⟨0, 0, 0, 0⟩
def place1 (t : List UInt8) (p : Int) : Spot := if (runes2 t).code ≠ 0 then noSpot else if p = t.length then spots2 t else ((runes1 t).find? fun s => decide (s.at_ = p)).getD noSpot
def place2 (t : List UInt8) (p : Int) : Int := if (runes2 t).code ≠ 0 then (runes2 t).code else if p = t.length then 0 else if ((runes1 t).find? fun s => decide (s.at_ = p)).isSome then 0 else 1
def same (a b : List Spot) : Bool := decide (a = b)
def textOf (l : List Int) : List UInt8 := runesOf l
def text1 (l : List Int) : List UInt8 := if 4000 < l.length then [] else if l.all isRune then (if 4000 < (textOf l).length then [] else textOf l) else []
def text2 (l : List Int) : Int := if 4000 < l.length then 10 else if l.all isRune then (if 4000 < (textOf l).length then 10 else 0) else 1
end Sp
/-! UTF-8, over what is left of a text. -/
namespace Sp
def by_ (l : List UInt8) (k : Nat) : Nat := (l.getD k 0).toNat
def ct (l : List UInt8) (k : Nat) : Bool := decide (k < l.length) && (by_ l k / 64 == 2)
def dl (l : List UInt8) : Nat × Nat :=
  if by_ l 0 < 0x80 then (by_ l 0, 1)
  else if by_ l 0 / 32 == 6 && ct l 1 then
    if (by_ l 0 % 32) * 64 + by_ l 1 % 64 ≥ 0x80 then ((by_ l 0 % 32) * 64 + by_ l 1 % 64, 2) else (65533, 1)
  else if by_ l 0 / 16 == 14 && ct l 1 && ct l 2 then
    if (by_ l 0 % 16) * 4096 + (by_ l 1 % 64) * 64 + by_ l 2 % 64 ≥ 0x800 && Utf8.valid (((by_ l 0 % 16) * 4096 + (by_ l 1 % 64) * 64 + by_ l 2 % 64 : Nat) : Int) then ((by_ l 0 % 16) * 4096 + (by_ l 1 % 64) * 64 + by_ l 2 % 64, 3) else (65533, 1)
  else if by_ l 0 / 8 == 30 && ct l 1 && ct l 2 && ct l 3 then
    if (by_ l 0 % 8) * 262144 + (by_ l 1 % 64) * 4096 + (by_ l 2 % 64) * 64 + by_ l 3 % 64 ≥ 0x10000 && Utf8.valid (((by_ l 0 % 8) * 262144 + (by_ l 1 % 64) * 4096 + (by_ l 2 % 64) * 64 + by_ l 3 % 64 : Nat) : Int) then ((by_ l 0 % 8) * 262144 + (by_ l 1 % 64) * 4096 + (by_ l 2 % 64) * 64 + by_ l 3 % 64, 4) else (65533, 1)
  else (65533, 1)
def badl (l : List UInt8) : Bool := decide ((dl l).1 = 65533) && !(l.take 3 == [239, 191, 189])

theorem by_drop (t : List UInt8) (q k : Nat) : by_ (t.drop q) k = (t.getD (q + k) 0).toNat := by
  simp [by_, List.getD_eq_getElem?_getD]

theorem dc_eq (t : List UInt8) (q : Nat) : dc t q = dl (t.drop q) := by
  have hb : ∀ k, ((⟨t.toArray⟩ : ByteArray).get! (q + k)).toNat = by_ (t.drop q) k := by
    intro k
    rw [by_drop]
    simp [ByteArray.get!, List.getD_eq_getElem?_getD, getElem!_def]
    cases t[q + k]? <;> rfl
  have hs : (⟨t.toArray⟩ : ByteArray).size = t.length := by simp [ByteArray.size]
  have hc : ∀ k, (decide (q + k < t.length) && ((by_ (t.drop q) k) / 64 == 2)) = ct (t.drop q) k := by
    intro k
    unfold ct
    have : (q + k < t.length) ↔ (k < (t.drop q).length) := by simp; omega
    simp only [this]
  unfold dc Utf8.decode
  simp only [hb, hs, hc]
  unfold dl
  rfl

theorem bad_eq (t : List UInt8) (q : Nat) : bad t q = badl (t.drop q) := by
  unfold bad badl
  rw [dc_eq]
  congr 2
  have : (t.take (min t.length (q + 3))).drop q = (t.drop q).take 3 := by
    have h1 : t.take (min t.length (q + 3)) = t.take (q + 3) := by
      rcases Nat.le_total t.length (q + 3) with h | h
      · rw [Nat.min_eq_left h, List.take_of_length_le h, List.take_of_length_le (Nat.le_refl _)]
      · rw [Nat.min_eq_right h]
    rw [h1, List.drop_take]
    simp
  rw [this]
end Sp
namespace Sp
theorem take3 (l : List UInt8) : (l.take 3 == [239, 191, 189]) = decide (3 ≤ l.length ∧ by_ l 0 = 239 ∧ by_ l 1 = 191 ∧ by_ l 2 = 189) := by
  have e : ∀ (a b : UInt8), (a == b) = decide (a.toNat = b.toNat) := fun a b => by
    rw [Bool.eq_iff_iff]; simp [UInt8.toNat_inj]
  match l with
  | [] => simp [by_]
  | [a] => simp [by_]
  | [a, b] => simp [by_]
  | a :: b :: c :: r =>
    have : List.take 3 (a :: b :: c :: r) = [a, b, c] := rfl
    rw [this]
    rw [Bool.eq_iff_iff]
    simp [by_, ← UInt8.toNat_inj]

theorem get_by {t : List UInt8} {p : Int} {j : Nat} (hp : 0 ≤ p) (h : p + j < t.length) : ∃ x, t[(p + j).toNat]? = some x ∧ x.toNat = by_ (t.drop p.toNat) j := by
  have hlt : (p + j).toNat < t.length := by omega
  refine ⟨t[(p + j).toNat], List.getElem?_eq_getElem hlt, ?_⟩
  rw [by_drop]
  have : p.toNat + j = (p + j).toNat := by omega
  rw [this, List.getD_eq_getElem?_getD, List.getElem?_eq_getElem hlt]
  rfl

theorem cont_succ {t : List UInt8} {p : Int} {j k : Nat} {r : Int} (hp : 0 ≤ p) (h : p + j < t.length) :
    cont t p (k + 1) r j = if by_ (t.drop p.toNat) j < 128 ∨ 191 < by_ (t.drop p.toNat) j then none else cont t p k (64 * r + by_ (t.drop p.toNat) j - 128) (j + 1 : Nat) := by
  obtain ⟨x, h1, h2⟩ := get_by hp h
  simp only [cont, h1, h2]
  rfl

theorem cont1 {t : List UInt8} {p : Int} {r : Int} (hp : 0 ≤ p) (h : p + 2 ≤ t.length) : cont t p 1 r 1 = 
    if by_ (t.drop p.toNat) 1 < 128 ∨ 191 < by_ (t.drop p.toNat) 1 then none else some (64 * r + by_ (t.drop p.toNat) 1 - 128) := by
  have := cont_succ (t := t) (k := 0) (r := r) (j := 1) hp (by omega)
  simpa [cont] using this
theorem cont2 {t : List UInt8} {p : Int} {r : Int} (hp : 0 ≤ p) (h : p + 3 ≤ t.length) : cont t p 2 r 1 = 
    if by_ (t.drop p.toNat) 1 < 128 ∨ 191 < by_ (t.drop p.toNat) 1 then none else if by_ (t.drop p.toNat) 2 < 128 ∨ 191 < by_ (t.drop p.toNat) 2 then none else some (64 * (64 * r + by_ (t.drop p.toNat) 1 - 128) + by_ (t.drop p.toNat) 2 - 128) := by
  have h1 := cont_succ (t := t) (k := 1) (r := r) (j := 1) hp (by omega)
  have h2 := cont_succ (t := t) (k := 0) (r := 64 * r + by_ (t.drop p.toNat) 1 - 128) (j := 2) hp (by omega)
  rw [show ((1 : Nat) : Int) = 1 from rfl] at h1
  rw [h1]
  rw [show (1 + 1 : Nat) = 2 from rfl, h2]
  rfl
theorem cont3 {t : List UInt8} {p : Int} {r : Int} (hp : 0 ≤ p) (h : p + 4 ≤ t.length) : cont t p 3 r 1 = 
    if by_ (t.drop p.toNat) 1 < 128 ∨ 191 < by_ (t.drop p.toNat) 1 then none else if by_ (t.drop p.toNat) 2 < 128 ∨ 191 < by_ (t.drop p.toNat) 2 then none else
    if by_ (t.drop p.toNat) 3 < 128 ∨ 191 < by_ (t.drop p.toNat) 3 then none else some (64 * (64 * (64 * r + by_ (t.drop p.toNat) 1 - 128) + by_ (t.drop p.toNat) 2 - 128) + by_ (t.drop p.toNat) 3 - 128) := by
  have h1 := cont_succ (t := t) (k := 2) (r := r) (j := 1) hp (by omega)
  have h2 := cont_succ (t := t) (k := 1) (r := 64 * r + by_ (t.drop p.toNat) 1 - 128) (j := 2) hp (by omega)
  have h3 := cont_succ (t := t) (k := 0) (r := 64 * (64 * r + by_ (t.drop p.toNat) 1 - 128) + by_ (t.drop p.toNat) 2 - 128) (j := 3) hp (by omega)
  rw [show ((1 : Nat) : Int) = 1 from rfl] at h1
  rw [h1]
  rw [show (1 + 1 : Nat) = 2 from rfl, h2]
  rw [show (2 + 1 : Nat) = 3 from rfl, h3]
  rfl
end Sp

/-- One answer as numbers. -/
def ansA (n b0 b1 b2 b3 : Nat) : Int × Int :=
  let ok (r : Int) (k : Int) : Int × Int := if (0 ≤ r ∧ r ≤ 1114111 ∧ (r < 55296 ∨ r > 57343)) ∧ Sp.long r = k then (r, k) else (0, 0)
  if 240 ≤ b0 then (if n < 4 then (0, 0) else if b1 < 128 ∨ 191 < b1 then (0, 0) else if b2 < 128 ∨ 191 < b2 then (0, 0) else if b3 < 128 ∨ 191 < b3 then (0, 0) else ok (64 * (64 * (64 * (b0 - 240) + b1 - 128) + b2 - 128) + b3 - 128) 4)
  else if 224 ≤ b0 then (if n < 3 then (0, 0) else if b1 < 128 ∨ 191 < b1 then (0, 0) else if b2 < 128 ∨ 191 < b2 then (0, 0) else ok (64 * (64 * (b0 - 224) + b1 - 128) + b2 - 128) 3)
  else if 192 ≤ b0 then (if n < 2 then (0, 0) else if b1 < 128 ∨ 191 < b1 then (0, 0) else ok (64 * (b0 - 192) + b1 - 128) 2)
  else if 128 ≤ b0 then (0, 0) else (b0, 1)

theorem valid_iff (r : Int) : Utf8.valid r = true ↔ (0 ≤ r ∧ r < 55296) ∨ (57344 ≤ r ∧ r ≤ 1114111) := by
  unfold Utf8.valid
  simp only [Bool.or_eq_true, Bool.and_eq_true, decide_eq_true_eq]

/-- The answer is the model's own. -/
theorem ans_dl (l : List UInt8) (hl : 0 < l.length) : ansA l.length (Sp.by_ l 0) (Sp.by_ l 1) (Sp.by_ l 2) (Sp.by_ l 3) = if Sp.badl l then (0, 0) else (((Sp.dl l).1 : Int), ((Sp.dl l).2 : Int)) := by
  have hb : ∀ k, Sp.by_ l k < 256 := fun k => (l.getD k 0).toNat_lt
  have h0 := hb 0
  have h1 := hb 1
  have h2 := hb 2
  have h3 := hb 3
  unfold Sp.badl
  rw [Sp.take3]
  obtain ⟨D, hD⟩ : ∃ D, D = Sp.dl l := ⟨_, rfl⟩
  rw [← hD]
  unfold Sp.dl Sp.ct at hD
  generalize Sp.by_ l 0 = b0 at *
  generalize Sp.by_ l 1 = b1 at *
  generalize Sp.by_ l 2 = b2 at *
  generalize Sp.by_ l 3 = b3 at *
  generalize l.length = n at *
  clear hb
  have small : ∀ r : Int, r < 128 → Sp.long r = 1 := fun r h => by unfold Sp.long; rw [if_pos h]
  have two : ∀ r : Int, 128 ≤ r → r < 2048 → Sp.long r = 2 := fun r h h' => by unfold Sp.long; rw [if_neg (by omega), if_pos h']
  have three : ∀ r : Int, 2048 ≤ r → r < 65536 → Sp.long r = 3 := fun r h h' => by unfold Sp.long; rw [if_neg (by omega), if_neg (by omega), if_pos h']
  have four : ∀ r : Int, 65536 ≤ r → Sp.long r = 4 := fun r h => by unfold Sp.long; rw [if_neg (by omega), if_neg (by omega), if_neg (by omega)]
  simp only [Bool.and_eq_true, decide_eq_true_eq, beq_iff_eq, valid_iff, ge_iff_le] at hD
  simp only [Bool.and_eq_true, decide_eq_true_eq, Bool.not_eq_true', decide_eq_false_iff_not]
  have good : ∀ (r k : Nat), D = (r, k) → ¬ (r = 65533 ∧ ¬ (3 ≤ n ∧ b0 = 239 ∧ b1 = 191 ∧ b2 = 189)) → (if D.1 = 65533 ∧ ¬ (3 ≤ n ∧ b0 = 239 ∧ b1 = 191 ∧ b2 = 189) then ((0 : Int), (0 : Int)) else (↑D.1, ↑D.2)) = ((r : Int), (k : Int)) := by
    intro r k h1 h2
    rw [h1]
    exact if_neg h2
  have badd : D = (65533, 1) → ¬ (3 ≤ n ∧ b0 = 239 ∧ b1 = 191 ∧ b2 = 189) → (if D.1 = 65533 ∧ ¬ (3 ≤ n ∧ b0 = 239 ∧ b1 = 191 ∧ b2 = 189) then ((0 : Int), (0 : Int)) else (↑D.1, ↑D.2)) = (0, 0) := by
    intro h1 h2
    rw [h1]
    exact if_pos ⟨rfl, h2⟩
  unfold ansA
  by_cases k0 : b0 < 128
  · rw [if_neg (by omega), if_neg (by omega), if_neg (by omega), if_neg (by omega)]
    rw [if_pos k0] at hD
    rw [good _ _ hD (by omega)]
    rfl
  rw [if_neg k0] at hD
  by_cases k1 : b0 < 192
  · rw [if_neg (by omega), if_neg (by omega), if_neg (by omega), if_pos (by omega)]
    rw [if_neg (by omega), if_neg (by omega), if_neg (by omega)] at hD
    rw [badd hD (by omega)]
  by_cases k2 : b0 < 224
  · rw [if_neg (by omega), if_neg (by omega), if_pos (by omega)]
    by_cases c1 : n < 2
    · rw [if_neg (by omega), if_neg (by omega), if_neg (by omega)] at hD
      rw [if_pos c1, badd hD (by omega)]
    rw [if_neg c1]
    by_cases c2 : b1 < 128 ∨ 191 < b1
    · rw [if_neg (by omega), if_neg (by omega), if_neg (by omega)] at hD
      rw [if_pos c2, badd hD (by omega)]
    rw [if_neg c2]
    rw [if_pos (by omega)] at hD
    by_cases c3 : 128 ≤ b0 % 32 * 64 + b1 % 64
    · rw [if_pos c3] at hD
      rw [good _ _ hD (by omega)]
      have := two (64 * ((b0 : Int) - 192) + b1 - 128) (by omega) (by omega)
      show (if _ then _ else _) = _
      rw [if_pos ⟨by omega, this⟩]
      simp only [Prod.mk.injEq]
      omega
    · rw [if_neg c3] at hD
      rw [badd hD (by omega)]
      show (if _ then _ else _) = _
      rw [if_neg]
      intro hh
      have := small (64 * ((b0 : Int) - 192) + b1 - 128) (by omega)
      omega
  by_cases k3 : b0 < 240
  · rw [if_neg (by omega), if_pos (by omega)]
    by_cases c1 : n < 3
    · rw [if_neg (by omega), if_neg (by omega), if_neg (by omega)] at hD
      rw [if_pos c1, badd hD (by omega)]
    rw [if_neg c1]
    by_cases c2 : b1 < 128 ∨ 191 < b1
    · rw [if_neg (by omega), if_neg (by omega), if_neg (by omega)] at hD
      rw [if_pos c2, badd hD (by omega)]
    rw [if_neg c2]
    by_cases c3 : b2 < 128 ∨ 191 < b2
    · rw [if_neg (by omega), if_neg (by omega), if_neg (by omega)] at hD
      rw [if_pos c3, badd hD (by omega)]
    rw [if_neg c3]
    rw [if_neg (by omega), if_pos (by omega)] at hD
    have hv : (64 * (64 * ((b0 : Int) - 224) + b1 - 128) + b2 - 128) = ((b0 % 16 * 4096 + b1 % 64 * 64 + b2 % 64 : Nat) : Int) := by omega
    show (if _ then _ else _) = _
    rw [hv]
    obtain ⟨N, hN⟩ : ∃ N, N = b0 % 16 * 4096 + b1 % 64 * 64 + b2 % 64 := ⟨_, rfl⟩
    rw [← hN] at hD ⊢
    by_cases c4 : 2048 ≤ N ∧ (0 ≤ (N : Int) ∧ (N : Int) < 55296 ∨ 57344 ≤ (N : Int) ∧ (N : Int) ≤ 1114111)
    · rw [if_pos c4] at hD
      have h5 := three (N : Int) (by omega) (by omega)
      rw [good N 3 hD (by omega), if_pos (And.intro (by omega) h5)]
      exact Prod.ext rfl rfl
    · rw [if_neg c4] at hD
      rw [badd hD (by omega), if_neg]
      intro hh
      by_cases c5 : N < 128
      · have := small (N : Int) (by omega); omega
      by_cases c6 : N < 2048
      · have := two (N : Int) (by omega) (by omega); omega
      · omega
  · rw [if_pos (by omega)]
    by_cases c1 : n < 4
    · rw [if_neg (by omega), if_neg (by omega), if_neg (by omega)] at hD
      rw [if_pos c1, badd hD (by omega)]
    rw [if_neg c1]
    by_cases c2 : b1 < 128 ∨ 191 < b1
    · rw [if_neg (by omega), if_neg (by omega), if_neg (by omega)] at hD
      rw [if_pos c2, badd hD (by omega)]
    rw [if_neg c2]
    by_cases c3 : b2 < 128 ∨ 191 < b2
    · rw [if_neg (by omega), if_neg (by omega), if_neg (by omega)] at hD
      rw [if_pos c3, badd hD (by omega)]
    rw [if_neg c3]
    by_cases c3' : b3 < 128 ∨ 191 < b3
    · rw [if_neg (by omega), if_neg (by omega), if_neg (by omega)] at hD
      rw [if_pos c3', badd hD (by omega)]
    rw [if_neg c3']
    rw [if_neg (by omega), if_neg (by omega)] at hD
    have hv : (64 * (64 * (64 * ((b0 : Int) - 240) + b1 - 128) + b2 - 128) + b3 - 128) = (((b0 - 240) * 262144 + (b1 - 128) * 4096 + (b2 - 128) * 64 + (b3 - 128) : Nat) : Int) := by omega
    show (if _ then _ else _) = _
    rw [hv]
    by_cases k4 : b0 < 248
    · rw [if_pos (by omega)] at hD
      have hm : b0 % 8 * 262144 + b1 % 64 * 4096 + b2 % 64 * 64 + b3 % 64 = (b0 - 240) * 262144 + (b1 - 128) * 4096 + (b2 - 128) * 64 + (b3 - 128) := by omega
      rw [hm] at hD
      obtain ⟨N, hN⟩ : ∃ N, N = (b0 - 240) * 262144 + (b1 - 128) * 4096 + (b2 - 128) * 64 + (b3 - 128) := ⟨_, rfl⟩
      rw [← hN] at hD ⊢
      by_cases c4 : 65536 ≤ N ∧ (0 ≤ (N : Int) ∧ (N : Int) < 55296 ∨ 57344 ≤ (N : Int) ∧ (N : Int) ≤ 1114111)
      · rw [if_pos c4] at hD
        have h5 := four (N : Int) (by omega)
        rw [good N 4 hD (by omega), if_pos (And.intro (by omega) h5)]
        exact Prod.ext rfl rfl
      · rw [if_neg c4] at hD
        rw [badd hD (by omega), if_neg]
        intro hh
        by_cases c5 : N < 128
        · have := small (N : Int) (by omega); omega
        by_cases c6 : N < 2048
        · have := two (N : Int) (by omega) (by omega); omega
        by_cases c7 : N < 65536
        · have := three (N : Int) (by omega) (by omega); omega
        · omega
    · rw [if_neg (by omega)] at hD
      rw [badd hD (by omega), if_neg]
      intro hh
      omega


def okSpot (t : List UInt8) (s : Spot) : Prop := t.length ≤ 4000 ∧ 0 ≤ s.at_ ∧ s.at_ ≤ t.length ∧ 1 ≤ s.line ∧ s.line ≤ s.at_ + 1 ∧ 1 ≤ s.col ∧ s.col ≤ s.at_ + 1
noncomputable def goneTo (t : List UInt8) (l : List Spot) (s : Spot) : List Spot × Spot := Sp.spotsFrom t (t.length - s.at_.toNat) l s
noncomputable def fnd (l : List Spot) (i : Int) (p : Int) : Option Spot := (l.drop i.toNat).find? fun s => decide (s.at_ = p)
namespace Sp
theorem dl_pos (l : List UInt8) (h : 0 < l.length) : 1 ≤ (dl l).2 ∧ (dl l).2 ≤ 4 ∧ (dl l).2 ≤ l.length := by
  unfold dl ct
  simp only [Bool.and_eq_true, decide_eq_true_eq]
  repeat' split
  all_goals simp only
  all_goals omega

theorem ansA_ok (n b0 b1 b2 b3 : Nat) (h : b0 < 256) : ansA n b0 b1 b2 b3 = (0, 0) ∨ (isRune (ansA n b0 b1 b2 b3).1 = true ∧ long (ansA n b0 b1 b2 b3).1 = (ansA n b0 b1 b2 b3).2) := by
  unfold ansA
  simp only
  by_cases a1 : 240 ≤ b0
  · rw [if_pos a1]
    repeat' split
    all_goals first | exact .inl rfl | (rename_i hc; exact .inr ⟨by simpa only [isRune, decide_eq_true_eq] using hc.1, hc.2⟩)
  rw [if_neg a1]
  by_cases a2 : 224 ≤ b0
  · rw [if_pos a2]
    repeat' split
    all_goals first | exact .inl rfl | (rename_i hc; exact .inr ⟨by simpa only [isRune, decide_eq_true_eq] using hc.1, hc.2⟩)
  rw [if_neg a2]
  by_cases a3 : 192 ≤ b0
  · rw [if_pos a3]
    repeat' split
    all_goals first | exact .inl rfl | (rename_i hc; exact .inr ⟨by simpa only [isRune, decide_eq_true_eq] using hc.1, hc.2⟩)
  rw [if_neg a3]
  by_cases a4 : 128 ≤ b0
  · rw [if_pos a4]; exact .inl rfl
  rw [if_neg a4]
  exact .inr ⟨by simp only [isRune, decide_eq_true_eq]; omega, by unfold long; rw [if_pos (by omega)]⟩

theorem good_at {t : List UInt8} {p : Int} (hp : 0 ≤ p) (h : p < t.length) (hb : bad t p.toNat = false) : isRune (at1 t p) = true ∧ long (at1 t p) = at2 t p ∧ 1 ≤ at2 t p ∧ at2 t p ≤ 4 ∧ p + at2 t p ≤ t.length ∧
    at1 t p = (dc t p.toNat).1 ∧ at2 t p = (dc t p.toNat).2 := by
  have hl : 0 < (t.drop p.toNat).length := by simp; omega
  obtain ⟨h1, h2, h3⟩ := dl_pos _ hl
  have h4 := ans_dl _ hl
  rw [← bad_eq, hb, ← dc_eq] at h4
  rw [← dc_eq] at h1 h2 h3
  have hlen : ((t.drop p.toNat).length : Int) = t.length - p := by simp; omega
  unfold at1 at2
  rw [hb]
  simp only [Bool.false_eq_true, if_false] at h4 ⊢
  rcases ansA_ok (t.drop p.toNat).length (by_ (t.drop p.toNat) 0) (by_ (t.drop p.toNat) 1) (by_ (t.drop p.toNat) 2) (by_ (t.drop p.toNat) 3) ((t.drop p.toNat).getD 0 0).toNat_lt with h5 | ⟨h5, h6⟩
  · rw [h4] at h5
    simp only [Prod.mk.injEq] at h5
    omega
  · rw [h4] at h5 h6
    exact ⟨h5, h6, by omega, by omega, by omega, by simp⟩

theorem bad_at {t : List UInt8} {p : Int} (hb : bad t p.toNat = true) : at1 t p = 0 ∧ at2 t p = 0 := by
  unfold at1 at2
  simp [hb]

theorem fuel (t : List UInt8) : ∀ (n m : Nat) (l : List Spot) (s : Spot), 0 ≤ s.at_ → t.length - s.at_.toNat ≤ n → t.length - s.at_.toNat ≤ m → spotsFrom t n l s = spotsFrom t m l s := by
  intro n
  induction n with
  | zero =>
    intro m l s h0 h1 h2
    have hc : ¬ s.at_ < t.length := by omega
    cases m with
    | zero => rfl
    | succ m => simp only [spotsFrom, if_neg hc]
  | succ n ih =>
    intro m l s h0 h1 h2
    by_cases hc : s.at_ < t.length
    · cases m with
      | zero => omega
      | succ m =>
        simp only [spotsFrom, if_pos hc]
        cases hb : bad t s.at_.toNat with
        | true => rfl
        | false =>
          simp only [Bool.false_eq_true, if_false]
          obtain ⟨g1, g2, g3, g4, g5, _⟩ := good_at h0 hc hb
          have ha : ∀ x : Spot, (on x (at1 t s.at_) (at2 t s.at_)).at_ = x.at_ + at2 t s.at_ := fun x => by unfold on; split <;> rfl
          refine ih m _ _ ?_ ?_ ?_ <;> rw [ha] <;> simp only <;> omega
    · cases m with
      | zero => simp only [spotsFrom, if_neg hc]
      | succ m => simp only [spotsFrom, if_neg hc]
end Sp

theorem goneTo_end {t : List UInt8} {l : List Spot} {s : Spot} (h : ¬ s.at_ < t.length) : goneTo t l s = (l, s) := by
  unfold goneTo
  cases t.length - s.at_.toNat with
  | zero => rfl
  | succ n => simp only [Sp.spotsFrom, if_neg h]

theorem goneTo_bad {t : List UInt8} {l : List Spot} {s : Spot} (hb : Sp.bad t s.at_.toNat = true) : goneTo t l s = (l, s) := by
  unfold goneTo
  cases t.length - s.at_.toNat with
  | zero => rfl
  | succ n => simp only [Sp.spotsFrom, hb, if_true]; split <;> rfl

def here (t : List UInt8) (s : Spot) : Spot := ⟨Sp.at1 t s.at_, s.at_, s.line, s.col⟩
def after (t : List UInt8) (s : Spot) : Spot := Sp.on (here t s) (Sp.at1 t s.at_) (Sp.at2 t s.at_)

theorem after_at (t : List UInt8) (s : Spot) : (after t s).at_ = s.at_ + Sp.at2 t s.at_ := by
  unfold after Sp.on here
  split <;> rfl

theorem goneTo_step {t : List UInt8} {l : List Spot} {s : Spot} (h0 : 0 ≤ s.at_) (h : s.at_ < t.length) (hb : Sp.bad t s.at_.toNat = false) : goneTo t l s = goneTo t (l ++ [here t s]) (after t s) := by
  unfold goneTo
  obtain ⟨n, hn⟩ : ∃ n, t.length - s.at_.toNat = n + 1 := ⟨t.length - s.at_.toNat - 1, by omega⟩
  obtain ⟨g1, g2, g3, g4, g5, _⟩ := Sp.good_at h0 h hb
  rw [hn]
  simp only [Sp.spotsFrom, if_pos h, hb, Bool.false_eq_true, if_false]
  have ha := after_at t s
  exact Sp.fuel t _ _ _ _ (by unfold after here at ha; omega) (by unfold after here at ha; omega) (Nat.le_refl _)

theorem okSpot_after {t : List UInt8} {s : Spot} (h : okSpot t s) (hlt : s.at_ < t.length) (hb : Sp.bad t s.at_.toNat = false) : okSpot t (after t s) := by
  obtain ⟨h1, h2, h3, h4, h5, h6, h7⟩ := h
  obtain ⟨g1, g2, g3, g4, g5, _⟩ := Sp.good_at h2 hlt hb
  unfold okSpot after Sp.on here
  split <;> simp only <;> omega

theorem from_rune (t : List UInt8) : ∀ (n : Nat) (l : List Spot) (s s' : Spot), Sp.ended s = Sp.ended s' → (Sp.spotsFrom t n l s).1 = (Sp.spotsFrom t n l s').1 ∧ Sp.ended (Sp.spotsFrom t n l s).2 = Sp.ended (Sp.spotsFrom t n l s').2 := by
  intro n l s s' h
  obtain ⟨r, a, b, c⟩ := s
  obtain ⟨r', a', b', c'⟩ := s'
  simp only [Sp.ended, Spot.mk.injEq, true_and] at h
  obtain ⟨rfl, rfl, rfl⟩ := h
  cases n with
  | zero => exact ⟨rfl, rfl⟩
  | succ n =>
    simp only [Sp.spotsFrom]
    split
    · split
      · exact ⟨rfl, rfl⟩
      · exact ⟨rfl, rfl⟩
    · exact ⟨rfl, rfl⟩

theorem gone_rune (t : List UInt8) (l : List Spot) (r r' a b c : Int) : (goneTo t l ⟨r, a, b, c⟩).1 = (goneTo t l ⟨r', a, b, c⟩).1 ∧ (goneTo t l ⟨r, a, b, c⟩).2.at_ = (goneTo t l ⟨r', a, b, c⟩).2.at_ ∧
    (goneTo t l ⟨r, a, b, c⟩).2.line = (goneTo t l ⟨r', a, b, c⟩).2.line ∧ (goneTo t l ⟨r, a, b, c⟩).2.col = (goneTo t l ⟨r', a, b, c⟩).2.col := by
  have := from_rune t (t.length - a.toNat) l ⟨r, a, b, c⟩ ⟨r', a, b, c⟩ rfl
  unfold goneTo
  obtain ⟨h1, h2⟩ := this
  simp only [Sp.ended, Spot.mk.injEq, true_and] at h2
  exact ⟨h1, h2.1, h2.2.1, h2.2.2⟩

theorem same_drop {a b : List Spot} {k : Nat} (ha : k < a.length) (hb : k < b.length) : Sp.same (a.drop k) (b.drop k) = (decide (a[k] = b[k]) && Sp.same (a.drop (k + 1)) (b.drop (k + 1))) := by
  unfold Sp.same
  rw [List.drop_eq_getElem_cons ha, List.drop_eq_getElem_cons hb, Bool.eq_iff_iff]
  simp only [decide_eq_true_eq, Bool.and_eq_true, List.cons.injEq]

theorem enc_eq (r : Int) (h : Sp.isRune r = true) : (Utf8.encode r).data.toList = bytesOf (Sp.enc r) := by
  simp only [Sp.isRune, decide_eq_true_eq] at h
  have hv : Utf8.valid r = true := (valid_iff r).2 (by omega)
  unfold Utf8.encode
  rw [hv]
  simp only [if_true]
  unfold Sp.enc bytesOf
  by_cases a1 : r < 128
  · rw [if_pos a1, if_pos (show r.toNat < 128 by omega)]
    rfl
  rw [if_neg a1, if_neg (show ¬ r.toNat < 128 by omega)]
  by_cases a2 : r < 2048
  · rw [if_pos a2, if_pos (show r.toNat < 2048 by omega)]
    simp only [List.map_cons, List.map_nil]
    rw [show (192 + r / 64).toNat = 192 + r.toNat / 64 by omega, show (128 + r % 64).toNat = 128 + r.toNat % 64 by omega]
  rw [if_neg a2, if_neg (show ¬ r.toNat < 2048 by omega)]
  by_cases a3 : r < 65536
  · rw [if_pos a3, if_pos (show r.toNat < 65536 by omega)]
    simp only [List.map_cons, List.map_nil]
    rw [show (224 + r / 4096).toNat = 224 + r.toNat / 4096 by omega, show (128 + r / 64 % 64).toNat = 128 + r.toNat / 64 % 64 by omega, show (128 + r % 64).toNat = 128 + r.toNat % 64 by omega]
  rw [if_neg a3, if_neg (show ¬ r.toNat < 65536 by omega)]
  simp only [List.map_cons, List.map_nil]
  rw [show (240 + r / 262144).toNat = 240 + r.toNat / 262144 by omega, show (128 + r / 4096 % 64).toNat = 128 + r.toNat / 4096 % 64 by omega, show (128 + r / 64 % 64).toNat = 128 + r.toNat / 64 % 64 by omega, show (128 + r % 64).toNat = 128 + r.toNat % 64 by omega]

theorem text_eq (l : List Int) (h : l.all Sp.isRune = true) : bytesOf (l.flatMap Sp.enc) = runesOf l := by
  induction l with
  | nil => rfl
  | cons r l ih =>
    simp only [List.all_cons, Bool.and_eq_true] at h
    have ih := ih h.2
    unfold bytesOf runesOf at *
    rw [List.flatMap_cons, List.map_append, ih, List.flatMap_cons, enc_eq r h.1]
    rfl

theorem enc_len (r : Int) : (Sp.enc r).length ≤ 4 := by
  unfold Sp.enc
  repeat' split
  all_goals simp

theorem from_inv (t : List UInt8) : ∀ (n : Nat) (l : List Spot) (s : Spot), okSpot t s → (l.length : Int) ≤ s.at_ → (∀ x ∈ l, x.at_ < t.length) →
    okSpot t (Sp.spotsFrom t n l s).2 ∧ ((Sp.spotsFrom t n l s).1.length : Int) ≤ (Sp.spotsFrom t n l s).2.at_ ∧ ∀ x ∈ (Sp.spotsFrom t n l s).1, x.at_ < t.length := by
  intro n
  induction n with
  | zero => intro l s h1 h2 h3; exact ⟨h1, h2, h3⟩
  | succ n ih =>
    intro l s h1 h2 h3
    by_cases hc : s.at_ < t.length
    · cases hb : Sp.bad t s.at_.toNat with
      | true => simp only [Sp.spotsFrom, if_pos hc, hb, if_true]; exact ⟨h1, h2, h3⟩
      | false =>
        simp only [Sp.spotsFrom, if_pos hc, hb, Bool.false_eq_true, if_false]
        obtain ⟨g1, g2, g3, g4, g5, _⟩ := Sp.good_at h1.2.1 hc hb
        have ha := after_at t s
        refine ih _ _ (okSpot_after h1 hc hb) ?_ ?_
        · unfold after here at ha
          rw [ha]
          simp only [List.length_append, List.length_cons, List.length_nil]
          omega
        · intro x hx
          rcases List.mem_append.1 hx with hx | hx
          · exact h3 x hx
          · simp only [List.mem_singleton] at hx
            subst hx
            exact hc
    · simp only [Sp.spotsFrom, if_neg hc]; exact ⟨h1, h2, h3⟩

theorem spots_inv (t : List UInt8) (h : t.length ≤ 4000) : (Sp.spots1 t).length ≤ 4000 ∧ ∀ x ∈ Sp.spots1 t, x.at_ < t.length := by
  have := from_inv t t.length [] ⟨0, 0, 1, 1⟩ (by unfold okSpot; simp only; omega) (by simp) (by simp)
  obtain ⟨⟨q1, q2, q3, q4⟩, h2, h3⟩ := this
  exact ⟨by unfold Sp.spots1; omega, h3⟩

theorem runes_inv (t : List UInt8) : (Sp.runes1 t).length ≤ 4000 ∧ ∀ x ∈ Sp.runes1 t, x.at_ < t.length := by
  unfold Sp.runes1
  split
  · simp
  · split
    · simp
    · exact spots_inv t (by omega)

theorem code_ok {t : List UInt8} (h : (Sp.runes2 t).code = 0) : t.length ≤ 4000 := by
  unfold Sp.runes2 at h
  split at h
  · simp at h
  · omega

theorem fnd_step {l : List Spot} {i : Int} {p : Int} (h0 : 0 ≤ i) (h : i.toNat < l.length) : fnd l i p = if l[i.toNat].at_ = p then some l[i.toNat] else fnd l (i + 1) p := by
  unfold fnd
  rw [List.drop_eq_getElem_cons h, List.find?_cons, show (i + 1).toNat = i.toNat + 1 by omega]
  by_cases hc : l[i.toNat].at_ = p <;> simp [hc]

theorem fnd_end {l : List Spot} {i : Int} {p : Int} (h0 : 0 ≤ i) (h : ¬ i < l.length) : fnd l i p = none := by
  unfold fnd
  rw [List.drop_eq_nil_of_le (by omega)]
  rfl

theorem fnd_zero (l : List Spot) (p : Int) : fnd l 0 p = l.find? fun s => decide (s.at_ = p) := by unfold fnd; simp

theorem place_bad {t : List UInt8} {p : Int} (h : ¬ (Sp.runes2 t).code = 0) : Sp.place1 t p = Sp.noSpot ∧ Sp.place2 t p = (Sp.runes2 t).code := by
  unfold Sp.place1 Sp.place2
  exact ⟨if_pos h, if_pos h⟩
theorem place_end {t : List UInt8} {p : Int} (h : (Sp.runes2 t).code = 0) (hp : p = t.length) : Sp.place1 t p = Sp.spots2 t ∧ Sp.place2 t p = 0 := by
  unfold Sp.place1 Sp.place2
  exact ⟨(if_neg (fun hh => hh h)).trans (if_pos hp), (if_neg (fun hh => hh h)).trans (if_pos hp)⟩
theorem place_in {t : List UInt8} {p : Int} (h : (Sp.runes2 t).code = 0) (hp : ¬ p = t.length) : Sp.place1 t p = (fnd (Sp.runes1 t) 0 p).getD Sp.noSpot ∧ Sp.place2 t p = if (fnd (Sp.runes1 t) 0 p).isSome then 0 else 1 := by
  rw [fnd_zero]
  unfold Sp.place1 Sp.place2
  exact ⟨(if_neg (fun hh => hh h)).trans (if_neg hp), (if_neg (fun hh => hh h)).trans (if_neg hp)⟩

end Lift.A1P

/- The functions of layer 1, one by one: each computes its law. -/
namespace Lift.A1P
open Go Go.RowKit Lift Go.IntWalk Lift.Fn

theorem someBq {a b : Bool} (h : a = true ↔ b = true) : some a = some b := by rw [Bool.eq_iff_iff.2 h]

theorem digit1 (r : Int) : scan_Digit r = some (Sp.digit r) := by
  rw [scan_Digit, sealF_eq]
  unfold scan_Digit_f
  simp only [cond_eq_ite]
  split
  all_goals refine someBq ?_
  all_goals simp only [Sp.digit, decide_eq_true_eq, decide_eq_false_iff_not, Bool.false_eq_true, false_iff, Bool.not_eq_true] at *
  all_goals omega

theorem digit2 (r : Int) : racetreeref01_Digit r = some (Sp.digit r) := by
  rw [← digit1, racetreeref01_Digit, scan_Digit, sealF_eq, sealF_eq]
  rfl

theorem blank1 (r : Int) : scan_Blank r = some (Sp.blank r) := by
  rw [scan_Blank, sealF_eq]
  unfold scan_Blank_f
  simp only [cond_eq_ite]
  repeat' split
  all_goals refine someBq ?_
  all_goals simp only [Sp.blank, beq_iff_eq, decide_eq_true_eq, decide_eq_false_iff_not, Bool.false_eq_true, false_iff, true_iff, Bool.not_eq_true] at *
  all_goals omega

theorem blank2 (r : Int) : racetreeref01_Blank r = some (Sp.blank r) := by
  rw [← blank1, racetreeref01_Blank, scan_Blank, sealF_eq, sealF_eq]
  rfl

theorem valid1 (r : Int) : unicode_utf8_ValidRune r = some (Sp.isRune r) := by
  rw [unicode_utf8_ValidRune, sealF_eq]
  unfold unicode_utf8_ValidRune_f
  simp only [cond_eq_ite]
  repeat' split
  all_goals refine someBq ?_
  all_goals simp only [Sp.isRune, beq_iff_eq, decide_eq_true_eq, decide_eq_false_iff_not, Bool.false_eq_true, false_iff, true_iff, Bool.not_eq_true] at *
  all_goals omega

theorem whole1 (r : Int) : scan_whole r = some (Sp.isRune r) := by
  rw [scan_whole, sealF_eq]
  unfold scan_whole_f
  simp only [cond_eq_ite]
  repeat' split
  · simp only [decide_eq_true_eq] at *
    rw [valid1, i32_in r (by omega)]
    rfl
  all_goals refine someBq ?_
  all_goals simp only [Sp.isRune, beq_iff_eq, decide_eq_true_eq, decide_eq_false_iff_not, Bool.false_eq_true, false_iff, true_iff, Bool.not_eq_true] at *
  all_goals omega

theorem isRune2 (r : Int) : racetreeref01_IsRune r = some (Sp.isRune r) := by
  rw [racetreeref01_IsRune, sealF_eq]
  unfold racetreeref01_IsRune_f
  simp only [cond_eq_ite]
  repeat' split
  all_goals refine someBq ?_
  all_goals simp only [Sp.isRune, beq_iff_eq, decide_eq_true_eq, decide_eq_false_iff_not, Bool.false_eq_true, false_iff, true_iff, Bool.not_eq_true] at *
  all_goals omega

theorem letter1 (r : Int) : scan_Letter r = some (Sp.letter r) := by
  rw [scan_Letter, sealF_eq]
  unfold scan_Letter_f
  simp only [cond_eq_ite, whole1, Option.bind_some]
  repeat' split
  all_goals refine someBq ?_
  all_goals simp only [Sp.letter, Sp.isRune, beq_iff_eq, Bool.and_eq_true, decide_eq_true_eq, decide_eq_false_iff_not, Bool.false_eq_true, false_iff, true_iff, Bool.not_eq_true] at *
  all_goals omega

theorem letter2 (r : Int) : racetreeref01_Letter r = some (Sp.letter r) := by
  rw [racetreeref01_Letter, sealF_eq]
  unfold racetreeref01_Letter_f
  simp only [cond_eq_ite, isRune2, Option.bind_some]
  repeat' split
  all_goals refine someBq ?_
  all_goals simp only [Sp.letter, Sp.isRune, beq_iff_eq, Bool.and_eq_true, decide_eq_true_eq, decide_eq_false_iff_not, Bool.false_eq_true, false_iff, true_iff, Bool.not_eq_true] at *
  all_goals omega

theorem long2 (r : Int) : racetreeref01_long r = some (Sp.long r) := by
  rw [racetreeref01_long, sealF_eq]
  unfold racetreeref01_long_f Sp.long
  simp only [cond_eq_ite, decide_eq_true_eq]
  repeat' split
  all_goals rfl

theorem len1 (r : Int) (h : Sp.isRune r = true) : unicode_utf8_RuneLen r = some (Sp.long r) := by
  simp only [Sp.isRune, decide_eq_true_eq] at h
  rw [unicode_utf8_RuneLen, sealF_eq]
  unfold unicode_utf8_RuneLen_f Sp.long
  simp only [cond_eq_ite, decide_eq_true_eq]
  repeat' split
  all_goals first | rfl | omega

theorem atL (t : List UInt8) (p : Int) (m : Int) (hp : 0 ≤ p) (hm : p + m ≤ t.length) (ht : t.length ≤ 4000) (h4 : m ≤ 4) : ∀ (k n : Nat) (r i : Int), 1 ≤ i → (m - i).toNat = k → i ≤ m → k < n → 0 ≤ r → r < 64 ^ (i.toNat) * 64 → 
    racetreeref01_At_i18 n t p m r i = some (match Sp.cont t p k r i with | none => .inl (0, 0) | some x => .inr (m, x)) := by
  intro k
  induction k with
  | zero =>
    intro n r i h1 hk him hn h0 hr
    obtain ⟨n, rfl⟩ : ∃ q, n = q + 1 := ⟨n - 1, by omega⟩
    have c : ¬ i < m := by omega
    simp only [racetreeref01_At_i18, racetreeref01_At_t18, c, decide_false, cond_false, Sp.cont]
  | succ k ih =>
    intro n r i h1 hk him hn h0 hr
    obtain ⟨n, rfl⟩ : ∃ q, n = q + 1 := ⟨n - 1, by omega⟩
    have c : i < m := by omega
    have hi : i = 1 ∨ i = 2 ∨ i = 3 := by omega
    have hr' : r ≤ 64 * 64 * 64 * 64 := by
      rcases hi with rfl | rfl | rfl <;> simp at hr <;> omega
    have hlt : (p + i).toNat < t.length := by omega
    have h0' : 0 ≤ p + i := by omega
    simp only [racetreeref01_At_i18, racetreeref01_At_t18, Sp.cont]
    rw [i64_in (p + i) (by omega)]
    simp only [c, h0', decide_true, cond_true, List.getElem?_eq_getElem hlt, Option.bind_some]
    generalize t[(p + i).toNat] = d
    have hb : d.toNat < 256 := d.toNat_lt
    rw [i64_in (d.toNat : Int) (by omega)]
    by_cases c1 : d.toNat < 128
    · have : ((d.toNat : Int) < 128) := by omega
      simp only [c1, this, true_or, if_true, decide_true, cond_true]
    · by_cases c2 : 191 < d.toNat
      · have e1 : ¬ ((d.toNat : Int) < 128) := by omega
        have e2 : ((d.toNat : Int) > 191) := by omega
        simp only [c2, e1, e2, or_true, if_true, decide_true, decide_false, cond_true, cond_false]
      · have e1 : ¬ ((d.toNat : Int) < 128) := by omega
        have e2 : ¬ ((d.toNat : Int) > 191) := by omega
        simp only [c1, c2, e1, e2, or_self, if_false, decide_false, cond_false]
        rw [i64_in (64 * r) (by omega), i64_in (64 * r + d.toNat) (by omega), i64_in (64 * r + d.toNat - 128) (by omega), i64_in (i + 1) (by omega)]
        refine ih n _ _ (by omega) (by omega) (by omega) (by omega) (by omega) ?_
        rcases hi with rfl | rfl | rfl <;> simp at hr ⊢ <;> omega

theorem atL' (t : List UInt8) (p m r : Int) (hp : 0 ≤ p) (hm : p + m ≤ t.length) (ht : t.length ≤ 4000) (h4 : m ≤ 4) (h1 : 1 ≤ m) (h0 : 0 ≤ r) (hr : r ≤ 255) :
    racetreeref01_At_l18 t p m r 1 = some (match Sp.cont t p (m - 1).toNat r 1 with | none => .inl (0, 0) | some x => .inr (m, x)) := by
  rw [racetreeref01_At_l18, sealF_eq]
  exact atL t p m hp hm ht h4 _ fuel _ _ (by omega) rfl h1 (by unfold fuel; omega) h0 (by simp; omega)

theorem at2_ (t : List UInt8) (p : Int) (hp : 0 ≤ p) (h : p < t.length) (h4 : t.length ≤ 4000) : racetreeref01_At t p =
    some (Sp.at1 t p, Sp.at2 t p) := by
  have main : racetreeref01_At t p = some (ansA (t.drop p.toNat).length (Sp.by_ (t.drop p.toNat) 0) (Sp.by_ (t.drop p.toNat) 1) (Sp.by_ (t.drop p.toNat) 2) (Sp.by_ (t.drop p.toNat) 3)) := by
    obtain ⟨x, h1, h2⟩ := Sp.get_by (t := t) (j := 0) hp (by omega)
    have hb : x.toNat < 256 := x.toNat_lt
    have hl : ((t.drop p.toNat).length : Int) = t.length - p := by simp; omega
    rw [show p + (0 : Nat) = p by omega] at h1
    have h1' : t[Int.toNat p]? = some x := h1
    rw [racetreeref01_At, sealF_eq]
    unfold racetreeref01_At_f
    rw [h1', i64_in (t.length - p) (by omega)]
    simp only [Option.bind_some]
    rw [i64_in (x.toNat : Int) (by omega), i64_in ((x.toNat : Int) - 240) (by omega), i64_in ((x.toNat : Int) - 224) (by omega), i64_in ((x.toNat : Int) - 192) (by omega)]
    simp only [cond_eq_ite, decide_eq_true_eq, Bool.not_eq_true', bne_iff_ne, ne_eq]
    rw [if_pos hp]
    have fin : ∀ (c : Option Int) (k : Int) (a : Int × Int), (match c with | none => a = (0, 0) | some r => a = if (0 ≤ r ∧ r ≤ 1114111 ∧ (r < 55296 ∨ r > 57343)) ∧ Sp.long r = k then (r, k) else (0, 0)) →
        ((some (match c with | none => Sum.inl ((0 : Int), (0 : Int)) | some x => Sum.inr (k, x)) : Option ((Int × Int) ⊕ (Int × Int))).bind fun y1 =>
          match y1 with
          | .inl y2 => some ((Prod.fst y2), (Prod.snd y2))
          | .inr y2 =>
            Option.bind (racetreeref01_IsRune (Prod.snd y2)) fun y3 =>
            if y3 = false then
              some (((0 : Int)), ((0 : Int)))
            else
              Option.bind (racetreeref01_long (Prod.snd y2)) fun y4 =>
              if ¬ y4 = Prod.fst y2 then
                some (((0 : Int)), ((0 : Int)))
              else
                some ((Prod.snd y2), (Prod.fst y2))) = some a := by
      intro c k a hh
      cases c with
      | none => simp only at hh; subst hh; rfl
      | some r =>
        simp only at hh
        subst hh
        simp only [Option.bind_some, isRune2, long2, Sp.isRune, decide_eq_false_iff_not]
        by_cases q1 : (0 ≤ r ∧ r ≤ 1114111 ∧ (r < 55296 ∨ r > 57343))
        · by_cases q2 : Sp.long r = k
          · simp only [q1, q2, not_true_eq_false, if_false, true_and, if_true]
          · simp only [q1, q2, not_true_eq_false, if_false, true_and, not_false_eq_true, if_true]
        · rw [if_pos q1, if_neg (fun hh => q1 hh.1)]
    by_cases a1 : 240 ≤ x.toNat
    · rw [if_pos (show (x.toNat : Int) ≥ 240 by omega)]
      by_cases a2 : (t.drop p.toNat).length < 4
      · rw [if_pos (show (t.length : Int) - p < 4 by omega)]
        simp only [ansA, ← h2, a1, a2, if_true]
      · rw [if_neg (show ¬ (t.length : Int) - p < 4 by omega), atL' t p 4 _ hp (by omega) h4 (by omega) (by omega) (by omega) (by omega)]
        refine fin _ _ _ ?_
        rw [show ((4 : Int) - 1).toNat = 3 from rfl, Sp.cont3 hp (by omega)]
        simp only [ansA, ← h2, a1, a2, if_true, if_false]
        by_cases q1 : Sp.by_ (t.drop p.toNat) 1 < 128 ∨ 191 < Sp.by_ (t.drop p.toNat) 1
        · simp only [q1, if_true]
        by_cases q2 : Sp.by_ (t.drop p.toNat) 2 < 128 ∨ 191 < Sp.by_ (t.drop p.toNat) 2
        · simp only [q1, q2, if_true, if_false]
        by_cases q3 : Sp.by_ (t.drop p.toNat) 3 < 128 ∨ 191 < Sp.by_ (t.drop p.toNat) 3
        · simp only [q1, q2, q3, if_true, if_false]
        simp only [q1, q2, q3, if_false]
    · rw [if_neg (show ¬ (x.toNat : Int) ≥ 240 by omega)]
      by_cases b1 : 224 ≤ x.toNat
      · rw [if_pos (show (x.toNat : Int) ≥ 224 by omega)]
        by_cases a2 : (t.drop p.toNat).length < 3
        · rw [if_pos (show (t.length : Int) - p < 3 by omega)]
          simp only [ansA, ← h2, a1, b1, a2, if_true, if_false]
        · rw [if_neg (show ¬ (t.length : Int) - p < 3 by omega), atL' t p 3 _ hp (by omega) h4 (by omega) (by omega) (by omega) (by omega)]
          refine fin _ _ _ ?_
          rw [show ((3 : Int) - 1).toNat = 2 from rfl, Sp.cont2 hp (by omega)]
          simp only [ansA, ← h2, a1, b1, a2, if_true, if_false]
          by_cases q1 : Sp.by_ (t.drop p.toNat) 1 < 128 ∨ 191 < Sp.by_ (t.drop p.toNat) 1
          · simp only [q1, if_true]
          by_cases q2 : Sp.by_ (t.drop p.toNat) 2 < 128 ∨ 191 < Sp.by_ (t.drop p.toNat) 2
          · simp only [q1, q2, if_true, if_false]
          simp only [q1, q2, if_false]
      · rw [if_neg (show ¬ (x.toNat : Int) ≥ 224 by omega)]
        by_cases c1 : 192 ≤ x.toNat
        · rw [if_pos (show (x.toNat : Int) ≥ 192 by omega)]
          by_cases a2 : (t.drop p.toNat).length < 2
          · rw [if_pos (show (t.length : Int) - p < 2 by omega)]
            simp only [ansA, ← h2, a1, b1, c1, a2, if_true, if_false]
          · rw [if_neg (show ¬ (t.length : Int) - p < 2 by omega), atL' t p 2 _ hp (by omega) h4 (by omega) (by omega) (by omega) (by omega)]
            refine fin _ _ _ ?_
            rw [show ((2 : Int) - 1).toNat = 1 from rfl, Sp.cont1 hp (by omega)]
            simp only [ansA, ← h2, a1, b1, c1, a2, if_true, if_false]
            by_cases q1 : Sp.by_ (t.drop p.toNat) 1 < 128 ∨ 191 < Sp.by_ (t.drop p.toNat) 1
            · simp only [q1, if_true]
            simp only [q1, if_false]
        · rw [if_neg (show ¬ (x.toNat : Int) ≥ 192 by omega)]
          by_cases d1 : 128 ≤ x.toNat
          · rw [if_pos (show (x.toNat : Int) ≥ 128 by omega)]
            simp only [ansA, ← h2, a1, b1, c1, d1, if_true, if_false]
          · rw [if_neg (show ¬ (x.toNat : Int) ≥ 128 by omega), if_neg (show ¬ (t.length : Int) - p < 1 by omega), atL' t p 1 _ hp (by omega) h4 (by omega) (by omega) (by omega) (by omega)]
            refine fin (Sp.cont t p ((1 : Int) - 1).toNat (x.toNat : Int) 1) 1 _ ?_
            have r1 : (0 ≤ (x.toNat : Int) ∧ (x.toNat : Int) ≤ 1114111 ∧ ((x.toNat : Int) < 55296 ∨ (x.toNat : Int) > 57343)) := by omega
            have r2 : Sp.long (x.toNat : Int) = 1 := by unfold Sp.long; rw [if_pos (by omega)]
            rw [show ((1 : Int) - 1).toNat = 0 from rfl]
            simp only [Sp.cont, ansA, ← h2, a1, b1, c1, d1, if_false]
            rw [if_pos (And.intro r1 r2)]
  rw [main, ans_dl _ (by simp; omega)]
  unfold Sp.at1 Sp.at2
  rw [Sp.bad_eq, Sp.dc_eq]
  split <;> rfl

theorem on2 (s : Spot) (r n : Int) (h1 : -9000 ≤ s.at_ ∧ s.at_ ≤ 9000 ∧ -9000 ≤ s.line ∧ s.line ≤ 9000 ∧ -9000 ≤ s.col ∧ s.col ≤ 9000 ∧ 0 ≤ n ∧ n ≤ 4) : racetreeref01_on s r n = some (Sp.on s r n) := by
  rw [racetreeref01_on, sealF_eq]
  unfold racetreeref01_on_f Sp.on
  rw [i64_in (s.at_ + n) (by omega), i64_in (s.line + 1) (by omega), i64_in (s.col + 1) (by omega)]
  simp only [cond_eq_ite, beq_iff_eq]
  split <;> rfl

/-! The spots of a text, both ways. -/
theorem okSpot_lo {t : List UInt8} {s : Spot} (h : okSpot t s) : 0 ≤ s.at_ ∧ s.at_ ≤ t.length ∧ t.length ≤ 4000 ∧ 1 ≤ s.line ∧ s.line ≤ s.at_ + 1 ∧ 1 ≤ s.col ∧ s.col ≤ s.at_ + 1 :=
  ⟨h.2.1, h.2.2.1, h.1, h.2.2.2.1, h.2.2.2.2.1, h.2.2.2.2.2.1, h.2.2.2.2.2.2⟩

theorem spotsL (t : List UInt8) (a1 a2 a3 a4 : Int) : ∀ (k n : Nat) (c1 c2 c3 c4 : Int) (l : List Spot), t.length - c2.toNat ≤ k → k < n → okSpot t ⟨c1, c2, c3, c4⟩ → (l.length : Int) ≤ c2 →
    racetreeref01_spots_i3 n t a1 a2 a3 a4 c1 c2 c3 c4 l = some (a1, a2, a3, a4, (goneTo t l ⟨c1, c2, c3, c4⟩).2.rune, (goneTo t l ⟨c1, c2, c3, c4⟩).2.at_, (goneTo t l ⟨c1, c2, c3, c4⟩).2.line, (goneTo t l ⟨c1, c2, c3, c4⟩).2.col, (goneTo t l ⟨c1, c2, c3, c4⟩).1) := by
  intro k
  induction k with
  | zero =>
    intro n c1 c2 c3 c4 l hk hn hok hl
    obtain ⟨n, rfl⟩ : ∃ q, n = q + 1 := ⟨n - 1, by omega⟩
    have := okSpot_lo hok
    simp only at this
    have c : ¬ c2 < t.length := by omega
    rw [goneTo_end (s := ⟨c1, c2, c3, c4⟩) c]
    simp only [racetreeref01_spots_i3, racetreeref01_spots_t3, c, decide_false, cond_false]
  | succ k ih =>
    intro n c1 c2 c3 c4 l hk hn hok hl
    obtain ⟨n, rfl⟩ : ∃ q, n = q + 1 := ⟨n - 1, by omega⟩
    obtain ⟨h2, h3, h1, h4, h5, h6, h7⟩ := okSpot_lo hok
    simp only at h2 h3 h4 h5 h6 h7
    simp only [racetreeref01_spots_i3, racetreeref01_spots_t3]
    by_cases c : c2 < t.length
    · rw [at2_ t c2 h2 c h1]
      simp only [c, decide_true, cond_true, Option.bind_some]
      cases hb : Sp.bad t c2.toNat with
      | true =>
        have := (Sp.bad_at hb).2
        rw [goneTo_bad (s := ⟨c1, c2, c3, c4⟩) hb]
        simp only [this, beq_self_eq_true, cond_true]
      | false =>
        obtain ⟨g1, g2, g3, g4, g5, _⟩ := Sp.good_at h2 c hb
        have e0 : (Sp.at2 t c2 == 0) = false := by rw [beq_eq_false_iff_ne]; omega
        rw [goneTo_step (s := ⟨c1, c2, c3, c4⟩) h2 c hb]
        have hk' := okSpot_after hok c hb
        have haf := after_at t ⟨c1, c2, c3, c4⟩
        simp only at haf
        rw [e0, cond_false, on2 _ _ _ (by simp only; omega), cond_eq_ite, if_pos, Option.bind_some]
        · show racetreeref01_spots_i3 n t a1 a2 a3 a4 (after t ⟨c1, c2, c3, c4⟩).rune (after t ⟨c1, c2, c3, c4⟩).at_ (after t ⟨c1, c2, c3, c4⟩).line (after t ⟨c1, c2, c3, c4⟩).col (l ++ [here t ⟨c1, c2, c3, c4⟩]) = _
          refine ih n _ _ _ _ _ ?_ (by omega) hk' ?_
          · omega
          · simp only [List.length_append, List.length_cons, List.length_nil]
            omega
        · simp only [decide_eq_true_eq, List.length_cons, List.length_nil]; omega
    · simp only [c, decide_false, cond_false]
      rw [goneTo_end (s := ⟨c1, c2, c3, c4⟩) c]

theorem spots2_ (t : List UInt8) (h : t.length ≤ 4000) : racetreeref01_spots t = some (Sp.spots2 t, Sp.spots1 t) := by
  rw [racetreeref01_spots, sealF_eq]
  unfold racetreeref01_spots_f
  rw [racetreeref01_spots_l3, sealF_eq, spotsL t _ _ _ _ t.length fuel 0 0 1 1 [] (by simp) (by unfold fuel; omega) (by unfold okSpot; simp only; omega) (by simp)]
  rfl

theorem goneL (s : List UInt8) (a1 a2 a3 a4 : Int) : ∀ (k n : Nat) (c2 c3 c4 : Int) (pos : Nat) (l : List Spot), s.length - c2.toNat ≤ k → k < n → okSpot s ⟨-1, c2, c3, c4⟩ → (l.length : Int) ≤ c2 → (pos : Int) = c2 →
    scan_gone_i4 n s a1 a2 a3 a4 (-1) c2 c3 c4 s pos l = some (if (goneTo s l ⟨-1, c2, c3, c4⟩).2.at_ < s.length then
      .inl (-1, (goneTo s l ⟨-1, c2, c3, c4⟩).2.at_, (goneTo s l ⟨-1, c2, c3, c4⟩).2.line, (goneTo s l ⟨-1, c2, c3, c4⟩).2.col, (goneTo s l ⟨-1, c2, c3, c4⟩).1)
      else .inr (a1, a2, a3, a4, -1, (goneTo s l ⟨-1, c2, c3, c4⟩).2.at_, (goneTo s l ⟨-1, c2, c3, c4⟩).2.line, (goneTo s l ⟨-1, c2, c3, c4⟩).2.col, (goneTo s l ⟨-1, c2, c3, c4⟩).1)) := by
  intro k
  induction k with
  | zero =>
    intro n c2 c3 c4 pos l hk hn hok hl hp
    obtain ⟨n, rfl⟩ : ∃ q, n = q + 1 := ⟨n - 1, by omega⟩
    have := okSpot_lo hok
    simp only at this
    have c : ¬ c2 < s.length := by omega
    have c' : ¬ pos < s.length := by omega
    rw [goneTo_end (s := ⟨-1, c2, c3, c4⟩) c, if_neg c]
    simp only [scan_gone_i4, scan_gone_t4, c', decide_false, cond_false]
  | succ k ih =>
    intro n c2 c3 c4 pos l hk hn hok hl hp
    obtain ⟨n, rfl⟩ : ∃ q, n = q + 1 := ⟨n - 1, by omega⟩
    obtain ⟨h2, h3, h1, h4, h5, h6, h7⟩ := okSpot_lo hok
    simp only at h2 h3 h4 h5 h6 h7
    have hq : pos = c2.toNat := by omega
    simp only [scan_gone_i4, scan_gone_t4]
    by_cases c : c2 < s.length
    · have hlt : pos < s.length := by omega
      have hdc : Utf8.decode ⟨s.toArray⟩ pos = Sp.dc s c2.toNat := by rw [hq]; rfl
      rw [hdc]
      rw [i64_in ((pos : Int) + 3) (by omega)]
      have hmin : (if (pos : Int) + 3 < (s.length : Int) then (pos : Int) + 3 else (s.length : Int)) = (min s.length (c2.toNat + 3) : Nat) := by
        split <;> omega
      rw [hmin]
      have hslice : List.drop (Int.toNat (pos : Int)) (List.take (Int.toNat ((min s.length (c2.toNat + 3) : Nat) : Int)) s) = (s.take (min s.length (c2.toNat + 3))).drop c2.toNat := by
        rw [Int.toNat_natCast, Int.toNat_natCast, hq]
      rw [hslice]
      have hbnd : (decide ((0 : Int) ≤ (pos : Int)) && (decide ((pos : Int) ≤ (min s.length (c2.toNat + 3) : Nat)) && decide (((min s.length (c2.toNat + 3) : Nat) : Int) ≤ (s.length : Int)))) = true := by
        simp only [Bool.and_eq_true, decide_eq_true_eq]; omega
      rw [hbnd]
      have hbad : Sp.bad s c2.toNat = (decide ((Sp.dc s c2.toNat).1 = 65533) && !(((s.take (min s.length (c2.toNat + 3))).drop c2.toNat) == [239, 191, 189])) := rfl
      simp only [hlt, decide_true, cond_true]
      cases hb : Sp.bad s c2.toNat with
      | true =>
        rw [hb] at hbad
        have hbad := hbad.symm
        simp only [Bool.and_eq_true, decide_eq_true_eq] at hbad
        have e1 : (((Sp.dc s c2.toNat).1 : Int) == 65533) = true := by rw [beq_iff_eq]; omega
        rw [e1, hbad.2]
        simp only [cond_true]
        rw [goneTo_bad (s := ⟨-1, c2, c3, c4⟩) hb, if_pos c]
      | false =>
        obtain ⟨g1, g2, g3, g4, g5, g6, g7⟩ := Sp.good_at h2 c hb
        rw [goneTo_step (s := ⟨-1, c2, c3, c4⟩) h2 c hb]
        generalize hR : (some (ite ((goneTo s (l ++ [here s ⟨-1, c2, c3, c4⟩]) (after s ⟨-1, c2, c3, c4⟩)).2.at_ < (s.length : Int)) _ _) : Option _) = R
        have hk' := okSpot_after hok c hb
        have haf := after_at s ⟨-1, c2, c3, c4⟩
        simp only at haf
        have hrune : Sp.isRune ((Sp.dc s c2.toNat).1 : Int) = true := by rw [← g6]; exact g1
        have hlong : Sp.long ((Sp.dc s c2.toNat).1 : Int) = Sp.at2 s c2 := by rw [← g6]; exact g2
        have hr : (0 : Int) ≤ (Sp.dc s c2.toNat).1 ∧ ((Sp.dc s c2.toNat).1 : Int) ≤ 1114111 := by
          simp only [Sp.isRune, decide_eq_true_eq] at hrune; omega
        rw [len1 _ hrune, hlong, Option.bind_some]
        rw [i64_in ((Sp.dc s c2.toNat).1 : Int) (by omega), i64_in (c2 + Sp.at2 s c2) (by omega), i64_in (c3 + 1) (by omega), i64_in (c4 + 1) (by omega)]
        have hhere : here s ⟨-1, c2, c3, c4⟩ = ⟨((Sp.dc s c2.toNat).1 : Int), c2, c3, c4⟩ := by unfold here; rw [g6]
        have go : ∀ (b3 b4 : Int), (after s ⟨-1, c2, c3, c4⟩).line = b3 → (after s ⟨-1, c2, c3, c4⟩).col = b4 →
            scan_gone_i4 n s a1 a2 a3 a4 (-1) (c2 + Sp.at2 s c2) b3 b4 s (pos + (Sp.dc s c2.toNat).2) (l ++ [⟨((Sp.dc s c2.toNat).1 : Int), c2, c3, c4⟩]) =
              R := by
          intro b3 b4 e3 e4
          rw [← hR]
          have hk2 : okSpot s ⟨-1, c2 + Sp.at2 s c2, b3, b4⟩ := by
            obtain ⟨q1, q2, q3, q4, q5, q6, q7⟩ := hk'
            rw [haf] at q2 q3 q5 q7
            rw [e3] at q4 q5
            rw [e4] at q6 q7
            exact ⟨q1, q2, q3, q4, q5, q6, q7⟩
          have heta : after s ⟨-1, c2, c3, c4⟩ = ⟨(after s ⟨-1, c2, c3, c4⟩).rune, c2 + Sp.at2 s c2, b3, b4⟩ := by
            rw [← haf, ← e3, ← e4]
          rw [ih n _ _ _ _ _ (by omega) (by omega) hk2 (by simp only [List.length_append, List.length_cons, List.length_nil]; omega) (by omega)]
          rw [hhere, heta]
          obtain ⟨y1, y2, y3, y4⟩ := gone_rune s (l ++ [⟨((Sp.dc s c2.toNat).1 : Int), c2, c3, c4⟩]) (-1) (after s ⟨-1, c2, c3, c4⟩).rune (c2 + Sp.at2 s c2) b3 b4
          rw [y1, y2, y3, y4]
        have main : (bif decide ((List.length l + List.length [Spot.mk ((Sp.dc s c2.toNat).1 : Int) c2 c3 c4]) * (32 : Nat) ≤ (140737488355328 : Nat) ∧ List.length l + List.length [Spot.mk ((Sp.dc s c2.toNat).1 : Int) c2 c3 c4] ≤ (9223372036854775807 : Nat)) then
              bif ((Sp.dc s c2.toNat).1 : Int) == (10 : Int) then
                scan_gone_i4 n s a1 a2 a3 a4 (-1) (c2 + Sp.at2 s c2) (c3 + 1) 1 s (pos + (Sp.dc s c2.toNat).2) (l ++ [⟨((Sp.dc s c2.toNat).1 : Int), c2, c3, c4⟩])
              else
                scan_gone_i4 n s a1 a2 a3 a4 (-1) (c2 + Sp.at2 s c2) c3 (c4 + 1) s (pos + (Sp.dc s c2.toNat).2) (l ++ [⟨((Sp.dc s c2.toNat).1 : Int), c2, c3, c4⟩])
            else none) = R := by
          have hlen1 : ((List.length l + List.length [Spot.mk ((Sp.dc s c2.toNat).1 : Int) c2 c3 c4]) * (32 : Nat) ≤ (140737488355328 : Nat) ∧ List.length l + List.length [Spot.mk ((Sp.dc s c2.toNat).1 : Int) c2 c3 c4] ≤ (9223372036854775807 : Nat)) := by
            simp only [List.length_cons, List.length_nil]; omega
          rw [decide_eq_true hlen1, cond_true]
          cases e10 : (((Sp.dc s c2.toNat).1 : Int) == 10) with
          | true =>
            have : Sp.at1 s c2 = 10 := by rw [g6]; exact beq_iff_eq.1 e10
            exact go _ _ (by simp [after, here, Sp.on, this]) (by simp [after, here, Sp.on, this])
          | false =>
            have : ¬ Sp.at1 s c2 = 10 := by rw [g6]; exact beq_eq_false_iff_ne.1 e10
            exact go _ _ (by simp [after, here, Sp.on, this]) (by simp [after, here, Sp.on, this])
        cases e1 : (((Sp.dc s c2.toNat).1 : Int) == 65533) with
        | true =>
          rw [hb] at hbad
          have e2 : decide ((Sp.dc s c2.toNat).1 = 65533) = true := by
            have := beq_iff_eq.1 e1
            rw [decide_eq_true_eq]; omega
          rw [e2, Bool.true_and] at hbad
          rw [← hbad]
          simp only [cond_true, cond_false]
          exact main
        | false =>
          simp only [cond_false]
          exact main
    · have hlt : ¬ pos < s.length := by omega
      simp only [hlt, decide_false, cond_false]
      rw [goneTo_end (s := ⟨-1, c2, c3, c4⟩) c, if_neg c]

theorem gone1 (t : List UInt8) (h : t.length ≤ 4000) : scan_gone t = some (Sp.spots2 t, Sp.spots1 t) := by
  have g : goneTo t [] ⟨0, 0, 1, 1⟩ = Sp.spotsFrom t t.length [] ⟨0, 0, 1, 1⟩ := rfl
  obtain ⟨y1, y2, y3, y4⟩ := gone_rune t [] (-1) 0 0 1 1
  rw [g] at y1 y2 y3 y4
  have e2 : (⟨-1, (goneTo t [] ⟨-1, 0, 1, 1⟩).2.at_, (goneTo t [] ⟨-1, 0, 1, 1⟩).2.line, (goneTo t [] ⟨-1, 0, 1, 1⟩).2.col⟩ : Spot) = Sp.spots2 t := by
    rw [y2, y3, y4]; rfl
  have e1 : (goneTo t [] ⟨-1, 0, 1, 1⟩).1 = Sp.spots1 t := y1
  rw [scan_gone, sealF_eq]
  unfold scan_gone_f
  rw [scan_gone_l4, sealF_eq, goneL t _ _ _ _ t.length fuel 0 1 1 0 [] (by simp) (by unfold fuel; omega) (by unfold okSpot; simp only; omega) (by simp) (by simp), Option.bind_some]
  split
  · rename_i y heq
    split at heq
    · cases heq
      simp only [e1, e2]
    · cases heq
  · rename_i y heq
    split at heq
    · cases heq
    · cases heq
      simp only [e1, e2]

theorem runes2_ (t : List UInt8) : racetreeref01_Runes t = some (Sp.runes2 t, Sp.runes1 t) := by
  rw [racetreeref01_Runes, sealF_eq]
  unfold racetreeref01_Runes_f Sp.runes1 Sp.runes2
  simp only [cond_eq_ite, decide_eq_true_eq]
  by_cases h : 4000 < t.length
  · rw [if_pos (show (t.length : Int) > 4000 by omega), if_pos h, if_pos h]
  · rw [if_neg (show ¬ (t.length : Int) > 4000 by omega), if_neg h, if_neg h, spots2_ t (by omega), Option.bind_some]
    by_cases h2 : (Sp.spots2 t).at_ < t.length
    · rw [if_pos h2, if_pos h2, if_pos h2]
    · rw [if_neg h2, if_neg h2, if_neg h2]

theorem runes1_ (t : List UInt8) : scan_Runes t = some (Sp.runes2 t, Sp.runes1 t) := by
  rw [scan_Runes, sealF_eq]
  unfold scan_Runes_f Sp.runes1 Sp.runes2
  simp only [cond_eq_ite, decide_eq_true_eq]
  by_cases h : 4000 < t.length
  · rw [if_pos (show (t.length : Int) > 4000 by omega), if_pos h, if_pos h]
  · rw [if_neg (show ¬ (t.length : Int) > 4000 by omega), if_neg h, if_neg h, gone1 t (by omega), Option.bind_some]
    by_cases h2 : (Sp.spots2 t).at_ < t.length
    · rw [if_pos h2, if_pos h2, if_pos h2]
    · rw [if_neg h2, if_neg h2, if_neg h2]
end Lift.A1P

/- The functions of layer 1, continued: texts, places, the law functions. -/
namespace Lift.A1P
open Go Go.RowKit Lift Go.IntWalk Lift.Fn

theorem sameL (a b : List Spot) (ha : a.length ≤ 9000000) (hb : a.length = b.length) : ∀ (k n : Nat) (i : Int), 0 ≤ i → a.length - i.toNat ≤ k → k < n →
    racetreelaw01_same_i4 n a b i = some (if Sp.same (a.drop i.toNat) (b.drop i.toNat) then .inr () else .inl false) := by
  intro k
  induction k with
  | zero =>
    intro n i h0 hk hn
    obtain ⟨n, rfl⟩ : ∃ q, n = q + 1 := ⟨n - 1, by omega⟩
    have c : ¬ i < a.length := by omega
    have e1 : a.drop i.toNat = [] := List.drop_eq_nil_of_le (by omega)
    have e2 : b.drop i.toNat = [] := List.drop_eq_nil_of_le (by omega)
    rw [e1, e2]
    simp only [racetreelaw01_same_i4, racetreelaw01_same_t4, c, decide_false, cond_false]
    simp [Sp.same]
  | succ k ih =>
    intro n i h0 hk hn
    obtain ⟨n, rfl⟩ : ∃ q, n = q + 1 := ⟨n - 1, by omega⟩
    by_cases c : i < a.length
    · have h1 : i.toNat < a.length := by omega
      have h2 : i.toNat < b.length := by omega
      rw [same_drop h1 h2]
      simp only [racetreelaw01_same_i4, racetreelaw01_same_t4, c, h0, decide_true, cond_true, List.getElem?_eq_getElem h1, List.getElem?_eq_getElem h2, Option.bind_some]
      cases hc : decide (a[i.toNat] = b[i.toNat]) with
      | false => simp
      | true =>
        simp only [Bool.true_and, Bool.not_true, cond_false]
        rw [i64_in (i + 1) (by omega), ih n _ (by omega) (by omega) (by omega), show (i + 1).toNat = i.toNat + 1 by omega]
    · have e1 : a.drop i.toNat = [] := List.drop_eq_nil_of_le (by omega)
      have e2 : b.drop i.toNat = [] := List.drop_eq_nil_of_le (by omega)
      rw [e1, e2]
      simp only [racetreelaw01_same_i4, racetreelaw01_same_t4, c, decide_false, cond_false]
      simp [Sp.same]

theorem same1 (a b : List Spot) (ha : a.length ≤ 9000000) : racetreelaw01_same a b = some (Sp.same a b) := by
  rw [racetreelaw01_same, sealF_eq]
  unfold racetreelaw01_same_f
  by_cases hl : a.length = b.length
  · have e : ((a.length : Int) != (b.length : Int)) = false := by simp [hl]
    rw [e, cond_false, racetreelaw01_same_l4, sealF_eq, sameL a b ha hl a.length fuel 0 (by omega) (by omega) (by unfold fuel; omega)]
    simp only [Int.toNat_zero, List.drop_zero, Option.bind_some]
    cases Sp.same a b <;> rfl
  · have e : ((a.length : Int) != (b.length : Int)) = true := by simp; omega
    have : Sp.same a b = false := by
      simp only [Sp.same, decide_eq_false_iff_not]
      intro hh
      exact hl (by rw [hh])
    rw [e, this]
    rfl

/-! texts -/
theorem u8_in (x : Int) (h : 0 ≤ x ∧ x < 256) : IntKind.wrap IntKind.u8 x = x := by
  unfold IntKind.wrap
  simp only [IntKind.bits, IntKind.signed]
  simp
  omega

theorem encoded2 (r : Int) (h : Sp.isRune r = true) : racetreeref01_Encoded r = some (Sp.enc r) := by
  simp only [Sp.isRune, decide_eq_true_eq] at h
  rw [racetreeref01_Encoded, sealF_eq]
  unfold racetreeref01_Encoded_f Sp.enc
  rw [long2, Option.bind_some]
  have t1 : Int.tdiv r 64 = r / 64 := Int.tdiv_eq_ediv_of_nonneg h.1
  have t2 : Int.tdiv r 4096 = r / 4096 := Int.tdiv_eq_ediv_of_nonneg h.1
  have t3 : Int.tdiv r 262144 = r / 262144 := Int.tdiv_eq_ediv_of_nonneg h.1
  have m1 : Int.tmod r 64 = r % 64 := Int.tmod_eq_emod_of_nonneg h.1
  rw [t1, t2, t3, m1, i64_in (r / 64) (by omega), i64_in (r / 4096) (by omega), i64_in (r / 262144) (by omega)]
  have m2 : Int.tmod (r / 64) 64 = r / 64 % 64 := Int.tmod_eq_emod_of_nonneg (by omega)
  have m3 : Int.tmod (r / 4096) 64 = r / 4096 % 64 := Int.tmod_eq_emod_of_nonneg (by omega)
  rw [m2, m3, i64_in (192 + r / 64) (by omega), i64_in (128 + r % 64) (by omega), i64_in (224 + r / 4096) (by omega), i64_in (128 + r / 64 % 64) (by omega), i64_in (240 + r / 262144) (by omega), i64_in (128 + r / 4096 % 64) (by omega)]
  rw [u8_in (128 + r % 64) (by omega), u8_in (128 + r / 64 % 64) (by omega), u8_in (128 + r / 4096 % 64) (by omega)]
  unfold Sp.long
  by_cases a1 : r < 128
  · rw [if_pos a1, if_pos a1, u8_in r (by omega)]; rfl
  rw [if_neg a1, if_neg a1]
  by_cases a2 : r < 2048
  · rw [if_pos a2, if_pos a2, u8_in (192 + r / 64) (by omega)]; rfl
  rw [if_neg a2, if_neg a2]
  by_cases a3 : r < 65536
  · rw [if_pos a3, if_pos a3, u8_in (224 + r / 4096) (by omega)]; rfl
  rw [if_neg a3, if_neg a3, u8_in (240 + r / 262144) (by omega)]; rfl

theorem text2L (l : List Int) (hl : l.length ≤ 4000) : ∀ (k n : Nat) (i : Int) (o : List Int), 0 ≤ i → l.length - i.toNat ≤ k → k < n → (o.length : Int) ≤ 4 * i →
    racetreeref01_Text_i5 n l i o = some (if (l.drop i.toNat).all Sp.isRune then .inr (o ++ (l.drop i.toNat).flatMap Sp.enc) else .inl ([], 1)) := by
  intro k
  have fin : ∀ (n : Nat) (i : Int) (o : List Int), 0 ≤ i → ¬ i < l.length → racetreeref01_Text_i5 (n + 1) l i o = some (if (l.drop i.toNat).all Sp.isRune then .inr (o ++ (l.drop i.toNat).flatMap Sp.enc) else .inl ([], 1)) := by
    intro n i o h0 c
    have e1 : l.drop i.toNat = [] := List.drop_eq_nil_of_le (by omega)
    rw [e1]
    simp only [racetreeref01_Text_i5, racetreeref01_Text_t5, c, decide_false, cond_false]
    simp
  induction k with
  | zero =>
    intro n i o h0 hk hn ho
    obtain ⟨n, rfl⟩ : ∃ q, n = q + 1 := ⟨n - 1, by omega⟩
    exact fin n i o h0 (by omega)
  | succ k ih =>
    intro n i o h0 hk hn ho
    obtain ⟨n, rfl⟩ : ∃ q, n = q + 1 := ⟨n - 1, by omega⟩
    by_cases c : i < l.length
    · have ha : i.toNat < l.length := by omega
      rw [List.drop_eq_getElem_cons ha]
      simp only [racetreeref01_Text_i5, racetreeref01_Text_t5, c, h0, decide_true, cond_true, List.getElem?_eq_getElem ha, Option.bind_some, isRune2, List.all_cons, List.flatMap_cons]
      cases hc : Sp.isRune l[i.toNat] with
      | false => rfl
      | true =>
        rw [encoded2 _ hc]
        simp only [Bool.true_and, Bool.not_true, cond_false, Option.bind_some]
        have hle := enc_len l[i.toNat]
        rw [decide_eq_true (show _ ∧ _ by constructor <;> omega), cond_true, i64_in (i + 1) (by omega), ih n _ _ (by omega) (by omega) (by omega) (by rw [List.length_append]; omega), show (i + 1).toNat = i.toNat + 1 by omega, List.append_assoc]
    · exact fin n i o h0 c

theorem bytes_len (l : List Int) : (bytesOf l).length = l.length := by simp [bytesOf]

theorem text2_ (l : List Int) : racetreeref01_Text l = some (Sp.text1 l, Sp.text2 l) := by
  rw [racetreeref01_Text, sealF_eq]
  unfold racetreeref01_Text_f Sp.text1 Sp.text2 Sp.textOf
  simp only [cond_eq_ite, decide_eq_true_eq]
  by_cases h : 4000 < l.length
  · rw [if_pos (show (l.length : Int) > 4000 by omega), if_pos h, if_pos h]
  rw [if_neg (show ¬ (l.length : Int) > 4000 by omega), if_neg h, if_neg h]
  rw [racetreeref01_Text_l5, sealF_eq, text2L l (by omega) l.length fuel 0 [] (by omega) (by omega) (by unfold fuel; omega) (by simp), Option.bind_some]
  simp only [Int.toNat_zero, List.drop_zero, List.nil_append]
  by_cases h2 : l.all Sp.isRune = true
  · have e := text_eq l h2
    have e2 : (l.flatMap Sp.enc).length = (runesOf l).length := by rw [← e, bytes_len]
    simp only [if_pos h2, e, e2]
    by_cases h3 : 4000 < (runesOf l).length
    · rw [if_pos (show ((runesOf l).length : Int) > 4000 by omega), if_pos h3, if_pos h3]
    · rw [if_neg (show ¬ ((runesOf l).length : Int) > 4000 by omega), if_neg h3, if_neg h3]
  · simp only [if_neg h2]

theorem text1L (l : List Int) (hl : l.length ≤ 4000) : ∀ (k n : Nat) (i : Int) (o : List Int), 0 ≤ i → l.length - i.toNat ≤ k → k < n → (o.length : Int) ≤ i →
    scan_Text_i5 n l l.length i o = some (if (l.drop i.toNat).all Sp.isRune then .inr (o ++ l.drop i.toNat) else .inl ([], 1)) := by
  intro k
  have fin : ∀ (n : Nat) (i : Int) (o : List Int), 0 ≤ i → ¬ i < l.length → scan_Text_i5 (n + 1) l l.length i o = some (if (l.drop i.toNat).all Sp.isRune then .inr (o ++ l.drop i.toNat) else .inl ([], 1)) := by
    intro n i o h0 c
    have e1 : l.drop i.toNat = [] := List.drop_eq_nil_of_le (by omega)
    rw [e1]
    simp only [scan_Text_i5, scan_Text_t5, c, decide_false, cond_false]
    simp
  induction k with
  | zero =>
    intro n i o h0 hk hn ho
    obtain ⟨n, rfl⟩ : ∃ q, n = q + 1 := ⟨n - 1, by omega⟩
    exact fin n i o h0 (by omega)
  | succ k ih =>
    intro n i o h0 hk hn ho
    obtain ⟨n, rfl⟩ : ∃ q, n = q + 1 := ⟨n - 1, by omega⟩
    by_cases c : i < l.length
    · have ha : i.toNat < l.length := by omega
      rw [List.drop_eq_getElem_cons ha]
      simp only [scan_Text_i5, scan_Text_t5, c, h0, decide_true, cond_true, List.getElem?_eq_getElem ha, Option.bind_some, whole1, List.all_cons]
      rcases Bool.eq_false_or_eq_true (Sp.isRune l[i.toNat]) with hc | hc
      rotate_left
      · simp only [hc, Bool.false_and, Bool.not_false, cond_true]; rfl
      · have hr : 0 ≤ l[i.toNat] ∧ l[i.toNat] ≤ 1114111 := by
          simp only [Sp.isRune, decide_eq_true_eq] at hc; omega
        simp only [hc, Bool.true_and, Bool.not_true, cond_false]
        rw [i32_in l[i.toNat] (by omega), decide_eq_true (show _ ∧ _ by simp only [List.length_cons, List.length_nil]; omega), cond_true, i64_in (i + 1) (by omega), ih n _ _ (by omega) (by omega) (by omega) (by simp only [List.length_append, List.length_cons, List.length_nil]; omega), show (i + 1).toNat = i.toNat + 1 by omega, List.append_assoc]
        rfl
    · exact fin n i o h0 c

theorem text1_ (l : List Int) : scan_Text l = some (Sp.text1 l, Sp.text2 l) := by
  rw [scan_Text, sealF_eq]
  unfold scan_Text_f Sp.text1 Sp.text2 Sp.textOf
  simp only [cond_eq_ite, decide_eq_true_eq]
  by_cases h : 4000 < l.length
  · rw [if_pos (show (l.length : Int) > 4000 by omega), if_pos h, if_pos h]
  rw [if_neg (show ¬ (l.length : Int) > 4000 by omega), if_neg h, if_neg h]
  rw [scan_Text_l5, sealF_eq, text1L l (by omega) l.length fuel 0 [] (by omega) (by omega) (by unfold fuel; omega) (by simp), Option.bind_some]
  simp only [Int.toNat_zero, List.drop_zero, List.nil_append]
  by_cases h2 : l.all Sp.isRune = true
  · simp only [if_pos h2]
    by_cases h3 : 4000 < (runesOf l).length
    · rw [if_pos (show ((runesOf l).length : Int) > 4000 by omega), if_pos h3, if_pos h3]
    · rw [if_neg (show ¬ ((runesOf l).length : Int) > 4000 by omega), if_neg h3, if_neg h3]
  · simp only [if_neg h2]

/-! places -/
theorem place1L (p : Int) (l : List Spot) (hl : l.length ≤ 4000) (a1 a2 a3 a4 : Int) : ∀ (k n : Nat) (i : Int), 0 ≤ i → l.length - i.toNat ≤ k → k < n →
    scan_Place_i8 n p l.length i a1 a2 a3 a4 l = some (match fnd l i p with | some s => .inl (0, s.rune, s.at_, s.line, s.col) | none => .inr (a1, a2, a3, a4)) := by
  intro k
  have fin : ∀ (n : Nat) (i : Int), 0 ≤ i → ¬ i < l.length → scan_Place_i8 (n + 1) p l.length i a1 a2 a3 a4 l = some (match fnd l i p with | some s => .inl (0, s.rune, s.at_, s.line, s.col) | none => .inr (a1, a2, a3, a4)) := by
    intro n i h0 c
    rw [fnd_end h0 c]
    simp only [scan_Place_i8, scan_Place_t8, c, decide_false, cond_false]
  induction k with
  | zero =>
    intro n i h0 hk hn
    obtain ⟨n, rfl⟩ : ∃ q, n = q + 1 := ⟨n - 1, by omega⟩
    exact fin n i h0 (by omega)
  | succ k ih =>
    intro n i h0 hk hn
    obtain ⟨n, rfl⟩ : ∃ q, n = q + 1 := ⟨n - 1, by omega⟩
    by_cases c : i < l.length
    · have ha : i.toNat < l.length := by omega
      simp only [scan_Place_i8, scan_Place_t8, c, h0, decide_true, cond_true, Bool.and_self, List.getElem?_eq_getElem ha, Option.bind_some]
      rw [fnd_step h0 ha]
      by_cases hc : l[i.toNat].at_ = p
      · have : (l[i.toNat].at_ == p) = true := beq_iff_eq.2 hc
        rw [this, if_pos hc]
        rfl
      · have : (l[i.toNat].at_ == p) = false := beq_eq_false_iff_ne.2 hc
        rw [this, cond_false, i64_in (i + 1) (by omega), if_neg hc]
        exact ih n _ (by omega) (by omega) (by omega)
    · exact fin n i h0 c

theorem place2L (t : List UInt8) (p : Int) (l : List Spot) (hl : l.length ≤ 4000) (a1 a2 a3 a4 : Int) : ∀ (k n : Nat) (i : Int), 0 ≤ i → l.length - i.toNat ≤ k → k < n →
    racetreeref01_Place_i5 n t p i a1 a2 a3 a4 l = some (match fnd l i p with | some s => .inl (0, s.rune, s.at_, s.line, s.col) | none => .inr (t, p, a1, a2, a3, a4)) := by
  intro k
  have fin : ∀ (n : Nat) (i : Int), 0 ≤ i → ¬ i < l.length → racetreeref01_Place_i5 (n + 1) t p i a1 a2 a3 a4 l = some (match fnd l i p with | some s => .inl (0, s.rune, s.at_, s.line, s.col) | none => .inr (t, p, a1, a2, a3, a4)) := by
    intro n i h0 c
    rw [fnd_end h0 c]
    simp only [racetreeref01_Place_i5, racetreeref01_Place_t5, c, decide_false, cond_false]
  induction k with
  | zero =>
    intro n i h0 hk hn
    obtain ⟨n, rfl⟩ : ∃ q, n = q + 1 := ⟨n - 1, by omega⟩
    exact fin n i h0 (by omega)
  | succ k ih =>
    intro n i h0 hk hn
    obtain ⟨n, rfl⟩ : ∃ q, n = q + 1 := ⟨n - 1, by omega⟩
    by_cases c : i < l.length
    · have ha : i.toNat < l.length := by omega
      simp only [racetreeref01_Place_i5, racetreeref01_Place_t5, c, h0, decide_true, cond_true, Bool.and_self, List.getElem?_eq_getElem ha, Option.bind_some]
      rw [fnd_step h0 ha]
      by_cases hc : l[i.toNat].at_ = p
      · have : (l[i.toNat].at_ == p) = true := beq_iff_eq.2 hc
        rw [this, if_pos hc]
        rfl
      · have : (l[i.toNat].at_ == p) = false := beq_eq_false_iff_ne.2 hc
        rw [this, cond_false, i64_in (i + 1) (by omega), if_neg hc]
        exact ih n _ (by omega) (by omega) (by omega)
    · exact fin n i h0 c

theorem no_end {t : List UInt8} {p : Int} (hp : p = t.length) : fnd (Sp.runes1 t) 0 p = none := by
  rw [fnd_zero, List.find?_eq_none]
  intro x hx hh
  have := (runes_inv t).2 x hx
  simp only [decide_eq_true_eq] at hh
  omega

theorem place1_ (t : List UInt8) (p : Int) : scan_Place t p = some (Sp.place1 t p, Sp.place2 t p) := by
  obtain ⟨r1, r2⟩ := runes_inv t
  rw [scan_Place, sealF_eq]
  unfold scan_Place_f
  rw [runes1_, Option.bind_some]
  simp only
  by_cases hc : (Sp.runes2 t).code = 0
  · have e : ((Sp.runes2 t).code != 0) = false := by simp [hc]
    have hl := code_ok hc
    rw [e, cond_false]
    by_cases hp : p = t.length
    · have e2 : (p == (t.length : Int)) = true := by simp [hp]
      obtain ⟨q1, q2⟩ := place_end hc hp
      rw [e2, cond_true, q1, q2, gone1 t hl, Option.bind_some]
    · have e2 : (p == (t.length : Int)) = false := by simp [hp]
      obtain ⟨q1, q2⟩ := place_in hc hp
      rw [e2, cond_false, q1, q2, scan_Place_l8, sealF_eq, place1L p _ r1 _ _ _ _ (Sp.runes1 t).length fuel 0 (by omega) (by omega) (by unfold fuel; omega), Option.bind_some]
      cases hf : fnd (Sp.runes1 t) 0 p with
      | none => rfl
      | some x => rfl
  · have e : ((Sp.runes2 t).code != 0) = true := by simp [hc]
    obtain ⟨q1, q2⟩ := place_bad (p := p) hc
    rw [e, cond_true, q1, q2]
    rfl

theorem place2_ (t : List UInt8) (p : Int) : racetreeref01_Place t p = some (Sp.place1 t p, Sp.place2 t p) := by
  obtain ⟨r1, r2⟩ := runes_inv t
  rw [racetreeref01_Place, sealF_eq]
  unfold racetreeref01_Place_f
  rw [runes2_, Option.bind_some]
  simp only
  by_cases hc : (Sp.runes2 t).code = 0
  · have e : ((Sp.runes2 t).code != 0) = false := by simp [hc]
    have hl := code_ok hc
    rw [e, cond_false, racetreeref01_Place_l5, sealF_eq, place2L t p _ r1 _ _ _ _ (Sp.runes1 t).length fuel 0 (by omega) (by omega) (by unfold fuel; omega), Option.bind_some]
    by_cases hp : p = t.length
    · have e2 : (p != (t.length : Int)) = false := by simp [hp]
      obtain ⟨q1, q2⟩ := place_end hc hp
      rw [no_end hp, q1, q2]
      simp only [e2, cond_false, spots2_ t hl, Option.bind_some]
    · have e2 : (p != (t.length : Int)) = true := by simp [hp]
      obtain ⟨q1, q2⟩ := place_in hc hp
      rw [q1, q2]
      cases hf : fnd (Sp.runes1 t) 0 p with
      | none => simp only [e2, cond_true]; rfl
      | some x => rfl
  · have e : ((Sp.runes2 t).code != 0) = true := by simp [hc]
    obtain ⟨q1, q2⟩ := place_bad (p := p) hc
    rw [e, cond_true, q1, q2]
    rfl

theorem shown1 : racetreelaw01_shown = some true := by
  rw [racetreelaw01_shown, sealF_eq]
  unfold racetreelaw01_shown_f
  rw [runes1_, text1_, place1_]
  decide +kernel

theorem scanClasses1 (r : Int) : racetreelaw01_ScanClasses r = some true := by
  rw [racetreelaw01_ScanClasses, sealF_eq]
  unfold racetreelaw01_ScanClasses_f
  rw [shown1, letter1, letter2, digit1, digit2, blank1, blank2]
  simp

theorem scanPlaces1 (t : List UInt8) (p : Int) : racetreelaw01_ScanPlaces t p = some true := by
  rw [racetreelaw01_ScanPlaces, sealF_eq]
  unfold racetreelaw01_ScanPlaces_f
  rw [shown1, place1_, place2_]
  simp
end Lift.A1P

/- UTF-8 there and back: a text is its runes' letters, and what is left behind them. -/
namespace Lift.A1P
open Go Go.RowKit Lift Go.IntWalk Lift.Fn

def encB (r : Int) : List UInt8 := bytesOf (Sp.enc r)
def encs (rs : List Int) : List UInt8 := rs.flatMap encB

theorem encs_cons (r : Int) (rs : List Int) : encs (r :: rs) = encB r ++ encs rs := rfl
theorem encs_append (a b : List Int) : encs (a ++ b) = encs a ++ encs b := by simp [encs]

theorem encs_runesOf (l : List Int) (h : l.all Sp.isRune = true) : encs l = runesOf l := by
  rw [← text_eq l h]
  unfold encs encB bytesOf
  rw [List.map_flatMap]

theorem toNat_of (n : Nat) (h : n < 256) : (UInt8.ofNat n).toNat = n := by
  simp [UInt8.toNat_ofNat']
  omega

theorem encB_len (r : Int) : (encB r).length = (Sp.long r).toNat := by
  unfold encB Sp.enc Sp.long
  rw [bytes_len]
  repeat' split
  all_goals rfl

theorem by0 (a : UInt8) (l : List UInt8) : Sp.by_ (a :: l) 0 = a.toNat := rfl
theorem by1 (a b : UInt8) (l : List UInt8) : Sp.by_ (a :: b :: l) 1 = b.toNat := rfl
theorem by2 (a b c : UInt8) (l : List UInt8) : Sp.by_ (a :: b :: c :: l) 2 = c.toNat := rfl
theorem by3 (a b c d : UInt8) (l : List UInt8) : Sp.by_ (a :: b :: c :: d :: l) 3 = d.toNat := rfl

theorem badl_of {l : List UInt8} {r k : Nat} (h : Sp.dl l = (r, k)) (h2 : r ≠ 65533 ∨ (3 ≤ l.length ∧ Sp.by_ l 0 = 239 ∧ Sp.by_ l 1 = 191 ∧ Sp.by_ l 2 = 189)) : Sp.badl l = false := by
  unfold Sp.badl
  rw [h, Sp.take3]
  rcases h2 with h2 | h2
  · simp [h2]
  · simp [h2]

/-- A rune's letters are read as the rune. -/
theorem dl_enc (r : Int) (rest : List UInt8) (h : Sp.isRune r = true) : Sp.dl (encB r ++ rest) = (r.toNat, (Sp.long r).toNat) ∧ Sp.badl (encB r ++ rest) = false := by
  simp only [Sp.isRune, decide_eq_true_eq] at h
  by_cases a1 : r < 128
  · have e : encB r ++ rest = UInt8.ofNat r.toNat :: rest := by simp [encB, bytesOf, Sp.enc, a1]
    have hl : (Sp.long r).toNat = 1 := by unfold Sp.long; rw [if_pos a1]; rfl
    rw [e, hl]
    have hd : Sp.dl (UInt8.ofNat r.toNat :: rest) = (r.toNat, 1) := by
      unfold Sp.dl
      rw [by0, toNat_of _ (by omega), if_pos (by omega)]
    exact ⟨hd, badl_of hd (.inl (by omega))⟩
  by_cases a2 : r < 2048
  · have e : encB r ++ rest = UInt8.ofNat (192 + r.toNat / 64) :: UInt8.ofNat (128 + r.toNat % 64) :: rest := by
      unfold encB Sp.enc bytesOf
      rw [if_neg a1, if_pos a2]
      simp only [List.map_cons, List.map_nil, List.cons_append, List.nil_append]
      rw [show (192 + r / 64).toNat = 192 + r.toNat / 64 by omega, show (128 + r % 64).toNat = 128 + r.toNat % 64 by omega]
    have hl : (Sp.long r).toNat = 2 := by unfold Sp.long; rw [if_neg a1, if_pos a2]; rfl
    rw [e, hl]
    have hd : Sp.dl (UInt8.ofNat (192 + r.toNat / 64) :: UInt8.ofNat (128 + r.toNat % 64) :: rest) = (r.toNat, 2) := by
      unfold Sp.dl Sp.ct
      rw [by0, by1, toNat_of _ (by omega), toNat_of _ (by omega)]
      simp only [List.length_cons, Bool.and_eq_true, decide_eq_true_eq, beq_iff_eq]
      rw [if_neg (by omega), if_pos (by omega), if_pos (by omega)]
      rw [show (192 + r.toNat / 64) % 32 * 64 + (128 + r.toNat % 64) % 64 = r.toNat by omega]
    exact ⟨hd, badl_of hd (.inl (by omega))⟩
  by_cases a3 : r < 65536
  · have e : encB r ++ rest = UInt8.ofNat (224 + r.toNat / 4096) :: UInt8.ofNat (128 + r.toNat / 64 % 64) :: UInt8.ofNat (128 + r.toNat % 64) :: rest := by
      unfold encB Sp.enc bytesOf
      rw [if_neg a1, if_neg a2, if_pos a3]
      simp only [List.map_cons, List.map_nil, List.cons_append, List.nil_append]
      rw [show (224 + r / 4096).toNat = 224 + r.toNat / 4096 by omega, show (128 + r / 64 % 64).toNat = 128 + r.toNat / 64 % 64 by omega, show (128 + r % 64).toNat = 128 + r.toNat % 64 by omega]
    have hl : (Sp.long r).toNat = 3 := by unfold Sp.long; rw [if_neg a1, if_neg a2, if_pos a3]; rfl
    rw [e, hl]
    have hd : Sp.dl (UInt8.ofNat (224 + r.toNat / 4096) :: UInt8.ofNat (128 + r.toNat / 64 % 64) :: UInt8.ofNat (128 + r.toNat % 64) :: rest) = (r.toNat, 3) := by
      unfold Sp.dl Sp.ct
      rw [by0, by1, by2, toNat_of _ (by omega), toNat_of _ (by omega), toNat_of _ (by omega)]
      simp only [List.length_cons, Bool.and_eq_true, decide_eq_true_eq, beq_iff_eq, valid_iff, ge_iff_le]
      have hv : (224 + r.toNat / 4096) % 16 * 4096 + (128 + r.toNat / 64 % 64) % 64 * 64 + (128 + r.toNat % 64) % 64 = r.toNat := by omega
      rw [hv, if_neg (by omega), if_neg (by omega), if_pos (by omega), if_pos (by omega)]
    refine ⟨hd, badl_of hd ?_⟩
    simp only [List.length_cons, by0, by1, by2]
    rw [toNat_of _ (by omega), toNat_of _ (by omega), toNat_of _ (by omega)]
    omega
  · have e : encB r ++ rest = UInt8.ofNat (240 + r.toNat / 262144) :: UInt8.ofNat (128 + r.toNat / 4096 % 64) :: UInt8.ofNat (128 + r.toNat / 64 % 64) :: UInt8.ofNat (128 + r.toNat % 64) :: rest := by
      unfold encB Sp.enc bytesOf
      rw [if_neg a1, if_neg a2, if_neg a3]
      simp only [List.map_cons, List.map_nil, List.cons_append, List.nil_append]
      rw [show (240 + r / 262144).toNat = 240 + r.toNat / 262144 by omega, show (128 + r / 4096 % 64).toNat = 128 + r.toNat / 4096 % 64 by omega, show (128 + r / 64 % 64).toNat = 128 + r.toNat / 64 % 64 by omega, show (128 + r % 64).toNat = 128 + r.toNat % 64 by omega]
    have hl : (Sp.long r).toNat = 4 := by unfold Sp.long; rw [if_neg a1, if_neg a2, if_neg a3]; rfl
    rw [e, hl]
    have hd : Sp.dl (UInt8.ofNat (240 + r.toNat / 262144) :: UInt8.ofNat (128 + r.toNat / 4096 % 64) :: UInt8.ofNat (128 + r.toNat / 64 % 64) :: UInt8.ofNat (128 + r.toNat % 64) :: rest) = (r.toNat, 4) := by
      unfold Sp.dl Sp.ct
      rw [by0, by1, by2, by3, toNat_of _ (by omega), toNat_of _ (by omega), toNat_of _ (by omega), toNat_of _ (by omega)]
      simp only [List.length_cons, Bool.and_eq_true, decide_eq_true_eq, beq_iff_eq, valid_iff, ge_iff_le]
      have hv : (240 + r.toNat / 262144) % 8 * 262144 + (128 + r.toNat / 4096 % 64) % 64 * 4096 + (128 + r.toNat / 64 % 64) % 64 * 64 + (128 + r.toNat % 64) % 64 = r.toNat := by omega
      rw [hv, if_neg (by omega), if_neg (by omega), if_neg (by omega), if_pos (by omega), if_pos (by omega)]
    exact ⟨hd, badl_of hd (.inl (by omega))⟩

theorem of_toNat' {n : Int} {a : UInt8} (h : n.toNat = a.toNat) : UInt8.ofNat n.toNat = a := by
  rw [h]; simp

theorem two_of {l : List UInt8} (h : 1 < l.length) : ∃ a b r, l = a :: b :: r := by
  match l, h with
  | a :: b :: r, _ => exact ⟨a, b, r, rfl⟩
theorem three_of {l : List UInt8} (h : 2 < l.length) : ∃ a b c r, l = a :: b :: c :: r := by
  match l, h with
  | a :: b :: c :: r, _ => exact ⟨a, b, c, r, rfl⟩
theorem four_of {l : List UInt8} (h : 3 < l.length) : ∃ a b c d r, l = a :: b :: c :: d :: r := by
  match l, h with
  | a :: b :: c :: d :: r, _ => exact ⟨a, b, c, d, r, rfl⟩

/-- What is read well is a rune's letters. -/
theorem dl_split (l : List UInt8) (hl : l ≠ []) (hb : Sp.badl l = false) : Sp.isRune ((Sp.dl l).1 : Int) = true ∧ ∃ rest, l = encB ((Sp.dl l).1 : Int) ++ rest := by
  have hlen : 0 < l.length := by cases l with | nil => exact absurd rfl hl | cons _ _ => simp
  have hr : Sp.isRune ((Sp.dl l).1 : Int) = true := by
    have h4 := ans_dl _ hlen
    obtain ⟨h1, h2, h3⟩ := Sp.dl_pos _ hlen
    rw [hb] at h4
    simp only [Bool.false_eq_true, if_false] at h4
    rcases Sp.ansA_ok l.length (Sp.by_ l 0) (Sp.by_ l 1) (Sp.by_ l 2) (Sp.by_ l 3) (l.getD 0 0).toNat_lt with h5 | ⟨h5, h6⟩
    · rw [h4] at h5
      simp only [Prod.mk.injEq] at h5
      omega
    · rw [h4] at h5
      exact h5
  refine ⟨hr, ?_⟩
  have hg : ¬ ((Sp.dl l).1 = 65533 ∧ ¬ (3 ≤ l.length ∧ Sp.by_ l 0 = 239 ∧ Sp.by_ l 1 = 191 ∧ Sp.by_ l 2 = 189)) := by
    unfold Sp.badl at hb
    rw [Sp.take3] at hb
    intro hh
    simp [hh.1] at hb
    exact hh.2 hb
  obtain ⟨D, hD⟩ : ∃ D, D = Sp.dl l := ⟨_, rfl⟩
  rw [← hD] at hg ⊢
  unfold Sp.dl Sp.ct at hD
  simp only [Bool.and_eq_true, decide_eq_true_eq, beq_iff_eq, valid_iff, ge_iff_le] at hD
  have hb0 : Sp.by_ l 0 < 256 := (l.getD 0 0).toNat_lt
  have hb1 : Sp.by_ l 1 < 256 := (l.getD 1 0).toNat_lt
  have hb2 : Sp.by_ l 2 < 256 := (l.getD 2 0).toNat_lt
  have hb3 : Sp.by_ l 3 < 256 := (l.getD 3 0).toNat_lt
  by_cases k0 : Sp.by_ l 0 < 128
  · rw [if_pos k0] at hD
    rw [hD]
    match l, hlen with
    | a :: l, _ =>
      rw [by0] at *
      refine ⟨l, ?_⟩
      unfold encB Sp.enc bytesOf
      rw [if_pos (by simp only; omega)]
      simp
  rw [if_neg k0] at hD
  by_cases k1 : Sp.by_ l 0 / 32 = 6 ∧ 1 < l.length ∧ Sp.by_ l 1 / 64 = 2
  · rw [if_pos k1] at hD
    by_cases k2 : 128 ≤ Sp.by_ l 0 % 32 * 64 + Sp.by_ l 1 % 64
    · rw [if_pos k2] at hD
      rw [hD]
      obtain ⟨a, b, l, rfl⟩ := two_of k1.2.1
      next =>
        rw [by0, by1] at *
        refine ⟨l, ?_⟩
        unfold encB Sp.enc bytesOf
        rw [if_neg (by simp only; omega), if_pos (by simp only; omega)]
        simp only [List.map_cons, List.map_nil, List.cons_append, List.nil_append]
        rw [of_toNat' (a := a) (by omega), of_toNat' (a := b) (by omega)]
    · rw [if_neg k2] at hD
      rw [hD] at hg
      have hg' := Classical.byContradiction fun hh => hg ⟨rfl, hh⟩
      omega
  rw [if_neg k1] at hD
  by_cases k2 : (Sp.by_ l 0 / 16 = 14 ∧ 1 < l.length ∧ Sp.by_ l 1 / 64 = 2) ∧ 2 < l.length ∧ Sp.by_ l 2 / 64 = 2
  · rw [if_pos k2] at hD
    by_cases k3 : 2048 ≤ Sp.by_ l 0 % 16 * 4096 + Sp.by_ l 1 % 64 * 64 + Sp.by_ l 2 % 64 ∧ (0 ≤ ((Sp.by_ l 0 % 16 * 4096 + Sp.by_ l 1 % 64 * 64 + Sp.by_ l 2 % 64 : Nat) : Int) ∧ ((Sp.by_ l 0 % 16 * 4096 + Sp.by_ l 1 % 64 * 64 + Sp.by_ l 2 % 64 : Nat) : Int) < 55296 ∨ 57344 ≤ ((Sp.by_ l 0 % 16 * 4096 + Sp.by_ l 1 % 64 * 64 + Sp.by_ l 2 % 64 : Nat) : Int) ∧ ((Sp.by_ l 0 % 16 * 4096 + Sp.by_ l 1 % 64 * 64 + Sp.by_ l 2 % 64 : Nat) : Int) ≤ 1114111)
    · rw [if_pos k3] at hD
      rw [hD]
      obtain ⟨a, b, c, l, rfl⟩ := three_of k2.2.1
      next =>
        rw [by0, by1, by2] at *
        refine ⟨l, ?_⟩
        unfold encB Sp.enc bytesOf
        rw [if_neg (by simp only; omega), if_neg (by simp only; omega), if_pos (by simp only; omega)]
        simp only [List.map_cons, List.map_nil, List.cons_append, List.nil_append]
        rw [of_toNat' (a := a) (by omega), of_toNat' (a := b) (by omega), of_toNat' (a := c) (by omega)]
    · rw [if_neg k3] at hD
      rw [hD] at hg
      have hg' := Classical.byContradiction fun hh => hg ⟨rfl, hh⟩
      omega
  rw [if_neg k2] at hD
  by_cases k3 : ((Sp.by_ l 0 / 8 = 30 ∧ 1 < l.length ∧ Sp.by_ l 1 / 64 = 2) ∧ 2 < l.length ∧ Sp.by_ l 2 / 64 = 2) ∧ 3 < l.length ∧ Sp.by_ l 3 / 64 = 2
  · rw [if_pos k3] at hD
    by_cases k4 : 65536 ≤ Sp.by_ l 0 % 8 * 262144 + Sp.by_ l 1 % 64 * 4096 + Sp.by_ l 2 % 64 * 64 + Sp.by_ l 3 % 64 ∧ (0 ≤ ((Sp.by_ l 0 % 8 * 262144 + Sp.by_ l 1 % 64 * 4096 + Sp.by_ l 2 % 64 * 64 + Sp.by_ l 3 % 64 : Nat) : Int) ∧ ((Sp.by_ l 0 % 8 * 262144 + Sp.by_ l 1 % 64 * 4096 + Sp.by_ l 2 % 64 * 64 + Sp.by_ l 3 % 64 : Nat) : Int) < 55296 ∨ 57344 ≤ ((Sp.by_ l 0 % 8 * 262144 + Sp.by_ l 1 % 64 * 4096 + Sp.by_ l 2 % 64 * 64 + Sp.by_ l 3 % 64 : Nat) : Int) ∧ ((Sp.by_ l 0 % 8 * 262144 + Sp.by_ l 1 % 64 * 4096 + Sp.by_ l 2 % 64 * 64 + Sp.by_ l 3 % 64 : Nat) : Int) ≤ 1114111)
    · rw [if_pos k4] at hD
      rw [hD]
      obtain ⟨a, b, c, d, l, rfl⟩ := four_of k3.2.1
      next =>
        rw [by0, by1, by2, by3] at *
        refine ⟨l, ?_⟩
        unfold encB Sp.enc bytesOf
        rw [if_neg (by simp only; omega), if_neg (by simp only; omega), if_neg (by simp only; omega)]
        simp only [List.map_cons, List.map_nil, List.cons_append, List.nil_append]
        rw [of_toNat' (a := a) (by omega), of_toNat' (a := b) (by omega), of_toNat' (a := c) (by omega), of_toNat' (a := d) (by omega)]
    · rw [if_neg k4] at hD
      rw [hD] at hg
      have hg' := Classical.byContradiction fun hh => hg ⟨rfl, hh⟩
      omega
  · rw [if_neg k3] at hD
    rw [hD] at hg
    have hg' := Classical.byContradiction fun hh => hg ⟨rfl, hh⟩
    omega

/-- What is bad shows in four letters. -/
theorem bad_four (l more : List UInt8) (h : 4 ≤ l.length) (hb : Sp.badl l = true) : Sp.badl (l.take 4 ++ more) = true := by
  match l, h with
  | a :: b :: c :: d :: l, _ =>
    have e : (a :: b :: c :: d :: l).take 4 ++ more = a :: b :: c :: d :: more := rfl
    rw [e]
    have hd : Sp.dl (a :: b :: c :: d :: more) = Sp.dl (a :: b :: c :: d :: l) := by
      have g0 : ∀ m, Sp.by_ (a :: b :: c :: d :: m) 0 = a.toNat := fun _ => rfl
      have g1 : ∀ m, Sp.by_ (a :: b :: c :: d :: m) 1 = b.toNat := fun _ => rfl
      have g2 : ∀ m, Sp.by_ (a :: b :: c :: d :: m) 2 = c.toNat := fun _ => rfl
      have g3 : ∀ m, Sp.by_ (a :: b :: c :: d :: m) 3 = d.toNat := fun _ => rfl
      have f1 : ∀ m, Sp.ct (a :: b :: c :: d :: m) 1 = (b.toNat / 64 == 2) := fun m => by
        unfold Sp.ct; rw [g1, decide_eq_true (by simp), Bool.true_and]
      have f2 : ∀ m, Sp.ct (a :: b :: c :: d :: m) 2 = (c.toNat / 64 == 2) := fun m => by
        unfold Sp.ct; rw [g2, decide_eq_true (by simp), Bool.true_and]
      have f3 : ∀ m, Sp.ct (a :: b :: c :: d :: m) 3 = (d.toNat / 64 == 2) := fun m => by
        unfold Sp.ct; rw [g3, decide_eq_true (by simp), Bool.true_and]
      unfold Sp.dl
      rw [g0, g1, g2, g3, f1, f2, f3, g0, g1, g2, g3, f1, f2, f3]
    unfold Sp.badl at hb ⊢
    rw [hd]
    exact hb

/-! The spots of runes. -/
def put : List Int → Spot → List Spot × Spot
  | [], s => ([], s)
  | r :: rs, s => (⟨r, s.at_, s.line, s.col⟩ :: (put rs (Sp.on ⟨r, s.at_, s.line, s.col⟩ r (Sp.long r))).1, (put rs (Sp.on ⟨r, s.at_, s.line, s.col⟩ r (Sp.long r))).2)

theorem on_at (s : Spot) (r n : Int) : (Sp.on s r n).at_ = s.at_ + n := by unfold Sp.on; split <;> rfl

theorem put_rune : ∀ (rs : List Int) (s : Spot), (put rs s).1.map (·.rune) = rs
  | [], _ => rfl
  | r :: rs, s => by simp only [put, List.map_cons]; rw [put_rune rs]

theorem put_len (rs : List Int) (s : Spot) : (put rs s).1.length = rs.length := by
  have := congrArg List.length (put_rune rs s)
  simpa using this

theorem long_pos (r : Int) : 1 ≤ Sp.long r := by unfold Sp.long; repeat' split
                                                 all_goals omega

theorem put_at : ∀ (rs : List Int) (s : Spot), (put rs s).2.at_ = s.at_ + (encs rs).length
  | [], s => by simp [put, encs]
  | r :: rs, s => by
    simp only [put]
    rw [put_at rs, on_at, encs_cons, List.length_append, encB_len]
    have := long_pos r
    simp only
    omega

theorem put_take : ∀ (k : Nat) (rs : List Int) (s : Spot), (put (rs.take k) s).1 = (put rs s).1.take k
  | 0, rs, s => by simp [put]
  | k + 1, [], s => by simp [put]
  | k + 1, r :: rs, s => by
    simp only [List.take_succ_cons, put]
    rw [put_take k rs]

theorem put_get : ∀ (rs : List Int) (s : Spot) (k : Nat) (x : Spot), (put rs s).1[k]? = some x → x.at_ = s.at_ + (encs (rs.take k)).length
  | [], s, k, x => by simp [put]
  | r :: rs, s, 0, x => by
    intro h
    simp only [put, List.getElem?_cons_zero, Option.some.injEq] at h
    subst h
    simp [encs]
  | r :: rs, s, k + 1, x => by
    intro h
    simp only [put, List.getElem?_cons_succ] at h
    rw [put_get rs _ k x h, on_at, List.take_succ_cons, encs_cons, List.length_append, encB_len]
    have := long_pos r
    simp only
    omega

theorem from_put (t : List UInt8) : ∀ (rs : List Int) (n : Nat) (acc : List Spot) (s : Spot) (rest : List UInt8), rs.all Sp.isRune = true → 0 ≤ s.at_ → t.drop s.at_.toNat = encs rs ++ rest → (rest = [] ∨ Sp.badl rest = true) →
    t.length - s.at_.toNat ≤ n → Sp.spotsFrom t n acc s = (acc ++ (put rs s).1, (put rs s).2)
  | [], n, acc, s, rest => by
    intro _ h0 hd hr hn
    simp only [encs, List.flatMap_nil, List.nil_append] at hd
    simp only [put, List.append_nil]
    cases n with
    | zero => rfl
    | succ n =>
      simp only [Sp.spotsFrom]
      by_cases hc : s.at_ < t.length
      · rw [if_pos hc]
        have hne : t.drop s.at_.toNat ≠ [] := by
          intro hh
          have := congrArg List.length hh
          simp at this
          omega
        rcases hr with rfl | hr
        · exact absurd hd hne
        · rw [if_pos]
          rw [Sp.bad_eq, hd]
          exact hr
      · rw [if_neg hc]
  | r :: rs, n, acc, s, rest => by
    intro ha h0 hd hr hn
    simp only [List.all_cons, Bool.and_eq_true] at ha
    rw [encs_cons, List.append_assoc] at hd
    obtain ⟨h1, h2⟩ := dl_enc r (encs rs ++ rest) ha.1
    have hlen := congrArg List.length hd
    have hl := long_pos r
    have hel := encB_len r
    simp only [List.length_drop, List.length_append] at hlen
    have hc : s.at_ < t.length := by omega
    have hb : Sp.bad t s.at_.toNat = false := by rw [Sp.bad_eq, hd]; exact h2
    have hr' : 0 ≤ r := by
      have := ha.1
      simp only [Sp.isRune, decide_eq_true_eq] at this
      exact this.1
    have e1 : Sp.at1 t s.at_ = r := by
      unfold Sp.at1
      rw [hb, Sp.dc_eq, hd, h1]
      simp
      omega
    have e2 : Sp.at2 t s.at_ = Sp.long r := by
      unfold Sp.at2
      rw [hb, Sp.dc_eq, hd, h1]
      simp
      omega
    obtain ⟨n, rfl⟩ : ∃ m, n = m + 1 := ⟨n - 1, by omega⟩
    simp only [Sp.spotsFrom, if_pos hc, hb, Bool.false_eq_true, if_false]
    rw [e1, e2]
    have hat := on_at ⟨r, s.at_, s.line, s.col⟩ r (Sp.long r)
    simp only at hat
    rw [from_put t rs n _ _ rest ha.2 (by rw [hat]; omega) ?_ hr (by rw [hat]; omega)]
    · simp only [put, List.append_assoc, List.cons_append, List.nil_append]
    · rw [hat, show (s.at_ + Sp.long r).toNat = s.at_.toNat + (encB r).length by omega, ← List.drop_drop, hd, List.drop_left]

def s0 : Spot := ⟨0, 0, 1, 1⟩

/-- The spots of a text, told by its runes. -/
theorem spots_put (rs : List Int) (rest : List UInt8) (ha : rs.all Sp.isRune = true) (hr : rest = [] ∨ Sp.badl rest = true) : Sp.spots1 (encs rs ++ rest) = (put rs s0).1 ∧ Sp.spots2 (encs rs ++ rest) = Sp.ended (put rs s0).2 := by
  have := from_put (encs rs ++ rest) rs (encs rs ++ rest).length [] s0 rest ha (by simp [s0]) (by simp [s0]) hr (by omega)
  unfold Sp.spots1 Sp.spots2
  unfold s0 at this ⊢
  rw [this]
  simp

/-- Every text is the letters of runes, and a bad rest. -/
theorem text_split : ∀ (n : Nat) (t : List UInt8), t.length ≤ n → ∃ rs rest, t = encs rs ++ rest ∧ rs.all Sp.isRune = true ∧ (rest = [] ∨ Sp.badl rest = true)
  | 0, t, h => ⟨[], [], by cases t <;> simp_all [encs], rfl, .inl rfl⟩
  | n + 1, t, h => by
    by_cases h0 : t = []
    · exact ⟨[], [], by simp [h0, encs], rfl, .inl rfl⟩
    cases hb : Sp.badl t with
    | true => exact ⟨[], t, by simp [encs], rfl, .inr hb⟩
    | false =>
      obtain ⟨h1, rest, h2⟩ := dl_split t h0 hb
      have hl := encB_len ((Sp.dl t).1 : Int)
      have hp := long_pos ((Sp.dl t).1 : Int)
      have hlen : rest.length ≤ n := by
        have := congrArg List.length h2
        rw [List.length_append] at this
        omega
      obtain ⟨rs, r2, h3, h4, h5⟩ := text_split n rest hlen
      refine ⟨((Sp.dl t).1 : Int) :: rs, r2, ?_, ?_, h5⟩
      · rw [encs_cons, List.append_assoc, ← h3]; exact h2
      · simp [h1, h4]

theorem ended_at (s : Spot) : (Sp.ended s).at_ = s.at_ := rfl

theorem runes_ok (rs : List Int) (ha : rs.all Sp.isRune = true) (hl : (encs rs).length ≤ 4000) : Sp.runes1 (encs rs) = (put rs s0).1 ∧ Sp.runes2 (encs rs) = ⟨0, 0, []⟩ := by
  obtain ⟨h1, h2⟩ := spots_put rs [] ha (.inl rfl)
  rw [List.append_nil] at h1 h2
  have h3 := put_at rs s0
  unfold Sp.runes1 Sp.runes2
  rw [h1, h2, ended_at, h3]
  have h5 : ¬ (s0.at_ + ((encs rs).length : Int) < (encs rs).length) := by simp [s0]
  have h4 : ¬ 4000 < (encs rs).length := by omega
  simp only [if_neg h4, if_neg h5, and_self]

theorem runes_bad (rs : List Int) (rest : List UInt8) (ha : rs.all Sp.isRune = true) (hne : rest ≠ []) (hb : Sp.badl rest = true) (hl : (encs rs ++ rest).length ≤ 4000) : Sp.runes1 (encs rs ++ rest) = [] ∧ Sp.runes2 (encs rs ++ rest) = ⟨11, (encs rs).length, []⟩ := by
  obtain ⟨h1, h2⟩ := spots_put rs rest ha (.inr hb)
  have h3 := put_at rs s0
  have hpos : 0 < rest.length := by cases rest with | nil => exact absurd rfl hne | cons _ _ => simp
  unfold Sp.runes1 Sp.runes2
  rw [h2, ended_at, h3]
  have h5 : (s0.at_ + ((encs rs).length : Int) < (encs rs ++ rest).length) := by simp [s0]; omega
  have h4 : ¬ 4000 < (encs rs ++ rest).length := by omega
  simp only [if_neg h4, if_pos h5]
  simp [s0]

/-- The texts that have runes. -/
theorem runes_cases (t : List UInt8) : (Sp.runes1 t = [] ∧ Sp.runes2 t = ⟨10, 4000, []⟩) ∨
    (t.length ≤ 4000 ∧ ∃ rs rest, t = encs rs ++ rest ∧ rs.all Sp.isRune = true ∧ rest ≠ [] ∧ Sp.badl rest = true ∧ Sp.runes1 t = [] ∧ Sp.runes2 t = ⟨11, (encs rs).length, []⟩) ∨
    (t.length ≤ 4000 ∧ ∃ rs, t = encs rs ∧ rs.all Sp.isRune = true ∧ Sp.runes1 t = (put rs s0).1 ∧ Sp.runes2 t = ⟨0, 0, []⟩) := by
  by_cases h : 4000 < t.length
  · left
    unfold Sp.runes1 Sp.runes2
    rw [if_pos h, if_pos h]
    exact ⟨rfl, rfl⟩
  right
  obtain ⟨rs, rest, h1, h2, h3⟩ := text_split t.length t (Nat.le_refl _)
  by_cases h0 : rest = []
  · right
    subst h0
    rw [List.append_nil] at h1
    subst h1
    obtain ⟨q1, q2⟩ := runes_ok rs h2 (by omega)
    exact ⟨by omega, rs, rfl, h2, q1, q2⟩
  · left
    have hb : Sp.badl rest = true := by rcases h3 with h3 | h3; exact absurd h3 h0; exact h3
    subst h1
    obtain ⟨q1, q2⟩ := runes_bad rs rest h2 h0 hb (by omega)
    exact ⟨by omega, rs, rest, rfl, h2, h0, hb, q1, q2⟩
end Lift.A1P

/- The law functions of layer 1: each answers true. -/
namespace Lift.A1P
open Go Go.RowKit Lift Go.IntWalk Lift.Fn

theorem same_refl (a : List Spot) : Sp.same a a = true := by simp [Sp.same]

theorem overL (t : List UInt8) (b1 b2 : Bool) (c1 c2 d1 d2 : Int) (n1 n2 : List UInt8) (w : List Spot) : ∀ (k n : Nat) (i : Int) (l : List Spot), l.length ≤ 4000 → 0 ≤ i → l.length - i.toNat ≤ k → k < n →
    ∃ l', l'.length = l.length ∧ racetreelaw01_ScanRunes_i6 n t b1 b2 i c1 c2 n1 d1 d2 n2 w l = some (t, b1, b2, c1, c2, n1, d1, d2, n2, w, l') := by
  intro k
  have fin : ∀ (n : Nat) (i : Int) (l : List Spot), 0 ≤ i → ¬ i < l.length → racetreelaw01_ScanRunes_i6 (n + 1) t b1 b2 i c1 c2 n1 d1 d2 n2 w l = some (t, b1, b2, c1, c2, n1, d1, d2, n2, w, l) := by
    intro n i l h0 c
    simp only [racetreelaw01_ScanRunes_i6, racetreelaw01_ScanRunes_t6, c, decide_false, cond_false]
  induction k with
  | zero =>
    intro n i l hl h0 hk hn
    obtain ⟨n, rfl⟩ : ∃ q, n = q + 1 := ⟨n - 1, by omega⟩
    exact ⟨l, rfl, fin n i l h0 (by omega)⟩
  | succ k ih =>
    intro n i l hl h0 hk hn
    obtain ⟨n, rfl⟩ : ∃ q, n = q + 1 := ⟨n - 1, by omega⟩
    by_cases c : i < l.length
    · have ha : i.toNat < l.length := by omega
      obtain ⟨l', h1, h2⟩ := ih n (i + 1) (l.set i.toNat ⟨-77, 0, 0, 0⟩) (by simpa using hl) (by omega) (by rw [List.length_set]; omega) (by omega)
      refine ⟨l', by simpa using h1, ?_⟩
      simp only [racetreelaw01_ScanRunes_i6, racetreelaw01_ScanRunes_t6, c, h0, decide_true, cond_true, Bool.and_self, List.getElem?_eq_getElem ha, Option.bind_some]
      rw [i64_in (i + 1) (by omega)]
      exact h2
    · exact ⟨l, rfl, fin n i l h0 c⟩

theorem scanRunes1 (t : List UInt8) : racetreelaw01_ScanRunes t = some true := by
  obtain ⟨r1, r2⟩ := runes_inv t
  rw [racetreelaw01_ScanRunes, sealF_eq]
  unfold racetreelaw01_ScanRunes_f
  rw [shown1, runes2_, runes1_, Option.bind_some, Option.bind_some, Option.bind_some]
  simp only
  rw [same1 _ _ (by omega), Option.bind_some, same_refl]
  obtain ⟨l', h1, h2⟩ := overL t true true (Sp.runes2 t).code (Sp.runes2 t).at_ (Sp.runes2 t).code (Sp.runes2 t).at_ (Sp.runes2 t).name (Sp.runes2 t).name (Sp.runes1 t) (Sp.runes1 t).length fuel 0 (Sp.runes1 t) r1 (by omega) (by omega) (by unfold fuel; omega)
  rw [racetreelaw01_ScanRunes_l6, sealF_eq, h2, Option.bind_some]
  simp only
  rw [decide_eq_true (show _ ∧ _ by constructor <;> omega), cond_true, runes1_, Option.bind_some]
  simp only
  rw [same1 _ _ (by omega), Option.bind_some, same_refl]
  have hlen : (l' ++ [(⟨-78, 0, 0, 0⟩ : Spot), ⟨-79, 0, 0, 0⟩]).length = l'.length + 2 := by simp
  rw [hlen, i64_in (((l'.length + 2 : Nat) : Int) - 1) (by omega)]
  have hget : (l' ++ [(⟨-78, 0, 0, 0⟩ : Spot), ⟨-79, 0, 0, 0⟩])[(((l'.length + 2 : Nat) : Int) - 1).toNat]? = some ⟨-79, 0, 0, 0⟩ := by
    rw [show (((l'.length + 2 : Nat) : Int) - 1).toNat = l'.length + 1 by omega, List.getElem?_append_right (by omega)]
    simp
  rw [hget]
  have hb : (decide (0 ≤ (((l'.length + 2 : Nat) : Int) - 1)) && decide ((((l'.length + 2 : Nat) : Int) - 1) < ((l'.length + 2 : Nat) : Int))) = true := by
    simp only [Bool.and_eq_true, decide_eq_true_eq]; omega
  rw [hb]
  simp

/-! ScanThere -/
theorem text_cases (l : List Int) : (Sp.text1 l = [] ∧ Sp.text2 l ≠ 0) ∨ (l.all Sp.isRune = true ∧ (encs l).length ≤ 4000 ∧ l.length ≤ 4000 ∧ Sp.text1 l = encs l ∧ Sp.text2 l = 0) := by
  unfold Sp.text1 Sp.text2 Sp.textOf
  by_cases h : 4000 < l.length
  · left; simp only [if_pos h]; exact ⟨trivial, by omega⟩
  simp only [if_neg h]
  by_cases h2 : l.all Sp.isRune = true
  · rw [if_pos h2, if_pos h2, ← encs_runesOf l h2]
    by_cases h3 : 4000 < (encs l).length
    · left; simp only [if_pos h3]; exact ⟨trivial, by omega⟩
    · right; simp only [if_neg h3]; exact ⟨h2, by omega, by omega, trivial, trivial⟩
  · left; rw [if_neg h2, if_neg h2]; exact ⟨rfl, by omega⟩

theorem thereL (l : List Int) (m : List Spot) (hm : m.map (·.rune) = l) (hl : l.length ≤ 4000) : ∀ (k n : Nat) (i : Int), 0 ≤ i → l.length - i.toNat ≤ k → k < n → racetreelaw01_ScanThere_i9 n l i m = some (.inr ()) := by
  have hlen : m.length = l.length := by rw [← hm]; simp
  intro k
  have fin : ∀ (n : Nat) (i : Int), 0 ≤ i → ¬ i < l.length → racetreelaw01_ScanThere_i9 (n + 1) l i m = some (.inr ()) := by
    intro n i h0 c
    simp only [racetreelaw01_ScanThere_i9, racetreelaw01_ScanThere_t9, c, decide_false, cond_false]
  induction k with
  | zero =>
    intro n i h0 hk hn
    obtain ⟨n, rfl⟩ : ∃ q, n = q + 1 := ⟨n - 1, by omega⟩
    exact fin n i h0 (by omega)
  | succ k ih =>
    intro n i h0 hk hn
    obtain ⟨n, rfl⟩ : ∃ q, n = q + 1 := ⟨n - 1, by omega⟩
    by_cases c : i < l.length
    · have ha : i.toNat < l.length := by omega
      have hb : i.toNat < m.length := by omega
      have c' : i < m.length := by omega
      have e : l[i.toNat]? = some m[i.toNat].rune := by
        rw [← hm, List.getElem?_map, List.getElem?_eq_getElem hb]; rfl
      simp only [racetreelaw01_ScanThere_i9, racetreelaw01_ScanThere_t9, c, c', h0, decide_true, cond_true, Bool.and_self, List.getElem?_eq_getElem hb, e, Option.bind_some, bne_self_eq_false, cond_false]
      rw [i64_in (i + 1) (by omega)]
      exact ih n _ (by omega) (by omega) (by omega)
    · exact fin n i h0 c

theorem scanThere1 (l : List Int) : racetreelaw01_ScanThere l = some true := by
  rw [racetreelaw01_ScanThere, sealF_eq]
  unfold racetreelaw01_ScanThere_f
  rw [shown1, text1_, Option.bind_some, Option.bind_some]
  simp only [Bool.not_true, cond_false]
  rcases text_cases l with ⟨h1, h2⟩ | ⟨h1, h2, h3, h4, h5⟩
  · have e : (Sp.text2 l != 0) = true := by simp [h2]
    rw [e, h1]
    rfl
  · rw [h4, h5, runes1_, Option.bind_some]
    obtain ⟨q1, q2⟩ := runes_ok l h1 h2
    rw [q1, q2]
    have hlen := put_len l s0
    have e : (((put l s0).1.length : Int) != (l.length : Int)) = false := by rw [hlen]; simp
    simp only [e, bne_self_eq_false, cond_false]
    rw [racetreelaw01_ScanThere_l9, sealF_eq, thereL l _ (put_rune l s0) h3 l.length fuel 0 (by omega) (by omega) (by unfold fuel; omega), Option.bind_some]

/-! ScanBack -/
theorem backL (t : List UInt8) (w : Int) (m : List Spot) (hl : m.length ≤ 4000) : ∀ (k n : Nat) (i : Int) (o : List Int), 0 ≤ i → m.length - i.toNat ≤ k → k < n → (o.length : Int) ≤ i →
    racetreelaw01_ScanBack_i7 n t w i m o = some (t, w, m, o ++ (m.drop i.toNat).map (·.rune)) := by
  intro k
  have fin : ∀ (n : Nat) (i : Int) (o : List Int), 0 ≤ i → ¬ i < m.length → racetreelaw01_ScanBack_i7 (n + 1) t w i m o = some (t, w, m, o ++ (m.drop i.toNat).map (·.rune)) := by
    intro n i o h0 c
    rw [List.drop_eq_nil_of_le (by omega)]
    simp only [racetreelaw01_ScanBack_i7, racetreelaw01_ScanBack_t7, c, decide_false, cond_false, List.map_nil, List.append_nil]
  induction k with
  | zero =>
    intro n i o h0 hk hn ho
    obtain ⟨n, rfl⟩ : ∃ q, n = q + 1 := ⟨n - 1, by omega⟩
    exact fin n i o h0 (by omega)
  | succ k ih =>
    intro n i o h0 hk hn ho
    obtain ⟨n, rfl⟩ : ∃ q, n = q + 1 := ⟨n - 1, by omega⟩
    by_cases c : i < m.length
    · have ha : i.toNat < m.length := by omega
      rw [List.drop_eq_getElem_cons ha]
      simp only [racetreelaw01_ScanBack_i7, racetreelaw01_ScanBack_t7, c, h0, decide_true, cond_true, Bool.and_self, List.getElem?_eq_getElem ha, Option.bind_some]
      rw [decide_eq_true (show _ ∧ _ by simp only [List.length_cons, List.length_nil]; omega), cond_true, i64_in (i + 1) (by omega), ih n _ _ (by omega) (by omega) (by omega) (by simp only [List.length_append, List.length_cons, List.length_nil]; omega), show (i + 1).toNat = i.toNat + 1 by omega]
      simp only [List.map_cons, List.append_assoc, List.cons_append, List.nil_append]
    · exact fin n i o h0 c

theorem text_of_runes (rs : List Int) (ha : rs.all Sp.isRune = true) (hl : (encs rs).length ≤ 4000) : Sp.text1 rs = encs rs ∧ Sp.text2 rs = 0 := by
  have hn : rs.length ≤ (encs rs).length := by
    have : ∀ l : List Int, l.length ≤ (encs l).length := by
      intro l
      induction l with
      | nil => simp
      | cons r l ih =>
        rw [encs_cons, List.length_append, encB_len, List.length_cons]
        have := long_pos r
        omega
    exact this rs
  have h1 : ¬ 4000 < rs.length := by omega
  have h2 : ¬ 4000 < (encs rs).length := by omega
  unfold Sp.text1 Sp.text2 Sp.textOf
  rw [← encs_runesOf rs ha]
  simp only [if_neg h1, if_pos ha, if_neg h2, and_self]

theorem enc_lt {rs : List Int} {j k : Nat} (h : j < k) (hk : k ≤ rs.length) : (encs (rs.take j)).length < (encs (rs.take k)).length := by
  have e : rs.take k = rs.take j ++ (rs.take k).drop j := by
    have h1 := (List.take_append_drop j (rs.take k)).symm
    rwa [List.take_take, Nat.min_eq_left (by omega)] at h1
  have hne : (rs.take k).drop j ≠ [] := by
    intro hh
    have := congrArg List.length hh
    simp at this
    omega
  rw [e, encs_append, List.length_append]
  match (rs.take k).drop j, hne with
  | r :: l, _ =>
    rw [encs_cons, List.length_append, encB_len]
    have := long_pos r
    omega

theorem find_spot (rs : List Int) (k : Nat) (x : Spot) (h : (put rs s0).1[k]? = some x) : ((put rs s0).1.find? fun s => decide (s.at_ = x.at_)) = some x := by
  rw [List.find?_eq_some_iff_getElem]
  obtain ⟨hk, hx⟩ := List.getElem?_eq_some_iff.1 h
  refine ⟨by simp, k, hk, hx, ?_⟩
  intro j hj
  have hj' : j < (put rs s0).1.length := by omega
  have a1 := put_get rs s0 j _ (List.getElem?_eq_getElem hj')
  have a2 := put_get rs s0 k x h
  have hlen := put_len rs s0
  have := enc_lt (rs := rs) hj (by omega)
  simp only [Bool.not_eq_true', decide_eq_false_iff_not]
  omega

theorem scanBack1 (t : List UInt8) (w : Int) : racetreelaw01_ScanBack t w = some true := by
  obtain ⟨r1, r2⟩ := runes_inv t
  rw [racetreelaw01_ScanBack, sealF_eq]
  unfold racetreelaw01_ScanBack_f
  rw [shown1, runes1_, Option.bind_some, Option.bind_some]
  simp only [Bool.not_true, cond_false, cond_true]
  rcases runes_cases t with ⟨h1, h2⟩ | ⟨h0, rs, rest, _, _, _, _, h1, h2⟩ | ⟨h0, rs, rfl, ha, h1, h2⟩
  · rw [h1, h2]; rfl
  · rw [h1, h2]; rfl
  have hlen := put_len rs s0
  have hp4 : (put rs s0).1.length ≤ 4000 := by rw [← h1]; exact r1
  rw [h1, h2, racetreelaw01_ScanBack_l7, sealF_eq, backL _ w _ (by omega) (put rs s0).1.length fuel 0 [] (by omega) (by omega) (by unfold fuel; omega) (by simp), Option.bind_some]
  simp only [bne_self_eq_false, cond_false, Int.toNat_zero, List.drop_zero, List.nil_append, put_rune]
  obtain ⟨q1, q2⟩ := text_of_runes rs ha h0
  rw [text1_, q1, q2, Option.bind_some]
  simp only [bne_self_eq_false, cond_false, beq_self_eq_true, Bool.not_true, cond_true]
  by_cases z : rs.length = 0
  · have : (((put rs s0).1.length : Int) == 0) = true := by rw [beq_iff_eq]; omega
    rw [this]; rfl
  have e1 : (((put rs s0).1.length : Int) == 0) = false := by rw [beq_eq_false_iff_ne]; omega
  rw [e1, cond_false]
  by_cases hw : w < 0
  · rw [decide_eq_true hw]; rfl
  rw [decide_eq_false hw, cond_false, cond_false]
  have hk0 : 0 ≤ Int.tmod w ((put rs s0).1.length : Int) := Int.tmod_nonneg _ (by omega)
  have hk1 : Int.tmod w ((put rs s0).1.length : Int) < ((put rs s0).1.length : Int) := Int.tmod_lt_of_pos _ (by omega)
  obtain ⟨k, hk⟩ : ∃ k : Nat, Int.tmod w ((put rs s0).1.length : Int) = k := ⟨_, (Int.toNat_of_nonneg hk0).symm⟩
  rw [hk] at hk0 hk1 ⊢
  have hkl : k < (put rs s0).1.length := by omega
  have hx := List.getElem?_eq_getElem hkl
  obtain ⟨x, hx'⟩ : ∃ x, (put rs s0).1[k]? = some x := ⟨_, hx⟩
  have hxa := put_get rs s0 k x hx'
  have hlt := enc_lt (rs := rs) hkl (by omega)
  have h00 : s0.at_ = 0 := rfl
  have hlast := enc_lt (rs := rs) (j := k) (k := rs.length) (by omega) (by omega)
  rw [List.take_length] at hlast
  have hb1 : (decide ((0 : Int) ≤ (k : Int)) && decide ((k : Int) < ((put rs s0).1.length : Int))) = true := by
    simp only [Bool.and_eq_true, decide_eq_true_eq]; omega
  have hb2 : decide (x.at_ < 0) = false := decide_eq_false (by omega)
  have hb3 : decide (x.at_ > ((encs rs).length : Int)) = false := decide_eq_false (by omega)
  have hb4 : (decide ((0 : Int) ≤ 0) && (decide ((0 : Int) ≤ x.at_) && decide (x.at_ ≤ ((encs rs).length : Int)))) = true := by
    simp only [Bool.and_eq_true, decide_eq_true_eq]; omega
  have hb5 : (decide ((0 : Int) ≤ 0) && (decide ((0 : Int) ≤ (k : Int)) && decide ((k : Int) ≤ ((put rs s0).1.length : Int)))) = true := by
    simp only [Bool.and_eq_true, decide_eq_true_eq]; omega
  have hnat : Int.toNat (k : Int) = k := by simp
  have hcut : List.take x.at_.toNat (encs rs) = encs (rs.take k) := by
    rw [show x.at_.toNat = (encs (rs.take k)).length by omega]
    have e : encs rs = encs (rs.take k) ++ encs (rs.drop k) := by rw [← encs_append, List.take_append_drop]
    rw [e, List.take_left]
  have hpl : Sp.place1 (encs rs) x.at_ = x ∧ Sp.place2 (encs rs) x.at_ = 0 := by
    obtain ⟨p1, p2⟩ := place_in (t := encs rs) (p := x.at_) (by rw [h2]) (by omega)
    rw [p1, p2, fnd_zero, h1, find_spot rs k x hx']
    simp
  have htk : (rs.take k).all Sp.isRune = true := by
    rw [List.all_eq_true] at ha ⊢
    intro r hr
    exact ha r (List.mem_of_mem_take hr)
  obtain ⟨t1, t2⟩ := runes_ok (rs.take k) htk (by omega)
  rw [hb1, cond_true, hnat, hx', Option.bind_some, hb2, hb3, cond_false, cond_false, place1_, Option.bind_some, hb4, cond_true, hcut, runes1_, Option.bind_some, hb5, cond_true]
  simp only [hpl.1, hpl.2, t1, t2, List.drop_zero]
  rw [same1 _ _ (by rw [put_len]; simp; omega), Option.bind_some, put_take, same_refl]
  simp

/-! ScanCut -/
theorem scanCut1 (t more : List UInt8) (hm : more.length ≤ 9000000000000000000) : racetreelaw01_ScanCut t more = some true := by
  rw [racetreelaw01_ScanCut, sealF_eq]
  unfold racetreelaw01_ScanCut_f
  rw [shown1, runes1_, Option.bind_some, Option.bind_some]
  simp only [Bool.not_true, cond_false, cond_true]
  rcases runes_cases t with ⟨h1, h2⟩ | ⟨h0, rs, rest, rfl, ha, hne, hb, h1, h2⟩ | ⟨h0, rs, rfl, ha, h1, h2⟩
  · rw [h1, h2]; rfl
  rotate_left
  · rw [h1, h2]; rfl
  have hpos : 0 < rest.length := by cases rest with | nil => exact absurd rfl hne | cons _ _ => simp
  rw [List.length_append] at h0
  rw [h2]
  simp only [bne_self_eq_false, cond_false, List.length_append]
  have b1 : decide (((encs rs).length : Int) < 0) = false := decide_eq_false (by omega)
  have b2 : decide (((encs rs).length : Int) ≥ (((encs rs).length + rest.length : Nat) : Int)) = false := decide_eq_false (by omega)
  have b3 : (decide ((0 : Int) ≤ 0) && (decide ((0 : Int) ≤ ((encs rs).length : Int)) && decide (((encs rs).length : Int) ≤ (((encs rs).length + rest.length : Nat) : Int)))) = true := by
    simp only [Bool.and_eq_true, decide_eq_true_eq]; omega
  have hcut : List.drop 0 (List.take (Int.toNat ((encs rs).length : Int)) (encs rs ++ rest)) = encs rs := by
    rw [List.drop_zero, Int.toNat_natCast, List.take_left]
  obtain ⟨t1, t2⟩ := runes_ok rs ha (by omega)
  rw [b1, b2, cond_false, cond_false, b3, cond_true, hcut, runes1_, t1, t2, Option.bind_some]
  simp only [bne_self_eq_false, cond_false]
  rw [i64_in (((encs rs).length + rest.length : Nat) - ((encs rs).length : Int)) (by omega), i64_in (((encs rs).length : Int) + 4) (by omega)]
  by_cases h4 : rest.length < 4
  · rw [decide_eq_true (show (((encs rs).length + rest.length : Nat) - ((encs rs).length : Int)) < 4 by omega)]
    rfl
  rw [decide_eq_false (show ¬ (((encs rs).length + rest.length : Nat) - ((encs rs).length : Int)) < 4 by omega), cond_false]
  have b4 : (decide ((0 : Int) ≤ 0) && (decide ((0 : Int) ≤ ((encs rs).length : Int) + 4) && decide (((encs rs).length : Int) + 4 ≤ (((encs rs).length + rest.length : Nat) : Int)))) = true := by
    simp only [Bool.and_eq_true, decide_eq_true_eq]; omega
  have hcut2 : List.drop 0 (List.take (Int.toNat (((encs rs).length : Int) + 4)) (encs rs ++ rest)) = encs rs ++ rest.take 4 := by
    rw [List.drop_zero, show (((encs rs).length : Int) + 4).toNat = (encs rs).length + 4 by omega, List.take_length_add_append]
  rw [b4, cond_true, hcut2]
  have b5 : decide ((encs rs ++ rest.take 4).length + more.length ≤ 9223372036854775807) = true := by
    rw [decide_eq_true_eq, List.length_append, List.length_take]; omega
  rw [b5, cond_true]
  by_cases h5 : (((encs rs ++ rest.take 4).length + more.length : Nat) : Int) > 4000
  · rw [decide_eq_true h5]; rfl
  · obtain ⟨u1, u2⟩ := runes_bad rs (rest.take 4 ++ more) ha (by
      intro hh
      have := congrArg List.length hh
      rw [List.length_append, List.length_take, List.length_nil] at this
      omega) (bad_four rest more (by omega) hb) (by rw [← List.append_assoc, List.length_append]; omega)
    rw [decide_eq_false h5, cond_false, runes1_, List.append_assoc, u1, u2, Option.bind_some]
    simp

/-! ScanTexts -/
theorem stayL (l a : List Int) (b1 : Bool) (s1 : List UInt8) (e1 : Int) (s2 : List UInt8) (e2 : Int) (hl : l.length ≤ 9000000) (h : ∀ k : Nat, k < l.length → a[k]? = l[k]?) : ∀ (k n : Nat) (i : Int), 0 ≤ i → l.length - i.toNat ≤ k → k < n →
    racetreelaw01_ScanTexts_i10 n l b1 a s1 e1 s2 e2 true i = some (b1, s1, e1, s2, e2, true) := by
  intro k
  have fin : ∀ (n : Nat) (i : Int), 0 ≤ i → ¬ i < l.length → racetreelaw01_ScanTexts_i10 (n + 1) l b1 a s1 e1 s2 e2 true i = some (b1, s1, e1, s2, e2, true) := by
    intro n i h0 c
    simp only [racetreelaw01_ScanTexts_i10, racetreelaw01_ScanTexts_t10, c, decide_false, cond_false]
  induction k with
  | zero =>
    intro n i h0 hk hn
    obtain ⟨n, rfl⟩ : ∃ q, n = q + 1 := ⟨n - 1, by omega⟩
    exact fin n i h0 (by omega)
  | succ k ih =>
    intro n i h0 hk hn
    obtain ⟨n, rfl⟩ : ∃ q, n = q + 1 := ⟨n - 1, by omega⟩
    by_cases c : i < l.length
    · have ha : i.toNat < l.length := by omega
      have e := h i.toNat ha
      rw [List.getElem?_eq_getElem ha] at e
      simp only [racetreelaw01_ScanTexts_i10, racetreelaw01_ScanTexts_t10, c, h0, decide_true, cond_true, List.getElem?_eq_getElem ha, e, Option.bind_some, beq_self_eq_true]
      rw [i64_in (i + 1) (by omega)]
      exact ih n _ (by omega) (by omega) (by omega)
    · exact fin n i h0 c

theorem scanTexts1 (l : List Int) (hl : l.length ≤ 9000000) : racetreelaw01_ScanTexts l = some true := by
  rw [racetreelaw01_ScanTexts, sealF_eq]
  unfold racetreelaw01_ScanTexts_f
  rw [shown1, i64_in ((l.length : Int) + 2) (by omega), i64_in ((l.length : Int) + 1) (by omega), show ((l.length : Int) + 2).toNat = l.length + 2 by omega, show ((l.length : Int) + 1).toNat = l.length + 1 by omega, Int.toNat_natCast]
  have hin : List.take (List.replicate (l.length + 2) (0 : Int)).length l ++ List.drop l.length (List.replicate (l.length + 2) (0 : Int)) = l ++ [0, 0] := by
    rw [List.length_replicate, List.take_of_length_le (show l.length ≤ l.length + 2 by omega), List.drop_replicate, show l.length + 2 - l.length = 2 by omega]
    rfl
  rw [hin]
  have s1 : (l ++ [(0 : Int), 0]).set l.length (-77) = l ++ [-77, 0] := by
    rw [List.set_append_right _ _ (Nat.le_refl _)]; simp
  have s2 : (l ++ [(-77 : Int), 0]).set (l.length + 1) (-78) = l ++ [-77, -78] := by
    rw [List.set_append_right _ _ (by omega), show l.length + 1 - l.length = 1 by omega]; rfl
  rw [s1, s2]
  have g1 : ∀ a b : Int, (l ++ [a, b])[l.length]? = some a := fun a b => by
    rw [List.getElem?_append_right (Nat.le_refl _)]; simp
  have g2 : ∀ a b : Int, (l ++ [a, b])[l.length + 1]? = some b := fun a b => by
    rw [List.getElem?_append_right (by omega), show l.length + 1 - l.length = 1 by omega]; rfl
  have ln : ∀ a b : Int, (l ++ [a, b]).length = l.length + 2 := fun a b => by simp
  simp only [g1, g2, ln, Option.bind_some]
  have b1 : (decide ((0 : Int) ≤ (l.length : Int) + 2) && (decide True && decide ((l.length + 2) * 8 ≤ 140737488355328 ∧ l.length + 2 ≤ 9223372036854775807))) = true := by
    simp only [Bool.and_eq_true, decide_eq_true_eq, true_and, decide_true]; omega
  have b2 : (decide ((0 : Int) ≤ (l.length : Int)) && decide ((l.length : Int) < ((l.length + 2 : Nat) : Int))) = true := by
    simp only [Bool.and_eq_true, decide_eq_true_eq]; omega
  have b3 : (decide ((0 : Int) ≤ (l.length : Int) + 1) && decide ((l.length : Int) + 1 < ((l.length + 2 : Nat) : Int))) = true := by
    simp only [Bool.and_eq_true, decide_eq_true_eq]; omega
  have b4 : (decide ((0 : Int) ≤ 0) && (decide ((0 : Int) ≤ (l.length : Int)) && decide ((l.length : Int) ≤ ((l.length + 2 : Nat) : Int)))) = true := by
    simp only [Bool.and_eq_true, decide_eq_true_eq]; omega
  rw [b1, b2, b3, b4, text2_, List.drop_zero, List.take_left, text1_]
  simp only [cond_true, Option.bind_some, beq_self_eq_true]
  rw [racetreelaw01_ScanTexts_l10, sealF_eq, stayL l (l ++ [-77, -78]) true _ _ _ _ hl (fun k hk => List.getElem?_append_left hk) l.length fuel 0 (by omega) (by omega) (by unfold fuel; omega)]
  simp
end Lift.A1P

