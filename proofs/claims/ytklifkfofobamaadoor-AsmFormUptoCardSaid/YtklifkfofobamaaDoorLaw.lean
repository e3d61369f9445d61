/-
  DERIVED. The Lean functions answer as the laws say. Conditions: as each theorem says.
-/
import Derived.Test.YtklifkfofobamaaDoorWalk
import Derived.IntWalk
import Derived.Lib.AtoiAllCases
import Derived.Lib.ItoaMem
import Derived.Lib.ItoaLen
import Derived.Lib.IndexBytes
import Derived.Lib.CountLaws
import Derived.Lib.SplitLaws
set_option linter.unusedVariables false
set_option linter.unusedSimpArgs false
set_option linter.unusedSectionVars false
namespace Lift.AA
open Go Go.RowKit Lift Go.IntWalk Lift.Fn
set_option linter.unusedVariables false
set_option linter.unusedSimpArgs false
theorem loop_all {α τ : Type} (l : List α) (body : α → Option Bool) (e : τ) (L : Nat → Int → Option (Bool ⊕ τ))
    (h0 : ∀ n i, 0 ≤ i → ¬ i < (l.length : Int) → L (n + 1) i = some (.inr e))
    (h1 : ∀ n i (x : α), 0 ≤ i → i < (l.length : Int) → l[i.toNat]? = some x → L (n + 1) i = (body x).bind fun b => bif b then L n (i + 1) else some (.inl false))
    (p : α → Bool) (hp : ∀ x ∈ l, body x = some (p x)) :
    ∀ (k n : Nat) (i : Int), 0 ≤ i → l.length - i.toNat ≤ k → k < n → L n i = some (bif (l.drop i.toNat).all p then .inr e else .inl false) := by
  intro k
  induction k with
  | zero =>
    intro n i hi hk hn
    obtain ⟨n, rfl⟩ : ∃ q, n = q + 1 := ⟨n - 1, by omega⟩
    rw [h0 n i hi (by omega), List.drop_eq_nil_of_le (by omega)]
    rfl
  | succ k ih =>
    intro n i hi hk hn
    obtain ⟨n, rfl⟩ : ∃ q, n = q + 1 := ⟨n - 1, by omega⟩
    by_cases c : i < (l.length : Int)
    · have hlt : i.toNat < l.length := by omega
      rw [h1 n i l[i.toNat] hi c (List.getElem?_eq_getElem hlt), hp _ (List.getElem_mem hlt), List.drop_eq_getElem_cons hlt, List.all_cons, Option.bind_some]
      cases p l[i.toNat] with
      | true =>
        rw [cond_true, Bool.true_and, ih n (i + 1) (by omega) (by omega) (by omega)]
        have e : (i + 1).toNat = i.toNat + 1 := by omega
        rw [e]
      | false => rfl
    · rw [h0 n i hi c, List.drop_eq_nil_of_le (by omega)]
      rfl
def opsL : List Operation := [Operation.mk [] [], Operation.mk [99, 111, 110, 115, 116] [82, 78], Operation.mk [109, 111, 118, 101] [82, 82], Operation.mk [110, 101, 103] [82, 82], Operation.mk [110, 111, 116] [82, 82], Operation.mk [97, 100, 100] [82, 82, 82], Operation.mk [115, 117, 98] [82, 82, 82], Operation.mk [109, 117, 108] [82, 82, 82], Operation.mk [100, 105, 118] [82, 82, 82], Operation.mk [114, 101, 109] [82, 82, 82], Operation.mk [101, 113] [82, 82, 82], Operation.mk [110, 101] [82, 82, 82], Operation.mk [108, 116] [82, 82, 82], Operation.mk [108, 101] [82, 82, 82], Operation.mk [103, 116] [82, 82, 82], Operation.mk [103, 101] [82, 82, 82], Operation.mk [97, 110, 100] [82, 82, 82], Operation.mk [111, 114] [82, 82, 82], Operation.mk [106, 117, 109, 112] [73], Operation.mk [117, 110, 108, 101, 115, 115] [82, 73], Operation.mk [97, 103, 97, 105, 110] [82, 73], Operation.mk [114, 101, 97, 100] [82, 99], Operation.mk [119, 114, 105, 116, 101] [99, 82], Operation.mk [102, 101, 116, 99, 104] [82, 99, 82], Operation.mk [108, 111, 99, 107] [109], Operation.mk [117, 110, 108, 111, 99, 107] [109], Operation.mk [115, 116, 97, 114, 116] [116], Operation.mk [106, 111, 105, 110] [116], Operation.mk [97, 115, 115, 101, 114, 116] [82], Operation.mk [101, 110, 100] []]
theorem operations_ok : qah = some opsL := by
  rw [qah, sealF_eq]; rfl
def fitK (n k cells mtx threads regs instrs : Int) : Bool :=
  bif k == 78 then decide (n ≥ -2147483647) && decide (n ≤ 2147483647) else
  bif k == 82 then decide (n ≥ 0) && decide (n < regs) else
  bif k == 73 then decide (n ≥ 0) && decide (n < instrs) else
  bif k == 99 then decide (n ≥ 0) && decide (n < cells) else
  bif k == 109 then decide (n ≥ 0) && decide (n < mtx) else
  bif k == 116 then decide (n ≥ 0) && decide (n < threads) else
  decide (n ≥ 0) && decide (n < 1)
def fitX (n k : Int) (x : Image) (c : ACode) : Bool := fitK n k x.cells.length x.mutexes x.threads.length c.regs c.instrs.length
theorem and_bind {α : Type} (p q : Bool) (f : Bool → Option α) : Option.bind (α := Bool) (bif p then some q else some false) f = f (p && q) := by cases p <;> rfl
theorem or_bind {α : Type} (p q : Bool) (f : Bool → Option α) : Option.bind (α := Bool) (bif p then some true else some q) f = f (p || q) := by cases p <;> rfl
theorem out_iff (n m : Int) : (decide (n < 0) || decide (n ≥ m)) = !(decide (n ≥ 0) && decide (n < m)) := by
  by_cases a : n < 0 <;> by_cases b : n ≥ m <;> simp [a, b, show (n ≥ 0) ↔ ¬ n < 0 by omega, show n < m ↔ ¬ n ≥ m by omega]
theorem cond_not {α : Type} (b : Bool) (u v : α) : (bif !b then u else v) = bif b then v else u := by cases b <;> rfl
def kindAt (ks : List UInt8) (i : Int) : Int := match ks[i.toNat]? with
  | some k => (k.toNat : Int)
  | none => 32
theorem numberIs_ok (n : Int) : qag n = some (decide (n ≥ -2147483647) && decide (n ≤ 2147483647)) := by
  rw [qag, sealF_eq]
  unfold qag_f
  rw [and_bind]
theorem fits_step (n : Nat) (ks : List UInt8) (i : Int) (cells : List Int) (mtx : Int) (threads : List ACode) (regs : Int) (instrs : List Instr) (l : List Int) (y : Int)
    (h0 : 0 ≤ i) (h3 : i < 3) (hl : l.length = 3) (hy : l[i.toNat]? = some y) :
    qad_i6 (n + 1) ks 3 i cells mtx threads regs instrs l = bif fitK y (kindAt ks i) cells.length mtx threads.length regs instrs.length then qad_i6 n ks 3 (i + 1) cells mtx threads regs instrs l else some (.inl false) := by
  conv => lhs; unfold qad_i6 qad_t6
  rw [hl, decide_eq_true h3, decide_eq_true h0, decide_eq_true (show i < ((3 : Nat) : Int) by omega), Bool.and_self, cond_true, cond_true, hy, Option.bind_some, i64_in (i + 1) (by omega)]
  simp only [or_bind, out_iff, cond_not, numberIs_ok, Option.bind_some]
  by_cases hk : i < (ks.length : Int)
  · have hg : ks[i.toNat]? = some ks[i.toNat] := List.getElem?_eq_getElem (by omega)
    rw [decide_eq_true hk, cond_true, cond_true, hg, Option.bind_some]
    have e : kindAt ks i = ((ks[i.toNat].toNat : Nat) : Int) := by unfold kindAt; rw [hg]
    rw [e]
    unfold fitK
    generalize ((ks[i.toNat].toNat : Nat) : Int) = k
    repeat' (cases (k == _); simp only [cond_false]; rotate_left; rfl)
  · have hg : ks[i.toNat]? = none := List.getElem?_eq_none (by omega)
    have e : kindAt ks i = 32 := by unfold kindAt; rw [hg]
    rw [decide_eq_false hk, cond_false, e]
    rfl
def fitsS (x : Image) (c : ACode) (a : Instr) : Bool :=
  decide (1 ≤ a.op) && decide (a.op ≤ 29) && match opsL[a.op.toNat]? with
    | some o => fitX a.a (kindAt o.numbers 0) x c && (fitX a.b (kindAt o.numbers 1) x c && fitX a.c (kindAt o.numbers 2) x c)
    | none => false
theorem ops_len : opsL.length = 30 := rfl
theorem ops_there {op : Int} (h1 : 1 ≤ op) (h2 : op ≤ 29) : ∃ o, opsL[op.toNat]? = some o ∧ o ≠ Operation.mk [] [] ∧ o.word ≠ [] ∧ o.numbers.length ≤ 3 := by
  have h : op = 1 ∨ op = 2 ∨ op = 3 ∨ op = 4 ∨ op = 5 ∨ op = 6 ∨ op = 7 ∨ op = 8 ∨ op = 9 ∨ op = 10 ∨ op = 11 ∨ op = 12 ∨ op = 13 ∨ op = 14 ∨ op = 15 ∨ op = 16 ∨ op = 17 ∨ op = 18 ∨ op = 19 ∨ op = 20 ∨ op = 21 ∨ op = 22 ∨ op = 23 ∨ op = 24 ∨ op = 25 ∨ op = 26 ∨ op = 27 ∨ op = 28 ∨ op = 29 := by omega
  rcases h with rfl | rfl | rfl | rfl | rfl | rfl | rfl | rfl | rfl | rfl | rfl | rfl | rfl | rfl | rfl | rfl | rfl | rfl | rfl | rfl | rfl | rfl | rfl | rfl | rfl | rfl | rfl | rfl | rfl <;> exact ⟨_, rfl, by decide, by decide, by decide⟩
theorem fits_ok (x : Image) (c : ACode) (a : Instr) : qad x c a = some (fitsS x c a) := by
  rw [qad, sealF_eq]
  unfold qad_f fitsS
  rw [operations_ok, Option.bind_some, or_bind, ops_len]
  by_cases h1 : 1 ≤ a.op
  · by_cases h2 : a.op ≤ 29
    · obtain ⟨o, ho, hne, _, _⟩ := ops_there h1 h2
      rw [decide_eq_false (show ¬ a.op < 1 by omega), decide_eq_false (show ¬ a.op ≥ ((30 : Nat) : Int) by omega), decide_eq_true (show 0 ≤ a.op by omega), decide_eq_true (show a.op < ((30 : Nat) : Int) by omega), decide_eq_true h1, decide_eq_true h2]
      simp only [Bool.or_self, Bool.and_self, cond_true, cond_false, ho, Option.bind_some, Bool.true_and]
      rw [decide_eq_false hne, cond_false, qad_l6, sealF_eq]
      obtain ⟨f, hf⟩ : ∃ f, fuel = f + 4 := ⟨fuel - 4, by unfold fuel; omega⟩
      rw [hf]
      have e : ((([a.a, a.b, a.c] : List Int).length : Nat) : Int) = 3 := rfl
      rw [e, fits_step (f + 3) o.numbers 0 _ _ _ _ _ [a.a, a.b, a.c] a.a (by decide) (by decide) rfl rfl, fits_step (f + 2) o.numbers (0 + 1) _ _ _ _ _ [a.a, a.b, a.c] a.b (by decide) (by decide) rfl rfl, fits_step (f + 1) o.numbers (0 + 1 + 1) _ _ _ _ _ [a.a, a.b, a.c] a.c (by decide) (by decide) rfl rfl]
      unfold fitX
      rw [show (0 : Int) + 1 = 1 from rfl, show (1 : Int) + 1 = 2 from rfl]
      cases fitK a.a (kindAt o.numbers 0) _ _ _ _ _ with
      | false => rfl
      | true =>
        cases fitK a.b (kindAt o.numbers 1) _ _ _ _ _ with
        | false => rfl
        | true => cases fitK a.c (kindAt o.numbers 2) _ _ _ _ _ <;> rfl
    · rw [decide_eq_false (show ¬ a.op < 1 by omega), decide_eq_true (show a.op ≥ ((30 : Nat) : Int) by omega), decide_eq_false h2, Bool.and_false]
      rfl
  · rw [decide_eq_true (show a.op < 1 by omega), decide_eq_false h1]
    rfl
def numS (n : Int) : Bool := decide (n ≥ -2147483647) && decide (n ≤ 2147483647)
def lastS (l : List Instr) : Bool := match l[l.length - 1]? with
  | some i => i.op == 29 || i.op == 18
  | none => false
def codeS (x : Image) (c : ACode) : Bool :=
  (decide (0 ≤ c.regs) && decide (c.regs ≤ 64) && decide (1 ≤ c.instrs.length) && decide (c.instrs.length ≤ 4000)) && (lastS c.instrs && c.instrs.all (fitsS x c))
def headS (x : Image) : Bool :=
  decide (1 ≤ x.threads.length) && decide (x.threads.length ≤ 8) && decide (x.cells.length ≤ 8) && decide (0 ≤ x.mutexes) && decide (x.mutexes ≤ 8)
def rightS (x : Image) : Bool := headS x && (x.cells.all numS && x.threads.all (codeS x))
theorem right_cells (l : List Int) (hl : l.length ≤ 8) (a : List Int) (b : Int) (c : List ACode) :
    qac_l4 l (l.length : Int) 0 a b c = some (bif l.all numS then .inr (a, b, c) else .inl false) := by
  rw [qac_l4, sealF_eq]
  have := loop_all l (fun n => some (numS n)) (a, b, c) (fun n i => qac_i4 n l (l.length : Int) i a b c)
    (fun n i h0 h => by simp only [qac_i4, qac_t4, decide_eq_false h, cond_false])
    (fun n i x h0 h hx => by
      simp only [qac_i4, qac_t4, decide_eq_true h, decide_eq_true h0, cond_true, hx, Option.bind_some, numberIs_ok, i64_in (i + 1) (by omega), cond_not]
      rfl)
    numS (fun _ _ => rfl) l.length fuel 0 (by omega) (by omega) (by unfold fuel; omega)
  rw [this]
  rfl
theorem right_instrs (x : Image) (c : ACode) (p : List ACode) (q r : Int) (hl : c.instrs.length ≤ 4000) :
    qac_l19 p q r c.instrs (c.instrs.length : Int) 0 x.cells x.mutexes x.threads c.regs c.instrs = some (bif c.instrs.all (fitsS x c) then .inr (p, q, r, x.cells, x.mutexes, x.threads) else .inl false) := by
  rw [qac_l19, sealF_eq]
  have := loop_all c.instrs (fun a => qad x c a) (p, q, r, x.cells, x.mutexes, x.threads) (fun n i => qac_i19 n p q r c.instrs (c.instrs.length : Int) i x.cells x.mutexes x.threads c.regs c.instrs)
    (fun n i h0 h => by simp only [qac_i19, qac_t19, decide_eq_false h, cond_false])
    (fun n i a h0 h hx => by
      simp only [qac_i19, qac_t19, decide_eq_true h, decide_eq_true h0, cond_true, hx, Option.bind_some, i64_in (i + 1) (by omega), cond_not])
    (fitsS x c) (fun a _ => fits_ok x c a) c.instrs.length fuel 0 (by omega) (by omega) (by unfold fuel; omega)
  rw [this]
  rfl
theorem last_at {l : List Instr} (h1 : 1 ≤ l.length) (h2 : l.length ≤ 4000) : ∃ a, l[l.length - 1]? = some a ∧ l[Int.toNat (IntKind.wrap IntKind.i64 ((l.length : Int) - 1))]? = some a ∧ 0 ≤ IntKind.wrap IntKind.i64 ((l.length : Int) - 1) := by
  refine ⟨l[l.length - 1], List.getElem?_eq_getElem (by omega), ?_, ?_⟩
  · rw [i64_in _ (by omega), show Int.toNat ((l.length : Int) - 1) = l.length - 1 by omega]
    exact List.getElem?_eq_getElem (by omega)
  · rw [i64_in _ (by omega)]; omega
theorem last_ne {β : Type} (a : Instr) : (Option.bind (α := Bool) (bif a.op != 29 then some (a.op != 18) else some false) : (Bool → Option β) → Option β) = fun f => f (!(a.op == 29 || a.op == 18)) := by
  funext f
  rw [and_bind]
  congr 1
  show ((!(a.op == 29)) && (!(a.op == 18))) = _
  cases a.op == 29 <;> rfl
theorem right_threads (x : Image) (hl : x.threads.length ≤ 8) : qac_l10 x.threads (x.threads.length : Int) 0 x.cells x.mutexes x.threads = some (bif x.threads.all (codeS x) then .inr () else .inl false) := by
  rw [qac_l10, sealF_eq]
  have := loop_all x.threads (fun c => some (codeS x c)) () (fun n i => qac_i10 n x.threads (x.threads.length : Int) i x.cells x.mutexes x.threads)
    (fun n i h0 h => by simp only [qac_i10, qac_t10, decide_eq_false h, cond_false])
    (fun n i c h0 h hx => by
      simp only [qac_i10, qac_t10, decide_eq_true h, decide_eq_true h0, cond_true, hx, Option.bind_some, or_bind]
      have i2 := i64_in (i + 1) (by omega)
      by_cases hh : (decide (0 ≤ c.regs) && decide (c.regs ≤ 64) && decide (1 ≤ c.instrs.length) && decide (c.instrs.length ≤ 4000)) = true
      · have e : codeS x c = (lastS c.instrs && c.instrs.all (fitsS x c)) := by unfold codeS; rw [hh, Bool.true_and]
        simp only [Bool.and_eq_true, decide_eq_true_eq] at hh
        obtain ⟨⟨⟨h1, h2⟩, h3⟩, h4⟩ := hh
        obtain ⟨a, ha, hb, hc⟩ := last_at h3 h4
        rw [decide_eq_false (show ¬ c.regs < 0 by omega), decide_eq_false (show ¬ c.regs > 64 by omega), decide_eq_false (show ¬ (c.instrs.length : Int) < 1 by omega), decide_eq_false (show ¬ (c.instrs.length : Int) > 4000 by omega), e]
        simp only [Bool.or_self, cond_false, decide_eq_true hc, cond_true, hb, Option.bind_some]
        rw [last_ne]
        have el : lastS c.instrs = (a.op == 29 || a.op == 18) := by unfold lastS; rw [ha]
        rw [el]
        cases (a.op == 29 || a.op == 18) with
        | false => rfl
        | true =>
          simp only [Bool.not_true, cond_false, Bool.true_and]
          rw [right_instrs x c _ _ _ h4, Option.bind_some]
          cases c.instrs.all (fitsS x c) with
          | false => rfl
          | true => simp only [cond_true, i2]
      · have e : codeS x c = false := by unfold codeS; rw [Bool.eq_false_iff.2 hh, Bool.false_and]
        rw [e]
        have : (decide (c.regs < 0) || decide (c.regs > 64) || decide ((c.instrs.length : Int) < 1) || decide ((c.instrs.length : Int) > 4000)) = true := by
          simp only [Bool.and_eq_true, decide_eq_true_eq, Bool.or_eq_true] at hh ⊢
          omega
        rw [this]
        rfl)
    (codeS x) (fun _ _ => rfl) x.threads.length fuel 0 (by omega) (by omega) (by unfold fuel; omega)
  rw [this]
  rfl
theorem right_ok (x : Image) : qac x = some (rightS x) := by
  rw [qac, sealF_eq]
  unfold qac_f rightS
  simp only [or_bind]
  by_cases hh : headS x = true
  · have hh2 := hh
    unfold headS at hh2
    simp only [Bool.and_eq_true, decide_eq_true_eq] at hh2
    obtain ⟨⟨⟨⟨h1, h2⟩, h3⟩, h4⟩, h5⟩ := hh2
    rw [hh, Bool.true_and, decide_eq_false (show ¬ (x.threads.length : Int) < 1 by omega), decide_eq_false (show ¬ (x.threads.length : Int) > 8 by omega), decide_eq_false (show ¬ (x.cells.length : Int) > 8 by omega), decide_eq_false (show ¬ x.mutexes < 0 by omega), decide_eq_false (show ¬ x.mutexes > 8 by omega)]
    simp only [Bool.or_self, cond_false]
    rw [right_cells _ h3, Option.bind_some]
    cases x.cells.all numS with
    | false => rfl
    | true =>
      simp only [cond_true, Bool.true_and]
      rw [right_threads x h2, Option.bind_some]
      cases x.threads.all (codeS x) <;> rfl
  · rw [Bool.eq_false_iff.2 hh, Bool.false_and]
    have : (decide ((x.threads.length : Int) < 1) || decide ((x.threads.length : Int) > 8) || decide ((x.cells.length : Int) > 8) || decide (x.mutexes < 0) || decide (x.mutexes > 8)) = true := by
      unfold headS at hh
      simp only [Bool.and_eq_true, decide_eq_true_eq, Bool.or_eq_true] at hh ⊢
      omega
    rw [this]
    rfl
end Lift.AA
namespace Lift.AA
open Go Go.RowKit Lift Go.IntWalk Lift.Fn
set_option linter.unusedVariables false
set_option linter.unusedSimpArgs false
def isDig (c : UInt8) : Bool := decide (48 ≤ c.toNat) && decide (c.toNat ≤ 57)
def valF (a : Nat) (t : List UInt8) : Nat := t.foldl (fun a c => a * 10 + (c.toNat - 48)) a
def canon (t : List UInt8) : Bool := t.all isDig && match t with
  | [] => false
  | [_] => true
  | c :: _ :: _ => !(c == 48)
theorem isDig_iff {c : UInt8} : isDig c = true ↔ 48 ≤ c.toNat ∧ c.toNat ≤ 57 := by simp [isDig]
theorem valF_snoc (a : Nat) (t : List UInt8) (c : UInt8) : valF a (t ++ [c]) = valF a t * 10 + (c.toNat - 48) := by simp [valF]
theorem valF_ge : ∀ (t : List UInt8) (a : Nat), a ≤ valF a t
  | [], a => Nat.le_refl _
  | c :: t, a => by
    have := valF_ge t (a * 10 + (c.toNat - 48))
    show a ≤ valF (a * 10 + (c.toNat - 48)) t
    omega
theorem ofNat_dig {c : UInt8} (h : isDig c = true) : UInt8.ofNat (48 + (c.toNat - 48)) = c := by
  have := isDig_iff.1 h
  rw [show 48 + (c.toNat - 48) = c.toNat by omega]
  exact UInt8.ofNat_toNat
theorem dec_big {u : Nat} (h : 10 ≤ u) : Lib.decDigits u = Lib.decDigits (u / 10) ++ [UInt8.ofNat (48 + u % 10)] := by
  conv => lhs; rw [Lib.decDigits]
  rw [dif_neg (by omega)]
theorem dec_val1 : ∀ (n : Nat) (t : List UInt8), t.length = n → t ≠ [] → t.all isDig = true → t.head? ≠ some 48 → 1 ≤ valF 0 t ∧ Lib.decDigits (valF 0 t) = t := by
  intro n
  induction n with
  | zero => intro t h hn; exact absurd (List.eq_nil_of_length_eq_zero h) hn
  | succ n ih =>
    intro t h hn ha hh
    rcases List.eq_nil_or_concat t with rfl | ⟨L, c, rfl⟩
    · exact absurd rfl hn
    rw [List.concat_eq_append] at *
    rw [List.all_append, Bool.and_eq_true] at ha
    have hc : isDig c = true := by simpa using ha.2
    have hc' := isDig_iff.1 hc
    rw [valF_snoc]
    by_cases hL : L = []
    · subst hL
      have hne : c ≠ 48 := fun e => hh (by simp [e])
      have hv : valF 0 [] = 0 := rfl
      have : c.toNat ≠ 48 := fun e => hne (by apply UInt8.toNat_inj.1; rw [e]; rfl)
      rw [hv, Nat.zero_mul, Nat.zero_add]
      refine ⟨by omega, ?_⟩
      rw [Lib.decDigits_one (by omega), ofNat_dig hc]
      rfl
    · have hl : L.length = n := by simp at h; exact h
      have hh' : L.head? ≠ some 48 := by
        cases L with
        | nil => exact absurd rfl hL
        | cons a L => simpa using hh
      obtain ⟨i1, i2⟩ := ih L hl hL ha.1 hh'
      refine ⟨by omega, ?_⟩
      rw [dec_big (by omega), show (valF 0 L * 10 + (c.toNat - 48)) / 10 = valF 0 L by omega, show (valF 0 L * 10 + (c.toNat - 48)) % 10 = c.toNat - 48 by omega, i2, ofNat_dig hc]
theorem dec_val {t : List UInt8} (h : canon t = true) : Lib.decDigits (valF 0 t) = t := by
  unfold canon at h
  rw [Bool.and_eq_true] at h
  obtain ⟨h1, h2⟩ := h
  match t, h1, h2 with
  | [c], h1, _ =>
    have hc : isDig c = true := by simpa using h1
    have hc' := isDig_iff.1 hc
    have e : valF 0 [c] = c.toNat - 48 := by simp [valF]
    rw [e, Lib.decDigits_one (by omega), ofNat_dig hc]
  | c :: d :: r, h1, h2 =>
    refine (dec_val1 _ (c :: d :: r) rfl (by simp) h1 (fun e => ?_)).2
    have : c = 48 := by simpa using e
    subst this
    simp at h2
theorem val_dec : ∀ (n : Nat), valF 0 (Lib.decDigits n) = n ∧ (Lib.decDigits n).all isDig = true ∧ Lib.decDigits n ≠ [] ∧ ((Lib.decDigits n).head? = some 48 → n = 0) := by
  intro n
  induction n using Nat.strongRecOn with
  | _ n ih =>
    by_cases h : n < 10
    · rw [Lib.decDigits_one h]
      have ht : (UInt8.ofNat (48 + n)).toNat = 48 + n := by rw [UInt8.toNat_ofNat']; omega
      refine ⟨by simp only [valF, List.foldl_cons, List.foldl_nil, ht]; omega, ?_, by simp, fun e => ?_⟩
      · simp only [List.all_cons, List.all_nil, Bool.and_true]
        exact isDig_iff.2 (by omega)
      · have e' : UInt8.ofNat (48 + n) = 48 := by simpa using e
        have := congrArg UInt8.toNat e'
        rw [ht] at this
        have h48 : (48 : UInt8).toNat = 48 := rfl
        omega
    · obtain ⟨i1, i2, i3, i4⟩ := ih (n / 10) (by omega)
      have ht : (UInt8.ofNat (48 + n % 10)).toNat = 48 + n % 10 := by rw [UInt8.toNat_ofNat']; omega
      rw [dec_big (by omega)]
      refine ⟨?_, ?_, by simp, fun e => ?_⟩
      · rw [valF_snoc, i1, ht]; omega
      · rw [List.all_append, i2, Bool.true_and]
        simp only [List.all_cons, List.all_nil, Bool.and_true]
        exact isDig_iff.2 (by omega)
      · rw [List.head?_append] at e
        cases hq : (Lib.decDigits (n / 10)).head? with
        | none => exact absurd (List.head?_eq_none_iff.1 hq) i3
        | some c =>
          rw [hq] at e
          have : c = 48 := by simpa using e
          subst this
          have := i4 hq
          omega
theorem dec_len : ∀ (k n : Nat), 1 ≤ k → n < 10 ^ k → (Lib.decDigits n).length ≤ k := by
  intro k
  induction k with
  | zero => intro n h; omega
  | succ k ih =>
    intro n _ hn
    by_cases h : n < 10
    · rw [Lib.decDigits_one h]; simp
    · have h1 : 1 ≤ k := by
        cases k with
        | zero => simp at hn; omega
        | succ k => omega
      rw [dec_big (by omega), List.length_append]
      have := ih (n / 10) h1 (by rw [Nat.pow_succ] at hn; omega)
      simp only [List.length_singleton]
      omega
theorem canon_dec (n : Nat) : canon (Lib.decDigits n) = true := by
  obtain ⟨h1, h2, h3, h4⟩ := val_dec n
  unfold canon
  rw [h2, Bool.true_and]
  match hq : Lib.decDigits n, h3, h4 with
  | [], h3, _ => exact absurd rfl h3
  | [c], _, _ => rfl
  | c :: d :: r, _, h4 =>
    simp only
    by_cases e : c = 48
    · subst e
      have := h4 rfl
      subst this
      rw [Lib.decDigits_one (by decide)] at hq
      simp at hq
    · simpa using e
theorem val_lt : ∀ (n : Nat) (t : List UInt8), t.length = n → t.all isDig = true → valF 0 t < 10 ^ n := by
  intro n
  induction n with
  | zero =>
    intro t h _
    have : t = [] := List.eq_nil_of_length_eq_zero h
    subst this
    decide
  | succ n ih =>
    intro t h ha
    rcases List.eq_nil_or_concat t with rfl | ⟨L, c, rfl⟩
    · cases h
    rw [List.concat_eq_append] at *
    rw [List.all_append, Bool.and_eq_true] at ha
    have hc := isDig_iff.1 (show isDig c = true by simpa using ha.2)
    have := ih L (by simpa using h) ha.1
    rw [valF_snoc, Nat.pow_succ]
    omega
theorem bytes_ofStr (s : List UInt8) : bytesOf (ofStr s) = s := by
  unfold bytesOf ofStr
  rw [List.map_map]
  have : (fun n : Int => UInt8.ofNat n.toNat) ∘ (fun b : UInt8 => ((b.toNat : Nat) : Int)) = id := by
    funext b
    simp
  rw [this, List.map_id]
theorem ofStr_len (s : List UInt8) : (ofStr s).length = s.length := by simp [ofStr]
theorem ofStr_append (a b : List UInt8) : ofStr (a ++ b) = ofStr a ++ ofStr b := by unfold ofStr; rw [List.map_append]
def numO : List UInt8 → Option Int
  | [] => none
  | c :: r => bif c == 45 then (bif canon r && decide (r.length ≤ 10) && !(r == [48]) then some (-((valF 0 r : Nat) : Int)) else none)
    else bif canon (c :: r) && decide ((c :: r).length ≤ 10) then some ((valF 0 (c :: r) : Nat) : Int) else none
theorem numO_cons (c : UInt8) (r : List UInt8) : numO (c :: r) = bif c == 45 then (bif canon r && decide (r.length ≤ 10) && !(r == [48]) then some (-((valF 0 r : Nat) : Int)) else none)
    else bif canon (c :: r) && decide ((c :: r).length ≤ 10) then some ((valF 0 (c :: r) : Nat) : Int) else none := rfl
theorem dec_ne45 (n : Nat) : ∃ c r, Lib.decDigits n = c :: r ∧ (c == 45) = false := by
  obtain ⟨h1, h2, h3, _⟩ := val_dec n
  match hq : Lib.decDigits n, h3, h2 with
  | [], h3, _ => exact absurd rfl h3
  | c :: r, _, h2 =>
    rw [List.all_cons, Bool.and_eq_true] at h2
    have hc := isDig_iff.1 h2.1
    refine ⟨c, r, rfl, ?_⟩
    rw [beq_eq_false_iff_ne]
    intro e
    subst e
    have : (45 : UInt8).toNat = 45 := rfl
    omega
theorem numO_some {s : List UInt8} {v : Int} (h : numO s = some v) : s = Lib.itoa v ∧ -9999999999 ≤ v ∧ v ≤ 9999999999 := by
  have h10 : (10 : Nat) ^ 10 = 10000000000 := by decide
  have bnd : ∀ t : List UInt8, canon t = true → t.length ≤ 10 → valF 0 t ≤ 9999999999 := by
    intro t hc hl
    have hc2 := hc
    unfold canon at hc2
    rw [Bool.and_eq_true] at hc2
    have := val_lt _ t rfl hc2.1
    have : (10 : Nat) ^ t.length ≤ 10 ^ 10 := Nat.pow_le_pow_right (by decide) hl
    omega
  cases s with
  | nil => cases h
  | cons c r =>
    rw [numO_cons] at h
    cases hc : c == 45 with
    | true =>
      rw [hc, cond_true] at h
      cases hq : canon r && decide (r.length ≤ 10) && !(r == [48]) with
      | false => rw [hq] at h; cases h
      | true =>
        rw [hq] at h
        cases h
        simp only [Bool.and_eq_true, decide_eq_true_eq, Bool.not_eq_true', beq_eq_false_iff_ne] at hq
        obtain ⟨⟨h1, h2⟩, h3⟩ := hq
        have hb := bnd r h1 h2
        have hv : 1 ≤ valF 0 r := by
          rcases Nat.eq_zero_or_pos (valF 0 r) with h0 | h0
          · have := dec_val h1
            rw [h0, Lib.decDigits_one (by decide)] at this
            exact absurd this.symm h3
          · exact h0
        rw [Lib.itoa_neg _ hv, dec_val h1]
        have : c = 45 := by simpa using hc
        subst this
        exact ⟨rfl, by omega, by omega⟩
    | false =>
      rw [hc, cond_false] at h
      cases hq : canon (c :: r) && decide ((c :: r).length ≤ 10) with
      | false => rw [hq] at h; cases h
      | true =>
        rw [hq] at h
        cases h
        simp only [Bool.and_eq_true, decide_eq_true_eq] at hq
        have hb := bnd _ hq.1 hq.2
        rw [Lib.itoa_nonneg, dec_val hq.1]
        exact ⟨rfl, by omega, by omega⟩
theorem dec_len10 {n : Nat} (h : n ≤ 9999999999) : (Lib.decDigits n).length ≤ 10 := by
  have h10 : (10 : Nat) ^ 10 = 10000000000 := by decide
  exact dec_len 10 n (by decide) (by omega)
theorem dec_big10 {n : Nat} (h : (Lib.decDigits n).length ≤ 10) : n ≤ 9999999999 := by
  have h10 : (10 : Nat) ^ 10 = 10000000000 := by decide
  obtain ⟨h1, h2, h3, _⟩ := val_dec n
  have := val_lt _ (Lib.decDigits n) rfl h2
  have : (10 : Nat) ^ (Lib.decDigits n).length ≤ 10 ^ 10 := Nat.pow_le_pow_right (by decide) h
  omega
theorem numO_itoa {n : Int} (h0 : -9999999999 ≤ n) (h1 : n ≤ 9999999999) : numO (Lib.itoa n) = some n := by
  by_cases hn : 0 ≤ n
  · obtain ⟨m, rfl⟩ := Int.eq_ofNat_of_zero_le hn
    rw [Lib.itoa_nonneg]
    obtain ⟨c, r, e, hc⟩ := dec_ne45 m
    have hcan := canon_dec m
    have hlen := dec_len10 (n := m) (by omega)
    have hv := (val_dec m).1
    rw [e] at hcan hlen hv ⊢
    rw [numO_cons]
    rw [hc, cond_false, hcan, decide_eq_true hlen, hv]
    rfl
  · obtain ⟨m, hm⟩ : ∃ m : Nat, n = -(m : Int) := ⟨n.natAbs, by omega⟩
    subst hm
    rw [Lib.itoa_neg m (by omega)]
    rw [numO_cons]
    have h48 : (Lib.decDigits m == [48]) = false := by
      rw [beq_eq_false_iff_ne]
      intro e
      have := (val_dec m).1
      rw [e] at this
      have : valF 0 [48] = 0 := rfl
      omega
    rw [show ((45 : UInt8) == 45) = true from rfl, cond_true, canon_dec, decide_eq_true (dec_len10 (n := m) (by omega)), h48, (val_dec m).1]
    rfl
theorem parse_val : ∀ (l : List UInt8) (acc : Nat), l.all isDig = true → valF acc l ≤ 9999999999 → Lib.parseUint10 acc l = .ok (valF acc l)
  | [], acc, _, _ => rfl
  | c :: l, acc, ha, hv => by
    rw [List.all_cons, Bool.and_eq_true] at ha
    have hc := isDig_iff.1 ha.1
    have hv' : valF (acc * 10 + (c.toNat - 48)) l ≤ 9999999999 := hv
    have hg := valF_ge l (acc * 10 + (c.toNat - 48))
    show (if 48 ≤ c.toNat ∧ c.toNat ≤ 57 then _ else _) = _
    rw [if_pos hc, if_neg (by omega), if_neg (by omega), parse_val l _ ha.2 hv']
    rfl
theorem mag_dec {n : Nat} (h : n ≤ 9999999999) : Lib.parseMag (Lib.decDigits n) = .ok n := by
  obtain ⟨h1, h2, h3, _⟩ := val_dec n
  unfold Lib.parseMag
  rw [if_neg h3, parse_val _ 0 h2 (by omega), h1]
theorem atoi_itoa {n : Int} (h0 : -9999999999 ≤ n) (h1 : n ≤ 9999999999) : Lib.atoiAll (Lib.itoa n) = .ok n := by
  by_cases hn : 0 ≤ n
  · obtain ⟨m, rfl⟩ := Int.eq_ofNat_of_zero_le hn
    rw [Lib.itoa_nonneg]
    have hp := mag_dec (n := m) (by omega)
    obtain ⟨_, h2, h3, _⟩ := val_dec m
    match hq : Lib.decDigits m, h3, h2, hp with
    | [], h3, _, _ => exact absurd rfl h3
    | c :: r, _, h2, hp =>
      rw [List.all_cons, Bool.and_eq_true] at h2
      have hc := isDig_iff.1 h2.1
      rw [Lib.atoiAll_plain c r (by omega) (by omega), hp]
      unfold Lib.signless
      simp only
      rw [if_neg (by omega)]
  · obtain ⟨m, hm⟩ : ∃ m : Nat, n = -(m : Int) := ⟨n.natAbs, by omega⟩
    subst hm
    rw [Lib.itoa_neg m (by omega), Lib.atoiAll_minus, mag_dec (by omega)]
    unfold Lib.signed
    simp only
    rw [if_neg (by omega)]
def tail45 (s : List UInt8) : List UInt8 := match s with
  | [] => []
  | c :: r => bif c == 45 then r else c :: r
theorem prefix_ok (s : List UInt8) : qau s [45] = some (tail45 s) := by
  rw [qau, sealF_eq]
  unfold qau_f
  rw [qam, sealF_eq]
  unfold qam_f
  rw [qal, sealF_eq]
  unfold qal_f
  cases s with
  | nil => rfl
  | cons c r =>
    have e1 : (((c :: r).length : Nat) : Int) ≥ (([45] : List UInt8).length : Int) := by simp only [List.length_cons, List.length_nil]; omega
    have e2 : (0 : Int) ≤ (([45] : List UInt8).length : Int) := by decide
    rw [decide_eq_true e1, cond_true, decide_eq_true e2, decide_eq_true (show (((c :: r).length : Nat) : Int) ≤ (((c :: r).length : Nat) : Int) from Int.le_refl _)]
    have e3 : (List.drop 0 (List.take (Int.toNat (([45] : List UInt8).length : Int)) (c :: r)) == [45]) = (c == 45) := by
      show ([c] == [45]) = _
      cases h : c == 45 <;> simp at h <;> simp [h]
    rw [e3]
    show (bif c == 45 then some (List.drop 1 (List.take (Int.toNat (((c :: r).length : Nat) : Int)) (c :: r))) else some (c :: r)).bind (fun y => some y) = some (bif c == 45 then r else c :: r)
    rw [Int.toNat_natCast, List.take_length]
    cases c == 45 <;> rfl
theorem tail_itoa {v : Int} : (tail45 (Lib.itoa v)).length ≤ 10 ↔ (-9999999999 ≤ v ∧ v ≤ 9999999999) := by
  by_cases hn : 0 ≤ v
  · obtain ⟨m, rfl⟩ := Int.eq_ofNat_of_zero_le hn
    rw [Lib.itoa_nonneg]
    obtain ⟨c, r, e, hc⟩ := dec_ne45 m
    have : tail45 (Lib.decDigits m) = Lib.decDigits m := by rw [e]; show (bif c == 45 then r else c :: r) = c :: r; rw [hc]; rfl
    rw [this]
    refine ⟨fun h => ?_, fun h => dec_len10 (by omega)⟩
    have := dec_big10 h
    omega
  · obtain ⟨m, hm⟩ : ∃ m : Nat, v = -(m : Int) := ⟨v.natAbs, by omega⟩
    subst hm
    rw [Lib.itoa_neg m (by omega)]
    show (Lib.decDigits m).length ≤ 10 ↔ _
    refine ⟨fun h => ?_, fun h => dec_len10 (by omega)⟩
    have := dec_big10 h
    omega
theorem itoa_ok {v : Int} (h0 : -9223372036854775808 ≤ v) (h1 : v ≤ 9223372036854775807) : strconv_ItoaW v = some (Lib.itoa v) := by
  rw [strconv_ItoaW, sealF_eq]
  unfold strconv_ItoaW_f
  rw [decide_eq_true ⟨h0, h1⟩, cond_true]
theorem number_ok (s : List UInt8) (hl : s.length ≤ 10000000) : ∃ v b, qaf s = some (v, b) ∧ (bif b then some v else none) = numO s := by
  have ha : strconv_Atoi s = some (atoiOf s) := by
    rw [strconv_Atoi, sealF_eq]
    unfold strconv_Atoi_f
    rw [decide_eq_true (by omega)]
    rfl
  rw [qaf, sealF_eq]
  unfold qaf_f
  rw [ha, Option.bind_some, prefix_ok]
  simp only [Option.bind_some]
  cases hA : Lib.atoiAll s with
  | ok v =>
    obtain ⟨b1, b2⟩ := Lib.atoiAll_bounds hA
    have e : atoiOf s = (v, false) := by unfold atoiOf; rw [hA]
    rw [e]
    simp only [Bool.not_false, cond_true, Option.bind_some]
    rw [itoa_ok b1 b2]
    simp only [Option.bind_some]
    refine ⟨v, decide ((((tail45 s).length : Nat) : Int) ≤ 10) && (Lib.itoa v == s), ?_, ?_⟩
    · cases decide ((((tail45 s).length : Nat) : Int) ≤ 10) <;> rfl
    · by_cases hs : Lib.itoa v = s
      · rw [show (Lib.itoa v == s) = true by simpa using hs, Bool.and_true, ← hs]
        by_cases ht : (tail45 (Lib.itoa v)).length ≤ 10
        · have := tail_itoa.1 ht
          rw [decide_eq_true (by omega), cond_true, numO_itoa this.1 this.2]
        · rw [decide_eq_false (by omega), cond_false]
          cases hq : numO (Lib.itoa v) with
          | none => rfl
          | some u =>
            obtain ⟨e1, e2, e3⟩ := numO_some hq
            rw [e1] at ht
            exact absurd (tail_itoa.2 ⟨e2, e3⟩) ht
      · rw [show (Lib.itoa v == s) = false by simpa using hs, Bool.and_false, cond_false]
        cases hq : numO s with
        | none => rfl
        | some u =>
          obtain ⟨e1, e2, e3⟩ := numO_some hq
          subst e1
          rw [atoi_itoa e2 e3] at hA
          cases hA
          exact absurd rfl hs
  | _ =>
    have e : (atoiOf s).2 = true := by unfold atoiOf; rw [hA]
    rw [e]
    refine ⟨(atoiOf s).1, false, rfl, ?_⟩
    cases hq : numO s with
    | none => rfl
    | some u =>
      obtain ⟨e1, e2, e3⟩ := numO_some hq
      subst e1
      rw [atoi_itoa e2 e3] at hA
      cases hA
end Lift.AA
namespace Lift.AA
open Go Go.RowKit Lift Go.IntWalk Lift.Fn
set_option linter.unusedVariables false
set_option linter.unusedSimpArgs false
theorem loop_foldO {α σ ρ : Type} (l : List α) (body : α → σ → Option σ) (out : σ → ρ) (L : Nat → Int → σ → Option ρ)
    (h0 : ∀ n i s, 0 ≤ i → ¬ i < (l.length : Int) → L (n + 1) i s = some (out s))
    (h1 : ∀ n i s (x : α), 0 ≤ i → i < (l.length : Int) → l[i.toNat]? = some x → L (n + 1) i s = (body x s).bind fun s' => L n (i + 1) s') :
    ∀ (k n : Nat) (i : Int) (s : σ), 0 ≤ i → l.length - i.toNat ≤ k → k < n → L n i s = ((l.drop i.toNat).foldlM (fun s x => body x s) s).bind fun s => some (out s) := by
  intro k
  induction k with
  | zero =>
    intro n i s hi hk hn
    obtain ⟨n, rfl⟩ : ∃ q, n = q + 1 := ⟨n - 1, by omega⟩
    rw [h0 n i s hi (by omega), List.drop_eq_nil_of_le (by omega)]
    rfl
  | succ k ih =>
    intro n i s hi hk hn
    obtain ⟨n, rfl⟩ : ∃ q, n = q + 1 := ⟨n - 1, by omega⟩
    by_cases c : i < (l.length : Int)
    · have hlt : i.toNat < l.length := by omega
      rw [h1 n i s l[i.toNat] hi c (List.getElem?_eq_getElem hlt), List.drop_eq_getElem_cons hlt, List.foldlM_cons]
      show _ = Option.bind (Option.bind _ _) _
      rw [Option.bind_assoc]
      congr 1
      funext s'
      rw [ih n (i + 1) s' (by omega) (by omega) (by omega)]
      congr 3
      omega
    · rw [h0 n i s hi c, List.drop_eq_nil_of_le (by omega)]
      rfl
def okN (n : Int) : Prop := -2147483647 ≤ n ∧ n ≤ 2147483647
theorem fold_app {α : Type} (f : α → List UInt8) (body : α → List Int → Option (List Int)) (K : Nat) : ∀ (l : List α) (B : Nat) (acc : List Int),
    (∀ x ∈ l, (f x).length ≤ K ∧ ∀ s : List Int, s.length ≤ B → body x s = some (s ++ ofStr (f x))) → acc.length + l.length * K ≤ B →
    l.foldlM (fun s x => body x s) acc = some (acc ++ ofStr (l.flatMap f))
  | [], B, acc, _, _ => by show some acc = _; simp [ofStr]
  | x :: l, B, acc, h, hb => by
    obtain ⟨hx1, hx2⟩ := h x (by simp)
    rw [List.length_cons, Nat.add_mul] at hb
    rw [List.foldlM_cons, hx2 acc (by omega)]
    show l.foldlM _ _ = _
    rw [fold_app f body K l B _ (fun y hy => h y (by simp [hy])) (by rw [List.length_append, ofStr_len]; omega), List.flatMap_cons, ofStr_append, List.append_assoc]
theorem flat_len {α : Type} (f : α → List UInt8) (K : Nat) : ∀ l : List α, (∀ x ∈ l, (f x).length ≤ K) → (l.flatMap f).length ≤ l.length * K
  | [], _ => by simp
  | x :: l, h => by
    have := flat_len f K l (fun y hy => h y (by simp [hy]))
    have := h x (by simp)
    rw [List.flatMap_cons, List.length_append, List.length_cons, Nat.add_mul]
    omega
theorem ws_ok (w : List UInt8) (acc : List Int) (h : acc.length + w.length ≤ 100000000000000) : qat w acc = some ((w.length : Int), false, acc ++ ofStr w) := by
  rw [qat, sealF_eq]
  unfold qat_f
  rw [decide_eq_true (by omega), cond_true]
theorem wb_ok (n : Int) (acc : List Int) (h : acc.length ≤ 100000000000000) : qas n acc = some (false, acc ++ [n]) := by
  rw [qas, sealF_eq]
  unfold qas_f
  rw [decide_eq_true (by simp only [List.length_cons, List.length_nil]; omega), cond_true]
def oneS (n : Int) : List UInt8 := 32 :: Lib.itoa n
def lineS (word : List UInt8) (l : List Int) : List UInt8 := word ++ l.flatMap oneS ++ [10]
theorem one_len {n : Int} (h : okN n) : (oneS n).length ≤ 22 := by
  have := Lib.itoa_length_le n (by have := h.1; omega) (by have := h.2; omega)
  unfold oneS
  rw [List.length_cons]
  omega
theorem line_len {word : List UInt8} {l : List Int} (hl : ∀ n ∈ l, okN n) : (lineS word l).length ≤ word.length + l.length * 22 + 1 := by
  have := flat_len oneS 22 l (fun n h => one_len (hl n h))
  unfold lineS
  rw [List.length_append, List.length_append, List.length_singleton]
  omega
theorem line_ok (word : List UInt8) (l : List Int) (acc : List Int) (hw : word.length ≤ 100) (hl : l.length ≤ 100) (hn : ∀ n ∈ l, okN n) (ha : acc.length ≤ 10000000000) :
    qae word l acc = some (acc ++ ofStr (lineS word l)) := by
  rw [qae, sealF_eq]
  unfold qae_f
  rw [ws_ok _ _ (by omega), Option.bind_some]
  have := loop_foldO l (fun x s => (qat (oneS x) s).bind fun y => some y.2.2) id (fun n i s => qae_i2 n l (l.length : Int) i s)
    (fun n i s h0 h => by simp only [qae_i2, qae_t2, decide_eq_false h, cond_false, id])
    (fun n i s x h0 h hx => by
      have hok := hn x (List.mem_of_getElem? hx)
      have h1 := one_len hok
      have hlen : (Lib.itoa x).length ≤ 21 := by unfold oneS at h1; rw [List.length_cons] at h1; omega
      simp only [qae_i2, qae_t2, decide_eq_true h, decide_eq_true h0, cond_true, hx, Option.bind_some, i64_in (i + 1) (by omega)]
      rw [itoa_ok (by have := hok.1; omega) (by have := hok.2; omega), Option.bind_some, decide_eq_true (by omega), cond_true, Option.bind_assoc]
      rfl)
    l.length fuel 0 (acc ++ ofStr word) (by omega) (by omega) (by unfold fuel; omega)
  rw [qae_l2, sealF_eq]
  simp only
  rw [this]
  rw [show (0 : Int).toNat = 0 from rfl, List.drop_zero, fold_app oneS _ 22 l 20000000000 (acc ++ ofStr word) (fun x hx => ⟨one_len (hn x hx), fun s hs => by rw [ws_ok _ _ (by have := one_len (hn x hx); omega)]; rfl⟩) (by rw [List.length_append, ofStr_len]; omega)]
  show Option.bind (qas 10 _) _ = _
  have hf := flat_len oneS 22 l (fun n h => one_len (hn n h))
  rw [wb_ok _ _ (by rw [id, List.length_append, List.length_append, ofStr_len, ofStr_len]; omega)]
  unfold lineS
  rw [ofStr_append, ofStr_append]
  simp only [List.append_assoc, Option.bind_some, id]
  rfl
def wordS (a : Instr) : List UInt8 := match opsL[a.op.toNat]? with
  | some o => o.word
  | none => []
def numsS (a : Instr) : List Int := match opsL[a.op.toNat]? with
  | some o => [a.a, a.b, a.c].take o.numbers.length
  | none => []
def instrS (a : Instr) : List UInt8 := lineS (wordS a) (numsS a)
def threadS (c : ACode) : List UInt8 := lineS [116, 104, 114, 101, 97, 100] [c.regs] ++ c.instrs.flatMap instrS
def printS (x : Image) : List UInt8 := (lineS [99, 101, 108, 108, 115] x.cells ++ lineS [109, 117, 116, 101, 120, 101, 115] [x.mutexes]) ++ x.threads.flatMap threadS
structure OkI (a : Instr) : Prop where
  op1 : 1 ≤ a.op
  op2 : a.op ≤ 29
  na : okN a.a
  nb : okN a.b
  nc : okN a.c
structure OkC (c : ACode) : Prop where
  regs : 0 ≤ c.regs ∧ c.regs ≤ 64
  len : c.instrs.length ≤ 4000
  all : ∀ a ∈ c.instrs, OkI a
structure OkX (x : Image) : Prop where
  th : x.threads.length ≤ 8
  th1 : 1 ≤ x.threads.length
  ce : x.cells.length ≤ 8
  mu : 0 ≤ x.mutexes ∧ x.mutexes ≤ 8
  cells : ∀ n ∈ x.cells, okN n
  all : ∀ c ∈ x.threads, OkC c
theorem fit_range {n k a b c d e : Int} (h : fitK n k a b c d e = true) (ha : a ≤ 4000) (hb : b ≤ 4000) (hc : c ≤ 4000) (hd : d ≤ 4000) (he : e ≤ 4000) : okN n := by
  unfold fitK at h
  unfold okN
  cases h1 : k == 78 with
  | true => rw [h1] at h; simp only [cond_true, Bool.and_eq_true, decide_eq_true_eq] at h; omega
  | false =>
  cases h2 : k == 82 with
  | true => rw [h1, h2] at h; simp only [cond_false, cond_true, Bool.and_eq_true, decide_eq_true_eq] at h; omega
  | false =>
  cases h3 : k == 73 with
  | true => rw [h1, h2, h3] at h; simp only [cond_false, cond_true, Bool.and_eq_true, decide_eq_true_eq] at h; omega
  | false =>
  cases h4 : k == 99 with
  | true => rw [h1, h2, h3, h4] at h; simp only [cond_false, cond_true, Bool.and_eq_true, decide_eq_true_eq] at h; omega
  | false =>
  cases h5 : k == 109 with
  | true => rw [h1, h2, h3, h4, h5] at h; simp only [cond_false, cond_true, Bool.and_eq_true, decide_eq_true_eq] at h; omega
  | false =>
  cases h6 : k == 116 with
  | true => rw [h1, h2, h3, h4, h5, h6] at h; simp only [cond_false, cond_true, Bool.and_eq_true, decide_eq_true_eq] at h; omega
  | false => rw [h1, h2, h3, h4, h5, h6] at h; simp only [cond_false, cond_true, Bool.and_eq_true, decide_eq_true_eq] at h; omega
theorem right_okX {x : Image} (h : rightS x = true) : OkX x := by
  unfold rightS headS at h
  simp only [Bool.and_eq_true, decide_eq_true_eq, List.all_eq_true] at h
  obtain ⟨⟨⟨⟨⟨h1, h2⟩, h3⟩, h4⟩, h5⟩, h6, h7⟩ := h
  refine ⟨h2, h1, h3, ⟨h4, h5⟩, fun n hn => ?_, fun c hc => ?_⟩
  · have := h6 n hn
    unfold numS at this
    simp only [Bool.and_eq_true, decide_eq_true_eq] at this
    exact ⟨this.1, this.2⟩
  · have := h7 c hc
    unfold codeS at this
    simp only [Bool.and_eq_true, decide_eq_true_eq, List.all_eq_true] at this
    obtain ⟨⟨⟨⟨g1, g2⟩, g3⟩, g4⟩, g5, g6⟩ := this
    refine ⟨⟨g1, g2⟩, g4, fun a ha => ?_⟩
    have := g6 a ha
    unfold fitsS at this
    simp only [Bool.and_eq_true, decide_eq_true_eq] at this
    obtain ⟨⟨o1, o2⟩, o3⟩ := this
    obtain ⟨o, ho, _⟩ := ops_there o1 o2
    rw [ho] at o3
    simp only [Bool.and_eq_true] at o3
    unfold fitX at o3
    exact ⟨o1, o2, fit_range o3.1 (by omega) (by omega) (by omega) (by omega) (by omega), fit_range o3.2.1 (by omega) (by omega) (by omega) (by omega) (by omega), fit_range o3.2.2 (by omega) (by omega) (by omega) (by omega) (by omega)⟩
theorem word_len {op : Int} {o : Operation} (h1 : 1 ≤ op) (h2 : op ≤ 29) (h : opsL[op.toNat]? = some o) : o.word.length ≤ 10 := by
  have hall : opsL.all (fun o => decide (o.word.length ≤ 10)) = true := by decide
  have := List.all_eq_true.1 hall o (List.mem_of_getElem? h)
  simpa using this
theorem nums_ok {a : Instr} (h : OkI a) : (∀ n ∈ numsS a, okN n) ∧ (numsS a).length ≤ 3 ∧ (wordS a).length ≤ 10 := by
  obtain ⟨o, ho, _, _, hn⟩ := ops_there h.op1 h.op2
  have hw := word_len h.op1 h.op2 ho
  unfold numsS wordS
  rw [ho]
  refine ⟨fun n hn => ?_, ?_, hw⟩
  · have := List.mem_of_mem_take hn
    simp only [List.mem_cons, List.not_mem_nil, or_false] at this
    rcases this with rfl | rfl | rfl
    · exact h.na
    · exact h.nb
    · exact h.nc
  · simp only [List.length_take, List.length_cons, List.length_nil]; omega
theorem instr_len {a : Instr} (h : OkI a) : (instrS a).length ≤ 100 := by
  obtain ⟨h1, h2, h3⟩ := nums_ok h
  have := line_len (word := wordS a) h1
  unfold instrS
  omega
theorem thread_len {c : ACode} (h : OkC c) : (threadS c).length ≤ 500000 := by
  have h1 := flat_len instrS 100 c.instrs (fun a ha => instr_len (h.all a ha))
  have h2 := line_len (word := [116, 104, 114, 101, 97, 100]) (l := [c.regs]) (fun n hn => by simp only [List.mem_singleton] at hn; subst hn; have := h.regs; unfold okN; omega)
  have := h.len
  unfold threadS
  rw [List.length_append]
  simp only [List.length_cons, List.length_nil] at h2
  omega
noncomputable def pI (l : List Instr) (s : List Int) : Option (List Int) := l.foldlM (fun s a => qae (wordS a) (numsS a) s) s
theorem pI_ok (l : List Instr) (acc : List Int) (hl : l.length ≤ 4000) (ha : acc.length ≤ 5000000) (hok : ∀ a ∈ l, OkI a) : pI l acc = some (acc ++ ofStr (l.flatMap instrS)) :=
  fold_app instrS _ 100 l 100000000 acc (fun a h => ⟨instr_len (hok a h), fun s hs => by
    obtain ⟨h1, h2, h3⟩ := nums_ok (hok a h)
    exact line_ok _ _ _ (by omega) (by omega) h1 (by omega)⟩) (by omega)
theorem print_instrs (p : List ACode) (q r : Int) (l : List Instr) (acc : List Int) (hl : l.length ≤ 4000) (hok : ∀ a ∈ l, OkI a) :
    qaa_l12 p q r l (l.length : Int) 0 opsL acc = (pI l acc).bind fun s => some (p, q, r, opsL, s) := by
  rw [qaa_l12, sealF_eq]
  have := loop_foldO l (fun a s => qae (wordS a) (numsS a) s) (fun s => (p, q, r, opsL, s)) (fun n i s => qaa_i12 n p q r l (l.length : Int) i opsL s)
    (fun n i s h0 h => by simp only [qaa_i12, qaa_t12, decide_eq_false h, cond_false])
    (fun n i s a h0 h hx => by
      have ok := hok a (List.mem_of_getElem? hx)
      obtain ⟨o, ho, _, _, hn⟩ := ops_there ok.op1 ok.op2
      have e1 : wordS a = o.word := by unfold wordS; rw [ho]
      have e2 : numsS a = [a.a, a.b, a.c].take o.numbers.length := by unfold numsS; rw [ho]
      have b1 := ok.op1
      have b2 := ok.op2
      simp only [qaa_i12, qaa_t12, decide_eq_true h, decide_eq_true h0, cond_true, hx, Option.bind_some, i64_in (i + 1) (by omega)]
      rw [decide_eq_true (show (0 : Int) ≤ a.op by omega), decide_eq_true (show a.op < ((opsL.length : Nat) : Int) by rw [ops_len]; omega), Bool.and_self, cond_true, ho, Option.bind_some]
      rw [decide_eq_true (show (0 : Int) ≤ 0 by omega), decide_eq_true (show (0 : Int) ≤ ((o.numbers.length : Nat) : Int) by omega), decide_eq_true (show ((o.numbers.length : Nat) : Int) ≤ ((([a.a, a.b, a.c] : List Int).length : Nat) : Int) by simp only [List.length_cons, List.length_nil]; omega), Bool.and_self, Bool.and_self, cond_true, Int.toNat_natCast, List.drop_zero, e1, e2])
    l.length fuel 0 acc (by omega) (by omega) (by unfold fuel; omega)
  exact this
theorem regs_ok {c : ACode} (h : OkC c) : ∀ n ∈ [c.regs], okN n := fun n hn => by
  simp only [List.mem_singleton] at hn
  subst hn
  have := h.regs
  unfold okN
  omega
theorem print_threads (l : List ACode) (acc : List Int) (hl : l.length ≤ 8) (ha : acc.length ≤ 1000) (hok : ∀ c ∈ l, OkC c) :
    qaa_l8 l (l.length : Int) 0 opsL acc = some (acc ++ ofStr (l.flatMap threadS)) := by
  rw [qaa_l8, sealF_eq]
  have := loop_foldO l (fun c s => (qae [116, 104, 114, 101, 97, 100] [c.regs] s).bind fun y1 => pI c.instrs y1) id (fun n i s => qaa_i8 n l (l.length : Int) i opsL s)
    (fun n i s h0 h => by simp only [qaa_i8, qaa_t8, decide_eq_false h, cond_false, id])
    (fun n i s c h0 h hx => by
      have ok := hok c (List.mem_of_getElem? hx)
      simp only [qaa_i8, qaa_t8, decide_eq_true h, decide_eq_true h0, cond_true, hx, Option.bind_some]
      rw [Option.bind_assoc]
      congr 1
      funext y1
      rw [print_instrs _ _ _ _ _ ok.len ok.all, Option.bind_assoc]
      simp only [Option.bind_some, i64_in (i + 1) (by omega)])
    l.length fuel 0 acc (by omega) (by omega) (by unfold fuel; omega)
  rw [this, show (0 : Int).toNat = 0 from rfl, List.drop_zero, fold_app threadS _ 500000 l 4500000 acc (fun c h => ⟨thread_len (hok c h), fun s hs => by
    have ok := hok c h
    have hr := regs_ok ok
    have h2 := line_len (word := [116, 104, 114, 101, 97, 100]) hr
    simp only [List.length_cons, List.length_nil] at h2
    rw [line_ok _ _ _ (by decide) (by simp) hr (by omega), Option.bind_some, pI_ok _ _ ok.len (by rw [List.length_append, ofStr_len]; omega) ok.all]
    unfold threadS
    rw [ofStr_append, List.append_assoc]⟩) (by omega)]
  rfl
theorem ofStr_all (s : List UInt8) : (ofStr s).all (fun n => decide (0 ≤ n ∧ n < 256)) = true := by
  rw [List.all_eq_true]
  intro n hn
  unfold ofStr at hn
  rw [List.mem_map] at hn
  obtain ⟨b, _, rfl⟩ := hn
  have := b.toNat_lt
  exact decide_eq_true (by omega)
theorem string_ok (s : List UInt8) : strings_Builder_String (ofStr s) = some s := by
  rw [strings_Builder_String, sealF_eq]
  unfold strings_Builder_String_f
  rw [ofStr_all, cond_true, bytes_ofStr]
theorem mut_ok {x : Image} (h : OkX x) : ∀ n ∈ [x.mutexes], okN n := fun n hn => by
  simp only [List.mem_singleton] at hn
  subst hn
  have := h.mu
  unfold okN
  omega
theorem head_len {x : Image} (h : OkX x) : (lineS [99, 101, 108, 108, 115] x.cells ++ lineS [109, 117, 116, 101, 120, 101, 115] [x.mutexes]).length ≤ 1000 := by
  have h1 := line_len (word := [99, 101, 108, 108, 115]) h.cells
  have h2 := line_len (word := [109, 117, 116, 101, 120, 101, 115]) (mut_ok h)
  have := h.ce
  simp only [List.length_cons, List.length_nil] at h1 h2
  rw [List.length_append]
  omega
theorem print_ok (x : Image) : qaa x = some (bif rightS x then (printS x, 0) else ([], 100)) := by
  rw [qaa, sealF_eq]
  unfold qaa_f
  rw [right_ok, Option.bind_some]
  cases hr : rightS x with
  | false => rfl
  | true =>
    have ok := right_okX hr
    have hc := ok.ce
    have hh := head_len ok
    rw [Bool.not_true, cond_false, cond_true, operations_ok, Option.bind_some, line_ok _ _ _ (by decide) (by omega) ok.cells (by decide), Option.bind_some, List.nil_append]
    have h1 := line_len (word := [99, 101, 108, 108, 115]) ok.cells
    simp only [List.length_cons, List.length_nil] at h1
    rw [line_ok _ _ _ (by decide) (by simp) (mut_ok ok) (by rw [ofStr_len]; omega), Option.bind_some, ← ofStr_append, print_threads _ _ ok.th (by rw [ofStr_len]; exact hh) ok.all, Option.bind_some, ← ofStr_append, string_ok]
    rfl
theorem nums_ne {op : Int} {o : Operation} (h : opsL[op.toNat]? = some o) : ∀ k ∈ o.numbers, k ≠ 32 := by
  have hall : opsL.all (fun o => o.numbers.all fun k => decide (k ≠ 32)) = true := by decide
  have := List.all_eq_true.1 hall o (List.mem_of_getElem? h)
  intro k hk
  have := List.all_eq_true.1 this k hk
  simpa using this
end Lift.AA
namespace Lift.AA
open Go Go.RowKit Lift Go.IntWalk Lift.Fn
set_option linter.unusedVariables false
set_option linter.unusedSimpArgs false
theorem pieces_ne (c : UInt8) (s : List UInt8) : pieces c s ≠ [] := by
  cases s with
  | nil => simp [Lift.pieces]
  | cons x s =>
    unfold Lift.pieces
    cases x == c with
    | true => simp
    | false =>
      simp only [cond_false]
      split <;> simp
theorem pieces_at (c : UInt8) : ∀ r : List UInt8, (Lib.indexByte r c = -1 ∧ pieces c r = [r]) ∨ ∃ k : Nat, k < r.length ∧ Lib.indexByte r c = (k : Int) ∧ pieces c r = r.take k :: pieces c (r.drop (k + 1))
  | [] => .inl ⟨rfl, rfl⟩
  | x :: r => by
    have ih := pieces_at c r
    have e : pieces c (x :: r) = bif x == c then [] :: pieces c r else match pieces c r with
      | p :: ps => (x :: p) :: ps
      | [] => [[x]] := rfl
    rw [e]
    unfold Lib.indexByte
    cases hx : x == c with
    | true =>
      right
      refine ⟨0, by simp, ?_, by simp⟩
      simp [hx]
    | false =>
      rcases ih with ⟨h1, h2⟩ | ⟨k, h1, h2, h3⟩
      · left
        refine ⟨?_, ?_⟩
        · simp [hx, h1]
        · rw [h2]; rfl
      · right
        refine ⟨k + 1, by simp; omega, ?_, ?_⟩
        · simp [hx, h2]
        · rw [h3]; simp
theorem extract_tail (r : List UInt8) (k : Nat) : (⟨r.toArray⟩ : ByteArray).extract k (⟨r.toArray⟩ : ByteArray).size = ⟨(r.drop k).toArray⟩ := by
  apply ByteArray.ext
  rw [ByteArray.data_extract]
  apply Array.ext'
  simp only [Array.toList_extract, List.extract_eq_take_drop]
  rw [List.take_of_length_le (by simp [ByteArray.size])]
theorem extract_head (r : List UInt8) (k : Nat) : (⟨r.toArray⟩ : ByteArray).extract 0 k = ⟨(r.take k).toArray⟩ := by
  apply ByteArray.ext
  rw [ByteArray.data_extract]
  apply Array.ext'
  simp only [Array.toList_extract, List.extract_eq_take_drop]
  simp
theorem indexB_one (s : List UInt8) (c : UInt8) : Lib.indexB ⟨s.toArray⟩ ⟨#[c]⟩ = Lib.indexByte s c := by
  unfold Lib.indexB
  exact Lib.index_one s c
theorem split_pieces (c : UInt8) : ∀ (n : Nat) (s : List UInt8), s.length ≤ n → splitL s [c] = pieces c s := by
  intro n
  induction n with
  | zero =>
    intro s hs
    have : s = [] := List.eq_nil_of_length_eq_zero (by omega)
    subst this
    have hm : Lib.indexB ⟨([] : List UInt8).toArray⟩ ⟨#[c]⟩ = -1 := by rw [indexB_one]; rfl
    unfold splitL
    rw [show (⟨[c].toArray⟩ : ByteArray) = ⟨#[c]⟩ from rfl, Lib.countB_miss _ _ hm, Lib.splitB_zero]
    rfl
  | succ n ih =>
    intro s hs
    unfold splitL
    rw [show (⟨[c].toArray⟩ : ByteArray) = ⟨#[c]⟩ from rfl]
    rcases pieces_at c s with ⟨h1, h2⟩ | ⟨k, hk, h1, h2⟩
    · have hm : Lib.indexB ⟨s.toArray⟩ ⟨#[c]⟩ = -1 := by rw [indexB_one]; exact h1
      rw [Lib.countB_miss _ _ hm, Lib.splitB_zero, h2]
      rfl
    · have hm : Lib.indexB ⟨s.toArray⟩ ⟨#[c]⟩ = (k : Int) := by rw [indexB_one]; exact h1
      have h1' : (⟨#[c]⟩ : ByteArray).size = 1 := rfl
      rw [Lib.countB_hit _ _ k (by rw [h1']; exact Nat.le_refl _) hm, Nat.add_comm 1, Lib.splitB_hit _ _ _ _ k hm, h2, List.map_cons]
      have i1 := ih (s.drop (k + 1)) (by rw [List.length_drop]; omega)
      unfold splitL at i1
      rw [show (⟨[c].toArray⟩ : ByteArray) = ⟨#[c]⟩ from rfl] at i1
      rw [h1', extract_tail, i1, Nat.add_zero, extract_head]
theorem cut_one (s : List UInt8) (c : UInt8) : Lib.cut s [c] = if 0 ≤ Lib.indexByte s c then (s.take (Lib.indexByte s c).toNat, s.drop ((Lib.indexByte s c).toNat + 1), true) else (s, [], false) := by
  unfold Lib.cut
  rw [Lib.index_one]
  rfl
theorem pieces_small (c : UInt8) : ∀ s : List UInt8, (pieces c s).length ≤ s.length + 1 ∧ ∀ p ∈ pieces c s, p.length ≤ s.length
  | [] => ⟨by simp [pieces], fun p hp => by simp [pieces] at hp; subst hp; exact Nat.le_refl _⟩
  | x :: s => by
    obtain ⟨h1, h2⟩ := pieces_small c s
    have e : pieces c (x :: s) = bif x == c then [] :: pieces c s else match pieces c s with
      | p :: ps => (x :: p) :: ps
      | [] => [[x]] := rfl
    rw [e]
    cases x == c with
    | true =>
      rw [cond_true]
      refine ⟨by simp only [List.length_cons]; omega, fun p hp => ?_⟩
      rcases List.mem_cons.1 hp with rfl | hp
      · simp
      · have := h2 p hp; simp only [List.length_cons]; omega
    | false =>
      rw [cond_false]
      match hq : pieces c s, h1, h2 with
      | [], _, _ => exact ⟨by simp, fun p hp => by simp only [List.mem_singleton] at hp; subst hp; simp⟩
      | q :: ps, h1, h2 =>
        refine ⟨by simp only [List.length_cons] at h1 ⊢; omega, fun p hp => ?_⟩
        rcases List.mem_cons.1 hp with rfl | hp
        · have := h2 q (by simp); simp only [List.length_cons]; omega
        · have := h2 p (by simp [hp]); simp only [List.length_cons]; omega
def numsO : List (List UInt8) → Option (List Int)
  | [] => some []
  | f :: fs => (numO f).bind fun n => (numsO fs).map fun l => n :: l
def partsS (s : List UInt8) : Option (List UInt8 × List Int) := match pieces 32 s with
  | [] => none
  | w :: fs => (numsO fs).map fun l => (w, l)
theorem split_ok (s : List UInt8) (h : s.length ≤ 10000000) : strings_Split s [32] = some (pieces 32 s) := by
  rw [strings_Split, sealF_eq]
  unfold strings_Split_f
  rw [decide_eq_true ⟨by omega, by decide⟩, cond_true, split_pieces 32 _ s (Nat.le_refl _)]
theorem parts_loop (a0 fs : List (List UInt8)) (hl : fs.length ≤ 10000000) (hf : ∀ f ∈ fs, f.length ≤ 10000000) : ∀ (k n i : Nat) (acc : List Int), fs.length - i ≤ k → k < n → acc.length ≤ i → i ≤ fs.length →
    qai_i4 n a0 fs (fs.length : Int) (i : Int) acc = some (match numsO (fs.drop i) with
      | some l => .inr (a0, acc ++ l)
      | none => .inl ([], false)) := by
  intro k
  induction k with
  | zero =>
    intro n i acc hk hn ha hi
    obtain ⟨n, rfl⟩ : ∃ q, n = q + 1 := ⟨n - 1, by omega⟩
    unfold qai_i4 qai_t4
    rw [decide_eq_false (by omega), cond_false, List.drop_eq_nil_of_le (by omega)]
    simp [numsO]
  | succ k ih =>
    intro n i acc hk hn ha hi
    obtain ⟨n, rfl⟩ : ∃ q, n = q + 1 := ⟨n - 1, by omega⟩
    unfold qai_i4 qai_t4
    by_cases c : i < fs.length
    · have hg : fs[Int.toNat (i : Int)]? = some fs[i] := by rw [Int.toNat_natCast]; exact List.getElem?_eq_getElem c
      obtain ⟨v, b, h1, h2⟩ := number_ok fs[i] (hf _ (List.getElem_mem c))
      rw [decide_eq_true (show (i : Int) < (fs.length : Int) by omega), cond_true, decide_eq_true (show (0 : Int) ≤ (i : Int) by omega), cond_true, hg, Option.bind_some, h1, Option.bind_some, List.drop_eq_getElem_cons c]
      unfold numsO
      rw [← h2]
      cases b with
      | false => rfl
      | true =>
        simp only [Bool.not_true, cond_false, cond_true, Option.bind_some]
        rw [decide_eq_true (by simp only [List.length_cons, List.length_nil]; omega), cond_true, i64_in _ (by omega)]
        have := ih n (i + 1) (acc ++ [v]) (by omega) (by omega) (by simp only [List.length_append, List.length_cons, List.length_nil]; omega) (by omega)
        rw [show ((i + 1 : Nat) : Int) = (i : Int) + 1 by omega] at this
        rw [this]
        cases numsO (fs.drop (i + 1)) with
        | none => rfl
        | some l => simp
    · rw [decide_eq_false (by omega), cond_false, List.drop_eq_nil_of_le (by omega)]
      simp [numsO]
theorem parts_ok (s : List UInt8) (h : s.length ≤ 5000000) : qai s = some (match partsS s with
    | some q => (q.1, true, q.2)
    | none => ([], false, [])) := by
  obtain ⟨h1, h2⟩ := pieces_small 32 s
  rw [qai, sealF_eq]
  unfold qai_f
  rw [split_ok s (by omega), Option.bind_some]
  unfold partsS
  match hq : pieces 32 s, pieces_ne 32 s, h1, h2 with
  | [], hne, _, _ => exact absurd rfl hne
  | w :: fs, _, h1, h2 =>
    simp only [List.length_cons] at h1
    have e : List.drop 1 (List.take (Int.toNat (((w :: fs).length : Nat) : Int)) (w :: fs)) = fs := by rw [Int.toNat_natCast, List.take_length]; rfl
    rw [decide_eq_true (show (0 : Int) ≤ 1 by omega), decide_eq_true (show (1 : Int) ≤ (((w :: fs).length : Nat) : Int) by simp only [List.length_cons]; omega), decide_eq_true (show (((w :: fs).length : Nat) : Int) ≤ (((w :: fs).length : Nat) : Int) by omega), Bool.and_self, Bool.and_self, cond_true, e]
    have := parts_loop (w :: fs) fs (by omega) (fun f hf => by have := h2 f (by simp [hf]); omega) fs.length fuel 0 [] (by omega) (by unfold fuel; omega) (by simp) (by omega)
    rw [qai_l4, sealF_eq, show (0 : Int) = ((0 : Nat) : Int) from rfl, this, Option.bind_some, List.drop_zero]
    cases hn : numsO fs with
    | none => simp only [hn]; rfl
    | some l => simp only [hn]; rfl
def opP (w : List UInt8) (l : List Int) (o : Operation) : Bool := (o.word == w) && (((o.numbers.length : Nat) : Int) == ((l.length : Nat) : Int))
def instrO (w : List UInt8) (l : List Int) : Option Instr := match opsL.findIdx? (opP w l) with
  | some j => bif decide (1 ≤ j) then some (Instr.mk (j : Int) (l[0]?.getD 0) (l[1]?.getD 0) (l[2]?.getD 0)) else none
  | none => none
theorem take1_ok (o : Operation) (w : List UInt8) (l : List Int) : qak o w l = some (opP w l o, w, l) := by
  rw [qak, sealF_eq]
  unfold qak_f opP
  rw [and_bind]
theorem find_loop (w : List UInt8) (l : List Int) : ∀ (k n i : Nat), opsL.length - i ≤ k → k < n →
    qar_i2 n opsL (opsL.length : Int) (i : Int) w l = some (match (opsL.drop i).findIdx? (opP w l) with
      | some j => .inl (((i + j : Nat) : Int), w, l)
      | none => .inr (w, l)) := by
  intro k
  induction k with
  | zero =>
    intro n i hk hn
    obtain ⟨n, rfl⟩ : ∃ q, n = q + 1 := ⟨n - 1, by omega⟩
    unfold qar_i2 qar_t2
    rw [decide_eq_false (by omega), cond_false, List.drop_eq_nil_of_le (by omega)]
    rfl
  | succ k ih =>
    intro n i hk hn
    obtain ⟨n, rfl⟩ : ∃ q, n = q + 1 := ⟨n - 1, by omega⟩
    unfold qar_i2 qar_t2
    by_cases c : i < opsL.length
    · have hg : opsL[Int.toNat (i : Int)]? = some opsL[i] := by rw [Int.toNat_natCast]; exact List.getElem?_eq_getElem c
      have hl := ops_len
      rw [decide_eq_true (show (i : Int) < (opsL.length : Int) by omega), cond_true, decide_eq_true (show (0 : Int) ≤ (i : Int) by omega), cond_true, hg, Option.bind_some, take1_ok, Option.bind_some, List.drop_eq_getElem_cons c, List.findIdx?_cons]
      cases opP w l opsL[i] with
      | true => rfl
      | false =>
        simp only [cond_false]
        rw [i64_in _ (by omega)]
        have := ih n (i + 1) (by omega) (by omega)
        rw [show ((i + 1 : Nat) : Int) = (i : Int) + 1 by omega] at this
        rw [this]
        cases (opsL.drop (i + 1)).findIdx? (opP w l) with
        | none => rfl
        | some j => simp; omega
    · rw [decide_eq_false (by omega), cond_false, List.drop_eq_nil_of_le (by omega)]
      rfl
theorem find_ok (w : List UInt8) (l : List Int) : qar opsL w l = some (match opsL.findIdx? (opP w l) with
    | some j => ((j : Int), w, l)
    | none => (-1, w, l)) := by
  rw [qar, sealF_eq]
  unfold qar_f
  have := find_loop w l opsL.length fuel 0 (by omega) (by have := ops_len; unfold fuel; omega)
  rw [qar_l2, sealF_eq, show (0 : Int) = ((0 : Nat) : Int) from rfl, this, Option.bind_some, List.drop_zero]
  cases opsL.findIdx? (opP w l) with
  | none => rfl
  | some j => simp
def addI (ts : List ACode) (x : Instr) : Option (List ACode) := match ts[ts.length - 1]? with
  | some c => some (ts.set (ts.length - 1) (ACode.mk c.regs (c.instrs ++ [x])))
  | none => none
def oneO : List Int → Option Int
  | [n] => bif decide (n ≥ 0) then some n else none
  | _ => none
theorem oneO_one (n : Int) : oneO [n] = bif decide (n ≥ 0) then some n else none := rfl
abbrev St := Int × List Int × List ACode
def takeS (many : Int) (s : List UInt8) (st : St) : Option St :=
  (partsS s).bind fun q =>
    bif many == 0 then (bif q.1 == [99, 101, 108, 108, 115] then some (st.1, q.2, st.2.2) else none)
    else bif many == 1 then (bif q.1 == [109, 117, 116, 101, 120, 101, 115] then (oneO q.2).map fun n => (n, st.2.1, st.2.2) else none)
    else bif q.1 == [116, 104, 114, 101, 97, 100] then (oneO q.2).map fun n => (st.1, st.2.1, st.2.2 ++ [ACode.mk n []])
    else bif many == 2 then none
    else (instrO q.1 q.2).bind fun x => (addI st.2.2 x).map fun ts => (st.1, st.2.1, ts)
structure OkS (many : Int) (st : St) : Prop where
  m0 : 0 ≤ many
  len : st.2.2.length ≤ 10000000
  ins : ∀ c ∈ st.2.2, c.instrs.length ≤ 10000000
  ne : 3 ≤ many → 1 ≤ st.2.2.length
theorem one_bind {β : Type} (l : List Int) : (Option.bind (α := Bool) (bif ((l.length : Nat) : Int) == 1 then (bif decide ((0 : Int) ≤ 0) && decide ((0 : Int) < ((l.length : Nat) : Int)) then Option.bind (l[(0 : Nat)]?) fun y1 => some (decide (y1 ≥ 0)) else none) else some false) : (Bool → Option β) → Option β) = fun f => f (oneO l).isSome := by
  funext f
  match l with
  | [] => rfl
  | [n] =>
    show f (decide (n ≥ 0)) = _
    rw [oneO_one]
    cases decide (n ≥ 0) <;> rfl
  | a :: b :: r =>
    have : ((((a :: b :: r).length : Nat) : Int) == 1) = false := by simp only [List.length_cons]; simp; omega
    rw [this]
    rfl
theorem clip_ok (l : List Int) : qaq l = some l := by
  rw [qaq, sealF_eq]
  unfold qaq_f
  rw [decide_eq_true rfl]
  rfl
theorem one_some {l : List Int} {n : Int} (h : oneO l = some n) : l = [n] ∧ n ≥ 0 := by
  match l, h with
  | [m], h =>
    rw [oneO_one] at h
    by_cases hm : m ≥ 0
    · rw [decide_eq_true hm] at h; cases h; exact ⟨rfl, hm⟩
    · rw [decide_eq_false hm] at h; cases h
theorem take_ok (many : Int) (s : List UInt8) (st : St) (hs : s.length ≤ 5000000) (ok : OkS many st) :
    ∃ b st', qaj many s st.1 st.2.1 st.2.2 = some (b, st') ∧ (bif b then some st' else none) = takeS many s st := by
  obtain ⟨m, cs, ts⟩ := st
  rw [qaj, sealF_eq]
  unfold qaj_f takeS
  rw [parts_ok s hs, Option.bind_some]
  simp only [one_bind]
  cases hp : partsS s with
  | none => exact ⟨false, (m, cs, ts), rfl, rfl⟩
  | some q =>
    obtain ⟨w, l⟩ := q
    simp only [Bool.not_true, cond_false, Option.bind_some, clip_ok]
    cases h0 : many == 0 with
    | true =>
      refine ⟨w == [99, 101, 108, 108, 115], (m, l, ts), rfl, ?_⟩
      cases w == [99, 101, 108, 108, 115] <;> rfl
    | false =>
    simp only [cond_false]
    cases h1 : many == 1 with
    | true =>
      simp only [cond_true]
      cases hone : oneO l with
      | none =>
        simp only [Option.isSome_none, cond_false]
        refine ⟨false, (m, cs, ts), ?_, ?_⟩
        · cases w == [109, 117, 116, 101, 120, 101, 115] <;> rfl
        · cases w == [109, 117, 116, 101, 120, 101, 115] <;> rfl
      | some n =>
        obtain ⟨rfl, _⟩ := one_some hone
        simp only [Option.isSome_some, cond_true]
        refine ⟨w == [109, 117, 116, 101, 120, 101, 115], (n, cs, ts), ?_, ?_⟩
        · cases w == [109, 117, 116, 101, 120, 101, 115] <;> rfl
        · cases w == [109, 117, 116, 101, 120, 101, 115] <;> rfl
    | false =>
    simp only [cond_false]
    cases h2 : w == [116, 104, 114, 101, 97, 100] with
    | true =>
      simp only [cond_true]
      cases hone : oneO l with
      | none => exact ⟨false, (m, cs, ts), rfl, rfl⟩
      | some n =>
        obtain ⟨rfl, _⟩ := one_some hone
        have hlen : ts.length ≤ 10000000 := ok.len
        simp only [Option.isSome_some, cond_true]
        refine ⟨true, (m, cs, ts ++ [ACode.mk n []]), ?_, rfl⟩
        rw [show (([n] : List Int)[(0 : Nat)]?) = some n from rfl, Option.bind_some, decide_eq_true (show (ts.length + [ACode.mk n []].length) * 32 ≤ 140737488355328 ∧ _ by simp only [List.length_cons, List.length_nil]; omega)]
        rfl
    | false =>
    simp only [cond_false]
    cases h3 : many == 2 with
    | true => exact ⟨false, (m, cs, ts), rfl, rfl⟩
    | false =>
    simp only [cond_false, operations_ok, Option.bind_some, find_ok]
    have hm : 3 ≤ many := by
      have := ok.m0
      have a0 : many ≠ 0 := by simpa using h0
      have a1 : many ≠ 1 := by simpa using h1
      have a2 : many ≠ 2 := by simpa using h3
      omega
    have hne : 1 ≤ ts.length := ok.ne hm
    have hlen : ts.length ≤ 10000000 := ok.len
    have hw : IntKind.wrap IntKind.i64 ((ts.length : Int) - 1) = ((ts.length - 1 : Nat) : Int) := by rw [i64_in _ (by omega)]; omega
    have hlt : ts.length - 1 < ts.length := by omega
    have hg : ts[ts.length - 1]? = some ts[ts.length - 1] := List.getElem?_eq_getElem hlt
    have hins : ts[ts.length - 1].instrs.length ≤ 10000000 := ok.ins _ (List.getElem_mem hlt)
    have w1 : IntKind.wrap IntKind.i64 ((0 : Int) + 1) = 1 := rfl
    have w2 : IntKind.wrap IntKind.i64 (1 + 1) = 2 := rfl
    unfold instrO addI
    rw [hg]
    cases hf : opsL.findIdx? (opP w l) with
    | none => exact ⟨false, (m, cs, ts), rfl, rfl⟩
    | some j =>
      simp only
      by_cases hj : 1 ≤ j
      · have hx : ∀ x : Instr, decide ((ts[ts.length - 1].instrs.length + [x].length) * 32 ≤ 140737488355328 ∧ ts[ts.length - 1].instrs.length + [x].length ≤ 9223372036854775807) = true := fun x => decide_eq_true (by simp only [List.length_cons, List.length_nil]; omega)
        have hb : Nat.beq (ts.length - 1) (ts.length - 1) = true := by simp
        have d1 : decide ((0 : Int) ≤ ((ts.length - 1 : Nat) : Int)) = true := decide_eq_true (by omega)
        have d2 : decide (((ts.length - 1 : Nat) : Int) < (ts.length : Int)) = true := decide_eq_true (by omega)
        rw [decide_eq_true hj, cond_true, decide_eq_false (show ¬ (j : Int) < 1 by omega), cond_false]
        refine ⟨true, (m, cs, ts.set (ts.length - 1) (ACode.mk ts[ts.length - 1].regs (ts[ts.length - 1].instrs ++ [Instr.mk (j : Int) (l[0]?.getD 0) (l[1]?.getD 0) (l[2]?.getD 0)]))), ?_, rfl⟩
        simp only [w1, w2, hw, d1, d2, Bool.and_self, Int.toNat_natCast, hg, Option.bind_some, hx, hb, cond_true]
        match l with
        | [] => rfl
        | [a] => rfl
        | [a, b] => rfl
        | a :: b :: c :: r =>
          have e0 : decide ((0 : Int) < (((a :: b :: c :: r).length : Nat) : Int)) = true := decide_eq_true (by simp only [List.length_cons]; omega)
          have e1 : decide ((1 : Int) < (((a :: b :: c :: r).length : Nat) : Int)) = true := decide_eq_true (by simp only [List.length_cons]; omega)
          have e2 : decide ((2 : Int) < (((a :: b :: c :: r).length : Nat) : Int)) = true := decide_eq_true (by simp only [List.length_cons]; omega)
          rw [e0, e1, e2]
          rfl
      · rw [decide_eq_false hj, cond_false, decide_eq_true (show (j : Int) < 1 by omega), cond_true]
        exact ⟨false, (m, cs, ts), rfl, rfl⟩
end Lift.AA
namespace Lift.AA
open Go Go.RowKit Lift Go.IntWalk Lift.Fn
set_option linter.unusedVariables false
set_option linter.unusedSimpArgs false
def readLns : List (List UInt8) → Int → Int → St → Int ⊕ (Int × Int × St)
  | [], at_, many, st => .inr (at_, many, st)
  | [z], at_, many, st => bif z == [] then .inr (at_, many, st) else .inl at_
  | l :: m :: ls, at_, many, st => match takeS many l st with
    | none => .inl at_
    | some st' => readLns (m :: ls) (at_ + ((l.length : Int) + 1)) (many + 1) st'
structure OkQ (many : Int) (st : St) : Prop where
  m0 : 0 ≤ many
  len : (st.2.2.length : Int) ≤ many
  ins : ∀ c ∈ st.2.2, (c.instrs.length : Int) ≤ many
  ne : 3 ≤ many → 1 ≤ st.2.2.length
theorem OkQ.toS {many : Int} {st : St} (h : OkQ many st) (hm : many ≤ 10000000) : OkS many st :=
  ⟨h.m0, by have := h.len; omega, fun c hc => by have := h.ins c hc; omega, h.ne⟩
theorem take_keeps {many : Int} {s : List UInt8} {st st' : St} (h : takeS many s st = some st') (ok : OkQ many st) : OkQ (many + 1) st' := by
  obtain ⟨m, cs, ts⟩ := st
  have hm := ok.m0
  have hl : (ts.length : Int) ≤ many := ok.len
  have hi : ∀ c ∈ ts, (c.instrs.length : Int) ≤ many := ok.ins
  have hne : 3 ≤ many → 1 ≤ ts.length := ok.ne
  unfold takeS at h
  cases hp : partsS s with
  | none => rw [hp] at h; cases h
  | some q =>
    rw [hp, Option.bind_some] at h
    cases h0 : many == 0 with
    | true =>
      have a0 : many = 0 := by simpa using h0
      rw [h0, cond_true] at h
      cases hw : q.1 == [99, 101, 108, 108, 115] with
      | false => rw [hw] at h; cases h
      | true =>
        rw [hw] at h
        cases h
        exact ⟨by omega, by simp only; omega, fun c hc => by have := hi c hc; omega, by omega⟩
    | false =>
    rw [h0, cond_false] at h
    cases h1 : many == 1 with
    | true =>
      have a1 : many = 1 := by simpa using h1
      rw [h1, cond_true] at h
      cases hw : q.1 == [109, 117, 116, 101, 120, 101, 115] with
      | false => rw [hw] at h; cases h
      | true =>
        rw [hw, cond_true] at h
        cases ho : oneO q.2 with
        | none => rw [ho] at h; cases h
        | some n =>
          rw [ho] at h
          cases h
          exact ⟨by omega, by simp only; omega, fun c hc => by have := hi c hc; omega, by omega⟩
    | false =>
    rw [h1, cond_false] at h
    cases hw : q.1 == [116, 104, 114, 101, 97, 100] with
    | true =>
      rw [hw, cond_true] at h
      cases ho : oneO q.2 with
      | none => rw [ho] at h; cases h
      | some n =>
        rw [ho] at h
        cases h
        refine ⟨by omega, by simp only [List.length_append, List.length_cons, List.length_nil]; omega, fun c hc => ?_, fun _ => by simp⟩
        rcases List.mem_append.1 hc with hc | hc
        · have := hi c hc; omega
        · simp only [List.mem_singleton] at hc; subst hc; simp only [List.length_nil]; omega
    | false =>
    rw [hw, cond_false] at h
    cases h2 : many == 2 with
    | true => rw [h2] at h; cases h
    | false =>
    rw [h2, cond_false] at h
    cases hin : instrO q.1 q.2 with
    | none => rw [hin] at h; cases h
    | some x =>
      rw [hin, Option.bind_some] at h
      have a0 : many ≠ 0 := by simpa using h0
      have a1 : many ≠ 1 := by simpa using h1
      have a2 : many ≠ 2 := by simpa using h2
      have hne := hne (by omega)
      have hg : ts[ts.length - 1]? = some ts[ts.length - 1] := List.getElem?_eq_getElem (by omega)
      unfold addI at h
      simp only [hg] at h
      cases h
      refine ⟨by omega, by simp only [List.length_set]; omega, fun c hc => ?_, fun _ => by simp only [List.length_set]; omega⟩
      rcases List.mem_or_eq_of_mem_set hc with hc | rfl
      · have := hi c hc; omega
      · have := hi _ (List.getElem_mem (show ts.length - 1 < ts.length by omega))
        simp only [List.length_append, List.length_cons, List.length_nil]
        omega
theorem cut_ok (s : List UInt8) (h : s.length ≤ 10000000) : strings_Cut s [10] = some (if 0 ≤ Lib.indexByte s 10 then (s.take (Lib.indexByte s 10).toNat, s.drop ((Lib.indexByte s 10).toNat + 1), true) else (s, [], false)) := by
  rw [strings_Cut, sealF_eq]
  unfold strings_Cut_f
  rw [decide_eq_true (by omega), cond_true, cut_one]
theorem read_loop (text : List UInt8) (hl : text.length ≤ 5000000) (a3 a4 a5 : Int) (a6 : List UInt8) : ∀ (k n i : Nat) (many : Int) (st : St), text.length - i ≤ k → k < n → i ≤ text.length → many ≤ i → OkQ many st →
    qab_i3 n text (i : Int) many a3 a4 a5 a6 st.1 st.2.1 st.2.2 = some (match readLns (pieces 10 (text.drop i)) (i : Int) many st with
      | .inl p => .inl (0, 101, p, [])
      | .inr q => .inr (q.1, q.2.1, a3, a4, a5, a6, q.2.2.1, q.2.2.2.1, q.2.2.2.2)) := by
  intro k
  induction k with
  | zero =>
    intro n i many st hk hn hi hm ok
    obtain ⟨n, rfl⟩ : ∃ q, n = q + 1 := ⟨n - 1, by omega⟩
    unfold qab_i3 qab_t3
    rw [decide_eq_false (by omega), cond_false, List.drop_eq_nil_of_le (by omega)]
    rfl
  | succ k ih =>
    intro n i many st hk hn hi hm ok
    obtain ⟨n, rfl⟩ : ∃ q, n = q + 1 := ⟨n - 1, by omega⟩
    unfold qab_i3 qab_t3
    by_cases c : i < text.length
    · have hlen : (text.drop i).length = text.length - i := List.length_drop
      have e : List.drop (Int.toNat (i : Int)) (List.take (Int.toNat ((text.length : Nat) : Int)) text) = text.drop i := by rw [Int.toNat_natCast, Int.toNat_natCast, List.take_length]
      rw [decide_eq_true (show (i : Int) < (text.length : Int) by omega), cond_true, decide_eq_true (show (0 : Int) ≤ (i : Int) by omega), decide_eq_true (show (i : Int) ≤ (text.length : Int) by omega), decide_eq_true (show ((text.length : Nat) : Int) ≤ (text.length : Int) by omega), Bool.and_self, Bool.and_self, cond_true, e, cut_ok _ (by omega), Option.bind_some]
      rcases pieces_at 10 (text.drop i) with ⟨h1, h2⟩ | ⟨j, hj, h1, h2⟩
      · rw [h1, h2, if_neg (by decide)]
        have : (text.drop i == []) = false := by
          rw [beq_eq_false_iff_ne]
          intro e0
          rw [e0] at hlen
          simp at hlen
          omega
        simp only [readLns, this]
        rfl
      · rw [h1, h2, if_pos (by omega), Int.toNat_natCast]
        have hline : ((text.drop i).take j).length = j := by rw [List.length_take]; omega
        obtain ⟨b, st', t1, t2⟩ := take_ok many ((text.drop i).take j) st (by omega) (ok.toS (by omega))
        simp only [Bool.not_true, cond_false]
        rw [t1, Option.bind_some]
        have hnx : readLns ((text.drop i).take j :: pieces 10 ((text.drop i).drop (j + 1))) (i : Int) many st = match takeS many ((text.drop i).take j) st with
            | none => .inl (i : Int)
            | some st' => readLns (pieces 10 ((text.drop i).drop (j + 1))) ((i : Int) + ((((text.drop i).take j).length : Int) + 1)) (many + 1) st' := by
          cases hq : pieces 10 ((text.drop i).drop (j + 1)) with
          | nil => exact absurd hq (pieces_ne _ _)
          | cons m ls => rfl
        rw [hnx, ← t2]
        cases b with
        | false => rfl
        | true =>
          simp only [Bool.not_true, cond_false, cond_true]
          have ok' : OkQ (many + 1) st' := take_keeps (by rw [← t2]; rfl) ok
          have hm0 := ok.m0
          rw [hline, List.drop_drop, i64_in ((j : Int) + 1) (by omega), i64_in _ (by omega), i64_in (many + 1) (by omega)]
          have := ih n (i + (j + 1)) (many + 1) st' (by omega) (by omega) (by omega) (by omega) ok'
          rw [show ((i + (j + 1) : Nat) : Int) = (i : Int) + ((j : Int) + 1) by omega] at this
          exact this
    · rw [decide_eq_false (by omega), cond_false, List.drop_eq_nil_of_le (by omega)]
      rfl
def imgOf (s : St) : Image := Image.mk s.2.1 s.1 s.2.2
def readS (text : List UInt8) : Image × Int × Int := match readLns (pieces 10 text) 0 0 (0, [], []) with
  | .inl p => (Image.mk [] 0 [], 101, p)
  | .inr q => bif decide (q.2.1 < 3) then (Image.mk [] 0 [], 101, q.1) else
    bif rightS (imgOf q.2.2) then (imgOf q.2.2, 0, 0) else (Image.mk [] 0 [], 100, 0)
theorem okQ0 : OkQ 0 (0, [], []) := ⟨by decide, by decide, (fun c hc => by cases hc), by decide⟩
theorem read_ok (text : List UInt8) (hl : text.length ≤ 5000000) : qab text = some ((readS text).1.mutexes, Fault.mk (readS text).2.1 (readS text).2.2 [], (readS text).1.cells, (readS text).1.threads) := by
  rw [qab, sealF_eq]
  unfold qab_f
  have := read_loop text hl 0 0 0 [] text.length fuel 0 0 (0, [], []) (by omega) (by unfold fuel; omega) (by omega) (by decide) okQ0
  rw [qab_l3, sealF_eq]
  simp only [Int.ofNat_zero, List.drop_zero] at this
  rw [this, Option.bind_some]
  unfold readS
  cases readLns (pieces 10 text) 0 0 (0, [], []) with
  | inl p => rfl
  | inr q =>
    simp only [right_ok, Option.bind_some]
    cases decide (q.2.1 < 3) with
    | true => rfl
    | false =>
      simp only [cond_false]
      have e : rightS (Image.mk q.2.2.2.1 q.2.2.1 q.2.2.2.2) = rightS (imgOf q.2.2) := rfl
      rw [e]
      cases rightS (imgOf q.2.2) <;> rfl
def exI : Image := Image.mk [(-3 : Int)] (0 : Int) [ACode.mk (1 : Int) [Instr.mk (21 : Int) (0 : Int) (0 : Int) (0 : Int), Instr.mk (29 : Int) (0 : Int) (0 : Int) (0 : Int)]]
def exT : List UInt8 := [99, 101, 108, 108, 115, 32, 45, 51, 10, 109, 117, 116, 101, 120, 101, 115, 32, 48, 10, 116, 104, 114, 101, 97, 100, 32, 49, 10, 114, 101, 97, 100, 32, 48, 32, 48, 10, 101, 110, 100, 10]
theorem ex_right : rightS exI = true := by decide +kernel
theorem ex_print : printS exI = exT := by
  have e1 : Lib.itoa (-3) = [45, 51] := by
    have := Lib.itoa_neg 3 (by decide)
    rw [Lib.decDigits_one (by decide)] at this
    exact this
  have e2 : Lib.itoa 0 = [48] := by
    have := Lib.itoa_nonneg 0
    rw [Lib.decDigits_one (by decide)] at this
    exact this
  have e3 : Lib.itoa 1 = [49] := by
    have := Lib.itoa_nonneg 1
    rw [Lib.decDigits_one (by decide)] at this
    exact this
  have d1 : instrS (Instr.mk 21 0 0 0) = lineS [114, 101, 97, 100] [0, 0] := rfl
  have d2 : instrS (Instr.mk 29 0 0 0) = lineS [101, 110, 100] [] := rfl
  unfold printS exI threadS
  simp only [List.flatMap_cons, List.flatMap_nil, d1, d2]
  unfold lineS oneS
  simp only [List.flatMap_cons, List.flatMap_nil, e1, e2, e3]
  rfl
theorem ex_read : readS exT = (exI, 0, 0) := by rfl
theorem ex_read2 : readS (List.drop 0 (List.take 40 exT)) = (Image.mk [] 0 [], 101, 37) := by rfl
end Lift.AA
namespace Lift.AA
open Go Go.RowKit Lift Go.IntWalk Lift.Fn
set_option linter.unusedVariables false
set_option linter.unusedSimpArgs false
theorem same_instrs (j : Int) (a1 : List Int) (a2 : Int) (a3 : List ACode) (a4 : List Int) (a5 : Int) (a6 : List ACode) (g : Int) (l : List Instr) (hl : l.length ≤ 10000000) :
    qap_l16 j 0 a1 a2 a3 a4 a5 a6 g l g l = some (.inr (j, a1, a2, a3, a4, a5, a6)) := by
  rw [qap_l16, sealF_eq]
  have := loop_all l (fun _ => some true) (j, a1, a2, a3, a4, a5, a6) (fun n i => qap_i16 n j i a1 a2 a3 a4 a5 a6 g l g l)
    (fun n i h0 h => by simp only [qap_i16, qap_t16, decide_eq_false h, cond_false])
    (fun n i x h0 h hx => by
      simp only [qap_i16, qap_t16, decide_eq_true h, decide_eq_true h0, cond_true, hx, Option.bind_some, i64_in (i + 1) (by omega), decide_true, Bool.not_true, cond_false])
    (fun _ => true) (fun _ _ => rfl) l.length fuel 0 (by omega) (by omega) (by unfold fuel; omega)
  rw [this]
  have : (List.drop (Int.toNat 0) l).all (fun _ => true) = true := by simp
  rw [this]
  rfl
theorem same_refl (x : Image) (hc : x.cells.length ≤ 10000000) (ht : x.threads.length ≤ 10000000) (hi : ∀ c ∈ x.threads, c.instrs.length ≤ 10000000) : qap x x = some true := by
  rw [qap, sealF_eq]
  unfold qap_f
  have b1 : ∀ a : Int, (a != a) = false := fun a => by simp
  simp only [or_bind, b1, Bool.or_self, cond_false]
  have h1 := loop_all x.cells (fun _ => some true) (x.cells, x.mutexes, x.threads, x.cells, x.mutexes, x.threads) (fun n i => qap_i4 n i x.cells x.mutexes x.threads x.cells x.mutexes x.threads)
    (fun n i h0 h => by simp only [qap_i4, qap_t4, decide_eq_false h, cond_false])
    (fun n i y h0 h hx => by
      simp only [qap_i4, qap_t4, decide_eq_true h, decide_eq_true h0, cond_true, hx, Option.bind_some, i64_in (i + 1) (by omega), b1, cond_false])
    (fun _ => true) (fun _ _ => rfl) x.cells.length fuel 0 (by omega) (by omega) (by unfold fuel; omega)
  have h2 := loop_all x.threads (fun _ => some true) () (fun n i => qap_i9 n i x.cells x.mutexes x.threads x.cells x.mutexes x.threads)
    (fun n i h0 h => by simp only [qap_i9, qap_t9, decide_eq_false h, cond_false])
    (fun n i c h0 h hx => by
      have hm := hi c (List.mem_of_getElem? hx)
      simp only [qap_i9, qap_t9, decide_eq_true h, decide_eq_true h0, cond_true, hx, Option.bind_some, b1, or_bind, Bool.or_self, cond_false]
      rw [same_instrs _ _ _ _ _ _ _ _ _ hm, Option.bind_some]
      simp only [i64_in (i + 1) (by omega)])
    (fun _ => true) (fun _ _ => rfl) x.threads.length fuel 0 (by omega) (by omega) (by unfold fuel; omega)
  have a1 : (List.drop (Int.toNat 0) x.cells).all (fun _ => true) = true := by simp
  have a2 : (List.drop (Int.toNat 0) x.threads).all (fun _ => true) = true := by simp
  rw [a1, cond_true] at h1
  rw [a2, cond_true] at h2
  rw [qap_l4, sealF_eq, h1, Option.bind_some]
  show (bif false || false then some false else _) = _
  rw [Bool.or_self, cond_false, Option.bind_some]
  rw [qap_l9, sealF_eq]
  simp only [h2]
  rfl
theorem shown_ok : qao = some true := by
  rw [qao, sealF_eq]
  unfold qao_f
  have e1 : qac exI = some true := by rw [right_ok, ex_right]
  have e2 : qaa exI = some (exT, 0) := by rw [print_ok, ex_right, ex_print]; rfl
  have e3 : qab exT = some ((0 : Int), Fault.mk 0 0 [], [(-3 : Int)], exI.threads) := by rw [read_ok exT (by decide), ex_read]; rfl
  have e4 : qab (List.drop 0 (List.take 40 exT)) = some ((0 : Int), Fault.mk 101 37 [], [], []) := by rw [read_ok _ (by decide), ex_read2]
  have e5 : qap exI exI = some true := same_refl exI (by decide) (by decide) (by decide)
  unfold exI at e1 e2 e3 e5
  unfold exT at e2 e3 e4
  rw [e1, Option.bind_some, e2, Option.bind_some, e3, Option.bind_some]
  simp only
  rw [e5, Option.bind_some, e4]
  decide +kernel
end Lift.AA
namespace Lift.AA
open Go Go.RowKit Lift Go.IntWalk Lift.Fn
set_option linter.unusedVariables false
set_option linter.unusedSimpArgs false
end Lift.AA
namespace Lift.AA
open Go Go.RowKit Lift Go.IntWalk Lift.Fn
set_option linter.unusedVariables false
set_option linter.unusedSimpArgs false
end Lift.AA
namespace Lift.AA
open Go Go.RowKit Lift Go.IntWalk Lift.Fn
set_option linter.unusedVariables false
set_option linter.unusedSimpArgs false
theorem ops_at {i : Nat} (h1 : 1 ≤ i) (h2 : i < 30) : ∃ o, opsL[i]? = some o ∧ o.word ≠ [] ∧ o.numbers.length ≤ 3 ∧ ∀ k ∈ o.numbers, k ≠ 32 := by
  obtain ⟨o, ho, _, hw, hn⟩ := ops_there (op := (i : Int)) (by omega) (by omega)
  have hk := nums_ne ho
  rw [Int.toNat_natCast] at ho
  exact ⟨o, ho, hw, hn, hk⟩
end Lift.AA
namespace Lift.AA
open Go Go.RowKit Lift Go.IntWalk Lift.Fn
set_option linter.unusedVariables false
set_option linter.unusedSimpArgs false
end Lift.AA
namespace Lift.AA
open Go Go.RowKit Lift Go.IntWalk Lift.Fn
set_option linter.unusedVariables false
set_option linter.unusedSimpArgs false
end Lift.AA
namespace Lift.AA
open Go Go.RowKit Lift Go.IntWalk Lift.Fn
set_option linter.unusedVariables false
set_option linter.unusedSimpArgs false
def bodyS (w : List UInt8) (l : List Int) : List UInt8 := w ++ l.flatMap oneS
def foldT : Int → List (List UInt8) → St → Option St
  | _, [], st => some st
  | many, l :: ls, st => (takeS many l st).bind fun st' => foldT (many + 1) ls st'
def bodyI (a : Instr) : List UInt8 := bodyS (wordS a) (numsS a)
def bodiesT (c : ACode) : List (List UInt8) := bodyS [116, 104, 114, 101, 97, 100] [c.regs] :: c.instrs.map bodyI
def bodiesX (x : Image) : List (List UInt8) := bodyS [99, 101, 108, 108, 115] x.cells :: bodyS [109, 117, 116, 101, 120, 101, 115] [x.mutexes] :: x.threads.flatMap bodiesT
theorem printS_lines (x : Image) : printS x = (bodiesX x).flatMap fun l => l ++ [10] := by
  have h : ∀ c : ACode, threadS c = (bodiesT c).flatMap fun l => l ++ [10] := by
    intro c
    unfold threadS bodiesT
    rw [List.flatMap_cons, List.flatMap_map]
    rfl
  have h2 : x.threads.flatMap threadS = (x.threads.flatMap bodiesT).flatMap fun l => l ++ [10] := by
    rw [List.flatMap_assoc]
    congr 1
    funext c
    exact h c
  unfold printS bodiesX
  rw [List.flatMap_cons, List.flatMap_cons, h2, List.append_assoc]
  rfl
end Lift.AA
namespace Lift.AA
open Go Go.RowKit Lift Go.IntWalk Lift.Fn
set_option linter.unusedVariables false
set_option linter.unusedSimpArgs false
theorem add_last (ts : List ACode) (r : Int) (acc : List Instr) (a : Instr) : addI (ts ++ [ACode.mk r acc]) a = some (ts ++ [ACode.mk r (acc ++ [a])]) := by
  have hl : (ts ++ [ACode.mk r acc]).length - 1 = ts.length := by simp
  unfold addI
  rw [hl]
  have : (ts ++ [ACode.mk r acc])[ts.length]? = some (ACode.mk r acc) := by simp
  rw [this]
  simp
end Lift.AA
namespace Lift.AA
open Go Go.RowKit Lift Go.IntWalk Lift.Fn
set_option linter.unusedVariables false
set_option linter.unusedSimpArgs false
def glue (c : UInt8) : List (List UInt8) → List UInt8
  | [] => []
  | [z] => z
  | l :: m :: ls => l ++ c :: glue c (m :: ls)
theorem glue_cons (c : UInt8) (l : List UInt8) (ls : List (List UInt8)) (h : ls ≠ []) : glue c (l :: ls) = l ++ c :: glue c ls := by
  cases ls with
  | nil => exact absurd rfl h
  | cons m ms => rfl
theorem glue_pieces (c : UInt8) : ∀ t : List UInt8, glue c (pieces c t) = t
  | [] => rfl
  | x :: s => by
    have ih := glue_pieces c s
    have e : pieces c (x :: s) = bif x == c then [] :: pieces c s else match pieces c s with
      | p :: ps => (x :: p) :: ps
      | [] => [[x]] := rfl
    rw [e]
    cases h : x == c with
    | true =>
      have : x = c := by simpa using h
      subst this
      rw [cond_true, glue_cons _ _ _ (pieces_ne _ _), ih]
      rfl
    | false =>
      rw [cond_false]
      match hq : pieces c s, pieces_ne c s with
      | [], hne => exact absurd rfl hne
      | p :: ps, _ =>
        rw [hq] at ih
        simp only
        cases ps with
        | nil => show x :: p = x :: s; rw [show p = s from ih]
        | cons m ms =>
          rw [glue_cons _ _ _ (by simp)] at ih ⊢
          rw [← ih]
          rfl
theorem numsO_back : ∀ (fs : List (List UInt8)) (l : List Int), numsO fs = some l → fs = l.map Lib.itoa ∧ ∀ n ∈ l, -9999999999 ≤ n ∧ n ≤ 9999999999
  | [], l, h => by cases h; exact ⟨rfl, by simp⟩
  | f :: fs, l, h => by
    unfold numsO at h
    cases hn : numO f with
    | none => rw [hn] at h; cases h
    | some n =>
      rw [hn, Option.bind_some] at h
      cases hs : numsO fs with
      | none => rw [hs] at h; cases h
      | some m =>
        rw [hs] at h
        cases h
        obtain ⟨i1, i2⟩ := numsO_back fs m hs
        obtain ⟨j1, j2, j3⟩ := numO_some hn
        refine ⟨by rw [List.map_cons, ← i1, ← j1], fun k hk => ?_⟩
        rcases List.mem_cons.1 hk with rfl | hk
        · exact ⟨j2, j3⟩
        · exact i2 k hk
theorem glue_nums : ∀ (l : List Int) (w : List UInt8), glue 32 (w :: l.map Lib.itoa) = w ++ l.flatMap oneS
  | [], w => by simp [glue]
  | n :: l, w => by
    rw [List.map_cons, glue_cons _ _ _ (by simp), glue_nums l (Lib.itoa n), List.flatMap_cons]
    unfold oneS
    simp
theorem parts_back {s w : List UInt8} {l : List Int} (h : partsS s = some (w, l)) : s = bodyS w l := by
  have hg := glue_pieces 32 s
  unfold partsS at h
  cases hq : pieces 32 s with
  | nil => rw [hq] at h; cases h
  | cons p ps =>
    rw [hq] at h hg
    simp only at h
    cases hn : numsO ps with
    | none => rw [hn] at h; cases h
    | some m =>
      rw [hn] at h
      cases h
      rw [(numsO_back ps _ hn).1, glue_nums] at hg
      exact hg.symm
theorem readLns_back : ∀ (ls : List (List UInt8)) (at_ many : Int) (st : St) (p q : Int) (st' : St), ls ≠ [] → readLns ls at_ many st = .inr (p, q, st') → ∃ bs, ls = bs ++ [[]] ∧ foldT many bs st = some st' ∧ q = many + bs.length
  | [], _, _, _, _, _, _, h, _ => absurd rfl h
  | [z], at_, many, st, p, q, st', _, h => by
    unfold readLns at h
    cases hz : z == [] with
    | false => rw [hz] at h; cases h
    | true =>
      rw [hz] at h
      cases h
      have : z = [] := by simpa using hz
      subst this
      exact ⟨[], rfl, rfl, by simp⟩
  | l :: m :: ls, at_, many, st, p, q, st', _, h => by
    have ih := readLns_back (m :: ls)
    have e : readLns (l :: m :: ls) at_ many st = match takeS many l st with
      | none => .inl at_
      | some st' => readLns (m :: ls) (at_ + ((l.length : Int) + 1)) (many + 1) st' := rfl
    rw [e] at h
    cases ht : takeS many l st with
    | none => rw [ht] at h; cases h
    | some s1 =>
      rw [ht] at h
      obtain ⟨bs, e1, e2, e3⟩ := ih _ _ s1 p q st' (by simp) h
      refine ⟨l :: bs, by rw [e1]; rfl, ?_, by simp only [List.length_cons]; omega⟩
      unfold foldT
      rw [ht, Option.bind_some, e2]
theorem glue_lines : ∀ bs : List (List UInt8), glue 10 (bs ++ [[]]) = bs.flatMap fun l => l ++ [10]
  | [] => rfl
  | l :: bs => by
    rw [List.cons_append, glue_cons _ _ _ (by simp), glue_lines bs, List.flatMap_cons]
    simp
theorem instr_form {w : List UInt8} {l : List Int} {a : Instr} (h : instrO w l = some a) : bodyI a = bodyS w l := by
  unfold instrO at h
  cases hf : opsL.findIdx? (opP w l) with
  | none => rw [hf] at h; cases h
  | some j =>
    rw [hf] at h
    simp only at h
    by_cases hj : 1 ≤ j
    · rw [decide_eq_true hj, cond_true] at h
      cases h
      rw [List.findIdx?_eq_some_iff_getElem] at hf
      obtain ⟨hlt, hp, _⟩ := hf
      have h30 := ops_len
      unfold opP at hp
      rw [Bool.and_eq_true] at hp
      have hw : opsL[j].word = w := by simpa using hp.1
      have hlen : ((opsL[j].numbers.length : Nat) : Int) = ((l.length : Nat) : Int) := eq_of_beq hp.2
      obtain ⟨o, ho, _, hn, _⟩ := ops_at hj (by omega)
      have hoe : opsL[j] = o := by
        have := List.getElem?_eq_getElem hlt
        rw [ho] at this
        exact (Option.some.inj this).symm
      rw [hoe] at hw hlen
      have hl3 : o.numbers.length = l.length := by omega
      unfold bodyI wordS numsS
      simp only [Int.toNat_natCast, ho]
      rw [hw, hl3]
      congr 1
      match l, hl3, hn with
      | [], _, _ => rfl
      | [x], _, _ => rfl
      | [x, y], _, _ => rfl
      | [x, y, z], _, _ => rfl
      | x :: y :: z :: u :: r, h1, h2 => simp at h1; omega
    · rw [decide_eq_false hj] at h; cases h
theorem add_form {ts ts' : List ACode} {a : Instr} (h : addI ts a = some ts') : ts'.flatMap bodiesT = ts.flatMap bodiesT ++ [bodyI a] := by
  rcases List.eq_nil_or_concat ts with rfl | ⟨L, c, rfl⟩
  · unfold addI at h; simp at h
  · rw [List.concat_eq_append] at *
    obtain ⟨r, acc⟩ := c
    rw [add_last] at h
    cases h
    rw [List.flatMap_append, List.flatMap_append]
    simp [bodiesT]
theorem fold_back : ∀ (bs : List (List UInt8)) (many : Int) (st st' : St), 2 ≤ many → foldT many bs st = some st' → st'.1 = st.1 ∧ st'.2.1 = st.2.1 ∧ st'.2.2.flatMap bodiesT = st.2.2.flatMap bodiesT ++ bs
  | [], many, st, st', _, h => by cases h; exact ⟨rfl, rfl, by simp⟩
  | l :: bs, many, st, st', hm, h => by
    have ih := fold_back bs (many + 1)
    have e : foldT many (l :: bs) st = (takeS many l st).bind fun st' => foldT (many + 1) bs st' := rfl
    rw [e] at h
    cases ht : takeS many l st with
    | none => rw [ht] at h; cases h
    | some s1 =>
      rw [ht, Option.bind_some] at h
      obtain ⟨i1, i2, i3⟩ := ih s1 st' (by omega) h
      have key : s1.1 = st.1 ∧ s1.2.1 = st.2.1 ∧ s1.2.2.flatMap bodiesT = st.2.2.flatMap bodiesT ++ [l] := by
        unfold takeS at ht
        cases hp : partsS l with
        | none => rw [hp] at ht; cases ht
        | some q =>
          obtain ⟨w, ns⟩ := q
          have hb := parts_back hp
          rw [hp, Option.bind_some] at ht
          have c0 : (many == 0) = false := by simp; omega
          have c1 : (many == 1) = false := by simp; omega
          simp only [c0, c1, cond_false] at ht
          cases hw : w == [116, 104, 114, 101, 97, 100] with
          | true =>
            rw [hw, cond_true] at ht
            have hw' : w = [116, 104, 114, 101, 97, 100] := by simpa using hw
            cases ho : oneO ns with
            | none => rw [ho] at ht; cases ht
            | some n =>
              rw [ho] at ht
              cases ht
              obtain ⟨rfl, _⟩ := one_some ho
              refine ⟨rfl, rfl, ?_⟩
              rw [List.flatMap_append, hb, hw']
              simp [bodiesT]
          | false =>
            rw [hw, cond_false] at ht
            cases c2 : many == 2 with
            | true => rw [c2] at ht; cases ht
            | false =>
              rw [c2, cond_false] at ht
              cases hi : instrO w ns with
              | none => rw [hi] at ht; cases ht
              | some a =>
                rw [hi, Option.bind_some] at ht
                cases ha : addI st.2.2 a with
                | none => rw [ha] at ht; cases ht
                | some ts =>
                  rw [ha] at ht
                  cases ht
                  refine ⟨rfl, rfl, ?_⟩
                  rw [hb, ← instr_form hi]
                  exact add_form ha
      exact ⟨by rw [i1, key.1], by rw [i2, key.2.1], by rw [i3, key.2.2]; simp⟩
theorem image_back {bs : List (List UInt8)} {st : St} (h3 : 3 ≤ bs.length) (h : foldT 0 bs (0, [], []) = some st) : bs = bodiesX (imgOf st) := by
  match bs, h3 with
  | a :: b :: bs, _ =>
    have e : foldT 0 (a :: b :: bs) (0, [], []) = (takeS 0 a (0, [], [])).bind fun s1 => (takeS 1 b s1).bind fun s2 => foldT 2 bs s2 := rfl
    rw [e] at h
    cases ha : takeS 0 a (0, [], []) with
    | none => rw [ha] at h; cases h
    | some s1 =>
      rw [ha, Option.bind_some] at h
      cases hb : takeS 1 b s1 with
      | none => rw [hb] at h; cases h
      | some s2 =>
        rw [hb, Option.bind_some] at h
        obtain ⟨i1, i2, i3⟩ := fold_back bs 2 s2 st (by omega) h
        have k1 : ∃ cs, a = bodyS [99, 101, 108, 108, 115] cs ∧ s1 = (0, cs, []) := by
          unfold takeS at ha
          cases hp : partsS a with
          | none => rw [hp] at ha; cases ha
          | some q =>
            obtain ⟨w, ns⟩ := q
            rw [hp, Option.bind_some] at ha
            rw [show ((0 : Int) == 0) = true from rfl, cond_true] at ha
            simp only at ha
            cases hw : w == [99, 101, 108, 108, 115] with
            | false => rw [hw] at ha; cases ha
            | true =>
              rw [hw] at ha
              cases ha
              have hw' : w = [99, 101, 108, 108, 115] := by simpa using hw
              exact ⟨ns, by rw [parts_back hp, hw'], rfl⟩
        obtain ⟨cs, rfl, rfl⟩ := k1
        have k2 : ∃ m, b = bodyS [109, 117, 116, 101, 120, 101, 115] [m] ∧ s2 = (m, cs, []) := by
          unfold takeS at hb
          cases hp : partsS b with
          | none => rw [hp] at hb; cases hb
          | some q =>
            obtain ⟨w, ns⟩ := q
            rw [hp, Option.bind_some] at hb
            rw [show ((1 : Int) == 0) = false from rfl, cond_false, show ((1 : Int) == 1) = true from rfl, cond_true] at hb
            simp only at hb
            cases hw : w == [109, 117, 116, 101, 120, 101, 115] with
            | false => rw [hw] at hb; cases hb
            | true =>
              rw [hw, cond_true] at hb
              have hw' : w = [109, 117, 116, 101, 120, 101, 115] := by simpa using hw
              cases ho : oneO ns with
              | none => rw [ho] at hb; cases hb
              | some n =>
                rw [ho] at hb
                cases hb
                obtain ⟨rfl, _⟩ := one_some ho
                exact ⟨n, by rw [parts_back hp, hw'], rfl⟩
        obtain ⟨m, rfl, rfl⟩ := k2
        unfold bodiesX imgOf
        simp only at i1 i2 i3 ⊢
        rw [i1, i2, i3]
        rfl
theorem print_read {text : List UInt8} (h : (readS text).2.1 = 0) : rightS (readS text).1 = true ∧ printS (readS text).1 = text := by
  have hg := glue_pieces 10 text
  unfold readS at h ⊢
  cases hq : readLns (pieces 10 text) 0 0 (0, [], []) with
  | inl p => rw [hq] at h; simp at h
  | inr q =>
    obtain ⟨p, q, st⟩ := q
    rw [hq] at h
    simp only at h ⊢
    obtain ⟨bs, e1, e2, e3⟩ := readLns_back _ _ _ _ p q st (pieces_ne _ _) hq
    by_cases h3 : q < 3
    · rw [decide_eq_true h3] at h; simp at h
    · rw [decide_eq_false h3, cond_false] at h ⊢
      cases hr : rightS (imgOf st) with
      | false => rw [hr] at h; simp at h
      | true =>
        simp only [cond_true]
        refine ⟨hr, ?_⟩
        rw [e1, glue_lines] at hg
        rw [printS_lines, ← image_back (by omega) e2]
        exact hg
theorem law_AsmForm (text : List UInt8) (hl : text.length ≤ 5000000) : qan text = some true := by
  rw [qan, sealF_eq]
  unfold qan_f
  rw [shown_ok, read_ok text hl]
  simp only [Option.bind_some, Bool.not_true, cond_false]
  by_cases h : (readS text).2.1 = 0
  · obtain ⟨h1, h2⟩ := print_read h
    have e : qaa (Image.mk (readS text).1.cells (readS text).1.mutexes (readS text).1.threads) = some (printS (readS text).1, 0) := by
      have := print_ok (readS text).1
      rw [h1, cond_true] at this
      exact this
    rw [show ((readS text).2.1 != 0) = false by simp [h], cond_false, e, Option.bind_some, h2]
    simp
  · rw [show ((readS text).2.1 != 0) = true by simpa using h]
    rfl
end Lift.AA
