/-
  DERIVED. The Lean functions answer as the laws say. Conditions: as each theorem says.
-/
import Derived.Test.YtfclmdmignblkaaDoorWalk
import Derived.IntWalk
import Derived.Lib.AtoiAllCases
import Derived.Lib.ItoaMem
import Derived.Lib.IndexBytes
set_option linter.unusedVariables false
set_option linter.unusedSimpArgs false
set_option linter.unusedSectionVars false
/- Layer 22: runs. -/
namespace Lift.A1P
open Go Go.RowKit Lift Go.IntWalk Lift.Fn

theorem sameLoop22 (l : List Int) (hl : l.length ≤ 4611686018427387904) : ∀ (k n i : Nat), l.length - i ≤ k → k < n → i ≤ l.length → racetreeref08_sameInts_i4 n l l (i : Int) = some (.inr ()) := by
  intro k
  induction k with
  | zero =>
    intro n i hk hn hi
    cases n with
    | zero => omega
    | succ n =>
      unfold racetreeref08_sameInts_i4 racetreeref08_sameInts_t4
      rw [decide_eq_false (by omega), cond_false]
  | succ k ih =>
    intro n i hk hn hi
    cases n with
    | zero => omega
    | succ n =>
      unfold racetreeref08_sameInts_i4 racetreeref08_sameInts_t4
      by_cases h : i < l.length
      · have hg : l[Int.toNat (i : Int)]? = some l[i] := by rw [Int.toNat_natCast]; exact List.getElem?_eq_getElem h
        rw [decide_eq_true (show (i : Int) < (l.length : Int) by omega), cond_true, decide_eq_true (show (0 : Int) ≤ (i : Int) by omega), cond_true, hg, Option.bind_some, cond_true, Option.bind_some]
        rw [show (l[i] != l[i]) = false by simp, cond_false, i64_in _ (by omega)]
        exact ih n (i + 1) (by omega) (by omega) (by omega)
      · rw [decide_eq_false (by omega), cond_false]

theorem same22 (l : List Int) (hl : l.length ≤ 4611686018427387904) : racetreeref08_SameInts l l = some true := by
  rw [racetreeref08_SameInts, sealF_eq]
  unfold racetreeref08_SameInts_f
  rw [racetreeref08_sameInts, sealF_eq]
  unfold racetreeref08_sameInts_f
  have := sameLoop22 l hl l.length fuel 0 (by omega) (by unfold fuel; omega) (by omega)
  rw [show ((0 : Nat) : Int) = 0 from rfl] at this
  rw [show ((l.length : Int) != (l.length : Int)) = false by simp, cond_false, racetreeref08_sameInts_l4, sealF_eq, this]
  rfl

/-- One number more, at the end of runs. -/
def addRun : List Run → Int → List Run
  | [], n => [⟨n, 1⟩]
  | [r], n => bif r.n == n then [⟨r.n, r.times + 1⟩] else [r, ⟨n, 1⟩]
  | r :: s :: rs, n => r :: addRun (s :: rs) n

def runsS (l : List Int) : List Run := l.foldl addRun []

def okNum (n : Int) : Bool := decide (0 ≤ n) && decide (n ≤ 2147483647)

theorem addRun_snoc (rs : List Run) (r : Run) (n : Int) : addRun (rs ++ [r]) n = bif r.n == n then rs ++ [⟨r.n, r.times + 1⟩] else rs ++ [r, ⟨n, 1⟩] := by
  induction rs with
  | nil => cases h : r.n == n <;> simp [addRun, h]
  | cons s rs ih =>
    have e : addRun (s :: (rs ++ [r])) n = s :: addRun (rs ++ [r]) n := by
      cases rs <;> rfl
    rw [List.cons_append, e, ih]
    cases r.n == n <;> rfl

theorem addRun_len (rs : List Run) (n : Int) : (addRun rs n).length ≤ rs.length + 1 := by
  rcases List.eq_nil_or_concat rs with rfl | ⟨L, r, rfl⟩
  · simp [addRun]
  · rw [List.concat_eq_append, addRun_snoc]
    cases r.n == n <;> simp

theorem set_last (L : List Run) (r x : Run) : (L ++ [r]).set ((((L ++ [r]).length : Int) - 1).toNat) x = L ++ [x] := by
  have : (((L ++ [r]).length : Int) - 1).toNat = L.length := by simp
  rw [this]
  simp

theorem get_last (L : List Run) (r : Run) : (L ++ [r])[(((L ++ [r]).length : Int) - 1).toNat]? = some r := by
  have : (((L ++ [r]).length : Int) - 1).toNat = L.length := by simp
  rw [this]
  simp

/-- How often the greatest of the runs stands. -/
def small (rs : List Run) (m : Nat) : Prop := rs.length ≤ m ∧ ∀ r ∈ rs, 0 ≤ r.times ∧ r.times ≤ m

theorem addRun_small {rs : List Run} {m : Nat} (h : small rs m) (n : Int) : small (addRun rs n) (m + 1) := by
  rcases List.eq_nil_or_concat rs with rfl | ⟨L, r, rfl⟩
  · refine ⟨by simp [addRun], fun x hx => ?_⟩
    simp only [addRun, List.mem_singleton] at hx
    subst hx
    simp only
    omega
  · rw [List.concat_eq_append] at h ⊢
    rw [addRun_snoc]
    obtain ⟨h1, h2⟩ := h
    have hr := h2 r (by simp)
    simp only [List.length_append, List.length_singleton] at h1
    cases r.n == n with
    | true =>
      rw [cond_true]
      refine ⟨by simp only [List.length_append, List.length_singleton]; omega, fun x hx => ?_⟩
      rcases List.mem_append.1 hx with hx | hx
      · have := h2 x (by simp [hx]); omega
      · simp only [List.mem_singleton] at hx; subst hx; simp only; omega
    | false =>
      rw [cond_false]
      refine ⟨by simp only [List.length_append, List.length_cons, List.length_nil]; omega, fun x hx => ?_⟩
      rcases List.mem_append.1 hx with hx | hx
      · have := h2 x (by simp [hx]); omega
      · simp only [List.mem_cons, List.not_mem_nil, or_false] at hx
        rcases hx with rfl | rfl
        · omega
        · simp only; omega

theorem runsLoop (l : List Int) (hl : l.length ≤ 1000) : ∀ (k n i : Nat) (rs : List Run), l.length - i ≤ k → k < n → i ≤ l.length → small rs i →
    sched_runs_i5 n l (l.length : Int) (i : Int) rs = some (bif (l.drop i).all okNum then .inr ((l.drop i).foldl addRun rs) else .inl 1) := by
  intro k
  induction k with
  | zero =>
    intro n i rs hk hn hi hs
    cases n with
    | zero => omega
    | succ n =>
      unfold sched_runs_i5 sched_runs_t5
      rw [decide_eq_false (by omega), cond_false, List.drop_eq_nil_of_le (by omega)]
      rfl
  | succ k ih =>
    intro n i rs hk hn hi hs
    cases n with
    | zero => omega
    | succ n =>
      unfold sched_runs_i5 sched_runs_t5
      by_cases h : i < l.length
      · have hg : l[Int.toNat (i : Int)]? = some l[i] := by rw [Int.toNat_natCast]; exact List.getElem?_eq_getElem h
        rw [decide_eq_true (show (i : Int) < (l.length : Int) by omega), cond_true, decide_eq_true (show (0 : Int) ≤ (i : Int) by omega), cond_true, hg, Option.bind_some]
        rw [List.drop_eq_getElem_cons h, List.all_cons, List.foldl_cons]
        have hok : okNum l[i] = (decide (0 ≤ l[i]) && decide (l[i] ≤ 2147483647)) := rfl
        by_cases h0 : l[i] < 0
        · rw [decide_eq_true h0, cond_true, hok, decide_eq_false (show ¬ 0 ≤ l[i] by omega)]
          rfl
        · rw [decide_eq_false h0, cond_false]
          by_cases h1 : l[i] > 2147483647
          · rw [decide_eq_true h1, cond_true, hok, decide_eq_false (show ¬ l[i] ≤ 2147483647 by omega), Bool.and_false]
            rfl
          · rw [decide_eq_false h1, cond_false, hok, decide_eq_true (show 0 ≤ l[i] by omega), decide_eq_true (show l[i] ≤ 2147483647 by omega), Bool.and_true, Bool.true_and]
            have hi1 : ((i + 1 : Nat) : Int) = (i : Int) + 1 := by omega
            have next := ih n (i + 1) (addRun rs l[i]) (by omega) (by omega) (by omega) (addRun_small hs _)
            rw [hi1] at next
            have hb : decide ((List.length rs + List.length [Run.mk l[i] (1 : Int)]) * (16 : Nat) ≤ (140737488355328 : Nat) ∧ List.length rs + List.length [Run.mk l[i] (1 : Int)] ≤ (9223372036854775807 : Nat)) = true :=
              decide_eq_true (by have := hs.1; simp only [List.length_cons, List.length_nil]; omega)
            rcases List.eq_nil_or_concat rs with rfl | ⟨L, r, rfl⟩
            · rw [show ((([] : List Run).length : Int) - 1) = -1 from rfl, i64_in (-1) (by omega), decide_eq_false (by omega), cond_false, hb, cond_true, i64_in _ (by omega)]
              exact next
            · rw [List.concat_eq_append] at next hs hb ⊢
              have hlen : (L ++ [r]).length = L.length + 1 := by simp
              have hs1 := hs.1
              have hs2 := hs.2 r (by simp)
              rw [i64_in (((L ++ [r]).length : Int) - 1) (by omega), decide_eq_true (show (((L ++ [r]).length : Int) - 1) ≥ 0 by omega), cond_true, decide_eq_true (show (((L ++ [r]).length : Int) - 1) < ((L ++ [r]).length : Int) by omega), Bool.and_self, cond_true, get_last, Option.bind_some]
              rw [addRun_snoc] at next
              cases hq : r.n == l[i] with
              | true =>
                rw [hq, cond_true] at next
                rw [cond_true, cond_true, Option.bind_some, cond_true, Option.bind_some, i64_in (r.times + 1) (by omega), i64_in _ (by omega), set_last]
                rw [addRun_snoc, hq, cond_true]
                exact next
              | false =>
                rw [hq, cond_false] at next
                rw [cond_false, hb, cond_true, i64_in _ (by omega)]
                rw [addRun_snoc, hq, cond_false]
                have e : L ++ [r] ++ [Run.mk l[i] 1] = L ++ [r, ⟨l[i], 1⟩] := by simp
                rw [e]
                exact next
      · rw [decide_eq_false (by omega), cond_false, List.drop_eq_nil_of_le (by omega)]
        rfl

/-- The code's runs. -/
def runsR (l : List Int) : Int × List Run := bif decide ((l.length : Int) > 1000) then (221, []) else bif l.all okNum then (0, runsS l) else (1, [])

theorem runs1 (l : List Int) : sched_runs l = some (runsR l) := by
  rw [sched_runs, sealF_eq]
  unfold sched_runs_f runsR
  cases hc : decide ((l.length : Int) > 1000) with
  | true => rfl
  | false =>
    have := of_decide_eq_false hc
    have hL := runsLoop l (by omega) l.length fuel 0 [] (by omega) (by unfold fuel; omega) (by omega) ⟨by simp, fun r h => by cases h⟩
    rw [show ((0 : Nat) : Int) = 0 from rfl, List.drop_zero] at hL
    rw [cond_false, cond_false, sched_runs_l5, sealF_eq, hL, Option.bind_some]
    cases l.all okNum <;> rfl

theorem mayLoop (l : List Int) (hl : l.length ≤ 1000) : ∀ (k n i : Nat), l.length - i ≤ k → k < n → i ≤ l.length →
    racetreeref22_may_i4 n l (i : Int) = some (bif (l.drop i).all okNum then .inr () else .inl 1) := by
  intro k
  induction k with
  | zero =>
    intro n i hk hn hi
    cases n with
    | zero => omega
    | succ n =>
      unfold racetreeref22_may_i4 racetreeref22_may_t4
      rw [decide_eq_false (by omega), cond_false, List.drop_eq_nil_of_le (by omega)]
      rfl
  | succ k ih =>
    intro n i hk hn hi
    cases n with
    | zero => omega
    | succ n =>
      unfold racetreeref22_may_i4 racetreeref22_may_t4
      by_cases h : i < l.length
      · have hg : l[Int.toNat (i : Int)]? = some l[i] := by rw [Int.toNat_natCast]; exact List.getElem?_eq_getElem h
        rw [decide_eq_true (show (i : Int) < (l.length : Int) by omega), cond_true, decide_eq_true (show (0 : Int) ≤ (i : Int) by omega), cond_true, hg, Option.bind_some]
        rw [List.drop_eq_getElem_cons h, List.all_cons]
        have hok : okNum l[i] = (decide (0 ≤ l[i]) && decide (l[i] ≤ 2147483647)) := rfl
        by_cases h0 : l[i] < 0
        · rw [decide_eq_true h0, cond_true, hok, decide_eq_false (show ¬ 0 ≤ l[i] by omega)]
          rfl
        · rw [decide_eq_false h0, cond_false, cond_true, Option.bind_some]
          by_cases h1 : l[i] > 2147483647
          · rw [decide_eq_true h1, cond_true, hok, decide_eq_false (show ¬ l[i] ≤ 2147483647 by omega), Bool.and_false]
            rfl
          · rw [decide_eq_false h1, cond_false, hok, decide_eq_true (show 0 ≤ l[i] by omega), decide_eq_true (show l[i] ≤ 2147483647 by omega), Bool.and_true, Bool.true_and, i64_in _ (by omega)]
            exact ih n (i + 1) (by omega) (by omega) (by omega)
      · rw [decide_eq_false (by omega), cond_false, List.drop_eq_nil_of_le (by omega)]
        rfl

theorem may1 (l : List Int) : racetreeref22_may l = some (runsR l).1 := by
  rw [racetreeref22_may, sealF_eq]
  unfold racetreeref22_may_f runsR
  cases hc : decide ((l.length : Int) > 1000) with
  | true => rfl
  | false =>
    have := of_decide_eq_false hc
    have hL := mayLoop l (by omega) l.length fuel 0 (by omega) (by unfold fuel; omega) (by omega)
    rw [show ((0 : Nat) : Int) = 0 from rfl, List.drop_zero] at hL
    rw [cond_false, cond_false, racetreeref22_may_l4, sealF_eq, hL, Option.bind_some]
    cases l.all okNum <;> rfl

theorem refRunsLoop (l : List Int) (hl : l.length ≤ 1000) : ∀ (k n i : Nat) (rs : List Run), l.length - i ≤ k → k < n → i ≤ l.length → small rs i →
    racetreeref22_runs_i3 n l (i : Int) rs = some ((l.drop i).foldl addRun rs) := by
  intro k
  induction k with
  | zero =>
    intro n i rs hk hn hi hs
    cases n with
    | zero => omega
    | succ n =>
      unfold racetreeref22_runs_i3 racetreeref22_runs_t3
      rw [decide_eq_false (by omega), cond_false, List.drop_eq_nil_of_le (by omega)]
      rfl
  | succ k ih =>
    intro n i rs hk hn hi hs
    cases n with
    | zero => omega
    | succ n =>
      unfold racetreeref22_runs_i3 racetreeref22_runs_t3
      by_cases h : i < l.length
      · have hg : l[Int.toNat (i : Int)]? = some l[i] := by rw [Int.toNat_natCast]; exact List.getElem?_eq_getElem h
        rw [decide_eq_true (show (i : Int) < (l.length : Int) by omega), cond_true, decide_eq_true (show (0 : Int) ≤ (i : Int) by omega)]
        rw [List.drop_eq_getElem_cons h, List.foldl_cons]
        have hi1 : ((i + 1 : Nat) : Int) = (i : Int) + 1 := by omega
        have next := ih n (i + 1) (addRun rs l[i]) (by omega) (by omega) (by omega) (addRun_small hs _)
        rw [hi1] at next
        have hb : decide ((List.length rs + List.length [Run.mk l[i] (1 : Int)]) * (16 : Nat) ≤ (140737488355328 : Nat) ∧ List.length rs + List.length [Run.mk l[i] (1 : Int)] ≤ (9223372036854775807 : Nat)) = true :=
          decide_eq_true (by have := hs.1; simp only [List.length_cons, List.length_nil]; omega)
        rcases List.eq_nil_or_concat rs with rfl | ⟨L, r, rfl⟩
        · rw [show ((([] : List Run).length : Int) - 1) = -1 from rfl, i64_in (-1) (by omega), decide_eq_false (by omega), cond_false, cond_true, hg, Option.bind_some, hb, cond_true, i64_in _ (by omega)]
          exact next
        · rw [List.concat_eq_append] at next hs hb ⊢
          have hlen : (L ++ [r]).length = L.length + 1 := by simp
          have hs1 := hs.1
          have hs2 := hs.2 r (by simp)
          rw [i64_in (((L ++ [r]).length : Int) - 1) (by omega), decide_eq_true (show (((L ++ [r]).length : Int) - 1) ≥ 0 by omega), cond_true, decide_eq_true (show (((L ++ [r]).length : Int) - 1) < ((L ++ [r]).length : Int) by omega), Bool.and_self, cond_true, get_last, Option.bind_some, cond_true, hg, Option.bind_some]
          rw [addRun_snoc] at next
          cases hq : r.n == l[i] with
          | true =>
            rw [hq, cond_true] at next
            rw [cond_true, cond_true, Option.bind_some, cond_true, Option.bind_some, i64_in (r.times + 1) (by omega), i64_in _ (by omega), set_last]
            rw [addRun_snoc, hq, cond_true]
            exact next
          | false =>
            rw [hq, cond_false] at next
            rw [cond_false, cond_true, Option.bind_some, hb, cond_true, i64_in _ (by omega)]
            rw [addRun_snoc, hq, cond_false]
            have e : L ++ [r] ++ [Run.mk l[i] 1] = L ++ [r, ⟨l[i], 1⟩] := by simp
            rw [e]
            exact next
      · rw [decide_eq_false (by omega), cond_false, List.drop_eq_nil_of_le (by omega)]
        rfl

theorem refRuns1 (l : List Int) (hl : l.length ≤ 1000) : racetreeref22_runs l = some (runsS l) := by
  rw [racetreeref22_runs, sealF_eq]
  unfold racetreeref22_runs_f
  have hL := refRunsLoop l hl l.length fuel 0 [] (by omega) (by unfold fuel; omega) (by omega) ⟨by simp, fun r h => by cases h⟩
  rw [show ((0 : Nat) : Int) = 0 from rfl, List.drop_zero] at hL
  rw [racetreeref22_runs_l3, sealF_eq, hL]
  rfl

theorem runs_small (l : List Int) (hl : l.length ≤ 1000) : small (runsS l) 1000 := by
  have : ∀ (l : List Int) (rs : List Run) (m : Nat), small rs m → small (l.foldl addRun rs) (m + l.length) := by
    intro l
    induction l with
    | nil => intro rs m h; exact h
    | cons n l ih =>
      intro rs m h
      have := ih _ (m + 1) (addRun_small h n)
      rw [List.foldl_cons, List.length_cons, show m + (l.length + 1) = m + 1 + l.length by omega]
      exact this
  have h := this l [] 0 ⟨by simp, fun r h => by cases h⟩
  rw [Nat.zero_add] at h
  exact ⟨Nat.le_trans h.1 hl, fun r hr => ⟨(h.2 r hr).1, by have := (h.2 r hr).2; omega⟩⟩
end Lift.A1P

/- Layer 22: numbers. -/
namespace Lift.A1P
open Go Go.RowKit Lift Go.IntWalk Lift.Fn

def isDig (c : UInt8) : Bool := decide (48 ≤ c.toNat) && decide (c.toNat ≤ 57)
def valF (a : Nat) (t : List UInt8) : Nat := t.foldl (fun a c => a * 10 + (c.toNat - 48)) a
def canon (t : List UInt8) : Bool := t.all isDig && match t with
  | [] => false
  | [_] => true
  | c :: _ :: _ => !(c == 48)
def numP (s : List UInt8) (most : Nat) : Option Nat := bif canon s && decide (valF 0 s ≤ most) then some (valF 0 s) else none

theorem isDig_iff {c : UInt8} : isDig c = true ↔ 48 ≤ c.toNat ∧ c.toNat ≤ 57 := by simp [isDig]

theorem valF_snoc (a : Nat) (t : List UInt8) (c : UInt8) : valF a (t ++ [c]) = valF a t * 10 + (c.toNat - 48) := by simp [valF]
theorem valF_ge : ∀ (t : List UInt8) (a : Nat), a ≤ valF a t
  | [], a => Nat.le_refl _
  | c :: t, a => by
    have := valF_ge t (a * 10 + (c.toNat - 48))
    show a ≤ valF (a * 10 + (c.toNat - 48)) t
    omega

theorem ofNat_dig {c : UInt8} (h : isDig c = true) : UInt8.ofNat (48 + (c.toNat - 48)) = c := by
  have := isDig_iff.1 h
  rw [show 48 + (c.toNat - 48) = c.toNat by omega]
  exact UInt8.ofNat_toNat

theorem dec_big {u : Nat} (h : 10 ≤ u) : Lib.decDigits u = Lib.decDigits (u / 10) ++ [UInt8.ofNat (48 + u % 10)] := by
  conv => lhs; rw [Lib.decDigits]
  rw [dif_neg (by omega)]

/-- Digits without a 0 ahead are a number's. -/
theorem dec_val1 : ∀ (n : Nat) (t : List UInt8), t.length = n → t ≠ [] → t.all isDig = true → t.head? ≠ some 48 → 1 ≤ valF 0 t ∧ Lib.decDigits (valF 0 t) = t := by
  intro n
  induction n with
  | zero => intro t h hn; exact absurd (List.eq_nil_of_length_eq_zero h) hn
  | succ n ih =>
    intro t h hn ha hh
    rcases List.eq_nil_or_concat t with rfl | ⟨L, c, rfl⟩
    · exact absurd rfl hn
    rw [List.concat_eq_append] at *
    rw [List.all_append, Bool.and_eq_true] at ha
    have hc : isDig c = true := by simpa using ha.2
    have hc' := isDig_iff.1 hc
    rw [valF_snoc]
    by_cases hL : L = []
    · subst hL
      have hne : c ≠ 48 := fun e => hh (by simp [e])
      have hv : valF 0 [] = 0 := rfl
      have : c.toNat ≠ 48 := fun e => hne (by apply UInt8.toNat_inj.1; rw [e]; rfl)
      rw [hv, Nat.zero_mul, Nat.zero_add]
      refine ⟨by omega, ?_⟩
      rw [Lib.decDigits_one (by omega), ofNat_dig hc]
      rfl
    · have hl : L.length = n := by simp at h; exact h
      have hh' : L.head? ≠ some 48 := by
        cases L with
        | nil => exact absurd rfl hL
        | cons a L => simpa using hh
      obtain ⟨i1, i2⟩ := ih L hl hL ha.1 hh'
      refine ⟨by omega, ?_⟩
      rw [dec_big (by omega), show (valF 0 L * 10 + (c.toNat - 48)) / 10 = valF 0 L by omega, show (valF 0 L * 10 + (c.toNat - 48)) % 10 = c.toNat - 48 by omega, i2, ofNat_dig hc]

theorem dec_val {t : List UInt8} (h : canon t = true) : Lib.decDigits (valF 0 t) = t := by
  unfold canon at h
  rw [Bool.and_eq_true] at h
  obtain ⟨h1, h2⟩ := h
  match t, h1, h2 with
  | [c], h1, _ =>
    have hc : isDig c = true := by simpa using h1
    have hc' := isDig_iff.1 hc
    have e : valF 0 [c] = c.toNat - 48 := by simp [valF]
    rw [e, Lib.decDigits_one (by omega), ofNat_dig hc]
  | c :: d :: r, h1, h2 =>
    refine (dec_val1 _ (c :: d :: r) rfl (by simp) h1 (fun e => ?_)).2
    have : c = 48 := by simpa using e
    subst this
    simp at h2

theorem val_dec : ∀ (n : Nat), valF 0 (Lib.decDigits n) = n ∧ (Lib.decDigits n).all isDig = true ∧ Lib.decDigits n ≠ [] ∧ ((Lib.decDigits n).head? = some 48 → n = 0) := by
  intro n
  induction n using Nat.strongRecOn with
  | _ n ih =>
    by_cases h : n < 10
    · rw [Lib.decDigits_one h]
      have ht : (UInt8.ofNat (48 + n)).toNat = 48 + n := by rw [UInt8.toNat_ofNat']; omega
      refine ⟨by simp only [valF, List.foldl_cons, List.foldl_nil, ht]; omega, ?_, by simp, fun e => ?_⟩
      · simp only [List.all_cons, List.all_nil, Bool.and_true]
        exact isDig_iff.2 (by omega)
      · have e' : UInt8.ofNat (48 + n) = 48 := by simpa using e
        have := congrArg UInt8.toNat e'
        rw [ht] at this
        have h48 : (48 : UInt8).toNat = 48 := rfl
        omega
    · obtain ⟨i1, i2, i3, i4⟩ := ih (n / 10) (by omega)
      have ht : (UInt8.ofNat (48 + n % 10)).toNat = 48 + n % 10 := by rw [UInt8.toNat_ofNat']; omega
      rw [dec_big (by omega)]
      refine ⟨?_, ?_, by simp, fun e => ?_⟩
      · rw [valF_snoc, i1, ht]; omega
      · rw [List.all_append, i2, Bool.true_and]
        simp only [List.all_cons, List.all_nil, Bool.and_true]
        exact isDig_iff.2 (by omega)
      · rw [List.head?_append] at e
        cases hq : (Lib.decDigits (n / 10)).head? with
        | none => exact absurd (List.head?_eq_none_iff.1 hq) i3
        | some c =>
          rw [hq] at e
          have : c = 48 := by simpa using e
          subst this
          have := i4 hq
          omega

theorem dec_len : ∀ (k n : Nat), 1 ≤ k → n < 10 ^ k → (Lib.decDigits n).length ≤ k := by
  intro k
  induction k with
  | zero => intro n h; omega
  | succ k ih =>
    intro n _ hn
    by_cases h : n < 10
    · rw [Lib.decDigits_one h]; simp
    · have h1 : 1 ≤ k := by
        cases k with
        | zero => simp at hn; omega
        | succ k => omega
      rw [dec_big (by omega), List.length_append]
      have := ih (n / 10) h1 (by rw [Nat.pow_succ] at hn; omega)
      simp only [List.length_singleton]
      omega

theorem canon_dec (n : Nat) : canon (Lib.decDigits n) = true := by
  obtain ⟨h1, h2, h3, h4⟩ := val_dec n
  unfold canon
  rw [h2, Bool.true_and]
  match hq : Lib.decDigits n, h3, h4 with
  | [], h3, _ => exact absurd rfl h3
  | [c], _, _ => rfl
  | c :: d :: r, _, h4 =>
    simp only
    by_cases e : c = 48
    · subst e
      have := h4 rfl
      subst this
      rw [Lib.decDigits_one (by decide)] at hq
      simp at hq
    · simpa using e

theorem numP_dec (n most : Nat) : numP (Lib.decDigits n) most = bif decide (n ≤ most) then some n else none := by
  unfold numP
  rw [canon_dec, (val_dec n).1, Bool.true_and]

theorem numP_some {s : List UInt8} {most n : Nat} (h : numP s most = some n) : s = Lib.decDigits n ∧ n ≤ most := by
  unfold numP at h
  cases hc : canon s && decide (valF 0 s ≤ most) with
  | false => rw [hc] at h; cases h
  | true =>
    rw [hc] at h
    cases h
    rw [Bool.and_eq_true, decide_eq_true_eq] at hc
    exact ⟨(dec_val hc.1).symm, hc.2⟩

theorem parse_val : ∀ (l : List UInt8) (acc : Nat), l.all isDig = true → valF acc l ≤ 2147483647 → Lib.parseUint10 acc l = .ok (valF acc l)
  | [], acc, _, _ => rfl
  | c :: l, acc, ha, hv => by
    rw [List.all_cons, Bool.and_eq_true] at ha
    have hc := isDig_iff.1 ha.1
    have hv' : valF (acc * 10 + (c.toNat - 48)) l ≤ 2147483647 := hv
    have hg := valF_ge l (acc * 10 + (c.toNat - 48))
    show (if 48 ≤ c.toNat ∧ c.toNat ≤ 57 then _ else _) = _
    rw [if_pos hc, if_neg (by omega), if_neg (by omega), parse_val l _ ha.2 hv']
    rfl

theorem atoi_dec {n : Nat} (h : n ≤ 2147483647) : Lib.atoiAll (Lib.decDigits n) = .ok (n : Int) := by
  obtain ⟨h1, h2, h3, _⟩ := val_dec n
  have hp : Lib.parseMag (Lib.decDigits n) = .ok n := by
    unfold Lib.parseMag
    rw [if_neg h3, parse_val _ 0 h2 (by omega), h1]
  match hq : Lib.decDigits n, h3, h2, hp with
  | [], h3, _, _ => exact absurd rfl h3
  | c :: r, _, h2, hp =>
    rw [List.all_cons, Bool.and_eq_true] at h2
    have hc := isDig_iff.1 h2.1
    rw [Lib.atoiAll_plain c r (by omega) (by omega), hp]
    unfold Lib.signless
    simp only
    rw [if_neg (by omega)]

theorem number_code (s : List UInt8) (hl : s.length ≤ 10000000) (most : Nat) (hm : most ≤ 2147483647) :
    (∀ n, numP s most = some n → sched_number s (most : Int) = some ((n : Int), true)) ∧ (numP s most = none → ∃ v, sched_number s (most : Int) = some (v, false)) := by
  have ha : strconv_Atoi s = some (atoiOf s) := by
    rw [strconv_Atoi, sealF_eq]
    unfold strconv_Atoi_f
    rw [decide_eq_true (by omega)]
    rfl
  rw [sched_number, sealF_eq]
  unfold sched_number_f
  rw [ha, Option.bind_some]
  refine ⟨fun n hn => ?_, fun hn => ?_⟩
  · obtain ⟨rfl, hle⟩ := numP_some hn
    have e : atoiOf (Lib.decDigits n) = ((n : Int), false) := by
      unfold atoiOf
      rw [atoi_dec (by omega)]
    have hi : strconv_ItoaW (n : Int) = some (Lib.decDigits n) := by
      rw [strconv_ItoaW, sealF_eq]
      unfold strconv_ItoaW_f
      rw [decide_eq_true (by omega), cond_true, Lib.itoa_nonneg]
    rw [e]
    simp only [Bool.not_false, cond_true]
    rw [decide_eq_true (by omega), cond_true, decide_eq_true (by omega), cond_true, hi, Option.bind_some]
    simp
  · cases hA : Lib.atoiAll s with
    | ok v =>
      have e : atoiOf s = (v, false) := by unfold atoiOf; rw [hA]
      obtain ⟨b1, b2⟩ := Lib.atoiAll_bounds hA
      rw [e]
      simp only [Bool.not_false, cond_true]
      by_cases h0 : v ≥ 0
      · rw [decide_eq_true h0, cond_true]
        by_cases h1 : v ≤ (most : Int)
        · rw [decide_eq_true h1, cond_true]
          have hi : strconv_ItoaW v = some (Lib.itoa v) := by
            rw [strconv_ItoaW, sealF_eq]
            unfold strconv_ItoaW_f
            rw [decide_eq_true ⟨b1, b2⟩, cond_true]
          rw [hi, Option.bind_some]
          refine ⟨v, ?_⟩
          have hv : v = ((v.toNat : Nat) : Int) := by omega
          have : (Lib.itoa v == s) = false := by
            rw [beq_eq_false_iff_ne]
            intro he
            rw [hv, Lib.itoa_nonneg] at he
            rw [← he, numP_dec, decide_eq_true (by omega)] at hn
            cases hn
          rw [this]
        · rw [decide_eq_false h1, cond_false]; exact ⟨_, rfl⟩
      · rw [decide_eq_false h0, cond_false]; exact ⟨_, rfl⟩
    | _ =>
      have e : (atoiOf s).2 = true := by unfold atoiOf; rw [hA]
      rw [e, Bool.not_true, cond_false]
      exact ⟨_, rfl⟩

theorem numLoop (t : List UInt8) (b : Bool) (hl : t.length ≤ 10) : ∀ (k n i acc : Nat), t.length - i ≤ k → k < n → i ≤ t.length → acc < 10 ^ i →
    racetreeref10_Number_i8 n t b (acc : Int) (i : Int) = some (bif (t.drop i).all isDig then .inr (b, ((valF acc (t.drop i) : Nat) : Int)) else .inl (0, false)) := by
  intro k
  induction k with
  | zero =>
    intro n i acc hk hn hi ha
    cases n with
    | zero => omega
    | succ n =>
      unfold racetreeref10_Number_i8 racetreeref10_Number_t8
      rw [decide_eq_false (by omega), cond_false, List.drop_eq_nil_of_le (by omega)]
      rfl
  | succ k ih =>
    intro n i acc hk hn hi ha
    cases n with
    | zero => omega
    | succ n =>
      unfold racetreeref10_Number_i8 racetreeref10_Number_t8
      by_cases h : i < t.length
      · have hg : t[Int.toNat (i : Int)]? = some t[i] := by rw [Int.toNat_natCast]; exact List.getElem?_eq_getElem h
        have hp : (10 : Nat) ^ i ≤ 10 ^ 10 := Nat.pow_le_pow_right (by decide) (by omega)
        have hp' : (10 : Nat) ^ 10 = 10000000000 := by decide
        have hlt := t[i].toNat_lt
        rw [decide_eq_true (show (i : Int) < (t.length : Int) by omega), cond_true, decide_eq_true (show (0 : Int) ≤ (i : Int) by omega), cond_true, hg, Option.bind_some]
        rw [List.drop_eq_getElem_cons h, List.all_cons]
        have hd : isDig t[i] = (decide (48 ≤ t[i].toNat) && decide (t[i].toNat ≤ 57)) := rfl
        by_cases h0 : ((t[i].toNat : Nat) : Int) < 48
        · rw [decide_eq_true h0, cond_true, hd, decide_eq_false (show ¬ 48 ≤ t[i].toNat by omega)]
          rfl
        · rw [decide_eq_false h0, cond_false, cond_true, Option.bind_some]
          by_cases h1 : ((t[i].toNat : Nat) : Int) > 57
          · rw [decide_eq_true h1, cond_true, hd, decide_eq_false (show ¬ t[i].toNat ≤ 57 by omega), Bool.and_false]
            rfl
          · rw [decide_eq_false h1, cond_false, cond_true, Option.bind_some, hd, decide_eq_true (show 48 ≤ t[i].toNat by omega), decide_eq_true (show t[i].toNat ≤ 57 by omega), Bool.and_true, Bool.true_and]
            rw [i64_in (10 * (acc : Int)) (by omega), i64_in ((t[i].toNat : Nat) : Int) (by omega), i64_in (10 * (acc : Int) + ((t[i].toNat : Nat) : Int)) (by omega), i64_in _ (by omega), i64_in ((i : Int) + 1) (by omega)]
            have := ih n (i + 1) (acc * 10 + (t[i].toNat - 48)) (by omega) (by omega) (by omega) (by rw [Nat.pow_succ]; omega)
            rw [show ((i + 1 : Nat) : Int) = (i : Int) + 1 by omega, show ((acc * 10 + (t[i].toNat - 48) : Nat) : Int) = 10 * (acc : Int) + ((t[i].toNat : Nat) : Int) - 48 by omega] at this
            exact this
      · rw [decide_eq_false (by omega), cond_false, List.drop_eq_nil_of_le (by omega)]
        rfl

theorem numL (t : List UInt8) (b : Bool) (hl : t.length ≤ 10) : racetreeref10_Number_l8 t b 0 0 = some (bif t.all isDig then .inr (b, ((valF 0 t : Nat) : Int)) else .inl (0, false)) := by
  rw [racetreeref10_Number_l8, sealF_eq]
  have := numLoop t b hl t.length fuel 0 0 (by omega) (by unfold fuel; omega) (by omega) (by decide)
  rw [show ((0 : Nat) : Int) = 0 from rfl, List.drop_zero] at this
  exact this

theorem val_lt : ∀ (n : Nat) (t : List UInt8), t.length = n → t.all isDig = true → valF 0 t < 10 ^ n := by
  intro n
  induction n with
  | zero =>
    intro t h _
    have : t = [] := List.eq_nil_of_length_eq_zero h
    subst this
    decide
  | succ n ih =>
    intro t h ha
    rcases List.eq_nil_or_concat t with rfl | ⟨L, c, rfl⟩
    · cases h
    rw [List.concat_eq_append] at *
    rw [List.all_append, Bool.and_eq_true] at ha
    have hc := isDig_iff.1 (show isDig c = true by simpa using ha.2)
    have := ih L (by simpa using h) ha.1
    rw [valF_snoc, Nat.pow_succ]
    omega

theorem number_ref (s : List UInt8) (hl : s.length ≤ 10000000) (most : Nat) (hm : most ≤ 2147483647) :
    (∀ n, numP s most = some n → racetreeref22_whole s (most : Int) = some ((n : Int), true)) ∧ (numP s most = none → ∃ v, racetreeref22_whole s (most : Int) = some (v, false)) := by
  -- what Number answers
  have key : (∃ v, racetreeref10_Number s = some (v, false) ∧ numP s most = none) ∨ (∃ v : Int, v < 0 ∧ racetreeref10_Number s = some (v, true) ∧ numP s most = none) ∨ (canon s = true ∧ racetreeref10_Number s = some (((valF 0 s : Nat) : Int), true)) := by
    rw [racetreeref10_Number, sealF_eq]
    unfold racetreeref10_Number_f
    cases s with
    | nil => left; exact ⟨0, rfl, rfl⟩
    | cons c r =>
      rw [decide_eq_true (show (((c :: r).length : Nat) : Int) > 0 by simp only [List.length_cons]; omega), cond_true]
      rw [show (c :: r)[(0 : Nat)]? = some c from rfl, Option.bind_some]
      by_cases h45 : c = 45
      · subst h45
        have hnone : numP (45 :: r) most = none := by
          have : canon (45 :: r) = false := by unfold canon; rfl
          unfold numP; rw [this]; rfl
        rw [show ((((45 : UInt8).toNat : Nat) : Int) == 45) = true from rfl, cond_true]
        have e : List.drop 1 (List.take (Int.toNat (((45 :: r).length : Nat) : Int)) (45 :: r)) = r := by rw [Int.toNat_natCast, List.take_length]; rfl
        rw [decide_eq_true (show (0 : Int) ≤ 1 by omega), decide_eq_true (show (1 : Int) ≤ (((45 :: r).length : Nat) : Int) by simp only [List.length_cons]; omega), decide_eq_true (show (((45 :: r).length : Nat) : Int) ≤ (((45 :: r).length : Nat) : Int) by omega), Bool.and_self, Bool.and_self, cond_true, e]
        by_cases hz : (r.length : Int) < 1
        · rw [decide_eq_true hz]; left; exact ⟨0, rfl, hnone⟩
        · rw [decide_eq_false hz, cond_false]
          by_cases ht : (r.length : Int) > 10
          · rw [decide_eq_true ht]; left; exact ⟨0, rfl, hnone⟩
          · rw [decide_eq_false ht, cond_false]
            cases r with
            | nil => simp at hz
            | cons d r =>
              rw [show (d :: r)[(0 : Nat)]? = some d from rfl, Option.bind_some]
              by_cases h48 : d = 48
              · subst h48; left; exact ⟨0, rfl, hnone⟩
              · have hd : (((d.toNat : Nat) : Int) == 48) = false := by
                  have : d.toNat ≠ 48 := fun e => h48 (by apply UInt8.toNat_inj.1; rw [e]; rfl)
                  simp; omega
                rw [hd, cond_false, numL _ _ (by omega), Option.bind_some]
                cases ha : (d :: r).all isDig with
                | false => left; exact ⟨0, rfl, hnone⟩
                | true =>
                  right; left
                  have h1 := (dec_val1 _ (d :: r) rfl (by simp) ha (by simpa using h48)).1
                  have h2 := val_lt _ (d :: r) rfl ha
                  have hp : (10 : Nat) ^ (d :: r).length ≤ 10 ^ 10 := Nat.pow_le_pow_right (by decide) (by omega)
                  have hp' : (10 : Nat) ^ 10 = 10000000000 := by decide
                  refine ⟨0 - ((valF 0 (d :: r) : Nat) : Int), by omega, ?_, hnone⟩
                  simp only [cond_true]
                  rw [i64_in _ (by omega)]
      · have hc : (((c.toNat : Nat) : Int) == 45) = false := by
          have : c.toNat ≠ 45 := fun e => h45 (by apply UInt8.toNat_inj.1; rw [e]; rfl)
          simp; omega
        rw [hc, cond_false, decide_eq_false (show ¬ (((c :: r).length : Nat) : Int) < 1 by simp only [List.length_cons]; omega), cond_false]
        by_cases ht : (((c :: r).length : Nat) : Int) > 10
        · rw [decide_eq_true ht, cond_true]
          left
          refine ⟨0, rfl, ?_⟩
          cases hq : numP (c :: r) most with
          | none => rfl
          | some n =>
            obtain ⟨e, hle⟩ := numP_some hq
            have := dec_len 10 n (by decide) (by have : (10 : Nat) ^ 10 = 10000000000 := by decide
                                                 omega)
            rw [← e] at this
            omega
        · rw [decide_eq_false ht, cond_false, Option.bind_some]
          by_cases h48 : (c == 48 && decide (1 < (c :: r).length)) = true
          · rw [Bool.and_eq_true, decide_eq_true_eq] at h48
            obtain ⟨e48, hlen⟩ := h48
            have e48 : c = 48 := by simpa using e48
            subst e48
            rw [show ((((48 : UInt8).toNat : Nat) : Int) == 48) = true from rfl, cond_true, cond_false, decide_eq_true (show (((48 :: r).length : Nat) : Int) > 1 by omega), cond_true]
            left
            refine ⟨0, rfl, ?_⟩
            have : canon (48 :: r) = false := by
              cases r with
              | nil => simp at hlen
              | cons d r => unfold canon; simp
            unfold numP; rw [this]; rfl
          · have hcan : canon (c :: r) = (c :: r).all isDig := by
              unfold canon
              cases r with
              | nil => simp
              | cons d r =>
                have : (c == 48) = false := by
                  cases hq : c == 48 with
                  | false => rfl
                  | true => rw [hq] at h48; simp at h48
                simp [this]
            have fin : (∃ v, (racetreeref10_Number_l8 (c :: r) false 0 0).bind (fun y9 => match y9 with
                | .inl y10 => some ((Prod.fst y10), (Prod.snd y10))
                | .inr y10 => bif Prod.fst y10 then some ((IntKind.wrap IntKind.i64 ((0 : Int) - Prod.snd y10)), (true)) else some ((Prod.snd y10), (true))) = some (v, false) ∧ numP (c :: r) most = none) ∨
                (canon (c :: r) = true ∧ (racetreeref10_Number_l8 (c :: r) false 0 0).bind (fun y9 => match y9 with
                | .inl y10 => some ((Prod.fst y10), (Prod.snd y10))
                | .inr y10 => bif Prod.fst y10 then some ((IntKind.wrap IntKind.i64 ((0 : Int) - Prod.snd y10)), (true)) else some ((Prod.snd y10), (true))) = some (((valF 0 (c :: r) : Nat) : Int), true)) := by
              rw [numL _ _ (by omega), Option.bind_some, hcan]
              cases ha : (c :: r).all isDig with
              | false =>
                left
                refine ⟨0, rfl, ?_⟩
                unfold numP; rw [hcan, ha]; rfl
              | true => right; exact ⟨rfl, rfl⟩
            have out : (∃ v, (racetreeref10_Number_l8 (c :: r) false 0 0).bind (fun y9 => match y9 with
                | .inl y10 => some ((Prod.fst y10), (Prod.snd y10))
                | .inr y10 => bif Prod.fst y10 then some ((IntKind.wrap IntKind.i64 ((0 : Int) - Prod.snd y10)), (true)) else some ((Prod.snd y10), (true))) = some (v, false) ∧ numP (c :: r) most = none) ∨ (∃ v : Int, v < 0 ∧ (racetreeref10_Number_l8 (c :: r) false 0 0).bind (fun y9 => match y9 with
                | .inl y10 => some ((Prod.fst y10), (Prod.snd y10))
                | .inr y10 => bif Prod.fst y10 then some ((IntKind.wrap IntKind.i64 ((0 : Int) - Prod.snd y10)), (true)) else some ((Prod.snd y10), (true))) = some (v, true) ∧ numP (c :: r) most = none) ∨
                (canon (c :: r) = true ∧ (racetreeref10_Number_l8 (c :: r) false 0 0).bind (fun y9 => match y9 with
                | .inl y10 => some ((Prod.fst y10), (Prod.snd y10))
                | .inr y10 => bif Prod.fst y10 then some ((IntKind.wrap IntKind.i64 ((0 : Int) - Prod.snd y10)), (true)) else some ((Prod.snd y10), (true))) = some (((valF 0 (c :: r) : Nat) : Int), true)) := by
              rcases fin with h | h
              · exact .inl h
              · exact .inr (.inr h)
            cases hq : (((c.toNat : Nat) : Int) == 48) with
            | false => rw [cond_false]; exact out
            | true =>
              have hlen : ¬ (((c :: r).length : Nat) : Int) > 1 := by
                have e48 : c = 48 := by
                  have : c.toNat = 48 := by have := eq_of_beq hq; omega
                  apply UInt8.toNat_inj.1; rw [this]; rfl
                subst e48
                intro hgt
                exact h48 (by rw [Bool.and_eq_true, decide_eq_true_eq]; exact ⟨rfl, by omega⟩)
              rw [cond_true, cond_false, decide_eq_false hlen, cond_false]; exact out
  rw [racetreeref22_whole, sealF_eq]
  unfold racetreeref22_whole_f
  rcases key with ⟨v, hv, hn⟩ | ⟨v, hneg, hv, hn⟩ | ⟨hc, hv⟩
  · rw [hv, hn]
    exact ⟨fun n h => (by cases h), fun _ => ⟨v, rfl⟩⟩
  · rw [hv, hn]
    refine ⟨fun n h => (by cases h), fun _ => ⟨v, ?_⟩⟩
    rw [Option.bind_some]
    simp only [cond_true]
    rw [decide_eq_false (by omega)]
    rfl
  · rw [hv, Option.bind_some]
    simp only [cond_true]
    rw [decide_eq_true (by omega), cond_true]
    unfold numP
    rw [hc, Bool.true_and]
    by_cases hle : valF 0 s ≤ most
    · rw [decide_eq_true hle, decide_eq_true (by omega)]
      exact ⟨fun n h => (by cases h; rfl), fun h => (by cases h)⟩
    · rw [decide_eq_false hle, decide_eq_false (by omega)]
      exact ⟨fun n h => (by cases h), fun _ => ⟨_, rfl⟩⟩
end Lift.A1P

/- Layer 22: fields. -/
namespace Lift.A1P
open Go Go.RowKit Lift Go.IntWalk Lift.Fn

/-- What stands ahead of the first letter c, and behind it. -/
def cutS (c : UInt8) : List UInt8 → Option (List UInt8 × List UInt8)
  | [] => none
  | x :: s => bif x == c then some ([], s) else (cutS c s).map fun p => (x :: p.1, p.2)

theorem cutS_app (c : UInt8) : ∀ (a b : List UInt8), c ∉ a → cutS c (a ++ c :: b) = some (a, b)
  | [], b, _ => by simp [cutS]
  | x :: a, b, h => by
    have hx : (x == c) = false := by
      have : x ≠ c := fun e => h (by simp [e])
      simpa using this
    rw [List.cons_append, cutS, hx, cond_false, cutS_app c a b (fun hm => h (by simp [hm]))]
    rfl

theorem cutS_free (c : UInt8) : ∀ (s : List UInt8), c ∉ s → cutS c s = none
  | [], _ => rfl
  | x :: s, h => by
    have hx : (x == c) = false := by
      have : x ≠ c := fun e => h (by simp [e])
      simpa using this
    rw [cutS, hx, cond_false, cutS_free c s (fun hm => h (by simp [hm]))]
    rfl

theorem cutS_some {c : UInt8} : ∀ {s a b : List UInt8}, cutS c s = some (a, b) → s = a ++ c :: b ∧ c ∉ a
  | [], a, b, h => by cases h
  | x :: s, a, b, h => by
    rw [cutS] at h
    cases hx : x == c with
    | true =>
      rw [hx] at h
      cases h
      have : x = c := by simpa using hx
      subst this
      simp
    | false =>
      rw [hx, cond_false] at h
      cases hq : cutS c s with
      | none => rw [hq] at h; cases h
      | some p =>
        obtain ⟨p1, p2⟩ := p
        rw [hq] at h
        cases h
        obtain ⟨h1, h2⟩ := cutS_some hq
        refine ⟨by rw [h1]; rfl, fun hm => ?_⟩
        rcases List.mem_cons.1 hm with e | e
        · rw [e] at hx; simp at hx
        · exact h2 e

theorem cutS_none {c : UInt8} {s : List UInt8} (h : cutS c s = none) : c ∉ s := fun hm => by
  obtain ⟨a, b, rfl, hn⟩ := List.eq_append_cons_of_mem hm
  rw [cutS_app c a b hn] at h
  cases h

theorem index_cut (c : UInt8) : ∀ (s : List UInt8), Lib.indexByte s c = match cutS c s with
    | none => -1
    | some (a, _) => (a.length : Int)
  | [] => rfl
  | x :: s => by
    have ih := index_cut c s
    have hi : ∀ a b, cutS c s = some (a, b) → Lib.indexByte s c ≠ -1 := fun a b h => by rw [ih, h]; simp only; omega
    show (if x == c then (0 : Int) else if Lib.indexByte s c == -1 then -1 else Lib.indexByte s c + 1) = _
    rw [cutS]
    cases hx : x == c with
    | true => rfl
    | false =>
      rw [if_neg (by simp), cond_false]
      cases hq : cutS c s with
      | none =>
        rw [hq] at ih
        rw [ih]
        rfl
      | some p =>
        obtain ⟨p1, p2⟩ := p
        have hne := hi p1 p2 hq
        rw [hq] at ih
        rw [if_neg (by simpa using hne), ih]
        simp

theorem cut_eq (c : UInt8) (s : List UInt8) : Lib.cut s [c] = match cutS c s with
    | none => (s, [], false)
    | some (a, b) => (a, b, true) := by
  unfold Lib.cut
  rw [Lib.index_one, index_cut]
  cases hq : cutS c s with
  | none => rfl
  | some p =>
    obtain ⟨a, b⟩ := p
    obtain ⟨h1, _⟩ := cutS_some hq
    simp only
    rw [if_pos (by omega)]
    subst h1
    simp

theorem pieces_cut (c : UInt8) : ∀ (s : List UInt8), pieces c s = match cutS c s with
    | none => [s]
    | some (a, b) => a :: pieces c b
  | [] => rfl
  | x :: s => by
    have ih := pieces_cut c s
    have e : pieces c (x :: s) = bif x == c then [] :: pieces c s else match pieces c s with
      | p :: ps => (x :: p) :: ps
      | [] => [[x]] := rfl
    rw [e, cutS]
    cases hx : x == c with
    | true => rfl
    | false =>
      rw [cond_false, cond_false, ih]
      cases hq : cutS c s with
      | none => rfl
      | some p => rfl

theorem cut22 (s : List UInt8) (c : UInt8) (h : s.length ≤ 10000000) : strings_Cut s [c] = some (Lib.cut s [c]) := by
  rw [strings_Cut, sealF_eq]
  unfold strings_Cut_f
  rw [decide_eq_true (by omega)]
  rfl

def maxN : Nat := 2147483647
def fieldP (s : List UInt8) : Option (Nat × Nat) := match cutS 42 s with
  | none => (numP s maxN).map fun n => (n, 1)
  | some (a, b) => match numP a maxN, numP b 1000 with
    | some n, some k => bif decide (2 ≤ k) then some (n, k) else none
    | _, _ => none

theorem maxN_int : ((maxN : Nat) : Int) = 2147483647 := rfl

theorem field_code (s : List UInt8) (hl : s.length ≤ 10000000) :
    (∀ n k : Nat, fieldP s = some (n, k) → sched_field s = some (⟨(n : Int), (k : Int)⟩, true)) ∧ (fieldP s = none → ∃ r, sched_field s = some (r, false)) := by
  rw [sched_field, sealF_eq]
  unfold sched_field_f
  rw [cut22 s 42 hl, Option.bind_some, cut_eq]
  unfold fieldP
  cases hq : cutS 42 s with
  | none =>
    obtain ⟨n1, n2⟩ := number_code s hl maxN (Nat.le_refl _)
    rw [maxN_int] at n1 n2
    simp only [Bool.not_false, cond_true]
    cases hp : numP s maxN with
    | none =>
      obtain ⟨v, hv⟩ := n2 hp
      rw [hv]
      exact ⟨fun n k h => (by cases h), fun _ => ⟨_, rfl⟩⟩
    | some m =>
      rw [n1 m hp]
      exact ⟨fun n k h => (by cases h; rfl), fun h => (by cases h)⟩
  | some p =>
    obtain ⟨a, b⟩ := p
    have hs := (cutS_some hq).1
    have hla : a.length ≤ 10000000 ∧ b.length ≤ 10000000 := by
      rw [hs] at hl; simp only [List.length_append, List.length_cons] at hl; omega
    obtain ⟨n1, n2⟩ := number_code a hla.1 maxN (Nat.le_refl _)
    obtain ⟨k1, k2⟩ := number_code b hla.2 1000 (by decide)
    rw [maxN_int] at n1 n2
    rw [show ((1000 : Nat) : Int) = 1000 from rfl] at k1 k2
    simp only [Bool.not_true, cond_false]
    cases hp : numP a maxN with
    | none =>
      obtain ⟨v, hv⟩ := n2 hp
      rw [hv, Option.bind_some]
      cases hb : numP b 1000 with
      | none => obtain ⟨u, hu⟩ := k2 hb; rw [hu]; exact ⟨fun n k h => (by cases h), fun _ => ⟨_, rfl⟩⟩
      | some u => rw [k1 u hb]; exact ⟨fun n k h => (by cases h), fun _ => ⟨_, rfl⟩⟩
    | some m =>
      rw [n1 m hp, Option.bind_some]
      cases hb : numP b 1000 with
      | none => obtain ⟨u, hu⟩ := k2 hb; rw [hu]; exact ⟨fun n k h => (by cases h), fun _ => ⟨_, rfl⟩⟩
      | some u =>
        rw [k1 u hb, Option.bind_some]
        simp only [cond_true]
        by_cases h2 : 2 ≤ u
        · rw [decide_eq_true h2, decide_eq_true (by omega)]
          exact ⟨fun n k h => (by cases h; rfl), fun h => (by cases h)⟩
        · rw [decide_eq_false h2, decide_eq_false (by omega)]
          exact ⟨fun n k h => (by cases h), fun _ => ⟨_, rfl⟩⟩

theorem fieldLoop (s : List UInt8) (hl : s.length ≤ 10000000) : ∀ (k n i : Nat), s.length - i ≤ k → k < n → i ≤ s.length → (42 : UInt8) ∉ s.take i →
    racetreeref22_field_i2 n s (i : Int) 0 0 = match cutS 42 s with
      | none => some (.inr (s, 0, 0))
      | some (a, b) => (racetreeref22_whole a 2147483647).bind fun y1 => (racetreeref22_whole b 1000).bind fun y2 =>
          bif y1.2 then bif y2.2 then some (.inl (decide (y2.1 ≥ 2), y1.1, y2.1)) else some (.inl (false, y1.1, y2.1)) else some (.inl (false, y1.1, y2.1)) := by
  intro k
  induction k with
  | zero =>
    intro n i hk hn hi hf
    cases n with
    | zero => omega
    | succ n =>
      unfold racetreeref22_field_i2 racetreeref22_field_t2
      rw [List.take_of_length_le (by omega)] at hf
      rw [decide_eq_false (by omega), cond_false, cutS_free 42 s hf]
  | succ k ih =>
    intro n i hk hn hi hf
    cases n with
    | zero => omega
    | succ n =>
      unfold racetreeref22_field_i2 racetreeref22_field_t2
      by_cases h : i < s.length
      · have hg : s[Int.toNat (i : Int)]? = some s[i] := by rw [Int.toNat_natCast]; exact List.getElem?_eq_getElem h
        rw [decide_eq_true (show (i : Int) < (s.length : Int) by omega), cond_true, decide_eq_true (show (0 : Int) ≤ (i : Int) by omega), cond_true, hg, Option.bind_some]
        by_cases hx : s[i] = 42
        · have hx' : (((s[i].toNat : Nat) : Int) == 42) = true := by rw [hx]; rfl
          have hs : s = s.take i ++ 42 :: s.drop (i + 1) := by
            conv => lhs; rw [← List.take_append_drop i s, List.drop_eq_getElem_cons h, hx]
          have hcut : cutS 42 s = some (s.take i, s.drop (i + 1)) := by
            conv => lhs; rw [hs]
            exact cutS_app 42 _ _ hf
          rw [hx', cond_true, i64_in ((i : Int) + 1) (by omega), hcut]
          have b1 : (decide ((0 : Int) ≤ (0 : Int)) && (true && decide ((i : Int) ≤ (s.length : Int)))) = true := by simp; omega
          have b2 : (decide ((0 : Int) ≤ (i : Int) + 1) && (decide ((i : Int) + 1 ≤ (s.length : Int)) && decide ((s.length : Int) ≤ (s.length : Int)))) = true := by simp; omega
          have e1 : List.drop 0 (List.take (Int.toNat (i : Int)) s) = s.take i := by rw [Int.toNat_natCast]; rfl
          have e2 : List.drop (Int.toNat ((i : Int) + 1)) (List.take (Int.toNat (s.length : Int)) s) = s.drop (i + 1) := by
            rw [Int.toNat_natCast, List.take_length, show ((i : Int) + 1).toNat = i + 1 by omega]
          rw [b1, cond_true, e1]
          simp only
          congr 1
          funext y1
          rw [b2, cond_true, e2]
        · have hx' : (((s[i].toNat : Nat) : Int) == 42) = false := by
            have : s[i].toNat ≠ 42 := fun e => hx (by apply UInt8.toNat_inj.1; rw [e]; rfl)
            simp; omega
          rw [hx', cond_false, i64_in _ (by omega)]
          have := ih n (i + 1) (by omega) (by omega) (by omega) (by
            rw [List.take_add_one, List.getElem?_eq_getElem h]
            intro hm
            rcases List.mem_append.1 hm with hm | hm
            · exact hf hm
            · simp at hm; exact hx hm.symm)
          rw [show ((i + 1 : Nat) : Int) = (i : Int) + 1 by omega] at this
          exact this
      · rw [List.take_of_length_le (by omega)] at hf
        rw [decide_eq_false (by omega), cond_false, cutS_free 42 s hf]

theorem field_ref (s : List UInt8) (hl : s.length ≤ 10000000) :
    (∀ n k : Nat, fieldP s = some (n, k) → racetreeref22_field s = some (⟨(n : Int), (k : Int)⟩, true)) ∧ (fieldP s = none → ∃ r, racetreeref22_field s = some (r, false)) := by
  rw [racetreeref22_field, sealF_eq]
  unfold racetreeref22_field_f
  have hL := fieldLoop s hl s.length fuel 0 (by omega) (by unfold fuel; omega) (by omega) (by simp)
  rw [show ((0 : Nat) : Int) = 0 from rfl] at hL
  rw [racetreeref22_field_l2, sealF_eq, hL]
  unfold fieldP
  cases hq : cutS 42 s with
  | none =>
    obtain ⟨n1, n2⟩ := number_ref s hl maxN (Nat.le_refl _)
    rw [maxN_int] at n1 n2
    simp only [Option.bind_some]
    cases hp : numP s maxN with
    | none =>
      obtain ⟨v, hv⟩ := n2 hp
      rw [hv]
      exact ⟨fun n k h => (by cases h), fun _ => ⟨_, rfl⟩⟩
    | some m =>
      rw [n1 m hp]
      exact ⟨fun n k h => (by cases h; rfl), fun h => (by cases h)⟩
  | some p =>
    obtain ⟨a, b⟩ := p
    have hs := (cutS_some hq).1
    have hla : a.length ≤ 10000000 ∧ b.length ≤ 10000000 := by
      rw [hs] at hl; simp only [List.length_append, List.length_cons] at hl; omega
    obtain ⟨n1, n2⟩ := number_ref a hla.1 maxN (Nat.le_refl _)
    obtain ⟨k1, k2⟩ := number_ref b hla.2 1000 (by decide)
    rw [maxN_int] at n1 n2
    rw [show ((1000 : Nat) : Int) = 1000 from rfl] at k1 k2
    simp only
    cases hp : numP a maxN with
    | none =>
      obtain ⟨v, hv⟩ := n2 hp
      rw [hv, Option.bind_some]
      cases hb : numP b 1000 with
      | none => obtain ⟨u, hu⟩ := k2 hb; rw [hu]; exact ⟨fun n k h => (by cases h), fun _ => ⟨_, rfl⟩⟩
      | some u => rw [k1 u hb]; exact ⟨fun n k h => (by cases h), fun _ => ⟨_, rfl⟩⟩
    | some m =>
      rw [n1 m hp, Option.bind_some]
      cases hb : numP b 1000 with
      | none => obtain ⟨u, hu⟩ := k2 hb; rw [hu]; exact ⟨fun n k h => (by cases h), fun _ => ⟨_, rfl⟩⟩
      | some u =>
        rw [k1 u hb, Option.bind_some]
        simp only [cond_true, Option.bind_some]
        by_cases h2 : 2 ≤ u
        · rw [decide_eq_true h2, decide_eq_true (show (u : Int) ≥ 2 by omega)]
          exact ⟨fun n k h => (by cases h; rfl), fun h => (by cases h)⟩
        · rw [decide_eq_false h2, decide_eq_false (show ¬ (u : Int) ≥ 2 by omega)]
          exact ⟨fun n k h => (by cases h), fun _ => ⟨_, rfl⟩⟩

/-- A run, as it is printed. -/
def fieldS (n k : Nat) : List UInt8 := Lib.decDigits n ++ bif decide (2 ≤ k) then 42 :: Lib.decDigits k else []

theorem dec_free {c : UInt8} (h : isDig c = false) (n : Nat) : c ∉ Lib.decDigits n := fun hm => by
  have := List.all_eq_true.1 (val_dec n).2.1 c hm
  rw [h] at this
  cases this

theorem fieldP_S {n k : Nat} (hn : n ≤ maxN) (h1 : 1 ≤ k) (hk : k ≤ 1000) : fieldP (fieldS n k) = some (n, k) := by
  unfold fieldP fieldS
  by_cases h2 : 2 ≤ k
  · rw [decide_eq_true h2, cond_true, cutS_app 42 _ _ (dec_free (by decide) n)]
    simp only
    rw [numP_dec, numP_dec, decide_eq_true hn, decide_eq_true hk]
    simp only [cond_true]
    rw [decide_eq_true h2]
    rfl
  · rw [decide_eq_false h2, cond_false, List.append_nil, cutS_free 42 _ (dec_free (by decide) n)]
    simp only
    rw [numP_dec, decide_eq_true hn]
    obtain rfl : k = 1 := by omega
    rfl

theorem fieldP_inv {s : List UInt8} {n k : Nat} (h : fieldP s = some (n, k)) : s = fieldS n k ∧ n ≤ maxN ∧ 1 ≤ k ∧ k ≤ 1000 := by
  unfold fieldP at h
  cases hq : cutS 42 s with
  | none =>
    rw [hq] at h
    cases hp : numP s maxN with
    | none => rw [hp] at h; cases h
    | some m =>
      rw [hp] at h
      cases h
      obtain ⟨rfl, hle⟩ := numP_some hp
      refine ⟨?_, hle, by decide, by decide⟩
      unfold fieldS
      simp
  | some p =>
    obtain ⟨a, b⟩ := p
    rw [hq] at h
    simp only at h
    cases hp : numP a maxN with
    | none => rw [hp] at h; cases h
    | some m =>
      cases hb : numP b 1000 with
      | none => rw [hp, hb] at h; cases h
      | some u =>
        rw [hp, hb] at h
        simp only at h
        cases hc : decide (2 ≤ u) with
        | false => rw [hc] at h; cases h
        | true =>
          rw [hc] at h
          cases h
          have h2 := of_decide_eq_true hc
          obtain ⟨rfl, hle⟩ := numP_some hp
          obtain ⟨rfl, hle2⟩ := numP_some hb
          refine ⟨?_, hle, by omega, hle2⟩
          unfold fieldS
          rw [hc, cond_true]
          exact (cutS_some hq).1
end Lift.A1P

/- Layer 22: Read. -/
namespace Lift.A1P
open Go Go.RowKit Lift Go.IntWalk Lift.Fn

/-- What is read of pieces: numbers, or the fault and its place. -/
def readS : List (List UInt8) → Nat → List Int → (Int × Nat) ⊕ List Int
  | [], _, out => .inr out
  | p :: ps, a, out => match fieldP p with
    | none => .inl (220, a)
    | some (n, k) => bif out.getLast? == some (n : Int) then .inl (220, a) else bif decide (out.length + k > 1000) then .inl (221, a) else readS ps (a + p.length + 1) (out ++ List.replicate k (n : Int))

def readR (x : (Int × Nat) ⊕ List Int) : Fault × List Int := match x with
  | .inl (c, a) => (Fault.mk c (a : Int) [], [])
  | .inr l => (Fault.mk 0 0 [], l)

def readT (s : List UInt8) : Fault × List Int := bif s == [] then (Fault.mk 0 0 [], []) else readR (readS (pieces 32 s) 0 [])

theorem rep1 (n : Int) (k : Nat) (h : k ≤ 1000) : slices_Repeat_int_int [n] (k : Int) = some (List.replicate k n) := by
  rw [slices_Repeat_int_int, sealF_eq]
  unfold slices_Repeat_int_int_f
  simp only
  rw [decide_eq_true (by omega), cond_true, Int.toNat_natCast]

theorem step_code (p : List UInt8) (a : Nat) (out : List Int) (hp : p.length ≤ 10000000) (ha : a ≤ 100000000) (ho : out.length ≤ 1000) :
    read_step p (a : Int) out = some (match fieldP p with
      | none => .inr (220, (a : Int), [])
      | some (n, k) => bif out.getLast? == some (n : Int) then .inr (220, (a : Int), []) else bif decide (out.length + k > 1000) then .inr (221, (a : Int), []) else .inl (((a + p.length + 1 : Nat) : Int), out ++ List.replicate k (n : Int))) := by
  unfold read_step
  obtain ⟨f1, f2⟩ := field_code p hp
  cases hq : fieldP p with
  | none =>
    obtain ⟨r, hr⟩ := f2 hq
    rw [hr]
    rfl
  | some x =>
    obtain ⟨n, k⟩ := x
    obtain ⟨_, hn, h1, hk⟩ := fieldP_inv hq
    rw [f1 n k hq, Option.bind_some]
    simp only [Bool.not_true, cond_false]
    have rest : (bif decide (IntKind.wrap IntKind.i64 ((↑(List.length out) : Int) + (k : Int)) > (1000 : Int)) then
          some (.inr ((221 : Int), (a : Int), []))
        else
          Option.bind (slices_Repeat_int_int [(n : Int)] (k : Int)) fun y3 =>
          bif decide ((List.length out + List.length y3) * (8 : Nat) ≤ (140737488355328 : Nat) ∧ List.length out + List.length y3 ≤ (9223372036854775807 : Nat)) then
            some (.inl (IntKind.wrap IntKind.i64 ((a : Int) + IntKind.wrap IntKind.i64 ((↑(List.length p) : Int) + (1 : Int))), out ++ y3))
          else
            none : Option ((Int × List Int) ⊕ (Int × Int × List UInt8))) = some (bif decide (out.length + k > 1000) then .inr (221, (a : Int), []) else .inl (((a + p.length + 1 : Nat) : Int), out ++ List.replicate k (n : Int))) := by
      rw [i64_in ((out.length : Int) + (k : Int)) (by omega)]
      by_cases hc : out.length + k > 1000
      · rw [decide_eq_true hc, decide_eq_true (by omega)]; rfl
      · rw [decide_eq_false hc, decide_eq_false (by omega), cond_false, cond_false, rep1 _ k hk, Option.bind_some]
        have hb : decide ((List.length out + List.length (List.replicate k (n : Int))) * (8 : Nat) ≤ (140737488355328 : Nat) ∧ List.length out + List.length (List.replicate k (n : Int)) ≤ (9223372036854775807 : Nat)) = true :=
          decide_eq_true (by rw [List.length_replicate]; omega)
        rw [hb, cond_true, i64_in ((p.length : Int) + 1) (by omega), i64_in _ (by omega)]
        congr 3
    rcases List.eq_nil_or_concat out with rfl | ⟨L, x, rfl⟩
    · rw [decide_eq_false (show ¬ (([] : List Int).length : Int) > 0 by simp), cond_false]
      exact rest
    · rw [List.concat_eq_append] at *
      have hlen : (L ++ [x]).length = L.length + 1 := by simp
      have hl2 : (((L ++ [x]).length : Int) - 1).toNat = L.length := by omega
      rw [decide_eq_true (show ((L ++ [x]).length : Int) > 0 by omega), cond_true, i64_in (((L ++ [x]).length : Int) - 1) (by omega)]
      rw [decide_eq_true (show (0 : Int) ≤ ((L ++ [x]).length : Int) - 1 by omega), decide_eq_true (show ((L ++ [x]).length : Int) - 1 < ((L ++ [x]).length : Int) by omega), Bool.and_self, cond_true, hl2]
      rw [show (L ++ [x])[L.length]? = some x by simp, Option.bind_some]
      have hg : ((L ++ [x]).getLast? == some (n : Int)) = (x == (n : Int)) := by
        simp
      rw [hg]
      cases hx : x == (n : Int) with
      | true => rfl
      | false =>
        rw [cond_false, cond_false]
        exact rest

def tot : List (List UInt8) → Nat
  | [] => 0
  | p :: ps => p.length + 1 + tot ps

theorem tot_pieces (c : UInt8) : ∀ (n : Nat) (s : List UInt8), s.length ≤ n → tot (pieces c s) = s.length + 1 := by
  intro n
  induction n with
  | zero =>
    intro s h
    have : s = [] := List.eq_nil_of_length_eq_zero (by omega)
    subst this
    rfl
  | succ n ih =>
    intro s h
    rw [pieces_cut]
    cases hq : cutS c s with
    | none => simp [tot]
    | some p =>
      obtain ⟨a, b⟩ := p
      obtain ⟨rfl, _⟩ := cutS_some hq
      simp only [List.length_append, List.length_cons] at h
      simp only [tot, List.length_append, List.length_cons]
      rw [ih b (by omega)]
      omega

theorem steps_code : ∀ (ps : List (List UInt8)) (a : Nat) (out : List Int), a + tot ps ≤ 10000000 → out.length ≤ 1000 →
    (∀ c b, readS ps a out = .inl (c, b) → read_steps ps (a : Int) out = some (.inr (c, (b : Int), []))) ∧ (∀ l, readS ps a out = .inr l → ∃ t, read_steps ps (a : Int) out = some (.inl (t, l)))
  | [], a, out, _, _ => ⟨fun c b h => (by cases h), fun l h => (by cases h; exact ⟨_, rfl⟩)⟩
  | p :: ps, a, out, ht, ho => by
    unfold tot at ht
    have hs := step_code p a out (by omega) (by omega) ho
    unfold readS read_steps
    rw [hs]
    cases hq : fieldP p with
    | none => exact ⟨fun c b h => (by cases h; rfl), fun l h => (by cases h)⟩
    | some x =>
      obtain ⟨n, k⟩ := x
      simp only
      cases hg : out.getLast? == some (n : Int) with
      | true => exact ⟨fun c b h => (by cases h; rfl), fun l h => (by cases h)⟩
      | false =>
        rw [cond_false, cond_false]
        cases hc : decide (out.length + k > 1000) with
        | true => exact ⟨fun c b h => (by cases h; rfl), fun l h => (by cases h)⟩
        | false =>
          have hc' := of_decide_eq_false hc
          rw [cond_false, cond_false]
          exact steps_code ps (a + p.length + 1) (out ++ List.replicate k (n : Int)) (by omega) (by rw [List.length_append, List.length_replicate]; omega)

theorem clip22 (l : List Int) : slices_Clip_int_int l = some l := by
  rw [slices_Clip_int_int, sealF_eq]
  unfold slices_Clip_int_int_f
  rw [decide_eq_true rfl]
  rfl

theorem read1 (s : List UInt8) (hl : s.length ≤ 9000000) : sched_Read s = some (readT s) := by
  rw [sched_Read, sealF_eq]
  unfold sched_Read_f readT
  cases hz : s == [] with
  | true => rfl
  | false =>
    rw [cond_false, cond_false, decide_eq_true (by omega), cond_true]
    obtain ⟨h1, h2⟩ := steps_code (pieces 32 s) 0 [] (by rw [tot_pieces 32 _ s (Nat.le_refl _)]; omega) (by simp)
    rw [show ((0 : Nat) : Int) = 0 from rfl] at h1 h2
    cases hq : readS (pieces 32 s) 0 [] with
    | inl x =>
      obtain ⟨c, b⟩ := x
      rw [h1 c b hq]
      rfl
    | inr l =>
      obtain ⟨t, ht⟩ := h2 l hq
      rw [ht]
      simp only
      rw [clip22]
      rfl

/-! The document's Read. -/
theorem seg_step {t : List UInt8} {f i : Nat} (hf : f ≤ i) (hi : i < t.length) : (t.take (i + 1)).drop f = (t.take i).drop f ++ [t[i]] := by
  rw [List.take_add_one, List.getElem?_eq_getElem hi, List.drop_append, List.length_take]
  simp only [Option.toList_some]
  rw [show f - min i t.length = 0 by omega, List.drop_zero]

theorem drop_seg {t : List UInt8} {f i : Nat} (hf : f ≤ i) (hi : i < t.length) : t.drop f = (t.take i).drop f ++ t[i] :: t.drop (i + 1) := by
  have h1 : t = t.take i ++ t.drop i := (List.take_append_drop i t).symm
  have h2 : t.drop i = t[i] :: t.drop (i + 1) := List.drop_eq_getElem_cons hi
  conv => lhs; rw [h1, List.drop_append, List.length_take]
  rw [show f - min i t.length = 0 by omega, List.drop_zero, h2]

/-- Where the piece ends. -/
def endS (t : List UInt8) (a : Nat) : Nat := match cutS 32 (t.drop a) with
  | none => t.length
  | some (w, _) => a + w.length

theorem scanLoop (t : List UInt8) (hl : t.length ≤ 10000000) (a : Nat) (out : List Int) : ∀ (k n e : Nat), t.length - e ≤ k → k < n → a ≤ e → e ≤ t.length → (32 : UInt8) ∉ (t.take e).drop a →
    racetreeref22_Read_i5 n t (a : Int) (e : Int) 0 0 [] out = some (t, (a : Int), ((endS t a : Nat) : Int), 0, 0, [], out) := by
  intro k
  induction k with
  | zero =>
    intro n e hk hn ha he hf
    cases n with
    | zero => omega
    | succ n =>
      unfold racetreeref22_Read_i5 racetreeref22_Read_t5
      have : e = t.length := by omega
      subst this
      rw [List.take_length] at hf
      rw [decide_eq_false (by omega), cond_false]
      unfold endS
      rw [cutS_free 32 _ hf]
  | succ k ih =>
    intro n e hk hn ha he hf
    cases n with
    | zero => omega
    | succ n =>
      unfold racetreeref22_Read_i5 racetreeref22_Read_t5
      by_cases h : e < t.length
      · have hg : t[Int.toNat (e : Int)]? = some t[e] := by rw [Int.toNat_natCast]; exact List.getElem?_eq_getElem h
        rw [decide_eq_true (show (e : Int) < (t.length : Int) by omega), cond_true, decide_eq_true (show (0 : Int) ≤ (e : Int) by omega), cond_true, hg, Option.bind_some]
        by_cases hx : t[e] = 32
        · have hx' : (((t[e].toNat : Nat) : Int) != 32) = false := by rw [hx]; rfl
          have hcut : cutS 32 (t.drop a) = some ((t.take e).drop a, t.drop (e + 1)) := by
            rw [drop_seg ha h, hx]
            exact cutS_app 32 _ _ hf
          rw [hx', cond_false]
          unfold endS
          rw [hcut]
          simp only
          have : a + ((t.take e).drop a).length = e := by rw [List.length_drop, List.length_take]; omega
          rw [this]
        · have hx' : (((t[e].toNat : Nat) : Int) != 32) = true := by
            have : t[e].toNat ≠ 32 := fun e' => hx (by apply UInt8.toNat_inj.1; rw [e']; rfl)
            simp; omega
          rw [hx', cond_true, i64_in _ (by omega)]
          have := ih n (e + 1) (by omega) (by omega) (by omega) (by omega) (by
            rw [seg_step ha h]
            intro hm
            rcases List.mem_append.1 hm with hm | hm
            · exact hf hm
            · simp at hm; exact hx hm.symm)
          rw [show ((e + 1 : Nat) : Int) = (e : Int) + 1 by omega] at this
          exact this
      · have : e = t.length := by omega
        subst this
        rw [List.take_length] at hf
        rw [decide_eq_false (by omega), cond_false]
        unfold endS
        rw [cutS_free 32 _ hf]

theorem fillLoop (t : List UInt8) (e x : Int) (K : Nat) (hK : K ≤ 1000) : ∀ (k n i : Nat) (out : List Int), K - i ≤ k → k < n → i ≤ K → out.length + (K - i) ≤ 100000 →
    racetreeref22_Read_i13 n t e (i : Int) 0 0 [] x (K : Int) out = some (t, e, 0, 0, [], out ++ List.replicate (K - i) x) := by
  intro k
  induction k with
  | zero =>
    intro n i out hk hn hi ho
    cases n with
    | zero => omega
    | succ n =>
      unfold racetreeref22_Read_i13 racetreeref22_Read_t13
      rw [decide_eq_false (by omega), cond_false, show K - i = 0 by omega]
      simp
  | succ k ih =>
    intro n i out hk hn hi ho
    cases n with
    | zero => omega
    | succ n =>
      unfold racetreeref22_Read_i13 racetreeref22_Read_t13
      by_cases h : i < K
      · have hb : decide ((List.length out + List.length [x]) * (8 : Nat) ≤ (140737488355328 : Nat) ∧ List.length out + List.length [x] ≤ (9223372036854775807 : Nat)) = true :=
          decide_eq_true (by simp only [List.length_cons, List.length_nil]; omega)
        rw [decide_eq_true (show (i : Int) < (K : Int) by omega), cond_true, hb, cond_true, i64_in _ (by omega)]
        have := ih n (i + 1) (out ++ [x]) (by omega) (by omega) (by omega) (by simp only [List.length_append, List.length_cons, List.length_nil]; omega)
        rw [show ((i + 1 : Nat) : Int) = (i : Int) + 1 by omega] at this
        rw [this, show K - i = (K - (i + 1)) + 1 by omega, List.replicate_succ, List.append_assoc]
        rfl
      · rw [decide_eq_false (by omega), cond_false, show K - i = 0 by omega]
        simp

/-- The piece at a place, and what comes behind it. -/
theorem piece_at (t : List UInt8) (a : Nat) (ha : a ≤ t.length) : ∃ p ps, pieces 32 (t.drop a) = p :: ps ∧ endS t a = a + p.length ∧ a + p.length ≤ t.length ∧ List.drop a (List.take (a + p.length) t) = p ∧
    ((ps = [] ∧ a + p.length + 1 = t.length + 1) ∨ (ps = pieces 32 (t.drop (a + p.length + 1)) ∧ a + p.length + 1 ≤ t.length)) := by
  have hld : (t.drop a).length = t.length - a := List.length_drop
  unfold endS
  rw [pieces_cut]
  cases hq : cutS 32 (t.drop a) with
  | none =>
    refine ⟨t.drop a, [], rfl, by simp only; omega, by omega, ?_, .inl ⟨rfl, by omega⟩⟩
    rw [hld, show a + (t.length - a) = t.length by omega, List.take_length]
  | some x =>
    obtain ⟨w, v⟩ := x
    obtain ⟨h1, _⟩ := cutS_some hq
    have hl : w.length + 1 + v.length = t.length - a := by rw [← hld, h1]; simp; omega
    refine ⟨w, pieces 32 v, rfl, rfl, by omega, ?_, .inr ⟨?_, by omega⟩⟩
    · have : List.drop a (List.take (a + w.length) t) = List.take w.length (t.drop a) := by rw [List.drop_take]; congr 1; omega
      rw [this, h1]
      simp
    · congr 1
      have : t.drop (a + w.length + 1) = (t.drop a).drop (w.length + 1) := by rw [List.drop_drop]; congr 1
      rw [this, h1]
      simp

def sumR (x : (Int × Nat) ⊕ List Int) : (Int × Int × (List UInt8)) ⊕ (Int × Int × (List UInt8) × (List (Int))) := match x with
  | .inl (c, b) => .inl (c, (b : Int), [])
  | .inr l => .inr (0, 0, [], l)

theorem refReadLoop (t : List UInt8) (h0 : 0 < t.length) (hl : t.length ≤ 9000000) : ∀ (k n a : Nat) (out : List Int), t.length + 2 - a ≤ k → k < n → a ≤ t.length + 1 → out.length ≤ 1000 →
    racetreeref22_Read_i3 n t (a : Int) 0 0 [] out = some (sumR (bif decide (a ≤ t.length) then readS (pieces 32 (t.drop a)) a out else .inr out)) := by
  intro k
  induction k with
  | zero => intro n a out hk hn ha; omega
  | succ k ih =>
    intro n a out hk hn ha ho
    cases n with
    | zero => omega
    | succ n =>
      unfold racetreeref22_Read_i3 racetreeref22_Read_t3
      rw [decide_eq_true (show (t.length : Int) > 0 by omega), cond_true]
      by_cases h : a ≤ t.length
      · obtain ⟨p, ps, hp, he, hle, hseg, hrest⟩ := piece_at t a h
        have hsc := scanLoop t (by omega) a out t.length fuel a (by omega) (by unfold fuel; omega) (Nat.le_refl _) h (by rw [List.drop_eq_nil_of_le (by rw [List.length_take]; omega)]; simp)
        rw [he] at hsc
        have b3 : (decide ((0 : Int) ≤ (a : Int)) && (decide ((a : Int) ≤ ((a + p.length : Nat) : Int)) && decide (((a + p.length : Nat) : Int) ≤ (t.length : Int)))) = true := by
          simp only [Bool.and_eq_true, decide_eq_true_eq]; omega
        rw [decide_eq_true (show (a : Int) ≤ (t.length : Int) by omega), cond_true, racetreeref22_Read_l5, sealF_eq, hsc, Option.bind_some]
        simp only
        rw [b3, cond_true, Int.toNat_natCast, Int.toNat_natCast, hseg, decide_eq_true h, cond_true, hp]
        obtain ⟨f1, f2⟩ := field_ref p (by omega)
        unfold readS
        cases hq : fieldP p with
        | none =>
          obtain ⟨r, hr⟩ := f2 hq
          rw [hr]
          rfl
        | some x =>
          obtain ⟨m, K⟩ := x
          obtain ⟨_, hn', h1, hk1⟩ := fieldP_inv hq
          rw [f1 m K hq, Option.bind_some]
          simp only [Bool.not_true, cond_false]
          have rest : (bif decide ((K : Int) > IntKind.wrap IntKind.i64 ((1000 : Int) - (↑(List.length out) : Int))) then
                some (.inl (((221 : Int)), (a : Int), ([])))
              else
                Option.bind (racetreeref22_Read_l13 t ((a + p.length : Nat) : Int) (0 : Int) 0 0 [] (m : Int) (K : Int) out) fun y4 =>
                racetreeref22_Read_i3 n (Prod.fst y4) (IntKind.wrap IntKind.i64 (Prod.fst (Prod.snd y4) + (1 : Int))) (Prod.fst (Prod.snd (Prod.snd y4))) (Prod.fst (Prod.snd (Prod.snd (Prod.snd y4)))) (Prod.fst (Prod.snd (Prod.snd (Prod.snd (Prod.snd y4))))) (Prod.snd (Prod.snd (Prod.snd (Prod.snd (Prod.snd y4)))))) =
              some (sumR (bif decide (out.length + K > 1000) then .inl (221, a) else readS ps (a + p.length + 1) (out ++ List.replicate K (m : Int)))) := by
            rw [i64_in (1000 - (out.length : Int)) (by omega)]
            by_cases hc : out.length + K > 1000
            · rw [decide_eq_true hc, decide_eq_true (by omega)]; rfl
            · rw [decide_eq_false hc, decide_eq_false (by omega), cond_false, cond_false, racetreeref22_Read_l13, sealF_eq]
              have hfl := fillLoop t ((a + p.length : Nat) : Int) (m : Int) K hk1 K fuel 0 out (by omega) (by unfold fuel; omega) (by omega) (by omega)
              rw [show ((0 : Nat) : Int) = 0 from rfl, Nat.sub_zero] at hfl
              rw [hfl, Option.bind_some]
              simp only
              rw [i64_in _ (by omega)]
              have hi := ih n (a + p.length + 1) (out ++ List.replicate K (m : Int)) (by omega) (by omega) (by omega) (by rw [List.length_append, List.length_replicate]; omega)
              rw [show ((a + p.length + 1 : Nat) : Int) = ((a + p.length : Nat) : Int) + 1 by omega] at hi
              rw [hi]
              rcases hrest with ⟨rfl, e⟩ | ⟨rfl, e⟩
              · rw [decide_eq_false (by omega)]; rfl
              · rw [decide_eq_true e]; rfl
          rcases List.eq_nil_or_concat out with rfl | ⟨L, x, rfl⟩
          · rw [decide_eq_false (show ¬ (([] : List Int).length : Int) > 0 by simp), cond_false]
            exact rest
          · rw [List.concat_eq_append] at *
            have hlen : (L ++ [x]).length = L.length + 1 := by simp
            have hl2 : (((L ++ [x]).length : Int) - 1).toNat = L.length := by omega
            rw [decide_eq_true (show ((L ++ [x]).length : Int) > 0 by omega), cond_true, i64_in (((L ++ [x]).length : Int) - 1) (by omega)]
            rw [decide_eq_true (show (0 : Int) ≤ ((L ++ [x]).length : Int) - 1 by omega), decide_eq_true (show ((L ++ [x]).length : Int) - 1 < ((L ++ [x]).length : Int) by omega), Bool.and_self, cond_true, hl2]
            rw [show (L ++ [x])[L.length]? = some x by simp, Option.bind_some]
            have hg : ((L ++ [x]).getLast? == some (m : Int)) = (x == (m : Int)) := by simp
            rw [hg]
            cases hx : x == (m : Int) with
            | true => rfl
            | false =>
              rw [cond_false, cond_false]
              exact rest
      · rw [decide_eq_false (show ¬ (a : Int) ≤ (t.length : Int) by omega), cond_false, decide_eq_false h]
        rfl

theorem refRead1 (s : List UInt8) (hl : s.length ≤ 9000000) : racetreeref22_Read s = some (readT s) := by
  rw [racetreeref22_Read, sealF_eq]
  unfold racetreeref22_Read_f readT
  cases s with
  | nil =>
    have : racetreeref22_Read_l3 [] 0 0 0 [] [] = some (.inr (0, 0, [], [])) := by
      rw [racetreeref22_Read_l3, sealF_eq]
      rfl
    rw [this]
    rfl
  | cons c r =>
    have hL := refReadLoop (c :: r) (by simp) hl ((c :: r).length + 2) fuel 0 [] (by omega) (by unfold fuel; omega) (by omega) (by simp)
    rw [show ((0 : Nat) : Int) = 0 from rfl, List.drop_zero, decide_eq_true (Nat.zero_le _), cond_true] at hL
    rw [racetreeref22_Read_l3, sealF_eq, hL, Option.bind_some]
    have : ((c :: r) == ([] : List UInt8)) = false := rfl
    rw [this, cond_false]
    cases readS (pieces 32 (c :: r)) 0 [] with
    | inl x => rfl
    | inr l => rfl
end Lift.A1P

/- Layer 22: Print. -/
namespace Lift.A1P
open Go Go.RowKit Lift Go.IntWalk Lift.Fn

def okRun (r : Run) : Prop := 0 ≤ r.n ∧ r.n ≤ 2147483647 ∧ 1 ≤ r.times ∧ r.times ≤ 1000
def fieldR (r : Run) : List UInt8 := fieldS r.n.toNat r.times.toNat
def printS (rs : List Run) : List UInt8 := Lib.join (rs.map fieldR) [32]

theorem addRun_mem {P : Run → Prop} {rs : List Run} {n : Int} (h : ∀ r ∈ rs, P r) (h1 : P ⟨n, 1⟩) (h2 : ∀ r, P r → r.n = n → P ⟨r.n, r.times + 1⟩) : ∀ r ∈ addRun rs n, P r := by
  rcases List.eq_nil_or_concat rs with rfl | ⟨L, r, rfl⟩
  · intro x hx
    simp only [addRun, List.mem_singleton] at hx
    subst hx; exact h1
  · rw [List.concat_eq_append] at h ⊢
    rw [addRun_snoc]
    cases hq : r.n == n with
    | true =>
      rw [cond_true]
      intro x hx
      rcases List.mem_append.1 hx with hx | hx
      · exact h x (by simp [hx])
      · simp only [List.mem_singleton] at hx
        subst hx
        exact h2 r (h r (by simp)) (by simpa using hq)
    | false =>
      rw [cond_false]
      intro x hx
      rcases List.mem_append.1 hx with hx | hx
      · exact h x (by simp [hx])
      · simp only [List.mem_cons, List.not_mem_nil, or_false] at hx
        rcases hx with rfl | rfl
        · exact h _ (by simp)
        · exact h1

theorem runs_ok (l : List Int) (hl : l.length ≤ 1000) (ha : l.all okNum = true) : ∀ r ∈ runsS l, okRun r := by
  have key : ∀ (l : List Int) (rs : List Run), l.all okNum = true → (∀ r ∈ rs, 0 ≤ r.n ∧ r.n ≤ 2147483647 ∧ 1 ≤ r.times) → ∀ r ∈ l.foldl addRun rs, 0 ≤ r.n ∧ r.n ≤ 2147483647 ∧ 1 ≤ r.times := by
    intro l
    induction l with
    | nil => intro rs _ h; exact h
    | cons n l ih =>
      intro rs ha h
      rw [List.all_cons, Bool.and_eq_true] at ha
      have hn : 0 ≤ n ∧ n ≤ 2147483647 := by have := ha.1; simpa [okNum] using this
      exact ih _ ha.2 (addRun_mem (P := fun r => 0 ≤ r.n ∧ r.n ≤ 2147483647 ∧ 1 ≤ r.times) h ⟨hn.1, hn.2, Int.le_refl _⟩ (fun r hr _ => ⟨hr.1, hr.2.1, by simp only; omega⟩))
  intro r hr
  obtain ⟨h1, h2, h3⟩ := key l [] ha (fun r h => by cases h) r hr
  have := (runs_small l hl).2 r hr
  exact ⟨h1, h2, h3, by omega⟩

theorem dec_len10 {n : Nat} (h : n ≤ 2147483647) : (Lib.decDigits n).length ≤ 10 := by
  have h10 : (10 : Nat) ^ 10 = 10000000000 := by decide
  exact dec_len 10 n (by decide) (by omega)

theorem field_len {r : Run} (h : okRun r) : (fieldR r).length ≤ 21 := by
  obtain ⟨h1, h2, h3, h4⟩ := h
  have a := dec_len10 (n := r.n.toNat) (by omega)
  have b := dec_len10 (n := r.times.toNat) (by omega)
  unfold fieldR fieldS
  cases decide (2 ≤ r.times.toNat) with
  | true => simp only [cond_true, List.length_append, List.length_cons]; omega
  | false => simp only [cond_false, List.length_append, List.length_nil]; omega

theorem joinTail_len (sep : List UInt8) (B : Nat) : ∀ l : List (List UInt8), (∀ w ∈ l, w.length ≤ B) → (Lib.joinTail sep l).length ≤ l.length * (B + sep.length)
  | [], _ => by simp [Lib.joinTail]
  | w :: l, h => by
    have ih := joinTail_len sep B l (fun x hx => h x (by simp [hx]))
    have e : Lib.joinTail sep (w :: l) = (sep ++ w) ++ Lib.joinTail sep l := by simp [Lib.joinTail]
    have hw := h w (by simp)
    rw [e, List.length_append, List.length_append, List.length_cons, Nat.add_mul]
    omega

theorem join_len (sep : List UInt8) (B : Nat) (l : List (List UInt8)) (h : ∀ w ∈ l, w.length ≤ B) : (Lib.join l sep).length ≤ l.length * (B + sep.length) + B := by
  cases l with
  | nil => simp [Lib.join_nil]
  | cons w l =>
    rw [Lib.join_cons, List.length_append]
    have := joinTail_len sep B l (fun x hx => h x (by simp [hx]))
    have hw := h w (by simp)
    rw [List.length_cons, Nat.add_mul]
    omega

theorem itoa22 {n : Int} (h0 : 0 ≤ n) (h1 : n ≤ 2147483647) : strconv_ItoaW n = some (Lib.decDigits n.toNat) := by
  rw [strconv_ItoaW, sealF_eq]
  unfold strconv_ItoaW_f
  rw [decide_eq_true (by omega), cond_true]
  obtain ⟨m, rfl⟩ := Int.eq_ofNat_of_zero_le h0
  rw [Lib.itoa_nonneg]
  simp

theorem printLoop22 (rs : List Run) (hl : rs.length ≤ 1000) (hr : ∀ r ∈ rs, okRun r) : ∀ (k n i : Nat) (out : List (List UInt8)), rs.length - i ≤ k → k < n → i ≤ rs.length → out.length ≤ i →
    sched_Print_i6 n (rs.length : Int) (i : Int) rs out = some (out ++ (rs.drop i).map fieldR) := by
  intro k
  induction k with
  | zero =>
    intro n i out hk hn hi ho
    cases n with
    | zero => omega
    | succ n =>
      unfold sched_Print_i6 sched_Print_t6
      rw [decide_eq_false (by omega), cond_false, List.drop_eq_nil_of_le (by omega)]
      simp
  | succ k ih =>
    intro n i out hk hn hi ho
    cases n with
    | zero => omega
    | succ n =>
      unfold sched_Print_i6 sched_Print_t6
      by_cases h : i < rs.length
      · have hg : rs[Int.toNat (i : Int)]? = some rs[i] := by rw [Int.toNat_natCast]; exact List.getElem?_eq_getElem h
        obtain ⟨h1, h2, h3, h4⟩ := hr rs[i] (List.getElem_mem h)
        have a := dec_len10 (n := rs[i].n.toNat) (by omega)
        have b := dec_len10 (n := rs[i].times.toNat) (by omega)
        rw [decide_eq_true (show (i : Int) < (rs.length : Int) by omega), cond_true, decide_eq_true (show (0 : Int) ≤ (i : Int) by omega), Bool.true_and, cond_true, hg, Option.bind_some, itoa22 h1 h2, Option.bind_some]
        rw [List.drop_eq_getElem_cons h, List.map_cons]
        have next := ih n (i + 1) (out ++ [fieldR rs[i]]) (by omega) (by omega) (by omega) (by simp only [List.length_append, List.length_cons, List.length_nil]; omega)
        rw [show ((i + 1 : Nat) : Int) = (i : Int) + 1 by omega, List.append_assoc] at next
        have hb : ∀ w : List UInt8, decide ((List.length out + List.length [w]) * (16 : Nat) ≤ (140737488355328 : Nat) ∧ List.length out + List.length [w] ≤ (9223372036854775807 : Nat)) = true := fun w =>
          decide_eq_true (by simp only [List.length_cons, List.length_nil]; omega)
        by_cases ht : rs[i].times > 1
        · have ef : fieldR rs[i] = Lib.decDigits rs[i].n.toNat ++ ([42] ++ Lib.decDigits rs[i].times.toNat) := by
            unfold fieldR fieldS
            rw [decide_eq_true (by omega), cond_true]
            rfl
          rw [decide_eq_true ht, cond_true, itoa22 (by omega) (by omega), Option.bind_some, decide_eq_true (show (1 : Nat) + (Lib.decDigits rs[i].times.toNat).length ≤ 9223372036854775807 by omega), cond_true]
          rw [decide_eq_true (show (Lib.decDigits rs[i].n.toNat).length + ([(42 : UInt8)] ++ Lib.decDigits rs[i].times.toNat).length ≤ 9223372036854775807 by simp only [List.length_append, List.length_cons, List.length_nil]; omega), cond_true, hb, cond_true, i64_in _ (by omega), ← ef]
          exact next
        · have ef : fieldR rs[i] = Lib.decDigits rs[i].n.toNat := by
            unfold fieldR fieldS
            rw [decide_eq_false (by omega), cond_false, List.append_nil]
          rw [decide_eq_false ht, cond_false, hb, cond_true, i64_in _ (by omega), ← ef]
          exact next
      · rw [decide_eq_false (by omega), cond_false, List.drop_eq_nil_of_le (by omega)]
        simp

/-- What Print answers. -/
def printR (l : List Int) : List UInt8 × Int := bif (runsR l).1 == 0 then (printS (runsR l).2, 0) else ([], (runsR l).1)

theorem runsR_ok {l : List Int} (h : (runsR l).1 = 0) : l.length ≤ 1000 ∧ l.all okNum = true ∧ (runsR l).2 = runsS l := by
  unfold runsR at h ⊢
  cases hc : decide ((l.length : Int) > 1000) with
  | true => rw [hc] at h; cases h
  | false =>
    rw [hc] at h
    have := of_decide_eq_false hc
    cases ha : l.all okNum with
    | false => rw [ha] at h; cases h
    | true => exact ⟨by omega, rfl, rfl⟩

theorem print22 (l : List Int) : sched_Print l = some (printR l) := by
  rw [sched_Print, sealF_eq]
  unfold sched_Print_f printR
  rw [runs1, Option.bind_some]
  cases hq : (runsR l).1 == 0 with
  | false =>
    have : ((runsR l).1 != 0) = true := by simp [bne, hq]
    rw [this]; rfl
  | true =>
    have hz : (runsR l).1 = 0 := by simpa using hq
    obtain ⟨hl, ha, e⟩ := runsR_ok hz
    have : ((runsR l).1 != 0) = false := by simp [bne, hq]
    have hs := runs_small l hl
    have hok := runs_ok l hl ha
    rw [this, cond_false, e]
    have hL := printLoop22 (runsS l) hs.1 hok (runsS l).length fuel 0 [] (by omega) (by unfold fuel; have := hs.1; omega) (by omega) (by simp)
    rw [show ((0 : Nat) : Int) = 0 from rfl, List.drop_zero, List.nil_append] at hL
    rw [sched_Print_l6, sealF_eq, hL, Option.bind_some]
    have hj := join_len [32] 21 ((runsS l).map fieldR) (fun w hw => by
      obtain ⟨r, hr, rfl⟩ := List.mem_map.1 hw
      exact field_len (hok r hr))
    have hjl : ((runsS l).map fieldR).length ≤ 1000 := by rw [List.length_map]; exact hs.1
    have : strings_Join ((runsS l).map fieldR) [32] = some (printS (runsS l)) := by
      rw [strings_Join, sealF_eq]
      unfold strings_Join_f
      rw [decide_eq_true ⟨by omega, by simp only [List.length_cons, List.length_nil] at hj; omega⟩]
      rfl
    rw [this]
    rfl

/-! The document's Print. -/
theorem dig64 (d : Nat) (h : d < 10) : bytesOf [IntKind.wrap IntKind.u8 (IntKind.wrap IntKind.u64 (48 + (d : Int)))] = [UInt8.ofNat (48 + d)] := by
  rw [u64_in _ (by omega), u8_in _ (by omega)]
  unfold bytesOf
  rw [List.map_cons, List.map_nil]
  congr 2

theorem digLoop (a0 : Int) : ∀ (u n : Nat) (s : List UInt8), u < n → u ≤ 4294967296 → s.length + u ≤ 10000000000 → ∃ (u0 : Nat) (s' : List UInt8), u0 < 10 ∧ racetreeref05_Digits_i5 n a0 (u : Int) s = some (a0, (u0 : Int), s') ∧ UInt8.ofNat (48 + u0) :: s' = Lib.decDigits u ++ s ∧ s'.length ≤ s.length + u := by
  intro u
  induction u using Nat.strongRecOn with
  | _ u ih =>
    intro n s hn hu hs
    cases n with
    | zero => omega
    | succ n =>
      unfold racetreeref05_Digits_i5 racetreeref05_Digits_t5
      by_cases h : u < 10
      · rw [decide_eq_false (by omega), cond_false]
        refine ⟨u, s, h, rfl, ?_, by omega⟩
        rw [Lib.decDigits_one h]
        rfl
      · have hm : Int.tmod (u : Int) 10 = ((u % 10 : Nat) : Int) := by rw [Int.tmod_eq_emod_of_nonneg (by omega)]; omega
        have hd : Int.tdiv (u : Int) 10 = ((u / 10 : Nat) : Int) := by rw [Int.tdiv_eq_ediv_of_nonneg (by omega)]; omega
        rw [decide_eq_true (by omega), cond_true, hm, dig64 _ (by omega), hd, u64_in _ (by omega)]
        rw [decide_eq_true (show [UInt8.ofNat (48 + u % 10)].length + s.length ≤ 9223372036854775807 by simp only [List.length_cons, List.length_nil]; omega), cond_true]
        have hl : ([UInt8.ofNat (48 + u % 10)] ++ s).length = s.length + 1 := by simp
        obtain ⟨u0, s', h1, h2, h3, h4⟩ := ih (u / 10) (by omega) n ([UInt8.ofNat (48 + u % 10)] ++ s) (by omega) (by omega) (by omega)
        refine ⟨u0, s', h1, h2, ?_, by omega⟩
        rw [h3, dec_big (u := u) (by omega), List.append_assoc]

theorem digits1 {n : Int} (h0 : 0 ≤ n) (h1 : n ≤ 2147483647) : racetreeref05_Digits n = some (Lib.decDigits n.toNat) := by
  rw [racetreeref05_Digits, sealF_eq]
  unfold racetreeref05_Digits_f
  obtain ⟨u0, s', h2, h3, h4, h5⟩ := digLoop n n.toNat fuel [] (by unfold fuel; omega) (by omega) (by simp only [List.length_nil]; omega)
  rw [Int.toNat_of_nonneg h0] at h3
  simp only [List.length_nil] at h5
  rw [decide_eq_false (by omega), cond_false, u64_in _ (by omega), racetreeref05_Digits_l5, sealF_eq, h3, Option.bind_some]
  simp only
  rw [dig64 u0 h2, decide_eq_true (show [UInt8.ofNat (48 + u0)].length + s'.length ≤ 9223372036854775807 by simp only [List.length_cons, List.length_nil]; omega), cond_true, decide_eq_false (by omega), cond_false]
  rw [List.append_nil] at h4
  rw [← h4]
  rfl

theorem bytes_ofStr (s : List UInt8) : bytesOf (ofStr s) = s := by
  unfold bytesOf ofStr
  rw [List.map_map]
  have : (fun n : Int => UInt8.ofNat n.toNat) ∘ (fun b : UInt8 => ((b.toNat : Nat) : Int)) = id := by
    funext b
    simp
  rw [this, List.map_id]
theorem ofStr_len (s : List UInt8) : (ofStr s).length = s.length := by simp [ofStr]
theorem ofStr_append (a b : List UInt8) : ofStr (a ++ b) = ofStr a ++ ofStr b := by unfold ofStr; rw [List.map_append]

def tailI (rs : List Run) : List Int := ofStr (Lib.joinTail [32] (rs.map fieldR))

theorem tailI_cons (r : Run) (rs : List Run) : tailI (r :: rs) = 32 :: (ofStr (fieldR r) ++ tailI rs) := by
  unfold tailI
  have e : Lib.joinTail [32] ((r :: rs).map fieldR) = ([32] ++ fieldR r) ++ Lib.joinTail [32] (rs.map fieldR) := by simp [Lib.joinTail]
  rw [e, ofStr_append, ofStr_append]
  rfl

theorem field_parts {r : Run} (h : okRun r) : (r.times > 1 → ofStr (fieldR r) = ofStr (Lib.decDigits r.n.toNat) ++ [42] ++ ofStr (Lib.decDigits r.times.toNat)) ∧ (¬ r.times > 1 → ofStr (fieldR r) = ofStr (Lib.decDigits r.n.toNat)) := by
  obtain ⟨h1, h2, h3, h4⟩ := h
  unfold fieldR fieldS
  refine ⟨fun ht => ?_, fun ht => ?_⟩
  · rw [decide_eq_true (by omega), cond_true, show (42 : UInt8) :: Lib.decDigits r.times.toNat = [42] ++ Lib.decDigits r.times.toNat from rfl, ofStr_append, ofStr_append, List.append_assoc]
    rfl
  · rw [decide_eq_false (by omega), cond_false, List.append_nil]

theorem refPrintTurn (rs : List Run) (hl : rs.length ≤ 1000) (hr : ∀ r ∈ rs, okRun r) (n i : Nat) (h : i < rs.length) (acc : List Int) (ha : acc.length ≤ i * 22) :
    racetreeref22_Print_i7 (n + 1) (i : Int) rs acc = racetreeref22_Print_i7 n ((i : Int) + 1) rs (bif decide (i > 0) then acc ++ 32 :: ofStr (fieldR rs[i]) else acc ++ ofStr (fieldR rs[i])) := by
  have hg : rs[Int.toNat (i : Int)]? = some rs[i] := by rw [Int.toNat_natCast]; exact List.getElem?_eq_getElem h
  have hok := hr rs[i] (List.getElem_mem h)
  obtain ⟨fp1, fp2⟩ := field_parts hok
  obtain ⟨h1, h2, h3, h4⟩ := hok
  have a := dec_len10 (n := rs[i].n.toNat) (by omega)
  have b := dec_len10 (n := rs[i].times.toNat) (by omega)
  have oa := ofStr_len (Lib.decDigits rs[i].n.toNat)
  have ob := ofStr_len (Lib.decDigits rs[i].times.toNat)
  have d1 := digits1 h1 h2
  have d2 : racetreeref05_Digits rs[i].times = some (Lib.decDigits rs[i].times.toNat) := digits1 (by omega) (by omega)
  show racetreeref22_Print_t7 (racetreeref22_Print_i7 n) (i : Int) rs acc = _
  unfold racetreeref22_Print_t7
  rw [decide_eq_true (show (i : Int) < (rs.length : Int) by omega), cond_true]
  by_cases hi : i > 0
  · rw [decide_eq_true hi, cond_true, decide_eq_true (show (i : Int) > 0 by omega), cond_true]
    rw [decide_eq_true (show (acc.length + 1) * 1 ≤ 140737488355328 ∧ acc.length + 1 ≤ 9223372036854775807 by omega), cond_true, decide_eq_true (show (0 : Int) ≤ (i : Int) by omega), Bool.true_and, cond_true, hg, Option.bind_some, d1, Option.bind_some]
    have hl1 : (acc ++ [(32 : Int)]).length = acc.length + 1 := by simp
    rw [decide_eq_true (show (acc ++ [(32 : Int)]).length + (Lib.decDigits rs[i].n.toNat).length ≤ 140737488355328 ∧ (acc ++ [(32 : Int)]).length + (Lib.decDigits rs[i].n.toNat).length ≤ 9223372036854775807 by omega), cond_true, cond_true, Option.bind_some]
    by_cases ht : rs[i].times > 1
    · have hl2 : (acc ++ [(32 : Int)] ++ ofStr (Lib.decDigits rs[i].n.toNat)).length = acc.length + 1 + (Lib.decDigits rs[i].n.toNat).length := by rw [List.length_append, hl1, oa]
      have hl3 : (acc ++ [(32 : Int)] ++ ofStr (Lib.decDigits rs[i].n.toNat) ++ [(42 : Int)]).length = acc.length + 2 + (Lib.decDigits rs[i].n.toNat).length := by rw [List.length_append, hl2]; simp only [List.length_cons, List.length_nil]; omega
      rw [decide_eq_true ht, cond_true, cond_true, Option.bind_some, d2, Option.bind_some]
      rw [decide_eq_true (show ((acc ++ [(32 : Int)] ++ ofStr (Lib.decDigits rs[i].n.toNat)).length + 1) * 1 ≤ 140737488355328 ∧ (acc ++ [(32 : Int)] ++ ofStr (Lib.decDigits rs[i].n.toNat)).length + 1 ≤ 9223372036854775807 by omega), cond_true]
      rw [decide_eq_true (show (acc ++ [(32 : Int)] ++ ofStr (Lib.decDigits rs[i].n.toNat) ++ [(42 : Int)]).length + (Lib.decDigits rs[i].times.toNat).length ≤ 140737488355328 ∧ (acc ++ [(32 : Int)] ++ ofStr (Lib.decDigits rs[i].n.toNat) ++ [(42 : Int)]).length + (Lib.decDigits rs[i].times.toNat).length ≤ 9223372036854775807 by omega), cond_true, i64_in _ (by omega)]
      congr 1
      rw [fp1 ht]
      simp
    · rw [decide_eq_false ht, cond_false, i64_in _ (by omega)]
      congr 1
      rw [fp2 ht]
      simp
  · rw [decide_eq_false hi, cond_false, decide_eq_false (show ¬ (i : Int) > 0 by omega), cond_false]
    rw [decide_eq_true (show (0 : Int) ≤ (i : Int) by omega), Bool.true_and, cond_true, hg, Option.bind_some, d1, Option.bind_some]
    rw [decide_eq_true (show acc.length + (Lib.decDigits rs[i].n.toNat).length ≤ 140737488355328 ∧ acc.length + (Lib.decDigits rs[i].n.toNat).length ≤ 9223372036854775807 by omega), cond_true, cond_true, Option.bind_some]
    by_cases ht : rs[i].times > 1
    · have hl2 : (acc ++ ofStr (Lib.decDigits rs[i].n.toNat)).length = acc.length + (Lib.decDigits rs[i].n.toNat).length := by rw [List.length_append, oa]
      have hl3 : (acc ++ ofStr (Lib.decDigits rs[i].n.toNat) ++ [(42 : Int)]).length = acc.length + 1 + (Lib.decDigits rs[i].n.toNat).length := by rw [List.length_append, hl2]; simp only [List.length_cons, List.length_nil]; omega
      rw [decide_eq_true ht, cond_true, cond_true, Option.bind_some, d2, Option.bind_some]
      rw [decide_eq_true (show ((acc ++ ofStr (Lib.decDigits rs[i].n.toNat)).length + 1) * 1 ≤ 140737488355328 ∧ (acc ++ ofStr (Lib.decDigits rs[i].n.toNat)).length + 1 ≤ 9223372036854775807 by omega), cond_true]
      rw [decide_eq_true (show (acc ++ ofStr (Lib.decDigits rs[i].n.toNat) ++ [(42 : Int)]).length + (Lib.decDigits rs[i].times.toNat).length ≤ 140737488355328 ∧ (acc ++ ofStr (Lib.decDigits rs[i].n.toNat) ++ [(42 : Int)]).length + (Lib.decDigits rs[i].times.toNat).length ≤ 9223372036854775807 by omega), cond_true, i64_in _ (by omega)]
      congr 1
      rw [fp1 ht]
      simp
    · rw [decide_eq_false ht, cond_false, i64_in _ (by omega)]
      congr 1
      rw [fp2 ht]

theorem refPrintLoop (rs : List Run) (hl : rs.length ≤ 1000) (hr : ∀ r ∈ rs, okRun r) : ∀ (k n i : Nat) (acc : List Int), rs.length - i ≤ k → k < n → i ≤ rs.length → 0 < i → acc.length ≤ i * 22 →
    racetreeref22_Print_i7 n (i : Int) rs acc = some (acc ++ tailI (rs.drop i)) := by
  intro k
  induction k with
  | zero =>
    intro n i acc hk hn hi h0 ha
    cases n with
    | zero => omega
    | succ n =>
      unfold racetreeref22_Print_i7 racetreeref22_Print_t7
      rw [decide_eq_false (by omega), cond_false, List.drop_eq_nil_of_le (by omega)]
      have : tailI [] = [] := rfl
      rw [this, List.append_nil]
  | succ k ih =>
    intro n i acc hk hn hi h0 ha
    cases n with
    | zero => omega
    | succ n =>
      by_cases h : i < rs.length
      · rw [refPrintTurn rs hl hr n i h acc ha, decide_eq_true h0, cond_true]
        have hf := field_len (hr rs[i] (List.getElem_mem h))
        have of := ofStr_len (fieldR rs[i])
        have := ih n (i + 1) (acc ++ 32 :: ofStr (fieldR rs[i])) (by omega) (by omega) (by omega) (by omega) (by simp only [List.length_append, List.length_cons]; omega)
        rw [show ((i + 1 : Nat) : Int) = (i : Int) + 1 by omega] at this
        rw [this, List.drop_eq_getElem_cons h, tailI_cons]
        simp
      · unfold racetreeref22_Print_i7 racetreeref22_Print_t7
        rw [decide_eq_false (by omega), cond_false, List.drop_eq_nil_of_le (by omega)]
        have : tailI [] = [] := rfl
        rw [this, List.append_nil]

theorem refPrint22 (l : List Int) : racetreeref22_Print l = some (printR l) := by
  rw [racetreeref22_Print, sealF_eq]
  unfold racetreeref22_Print_f printR
  rw [may1, Option.bind_some]
  cases hq : (runsR l).1 == 0 with
  | false =>
    have : ((runsR l).1 != 0) = true := by simp [bne, hq]
    rw [this]; rfl
  | true =>
    have hz : (runsR l).1 = 0 := by simpa using hq
    obtain ⟨hl, ha, e⟩ := runsR_ok hz
    have : ((runsR l).1 != 0) = false := by simp [bne, hq]
    have hs := runs_small l hl
    have hok := runs_ok l hl ha
    rw [this, cond_false, e, refRuns1 l hl, Option.bind_some]
    have key : ∃ y, racetreeref22_Print_l7 0 (runsS l) [] = some y ∧ bytesOf y = printS (runsS l) := by
      rw [racetreeref22_Print_l7, sealF_eq]
      unfold printS
      cases hrs : runsS l with
      | nil => exact ⟨[], rfl, rfl⟩
      | cons r rs =>
        rw [hrs] at hok hs
        have hf := field_len (hok r (by simp))
        have hof := ofStr_len (fieldR r)
        have t := refPrintTurn (r :: rs) hs.1 hok (fuel - 1) 0 (by simp) [] (by simp)
        have hL := refPrintLoop (r :: rs) hs.1 hok (r :: rs).length (fuel - 1) 1 (ofStr (fieldR r)) (by omega) (by unfold fuel; have := hs.1; omega) (by simp) (by omega) (by omega)
        rw [show fuel - 1 + 1 = fuel by unfold fuel; omega] at t
        rw [show ((0 : Nat) : Int) = 0 from rfl] at t
        rw [show ((1 : Nat) : Int) = (0 : Int) + 1 from rfl] at hL
        refine ⟨ofStr (fieldR r) ++ tailI rs, ?_, ?_⟩
        · rw [t]
          exact hL
        · rw [List.map_cons, Lib.join_cons]
          unfold tailI
          rw [← ofStr_append, bytes_ofStr]
    obtain ⟨y, hy, hb⟩ := key
    rw [hy, Option.bind_some, hb]
    rfl
end Lift.A1P

/- Layer 22: numbers, seven bits a byte. -/
namespace Lift.A1P
open Go Go.RowKit Lift Go.IntWalk Lift.Fn

def putF : Nat → Nat → List Int
  | 0, n => [(n : Int)]
  | f + 1, n => bif decide (n < 128) then [(n : Int)] else ((128 + n % 128 : Nat) : Int) :: putF f (n / 128)
def putS (n : Nat) : List Int := putF 5 n

theorem or_low : ∀ r : Fin 256, r.val ||| 128 = 128 + r.val % 128 := by decide +kernel

theorem or128 {n : Nat} (h : n ≤ 2147483647) : IntKind.wrap IntKind.u8 (IntKind.wrap IntKind.i64 (↑(BitVec.toNat (BitVec.ofInt (64 : Nat) (n : Int) ||| BitVec.ofInt (64 : Nat) (128 : Int))) : Int)) = ((128 + n % 128 : Nat) : Int) := by
  have e : BitVec.toNat (BitVec.ofInt 64 (n : Int) ||| BitVec.ofInt 64 (128 : Int)) = n ||| 128 := by
    rw [show (128 : Int) = ((128 : Nat) : Int) from rfl, BitVec.ofInt_natCast, BitVec.ofInt_natCast, BitVec.toNat_or, BitVec.toNat_ofNat, BitVec.toNat_ofNat, Nat.mod_eq_of_lt (by omega), Nat.mod_eq_of_lt (by decide)]
  have hlt : n ||| 128 < 2 ^ 32 := Nat.or_lt_two_pow (by omega) (by decide)
  have hm : (n ||| 128) % 256 = 128 + n % 128 := by
    have h1 : (n ||| 128) % 2 ^ 8 = (n % 2 ^ 8) ||| (128 % 2 ^ 8) := Nat.or_mod_two_pow
    have h2 := or_low ⟨n % 256, by omega⟩
    simp only at h2
    rw [show (2 : Nat) ^ 8 = 256 from rfl, show 128 % 256 = 128 from rfl, h2] at h1
    omega
  rw [e, i64_in _ (by omega), IntKind.wrap_u8]
  omega

theorem putF_len : ∀ (f n : Nat), (putF f n).length ≤ f + 1
  | 0, n => by simp [putF]
  | f + 1, n => by
    unfold putF
    cases decide (n < 128) with
    | true => simp
    | false => have := putF_len f (n / 128); simp only [cond_false, List.length_cons]; omega

theorem putLoop : ∀ (f g n : Nat) (acc : List Int), n < 128 ^ (f + 1) → f < g → n ≤ 2147483647 → acc.length + f ≤ 1000000 →
    ∃ (m : Nat) (acc' : List Int), sched_put_i1 g (n : Int) acc = some ((m : Int), acc') ∧ m < 128 ∧ acc' ++ [(m : Int)] = acc ++ putF f n := by
  intro f
  induction f with
  | zero =>
    intro g n acc hn hg hm ha
    cases g with
    | zero => omega
    | succ g =>
      unfold sched_put_i1 sched_put_t1
      rw [decide_eq_false (by omega), cond_false]
      exact ⟨n, acc, rfl, by omega, rfl⟩
  | succ f ih =>
    intro g n acc hn hg hm ha
    cases g with
    | zero => omega
    | succ g =>
      unfold sched_put_i1 sched_put_t1 putF
      by_cases h : n < 128
      · rw [decide_eq_false (by omega), cond_false, decide_eq_true h]
        exact ⟨n, acc, rfl, h, rfl⟩
      · have hs : Int.fdiv (n : Int) ((2 : Int) ^ (7 : Nat)) = ((n / 128 : Nat) : Int) := by
          rw [Int.fdiv_eq_ediv_of_nonneg _ (by decide), show (2 : Int) ^ (7 : Nat) = 128 from rfl]
          omega
        have hb : ∀ x : Int, decide ((List.length acc + List.length [x]) * (1 : Nat) ≤ (140737488355328 : Nat) ∧ List.length acc + List.length [x] ≤ (9223372036854775807 : Nat)) = true := fun x =>
          decide_eq_true (by simp only [List.length_cons, List.length_nil]; omega)
        rw [decide_eq_true (by omega), cond_true, hb, cond_true, or128 hm, hs, decide_eq_false h, cond_false]
        obtain ⟨m, acc', h1, h2, h3⟩ := ih g (n / 128) (acc ++ [((128 + n % 128 : Nat) : Int)]) (by rw [Nat.pow_succ] at hn; omega) (by omega) (by omega) (by simp only [List.length_append, List.length_cons, List.length_nil]; omega)
        exact ⟨m, acc', h1, h2, by rw [h3, List.append_assoc]; rfl⟩

theorem put1 {n : Int} (h0 : 0 ≤ n) (h1 : n ≤ 2147483647) (acc : List Int) (ha : acc.length ≤ 100000) : sched_put n acc = some (acc ++ putS n.toNat) := by
  rw [sched_put, sealF_eq]
  unfold sched_put_f
  obtain ⟨m, acc', e1, e2, e3⟩ := putLoop 5 fuel n.toNat acc (by have : (128 : Nat) ^ (5 + 1) = 4398046511104 := by decide
                                                                 omega) (by unfold fuel; omega) (by omega) (by omega)
  rw [Int.toNat_of_nonneg h0] at e1
  have hl := congrArg List.length e3
  have hp := putF_len 5 n.toNat
  simp only [List.length_append, List.length_cons, List.length_nil] at hl
  rw [sched_put_l1, sealF_eq, e1, Option.bind_some]
  simp only
  rw [u8_in _ (by omega), decide_eq_true (show (acc'.length + [(m : Int)].length) * 1 ≤ 140737488355328 ∧ acc'.length + [(m : Int)].length ≤ 9223372036854775807 by simp only [List.length_cons, List.length_nil]; omega), cond_true, e3]
  rfl

theorem refPutLoop : ∀ (f g n : Nat) (acc : List Int), n < 128 ^ (f + 1) → f < g → n ≤ 2147483647 → acc.length + f ≤ 1000000 →
    ∃ (m : Nat) (acc' : List Int), racetreeref22_put_i1 g (n : Int) acc = some ((m : Int), acc') ∧ m < 128 ∧ acc' ++ [(m : Int)] = acc ++ putF f n := by
  intro f
  induction f with
  | zero =>
    intro g n acc hn hg hm ha
    cases g with
    | zero => omega
    | succ g =>
      unfold racetreeref22_put_i1 racetreeref22_put_t1
      rw [decide_eq_false (by omega), cond_false]
      exact ⟨n, acc, rfl, by omega, rfl⟩
  | succ f ih =>
    intro g n acc hn hg hm ha
    cases g with
    | zero => omega
    | succ g =>
      unfold racetreeref22_put_i1 racetreeref22_put_t1 putF
      by_cases h : n < 128
      · rw [decide_eq_false (by omega), cond_false, decide_eq_true h]
        exact ⟨n, acc, rfl, h, rfl⟩
      · have hs : Int.tdiv (n : Int) 128 = ((n / 128 : Nat) : Int) := by rw [Int.tdiv_eq_ediv_of_nonneg (by omega)]; omega
        have hm' : Int.tmod (n : Int) 128 = ((n % 128 : Nat) : Int) := by rw [Int.tmod_eq_emod_of_nonneg (by omega)]; omega
        have hb : ∀ x : Int, decide ((List.length acc + List.length [x]) * (1 : Nat) ≤ (140737488355328 : Nat) ∧ List.length acc + List.length [x] ≤ (9223372036854775807 : Nat)) = true := fun x =>
          decide_eq_true (by simp only [List.length_cons, List.length_nil]; omega)
        have e128 : IntKind.wrap IntKind.u8 (IntKind.wrap IntKind.i64 (128 + ((n % 128 : Nat) : Int))) = ((128 + n % 128 : Nat) : Int) := by
          rw [i64_in _ (by omega), u8_in _ (by omega)]; omega
        rw [decide_eq_true (by omega), cond_true, hb, cond_true, hm', e128, hs, i64_in _ (by omega), decide_eq_false h, cond_false]
        obtain ⟨m, acc', h1, h2, h3⟩ := ih g (n / 128) (acc ++ [((128 + n % 128 : Nat) : Int)]) (by rw [Nat.pow_succ] at hn; omega) (by omega) (by omega) (by simp only [List.length_append, List.length_cons, List.length_nil]; omega)
        exact ⟨m, acc', h1, h2, by rw [h3, List.append_assoc]; rfl⟩

theorem refPut1 {n : Int} (h0 : 0 ≤ n) (h1 : n ≤ 2147483647) (acc : List Int) (ha : acc.length ≤ 100000) : racetreeref22_put n acc = some (acc ++ putS n.toNat) := by
  rw [racetreeref22_put, sealF_eq]
  unfold racetreeref22_put_f
  obtain ⟨m, acc', e1, e2, e3⟩ := refPutLoop 5 fuel n.toNat acc (by have : (128 : Nat) ^ (5 + 1) = 4398046511104 := by decide
                                                                    omega) (by unfold fuel; omega) (by omega) (by omega)
  rw [Int.toNat_of_nonneg h0] at e1
  have hl := congrArg List.length e3
  have hp := putF_len 5 n.toNat
  simp only [List.length_append, List.length_cons, List.length_nil] at hl
  rw [racetreeref22_put_l1, sealF_eq, e1, Option.bind_some]
  simp only
  rw [u8_in _ (by omega), decide_eq_true (show (acc'.length + [(m : Int)].length) * 1 ≤ 140737488355328 ∧ acc'.length + [(m : Int)].length ≤ 9223372036854775807 by simp only [List.length_cons, List.length_nil]; omega), cond_true, e3]
  rfl

def runB (r : Run) : List Int := putS r.n.toNat ++ putS r.times.toNat
def bytesS (rs : List Run) : List Int := putS rs.length ++ rs.flatMap runB

theorem runB_len (r : Run) : (runB r).length ≤ 12 := by
  unfold runB putS
  have a := putF_len 5 r.n.toNat
  have b := putF_len 5 r.times.toNat
  rw [List.length_append]
  omega

theorem bytesLoop (rs : List Run) (hl : rs.length ≤ 1000) (hr : ∀ r ∈ rs, okRun r) : ∀ (k n i : Nat) (acc : List Int), rs.length - i ≤ k → k < n → i ≤ rs.length → acc.length ≤ 12 * i + 12 →
    sched_Bytes_i6 n (rs.length : Int) (i : Int) acc rs = some (acc ++ (rs.drop i).flatMap runB) := by
  intro k
  induction k with
  | zero =>
    intro n i acc hk hn hi ha
    cases n with
    | zero => omega
    | succ n =>
      unfold sched_Bytes_i6 sched_Bytes_t6
      rw [decide_eq_false (by omega), cond_false, List.drop_eq_nil_of_le (by omega)]
      simp
  | succ k ih =>
    intro n i acc hk hn hi ha
    cases n with
    | zero => omega
    | succ n =>
      unfold sched_Bytes_i6 sched_Bytes_t6
      by_cases h : i < rs.length
      · have hg : rs[Int.toNat (i : Int)]? = some rs[i] := by rw [Int.toNat_natCast]; exact List.getElem?_eq_getElem h
        obtain ⟨h1, h2, h3, h4⟩ := hr rs[i] (List.getElem_mem h)
        have hb := runB_len rs[i]
        have hp := putF_len 5 rs[i].n.toNat
        have e : acc ++ putS rs[i].n.toNat ++ putS rs[i].times.toNat = acc ++ runB rs[i] := by unfold runB; rw [List.append_assoc]
        rw [decide_eq_true (show (i : Int) < (rs.length : Int) by omega), cond_true, decide_eq_true (show (0 : Int) ≤ (i : Int) by omega), Bool.true_and, cond_true, hg, Option.bind_some, put1 h1 h2 _ (by omega), Option.bind_some,
          put1 (by omega) (by omega) _ (by unfold putS; rw [List.length_append]; omega), Option.bind_some, e, i64_in _ (by omega)]
        have next := ih n (i + 1) (acc ++ runB rs[i]) (by omega) (by omega) (by omega) (by rw [List.length_append]; omega)
        rw [show ((i + 1 : Nat) : Int) = (i : Int) + 1 by omega] at next
        rw [next, List.drop_eq_getElem_cons h, List.flatMap_cons, List.append_assoc]
      · rw [decide_eq_false (by omega), cond_false, List.drop_eq_nil_of_le (by omega)]
        simp

/-- What Bytes answers. -/
def bytesR (l : List Int) : Int × List Int := bif (runsR l).1 == 0 then (0, bytesS (runsR l).2) else ((runsR l).1, [])

theorem clipB (l : List Int) : slices_Clip_byte_byte l = some l := by
  rw [slices_Clip_byte_byte, sealF_eq]
  unfold slices_Clip_byte_byte_f
  rw [decide_eq_true rfl]
  rfl

theorem bytes22 (l : List Int) : sched_Bytes l = some (bytesR l) := by
  rw [sched_Bytes, sealF_eq]
  unfold sched_Bytes_f bytesR
  rw [runs1, Option.bind_some]
  cases hq : (runsR l).1 == 0 with
  | false =>
    have : ((runsR l).1 != 0) = true := by simp [bne, hq]
    rw [this]; rfl
  | true =>
    have hz : (runsR l).1 = 0 := by simpa using hq
    obtain ⟨hl, ha, e⟩ := runsR_ok hz
    have : ((runsR l).1 != 0) = false := by simp [bne, hq]
    have hs := runs_small l hl
    have hok := runs_ok l hl ha
    have hp := putF_len 5 (runsS l).length
    have h1 := hs.1
    rw [this, cond_false, e, put1 (by omega) (by omega) _ (by simp), Option.bind_some, List.nil_append, Int.toNat_natCast]
    have hL := bytesLoop (runsS l) hs.1 hok (runsS l).length fuel 0 (putS (runsS l).length) (by omega) (by unfold fuel; omega) (by omega) (by unfold putS; omega)
    rw [show ((0 : Nat) : Int) = 0 from rfl, List.drop_zero] at hL
    rw [sched_Bytes_l6, sealF_eq, hL, Option.bind_some, clipB]
    rfl

theorem refBytesLoop (rs : List Run) (hl : rs.length ≤ 1000) (hr : ∀ r ∈ rs, okRun r) : ∀ (k n i : Nat) (acc : List Int), rs.length - i ≤ k → k < n → i ≤ rs.length → acc.length ≤ 12 * i + 12 →
    racetreeref22_Bytes_i7 n (i : Int) rs acc = some (acc ++ (rs.drop i).flatMap runB) := by
  intro k
  induction k with
  | zero =>
    intro n i acc hk hn hi ha
    cases n with
    | zero => omega
    | succ n =>
      unfold racetreeref22_Bytes_i7 racetreeref22_Bytes_t7
      rw [decide_eq_false (by omega), cond_false, List.drop_eq_nil_of_le (by omega)]
      simp
  | succ k ih =>
    intro n i acc hk hn hi ha
    cases n with
    | zero => omega
    | succ n =>
      unfold racetreeref22_Bytes_i7 racetreeref22_Bytes_t7
      by_cases h : i < rs.length
      · have hg : rs[Int.toNat (i : Int)]? = some rs[i] := by rw [Int.toNat_natCast]; exact List.getElem?_eq_getElem h
        obtain ⟨h1, h2, h3, h4⟩ := hr rs[i] (List.getElem_mem h)
        have hb := runB_len rs[i]
        have hp := putF_len 5 rs[i].n.toNat
        have e : acc ++ putS rs[i].n.toNat ++ putS rs[i].times.toNat = acc ++ runB rs[i] := by unfold runB; rw [List.append_assoc]
        rw [decide_eq_true (show (i : Int) < (rs.length : Int) by omega), cond_true, decide_eq_true (show (0 : Int) ≤ (i : Int) by omega), Bool.true_and, cond_true, hg, Option.bind_some, refPut1 h1 h2 _ (by omega), Option.bind_some, cond_true, Option.bind_some,
          refPut1 (by omega) (by omega) _ (by unfold putS; rw [List.length_append]; omega), Option.bind_some, e, i64_in _ (by omega)]
        have next := ih n (i + 1) (acc ++ runB rs[i]) (by omega) (by omega) (by omega) (by rw [List.length_append]; omega)
        rw [show ((i + 1 : Nat) : Int) = (i : Int) + 1 by omega] at next
        rw [next, List.drop_eq_getElem_cons h, List.flatMap_cons, List.append_assoc]
      · rw [decide_eq_false (by omega), cond_false, List.drop_eq_nil_of_le (by omega)]
        simp

theorem refBytes22 (l : List Int) : racetreeref22_Bytes l = some (bytesR l) := by
  rw [racetreeref22_Bytes, sealF_eq]
  unfold racetreeref22_Bytes_f bytesR
  rw [may1, Option.bind_some]
  cases hq : (runsR l).1 == 0 with
  | false =>
    have : ((runsR l).1 != 0) = true := by simp [bne, hq]
    rw [this]; rfl
  | true =>
    have hz : (runsR l).1 = 0 := by simpa using hq
    obtain ⟨hl, ha, e⟩ := runsR_ok hz
    have : ((runsR l).1 != 0) = false := by simp [bne, hq]
    have hs := runs_small l hl
    have hok := runs_ok l hl ha
    have hp := putF_len 5 (runsS l).length
    have h1 := hs.1
    rw [this, cond_false, e, refRuns1 l hl, Option.bind_some, refPut1 (by omega) (by omega) _ (by simp), Option.bind_some, List.nil_append, Int.toNat_natCast]
    have hL := refBytesLoop (runsS l) hs.1 hok (runsS l).length fuel 0 (putS (runsS l).length) (by omega) (by unfold fuel; omega) (by omega) (by unfold putS; omega)
    rw [show ((0 : Nat) : Int) = 0 from rfl, List.drop_zero] at hL
    rw [racetreeref22_Bytes_l7, sealF_eq, hL]
    rfl

/-- A number taken off bytes. -/
def takeF : Nat → Nat → List Int → Option (Nat × List Int)
  | _, _, [] => none
  | i, n, c :: b => bif decide (4 < i) then none else bif decide (c < 128) then (bif i == 0 || decide (0 < c) then some (n + c.toNat % 128 * 128 ^ i, b) else none) else takeF (i + 1) (n + c.toNat % 128 * 128 ^ i) b

def okB (b : List Int) : Prop := ∀ c ∈ b, 0 ≤ c ∧ c < 256

theorem and127 : ∀ k : Fin 256, IntKind.wrap IntKind.u8 (↑(BitVec.toNat (BitVec.ofInt (8 : Nat) (k.val : Int) &&& BitVec.ofInt (8 : Nat) (127 : Int))) : Int) = ((k.val % 128 : Nat) : Int) := by decide +kernel

theorem or_add {n d j : Nat} (h : n < 2 ^ j) : n ||| (2 ^ j * d) = n + 2 ^ j * d := by
  rw [Nat.or_comm, ← Nat.two_pow_add_eq_or_of_lt h d, Nat.add_comm]

theorem or_shift {n i : Nat} {c : Int} (hi : i ≤ 4) (hn : n < 128 ^ i) (h0 : 0 ≤ c) (h1 : c < 256) :
    IntKind.wrap IntKind.i64 (↑(BitVec.toNat (BitVec.ofInt (64 : Nat) (n : Int) ||| BitVec.ofInt (64 : Nat) (IntKind.wrap IntKind.i64 (IntKind.wrap IntKind.i64 (IntKind.wrap IntKind.u8 (↑(BitVec.toNat (BitVec.ofInt (8 : Nat) c &&& BitVec.ofInt (8 : Nat) (127 : Int))) : Int)) * (2 : Int) ^ min (Int.toNat (IntKind.wrap IntKind.i64 ((7 : Int) * (i : Int)))) (64 : Nat))))) : Int) =
      ((n + c.toNat % 128 * 128 ^ i : Nat) : Int) := by
  have hc := and127 ⟨c.toNat, by omega⟩
  simp only at hc
  rw [Int.toNat_of_nonneg h0] at hc
  have hp : (128 : Nat) ^ i ≤ 128 ^ 4 := Nat.pow_le_pow_right (by decide) hi
  have hp' : (128 : Nat) ^ 4 = 268435456 := by decide
  have h27 : (2 : Nat) ^ (7 * i) = 128 ^ i := by rw [Nat.pow_mul]
  rw [hc, i64_in ((c.toNat % 128 : Nat) : Int) (by omega), i64_in (7 * (i : Int)) (by omega), show (7 * (i : Int)).toNat = 7 * i by omega, Nat.min_eq_left (by omega)]
  have hcast : ((c.toNat % 128 : Nat) : Int) * (2 : Int) ^ (7 * i) = ((2 ^ (7 * i) * (c.toNat % 128) : Nat) : Int) := by
    rw [Int.natCast_mul, Int.natCast_pow, Int.mul_comm]
    rfl
  have hle : 2 ^ (7 * i) * (c.toNat % 128) ≤ 268435456 * 127 := by
    rw [h27]
    exact Nat.mul_le_mul (by omega) (by omega)
  rw [hcast, i64_in ((2 ^ (7 * i) * (c.toNat % 128) : Nat) : Int) (by omega), BitVec.ofInt_natCast, BitVec.ofInt_natCast, BitVec.toNat_or, BitVec.toNat_ofNat, BitVec.toNat_ofNat, Nat.mod_eq_of_lt (show n < 2 ^ 64 by omega), Nat.mod_eq_of_lt (show 2 ^ (7 * i) * (c.toNat % 128) < 2 ^ 64 by omega), or_add (by rw [h27]; exact hn), i64_in _ (by omega), h27, Nat.mul_comm]

theorem takeLoop (b : List Int) (hb : okB b) (hl : b.length ≤ 100000000) : ∀ (k m i n : Nat), b.length - i ≤ k → k < m → i ≤ b.length → (i ≤ 4 → n < 128 ^ i) → i ≤ 5 →
    (∀ v r, takeF i n (b.drop i) = some (v, r) → sched_take_i3 m b (n : Int) b (b.length : Int) (i : Int) = some (.inr ((v : Int), r, true))) ∧
    (takeF i n (b.drop i) = none → sched_take_i3 m b (n : Int) b (b.length : Int) (i : Int) = some (.inl ()) ∨ ∃ v r, okB r ∧ r.length ≤ b.length ∧ sched_take_i3 m b (n : Int) b (b.length : Int) (i : Int) = some (.inr (v, r, false))) := by
  intro k
  induction k with
  | zero =>
    intro m i n hk hm hi hn h5
    cases m with
    | zero => omega
    | succ m =>
      unfold sched_take_i3 sched_take_t3
      rw [decide_eq_false (by omega), cond_false, List.drop_eq_nil_of_le (by omega)]
      exact ⟨fun v r h => (by cases h), fun _ => .inl rfl⟩
  | succ k ih =>
    intro m i n hk hm hi hn h5
    cases m with
    | zero => omega
    | succ m =>
      unfold sched_take_i3 sched_take_t3
      by_cases h : i < b.length
      · have hg : b[Int.toNat (i : Int)]? = some b[i] := by rw [Int.toNat_natCast]; exact List.getElem?_eq_getElem h
        obtain ⟨c0, c1⟩ := hb b[i] (List.getElem_mem h)
        rw [decide_eq_true (show (i : Int) < (b.length : Int) by omega), cond_true, decide_eq_true (show (0 : Int) ≤ (i : Int) by omega), cond_true, hg, Option.bind_some, List.drop_eq_getElem_cons h]
        unfold takeF
        by_cases h4 : 4 < i
        · rw [decide_eq_true (show (i : Int) > 4 by omega), cond_true, decide_eq_true h4]
          exact ⟨fun v r h => (by cases h), fun _ => .inl rfl⟩
        · rw [decide_eq_false (show ¬ (i : Int) > 4 by omega), cond_false, decide_eq_false h4, cond_false]
          rw [or_shift (by omega) (hn (by omega)) c0 c1, i64_in (7 * (i : Int)) (by omega), decide_eq_false (show ¬ 7 * (i : Int) < 0 by omega), cond_false, i64_in ((i : Int) + 1) (by omega)]
          by_cases hc : b[i] < 128
          · have b3 : (decide ((0 : Int) ≤ (i : Int) + 1) && (decide ((i : Int) + 1 ≤ (b.length : Int)) && decide ((b.length : Int) ≤ (b.length : Int)))) = true := by
              simp only [Bool.and_eq_true, decide_eq_true_eq]; omega
            have e2 : List.drop (Int.toNat ((i : Int) + 1)) (List.take (Int.toNat (b.length : Int)) b) = b.drop (i + 1) := by
              rw [Int.toNat_natCast, List.take_length, show ((i : Int) + 1).toNat = i + 1 by omega]
            have hok : okB (b.drop (i + 1)) := fun c h => hb c (List.mem_of_mem_drop h)
            rw [decide_eq_true hc, cond_true, cond_true, b3, cond_true, e2]
            by_cases hz : i = 0
            · subst hz
              exact ⟨fun v r h => (by cases h; rfl), fun h => (by cases h)⟩
            · have e3 : ((i : Int) == 0) = false := by simp; omega
              have e4 : (i == 0) = false := by simp; omega
              rw [e3, cond_false, e4, Bool.false_or]
              by_cases hp : 0 < b[i]
              · rw [decide_eq_true hp]
                exact ⟨fun v r h => (by cases h; rfl), fun h => (by cases h)⟩
              · rw [decide_eq_false hp]
                exact ⟨fun v r h => (by cases h), fun _ => .inr ⟨_, _, hok, by rw [List.length_drop]; omega, rfl⟩⟩
          · rw [decide_eq_false hc, cond_false, cond_false]
            have next := ih m (i + 1) (n + b[i].toNat % 128 * 128 ^ i) (by omega) (by omega) (by omega) (fun h4' => by
              have hn' := hn (by omega)
              rw [Nat.pow_succ]
              have : b[i].toNat % 128 * 128 ^ i ≤ 127 * 128 ^ i := Nat.mul_le_mul_right _ (by omega)
              omega) (by omega)
            rw [show ((i + 1 : Nat) : Int) = (i : Int) + 1 by omega] at next
            exact next
      · rw [decide_eq_false (by omega), cond_false, List.drop_eq_nil_of_le (by omega)]
        exact ⟨fun v r h => (by cases h), fun _ => .inl rfl⟩

theorem take1 (b : List Int) (hb : okB b) (hl : b.length ≤ 100000000) :
    (∀ v r, takeF 0 0 b = some (v, r) → sched_take b = some ((v : Int), r, true)) ∧ (takeF 0 0 b = none → ∃ v r, okB r ∧ r.length ≤ b.length ∧ sched_take b = some (v, r, false)) := by
  rw [sched_take, sealF_eq]
  unfold sched_take_f
  obtain ⟨h1, h2⟩ := takeLoop b hb hl b.length fuel 0 0 (by omega) (by unfold fuel; omega) (by omega) (fun _ => by decide) (by omega)
  rw [show ((0 : Nat) : Int) = 0 from rfl, List.drop_zero] at h1 h2
  rw [sched_take_l3, sealF_eq]
  refine ⟨fun v r h => ?_, fun h => ?_⟩
  · rw [h1 v r h]; rfl
  · rcases h2 h with e | ⟨v, r, k1, k2, e⟩
    · rw [e]; exact ⟨0, [], fun c h => (by cases h), by simp, rfl⟩
    · rw [e]; exact ⟨v, r, k1, k2, rfl⟩

theorem takeF_rest : ∀ (b : List Int) (i n v : Nat) (r : List Int), takeF i n b = some (v, r) → ∃ p, b = p ++ r ∧ p ≠ []
  | [], i, n, v, r, h => by cases h
  | c :: b, i, n, v, r, h => by
    unfold takeF at h
    cases h4 : decide (4 < i) with
    | true => rw [h4] at h; cases h
    | false =>
      rw [h4, cond_false] at h
      cases hc : decide (c < 128) with
      | true =>
        rw [hc, cond_true] at h
        cases hz : (i == 0 || decide (0 < c)) with
        | true => rw [hz] at h; cases h; exact ⟨[c], rfl, by simp⟩
        | false => rw [hz] at h; cases h
      | false =>
        rw [hc, cond_false] at h
        obtain ⟨p, hp, _⟩ := takeF_rest b _ _ v r h
        exact ⟨c :: p, by rw [hp]; rfl, by simp⟩
end Lift.A1P

/- Layer 22: Load. -/
namespace Lift.A1P
open Go Go.RowKit Lift Go.IntWalk Lift.Fn

theorem takeF_lt : ∀ (b : List Int) (i n v : Nat) (r : List Int), (i ≤ 4 → n < 128 ^ i) → takeF i n b = some (v, r) → v < 34359738368
  | [], i, n, v, r, _, h => by cases h
  | c :: b, i, n, v, r, hn, h => by
    unfold takeF at h
    cases h4 : decide (4 < i) with
    | true => rw [h4] at h; cases h
    | false =>
      have h4' := of_decide_eq_false h4
      have hn' := hn (by omega)
      have hd : c.toNat % 128 * 128 ^ i ≤ 127 * 128 ^ i := Nat.mul_le_mul_right _ (by omega)
      have hp : (128 : Nat) ^ i ≤ 128 ^ 4 := Nat.pow_le_pow_right (by decide) (by omega)
      have hp' : (128 : Nat) ^ 4 = 268435456 := by decide
      rw [h4, cond_false] at h
      cases hc : decide (c < 128) with
      | true =>
        rw [hc, cond_true] at h
        cases hz : (i == 0 || decide (0 < c)) with
        | true => rw [hz] at h; cases h; omega
        | false => rw [hz] at h; cases h
      | false =>
        rw [hc, cond_false] at h
        exact takeF_lt b _ _ v r (fun _ => by rw [Nat.pow_succ]; omega) h

theorem drop_rest {b r : List Int} {a : Nat} (ha : a ≤ b.length) {p : List Int} (h : b.drop a = p ++ r) : b.length - r.length = a + p.length ∧ b.drop (a + p.length) = r ∧ a + p.length ≤ b.length := by
  have hl := congrArg List.length h
  simp only [List.length_drop, List.length_append] at hl
  refine ⟨by omega, ?_, by omega⟩
  rw [← List.drop_drop, h]
  simp

theorem numbLoop (b : List Int) (hb : okB b) (hl : b.length ≤ 100000000) (most : Nat) : ∀ (k m i n a : Nat), 5 - i ≤ k → k < m → i ≤ 5 → (i ≤ 4 → n < 128 ^ i) → a ≤ b.length →
    (∀ v r, takeF i n (b.drop a) = some (v, r) → racetreeref22_reader_number_i4 m (most : Int) (n : Int) ((128 ^ i : Nat) : Int) (i : Int) b (a : Int) false = some (.inr ((v : Int), b, ((b.length - r.length : Nat) : Int), decide (v > most)))) ∧
    (takeF i n (b.drop a) = none → (∃ a' : Nat, a' ≤ b.length ∧ racetreeref22_reader_number_i4 m (most : Int) (n : Int) ((128 ^ i : Nat) : Int) (i : Int) b (a : Int) false = some (.inl (b, (a' : Int), false))) ∨
      ∃ (v : Int) (a' : Nat), a' ≤ b.length ∧ racetreeref22_reader_number_i4 m (most : Int) (n : Int) ((128 ^ i : Nat) : Int) (i : Int) b (a : Int) false = some (.inr (v, b, (a' : Int), true))) := by
  intro k
  induction k with
  | zero =>
    intro m i n a hk hm hi hn ha
    cases m with
    | zero => omega
    | succ m =>
      have h5 : i = 5 := by omega
      subst h5
      unfold racetreeref22_reader_number_i4 racetreeref22_reader_number_t4
      rw [decide_eq_false (by omega), cond_false]
      have : takeF 5 n (b.drop a) = none := by
        cases b.drop a with
        | nil => rfl
        | cons c r => rfl
      rw [this]
      exact ⟨fun v r h => (by cases h), fun _ => .inl ⟨a, ha, rfl⟩⟩
  | succ k ih =>
    intro m i n a hk hm hi hn ha
    cases m with
    | zero => omega
    | succ m =>
      unfold racetreeref22_reader_number_i4 racetreeref22_reader_number_t4
      by_cases h5 : i = 5
      · subst h5
        rw [decide_eq_false (by omega), cond_false]
        have : takeF 5 n (b.drop a) = none := by
          cases b.drop a with
          | nil => rfl
          | cons c r => rfl
        rw [this]
        exact ⟨fun v r h => (by cases h), fun _ => .inl ⟨a, ha, rfl⟩⟩
      · rw [decide_eq_true (show (i : Int) < 5 by omega), cond_true, cond_false]
        by_cases h : a < b.length
        · have hg : b[Int.toNat (a : Int)]? = some b[a] := by rw [Int.toNat_natCast]; exact List.getElem?_eq_getElem h
          obtain ⟨c0, c1⟩ := hb b[a] (List.getElem_mem h)
          have hn' := hn (by omega)
          have hp : (128 : Nat) ^ i ≤ 128 ^ 4 := Nat.pow_le_pow_right (by decide) (by omega)
          have hp' : (128 : Nat) ^ 4 = 268435456 := by decide
          have hd : b[a].toNat % 128 * 128 ^ i ≤ 127 * 128 ^ i := Nat.mul_le_mul_right _ (by omega)
          have hm' : Int.tmod b[a] 128 = ((b[a].toNat % 128 : Nat) : Int) := by rw [Int.tmod_eq_emod_of_nonneg c0]; omega
          have hmul : ((b[a].toNat % 128 : Nat) : Int) * ((128 ^ i : Nat) : Int) = ((b[a].toNat % 128 * 128 ^ i : Nat) : Int) := by rw [Int.natCast_mul]
          have hadd : (n : Int) + ((b[a].toNat % 128 * 128 ^ i : Nat) : Int) = ((n + b[a].toNat % 128 * 128 ^ i : Nat) : Int) := by rw [Int.natCast_add]
          have e1 : IntKind.wrap IntKind.i64 ((n : Int) + IntKind.wrap IntKind.i64 (Int.tmod b[a] 128 * ((128 ^ i : Nat) : Int))) = ((n + b[a].toNat % 128 * 128 ^ i : Nat) : Int) := by
            rw [hm', hmul, i64_in ((b[a].toNat % 128 * 128 ^ i : Nat) : Int) (by omega), hadd, i64_in _ (by omega)]
          rw [decide_eq_false (show ¬ (a : Int) ≥ (b.length : Int) by omega), cond_false, decide_eq_true (show (0 : Int) ≤ (a : Int) by omega), cond_true, hg, Option.bind_some, i64_in b[a] (by omega), e1, List.drop_eq_getElem_cons h, i64_in ((a : Int) + 1) (by omega)]
          unfold takeF
          rw [decide_eq_false (show ¬ 4 < i by omega), cond_false]
          have ea : ((a + 1 : Nat) : Int) = (a : Int) + 1 := by omega
          by_cases hc : b[a] < 128
          · rw [decide_eq_true hc, cond_true, cond_true]
            have er : b.length - (b.drop (a + 1)).length = a + 1 := by rw [List.length_drop]; omega
            by_cases hgt : n + b[a].toNat % 128 * 128 ^ i > most
            · rw [decide_eq_true (show ((n + b[a].toNat % 128 * 128 ^ i : Nat) : Int) > (most : Int) by omega), cond_true]
              cases hz : (i == 0 || decide (0 < b[a])) with
              | true =>
                refine ⟨fun v r h => ?_, fun h => (by cases h)⟩
                cases h
                rw [er, decide_eq_true hgt, ea]
              | false => exact ⟨fun v r h => (by cases h), fun _ => .inr ⟨_, a + 1, h, by rw [ea]⟩⟩
            · rw [decide_eq_false (show ¬ ((n + b[a].toNat % 128 * 128 ^ i : Nat) : Int) > (most : Int) by omega), cond_false]
              by_cases hz : i = 0
              · subst hz
                refine ⟨fun v r h => ?_, fun h => (by cases h)⟩
                cases h
                rw [er, decide_eq_false hgt, ea]
                rfl
              · rw [decide_eq_true (show (i : Int) > 0 by omega), cond_true]
                have e4 : (i == 0) = false := by simp; omega
                rw [e4, Bool.false_or]
                by_cases hpz : 0 < b[a]
                · rw [decide_eq_true hpz]
                  refine ⟨fun v r h => ?_, fun h => (by cases h)⟩
                  cases h
                  have : (b[a] == 0) = false := by simp; omega
                  rw [er, decide_eq_false hgt, ea, this]
                · rw [decide_eq_false hpz]
                  have : (b[a] == 0) = true := by simp; omega
                  exact ⟨fun v r h => (by cases h), fun _ => .inr ⟨_, a + 1, h, by rw [ea, this]⟩⟩
          · rw [decide_eq_false hc, cond_false, cond_false]
            have hs : (128 : Int) * ((128 ^ i : Nat) : Int) = ((128 ^ (i + 1) : Nat) : Int) := by
              rw [Nat.pow_succ, Int.natCast_mul, Int.mul_comm]; rfl
            have hp5 : (128 : Nat) ^ (i + 1) = 128 ^ i * 128 := by rw [Nat.pow_succ]
            rw [hs, i64_in ((128 ^ (i + 1) : Nat) : Int) (by omega), i64_in ((i : Int) + 1) (by omega)]
            have next := ih m (i + 1) (n + b[a].toNat % 128 * 128 ^ i) (a + 1) (by omega) (by omega) (by omega) (fun _ => by omega) (by omega)
            rw [ea, show ((i + 1 : Nat) : Int) = (i : Int) + 1 by omega] at next
            exact next
        · rw [decide_eq_true (show (a : Int) ≥ (b.length : Int) by omega), cond_true, List.drop_eq_nil_of_le (by omega)]
          exact ⟨fun v r h => (by cases h), fun _ => .inl ⟨a, ha, rfl⟩⟩

theorem numb1 (b : List Int) (hb : okB b) (hl : b.length ≤ 100000000) (most : Nat) (a : Nat) (ha : a ≤ b.length) :
    (∀ v r, takeF 0 0 (b.drop a) = some (v, r) → racetreeref22_reader_number (most : Int) b (a : Int) false = some ((v : Int), b, ((b.length - r.length : Nat) : Int), decide (v > most))) ∧
    (takeF 0 0 (b.drop a) = none → ∃ (v : Int) (a' : Nat), a' ≤ b.length ∧ racetreeref22_reader_number (most : Int) b (a : Int) false = some (v, b, (a' : Int), true)) := by
  rw [racetreeref22_reader_number, sealF_eq]
  unfold racetreeref22_reader_number_f
  obtain ⟨h1, h2⟩ := numbLoop b hb hl most 5 fuel 0 0 a (by omega) (by unfold fuel; omega) (by omega) (fun _ => by decide) ha
  rw [show ((0 : Nat) : Int) = 0 from rfl, show ((128 ^ 0 : Nat) : Int) = 1 from rfl] at h1 h2
  rw [racetreeref22_reader_number_l4, sealF_eq]
  refine ⟨fun v r h => ?_, fun h => ?_⟩
  · rw [h1 v r h]; rfl
  · rcases h2 h with ⟨a', k1, e⟩ | ⟨v, a', k1, e⟩
    · rw [e]; exact ⟨0, a', k1, rfl⟩
    · rw [e]; exact ⟨v, a', k1, rfl⟩

theorem numb_bad (most : Int) (b : List Int) (a : Int) : racetreeref22_reader_number most b a true = some (0, b, a, true) := by
  rw [racetreeref22_reader_number, sealF_eq]
  unfold racetreeref22_reader_number_f
  have : racetreeref22_reader_number_l4 most 0 1 0 b a true = some (.inl (b, a, true)) := by
    rw [racetreeref22_reader_number_l4, sealF_eq]
    rfl
  rw [this]
  rfl

/-- So many runs taken off bytes, behind numbers. -/
def loadF : Nat → List Int → List Int → Option (List Int × List Int)
  | 0, b, out => some (b, out)
  | m + 1, b, out => match takeF 0 0 b with
    | none => none
    | some (n, b1) => match takeF 0 0 b1 with
      | none => none
      | some (k, b2) => bif decide (n ≤ maxN) && (decide (1 ≤ k) && (decide (out.length + k ≤ 1000) && !(out.getLast? == some (n : Int)))) then loadF m b2 (out ++ List.replicate k (n : Int)) else none

def loadT (b : List Int) : Int × List Int := match takeF 0 0 b with
  | none => (220, [])
  | some (m, b1) => match loadF m b1 [] with
    | some ([], o) => (0, o)
    | _ => (220, [])

theorem okB_rest {b p r : List Int} (hb : okB b) (h : b = p ++ r) : okB r := fun c hc => hb c (by rw [h]; simp [hc])

theorem last_cond (out : List Int) (n : Int) : (bif (out.length : Int) == 0 then true else bif decide ((0 : Int) ≤ (out.length : Int) - 1) && decide ((out.length : Int) - 1 < (out.length : Int)) then (match out[Int.toNat ((out.length : Int) - 1)]? with | some y => y != n | none => false) else false) = !(out.getLast? == some n) := by
  rcases List.eq_nil_or_concat out with rfl | ⟨L, x, rfl⟩
  · rfl
  · rw [List.concat_eq_append]
    have hlen : (L ++ [x]).length = L.length + 1 := by simp
    have hl2 : (((L ++ [x]).length : Int) - 1).toNat = L.length := by omega
    rw [show (((L ++ [x]).length : Int) == 0) = false by simp; omega, cond_false, decide_eq_true (by omega), decide_eq_true (by omega), Bool.and_self, cond_true, hl2, show (L ++ [x])[L.length]? = some x by simp]
    simp [bne]

theorem load_off (m : Nat) (b : List Int) (many i : Int) (out : List Int) : sched_Load_i4 (m + 1) b false many i out = some (b, false, out) := by
  unfold sched_Load_i4 sched_Load_t4
  cases decide (i < many) <;> rfl

theorem loadLoop (many : Nat) (hm : many < 34359738368) : ∀ (k m i : Nat) (b out : List Int), many - i ≤ k → k + 1 < m → i ≤ many → okB b → b.length ≤ 100000000 → out.length ≤ 1000 →
    ∃ b' is' out', sched_Load_i4 m b true (many : Int) (i : Int) out = some (b', is', out') ∧ (match loadF (many - i) b out with
      | some (r, o) => is' = true ∧ b' = r ∧ out' = o
      | none => is' = false) := by
  intro k
  induction k with
  | zero =>
    intro m i b out hk hmm hi hb hl ho
    cases m with
    | zero => omega
    | succ m =>
      unfold sched_Load_i4 sched_Load_t4
      rw [decide_eq_false (by omega), cond_false, show many - i = 0 by omega]
      exact ⟨_, _, _, rfl, rfl, rfl, rfl⟩
  | succ k ih =>
    intro m i b out hk hmm hi hb hl ho
    cases m with
    | zero => omega
    | succ m =>
      unfold sched_Load_i4 sched_Load_t4
      by_cases h : i < many
      · rw [decide_eq_true (show (i : Int) < (many : Int) by omega), cond_true, Bool.not_true, cond_false, show many - i = (many - (i + 1)) + 1 by omega]
        unfold loadF
        have hmp : ∃ m', m = m' + 1 := ⟨m - 1, by omega⟩
        obtain ⟨m', rfl⟩ := hmp
        obtain ⟨t1, t2⟩ := take1 b hb hl
        cases hq : takeF 0 0 b with
        | none =>
          obtain ⟨v, r, k1, k2, e⟩ := t2 hq
          rw [e, Option.bind_some]
          simp only
          obtain ⟨y, hy⟩ : ∃ y, sched_take r = some y := by
            obtain ⟨s1, s2⟩ := take1 r k1 (by omega)
            cases hr : takeF 0 0 r with
            | none => obtain ⟨v', r', _, _, e'⟩ := s2 hr; exact ⟨_, e'⟩
            | some x => exact ⟨_, s1 x.1 x.2 hr⟩
          rw [hy, Option.bind_some, cond_false, load_off]
          exact ⟨_, _, _, rfl, rfl⟩
        | some x =>
          obtain ⟨n, b1⟩ := x
          obtain ⟨p, hp, _⟩ := takeF_rest b 0 0 n b1 hq
          have hb1 := okB_rest hb hp
          have hl1 : b1.length ≤ b.length := by rw [hp]; simp
          have hn := takeF_lt b 0 0 n b1 (fun _ => by decide) hq
          rw [t1 n b1 hq, Option.bind_some]
          simp only
          obtain ⟨s1, s2⟩ := take1 b1 hb1 (by omega)
          cases hr : takeF 0 0 b1 with
          | none =>
            obtain ⟨v', r', _, _, e'⟩ := s2 hr
            rw [e', Option.bind_some]
            simp only [cond_true, cond_false]
            rw [load_off]
            exact ⟨_, _, _, rfl, rfl⟩
          | some x =>
            obtain ⟨K, b2⟩ := x
            obtain ⟨p', hp', _⟩ := takeF_rest b1 0 0 K b2 hr
            have hb2 := okB_rest hb1 hp'
            have hl2 : b2.length ≤ b1.length := by rw [hp']; simp
            have hK := takeF_lt b1 0 0 K b2 (fun _ => by decide) hr
            rw [s1 K b2 hr, Option.bind_some]
            simp only [cond_true]
            rw [i64_in (1000 - (out.length : Int)) (by omega), i64_in ((i : Int) + 1) (by omega)]
            by_cases c1 : n ≤ maxN
            · have c1' : (n : Int) ≤ 2147483647 := by rw [← maxN_int]; omega
              rw [decide_eq_true c1, decide_eq_true c1', cond_true, Bool.true_and]
              by_cases c2 : 1 ≤ K
              · rw [decide_eq_true c2, decide_eq_true (show (K : Int) ≥ 1 by omega), cond_true, Bool.true_and]
                by_cases c3 : out.length + K ≤ 1000
                · rw [decide_eq_true c3, decide_eq_true (show (K : Int) ≤ 1000 - (out.length : Int) by omega), cond_true, Bool.true_and]
                  have hb8 : decide ((List.length out + List.length (List.replicate K (n : Int))) * (8 : Nat) ≤ (140737488355328 : Nat) ∧ List.length out + List.length (List.replicate K (n : Int)) ≤ (9223372036854775807 : Nat)) = true :=
                    decide_eq_true (by rw [List.length_replicate]; omega)
                  have next := ih (m' + 1) (i + 1) b2 (out ++ List.replicate K (n : Int)) (by omega) (by omega) (by omega) hb2 (by omega) (by rw [List.length_append, List.length_replicate]; omega)
                  rw [show ((i + 1 : Nat) : Int) = (i : Int) + 1 by omega] at next
                  rcases List.eq_nil_or_concat out with rfl | ⟨L, z, rfl⟩
                  · rw [show ((([] : List Int).length : Int) == 0) = true from rfl, cond_true, rep1 _ K (by omega), Option.bind_some, hb8, cond_true]
                    exact next
                  · rw [List.concat_eq_append] at *
                    have hlen : (L ++ [z]).length = L.length + 1 := by simp
                    have hl3 : (((L ++ [z]).length : Int) - 1).toNat = L.length := by omega
                    have hgl : ((L ++ [z]).getLast? == some (n : Int)) = (z == (n : Int)) := by simp
                    rw [show (((L ++ [z]).length : Int) == 0) = false by simp; omega, cond_false, i64_in (((L ++ [z]).length : Int) - 1) (by omega), decide_eq_true (show (0 : Int) ≤ ((L ++ [z]).length : Int) - 1 by omega), decide_eq_true (show ((L ++ [z]).length : Int) - 1 < ((L ++ [z]).length : Int) by omega), Bool.and_self, cond_true, hl3, show (L ++ [z])[L.length]? = some z by simp, Option.bind_some, hgl]
                    have hne : (z != (n : Int)) = !(z == (n : Int)) := rfl
                    rw [hne]
                    cases hz : z == (n : Int) with
                    | true =>
                      rw [Bool.not_true, cond_false, cond_false, load_off]
                      exact ⟨_, _, _, rfl, rfl⟩
                    | false =>
                      rw [Bool.not_false, cond_true, cond_true, rep1 _ K (by omega), Option.bind_some, hb8, cond_true]
                      exact next
                · rw [decide_eq_false c3, decide_eq_false (show ¬ (K : Int) ≤ 1000 - (out.length : Int) by omega), cond_false, load_off]
                  exact ⟨_, _, _, rfl, rfl⟩
              · rw [decide_eq_false c2, decide_eq_false (show ¬ (K : Int) ≥ 1 by omega), cond_false, load_off]
                exact ⟨_, _, _, rfl, rfl⟩
            · have c1' : ¬ (n : Int) ≤ 2147483647 := by rw [← maxN_int]; omega
              rw [decide_eq_false c1, decide_eq_false c1', cond_false, load_off]
              exact ⟨_, _, _, rfl, rfl⟩
      · rw [decide_eq_false (by omega), cond_false, show many - i = 0 by omega]
        exact ⟨_, _, _, rfl, rfl, rfl, rfl⟩

theorem load22 (b : List Int) (hb : okB b) (hl : b.length ≤ 100000000) : sched_Load b = some (loadT b) := by
  rw [sched_Load, sealF_eq]
  unfold sched_Load_f loadT
  obtain ⟨t1, t2⟩ := take1 b hb hl
  cases hq : takeF 0 0 b with
  | none =>
    obtain ⟨v, r, k1, k2, e⟩ := t2 hq
    rw [e, Option.bind_some]
    simp only
    have : sched_Load_l4 r false v 0 [] = some (r, false, []) := by
      rw [sched_Load_l4, sealF_eq, show fuel = (fuel - 1) + 1 by unfold fuel; omega, load_off]
    rw [this]
    rfl
  | some x =>
    obtain ⟨m, b1⟩ := x
    obtain ⟨p, hp, _⟩ := takeF_rest b 0 0 m b1 hq
    have hm := takeF_lt b 0 0 m b1 (fun _ => by decide) hq
    rw [t1 m b1 hq, Option.bind_some]
    simp only
    have hl1 : b1.length ≤ b.length := by rw [hp]; simp
    obtain ⟨b', is', out', e1, e2⟩ := loadLoop m hm m fuel 0 b1 [] (by omega) (by unfold fuel; omega) (by omega) (okB_rest hb hp) (by omega) (by simp)
    rw [show ((0 : Nat) : Int) = 0 from rfl] at e1
    rw [Nat.sub_zero] at e2
    rw [sched_Load_l4, sealF_eq, e1, Option.bind_some]
    simp only
    cases hr : loadF m b1 [] with
    | none =>
      rw [hr] at e2
      simp only at e2
      subst e2
      rfl
    | some x =>
      obtain ⟨r, o⟩ := x
      rw [hr] at e2
      simp only at e2
      obtain ⟨rfl, rfl, rfl⟩ := e2
      rw [Bool.not_true, cond_false]
      cases b' with
      | nil =>
        rw [decide_eq_false (by simp), cond_false, clip22]
        rfl
      | cons c r =>
        rw [decide_eq_true (show (((c :: r).length : Nat) : Int) > 0 by simp only [List.length_cons]; omega)]
        rfl
end Lift.A1P

/- Layer 22: the document's Load. -/
namespace Lift.A1P
open Go Go.RowKit Lift Go.IntWalk Lift.Fn

theorem loadFill (b b' : List Int) (many i x at_ : Int) (bad : Bool) (K : Nat) (hK : K ≤ 1000) : ∀ (k n j : Nat) (out : List Int), K - j ≤ k → k < n → j ≤ K → out.length + (K - j) ≤ 100000 →
    racetreeref22_Load_i12 n b many i x (K : Int) (j : Int) b' at_ bad out = some (b, many, i, b', at_, bad, out ++ List.replicate (K - j) x) := by
  intro k
  induction k with
  | zero =>
    intro n j out hk hn hi ho
    cases n with
    | zero => omega
    | succ n =>
      unfold racetreeref22_Load_i12 racetreeref22_Load_t12
      rw [decide_eq_false (by omega), cond_false, show K - j = 0 by omega]
      simp
  | succ k ih =>
    intro n j out hk hn hi ho
    cases n with
    | zero => omega
    | succ n =>
      unfold racetreeref22_Load_i12 racetreeref22_Load_t12
      by_cases h : j < K
      · have hb : decide ((List.length out + List.length [x]) * (8 : Nat) ≤ (140737488355328 : Nat) ∧ List.length out + List.length [x] ≤ (9223372036854775807 : Nat)) = true :=
          decide_eq_true (by simp only [List.length_cons, List.length_nil]; omega)
        rw [decide_eq_true (show (j : Int) < (K : Int) by omega), cond_true, hb, cond_true, i64_in _ (by omega)]
        have := ih n (j + 1) (out ++ [x]) (by omega) (by omega) (by omega) (by simp only [List.length_append, List.length_cons, List.length_nil]; omega)
        rw [show ((j + 1 : Nat) : Int) = (j : Int) + 1 by omega] at this
        rw [this, show K - j = (K - (j + 1)) + 1 by omega, List.replicate_succ, List.append_assoc]
        rfl
      · rw [decide_eq_false (by omega), cond_false, show K - j = 0 by omega]
        simp

theorem loadF_len : ∀ (m : Nat) (b out r o : List Int), loadF m b out = some (r, o) → out.length ≤ 1000 → out.length + m ≤ o.length ∧ o.length ≤ 1000 ∧ ∃ p, b = p ++ r
  | 0, b, out, r, o, h, ho => by cases h; exact ⟨by omega, ho, [], rfl⟩
  | m + 1, b, out, r, o, h, ho => by
    unfold loadF at h
    cases hq : takeF 0 0 b with
    | none => rw [hq] at h; cases h
    | some x =>
      obtain ⟨n, b1⟩ := x
      rw [hq] at h
      simp only at h
      cases hr : takeF 0 0 b1 with
      | none => rw [hr] at h; cases h
      | some x =>
        obtain ⟨K, b2⟩ := x
        rw [hr] at h
        simp only at h
        cases hc : (decide (n ≤ maxN) && (decide (1 ≤ K) && (decide (out.length + K ≤ 1000) && !(out.getLast? == some (n : Int))))) with
        | false => rw [hc] at h; cases h
        | true =>
          rw [hc, cond_true] at h
          simp only [Bool.and_eq_true, decide_eq_true_eq] at hc
          obtain ⟨i1, i2, p, i3⟩ := loadF_len m b2 _ r o h (by rw [List.length_append, List.length_replicate]; omega)
          rw [List.length_append, List.length_replicate] at i1
          obtain ⟨p1, e1, _⟩ := takeF_rest b 0 0 n b1 hq
          obtain ⟨p2, e2, _⟩ := takeF_rest b1 0 0 K b2 hr
          exact ⟨by omega, i2, p1 ++ p2 ++ p, by rw [e1, e2, i3]; simp⟩

theorem refLoad_off (m : Nat) (b b' : List Int) (many i at_ : Int) (out : List Int) : racetreeref22_Load_i5 (m + 1) b many i b' at_ true out = some (b, b', at_, true, out) := by
  unfold racetreeref22_Load_i5 racetreeref22_Load_t5
  cases decide (i < many) <;> rfl

theorem refLoadLoop (b : List Int) (hb : okB b) (hl : b.length ≤ 100000000) (many : Nat) (hm : many ≤ 1000) : ∀ (k m i a : Nat) (out : List Int), many - i ≤ k → k < m → i ≤ many → a ≤ b.length → out.length ≤ 1000 →
    ∃ (a' : Nat) (bad' : Bool) (out' : List Int), racetreeref22_Load_i5 m b (many : Int) (i : Int) b (a : Int) false out = some (b, b, (a' : Int), bad', out') ∧ (match loadF (many - i) (b.drop a) out with
      | some (r, o) => bad' = false ∧ a' = b.length - r.length ∧ out' = o
      | none => bad' = true) := by
  intro k
  induction k with
  | zero =>
    intro m i a out hk hmm hi ha ho
    cases m with
    | zero => omega
    | succ m =>
      unfold racetreeref22_Load_i5 racetreeref22_Load_t5
      rw [decide_eq_false (by omega), cond_false, show many - i = 0 by omega]
      exact ⟨a, _, _, rfl, rfl, by rw [List.length_drop]; omega, rfl⟩
  | succ k ih =>
    intro m i a out hk hmm hi ha ho
    cases m with
    | zero => omega
    | succ m =>
      unfold racetreeref22_Load_i5 racetreeref22_Load_t5
      by_cases h : i < many
      · rw [decide_eq_true (show (i : Int) < (many : Int) by omega), cond_true, Bool.not_false, cond_true, show many - i = (many - (i + 1)) + 1 by omega]
        unfold loadF
        obtain ⟨t1, t2⟩ := numb1 b hb hl maxN a ha
        rw [maxN_int] at t1 t2
        cases hq : takeF 0 0 (b.drop a) with
        | none =>
          obtain ⟨v, a1, _, e⟩ := t2 hq
          rw [e, Option.bind_some]
          simp only
          rw [numb_bad, Option.bind_some]
          exact ⟨a1, _, _, rfl, rfl⟩
        | some x =>
          obtain ⟨n, b1⟩ := x
          obtain ⟨p, hp, _⟩ := takeF_rest _ 0 0 n b1 hq
          obtain ⟨d1, d2, d3⟩ := drop_rest ha hp
          have hn := takeF_lt _ 0 0 n b1 (fun _ => by decide) hq
          rw [t1 n b1 hq, Option.bind_some, d1]
          simp only
          by_cases c1 : n ≤ maxN
          · rw [decide_eq_false (show ¬ n > maxN by omega)]
            obtain ⟨s1, s2⟩ := numb1 b hb hl 1000 (a + p.length) d3
            rw [show ((1000 : Nat) : Int) = 1000 from rfl, d2] at s1 s2
            cases hr : takeF 0 0 b1 with
            | none =>
              obtain ⟨v, a1, _, e⟩ := s2 hr
              rw [e, Option.bind_some]
              exact ⟨a1, _, _, rfl, rfl⟩
            | some x =>
              obtain ⟨K, b2⟩ := x
              obtain ⟨p', hp', _⟩ := takeF_rest b1 0 0 K b2 hr
              have hp'' : b.drop (a + p.length) = p' ++ b2 := by rw [d2]; exact hp'
              obtain ⟨g1, g2, g3⟩ := drop_rest d3 hp''
              have hK := takeF_lt b1 0 0 K b2 (fun _ => by decide) hr
              rw [s1 K b2 hr, Option.bind_some, g1]
              simp only
              rw [decide_eq_true c1, Bool.true_and]
              by_cases c4 : K > 1000
              · rw [decide_eq_true c4, cond_true, decide_eq_false (show ¬ out.length + K ≤ 1000 by omega)]
                simp only [Bool.false_and, Bool.and_false, cond_false]
                exact ⟨_, _, _, rfl, rfl⟩
              · rw [decide_eq_false c4, cond_false, i64_in (1000 - (out.length : Int)) (by omega)]
                by_cases c2 : 1 ≤ K
                · rw [decide_eq_true c2, decide_eq_false (show ¬ (K : Int) < 1 by omega), cond_false, Bool.true_and]
                  by_cases c3 : out.length + K ≤ 1000
                  · rw [decide_eq_true c3, decide_eq_false (show ¬ (K : Int) > 1000 - (out.length : Int) by omega), cond_false, Bool.true_and]
                    have next := ih m (i + 1) (a + p.length + p'.length) (out ++ List.replicate K (n : Int)) (by omega) (by omega) (by omega) g3 (by rw [List.length_append, List.length_replicate]; omega)
                    rw [show ((i + 1 : Nat) : Int) = (i : Int) + 1 by omega, g2] at next
                    have hfill := loadFill b b (many : Int) (i : Int) (n : Int) ((a + p.length + p'.length : Nat) : Int) false K (by omega) K fuel 0 out (by omega) (by unfold fuel; omega) (by omega) (by omega)
                    rw [show ((0 : Nat) : Int) = 0 from rfl, Nat.sub_zero] at hfill
                    have rest : (Option.bind (racetreeref22_Load_l12 b (many : Int) (i : Int) (n : Int) (K : Int) (0 : Int) b ((a + p.length + p'.length : Nat) : Int) false out) fun y3 =>
                        racetreeref22_Load_i5 m (Prod.fst y3) (Prod.fst (Prod.snd y3)) (IntKind.wrap IntKind.i64 (Prod.fst (Prod.snd (Prod.snd y3)) + (1 : Int))) (Prod.fst (Prod.snd (Prod.snd (Prod.snd y3)))) (Prod.fst (Prod.snd (Prod.snd (Prod.snd (Prod.snd y3))))) (Prod.fst (Prod.snd (Prod.snd (Prod.snd (Prod.snd (Prod.snd y3)))))) (Prod.snd (Prod.snd (Prod.snd (Prod.snd (Prod.snd (Prod.snd y3))))))) =
                        racetreeref22_Load_i5 m b (many : Int) ((i : Int) + 1) b ((a + p.length + p'.length : Nat) : Int) false (out ++ List.replicate K (n : Int)) := by
                      rw [racetreeref22_Load_l12, sealF_eq, hfill, Option.bind_some]
                      simp only
                      rw [i64_in _ (by omega)]
                    rcases List.eq_nil_or_concat out with rfl | ⟨L, z, rfl⟩
                    · rw [decide_eq_false (show ¬ ((([] : List Int).length : Nat) : Int) > 0 by simp), cond_false, rest]
                      exact next
                    · rw [List.concat_eq_append] at *
                      have hlen : (L ++ [z]).length = L.length + 1 := by simp
                      have hl3 : (((L ++ [z]).length : Int) - 1).toNat = L.length := by omega
                      have hgl : ((L ++ [z]).getLast? == some (n : Int)) = (z == (n : Int)) := by simp
                      rw [decide_eq_true (show ((L ++ [z]).length : Int) > 0 by omega), cond_true, i64_in (((L ++ [z]).length : Int) - 1) (by omega), decide_eq_true (show (0 : Int) ≤ ((L ++ [z]).length : Int) - 1 by omega), decide_eq_true (show ((L ++ [z]).length : Int) - 1 < ((L ++ [z]).length : Int) by omega), Bool.and_self, cond_true, hl3, show (L ++ [z])[L.length]? = some z by simp, Option.bind_some, hgl]
                      cases hz : z == (n : Int) with
                      | true =>
                        rw [cond_true, Bool.not_true, cond_false]
                        exact ⟨_, _, _, rfl, rfl⟩
                      | false =>
                        rw [cond_false, Bool.not_false, cond_true, rest]
                        exact next
                  · rw [decide_eq_false c3, decide_eq_true (show (K : Int) > 1000 - (out.length : Int) by omega), cond_true]
                    exact ⟨_, _, _, rfl, rfl⟩
                · rw [decide_eq_false c2, decide_eq_true (show (K : Int) < 1 by omega), cond_true]
                  exact ⟨_, _, _, rfl, rfl⟩
          · rw [decide_eq_true (show n > maxN by omega), numb_bad, Option.bind_some]
            cases hr : takeF 0 0 b1 with
            | none => exact ⟨_, _, _, rfl, rfl⟩
            | some x =>
              obtain ⟨K, b2⟩ := x
              simp only
              rw [decide_eq_false c1]
              exact ⟨_, _, _, rfl, rfl⟩
      · rw [decide_eq_false (by omega), cond_false, show many - i = 0 by omega]
        exact ⟨a, _, _, rfl, rfl, by rw [List.length_drop]; omega, rfl⟩

theorem refLoad22 (b : List Int) (hb : okB b) (hl : b.length ≤ 100000000) : racetreeref22_Load b = some (loadT b) := by
  rw [racetreeref22_Load, sealF_eq]
  unfold racetreeref22_Load_f loadT
  obtain ⟨t1, t2⟩ := numb1 b hb hl 1000 0 (Nat.zero_le _)
  rw [show ((0 : Nat) : Int) = 0 from rfl, show ((1000 : Nat) : Int) = 1000 from rfl, List.drop_zero] at t1 t2
  have off : ∀ (many at_ : Int), racetreeref22_Load_l5 b many 0 b at_ true [] = some (b, b, at_, true, []) := fun many at_ => by
    rw [racetreeref22_Load_l5, sealF_eq, show fuel = (fuel - 1) + 1 by unfold fuel; omega, refLoad_off]
  cases hq : takeF 0 0 b with
  | none =>
    obtain ⟨v, a1, _, e⟩ := t2 hq
    rw [e, Option.bind_some]
    simp only
    rw [off]
    rfl
  | some x =>
    obtain ⟨m, b1⟩ := x
    obtain ⟨p, hp, _⟩ := takeF_rest b 0 0 m b1 hq
    have hp0 : b.drop 0 = p ++ b1 := hp
    obtain ⟨d1, d2, d3⟩ := drop_rest (Nat.zero_le _) hp0
    rw [Nat.zero_add] at d1 d2 d3
    rw [t1 m b1 hq, Option.bind_some, d1]
    simp only
    by_cases hm : m ≤ 1000
    · rw [decide_eq_false (show ¬ m > 1000 by omega)]
      obtain ⟨a', bad', out', e1, e2⟩ := refLoadLoop b hb hl m hm m fuel 0 p.length [] (by omega) (by unfold fuel; omega) (by omega) d3 (by simp)
      rw [show ((0 : Nat) : Int) = 0 from rfl] at e1
      rw [Nat.sub_zero, d2] at e2
      rw [racetreeref22_Load_l5, sealF_eq, e1, Option.bind_some]
      simp only
      cases hr : loadF m b1 [] with
      | none =>
        rw [hr] at e2
        simp only at e2
        subst e2
        rfl
      | some x =>
        obtain ⟨r, o⟩ := x
        rw [hr] at e2
        simp only at e2
        obtain ⟨rfl, rfl, rfl⟩ := e2
        obtain ⟨_, _, p2, hp2⟩ := loadF_len m b1 [] r out' hr (by simp)
        have hrl : r.length ≤ b.length := by rw [hp, hp2]; simp; omega
        rw [cond_false]
        cases r with
        | nil =>
          rw [decide_eq_false (by simp), cond_false]
        | cons c r =>
          rw [decide_eq_true (by simp only [List.length_cons] at hrl ⊢; omega)]
          rfl
    · rw [decide_eq_true (show m > 1000 by omega), off]
      cases hr : loadF m b1 [] with
      | none => rfl
      | some x =>
        obtain ⟨r, o⟩ := x
        obtain ⟨h1, h2, _⟩ := loadF_len m b1 [] r o hr (by simp)
        simp only [List.length_nil] at h1
        omega
end Lift.A1P

/- Layer 22: there and back. -/
namespace Lift.A1P
open Go Go.RowKit Lift Go.IntWalk Lift.Fn

def expandR (rs : List Run) : List Int := rs.flatMap fun r => List.replicate r.times.toNat r.n

/-- Runs that may stand behind numbers. -/
def goodR : Option Int → Nat → List Run → Prop
  | _, _, [] => True
  | p, len, r :: rs => (0 ≤ r.n ∧ r.n ≤ 2147483647) ∧ (1 ≤ r.times ∧ len + r.times.toNat ≤ 1000) ∧ p ≠ some r.n ∧ goodR (some r.n) (len + r.times.toNat) rs

def adjR : List Run → Prop
  | r :: s :: rs => r.n ≠ s.n ∧ adjR (s :: rs)
  | _ => True

theorem expand_cons (r : Run) (rs : List Run) : expandR (r :: rs) = List.replicate r.times.toNat r.n ++ expandR rs := rfl
theorem expand_append (a b : List Run) : expandR (a ++ b) = expandR a ++ expandR b := by simp [expandR]

theorem adj_add : ∀ (rs : List Run) (n : Int), adjR rs → adjR (addRun rs n)
  | [], n, _ => trivial
  | [r], n, _ => by
    unfold addRun
    cases h : r.n == n with
    | true => trivial
    | false => exact ⟨by simpa using h, trivial⟩
  | r :: s :: rs, n, h => by
    have ih := adj_add (s :: rs) n h.2
    have e : addRun (r :: s :: rs) n = r :: addRun (s :: rs) n := rfl
    rw [e]
    have hh : ∃ s' rs', addRun (s :: rs) n = s' :: rs' ∧ s'.n = s.n := by
      cases rs with
      | nil =>
        unfold addRun
        cases s.n == n with
        | true => exact ⟨_, _, rfl, rfl⟩
        | false => exact ⟨_, _, rfl, rfl⟩
      | cons t rs => exact ⟨_, _, rfl, rfl⟩
    obtain ⟨s', rs', e', hn⟩ := hh
    rw [e'] at ih ⊢
    exact ⟨by rw [hn]; exact h.1, ih⟩

theorem expand_add (rs : List Run) (n : Int) (h : ∀ r ∈ rs, 0 ≤ r.times) : expandR (addRun rs n) = expandR rs ++ [n] := by
  rcases List.eq_nil_or_concat rs with rfl | ⟨L, r, rfl⟩
  · rfl
  · rw [List.concat_eq_append] at *
    rw [addRun_snoc, expand_append]
    have ht := h r (by simp)
    cases hq : r.n == n with
    | true =>
      have : r.n = n := by simpa using hq
      subst this
      rw [cond_true, expand_append, expand_cons, expand_cons]
      simp only
      rw [show (r.times + 1).toNat = r.times.toNat + 1 by omega, List.replicate_succ']
      simp [expandR]
    | false =>
      rw [cond_false, expand_append]
      simp [expandR]

theorem runs_expand : ∀ (l : List Int) (rs : List Run), (∀ r ∈ rs, 0 ≤ r.times) → expandR (l.foldl addRun rs) = expandR rs ++ l
  | [], rs, _ => by simp
  | n :: l, rs, h => by
    rw [List.foldl_cons, runs_expand l _ (addRun_mem (P := fun r => 0 ≤ r.times) h (show (0 : Int) ≤ 1 by omega) (fun r hr _ => by simp only; omega)), expand_add rs n h, List.append_assoc]
    rfl

theorem runs_adj : ∀ (l : List Int) (rs : List Run), adjR rs → adjR (l.foldl addRun rs)
  | [], rs, h => h
  | n :: l, rs, h => runs_adj l _ (adj_add rs n h)

theorem good_of : ∀ (rs : List Run) (p : Option Int) (len : Nat), (∀ r, rs.head? = some r → p ≠ some r.n) → adjR rs → (∀ r ∈ rs, okRun r) → len + (expandR rs).length ≤ 1000 → goodR p len rs
  | [], _, _, _, _, _, _ => trivial
  | r :: rs, p, len, hp, ha, hok, hl => by
    obtain ⟨h1, h2, h3, h4⟩ := hok r (by simp)
    rw [expand_cons, List.length_append, List.length_replicate] at hl
    refine ⟨⟨h1, h2⟩, ⟨h3, by omega⟩, hp r rfl, good_of rs _ _ (fun s hs => ?_) ?_ (fun s hs => hok s (by simp [hs])) (by omega)⟩
    · cases rs with
      | nil => cases hs
      | cons t rs =>
        cases hs
        intro e
        exact ha.1 (Option.some.inj e)
    · cases rs with
      | nil => trivial
      | cons t rs => exact ha.2

theorem runs_good {l : List Int} (hl : l.length ≤ 1000) (ha : l.all okNum = true) : goodR none 0 (runsS l) ∧ expandR (runsS l) = l := by
  have e : expandR (runsS l) = l := by
    have := runs_expand l [] (fun r h => by cases h)
    exact this
  exact ⟨good_of _ none 0 (fun r _ h => by cases h) (runs_adj l [] trivial) (runs_ok l hl ha) (by rw [e]; omega), e⟩

theorem good_len : ∀ (rs : List Run) (p : Option Int) (len : Nat), goodR p len rs → len ≤ 1000 → len + (expandR rs).length ≤ 1000
  | [], _, _, _, h => by simp [expandR]; exact h
  | r :: rs, p, len, h, hl => by
    obtain ⟨_, ⟨_, h2⟩, _, h4⟩ := h
    have := good_len rs _ _ h4 h2
    rw [expand_cons, List.length_append, List.length_replicate]
    omega

theorem good_all : ∀ (rs : List Run) (p : Option Int) (len : Nat), goodR p len rs → (expandR rs).all okNum = true
  | [], _, _, _ => rfl
  | r :: rs, p, len, h => by
    obtain ⟨⟨h0, h1⟩, _, _, h4⟩ := h
    rw [expand_cons, List.all_append, good_all rs _ _ h4, Bool.and_true, List.all_eq_true]
    intro x hx
    rw [List.eq_of_mem_replicate hx]
    unfold okNum
    rw [decide_eq_true h0, decide_eq_true h1]
    rfl

theorem add_same (acc : List Run) (n : Int) (hl : ∀ r, acc.getLast? = some r → r.n ≠ n) : ∀ k : Nat, (List.replicate (k + 1) n).foldl addRun acc = acc ++ [⟨n, ((k + 1 : Nat) : Int)⟩]
  | 0 => by
    show addRun acc n = _
    rcases List.eq_nil_or_concat acc with rfl | ⟨L, r, rfl⟩
    · rfl
    · rw [List.concat_eq_append] at *
      have : (r.n == n) = false := by simpa using hl r (by simp)
      rw [addRun_snoc, this, cond_false]
      simp
  | k + 1 => by
    rw [List.replicate_succ', List.foldl_append, add_same acc n hl k]
    show addRun (acc ++ [⟨n, ((k + 1 : Nat) : Int)⟩]) n = _
    rw [addRun_snoc]
    simp

theorem runs_back : ∀ (rs acc : List Run) (len : Nat), goodR (acc.getLast?.map (·.n)) len rs → (expandR rs).foldl addRun acc = acc ++ rs
  | [], acc, _, _ => by simp [expandR]
  | r :: rs, acc, len, h => by
    obtain ⟨_, ⟨h1, _⟩, hp, h4⟩ := h
    have ht : r.times.toNat = (r.times.toNat - 1) + 1 := by omega
    rw [expand_cons, List.foldl_append, ht, add_same acc r.n (fun s hs e => hp (by rw [hs, ← e]; rfl)) (r.times.toNat - 1)]
    have hr : (⟨r.n, ((r.times.toNat - 1 + 1 : Nat) : Int)⟩ : Run) = r := by
      cases r with
      | mk n t => simp only at h1 ⊢; congr 1; omega
    rw [hr, runs_back rs (acc ++ [r]) (len + r.times.toNat) (by simpa using h4), List.append_assoc]
    rfl

theorem runs_of_good {rs : List Run} (h : goodR none 0 rs) : (runsR (expandR rs)) = (0, rs) := by
  have hl := good_len rs none 0 h (by omega)
  unfold runsR
  rw [decide_eq_false (by omega), cond_false, good_all rs none 0 h, cond_true]
  congr 1
  exact runs_back rs [] 0 h

theorem last_rep (out : List Int) (k : Nat) (n : Int) (hk : 1 ≤ k) : (out ++ List.replicate k n).getLast? = some n := by
  rw [show k = (k - 1) + 1 by omega, List.replicate_succ', ← List.append_assoc]
  simp

/-! Read of Print; Print of Read. -/
theorem readS_fwd : ∀ (rs : List Run) (a : Nat) (out : List Int), goodR out.getLast? out.length rs → readS (rs.map fieldR) a out = .inr (out ++ expandR rs)
  | [], a, out, _ => by simp [readS, expandR]
  | r :: rs, a, out, h => by
    obtain ⟨⟨h0, h1⟩, ⟨h2, h3⟩, hp, h4⟩ := h
    have hf : fieldP (fieldR r) = some (r.n.toNat, r.times.toNat) := fieldP_S (by unfold maxN; omega) (by omega) (by omega)
    rw [List.map_cons]
    unfold readS
    rw [hf]
    simp only
    rw [Int.toNat_of_nonneg h0]
    have : (out.getLast? == some r.n) = false := by simpa using hp
    rw [this, cond_false, decide_eq_false (by omega), cond_false]
    rw [readS_fwd rs _ _ (by rw [last_rep _ _ _ (by omega), List.length_append, List.length_replicate]; exact h4), expand_cons, List.append_assoc]

theorem readS_inv : ∀ (ps : List (List UInt8)) (a : Nat) (out o : List Int), readS ps a out = .inr o → ∃ rs : List Run, ps = rs.map fieldR ∧ goodR out.getLast? out.length rs ∧ o = out ++ expandR rs
  | [], a, out, o, h => by cases h; exact ⟨[], rfl, trivial, by simp [expandR]⟩
  | p :: ps, a, out, o, h => by
    unfold readS at h
    cases hq : fieldP p with
    | none => rw [hq] at h; cases h
    | some x =>
      obtain ⟨n, k⟩ := x
      rw [hq] at h
      simp only at h
      obtain ⟨hs, hn, h1, hk⟩ := fieldP_inv hq
      cases hg : out.getLast? == some (n : Int) with
      | true => rw [hg] at h; cases h
      | false =>
        rw [hg, cond_false] at h
        cases hc : decide (out.length + k > 1000) with
        | true => rw [hc] at h; cases h
        | false =>
          rw [hc, cond_false] at h
          have hc' := of_decide_eq_false hc
          obtain ⟨rs, e1, e2, e3⟩ := readS_inv ps _ _ o h
          rw [last_rep _ _ _ h1, List.length_append, List.length_replicate] at e2
          refine ⟨⟨n, k⟩ :: rs, ?_, ⟨⟨by simp only; omega, by unfold maxN at hn; simp only; omega⟩, ⟨by simp only; omega, by simp only; omega⟩, by simpa using hg, by simpa using e2⟩, ?_⟩
          · rw [List.map_cons, e1]
            congr 1
          · rw [e3, expand_cons, List.append_assoc]
            simp

theorem pieces_join22 (c : UInt8) : ∀ (l : List (List UInt8)), l ≠ [] → (∀ w ∈ l, c ∉ w) → pieces c (Lib.join l [c]) = l
  | [], h, _ => absurd rfl h
  | [w], _, h => by rw [Lib.join_one, pieces_cut, cutS_free c w (h w (by simp))]
  | w :: v :: l, _, h => by
    have ih := pieces_join22 c (v :: l) (by simp) (fun x hx => h x (by simp only [List.mem_cons] at hx ⊢; exact .inr hx))
    rw [Lib.join_cons] at ih
    rw [Lib.join_cons]
    have : Lib.joinTail [c] (v :: l) = c :: (v ++ Lib.joinTail [c] l) := by simp [Lib.joinTail]
    rw [this, pieces_cut, cutS_app c w _ (h w (by simp))]
    simp only
    rw [ih]

theorem join_pieces (c : UInt8) : ∀ (n : Nat) (s : List UInt8), s.length ≤ n → Lib.join (pieces c s) [c] = s := by
  intro n
  induction n with
  | zero =>
    intro s h
    have : s = [] := List.eq_nil_of_length_eq_zero (by omega)
    subst this
    rfl
  | succ n ih =>
    intro s h
    rw [pieces_cut]
    cases hq : cutS c s with
    | none => simp only; rw [Lib.join_one]
    | some p =>
      obtain ⟨a, b⟩ := p
      obtain ⟨rfl, _⟩ := cutS_some hq
      simp only [List.length_append, List.length_cons] at h
      have i := ih b (by omega)
      simp only
      rw [Lib.join_cons]
      have hne : pieces c b ≠ [] := by
        rw [pieces_cut]
        cases cutS c b with
        | none => simp
        | some p => simp
      cases hb : pieces c b with
      | nil => exact absurd hb hne
      | cons w l =>
        rw [hb, Lib.join_cons] at i
        have : Lib.joinTail [c] (w :: l) = c :: (w ++ Lib.joinTail [c] l) := by simp [Lib.joinTail]
        rw [this, i]

theorem field_free (r : Run) : (32 : UInt8) ∉ fieldR r := by
  unfold fieldR fieldS
  intro hm
  rcases List.mem_append.1 hm with h | h
  · exact dec_free (by decide) _ h
  · cases hc : decide (2 ≤ r.times.toNat) with
    | true =>
      rw [hc, cond_true] at h
      rcases List.mem_cons.1 h with e | e
      · exact absurd e (by decide)
      · exact dec_free (by decide) _ e
    | false => rw [hc] at h; cases h

theorem field_ne (r : Run) : fieldR r ≠ [] := by
  unfold fieldR fieldS
  have := (val_dec r.n.toNat).2.2.1
  intro h
  exact this (List.append_eq_nil_iff.1 h).1

theorem readT_print {rs : List Run} (h : goodR none 0 rs) : readT (printS rs) = (Fault.mk 0 0 [], expandR rs) := by
  unfold readT printS
  cases rs with
  | nil => rfl
  | cons r rs =>
    have hne : (Lib.join ((r :: rs).map fieldR) [32] == []) = false := by
      rw [beq_eq_false_iff_ne, List.map_cons, Lib.join_cons]
      intro e
      exact field_ne r (List.append_eq_nil_iff.1 e).1
    rw [hne, cond_false, pieces_join22 32 _ (by simp) (fun w hw => by
      obtain ⟨x, _, rfl⟩ := List.mem_map.1 hw
      exact field_free x), readS_fwd (r :: rs) 0 [] h]
    rfl

theorem readT_inv {s : List UInt8} {l : List Int} {F : Fault} (h : readT s = (F, l)) (hF : F.code = 0) : ∃ rs, goodR none 0 rs ∧ l = expandR rs ∧ s = printS rs := by
  unfold readT at h
  cases hz : s == [] with
  | true =>
    rw [hz] at h
    cases h
    have : s = [] := by simpa using hz
    exact ⟨[], trivial, rfl, this⟩
  | false =>
    rw [hz, cond_false] at h
    cases hq : readS (pieces 32 s) 0 [] with
    | inl x =>
      obtain ⟨c, b⟩ := x
      rw [hq] at h
      cases h
      -- a fault has a code
      exfalso
      have key : ∀ (ps : List (List UInt8)) (a : Nat) (out : List Int) (c : Int) (b : Nat), readS ps a out = .inl (c, b) → c ≠ 0 := by
        intro ps
        induction ps with
        | nil => intro a out c b h; cases h
        | cons p ps ih =>
          intro a out c b h
          unfold readS at h
          cases hp : fieldP p with
          | none => rw [hp] at h; cases h; decide
          | some x =>
            obtain ⟨n, k⟩ := x
            rw [hp] at h
            simp only at h
            cases hg : out.getLast? == some (n : Int) with
            | true => rw [hg] at h; cases h; decide
            | false =>
              rw [hg, cond_false] at h
              cases hc : decide (out.length + k > 1000) with
              | true => rw [hc] at h; cases h; decide
              | false => rw [hc, cond_false] at h; exact ih _ _ _ _ h
      exact key _ _ _ _ _ hq hF
    | inr o =>
      rw [hq] at h
      cases h
      obtain ⟨rs, e1, e2, e3⟩ := readS_inv _ _ _ _ hq
      refine ⟨rs, e2, e3, ?_⟩
      unfold printS
      rw [← e1, join_pieces 32 s.length s (Nat.le_refl _)]

/-! Load of Bytes; Bytes of Load. -/
theorem putF_succ (f n : Nat) : putF (f + 1) n = bif decide (n < 128) then [(n : Int)] else ((128 + n % 128 : Nat) : Int) :: putF f (n / 128) := rfl

theorem putF_more : ∀ (f n : Nat), n < 128 ^ (f + 1) → putF (f + 1) n = putF f n
  | 0, n, h => by
    unfold putF
    rw [decide_eq_true (by omega), cond_true]
  | f + 1, n, h => by
    have e : putF (f + 1 + 1) n = bif decide (n < 128) then [(n : Int)] else ((128 + n % 128 : Nat) : Int) :: putF (f + 1) (n / 128) := rfl
    have e' : putF (f + 1) n = bif decide (n < 128) then [(n : Int)] else ((128 + n % 128 : Nat) : Int) :: putF f (n / 128) := rfl
    rw [e, e', putF_more f (n / 128) (by rw [Nat.pow_succ] at h; omega)]

theorem split128 (n P : Nat) : n % 128 * P + n / 128 * (P * 128) = n * P := by
  have : n = n % 128 + 128 * (n / 128) := by omega
  conv => rhs; rw [this, Nat.add_mul]
  congr 1
  rw [Nat.mul_comm 128, Nat.mul_assoc, Nat.mul_comm 128]

theorem take_put : ∀ (f i n acc : Nat) (rest : List Int), f + i = 5 → n < 128 ^ f → 1 ≤ f → (0 < i → 0 < n) → takeF i acc (putF f n ++ rest) = some (acc + n * 128 ^ i, rest)
  | 0, i, n, acc, rest, _, _, h, _ => by omega
  | f + 1, i, n, acc, rest, hf, hn, _, h0 => by
    have hz : ∀ (c : Int), (bif i == 0 || decide (0 < c) then true else false) = (i == 0 || decide (0 < c)) := fun c => by cases (i == 0 || decide (0 < c)) <;> rfl
    by_cases h : n < 128
    · have e : putF (f + 1) n = [(n : Int)] := by rw [putF_succ, decide_eq_true h]; rfl
      rw [e]
      show takeF i acc ((n : Int) :: rest) = _
      unfold takeF
      have hzz : (i == 0 || decide (0 < (n : Int))) = true := by
        by_cases hi : i = 0
        · simp [hi]
        · have := h0 (by omega)
          rw [decide_eq_true (by omega), Bool.or_true]
      rw [decide_eq_false (show ¬ 4 < i by omega), cond_false, decide_eq_true (by omega), cond_true, hzz, cond_true, Int.toNat_natCast, Nat.mod_eq_of_lt h]
    · have e : putF (f + 1) n = ((128 + n % 128 : Nat) : Int) :: putF f (n / 128) := by rw [putF_succ, decide_eq_false h]; rfl
      have hf1 : 1 ≤ f := by
        cases f with
        | zero => simp at hn; omega
        | succ f => omega
      rw [e]
      show takeF i acc (((128 + n % 128 : Nat) : Int) :: (putF f (n / 128) ++ rest)) = _
      unfold takeF
      rw [decide_eq_false (show ¬ 4 < i by omega), cond_false, decide_eq_false (by omega), cond_false, Int.toNat_natCast, show (128 + n % 128) % 128 = n % 128 by omega]
      rw [take_put f (i + 1) (n / 128) _ rest (by omega) (by rw [Nat.pow_succ] at hn; omega) hf1 (fun _ => by omega), Nat.pow_succ, Nat.add_assoc, split128]

theorem take_putS (n : Nat) (hn : n < 34359738368) (rest : List Int) : takeF 0 0 (putS n ++ rest) = some (n, rest) := by
  have h5 : (128 : Nat) ^ 5 = 34359738368 := by decide
  have := take_put 5 0 n 0 rest (by omega) (by omega) (by omega) (fun h => by omega)
  simp only [Nat.pow_zero, Nat.mul_one, Nat.zero_add] at this
  exact this

theorem take_inv : ∀ (b : List Int) (f i acc v : Nat) (r : List Int), okB b → f + i = 5 → takeF i acc b = some (v, r) → ∃ n, v = acc + n * 128 ^ i ∧ b = putF f n ++ r ∧ n < 128 ^ f ∧ (0 < i → 0 < n)
  | [], f, i, acc, v, r, _, _, h => by cases h
  | c :: b, f, i, acc, v, r, hb, hf, h => by
    unfold takeF at h
    obtain ⟨c0, c1⟩ := hb c (by simp)
    cases h4 : decide (4 < i) with
    | true => rw [h4] at h; cases h
    | false =>
      have h4' := of_decide_eq_false h4
      rw [h4, cond_false] at h
      obtain ⟨g, rfl⟩ : ∃ g, f = g + 1 := ⟨f - 1, by omega⟩
      cases hc : decide (c < 128) with
      | true =>
        have hc' := of_decide_eq_true hc
        rw [hc, cond_true] at h
        cases hz : (i == 0 || decide (0 < c)) with
        | false => rw [hz] at h; cases h
        | true =>
          rw [hz] at h
          cases h
          have hp : 128 ≤ (128 : Nat) ^ (g + 1) := by rw [Nat.pow_succ]; have : 0 < (128 : Nat) ^ g := Nat.pow_pos (by decide); omega
          refine ⟨c.toNat, by rw [Nat.mod_eq_of_lt (by omega)], ?_, by omega, fun hi => ?_⟩
          · have e : putF (g + 1) c.toNat = [(c.toNat : Int)] := by rw [putF_succ, decide_eq_true (by omega)]; rfl
            rw [e, Int.toNat_of_nonneg c0]
            rfl
          · rw [Bool.or_eq_true] at hz
            rcases hz with hz | hz
            · have : i = 0 := by simpa using hz
              omega
            · have := of_decide_eq_true hz
              omega
      | false =>
        have hc' := of_decide_eq_false hc
        rw [hc, cond_false] at h
        obtain ⟨n, e1, e2, e3, e4⟩ := take_inv b g (i + 1) _ v r (fun x hx => hb x (by simp [hx])) (by omega) h
        have hn := e4 (by omega)
        have hm : c.toNat % 128 < 128 := Nat.mod_lt _ (by decide)
        refine ⟨c.toNat % 128 + 128 * n, ?_, ?_, by rw [Nat.pow_succ]; omega, fun _ => by omega⟩
        · have := split128 (c.toNat % 128 + 128 * n) (128 ^ i)
          rw [show (c.toNat % 128 + 128 * n) % 128 = c.toNat % 128 by omega, show (c.toNat % 128 + 128 * n) / 128 = n by omega, ← Nat.pow_succ] at this
          rw [e1, Nat.add_assoc, this]
        · have e : putF (g + 1) (c.toNat % 128 + 128 * n) = ((128 + (c.toNat % 128 + 128 * n) % 128 : Nat) : Int) :: putF g ((c.toNat % 128 + 128 * n) / 128) := by rw [putF_succ, decide_eq_false (by omega)]; rfl
          rw [e, show (c.toNat % 128 + 128 * n) % 128 = c.toNat % 128 by omega, show (c.toNat % 128 + 128 * n) / 128 = n by omega, e2]
          have : ((128 + c.toNat % 128 : Nat) : Int) = c := by omega
          rw [this]
          rfl

theorem take_invS {b : List Int} {v : Nat} {r : List Int} (hb : okB b) (h : takeF 0 0 b = some (v, r)) : b = putS v ++ r := by
  obtain ⟨n, e1, e2, _, _⟩ := take_inv b 5 0 0 v r hb (by omega) h
  simp only [Nat.pow_zero, Nat.mul_one, Nat.zero_add] at e1
  rw [e1]
  exact e2

theorem loadF_fwd : ∀ (rs : List Run) (rest out : List Int), goodR out.getLast? out.length rs → loadF rs.length (rs.flatMap runB ++ rest) out = some (rest, out ++ expandR rs)
  | [], rest, out, _ => by simp [loadF, expandR]
  | r :: rs, rest, out, h => by
    obtain ⟨⟨h0, h1⟩, ⟨h2, h3⟩, hp, h4⟩ := h
    rw [List.length_cons, List.flatMap_cons]
    unfold loadF
    have e : runB r ++ rs.flatMap runB ++ rest = putS r.n.toNat ++ (putS r.times.toNat ++ (rs.flatMap runB ++ rest)) := by unfold runB; simp
    rw [e, take_putS _ (by omega)]
    simp only
    rw [take_putS _ (by omega)]
    simp only
    rw [Int.toNat_of_nonneg h0]
    have : (out.getLast? == some r.n) = false := by simpa using hp
    rw [this, decide_eq_true (show r.n.toNat ≤ maxN by unfold maxN; omega), decide_eq_true (show 1 ≤ r.times.toNat by omega), decide_eq_true h3]
    simp only [Bool.not_false, Bool.and_self, cond_true]
    rw [loadF_fwd rs rest _ (by rw [last_rep _ _ _ (by omega), List.length_append, List.length_replicate]; exact h4), expand_cons, List.append_assoc]

theorem loadF_inv : ∀ (m : Nat) (b out r o : List Int), okB b → loadF m b out = some (r, o) → ∃ rs : List Run, rs.length = m ∧ goodR out.getLast? out.length rs ∧ b = rs.flatMap runB ++ r ∧ o = out ++ expandR rs
  | 0, b, out, r, o, _, h => by cases h; exact ⟨[], rfl, trivial, rfl, by simp [expandR]⟩
  | m + 1, b, out, r, o, hb, h => by
    unfold loadF at h
    cases hq : takeF 0 0 b with
    | none => rw [hq] at h; cases h
    | some x =>
      obtain ⟨n, b1⟩ := x
      rw [hq] at h
      simp only at h
      have i1 := take_invS hb hq
      have hb1 := okB_rest hb i1
      cases hr : takeF 0 0 b1 with
      | none => rw [hr] at h; cases h
      | some x =>
        obtain ⟨K, b2⟩ := x
        rw [hr] at h
        simp only at h
        have i2 := take_invS hb1 hr
        have hb2 := okB_rest hb1 i2
        cases hc : (decide (n ≤ maxN) && (decide (1 ≤ K) && (decide (out.length + K ≤ 1000) && !(out.getLast? == some (n : Int))))) with
        | false => rw [hc] at h; cases h
        | true =>
          rw [hc, cond_true] at h
          simp only [Bool.and_eq_true, decide_eq_true_eq, Bool.not_eq_true'] at hc
          obtain ⟨k1, k2, k3, k4⟩ := hc
          obtain ⟨rs, e0, e1, e2, e3⟩ := loadF_inv m b2 _ r o hb2 h
          rw [last_rep _ _ _ k2, List.length_append, List.length_replicate] at e1
          refine ⟨⟨n, K⟩ :: rs, by rw [List.length_cons, e0], ⟨⟨by simp only; omega, by unfold maxN at k1; simp only; omega⟩, ⟨by simp only; omega, by simp only; omega⟩, by simpa using k4, by simpa using e1⟩, ?_, ?_⟩
          · rw [i1, i2, e2]
            simp [runB]
          · rw [e3, expand_cons, List.append_assoc]
            simp

theorem good_count : ∀ (rs : List Run) (p : Option Int) (len : Nat), goodR p len rs → rs.length ≤ (expandR rs).length
  | [], _, _, _ => Nat.zero_le _
  | r :: rs, p, len, h => by
    obtain ⟨_, ⟨h2, _⟩, _, h4⟩ := h
    have := good_count rs _ _ h4
    rw [expand_cons, List.length_append, List.length_replicate, List.length_cons]
    omega

theorem loadT_bytes {rs : List Run} (h : goodR none 0 rs) : loadT (bytesS rs) = (0, expandR rs) := by
  have h1 := good_count rs none 0 h
  have h2 := good_len rs none 0 h (by omega)
  unfold loadT bytesS
  rw [take_putS _ (by omega)]
  simp only
  have := loadF_fwd rs [] [] h
  rw [List.append_nil] at this
  rw [this]
  rfl

theorem loadT_inv {b l : List Int} (hb : okB b) (h : loadT b = (0, l)) : ∃ rs, goodR none 0 rs ∧ l = expandR rs ∧ b = bytesS rs := by
  unfold loadT at h
  cases hq : takeF 0 0 b with
  | none => rw [hq] at h; cases h
  | some x =>
    obtain ⟨m, b1⟩ := x
    rw [hq] at h
    simp only at h
    have i1 := take_invS hb hq
    cases hr : loadF m b1 [] with
    | none => rw [hr] at h; cases h
    | some x =>
      obtain ⟨r, o⟩ := x
      rw [hr] at h
      cases r with
      | cons c r => cases h
      | nil =>
        cases h
        obtain ⟨rs, e0, e1, e2, e3⟩ := loadF_inv m b1 [] [] l (okB_rest hb i1) hr
        refine ⟨rs, e1, e3, ?_⟩
        rw [i1, e2, List.append_nil]
        unfold bytesS
        rw [e0]

theorem putF_ok : ∀ (f n : Nat), n < 128 ^ (f + 1) → okB (putF f n)
  | 0, n, h => fun c hc => by
    simp only [putF, List.mem_singleton] at hc
    subst hc
    omega
  | f + 1, n, h => fun c hc => by
    unfold putF at hc
    cases hd : decide (n < 128) with
    | true =>
      have := of_decide_eq_true hd
      rw [hd] at hc
      simp only [cond_true, List.mem_singleton] at hc
      subst hc
      omega
    | false =>
      rw [hd, cond_false] at hc
      rcases List.mem_cons.1 hc with e | e
      · subst e; omega
      · exact putF_ok f (n / 128) (by rw [Nat.pow_succ] at h; omega) c e

theorem bytes_ok {rs : List Run} (h : goodR none 0 rs) : okB (bytesS rs) := by
  have h1 := good_count rs none 0 h
  have h2 := good_len rs none 0 h (by omega)
  have h6 : (128 : Nat) ^ (5 + 1) = 4398046511104 := by decide
  have hr : ∀ (rs : List Run) (p : Option Int) (len : Nat), goodR p len rs → ∀ r ∈ rs, 0 ≤ r.n ∧ r.n ≤ 2147483647 ∧ r.times.toNat ≤ 1000 := by
    intro rs
    induction rs with
    | nil => intro _ _ _ r hr; cases hr
    | cons s rs ih =>
      intro p len h r hr
      obtain ⟨⟨a, b⟩, ⟨_, d⟩, _, e⟩ := h
      rcases List.mem_cons.1 hr with rfl | hr
      · exact ⟨a, b, by omega⟩
      · exact ih _ _ e r hr
  intro c hc
  unfold bytesS at hc
  rcases List.mem_append.1 hc with e | e
  · exact putF_ok 5 _ (by omega) c e
  · obtain ⟨r, hm, e⟩ := List.mem_flatMap.1 e
    obtain ⟨a, b, d⟩ := hr rs none 0 h r hm
    unfold runB at e
    rcases List.mem_append.1 e with e | e
    · exact putF_ok 5 _ (by omega) c e
    · exact putF_ok 5 _ (by omega) c e

theorem bytes_len {rs : List Run} (h : rs.length ≤ 1000) : (bytesS rs).length ≤ 12006 := by
  have : ∀ rs : List Run, (rs.flatMap runB).length ≤ rs.length * 12 := by
    intro rs
    induction rs with
    | nil => simp
    | cons r rs ih =>
      have := runB_len r
      rw [List.flatMap_cons, List.length_append, List.length_cons]
      omega
  have h1 := this rs
  have h2 := putF_len 5 rs.length
  unfold bytesS putS
  rw [List.length_append]
  omega
end Lift.A1P

/- Layer 22: the laws, plain. -/
namespace Lift.A1P
open Go Go.RowKit Lift Go.IntWalk Lift.Fn

theorem set_first (L R : List Int) (x y : Int) : (L ++ x :: R).set L.length y = L ++ y :: R := by
  rw [List.set_append_right _ _ (Nat.le_refl _), Nat.sub_self]
  rfl

theorem get_first (L R : List Int) (x : Int) : (L ++ x :: R)[L.length]? = some x := by
  rw [List.getElem?_append_right (Nat.le_refl _), Nat.sub_self]
  rfl

theorem room22 (l : List Int) (x y : Int) : List.take (List.length [x, y] + l.length) l ++ List.drop l.length (List.replicate (l.length + 2) (0 : Int)) = l ++ [0, 0] := by
  rw [List.take_of_length_le (by simp), List.drop_replicate, show l.length + 2 - l.length = 2 by omega]
  rfl

theorem wrap64 {n : Int} (h0 : -9223372036854775808 ≤ n) (h1 : n ≤ 9223372036854775807) : IntKind.wrap IntKind.i64 n = n := i64_in n (by omega)

theorem lent1 (l : List Int) (hl : l.length ≤ 10000000) : racetreelaw22_lent l = some (l ++ [-77, -78]) := by
  unfold racetreelaw22_lent
  rw [sealF_eq]
  unfold racetreelaw22_lent_f
  have e2 : IntKind.wrap IntKind.i64 ((l.length : Int) + 2) = ((l.length + 2 : Nat) : Int) := wrap64 (by omega) (by omega)
  have e1 : IntKind.wrap IntKind.i64 ((l.length : Int) + 1) = ((l.length + 1 : Nat) : Int) := wrap64 (by omega) (by omega)
  rw [e2, e1, Int.toNat_natCast, Int.toNat_natCast, Int.toNat_natCast]
  have hroom : List.take (List.length (List.replicate (l.length + 2) (0 : Int))) l ++ List.drop l.length (List.replicate (l.length + 2) (0 : Int)) = l ++ [0, 0] := by
    rw [List.take_of_length_le (by simp), List.drop_replicate, show l.length + 2 - l.length = 2 by omega]
    rfl
  rw [hroom, get_first, set_first]
  have hg : (l ++ [(-77 : Int), 0])[l.length + 1]? = some 0 := by
    have := get_first (l ++ [-77]) [] 0
    rw [List.length_append, List.append_assoc] at this
    exact this
  have hs : (l ++ [(-77 : Int), 0]).set (l.length + 1) (-78) = l ++ [-77, -78] := by
    have := set_first (l ++ [-77]) [] 0 (-78)
    rw [List.length_append, List.append_assoc, List.append_assoc] at this
    exact this
  rw [hg, hs]
  rw [decide_eq_true (show (0 : Int) ≤ ((l.length + 2 : Nat) : Int) by omega), decide_eq_true (show (((l.length + 2 : Nat) : Int) = ((l.length + 2 : Nat) : Int)) from rfl), decide_eq_true (show (l.length + 2) * 8 ≤ 140737488355328 ∧ l.length + 2 ≤ 9223372036854775807 by omega), decide_eq_true (show (0 : Int) ≤ (l.length : Int) by omega), decide_eq_true (show (l.length : Int) < ((l ++ [(0 : Int), 0]).length : Int) by simp; omega), decide_eq_true (show (0 : Int) ≤ ((l.length + 1 : Nat) : Int) by omega), decide_eq_true (show ((l.length + 1 : Nat) : Int) < ((l ++ [(-77 : Int), 0]).length : Int) by simp)]
  rfl

theorem staysLoop (l x : List Int) (hl : l.length ≤ 10000000) : ∀ (k n i : Nat), l.length - i ≤ k → k < n → i ≤ l.length → racetreelaw22_stays_i2 n (l ++ x) l (i : Int) = some (.inr (l ++ x, l)) := by
  intro k
  induction k with
  | zero =>
    intro n i hk hn hi
    obtain ⟨n, rfl⟩ : ∃ m, n = m + 1 := ⟨n - 1, by omega⟩
    show racetreelaw22_stays_t2 (racetreelaw22_stays_i2 n) (l ++ x) l (i : Int) = _
    unfold racetreelaw22_stays_t2
    rw [decide_eq_false (show ¬ (i : Int) < (l.length : Int) by omega)]
    rfl
  | succ k ih =>
    intro n i hk hn hi
    obtain ⟨n, rfl⟩ : ∃ m, n = m + 1 := ⟨n - 1, by omega⟩
    by_cases h : i < l.length
    · show racetreelaw22_stays_t2 (racetreelaw22_stays_i2 n) (l ++ x) l (i : Int) = _
      unfold racetreelaw22_stays_t2
      have eg : (l ++ x)[i]? = some l[i] := by rw [List.getElem?_append_left h]; exact List.getElem?_eq_getElem h
      have eg' : l[i]? = some l[i] := List.getElem?_eq_getElem h
      have ew : IntKind.wrap IntKind.i64 ((i : Int) + 1) = ((i + 1 : Nat) : Int) := wrap64 (by omega) (by omega)
      rw [decide_eq_true (show (i : Int) < (l.length : Int) by omega), decide_eq_true (show (0 : Int) ≤ (i : Int) by omega), Int.toNat_natCast, eg, eg', ew]
      simp only [cond_true, Option.bind_some, bne_self_eq_false, cond_false]
      exact ih n (i + 1) (by omega) (by omega) (by omega)
    · exact (by
        show racetreelaw22_stays_t2 (racetreelaw22_stays_i2 n) (l ++ x) l (i : Int) = _
        unfold racetreelaw22_stays_t2
        rw [decide_eq_false (show ¬ (i : Int) < (l.length : Int) by omega)]
        rfl)

theorem stays1 (l : List Int) (hl : l.length ≤ 10000000) : racetreelaw22_stays (l ++ [-77, -78]) l = some true := by
  unfold racetreelaw22_stays
  rw [sealF_eq]
  unfold racetreelaw22_stays_f
  have e : racetreelaw22_stays_l2 (l ++ [-77, -78]) l 0 = some (.inr (l ++ [-77, -78], l)) := by
    unfold racetreelaw22_stays_l2
    rw [sealF_eq]
    exact staysLoop l _ hl l.length fuel 0 (by omega) (by unfold fuel; omega) (by omega)
  have e1 : IntKind.wrap IntKind.i64 ((l.length : Int) + 1) = ((l.length + 1 : Nat) : Int) := wrap64 (by omega) (by omega)
  rw [e]
  simp only [Option.bind_some]
  have hg : (l ++ [(-77 : Int), -78])[l.length + 1]? = some (-78) := by
    have := get_first (l ++ [-77]) [] (-78)
    rw [List.length_append, List.append_assoc] at this
    exact this
  rw [e1, Int.toNat_natCast, Int.toNat_natCast, get_first, hg, decide_eq_true (show (0 : Int) ≤ ((l.length + 1 : Nat) : Int) by omega)]
  rfl

theorem shown1 : racetreelaw22_shown = some true := by
  unfold racetreelaw22_shown
  rw [sealF_eq]
  unfold racetreelaw22_shown_f
  have d0 : Lib.decDigits 0 = [48] := Lib.decDigits_one (by omega)
  have d1 : Lib.decDigits 1 = [49] := Lib.decDigits_one (by omega)
  have d2 : Lib.decDigits 2 = [50] := Lib.decDigits_one (by omega)
  have d3 : Lib.decDigits 3 = [51] := Lib.decDigits_one (by omega)
  have hp : printS [⟨0, 1⟩, ⟨1, 3⟩, ⟨2, 1⟩] = [48, 32, 49, 42, 51, 32, 50] := by
    show Lib.join [Lib.decDigits 0 ++ [], Lib.decDigits 1 ++ 42 :: Lib.decDigits 3, Lib.decDigits 2 ++ []] [32] = _
    rw [d0, d1, d2, d3]
    rfl
  have hg : goodR none 0 [⟨0, 1⟩, ⟨1, 3⟩, ⟨2, 1⟩] := ⟨⟨by decide, by decide⟩, ⟨by decide, by decide⟩, by simp, ⟨by decide, by decide⟩, ⟨by decide, by decide⟩, by simp, ⟨by decide, by decide⟩, ⟨by decide, by decide⟩, by simp, trivial⟩
  have hg2 : goodR none 0 [⟨300, 2⟩] := ⟨⟨by decide, by decide⟩, ⟨by decide, by decide⟩, by simp, trivial⟩
  have e0 : sched_Print [0, 1, 1, 1, 2] = some ([48, 32, 49, 42, 51, 32, 50], 0) := by
    rw [print22]
    unfold printR
    have : runsR [0, 1, 1, 1, 2] = (0, [⟨0, 1⟩, ⟨1, 3⟩, ⟨2, 1⟩]) := rfl
    rw [this]
    simp only [beq_self_eq_true, cond_true]
    rw [hp]
  have e1 : sched_Read [48, 32, 49, 42, 51, 32, 50] = some (Fault.mk 0 0 [], [0, 1, 1, 1, 2]) := by
    rw [read1 _ (by simp), ← hp, readT_print hg]
    rfl
  have hb : bytesS [⟨300, 2⟩] = [1, 172, 2, 2] := rfl
  have e2 : sched_Bytes [300, 300] = some (0, [1, 172, 2, 2]) := by
    rw [bytes22]
    unfold bytesR
    have : runsR [300, 300] = (0, [⟨300, 2⟩]) := rfl
    rw [this, hb]
    rfl
  have e3 : sched_Load [1, 172, 2, 2] = some (0, [300, 300]) := by
    rw [load22 _ (by intro c hc; simp at hc; omega) (by simp), ← hb, loadT_bytes hg2]
    rfl
  rw [e0, e1, e2, e3]
  simp only [Option.bind_some]
  rw [same22 _ (by simp), same22 _ (by simp)]
  rfl

theorem readT_len {s : List UInt8} (h : s.length ≤ 9000000) : (readT s).2.length ≤ 1000 := by
  cases hq : readT s with
  | mk F l =>
    by_cases hF : F.code = 0
    · obtain ⟨rs, hg, rfl, _⟩ := readT_inv hq hF
      have := good_len rs none 0 hg (by omega)
      simp only
      omega
    · unfold readT at hq
      cases hz : s == [] with
      | true => rw [hz] at hq; cases hq; simp
      | false =>
        rw [hz, cond_false] at hq
        cases hr : readS (pieces 32 s) 0 [] with
        | inl x => obtain ⟨c, b⟩ := x; rw [hr] at hq; cases hq; simp
        | inr o => rw [hr] at hq; cases hq; exact absurd rfl hF

theorem take_lent (l x : List Int) : List.drop 0 (List.take (Int.toNat (l.length : Int)) (l ++ x)) = l := by
  rw [Int.toNat_natCast, List.take_left, List.drop_zero]

theorem schedPrints1 (l : List Int) (hl : l.length ≤ 10000000) : racetreelaw22_SchedPrints l = some true := by
  unfold racetreelaw22_SchedPrints
  rw [sealF_eq]
  unfold racetreelaw22_SchedPrints_f
  rw [shown1, lent1 l hl, refPrint22]
  simp only [Option.bind_some]
  rw [take_lent, print22, stays1 l hl, decide_eq_true (show (0 : Int) ≤ 0 by omega), decide_eq_true (show (0 : Int) ≤ (l.length : Int) by omega), decide_eq_true (show (l.length : Int) ≤ ((l ++ [(-77 : Int), -78]).length : Int) by rw [List.length_append]; omega)]
  simp

theorem bytesR_len (l : List Int) : (bytesR l).2.length ≤ 12006 := by
  unfold bytesR
  cases h : (runsR l).1 == 0 with
  | true =>
    have h' : (runsR l).1 = 0 := by simpa using h
    obtain ⟨h1, h2, h3⟩ := runsR_ok h'
    rw [cond_true, h3]
    have hg := (runs_good h1 h2)
    have := good_count _ _ _ hg.1
    rw [hg.2] at this
    exact bytes_len (by omega)
  | false => simp

theorem bytesLoop77 (a0 : List Int) (a1 : Bool) (a2 : List Int) (a3 a4 : Int) (a5 : Bool) (a7 : List Int) : ∀ (k n i : Nat) (l : List Int), l.length ≤ 10000000 → l.length - i ≤ k → k < n → i ≤ l.length → ∃ l', racetreelaw22_SchedBytes_i7 n a0 a1 a2 a3 a4 a5 (i : Int) a7 l = some (a0, a1, a2, a3, a4, a5, a7, l') ∧ l'.length = l.length := by
  intro k
  induction k with
  | zero =>
    intro n i l hl hk hn hi
    obtain ⟨n, rfl⟩ : ∃ m, n = m + 1 := ⟨n - 1, by omega⟩
    refine ⟨l, ?_, rfl⟩
    show racetreelaw22_SchedBytes_t7 (racetreelaw22_SchedBytes_i7 n) a0 a1 a2 a3 a4 a5 (i : Int) a7 l = _
    unfold racetreelaw22_SchedBytes_t7
    rw [decide_eq_false (show ¬ (i : Int) < (l.length : Int) by omega)]
    rfl
  | succ k ih =>
    intro n i l hl hk hn hi
    obtain ⟨n, rfl⟩ : ∃ m, n = m + 1 := ⟨n - 1, by omega⟩
    by_cases h : i < l.length
    · have ew : IntKind.wrap IntKind.i64 ((i : Int) + 1) = ((i + 1 : Nat) : Int) := wrap64 (by omega) (by omega)
      obtain ⟨l', e, e'⟩ := ih n (i + 1) (l.set i 77) (by simpa using hl) (by simp; omega) (by omega) (by simp; omega)
      refine ⟨l', ?_, by simpa using e'⟩
      show racetreelaw22_SchedBytes_t7 (racetreelaw22_SchedBytes_i7 n) a0 a1 a2 a3 a4 a5 (i : Int) a7 l = _
      unfold racetreelaw22_SchedBytes_t7
      rw [decide_eq_true (show (i : Int) < (l.length : Int) by omega), decide_eq_true (show (0 : Int) ≤ (i : Int) by omega), Int.toNat_natCast, List.getElem?_eq_getElem h, ew]
      exact e
    · refine ⟨l, ?_, rfl⟩
      show racetreelaw22_SchedBytes_t7 (racetreelaw22_SchedBytes_i7 n) a0 a1 a2 a3 a4 a5 (i : Int) a7 l = _
      unfold racetreelaw22_SchedBytes_t7
      rw [decide_eq_false (show ¬ (i : Int) < (l.length : Int) by omega)]
      rfl

theorem last79 (l : List Int) (hl : l.length ≤ 10000000) (x y : Int) : IntKind.wrap IntKind.i64 (((l ++ [x, y]).length : Int) - 1) = ((l.length + 1 : Nat) : Int) ∧ (l ++ [x, y])[l.length + 1]? = some y ∧ (l ++ [x, y]).length = l.length + 2 := by
  refine ⟨?_, ?_, by simp⟩
  · rw [List.length_append]
    show IntKind.wrap IntKind.i64 (((l.length + 2 : Nat) : Int) - 1) = _
    rw [wrap64 (by omega) (by omega)]
    omega
  · have := get_first (l ++ [x]) [] y
    rw [List.length_append, List.append_assoc] at this
    exact this

theorem schedBytes1 (l : List Int) (hl : l.length ≤ 10000000) : racetreelaw22_SchedBytes l = some true := by
  unfold racetreelaw22_SchedBytes
  rw [sealF_eq]
  unfold racetreelaw22_SchedBytes_f
  rw [shown1, lent1 l hl, refBytes22]
  simp only [Option.bind_some]
  rw [take_lent, bytes22]
  simp only [Option.bind_some]
  obtain ⟨l', e, e'⟩ := bytesLoop77 l true (l ++ [-77, -78]) (bytesR l).1 (bytesR l).1 (bytesOf (bytesR l).2 == bytesOf (bytesR l).2) (bytesR l).2 (bytesR l).2.length fuel 0 (bytesR l).2 (by have := bytesR_len l; omega) (by omega) (by have := bytesR_len l; unfold fuel; omega) (by omega)
  have ee : racetreelaw22_SchedBytes_l7 l true (l ++ [-77, -78]) (bytesR l).1 (bytesR l).1 (bytesOf (bytesR l).2 == bytesOf (bytesR l).2) 0 (bytesR l).2 (bytesR l).2 = some (l, true, l ++ [-77, -78], (bytesR l).1, (bytesR l).1, (bytesOf (bytesR l).2 == bytesOf (bytesR l).2), (bytesR l).2, l') := by
    unfold racetreelaw22_SchedBytes_l7
    rw [sealF_eq]
    exact e
  rw [ee]
  simp only [Option.bind_some]
  have hb := bytesR_len l
  obtain ⟨f1, f2, f3⟩ := last79 l' (by omega) 78 79
  rw [take_lent, bytes22, stays1 l hl, f1, Int.toNat_natCast, f2, f3, decide_eq_true (show (0 : Int) ≤ 0 by omega), decide_eq_true (show (0 : Int) ≤ (l.length : Int) by omega), decide_eq_true (show (l.length : Int) ≤ ((l ++ [(-77 : Int), -78]).length : Int) by rw [List.length_append]; omega), decide_eq_true (show (l'.length + 2) * 1 ≤ 140737488355328 ∧ l'.length + 2 ≤ 9223372036854775807 by omega), decide_eq_true (show (0 : Int) ≤ ((l'.length + 1 : Nat) : Int) by omega), decide_eq_true (show ((l'.length + 1 : Nat) : Int) < ((l'.length + 2 : Nat) : Int) by omega)]
  simp

theorem readsLoop77 (a0 : List UInt8) (a1 a2 : Bool) (a4 a5 : Int) (a6 : List UInt8) (a7 a8 : Int) (a9 : List UInt8) (a10 : List Int) : ∀ (k n i : Nat) (l : List Int), l.length ≤ 10000000 → l.length - i ≤ k → k < n → i ≤ l.length → ∃ l', racetreelaw22_SchedReads_i6 n a0 a1 a2 (i : Int) a4 a5 a6 a7 a8 a9 a10 l = some (a0, a1, a2, a4, a5, a6, a7, a8, a9, a10, l') ∧ l'.length = l.length := by
  intro k
  induction k with
  | zero =>
    intro n i l hl hk hn hi
    obtain ⟨n, rfl⟩ : ∃ m, n = m + 1 := ⟨n - 1, by omega⟩
    refine ⟨l, ?_, rfl⟩
    show racetreelaw22_SchedReads_t6 (racetreelaw22_SchedReads_i6 n) a0 a1 a2 (i : Int) a4 a5 a6 a7 a8 a9 a10 l = _
    unfold racetreelaw22_SchedReads_t6
    rw [decide_eq_false (show ¬ (i : Int) < (l.length : Int) by omega)]
    rfl
  | succ k ih =>
    intro n i l hl hk hn hi
    obtain ⟨n, rfl⟩ : ∃ m, n = m + 1 := ⟨n - 1, by omega⟩
    by_cases h : i < l.length
    · have ew : IntKind.wrap IntKind.i64 ((i : Int) + 1) = ((i + 1 : Nat) : Int) := wrap64 (by omega) (by omega)
      obtain ⟨l', e, e'⟩ := ih n (i + 1) (l.set i (-77)) (by simpa using hl) (by simp; omega) (by omega) (by simp; omega)
      refine ⟨l', ?_, by simpa using e'⟩
      show racetreelaw22_SchedReads_t6 (racetreelaw22_SchedReads_i6 n) a0 a1 a2 (i : Int) a4 a5 a6 a7 a8 a9 a10 l = _
      unfold racetreelaw22_SchedReads_t6
      rw [decide_eq_true (show (i : Int) < (l.length : Int) by omega), decide_eq_true (show (0 : Int) ≤ (i : Int) by omega), Int.toNat_natCast, List.getElem?_eq_getElem h, ew]
      exact e
    · refine ⟨l, ?_, rfl⟩
      show racetreelaw22_SchedReads_t6 (racetreelaw22_SchedReads_i6 n) a0 a1 a2 (i : Int) a4 a5 a6 a7 a8 a9 a10 l = _
      unfold racetreelaw22_SchedReads_t6
      rw [decide_eq_false (show ¬ (i : Int) < (l.length : Int) by omega)]
      rfl

theorem schedReads1 (s : List UInt8) (hs : s.length ≤ 9000000) : racetreelaw22_SchedReads s = some true := by
  unfold racetreelaw22_SchedReads
  rw [sealF_eq]
  unfold racetreelaw22_SchedReads_f
  have hb := readT_len hs
  rw [shown1, refRead1 s hs, read1 s hs]
  simp only [Option.bind_some]
  rw [same22 _ (by omega)]
  simp only [Option.bind_some]
  obtain ⟨l', e, e'⟩ := readsLoop77 s true true (readT s).1.code (readT s).1.at_ (readT s).1.name (readT s).1.code (readT s).1.at_ (readT s).1.name (readT s).2 (readT s).2.length fuel 0 (readT s).2 (by omega) (by omega) (by unfold fuel; omega) (by omega)
  have ee : racetreelaw22_SchedReads_l6 s true true 0 (readT s).1.code (readT s).1.at_ (readT s).1.name (readT s).1.code (readT s).1.at_ (readT s).1.name (readT s).2 (readT s).2 = some (s, true, true, (readT s).1.code, (readT s).1.at_, (readT s).1.name, (readT s).1.code, (readT s).1.at_, (readT s).1.name, (readT s).2, l') := by
    unfold racetreelaw22_SchedReads_l6
    rw [sealF_eq]
    exact e
  rw [ee]
  simp only [Option.bind_some]
  obtain ⟨f1, f2, f3⟩ := last79 l' (by omega) (-78) (-79)
  rw [read1 s hs]
  simp only [Option.bind_some]
  rw [same22 _ (by omega), f1, Int.toNat_natCast, f2, f3, decide_eq_true (show (l'.length + 2) * 8 ≤ 140737488355328 ∧ l'.length + 2 ≤ 9223372036854775807 by omega), decide_eq_true (show (0 : Int) ≤ ((l'.length + 1 : Nat) : Int) by omega), decide_eq_true (show ((l'.length + 1 : Nat) : Int) < ((l'.length + 2 : Nat) : Int) by omega)]
  simp

theorem loadT_len {b : List Int} (hb : okB b) : (loadT b).2.length ≤ 1000 := by
  cases hq : loadT b with
  | mk F l =>
    by_cases hF : F = 0
    · subst hF
      obtain ⟨rs, hg, rfl, _⟩ := loadT_inv hb hq
      have := good_len rs none 0 hg (by omega)
      simp only
      omega
    · unfold loadT at hq
      cases ht : takeF 0 0 b with
      | none => rw [ht] at hq; cases hq; simp
      | some x =>
        obtain ⟨m, b1⟩ := x
        rw [ht] at hq
        simp only at hq
        cases hr : loadF m b1 [] with
        | none => rw [hr] at hq; cases hq; simp
        | some x =>
          obtain ⟨r, o⟩ := x
          rw [hr] at hq
          cases r with
          | cons c r => cases hq; simp
          | nil => cases hq; exact absurd rfl hF

theorem schedLoads1 (b : List Int) (hb : okB b) (hl : b.length ≤ 10000000) : racetreelaw22_SchedLoads b = some true := by
  unfold racetreelaw22_SchedLoads
  rw [sealF_eq]
  unfold racetreelaw22_SchedLoads_f
  have e1 : IntKind.wrap IntKind.i64 ((b.length : Int) + 1) = ((b.length + 1 : Nat) : Int) := wrap64 (by omega) (by omega)
  rw [shown1, e1, Int.toNat_natCast, Int.toNat_natCast]
  have hroom : List.take (List.length (List.replicate (b.length + 1) (0 : Int))) b ++ List.drop b.length (List.replicate (b.length + 1) (0 : Int)) = b ++ [0] := by
    rw [List.take_of_length_le (by simp), List.drop_replicate, show b.length + 1 - b.length = 1 by omega]
    rfl
  have ht : List.take b.length (b ++ [(77 : Int)]) = b := List.take_left
  rw [hroom, set_first, get_first, ht, List.drop_zero, refLoad22 b hb (by omega), Option.bind_some, Option.bind_some, Option.bind_some, load22 b hb (by omega), Option.bind_some, same22 _ (by have := loadT_len hb; omega), Option.bind_some, get_first, decide_eq_true (show (0 : Int) ≤ ((b.length + 1 : Nat) : Int) by omega), decide_eq_true (show (b.length + 1) * 1 ≤ 140737488355328 ∧ b.length + 1 ≤ 9223372036854775807 by omega), decide_eq_true (show (0 : Int) ≤ (b.length : Int) by omega), decide_eq_true (show (b.length : Int) < ((b ++ [(0 : Int)]).length : Int) by rw [List.length_append]; simp only [List.length_cons, List.length_nil]; omega), decide_eq_true (show (b.length : Int) < ((b ++ [(77 : Int)]).length : Int) by rw [List.length_append]; simp only [List.length_cons, List.length_nil]; omega), decide_eq_true (show (b.length : Int) ≤ ((b ++ [(77 : Int)]).length : Int) by rw [List.length_append]; simp only [List.length_cons, List.length_nil]; omega)]
  simp

theorem runsR_code (l : List Int) : (runsR l).1 ≠ 0 → ((runsR l).1 == 221) = decide ((l.length : Int) > 1000) := by
  unfold runsR
  intro h
  cases hc : decide ((l.length : Int) > 1000) with
  | true => rfl
  | false =>
    rw [hc, cond_false] at h
    cases ha : l.all okNum with
    | true => rw [ha] at h; exact absurd rfl h
    | false => rfl

theorem schedBack1 (l : List Int) : racetreelaw22_SchedBack l = some true := by
  unfold racetreelaw22_SchedBack
  rw [sealF_eq]
  unfold racetreelaw22_SchedBack_f
  rw [shown1, print22, bytes22]
  simp only [Option.bind_some, Bool.not_true, cond_false]
  unfold printR bytesR
  by_cases h : (runsR l).1 = 0
  · obtain ⟨h1, h2, h3⟩ := runsR_ok h
    obtain ⟨hg, he⟩ := runs_good h1 h2
    have hc := good_count _ _ _ hg
    rw [he] at hc
    rw [h, h3]
    simp only [beq_self_eq_true, cond_true, bne_self_eq_false, cond_false]
    have hpl : (printS (runsS l)).length ≤ 9000000 := by
      have := join_len [32] 21 ((runsS l).map fieldR) (fun w hw => by
        obtain ⟨r, hr, rfl⟩ := List.mem_map.1 hw
        exact field_len (runs_ok l h1 h2 r hr))
      unfold printS
      simp only [List.length_map, List.length_cons, List.length_nil] at this
      omega
    rw [read1 _ hpl, load22 _ (bytes_ok hg) (by have := bytes_len (rs := runsS l) (by omega); omega), readT_print hg, loadT_bytes hg, he]
    simp only [Option.bind_some]
    rw [same22 l (by omega)]
    rfl
  · have hz : ((runsR l).1 == 0) = false := by simpa using h
    have hz' : ((runsR l).1 != 0) = true := by simpa using h
    rw [hz]
    simp only [cond_false, bne_self_eq_false]
    rw [hz', cond_true, runsR_code l h]
    simp

theorem schedForm1 (s : List UInt8) (b : List Int) (hs : s.length ≤ 9000000) (hb : okB b) (hl : b.length ≤ 10000000) : racetreelaw22_SchedForm s b = some true := by
  unfold racetreelaw22_SchedForm
  rw [sealF_eq]
  unfold racetreelaw22_SchedForm_f
  rw [shown1, read1 s hs]
  simp only [Option.bind_some]
  have hB : (Option.bind (sched_Load b) fun y5 => bif Prod.fst y5 == (0 : Int) then Option.bind (sched_Bytes (Prod.snd y5)) fun y6 => bif Prod.fst y6 != (0 : Int) then some false else bif !(bytesOf (Prod.snd y6) == bytesOf b) then some false else some true else some true) = some true := by
    rw [load22 b hb (by omega)]
    simp only [Option.bind_some]
    cases hq : loadT b with
    | mk c l =>
      simp only
      cases hc : c == 0 with
      | false => rfl
      | true =>
        have : c = 0 := by simpa using hc
        subst this
        obtain ⟨rs, hg, rfl, e⟩ := loadT_inv hb hq
        rw [cond_true, bytes22]
        unfold bytesR
        rw [runs_of_good hg, ← e]
        simp
  cases hq : readT s with
  | mk F l =>
    simp only
    cases hc : F.code == 0 with
    | false => exact hB
    | true =>
      have hc' : F.code = 0 := by simpa using hc
      obtain ⟨rs, hg, rfl, e⟩ := readT_inv hq hc'
      rw [cond_true, print22]
      unfold printR
      rw [runs_of_good hg, ← e]
      simp only [Option.bind_some, beq_self_eq_true, cond_true, bne_self_eq_false, cond_false, Bool.not_true]
      exact hB

theorem okB_of {b : List Int} (h : ∀ c ∈ b, (Lit.int .u8 c).wf = true) : okB b := fun c hc => by
  have h2 : (decide ((0 : Int) ≤ c) && decide (c ≤ 255)) = true := h c hc
  simp only [Bool.and_eq_true, decide_eq_true_eq] at h2
  omega

end Lift.A1P

