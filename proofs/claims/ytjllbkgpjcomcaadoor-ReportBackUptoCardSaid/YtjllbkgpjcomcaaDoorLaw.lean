/-
  DERIVED. The Lean functions answer as the laws say. Conditions: as each theorem says.
-/
import Derived.Test.YtjllbkgpjcomcaaDoorWalk
import Derived.IntWalk
import Derived.Lib.IndexBytes
import Derived.Lib.CountLaws
import Derived.Lib.SplitLaws
set_option linter.unusedVariables false
set_option linter.unusedSimpArgs false
set_option linter.unusedSectionVars false
/- Layer 25: which findings may be. -/
namespace Lift.A1P
open Go Go.RowKit Lift Go.IntWalk Lift.Fn

def okN (n : Int) : Bool := decide (0 ≤ n) && decide (n ≤ 7)
def kindOk (f : Finding) : Bool :=
  bif f.kind == 1 then f.other == 0 && f.what == 0 else
  bif f.kind == 2 then f.other == 0 && (decide (2 ≤ f.what) && decide (f.what ≤ 4)) else
  bif f.kind == 3 then f.other == 0 && f.what == 0 else
  bif f.kind == 4 then okN f.other && (okN f.what && decide (f.thread < f.other)) else false
def rightS (f : Finding) : Bool := okN f.thread && (decide (f.schedule.length ≤ 1000) && (f.schedule.all okN && kindOk f))

theorem between1 (n a b : Int) : report_between_int n a b = some (decide (a ≤ n) && decide (n ≤ b)) := by
  rw [report_between_int, sealF_eq]
  unfold report_between_int_f
  by_cases h : a ≤ n
  · rw [decide_eq_true (show n ≥ a from h)]; rfl
  · rw [decide_eq_false (show ¬ n ≥ a from h)]; rfl

theorem thread1 (n : Int) : report_thread n = some (okN n) := by
  rw [report_thread, sealF_eq]
  unfold report_thread_f
  rw [between1]
  rfl

theorem in1 (n : Int) : racetreeref25_in n = some (okN n) := by
  rw [racetreeref25_in, sealF_eq]
  unfold racetreeref25_in_f okN
  by_cases h : 0 ≤ n
  · rw [decide_eq_true (show n ≥ 0 from h), cond_true, Bool.true_and]
    congr 2
    rw [eq_iff_iff]; omega
  · rw [decide_eq_false (show ¬ n ≥ 0 from h)]; rfl

theorem right_1 (n : Int) : report_right_1 n = some (!okN n) := by
  rw [report_right_1, sealF_eq]
  unfold report_right_1_f
  rw [thread1]
  rfl

theorem drop_at {α : Type} {l : List α} {i : Nat} (h : i < l.length) : l.drop i = l[i] :: l.drop (i + 1) := List.drop_eq_getElem_cons h

theorem index1 (l : List Int) (hl : l.length ≤ 4611686018427387904) : ∀ (k n i : Nat), l.length - i ≤ k → k < n → i ≤ l.length →
    (∃ j : Int, slices_IndexFunc_int_int_i2 n l (l.length : Int) (i : Int) = some (.inl j) ∧ 0 ≤ j ∧ (l.drop i).all okN = false) ∨
    (slices_IndexFunc_int_int_i2 n l (l.length : Int) (i : Int) = some (.inr ()) ∧ (l.drop i).all okN = true) := by
  intro k
  induction k with
  | zero =>
    intro n i hk hn hi
    cases n with
    | zero => omega
    | succ n =>
      right
      unfold slices_IndexFunc_int_int_i2 slices_IndexFunc_int_int_t2
      rw [decide_eq_false (by omega), cond_false, List.drop_eq_nil_of_le (by omega)]
      exact ⟨rfl, rfl⟩
  | succ k ih =>
    intro n i hk hn hi
    cases n with
    | zero => omega
    | succ n =>
      unfold slices_IndexFunc_int_int_i2 slices_IndexFunc_int_int_t2
      by_cases h : i < l.length
      · have hg : l[Int.toNat (i : Int)]? = some l[i] := by rw [Int.toNat_natCast]; exact List.getElem?_eq_getElem h
        rw [decide_eq_true (by omega), cond_true, decide_eq_true (by omega), cond_true, hg, Option.bind_some, right_1, Option.bind_some, drop_at h, List.all_cons]
        cases ho : okN l[i] with
        | false => left; exact ⟨_, rfl, by omega, rfl⟩
        | true =>
          rw [Bool.not_true, cond_false, i64_in _ (by omega), Bool.true_and]
          exact ih n (i + 1) (by omega) (by omega) (by omega)
      · right
        rw [decide_eq_false (by omega), cond_false, List.drop_eq_nil_of_le (by omega)]
        exact ⟨rfl, rfl⟩

theorem contains1 (l : List Int) (hl : l.length ≤ 1000000000000000) : slices_ContainsFunc_int_int l = some (!l.all okN) := by
  rw [slices_ContainsFunc_int_int, sealF_eq]
  unfold slices_ContainsFunc_int_int_f
  rw [slices_IndexFunc_int_int, sealF_eq]
  unfold slices_IndexFunc_int_int_f
  rw [slices_IndexFunc_int_int_l2, sealF_eq]
  rcases index1 l (by omega) l.length fuel 0 (by omega) (by unfold fuel; omega) (by omega) with ⟨j, h1, h2, h3⟩ | ⟨h1, h3⟩
  · rw [show ((0 : Nat) : Int) = 0 from rfl] at h1
    rw [List.drop_zero] at h3
    rw [h1, Option.bind_some, h3]
    simp only [Option.bind_some]
    rw [decide_eq_true (show j ≥ 0 from h2)]
    rfl
  · rw [show ((0 : Nat) : Int) = 0 from rfl] at h1
    rw [List.drop_zero] at h3
    rw [h1, Option.bind_some, h3]
    rfl

theorem right1 (f : Finding) : report_right f = some (rightS f) := by
  rw [report_right, sealF_eq]
  unfold report_right_f rightS
  rw [thread1, Option.bind_some]
  cases okN f.thread with
  | false => rfl
  | true =>
    rw [Bool.not_true, cond_false, Bool.true_and]
    by_cases hs : f.schedule.length ≤ 1000
    · rw [decide_eq_false (by omega), cond_false, decide_eq_true hs, Bool.true_and, contains1 _ (by omega), Option.bind_some]
      cases f.schedule.all okN with
      | false => rfl
      | true =>
        rw [Bool.not_true, cond_false, Bool.true_and]
        unfold kindOk
        simp only [between1, thread1, Option.bind_some]
        by_cases h2 : f.kind = 2
        · rw [h2]
          simp only [BEq.rfl, cond_true]
          cases f.other == 0 <;> rfl
        · by_cases h4 : f.kind = 4
          · rw [h4]
            simp only [BEq.rfl, cond_true]
            rw [show ((4 : Int) == 2) = false from rfl, show ((4 : Int) == 1) = false from rfl, show ((4 : Int) == 3) = false from rfl]
            simp only [cond_false]
            cases okN f.other with
            | false => rfl
            | true =>
              rw [Bool.true_and, cond_true]
              by_cases ho : f.thread < f.other
              · rw [decide_eq_true (show f.other > f.thread from ho), cond_true, Bool.and_true]
              · rw [decide_eq_false (show ¬ f.other > f.thread from ho), cond_false, Bool.and_false]
          · have e2 : (f.kind == 2) = false := by simpa using h2
            have e4 : (f.kind == 4) = false := by simpa using h4
            rw [e2, e4]
            simp only [cond_false]
            cases f.kind == 1 <;> cases f.kind == 3 <;> cases f.other == 0 <;> rfl
    · rw [decide_eq_true (by omega), decide_eq_false hs]; rfl

theorem refLoop (l : List Int) (a b c d : Int) (hl : l.length ≤ 4611686018427387904) : ∀ (k n i : Nat), l.length - i ≤ k → k < n → i ≤ l.length →
    racetreeref25_Right_i5 n (i : Int) a b c d l = some (bif (l.drop i).all okN then .inr (a, b, c, d, l) else .inl false) := by
  intro k
  induction k with
  | zero =>
    intro n i hk hn hi
    cases n with
    | zero => omega
    | succ n =>
      unfold racetreeref25_Right_i5 racetreeref25_Right_t5
      rw [decide_eq_false (by omega), cond_false, List.drop_eq_nil_of_le (by omega)]
      rfl
  | succ k ih =>
    intro n i hk hn hi
    cases n with
    | zero => omega
    | succ n =>
      unfold racetreeref25_Right_i5 racetreeref25_Right_t5
      by_cases h : i < l.length
      · have hg : l[Int.toNat (i : Int)]? = some l[i] := by rw [Int.toNat_natCast]; exact List.getElem?_eq_getElem h
        rw [decide_eq_true (by omega), cond_true, decide_eq_true (by omega), cond_true, hg, Option.bind_some, in1, Option.bind_some, drop_at h, List.all_cons]
        cases ho : okN l[i] with
        | false => rfl
        | true =>
          rw [Bool.not_true, cond_false, i64_in _ (by omega), Bool.true_and]
          exact ih n (i + 1) (by omega) (by omega) (by omega)
      · rw [decide_eq_false (by omega), cond_false, List.drop_eq_nil_of_le (by omega)]
        rfl

theorem refRight (f : Finding) : racetreeref25_Right f = some (rightS f) := by
  rw [racetreeref25_Right, sealF_eq]
  unfold racetreeref25_Right_f rightS
  rw [in1, Option.bind_some]
  cases okN f.thread with
  | false => rfl
  | true =>
    rw [Bool.not_true, cond_false, Bool.true_and]
    by_cases hs : f.schedule.length ≤ 1000
    · have hL := refLoop f.schedule f.kind f.thread f.other f.what (by omega) f.schedule.length fuel 0 (by omega) (by unfold fuel; omega) (by omega)
      rw [show ((0 : Nat) : Int) = 0 from rfl, List.drop_zero] at hL
      rw [decide_eq_false (by omega), cond_false, decide_eq_true hs, Bool.true_and, racetreeref25_Right_l5, sealF_eq, hL, Option.bind_some]
      cases f.schedule.all okN with
      | false => rfl
      | true =>
        rw [cond_true, Bool.true_and]
        simp only
        unfold kindOk
        simp only [in1, Option.bind_some]
        by_cases h1 : f.kind = 1
        · rw [h1]
          simp only [BEq.rfl, cond_true]
          cases f.other == 0 <;> rfl
        · have e1 : (f.kind == 1) = false := by simpa using h1
          rw [e1]
          simp only [cond_false]
          by_cases h3 : f.kind = 3
          · rw [h3]
            simp only [BEq.rfl, cond_true]
            rw [show ((3 : Int) == 2) = false from rfl]
            simp only [cond_false]
            cases f.other == 0 <;> rfl
          · have e3 : (f.kind == 3) = false := by simpa using h3
            rw [e3]
            simp only [cond_false]
            cases f.kind == 2 with
            | true =>
              simp only [cond_true]
              cases f.other == 0 with
              | false => rfl
              | true =>
                simp only [cond_true, Bool.true_and]
                by_cases ha : 2 ≤ f.what
                · rw [decide_eq_true (show f.what ≥ 2 from ha)]; rfl
                · rw [decide_eq_false (show ¬ f.what ≥ 2 from ha)]; rfl
            | false =>
              simp only [cond_false]
              cases f.kind == 4 with
              | false => rfl
              | true =>
                simp only [cond_true]
                cases okN f.other with
                | false => rfl
                | true =>
                  cases okN f.what with
                  | false => rfl
                  | true => rfl
    · rw [decide_eq_true (by omega), decide_eq_false hs]; rfl
end Lift.A1P

/- Layer 25: a finding's line. -/
namespace Lift.A1P
open Go Go.RowKit Lift Go.IntWalk Lift.Fn

def dg (n : Int) : UInt8 := UInt8.ofNat (48 + n.toNat)
def schS (l : List Int) : List UInt8 := bif (l.length : Int) == 0 then [45] else Lib.join (l.map fun n => [dg n]) [44]
def missS (n : Int) : List UInt8 := bif n == 2 then [117, 110, 108, 111, 99, 107] else bif n == 3 then [106, 111, 105, 110] else [115, 116, 97, 114, 116]
def wordsS (f : Finding) : List (List UInt8) :=
  bif f.kind == 1 then [[97, 115, 115, 101, 114, 116], [dg f.thread]] else
  bif f.kind == 2 then [[109, 105, 115, 117, 115, 101], [dg f.thread], missS f.what] else
  bif f.kind == 3 then [[100, 101, 97, 100, 108, 111, 99, 107], [dg f.thread]] else
  [[114, 97, 99, 101], [dg f.thread], [dg f.other], [dg f.what]]
def lineS (f : Finding) : List UInt8 := Lib.join (wordsS f ++ [[98, 121], schS f.schedule]) [32]

theorem okN_mem {n : Int} (h : okN n = true) : 0 ≤ n ∧ n ≤ 7 := by
  unfold okN at h
  simpa using h

theorem dec8 : ∀ k : Fin 8, Lib.decDigits k.val = [UInt8.ofNat (48 + k.val)] ∧ bytesOf [IntKind.wrap IntKind.u8 (IntKind.wrap IntKind.i64 (48 + (k.val : Int)))] = [UInt8.ofNat (48 + k.val)] := by
  intro k
  have h := k.isLt
  refine ⟨?_, ?_⟩
  · rw [Lib.decDigits, dif_pos (by omega)]
  · rw [i64_in _ (by omega), u8_in _ (by omega)]
    unfold bytesOf
    rw [List.map_cons, List.map_nil]
    congr 2

theorem itoa1 {n : Int} (h : okN n = true) : strconv_Itoa n = some [dg n] := by
  obtain ⟨h0, h7⟩ := okN_mem h
  rw [strconv_Itoa, sealF_eq]
  unfold strconv_Itoa_f dg
  rw [decide_eq_true (by omega), cond_true, (dec8 ⟨n.toNat, by omega⟩).1]

theorem digit1 {n : Int} (h : okN n = true) : racetreeref25_digit n = some [dg n] := by
  obtain ⟨h0, h7⟩ := okN_mem h
  rw [racetreeref25_digit, sealF_eq]
  unfold racetreeref25_digit_f dg
  have := (dec8 ⟨n.toNat, by omega⟩).2
  simp only [Int.toNat_of_nonneg h0] at this
  rw [this]

theorem schLoop (l : List Int) (hl : l.length ≤ 1000) (ho : l.all okN = true) : ∀ (k n i : Nat) (out : List (List UInt8)), l.length - i ≤ k → k < n → i ≤ l.length → out.length = l.length →
    report_schedule_i5 n l (l.length : Int) (i : Int) out = some (out.take i ++ (l.drop i).map fun n => [dg n]) := by
  intro k
  induction k with
  | zero =>
    intro n i out hk hn hi hout
    cases n with
    | zero => omega
    | succ n =>
      unfold report_schedule_i5 report_schedule_t5
      rw [decide_eq_false (by omega), cond_false, List.drop_eq_nil_of_le (show l.length ≤ i by omega), List.take_of_length_le (by omega)]
      simp
  | succ k ih =>
    intro n i out hk hn hi hout
    cases n with
    | zero => omega
    | succ n =>
      unfold report_schedule_i5 report_schedule_t5
      by_cases h : i < l.length
      · have hg : l[Int.toNat (i : Int)]? = some l[i] := by rw [Int.toNat_natCast]; exact List.getElem?_eq_getElem h
        have hi1 : okN l[i] = true := List.all_eq_true.1 ho _ (List.getElem_mem h)
        have hg2 : out[Int.toNat (i : Int)]? = some out[i] := by rw [Int.toNat_natCast]; exact List.getElem?_eq_getElem (by omega)
        have b3 : (decide ((0 : Int) ≤ (i : Int)) && decide ((i : Int) < (out.length : Int))) = true := by
          simp only [Bool.and_eq_true, decide_eq_true_eq]; omega
        rw [decide_eq_true (show (i : Int) < l.length by omega), cond_true, b3, decide_eq_true (show (0 : Int) ≤ (i : Int) by omega), cond_true, hg, Option.bind_some, itoa1 hi1, Option.bind_some, cond_true, hg2, Option.bind_some,
          i64_in _ (by omega), Int.toNat_natCast]
        have := ih n (i + 1) (out.set i [dg l[i]]) (by omega) (by omega) (by omega) (by simpa using hout)
        rw [show ((i + 1 : Nat) : Int) = (i : Int) + 1 by omega] at this
        rw [this, drop_at h, List.map_cons]
        congr 1
        rw [List.take_add_one, List.getElem?_set_self (by omega), List.take_set_of_le (Nat.le_refl _)]
        simp
      · rw [decide_eq_false (by omega), cond_false, List.drop_eq_nil_of_le (show l.length ≤ i by omega), List.take_of_length_le (by omega)]
        simp

theorem lens_one (l : List Int) : Lib.lens (l.map fun n => [dg n]) = l.length := by
  unfold Lib.lens
  induction l with
  | nil => rfl
  | cons n l ih => simp only [List.map_cons, List.sum_cons, List.length_cons, List.length_nil] at ih ⊢; omega

theorem sch_len (l : List Int) : (schS l).length ≤ 2 * l.length + 1 := by
  unfold schS
  cases l with
  | nil => simp
  | cons n l =>
    have : (((n :: l).length : Int) == 0) = false := by simp; omega
    rw [this, cond_false, List.map_cons, Lib.join_length]
    have := lens_one (n :: l)
    rw [List.map_cons] at this
    rw [this]
    simp
    omega

theorem join1 (l : List (List UInt8)) (sep : List UInt8) (h1 : l.length ≤ 140737488355328) (h2 : (Lib.join l sep).length ≤ 140737488355328) : strings_Join l sep = some (Lib.join l sep) := by
  rw [strings_Join, sealF_eq]
  unfold strings_Join_f
  rw [decide_eq_true ⟨h1, h2⟩, cond_true]

theorem sch1 (l : List Int) (hl : l.length ≤ 1000) (ho : l.all okN = true) : report_schedule l = some (schS l) := by
  have hlen := sch_len l
  rw [report_schedule, sealF_eq]
  unfold report_schedule_f
  unfold schS at hlen ⊢
  cases he : ((l.length : Int) == 0) with
  | true => rfl
  | false =>
    rw [he, cond_false] at hlen
    rw [cond_false, cond_false]
    rw [decide_eq_true (show (0 : Int) ≤ (l.length : Int) by omega), decide_eq_true (show (l.length : Int) = (l.length : Int) from rfl), decide_eq_true (show Int.toNat (l.length : Int) * (16 : Nat) ≤ (140737488355328 : Nat) ∧ Int.toNat (l.length : Int) ≤ (9223372036854775807 : Nat) by rw [Int.toNat_natCast]; omega),
      Bool.and_self, Bool.and_self, cond_true, report_schedule_l5, sealF_eq, Int.toNat_natCast]
    have hL := schLoop l hl ho l.length fuel 0 (List.replicate l.length []) (by omega) (by unfold fuel; omega) (by omega) (by simp)
    rw [show ((0 : Nat) : Int) = 0 from rfl] at hL
    rw [hL, Option.bind_some, List.take_zero, List.nil_append, List.drop_zero, join1 _ _ (by rw [List.length_map]; omega) (by omega), Option.bind_some]

theorem rightS_parts {f : Finding} (h : rightS f = true) : okN f.thread = true ∧ f.schedule.length ≤ 1000 ∧ f.schedule.all okN = true ∧ kindOk f = true := by
  unfold rightS at h
  simpa [Bool.and_eq_true] using h

theorem kind_cases {f : Finding} (h : kindOk f = true) : (f.kind = 1 ∧ f.other = 0 ∧ f.what = 0) ∨ (f.kind = 2 ∧ f.other = 0 ∧ (f.what = 2 ∨ f.what = 3 ∨ f.what = 4)) ∨ (f.kind = 3 ∧ f.other = 0 ∧ f.what = 0) ∨
    (f.kind = 4 ∧ okN f.other = true ∧ okN f.what = true ∧ f.thread < f.other) := by
  unfold kindOk at h
  by_cases h1 : f.kind = 1
  · rw [h1] at h; simp at h; exact .inl ⟨h1, h⟩
  by_cases h2 : f.kind = 2
  · rw [h2] at h; simp at h; exact .inr (.inl ⟨h2, h.1, by omega⟩)
  by_cases h3 : f.kind = 3
  · rw [h3] at h; simp at h; exact .inr (.inr (.inl ⟨h3, h⟩))
  by_cases h4 : f.kind = 4
  · rw [h4] at h; simp at h; exact .inr (.inr (.inr ⟨h4, h⟩))
  · simp [h1, h2, h3, h4] at h

theorem words_len (f : Finding) (hl : f.schedule.length ≤ 1000) : (lineS f).length ≤ 2100 ∧ (wordsS f ++ [[98, 121], schS f.schedule]).length ≤ 10 := by
  have hs := sch_len f.schedule
  have hm : (missS f.what).length ≤ 6 := by
    unfold missS
    cases f.what == 2 <;> cases f.what == 3 <;> decide
  unfold lineS wordsS
  cases f.kind == 1 <;> cases f.kind == 2 <;> cases f.kind == 3 <;>
    (simp only [cond_true, cond_false, List.cons_append, List.nil_append, Lib.join_length, Lib.lens, List.map_cons, List.map_nil, List.sum_cons, List.sum_nil, List.length_cons, List.length_nil]; omega)

theorem line1 {f : Finding} (h : rightS f = true) : report_line f = some (lineS f) := by
  obtain ⟨ht, hl, hs, hk⟩ := rightS_parts h
  have hlen := words_len f hl
  have hj : strings_Join (wordsS f ++ [[98, 121], schS f.schedule]) [32] = some (lineS f) := join1 _ _ (by omega) (by have := hlen.1; unfold lineS at this; omega)
  clear hlen
  rw [report_line, sealF_eq]
  unfold report_line_f
  rw [itoa1 ht, sch1 _ hl hs]
  rcases kind_cases hk with ⟨e1, e2, e3⟩ | ⟨e1, e2, e3⟩ | ⟨e1, e2, e3⟩ | ⟨e1, e2, e3, _⟩
  · unfold wordsS at hj
    rw [e1] at hj ⊢
    rw [e3]
    simp only [BEq.rfl, cond_true, Option.bind_some, show ((1 : Int) == 4) = false from rfl, show ((0 : Int) == 2) = false from rfl, show ((0 : Int) == 3) = false from rfl, show ((0 : Int) == 4) = false from rfl, cond_false, List.cons_append, List.nil_append] at hj ⊢
    rw [hj]; rfl
  · unfold wordsS missS at hj
    rw [e1] at hj ⊢
    rcases e3 with e3 | e3 | e3 <;> rw [e3] at hj ⊢ <;>
    (simp only [BEq.rfl, cond_true, Option.bind_some, show ((2 : Int) == 1) = false from rfl, show ((2 : Int) == 4) = false from rfl, show ((3 : Int) == 2) = false from rfl, show ((4 : Int) == 2) = false from rfl, show ((4 : Int) == 3) = false from rfl, cond_false, List.cons_append, List.nil_append] at hj ⊢
     rw [hj]; rfl)
  · unfold wordsS at hj
    rw [e1] at hj ⊢
    rw [e3]
    simp only [BEq.rfl, cond_true, Option.bind_some, show ((3 : Int) == 1) = false from rfl, show ((3 : Int) == 2) = false from rfl, show ((3 : Int) == 4) = false from rfl, show ((0 : Int) == 2) = false from rfl, show ((0 : Int) == 3) = false from rfl, show ((0 : Int) == 4) = false from rfl, cond_false, List.cons_append, List.nil_append] at hj ⊢
    rw [hj]; rfl
  · unfold wordsS at hj
    rw [itoa1 e2, itoa1 e3]
    rw [e1] at hj ⊢
    simp only [BEq.rfl, cond_true, Option.bind_some, show ((4 : Int) == 1) = false from rfl, show ((4 : Int) == 2) = false from rfl, show ((4 : Int) == 3) = false from rfl, cond_false, List.cons_append, List.nil_append] at hj ⊢
    rw [hj]; rfl
end Lift.A1P

/- Layer 25: the document's line. -/
namespace Lift.A1P
open Go Go.RowKit Lift Go.IntWalk Lift.Fn

def comI (l : List Int) : List Int := l.flatMap fun n => [44, 48 + n]

theorem mis1 (n : Int) : racetreeref25_misuse n = some (missS n) := by
  rw [racetreeref25_misuse, sealF_eq]
  unfold racetreeref25_misuse_f missS
  cases n == 2 <;> cases n == 3 <;> rfl

theorem dgI {n : Int} (h : okN n = true) : IntKind.wrap IntKind.u8 (IntKind.wrap IntKind.i64 (48 + n)) = 48 + n := by
  obtain ⟨h0, h7⟩ := okN_mem h
  rw [i64_in _ (by omega), u8_in _ (by omega)]

theorem lineLoop (l : List Int) (a b c d : Int) (hl : l.length ≤ 1000) (ho : l.all okN = true) : ∀ (k n i : Nat) (acc : List Int), l.length - i ≤ k → k < n → 1 ≤ i → i ≤ l.length → acc.length + 2 * (l.length - i) ≤ 1000000 →
    racetreeref25_line_i20 n (i : Int) a b c d l acc = some (acc ++ comI (l.drop i)) := by
  intro k
  induction k with
  | zero =>
    intro n i acc hk hn h1 hi hb
    cases n with
    | zero => omega
    | succ n =>
      unfold racetreeref25_line_i20 racetreeref25_line_t20
      rw [decide_eq_false (by omega), cond_false, List.drop_eq_nil_of_le (show l.length ≤ i by omega)]
      simp [comI]
  | succ k ih =>
    intro n i acc hk hn h1 hi hb
    cases n with
    | zero => omega
    | succ n =>
      unfold racetreeref25_line_i20 racetreeref25_line_t20
      by_cases h : i < l.length
      · have hg : l[Int.toNat (i : Int)]? = some l[i] := by rw [Int.toNat_natCast]; exact List.getElem?_eq_getElem h
        have hi1 : okN l[i] = true := List.all_eq_true.1 ho _ (List.getElem_mem h)
        rw [decide_eq_true (show (i : Int) < l.length by omega), cond_true, decide_eq_true (show (i : Int) > 0 by omega), cond_true, decide_eq_true (show (List.length acc + (1 : Nat)) * (1 : Nat) ≤ (140737488355328 : Nat) ∧ List.length acc + (1 : Nat) ≤ (9223372036854775807 : Nat) by omega), cond_true,
          decide_eq_true (show (0 : Int) ≤ (i : Int) by omega), cond_true, hg, Option.bind_some, dgI hi1]
        rw [decide_eq_true (show (List.length (acc ++ [(44 : Int)]) + List.length [48 + l[i]]) * (1 : Nat) ≤ (140737488355328 : Nat) ∧ List.length (acc ++ [(44 : Int)]) + List.length [48 + l[i]] ≤ (9223372036854775807 : Nat) by
          simp only [List.length_append, List.length_cons, List.length_nil]; omega), cond_true, i64_in _ (by omega)]
        have := ih n (i + 1) (acc ++ [44] ++ [48 + l[i]]) (by omega) (by omega) (by omega) (by omega) (by simp only [List.length_append, List.length_cons, List.length_nil]; omega)
        rw [show ((i + 1 : Nat) : Int) = (i : Int) + 1 by omega] at this
        rw [this, drop_at h]
        simp only [comI, List.flatMap_cons, List.append_assoc, List.cons_append, List.nil_append]
      · rw [decide_eq_false (by omega), cond_false, List.drop_eq_nil_of_le (show l.length ≤ i by omega)]
        simp [comI]

theorem bytes_ofStr (s : List UInt8) : bytesOf (ofStr s) = s := by
  unfold bytesOf ofStr
  rw [List.map_map]
  conv => rhs; rw [← List.map_id s]
  apply List.map_congr_left
  intro b _
  simp

theorem bytes_append (a b : List Int) : bytesOf (a ++ b) = bytesOf a ++ bytesOf b := by
  unfold bytesOf; rw [List.map_append]

theorem bytes_dg {n : Int} (h : okN n = true) : bytesOf [48 + n] = [dg n] := by
  obtain ⟨h0, h7⟩ := okN_mem h
  unfold bytesOf dg
  rw [List.map_cons, List.map_nil]
  congr 2
  omega

theorem bytes_com : ∀ (l : List Int), l.all okN = true → bytesOf (comI l) = Lib.joinTail [44] (l.map fun n => [dg n])
  | [], _ => rfl
  | n :: l, h => by
    rw [List.all_cons, Bool.and_eq_true] at h
    have ih := bytes_com l h.2
    have h1 := bytes_dg h.1
    unfold comI Lib.joinTail at ih ⊢
    rw [List.flatMap_cons, bytes_append, ih, show [44, 48 + n] = [44] ++ [48 + n] from rfl, bytes_append, h1]
    simp [bytesOf]

theorem tail1 (l : List Int) (a b c d : Int) (s : List UInt8) (hl : l.length ≤ 1000) (ho : l.all okN = true) (hs : s.length ≤ 1000) (he : ((l.length : Int) == 0) = false) :
    ∃ y, racetreeref25_line_l20 0 a b c d l (ofStr s) = some y ∧ bytesOf y = s ++ schS l := by
  cases l with
  | nil => simp at he
  | cons m l =>
    have hm : okN m = true := List.all_eq_true.1 ho _ (by simp)
    have hL := lineLoop (m :: l) a b c d hl ho (m :: l).length (fuel - 1) 1 (ofStr s ++ [48 + m]) (by omega) (by unfold fuel; omega) (by omega) (by simp) (by simp only [List.length_append, List.length_cons, List.length_nil, ofStr, List.length_map] at hl ⊢; omega)
    refine ⟨ofStr s ++ [48 + m] ++ comI (List.drop 1 (m :: l)), ?_, ?_⟩
    · rw [racetreeref25_line_l20, sealF_eq, show fuel = (fuel - 1) + 1 by unfold fuel; omega]
      unfold racetreeref25_line_i20 racetreeref25_line_t20
      have hg : (m :: l)[Int.toNat (0 : Int)]? = some m := rfl
      rw [decide_eq_true (show (0 : Int) < ((m :: l).length : Int) by simp only [List.length_cons]; omega), cond_true, decide_eq_false (show ¬ (0 : Int) > 0 by omega), cond_false, decide_eq_true (show (0 : Int) ≤ 0 by omega), cond_true, hg, Option.bind_some, dgI hm]
      rw [decide_eq_true (show (List.length (ofStr s) + List.length [48 + m]) * (1 : Nat) ≤ (140737488355328 : Nat) ∧ List.length (ofStr s) + List.length [48 + m] ≤ (9223372036854775807 : Nat) by
          simp only [List.length_cons, List.length_nil, ofStr, List.length_map]; omega), cond_true, i64_in _ (by omega)]
      exact hL
    · rw [bytes_append, bytes_append, bytes_ofStr, bytes_dg hm, List.drop_succ_cons, List.drop_zero, bytes_com l (by rw [List.all_cons, Bool.and_eq_true] at ho; exact ho.2)]
      unfold schS
      rw [he, cond_false, List.map_cons, Lib.join_cons, List.append_assoc]

theorem lens8 (s : List UInt8) (hs : s.length ≤ 1000) : decide (s.length ≤ (140737488355328 : Nat) ∧ s.length ≤ (9223372036854775807 : Nat)) = true := decide_eq_true (by omega)

theorem refLine1 {f : Finding} (h : rightS f = true) : racetreeref25_line f = some (lineS f) := by
  obtain ⟨ht, hl, hs, hk⟩ := rightS_parts h
  rw [racetreeref25_line, sealF_eq]
  unfold racetreeref25_line_f
  rw [digit1 ht, Option.bind_some]
  rcases kind_cases hk with ⟨e1, e2, e3⟩ | ⟨e1, e2, e3⟩ | ⟨e1, e2, e3⟩ | ⟨e1, e2, e3, _⟩
  · rw [e1]
    simp only [BEq.rfl, cond_true]
    cases he : ((f.schedule.length : Int) == 0) with
    | true =>
      simp only [List.length_append, List.length_cons, List.length_nil, Nat.reduceAdd, Nat.reduceLeDiff, decide_true, cond_true]
      unfold lineS wordsS schS
      rw [he, e1]
      simp [Lib.join_cons, Lib.joinTail]
    | false =>
      obtain ⟨y, hy1, hy2⟩ := tail1 f.schedule 1 f.thread f.other f.what ([97, 115, 115, 101, 114, 116, 32] ++ [dg f.thread] ++ [32, 98, 121, 32]) hl hs (by simp) he
      rw [hy1, Option.bind_some, hy2]
      simp only [List.length_append, List.length_cons, List.length_nil, Nat.reduceAdd, Nat.reduceLeDiff, decide_true, cond_true, and_self, cond_false]
      unfold lineS wordsS
      rw [e1]
      simp [Lib.join_cons, Lib.joinTail]
  · rw [e1]
    simp only [BEq.rfl, cond_true, show ((2 : Int) == 1) = false from rfl, cond_false, mis1, Option.bind_some]
    have hm : (missS f.what).length ≤ 6 := by
      unfold missS
      cases f.what == 2 <;> cases f.what == 3 <;> decide
    have c : ∀ k, k ≤ 1000 → decide (k ≤ (9223372036854775807 : Nat)) = true := fun k hk => decide_eq_true (by omega)
    simp only [List.length_append, List.length_cons, List.length_nil, Nat.reduceAdd, Nat.reduceLeDiff, decide_true, cond_true]
    rw [c _ (by omega), cond_true, decide_eq_true (show 9 + (missS f.what).length ≤ 9223372036854775803 by omega), cond_true]
    cases he : ((f.schedule.length : Int) == 0) with
    | true =>
      rw [cond_true, decide_eq_true (show 9 + (missS f.what).length ≤ 9223372036854775802 by omega), cond_true]
      unfold lineS wordsS schS
      rw [he, e1]
      simp [Lib.join_cons, Lib.joinTail]
    | false =>
      obtain ⟨y, hy1, hy2⟩ := tail1 f.schedule 2 f.thread f.other f.what ([109, 105, 115, 117, 115, 101, 32] ++ [dg f.thread] ++ [32] ++ missS f.what ++ [32, 98, 121, 32]) hl hs (by simp only [List.length_append, List.length_cons, List.length_nil]; omega) he
      rw [hy1, Option.bind_some, hy2, cond_false, decide_eq_true (show 9 + (missS f.what).length ≤ 140737488355324 ∧ 9 + (missS f.what).length ≤ 9223372036854775803 by omega), cond_true]
      unfold lineS wordsS
      rw [e1]
      simp [Lib.join_cons, Lib.joinTail]
  · rw [e1]
    simp only [BEq.rfl, cond_true, show ((3 : Int) == 1) = false from rfl, show ((3 : Int) == 2) = false from rfl, cond_false]
    cases he : ((f.schedule.length : Int) == 0) with
    | true =>
      simp only [List.length_append, List.length_cons, List.length_nil, Nat.reduceAdd, Nat.reduceLeDiff, decide_true, cond_true]
      unfold lineS wordsS schS
      rw [he, e1]
      simp [Lib.join_cons, Lib.joinTail]
    | false =>
      obtain ⟨y, hy1, hy2⟩ := tail1 f.schedule 3 f.thread f.other f.what ([100, 101, 97, 100, 108, 111, 99, 107, 32] ++ [dg f.thread] ++ [32, 98, 121, 32]) hl hs (by simp) he
      rw [hy1, Option.bind_some, hy2]
      simp only [List.length_append, List.length_cons, List.length_nil, Nat.reduceAdd, Nat.reduceLeDiff, decide_true, cond_true, and_self, cond_false]
      unfold lineS wordsS
      rw [e1]
      simp [Lib.join_cons, Lib.joinTail]
  · rw [e1, digit1 e2, digit1 e3]
    simp only [BEq.rfl, cond_true, show ((4 : Int) == 1) = false from rfl, show ((4 : Int) == 2) = false from rfl, show ((4 : Int) == 3) = false from rfl, cond_false, Option.bind_some]
    cases he : ((f.schedule.length : Int) == 0) with
    | true =>
      simp only [List.length_append, List.length_cons, List.length_nil, Nat.reduceAdd, Nat.reduceLeDiff, decide_true, cond_true]
      unfold lineS wordsS schS
      rw [he, e1]
      simp [Lib.join_cons, Lib.joinTail]
    | false =>
      obtain ⟨y, hy1, hy2⟩ := tail1 f.schedule 4 f.thread f.other f.what ([114, 97, 99, 101, 32] ++ [dg f.thread] ++ [32] ++ [dg f.other] ++ [32] ++ [dg f.what] ++ [32, 98, 121, 32]) hl hs (by simp) he
      rw [hy1, Option.bind_some, hy2]
      simp only [List.length_append, List.length_cons, List.length_nil, Nat.reduceAdd, Nat.reduceLeDiff, decide_true, cond_true, and_self, cond_false]
      unfold lineS wordsS
      rw [e1]
      simp [Lib.join_cons, Lib.joinTail]
end Lift.A1P

/- Layer 25: Print. -/
namespace Lift.A1P
open Go Go.RowKit Lift Go.IntWalk Lift.Fn

theorem print_1 (f : Finding) : report_Print_1 f = some (!rightS f) := by
  rw [report_Print_1, sealF_eq]
  unfold report_Print_1_f
  rw [show Finding.mk f.kind f.thread f.other f.what f.schedule = f from rfl, right1]
  rfl

theorem index2 (l : List Finding) (hl : l.length ≤ 4611686018427387904) : ∀ (k n i : Nat), l.length - i ≤ k → k < n → i ≤ l.length →
    (∃ j : Int, slices_IndexFunc_api_Finding_api_Finding_i2 n l (l.length : Int) (i : Int) = some (.inl j) ∧ 0 ≤ j ∧ (l.drop i).all rightS = false) ∨
    (slices_IndexFunc_api_Finding_api_Finding_i2 n l (l.length : Int) (i : Int) = some (.inr ()) ∧ (l.drop i).all rightS = true) := by
  intro k
  induction k with
  | zero =>
    intro n i hk hn hi
    cases n with
    | zero => omega
    | succ n =>
      right
      unfold slices_IndexFunc_api_Finding_api_Finding_i2 slices_IndexFunc_api_Finding_api_Finding_t2
      rw [decide_eq_false (by omega), cond_false, List.drop_eq_nil_of_le (by omega)]
      exact ⟨rfl, rfl⟩
  | succ k ih =>
    intro n i hk hn hi
    cases n with
    | zero => omega
    | succ n =>
      unfold slices_IndexFunc_api_Finding_api_Finding_i2 slices_IndexFunc_api_Finding_api_Finding_t2
      by_cases h : i < l.length
      · have hg : l[Int.toNat (i : Int)]? = some l[i] := by rw [Int.toNat_natCast]; exact List.getElem?_eq_getElem h
        rw [decide_eq_true (by omega), cond_true, decide_eq_true (by omega), cond_true, hg, Option.bind_some, print_1, Option.bind_some, drop_at h, List.all_cons]
        cases ho : rightS l[i] with
        | false => left; exact ⟨_, rfl, by omega, rfl⟩
        | true =>
          rw [Bool.not_true, cond_false, i64_in _ (by omega), Bool.true_and]
          exact ih n (i + 1) (by omega) (by omega) (by omega)
      · right
        rw [decide_eq_false (by omega), cond_false, List.drop_eq_nil_of_le (by omega)]
        exact ⟨rfl, rfl⟩

theorem contains2 (l : List Finding) (hl : l.length ≤ 1000000000000000) : slices_ContainsFunc_api_Finding_api_Finding l = some (!l.all rightS) := by
  rw [slices_ContainsFunc_api_Finding_api_Finding, sealF_eq]
  unfold slices_ContainsFunc_api_Finding_api_Finding_f
  rw [slices_IndexFunc_api_Finding_api_Finding, sealF_eq]
  unfold slices_IndexFunc_api_Finding_api_Finding_f
  rw [slices_IndexFunc_api_Finding_api_Finding_l2, sealF_eq]
  rcases index2 l (by omega) l.length fuel 0 (by omega) (by unfold fuel; omega) (by omega) with ⟨j, h1, h2, h3⟩ | ⟨h1, h3⟩
  · rw [show ((0 : Nat) : Int) = 0 from rfl] at h1
    rw [List.drop_zero] at h3
    rw [h1, Option.bind_some, h3]
    simp only [Option.bind_some]
    rw [decide_eq_true (show j ≥ 0 from h2)]
    rfl
  · rw [show ((0 : Nat) : Int) = 0 from rfl] at h1
    rw [List.drop_zero] at h3
    rw [h1, Option.bind_some, h3]
    rfl

/-- The lines, one behind the other; or too much of them. -/
def prS : List Finding → List Int → (List UInt8 × Int) ⊕ List Int
  | [], acc => .inr acc
  | f :: l, acc => bif decide (((acc ++ ofStr (lineS f) ++ [10]).length : Int) > 40000) then .inl ([], 251) else prS l (acc ++ ofStr (lineS f) ++ [10])

def printS (l : List Finding) : List UInt8 × Int := bif l.all rightS then (match prS l [] with | .inl x => x | .inr a => (bytesOf a, 0)) else ([], 1)

theorem ofStr_len (s : List UInt8) : (ofStr s).length = s.length := by simp [ofStr]

theorem wstr1 (s : List UInt8) (a : List Int) (h : a.length + s.length ≤ 1000000) : strings_Builder_WriteString s a = some ((s.length : Int), false, a ++ ofStr s) := by
  rw [strings_Builder_WriteString, sealF_eq]
  unfold strings_Builder_WriteString_f
  rw [decide_eq_true (by omega)]
  rfl

theorem wbyte1 (b : Int) (a : List Int) (h : a.length ≤ 1000000) : strings_Builder_WriteByte b a = some (false, a ++ [b]) := by
  rw [strings_Builder_WriteByte, sealF_eq]
  unfold strings_Builder_WriteByte_f
  rw [decide_eq_true (by simp only [List.length_cons, List.length_nil]; omega)]
  rfl

theorem blen1 (a : List Int) : strings_Builder_Len a = some ((a.length : Int), a) := by
  rw [strings_Builder_Len, sealF_eq]
  rfl

theorem printLoop (l : List Finding) (hl : l.length ≤ 4611686018427387904) (hr : l.all rightS = true) : ∀ (k n i : Nat) (acc : List Int), l.length - i ≤ k → k < n → i ≤ l.length → acc.length ≤ 40000 →
    report_Print_i4 n l (l.length : Int) (i : Int) acc = some (prS (l.drop i) acc) := by
  intro k
  induction k with
  | zero =>
    intro n i acc hk hn hi ha
    cases n with
    | zero => omega
    | succ n =>
      unfold report_Print_i4 report_Print_t4
      rw [decide_eq_false (by omega), cond_false, List.drop_eq_nil_of_le (by omega)]
      rfl
  | succ k ih =>
    intro n i acc hk hn hi ha
    cases n with
    | zero => omega
    | succ n =>
      unfold report_Print_i4 report_Print_t4
      by_cases h : i < l.length
      · have hg : l[Int.toNat (i : Int)]? = some l[i] := by rw [Int.toNat_natCast]; exact List.getElem?_eq_getElem h
        have hi1 : rightS l[i] = true := List.all_eq_true.1 hr _ (List.getElem_mem h)
        have hlen := (words_len l[i] (rightS_parts hi1).2.1).1
        have ol := ofStr_len (lineS l[i])
        rw [decide_eq_true (by omega), cond_true, decide_eq_true (by omega), cond_true, hg, Option.bind_some]
        rw [show ∀ f : Finding, Finding.mk f.kind f.thread f.other f.what f.schedule = f from fun _ => rfl, line1 hi1, Option.bind_some, wstr1 _ _ (by omega), Option.bind_some]
        simp only
        rw [wbyte1 _ _ (by rw [List.length_append]; omega), Option.bind_some]
        simp only
        rw [blen1, Option.bind_some, drop_at h]
        unfold prS
        simp only
        cases hc : decide (((acc ++ ofStr (lineS l[i]) ++ [10]).length : Int) > 40000) with
        | true => rfl
        | false =>
          rw [cond_false, cond_false, i64_in _ (by omega)]
          have := of_decide_eq_false hc
          exact ih n (i + 1) _ (by omega) (by omega) (by omega) (by omega)
      · rw [decide_eq_false (by omega), cond_false, List.drop_eq_nil_of_le (by omega)]
        rfl

def byteOk (a : List Int) : Prop := ∀ n ∈ a, 0 ≤ n ∧ n < 256

theorem byteOk_ofStr (s : List UInt8) : byteOk (ofStr s) := by
  intro n hn
  unfold ofStr at hn
  obtain ⟨b, _, rfl⟩ := List.mem_map.1 hn
  have := b.toNat_lt
  omega

theorem prS_ok : ∀ (l : List Finding) (acc : List Int), byteOk acc → ∀ a, prS l acc = .inr a → byteOk a
  | [], acc, h, a, e => by cases e; exact h
  | f :: l, acc, h, a, e => by
    unfold prS at e
    cases hc : decide (((acc ++ ofStr (lineS f) ++ [10]).length : Int) > 40000) with
    | true => rw [hc] at e; cases e
    | false =>
      rw [hc, cond_false] at e
      refine prS_ok l _ ?_ a e
      intro n hn
      rcases List.mem_append.1 hn with hn | hn
      · rcases List.mem_append.1 hn with hn | hn
        · exact h n hn
        · exact byteOk_ofStr _ n hn
      · simp at hn; omega

theorem bstr1 (a : List Int) (h : byteOk a) : strings_Builder_String a = some (bytesOf a) := by
  rw [strings_Builder_String, sealF_eq]
  unfold strings_Builder_String_f
  rw [List.all_eq_true.2 (fun n hn => decide_eq_true (h n hn)), cond_true]

theorem print1 (l : List Finding) (hl : l.length ≤ 1000000000000000) : report_Print l = some (printS l) := by
  rw [report_Print, sealF_eq]
  unfold report_Print_f printS
  rw [contains2 l hl, Option.bind_some]
  cases hr : l.all rightS with
  | false => rfl
  | true =>
    have hL := printLoop l (by omega) hr l.length fuel 0 [] (by omega) (by unfold fuel; omega) (by omega) (by simp)
    rw [show ((0 : Nat) : Int) = 0 from rfl, List.drop_zero] at hL
    rw [Bool.not_true, Bool.not_false, cond_true, cond_true, report_Print_l4, sealF_eq, hL, Option.bind_some]
    cases hp : prS l [] with
    | inl x => rfl
    | inr a =>
      simp only
      rw [bstr1 a (prS_ok l [] (fun _ h => by cases h) a hp), Option.bind_some]

theorem refAll (l : List Finding) (hl : l.length ≤ 4611686018427387904) : ∀ (k n i : Nat), l.length - i ≤ k → k < n → i ≤ l.length →
    racetreeref25_Print_i2 n l (i : Int) = some (bif (l.drop i).all rightS then .inr l else .inl ([], 1)) := by
  intro k
  induction k with
  | zero =>
    intro n i hk hn hi
    cases n with
    | zero => omega
    | succ n =>
      unfold racetreeref25_Print_i2 racetreeref25_Print_t2
      rw [decide_eq_false (by omega), cond_false, List.drop_eq_nil_of_le (by omega)]
      rfl
  | succ k ih =>
    intro n i hk hn hi
    cases n with
    | zero => omega
    | succ n =>
      unfold racetreeref25_Print_i2 racetreeref25_Print_t2
      by_cases h : i < l.length
      · have hg : l[Int.toNat (i : Int)]? = some l[i] := by rw [Int.toNat_natCast]; exact List.getElem?_eq_getElem h
        rw [decide_eq_true (by omega), cond_true, decide_eq_true (by omega), cond_true, hg, Option.bind_some, refRight, Option.bind_some, drop_at h, List.all_cons]
        cases ho : rightS l[i] with
        | false => rfl
        | true =>
          rw [Bool.not_true, cond_false, i64_in _ (by omega), Bool.true_and]
          exact ih n (i + 1) (by omega) (by omega) (by omega)
      · rw [decide_eq_false (by omega), cond_false, List.drop_eq_nil_of_le (by omega)]
        rfl

theorem refPrLoop (l : List Finding) (hl : l.length ≤ 4611686018427387904) (hr : l.all rightS = true) : ∀ (k n i : Nat) (acc : List Int), l.length - i ≤ k → k < n → i ≤ l.length → acc.length ≤ 40000 →
    racetreeref25_Print_i9 n l (i : Int) acc = some (prS (l.drop i) acc) := by
  intro k
  induction k with
  | zero =>
    intro n i acc hk hn hi ha
    cases n with
    | zero => omega
    | succ n =>
      unfold racetreeref25_Print_i9 racetreeref25_Print_t9
      rw [decide_eq_false (by omega), cond_false, List.drop_eq_nil_of_le (by omega)]
      rfl
  | succ k ih =>
    intro n i acc hk hn hi ha
    cases n with
    | zero => omega
    | succ n =>
      unfold racetreeref25_Print_i9 racetreeref25_Print_t9
      by_cases h : i < l.length
      · have hg : l[Int.toNat (i : Int)]? = some l[i] := by rw [Int.toNat_natCast]; exact List.getElem?_eq_getElem h
        have hi1 : rightS l[i] = true := List.all_eq_true.1 hr _ (List.getElem_mem h)
        have hlen := (words_len l[i] (rightS_parts hi1).2.1).1
        have ol := ofStr_len (lineS l[i])
        rw [decide_eq_true (show (i : Int) < l.length by omega), cond_true, decide_eq_true (show (0 : Int) ≤ (i : Int) by omega), cond_true, hg, Option.bind_some, refLine1 hi1, Option.bind_some, drop_at h,
          decide_eq_true (show acc.length + (lineS l[i]).length ≤ 140737488355328 ∧ acc.length + (lineS l[i]).length ≤ 9223372036854775807 by omega), cond_true,
          decide_eq_true (show ((acc ++ ofStr (lineS l[i])).length + 1) * 1 ≤ 140737488355328 ∧ (acc ++ ofStr (lineS l[i])).length + 1 ≤ 9223372036854775807 by rw [List.length_append]; omega), cond_true]
        unfold prS
        cases hc : decide (((acc ++ ofStr (lineS l[i]) ++ [10]).length : Int) > 40000) with
        | true => rfl
        | false =>
          rw [cond_false, cond_false, i64_in _ (by omega)]
          have := of_decide_eq_false hc
          exact ih n (i + 1) _ (by omega) (by omega) (by omega) (by omega)
      · rw [decide_eq_false (by omega), cond_false, List.drop_eq_nil_of_le (by omega)]
        rfl

theorem refPrint1 (l : List Finding) (hl : l.length ≤ 1000000000000000) : racetreeref25_Print l = some (printS l) := by
  have hA := refAll l (by omega) l.length fuel 0 (by omega) (by unfold fuel; omega) (by omega)
  rw [show ((0 : Nat) : Int) = 0 from rfl, List.drop_zero] at hA
  rw [racetreeref25_Print, sealF_eq]
  unfold racetreeref25_Print_f printS
  rw [racetreeref25_Print_l2, sealF_eq, hA, Option.bind_some]
  cases hr : l.all rightS with
  | false => rfl
  | true =>
    have hL := refPrLoop l (by omega) hr l.length fuel 0 [] (by omega) (by unfold fuel; omega) (by omega) (by simp)
    rw [show ((0 : Nat) : Int) = 0 from rfl, List.drop_zero] at hL
    simp only [cond_true]
    rw [racetreeref25_Print_l9, sealF_eq, hL, Option.bind_some]
    cases hp : prS l [] with
    | inl x => rfl
    | inr a => rfl

theorem awake1 : racetreelaw25_awake = some true := by
  rw [racetreelaw25_awake, sealF_eq]
  unfold racetreelaw25_awake_f
  rw [print1 _ (by simp), Option.bind_some]
  have : printS [Finding.mk (1 : Int) (0 : Int) (0 : Int) (0 : Int) []] = ([97, 115, 115, 101, 114, 116, 32, 48, 32, 98, 121, 32, 45, 10], 0) := by decide +kernel
  rw [this]
  rfl

theorem reportPrints1 (l : List Finding) (hl : l.length ≤ 1000000000000000) : racetreelaw25_ReportPrints l = some true := by
  rw [racetreelaw25_ReportPrints, sealF_eq]
  unfold racetreelaw25_ReportPrints_f
  rw [awake1, print1 l hl, refPrint1 l hl]
  simp only [Option.bind_some, cond_true, BEq.rfl]
end Lift.A1P

/- Layer 25: a finding in words. -/
namespace Lift.A1P
open Go Go.RowKit Lift Go.IntWalk Lift.Fn

def pick (l : List (List UInt8)) (n : Int) : List UInt8 := (l[n.toNat]?).getD []

def lineN (f : Finding) (n : Names) : List UInt8 × Int :=
  bif rightS f then
    bif decide (f.thread ≥ (n.threads.length : Int)) then ([], 1) else
    bif f.kind == 4 then
      bif decide (f.other ≥ (n.threads.length : Int)) then ([], 1) else
      bif decide (f.what ≥ (n.cells.length : Int)) then ([], 1) else
      ([116, 104, 114, 101, 97, 100, 115, 32] ++ (pick n.threads f.thread ++ ([32, 97, 110, 100, 32] ++ (pick n.threads f.other ++ ([58, 32, 114, 97, 99, 101, 32, 102, 111, 114, 32, 116, 104, 101, 32, 99, 101, 108, 108, 32] ++ pick n.cells f.what)))), 0)
    else
    bif f.kind == 1 then ([116, 104, 114, 101, 97, 100, 32] ++ (pick n.threads f.thread ++ [58, 32, 97, 110, 32, 97, 115, 115, 101, 114, 116, 32, 102, 97, 105, 108, 115]), 0) else
    bif f.kind == 3 then ([116, 104, 114, 101, 97, 100, 32] ++ (pick n.threads f.thread ++ [58, 32, 119, 97, 105, 116, 115, 32, 102, 111, 114, 32, 101, 118, 101, 114]), 0) else
    bif f.what == 2 then ([116, 104, 114, 101, 97, 100, 32] ++ (pick n.threads f.thread ++ [58, 32, 117, 110, 108, 111, 99, 107, 115, 32, 97, 32, 109, 117, 116, 101, 120, 32, 116, 104, 97, 116, 32, 105, 116, 32, 100, 111, 101, 115, 32, 110, 111, 116, 32, 111, 119, 110]), 0) else
    bif f.what == 3 then ([116, 104, 114, 101, 97, 100, 32] ++ (pick n.threads f.thread ++ [58, 32, 106, 111, 105, 110, 115, 32, 97, 32, 116, 104, 114, 101, 97, 100, 32, 116, 104, 97, 116, 32, 119, 97, 115, 32, 110, 111, 116, 32, 115, 116, 97, 114, 116, 101, 100]), 0) else
    ([116, 104, 114, 101, 97, 100, 32] ++ (pick n.threads f.thread ++ [58, 32, 115, 116, 97, 114, 116, 115, 32, 97, 32, 116, 104, 114, 101, 97, 100, 32, 116, 104, 97, 116, 32, 119, 97, 115, 32, 115, 116, 97, 114, 116, 101, 100]), 0)
  else ([], 1)

theorem bif_dec {p : Prop} [Decidable p] {α : Type} {a b : α} (h : p) : (bif decide p then a else b) = a := by rw [decide_eq_true h, cond_true]

def smallN (n : Names) : Prop := (∀ s ∈ n.threads, s.length ≤ 1048576) ∧ ∀ s ∈ n.cells, s.length ≤ 1048576

theorem pick_at {l : List (List UInt8)} {n : Int} (h0 : 0 ≤ n) (h : ¬ n ≥ (l.length : Int)) (hs : ∀ s ∈ l, s.length ≤ 1048576) : l[Int.toNat n]? = some (pick l n) ∧ (pick l n).length ≤ 1048576 := by
  have hlt : n.toNat < l.length := by omega
  have e : l[Int.toNat n]? = some l[n.toNat] := List.getElem?_eq_getElem hlt
  unfold pick
  rw [e]
  exact ⟨rfl, hs _ (List.getElem_mem hlt)⟩

theorem named1 (l : List (List UInt8)) {n : Int} (h0 : 0 ≤ n) (hs : ∀ s ∈ l, s.length ≤ 1048576) : report_named l n = some (bif decide (n ≥ (l.length : Int)) then ([], false) else (pick l n, true)) := by
  rw [report_named, sealF_eq]
  unfold report_named_f
  by_cases h : n ≥ (l.length : Int)
  · rw [decide_eq_true h]; rfl
  · rw [decide_eq_false h, cond_false, cond_false, decide_eq_true h0, cond_true, (pick_at h0 h hs).1, Option.bind_some]

theorem nameLine (f : Finding) (n : Names) (hs : smallN n) : report_Line f n = some (lineN f n) := by
  rw [report_Line, sealF_eq]
  unfold report_Line_f
  rw [show Finding.mk f.kind f.thread f.other f.what f.schedule = f from rfl, right1, Option.bind_some]
  unfold lineN
  cases hr : rightS f with
  | false => rfl
  | true =>
    obtain ⟨ht, _, _, hk⟩ := rightS_parts hr
    have h0 := (okN_mem ht).1
    rw [Bool.not_true, cond_false, cond_true, named1 _ h0 hs.1, Option.bind_some]
    by_cases h : f.thread ≥ (n.threads.length : Int)
    · rw [decide_eq_true h]; rfl
    · obtain ⟨hp, hp2⟩ := pick_at h0 h hs.1
      rw [decide_eq_false h, cond_false, cond_false]
      simp only [Bool.not_true, cond_false]
      rcases kind_cases hk with ⟨e1, e2, e3⟩ | ⟨e1, e2, e3⟩ | ⟨e1, e2, e3⟩ | ⟨e1, e2, e3, _⟩
      · rw [e1]
        simp only [BEq.rfl, cond_true, show ((1 : Int) == 4) = false from rfl, cond_false]
        refine Eq.trans (bif_dec (by omega)) ?_
        refine Eq.trans (bif_dec (by simp only [List.length_append, List.length_cons, List.length_nil]; omega)) ?_
        simp only [List.append_assoc]
      · rw [e1]
        simp only [show ((2 : Int) == 1) = false from rfl, show ((2 : Int) == 3) = false from rfl, show ((2 : Int) == 4) = false from rfl, cond_false]
        cases f.what == 2 with
        | true =>
          simp only [cond_true]
          refine Eq.trans (bif_dec (by omega)) ?_
          refine Eq.trans (bif_dec (by simp only [List.length_append, List.length_cons, List.length_nil]; omega)) ?_
          simp only [List.append_assoc]
        | false =>
          cases f.what == 3 with
          | true =>
            simp only [cond_true, cond_false]
            refine Eq.trans (bif_dec (by omega)) ?_
            refine Eq.trans (bif_dec (by simp only [List.length_append, List.length_cons, List.length_nil]; omega)) ?_
            simp only [List.append_assoc]
          | false =>
            simp only [cond_false]
            refine Eq.trans (bif_dec (by omega)) ?_
            refine Eq.trans (bif_dec (by simp only [List.length_append, List.length_cons, List.length_nil]; omega)) ?_
            simp only [List.append_assoc]
      · rw [e1]
        simp only [BEq.rfl, cond_true, show ((3 : Int) == 1) = false from rfl, show ((3 : Int) == 4) = false from rfl, cond_false]
        refine Eq.trans (bif_dec (by omega)) ?_
        refine Eq.trans (bif_dec (by simp only [List.length_append, List.length_cons, List.length_nil]; omega)) ?_
        simp only [List.append_assoc]
      · have ho := (okN_mem e2).1
        have hw := (okN_mem e3).1
        rw [e1, named1 _ ho hs.1, named1 _ hw hs.2]
        simp only [BEq.rfl, cond_true, show ((4 : Int) == 1) = false from rfl, show ((4 : Int) == 3) = false from rfl, cond_false, Option.bind_some]
        by_cases h2 : f.other ≥ (n.threads.length : Int)
        · rw [decide_eq_true h2]; rfl
        · obtain ⟨hq, hq2⟩ := pick_at ho h2 hs.1
          rw [decide_eq_false h2, cond_false, cond_false]
          simp only [Bool.not_true, cond_false]
          by_cases h3 : f.what ≥ (n.cells.length : Int)
          · rw [decide_eq_true h3]; rfl
          · obtain ⟨hu, hu2⟩ := pick_at hw h3 hs.2
            rw [decide_eq_false h3, cond_false, cond_false]
            simp only [Bool.not_true, cond_false]
            refine Eq.trans (bif_dec (by omega)) ?_
            iterate 4 (refine Eq.trans (bif_dec (by simp only [List.length_append, List.length_cons, List.length_nil]; omega)) ?_)
            simp only [List.append_assoc]

theorem nameRef (f : Finding) (n : Names) (hs : smallN n) : racetreeref25_Line f n = some (lineN f n) := by
  rw [racetreeref25_Line, sealF_eq]
  unfold racetreeref25_Line_f
  rw [show Finding.mk f.kind f.thread f.other f.what f.schedule = f from rfl, refRight, Option.bind_some]
  unfold lineN
  cases hr : rightS f with
  | false => rfl
  | true =>
    obtain ⟨ht, _, _, hk⟩ := rightS_parts hr
    have h0 := (okN_mem ht).1
    rw [Bool.not_true, cond_false, cond_true]
    by_cases h : f.thread ≥ (n.threads.length : Int)
    · rw [decide_eq_true h]; rfl
    · obtain ⟨hp, hp2⟩ := pick_at h0 h hs.1
      have d0 : decide ((0 : Int) ≤ f.thread) = true := decide_eq_true h0
      rw [decide_eq_false h, cond_false, cond_false, d0, hp]
      rcases kind_cases hk with ⟨e1, e2, e3⟩ | ⟨e1, e2, e3⟩ | ⟨e1, e2, e3⟩ | ⟨e1, e2, e3, _⟩
      · rw [e1]
        simp only [BEq.rfl, cond_true, show ((1 : Int) == 4) = false from rfl, cond_false, Option.bind_some]
        refine Eq.trans (bif_dec (by omega)) ?_
        iterate 2 (refine Eq.trans (bif_dec (by simp only [List.length_append, List.length_cons, List.length_nil]; omega)) ?_)
        simp only [List.append_assoc, List.cons_append, List.nil_append]
      · rw [e1]
        simp only [show ((2 : Int) == 1) = false from rfl, show ((2 : Int) == 3) = false from rfl, show ((2 : Int) == 4) = false from rfl, cond_false, cond_true, Option.bind_some]
        refine Eq.trans (bif_dec (by omega)) ?_
        refine Eq.trans (bif_dec (by simp only [List.length_append, List.length_cons, List.length_nil]; omega)) ?_
        cases f.what == 2 with
        | true =>
          simp only [cond_true]
          refine Eq.trans (bif_dec (by simp only [List.length_append, List.length_cons, List.length_nil]; omega)) ?_
          simp only [List.append_assoc, List.cons_append, List.nil_append]
        | false =>
          cases f.what == 3 with
          | true =>
            simp only [cond_true, cond_false]
            refine Eq.trans (bif_dec (by simp only [List.length_append, List.length_cons, List.length_nil]; omega)) ?_
            simp only [List.append_assoc, List.cons_append, List.nil_append]
          | false =>
            simp only [cond_false]
            refine Eq.trans (bif_dec (by simp only [List.length_append, List.length_cons, List.length_nil]; omega)) ?_
            simp only [List.append_assoc, List.cons_append, List.nil_append]
      · rw [e1]
        simp only [BEq.rfl, cond_true, show ((3 : Int) == 1) = false from rfl, show ((3 : Int) == 4) = false from rfl, cond_false, Option.bind_some]
        refine Eq.trans (bif_dec (by omega)) ?_
        iterate 2 (refine Eq.trans (bif_dec (by simp only [List.length_append, List.length_cons, List.length_nil]; omega)) ?_)
        simp only [List.append_assoc, List.cons_append, List.nil_append]
      · have ho := (okN_mem e2).1
        have hw := (okN_mem e3).1
        rw [e1]
        simp only [BEq.rfl, cond_true, show ((4 : Int) == 1) = false from rfl, show ((4 : Int) == 3) = false from rfl, cond_false, Option.bind_some]
        by_cases h2 : f.other ≥ (n.threads.length : Int)
        · rw [decide_eq_true h2]; rfl
        · obtain ⟨hq, hq2⟩ := pick_at ho h2 hs.1
          rw [decide_eq_false h2, cond_false, cond_false]
          by_cases h3 : f.what ≥ (n.cells.length : Int)
          · rw [decide_eq_true h3]; rfl
          · obtain ⟨hu, hu2⟩ := pick_at hw h3 hs.2
            rw [decide_eq_false h3, cond_false, cond_false, hq, hu]
            simp only [Option.bind_some]
            refine Eq.trans (bif_dec (by omega)) ?_
            refine Eq.trans (bif_dec (by simp only [List.length_append, List.length_cons, List.length_nil]; omega)) ?_
            refine Eq.trans (bif_dec (by omega)) ?_
            refine Eq.trans (bif_dec (by simp only [List.length_append, List.length_cons, List.length_nil]; omega)) ?_
            refine Eq.trans (bif_dec (by omega)) ?_
            iterate 2 (refine Eq.trans (bif_dec (by simp only [List.length_append, List.length_cons, List.length_nil]; omega)) ?_)
            refine Eq.trans (bif_dec (by omega)) ?_
            refine Eq.trans (bif_dec (by simp only [List.length_append, List.length_cons, List.length_nil]; omega)) ?_
            simp only [List.append_assoc]

theorem reportLines1 (f : Finding) (n : Names) (hs : smallN n) : racetreelaw25_ReportLines f n = some true := by
  rw [racetreelaw25_ReportLines, sealF_eq]
  unfold racetreelaw25_ReportLines_f
  rw [show Finding.mk f.kind f.thread f.other f.what f.schedule = f from rfl, show Names.mk n.cells n.mutexes n.threads n.regs = n from rfl, awake1, nameLine f n hs, nameRef f n hs]
  simp only [Option.bind_some, cond_true, BEq.rfl]
end Lift.A1P

/- Layer 25: a line's words. -/
namespace Lift.A1P
open Go Go.RowKit Lift Go.IntWalk Lift.Fn

theorem extract_tail (r : List UInt8) (k : Nat) : (⟨r.toArray⟩ : ByteArray).extract k (⟨r.toArray⟩ : ByteArray).size = ⟨(r.drop k).toArray⟩ := by
  apply ByteArray.ext
  rw [ByteArray.data_extract]
  apply Array.ext'
  simp only [Array.toList_extract, List.extract_eq_take_drop]
  rw [List.take_of_length_le (by simp [ByteArray.size])]

theorem extract_head (r : List UInt8) (k : Nat) : (⟨r.toArray⟩ : ByteArray).extract 0 k = ⟨(r.take k).toArray⟩ := by
  apply ByteArray.ext
  rw [ByteArray.data_extract]
  apply Array.ext'
  simp only [Array.toList_extract, List.extract_eq_take_drop]
  simp

theorem indexB_one (s : List UInt8) (c : UInt8) : Lib.indexB ⟨s.toArray⟩ ⟨#[c]⟩ = Lib.indexByte s c := by
  unfold Lib.indexB
  exact Lib.index_one s c

/-- Split at one letter. -/
theorem split_pieces (c : UInt8) : ∀ (n : Nat) (s : List UInt8), s.length ≤ n → splitL s [c] = pieces c s := by
  intro n
  induction n with
  | zero =>
    intro s hs
    have : s = [] := List.eq_nil_of_length_eq_zero (by omega)
    subst this
    have hm : Lib.indexB ⟨([] : List UInt8).toArray⟩ ⟨#[c]⟩ = -1 := by rw [indexB_one]; rfl
    unfold splitL
    rw [show (⟨[c].toArray⟩ : ByteArray) = ⟨#[c]⟩ from rfl, Lib.countB_miss _ _ hm, Lib.splitB_zero]
    rfl
  | succ n ih =>
    intro s hs
    unfold splitL
    rw [show (⟨[c].toArray⟩ : ByteArray) = ⟨#[c]⟩ from rfl]
    rcases Go.Proofs.pieces_at c s with ⟨h1, h2⟩ | ⟨k, hk, h1, h2⟩
    · have hm : Lib.indexB ⟨s.toArray⟩ ⟨#[c]⟩ = -1 := by rw [indexB_one]; exact h1
      rw [Lib.countB_miss _ _ hm, Lib.splitB_zero, h2]
      rfl
    · have hm : Lib.indexB ⟨s.toArray⟩ ⟨#[c]⟩ = (k : Int) := by rw [indexB_one]; exact h1
      have h1' : (⟨#[c]⟩ : ByteArray).size = 1 := rfl
      rw [Lib.countB_hit _ _ k (by rw [h1']; exact Nat.le_refl _) hm, Nat.add_comm 1, Lib.splitB_hit _ _ _ _ k hm, h2, List.map_cons]
      have i1 := ih (s.drop (k + 1)) (by rw [List.length_drop]; omega)
      unfold splitL at i1
      rw [show (⟨[c].toArray⟩ : ByteArray) = ⟨#[c]⟩ from rfl] at i1
      rw [h1', extract_tail, i1, Nat.add_zero, extract_head]

/-- Cut at one letter. -/
theorem cut_one (s : List UInt8) (c : UInt8) : Lib.cut s [c] = if 0 ≤ Lib.indexByte s c then (s.take (Lib.indexByte s c).toNat, s.drop ((Lib.indexByte s c).toNat + 1), true) else (s, [], false) := by
  unfold Lib.cut
  rw [Lib.index_one]
  rfl

theorem pieces_free (c : UInt8) : ∀ s : List UInt8, c ∉ s → pieces c s = [s]
  | [], _ => rfl
  | x :: s, h => by
    have hx : (x == c) = false := by
      have : x ≠ c := fun e => h (by simp [e])
      simpa using this
    have ih := pieces_free c s (fun hm => h (by simp [hm]))
    unfold pieces
    rw [hx, cond_false, ih]

theorem pieces_join (c : UInt8) : ∀ (w s : List UInt8), c ∉ w → pieces c (w ++ c :: s) = w :: pieces c s
  | [], s, _ => by
    show pieces c (c :: s) = _
    unfold pieces
    simp
    cases s <;> rfl
  | x :: w, s, h => by
    have hx : (x == c) = false := by
      have : x ≠ c := fun e => h (by simp [e])
      simpa using this
    have ih := pieces_join c w s (fun hm => h (by simp [hm]))
    show pieces c (x :: (w ++ c :: s)) = _
    have e : pieces c (x :: (w ++ c :: s)) = bif x == c then [] :: pieces c (w ++ c :: s) else match pieces c (w ++ c :: s) with
      | p :: ps => (x :: p) :: ps
      | [] => [[x]] := rfl
    rw [e, hx, cond_false, ih]

theorem pieces_joined (c : UInt8) : ∀ (l : List (List UInt8)), l ≠ [] → (∀ w ∈ l, c ∉ w) → pieces c (Lib.join l [c]) = l
  | [], h, _ => absurd rfl h
  | [w], _, h => by rw [Lib.join_one, pieces_free c w (h w (by simp))]
  | w :: v :: l, _, h => by
    have ih := pieces_joined c (v :: l) (by simp) (fun x hx => h x (by simp only [List.mem_cons] at hx ⊢; exact .inr hx))
    rw [Lib.join_cons] at ih
    rw [Lib.join_cons]
    have : Lib.joinTail [c] (v :: l) = c :: (v ++ Lib.joinTail [c] l) := by simp [Lib.joinTail]
    rw [this, pieces_join c w _ (h w (by simp)), ih]
end Lift.A1P

/- Layer 25: the document's words. -/
namespace Lift.A1P
open Go Go.RowKit Lift Go.IntWalk Lift.Fn

theorem seg_step {t : List UInt8} {f i : Nat} (hf : f ≤ i) (hi : i < t.length) : (t.take (i + 1)).drop f = (t.take i).drop f ++ [t[i]] := by
  rw [List.take_add_one, List.getElem?_eq_getElem hi, List.drop_append, List.length_take]
  simp only [Option.toList_some]
  rw [show f - min i t.length = 0 by omega, List.drop_zero]

theorem drop_seg {t : List UInt8} {f i : Nat} (hf : f ≤ i) (hi : i < t.length) : t.drop f = (t.take i).drop f ++ t[i] :: t.drop (i + 1) := by
  have h1 : t = t.take i ++ t.drop i := (List.take_append_drop i t).symm
  have h2 : t.drop i = t[i] :: t.drop (i + 1) := List.drop_eq_getElem_cons hi
  conv => lhs; rw [h1, List.drop_append, List.length_take]
  rw [show f - min i t.length = 0 by omega, List.drop_zero, h2]

theorem wordsLoop (t : List UInt8) (hl : t.length ≤ 1000000) : ∀ (k n i f : Nat) (out : List (List UInt8)), t.length + 1 - i ≤ k → k < n → f ≤ i → i ≤ t.length → (32 : UInt8) ∉ (t.take i).drop f → out.length ≤ i →
    racetreeref25_words_i4 n t (f : Int) (i : Int) out = some (out ++ pieces 32 (t.drop f)) := by
  intro k
  induction k with
  | zero => intro n i f out hk; omega
  | succ k ih =>
    intro n i f out hk hn hf hi hseg ho
    cases n with
    | zero => omega
    | succ n =>
      unfold racetreeref25_words_i4 racetreeref25_words_t4
      rw [decide_eq_true (show (i : Int) ≤ (t.length : Int) by omega), cond_true]
      have b3 : (decide ((0 : Int) ≤ (f : Int)) && (decide ((f : Int) ≤ (i : Int)) && true)) = true := by
        simp only [Bool.and_eq_true, decide_eq_true_eq, and_true]; omega
      have hb : decide ((List.length out + List.length [List.drop (Int.toNat (f : Int)) (List.take (Int.toNat (i : Int)) t)]) * (16 : Nat) ≤ (140737488355328 : Nat) ∧ List.length out + List.length [List.drop (Int.toNat (f : Int)) (List.take (Int.toNat (i : Int)) t)] ≤ (9223372036854775807 : Nat)) = true :=
        decide_eq_true (by simp only [List.length_cons, List.length_nil]; omega)
      by_cases h : i = t.length
      · subst h
        rw [show (((t.length : Nat) : Int) == (t.length : Int)) = true by simp, cond_true, b3, cond_true, hb, cond_true, i64_in _ (by omega)]
        cases n with
        | zero => omega
        | succ n =>
          unfold racetreeref25_words_i4 racetreeref25_words_t4
          rw [decide_eq_false (by omega), cond_false, Int.toNat_natCast, Int.toNat_natCast]
          have e : (t.take t.length).drop f = t.drop f := by rw [List.take_length]
          rw [e] at hseg ⊢
          rw [pieces_free 32 _ hseg]
      · have hlt : i < t.length := by omega
        have hg : t[Int.toNat (i : Int)]? = some t[i] := by rw [Int.toNat_natCast]; exact List.getElem?_eq_getElem hlt
        rw [show ((i : Int) == (t.length : Int)) = false by simp; omega, cond_false, decide_eq_true (show (0 : Int) ≤ (i : Int) by omega), cond_true, hg, Option.bind_some]
        by_cases hx : t[i] = 32
        · have hx' : (((t[i].toNat : Nat) : Int) == 32) = true := by rw [hx]; rfl
          rw [hx', cond_true, b3, cond_true, hb, cond_true, i64_in _ (by omega)]
          have := ih n (i + 1) (i + 1) (out ++ [(t.take i).drop f]) (by omega) (by omega) (Nat.le_refl _) (by omega) (by rw [List.drop_eq_nil_of_le (show (t.take (i + 1)).length ≤ i + 1 by simp; omega)]; simp) (by simp; omega)
          rw [show ((i + 1 : Nat) : Int) = (i : Int) + 1 by omega] at this
          rw [Int.toNat_natCast, Int.toNat_natCast, this, drop_seg hf hlt, hx, pieces_join 32 _ _ hseg]
          simp
        · have hx' : (((t[i].toNat : Nat) : Int) == 32) = false := by
            have : t[i].toNat ≠ 32 := fun e => hx (by apply UInt8.toNat_inj.1; rw [e]; rfl)
            simp; omega
          rw [hx', cond_false, i64_in _ (by omega)]
          have := ih n (i + 1) f out (by omega) (by omega) (by omega) (by omega) (by
            rw [seg_step hf hlt]
            intro hm
            rcases List.mem_append.1 hm with hm | hm
            · exact hseg hm
            · simp at hm; exact hx hm.symm) (by omega)
          rw [show ((i + 1 : Nat) : Int) = (i : Int) + 1 by omega] at this
          exact this

theorem words1 (t : List UInt8) (hl : t.length ≤ 1000000) : racetreeref25_words t = some (pieces 32 t) := by
  rw [racetreeref25_words, sealF_eq]
  unfold racetreeref25_words_f
  rw [racetreeref25_words_l4, sealF_eq]
  have := wordsLoop t hl (t.length + 1) fuel 0 0 [] (by omega) (by unfold fuel; omega) (Nat.le_refl _) (by omega) (by simp) (by simp)
  rw [show ((0 : Nat) : Int) = 0 from rfl] at this
  rw [this]
  rfl
end Lift.A1P

/- Layer 25: a line's words are read as they were printed. -/
namespace Lift.A1P
open Go Go.RowKit Lift Go.IntWalk Lift.Fn

theorem dg_nat {n : Int} (h : okN n = true) : (dg n).toNat = 48 + n.toNat := by
  obtain ⟨h0, h7⟩ := okN_mem h
  unfold dg
  rw [UInt8.toNat_ofNat']
  omega

theorem digit_dg {n : Int} (h : okN n = true) : report_digit [dg n] = some n := by
  obtain ⟨h0, h7⟩ := okN_mem h
  have hd := dg_nat h
  rw [report_digit, sealF_eq]
  unfold report_digit_f
  have e1 : ((([dg n] : List UInt8).length : Int) != 1) = false := rfl
  have e2 : ([dg n] : List UInt8)[0]? = some (dg n) := rfl
  rw [e1, cond_false, e2, Option.bind_some, i64_in _ (by omega), between1, Option.bind_some, decide_eq_true (by omega), decide_eq_true (by omega)]
  simp only [Bool.and_self, Bool.not_true, cond_false, Option.bind_some]
  rw [u8_in _ (by omega), i64_in _ (by omega)]
  congr 1
  omega

theorem step_dg {n : Int} (h : okN n = true) (l : List Int) (hl : l.length ≤ 1000000) : found_step [dg n] l = some (l ++ [n]) := by
  unfold found_step
  rw [digit_dg h, Option.bind_some, decide_eq_true (by simp only [List.length_cons, List.length_nil]; omega), cond_true]

theorem steps_dg : ∀ (m l : List Int), m.all okN = true → l.length + m.length ≤ 1000000 → found_steps (m.map fun n => [dg n]) l = some (l ++ m)
  | [], l, _, _ => by simp [found_steps]
  | n :: m, l, h, hl => by
    rw [List.all_cons, Bool.and_eq_true] at h
    simp only [List.length_cons] at hl
    show (found_step [dg n] l).bind (found_steps (m.map fun n => [dg n])) = _
    rw [step_dg h.1 l (by omega), Option.bind_some, steps_dg m (l ++ [n]) h.2 (by simp; omega)]
    simp

theorem dg_ne {n : Int} (h : okN n = true) {c : UInt8} (hc : c.toNat < 48) : c ≠ dg n := fun e => by
  have := dg_nat h
  rw [← e] at this
  omega

theorem sch_pieces (l : List Int) (hl : l ≠ []) (ho : l.all okN = true) : pieces 44 (schS l) = l.map fun n => [dg n] := by
  unfold schS
  have : ((l.length : Int) == 0) = false := by
    cases l with
    | nil => exact absurd rfl hl
    | cons n l => simp; omega
  rw [this, cond_false]
  refine pieces_joined 44 _ (by simpa using hl) (fun w hw hm => ?_)
  obtain ⟨n, hn, rfl⟩ := List.mem_map.1 hw
  have hn1 := List.all_eq_true.1 ho n hn
  simp only [List.mem_cons, List.not_mem_nil, or_false] at hm
  exact dg_ne hn1 (by decide) hm

theorem mem_join {c : UInt8} {sep : List UInt8} (hs : c ∉ sep) : ∀ l : List (List UInt8), (∀ w ∈ l, c ∉ w) → c ∉ Lib.join l sep
  | [], _ => by simp [Lib.join_nil]
  | w :: l, h => by
    rw [Lib.join_cons]
    unfold Lib.joinTail
    simp only [List.mem_append, List.mem_flatten, List.mem_map, not_or, not_exists, not_and]
    refine ⟨h w (by simp), ?_⟩
    rintro x ⟨y, hy, rfl⟩
    simp only [List.mem_append, not_or]
    exact ⟨hs, h y (by simp [hy])⟩

theorem sch_free (l : List Int) (ho : l.all okN = true) : (32 : UInt8) ∉ schS l := by
  unfold schS
  cases ((l.length : Int) == 0) with
  | true => rw [cond_true]; decide
  | false =>
    rw [cond_false]
    refine mem_join (by decide) _ (fun w hw hm => ?_)
    obtain ⟨n, hn, rfl⟩ := List.mem_map.1 hw
    have hn1 := List.all_eq_true.1 ho n hn
    simp only [List.mem_cons, List.not_mem_nil, or_false] at hm
    exact dg_ne hn1 (by decide) hm

theorem miss_free (n : Int) : (32 : UInt8) ∉ missS n := by
  unfold missS
  cases n == 2 <;> cases n == 3 <;> decide

/-- A printed line's words. -/
theorem line_pieces {f : Finding} (h : rightS f = true) : pieces 32 (lineS f) = wordsS f ++ [[98, 121], schS f.schedule] := by
  obtain ⟨ht, _, hs, hk⟩ := rightS_parts h
  unfold lineS
  refine pieces_joined 32 _ (by simp) (fun w hw => ?_)
  rcases List.mem_append.1 hw with hw | hw
  · have hd : ∀ n, okN n = true → (32 : UInt8) ∉ [dg n] := fun n hn hm => by
      simp only [List.mem_cons, List.not_mem_nil, or_false] at hm
      exact dg_ne hn (by decide) hm
    unfold wordsS at hw
    rcases kind_cases hk with ⟨e1, _⟩ | ⟨e1, _⟩ | ⟨e1, _⟩ | ⟨e1, e2, e3, _⟩
    · rw [e1] at hw
      simp at hw
      rcases hw with rfl | rfl
      · decide
      · exact hd _ ht
    · rw [e1] at hw
      simp at hw
      rcases hw with rfl | rfl | rfl
      · decide
      · exact hd _ ht
      · exact miss_free _
    · rw [e1] at hw
      simp at hw
      rcases hw with rfl | rfl
      · decide
      · exact hd _ ht
    · rw [e1] at hw
      simp at hw
      rcases hw with rfl | rfl | rfl | rfl
      · decide
      · exact hd _ ht
      · exact hd _ e2
      · exact hd _ e3
  · simp only [List.mem_cons, List.not_mem_nil, or_false] at hw
    rcases hw with rfl | rfl
    · decide
    · exact sch_free _ hs
end Lift.A1P

/- Layer 25: found of a printed line. -/
namespace Lift.A1P
open Go Go.RowKit Lift Go.IntWalk Lift.Fn

theorem sch_dash (l : List Int) (ho : l.all okN = true) : (schS l == [45]) = decide (l = []) := by
  cases l with
  | nil => rfl
  | cons n l =>
    have hn : okN n = true := List.all_eq_true.1 ho n (by simp)
    have : ((((n :: l).length : Nat) : Int) == 0) = false := by simp; omega
    unfold schS
    rw [this, cond_false, List.map_cons, Lib.join_cons]
    have hne : dg n ≠ 45 := fun e => dg_ne hn (c := 45) (by decide) e.symm
    rw [decide_eq_false (by simp)]
    simp [hne]

theorem pre_line {f : Finding} (h : rightS f = true) : found_pre (wordsS f ++ [[98, 121], schS f.schedule]) = some (schS f.schedule, !(schS f.schedule == [45]), f.kind, f.thread, f.other, f.what, []) := by
  obtain ⟨ht, _, hs, hk⟩ := rightS_parts h
  unfold found_pre wordsS
  rcases kind_cases hk with ⟨e1, e2, e3⟩ | ⟨e1, e2, e3⟩ | ⟨e1, e2, e3⟩ | ⟨e1, e2, e3, _⟩
  · rw [e1, e2, e3]
    simp only [BEq.rfl, cond_true, List.cons_append, List.nil_append, List.getElem?_cons_succ, List.getElem?_cons_zero, Option.bind_some, digit_dg ht, List.length_cons, List.length_nil]
    rw [i64_in _ (by omega)]
    rfl
  · rw [e1, e2]
    unfold missS
    rcases e3 with e3 | e3 | e3 <;> rw [e3] <;>
    (simp only [BEq.rfl, cond_true, show ((2 : Int) == 1) = false from rfl, show ((3 : Int) == 2) = false from rfl, show ((4 : Int) == 2) = false from rfl, show ((4 : Int) == 3) = false from rfl, cond_false, List.cons_append, List.nil_append, List.getElem?_cons_succ, List.getElem?_cons_zero, Option.bind_some, digit_dg ht, List.length_cons, List.length_nil]
     rw [i64_in _ (by omega)]
     rfl)
  · rw [e1, e2, e3]
    simp only [BEq.rfl, cond_true, show ((3 : Int) == 1) = false from rfl, show ((3 : Int) == 2) = false from rfl, cond_false, List.cons_append, List.nil_append, List.getElem?_cons_succ, List.getElem?_cons_zero, Option.bind_some, digit_dg ht, List.length_cons, List.length_nil]
    rw [i64_in _ (by omega)]
    rfl
  · rw [e1]
    simp only [BEq.rfl, cond_true, show ((4 : Int) == 1) = false from rfl, show ((4 : Int) == 2) = false from rfl, show ((4 : Int) == 3) = false from rfl, cond_false, List.cons_append, List.nil_append, List.getElem?_cons_succ, List.getElem?_cons_zero, Option.bind_some, digit_dg ht, digit_dg e2, digit_dg e3, List.length_cons, List.length_nil]
    rw [i64_in _ (by omega)]
    rfl

/-- found of a printed line. -/
theorem found_line {f : Finding} (h : rightS f = true) : report_found (wordsS f ++ [[98, 121], schS f.schedule]) = some f := by
  obtain ⟨_, hl, hs, _⟩ := rightS_parts h
  have hlen := sch_len f.schedule
  rw [report_found, sealF_eq]
  unfold report_found_f
  rw [pre_line h, Option.bind_some]
  simp only
  rw [sch_dash _ hs]
  by_cases he : f.schedule = []
  · rw [decide_eq_true he, Bool.not_true, cond_false, ← he]
  · rw [decide_eq_false he, Bool.not_false, cond_true, decide_eq_true (by omega), cond_true, sch_pieces _ he hs, steps_dg _ _ hs (by simp; omega), Option.bind_some, List.nil_append]
end Lift.A1P

/- Layer 25: the document's reading of a printed line's parts. -/
namespace Lift.A1P
open Go Go.RowKit Lift Go.IntWalk Lift.Fn

theorem one_dg {n : Int} (h : okN n = true) : racetreeref25_one [dg n] = some n := by
  obtain ⟨h0, h7⟩ := okN_mem h
  have hd := dg_nat h
  rw [racetreeref25_one, sealF_eq]
  unfold racetreeref25_one_f
  have e1 : ((([dg n] : List UInt8).length : Int) != 1) = false := rfl
  have e2 : ([dg n] : List UInt8)[0]? = some (dg n) := rfl
  rw [e1, cond_false, e2, Option.bind_some, decide_eq_false (by omega), cond_false, Option.bind_some, decide_eq_false (by omega), cond_false, Option.bind_some, u8_in _ (by omega), i64_in _ (by omega)]
  congr 1
  omega

def tl : List Int → List UInt8
  | [] => []
  | n :: l => 44 :: dg n :: tl l

theorem tl_eq : ∀ l : List Int, Lib.joinTail [44] (l.map fun n => [dg n]) = tl l
  | [] => rfl
  | n :: l => by
    have := tl_eq l
    unfold Lib.joinTail at this ⊢
    simp only [List.map_cons, List.flatten_cons, this, tl]
    rfl

theorem tl_len : ∀ l : List Int, (tl l).length = 2 * l.length
  | [] => rfl
  | n :: l => by simp only [tl, List.length_cons, tl_len l]; omega

theorem tl_at : ∀ (l : List Int) (j : Nat), (tl l)[2 * j + 1]? = l[j]?.map dg
  | [], j => by simp [tl]
  | n :: l, 0 => by simp [tl]
  | n :: l, j + 1 => by
    have := tl_at l j
    simp only [tl, show 2 * (j + 1) + 1 = (2 * j + 1) + 1 + 1 by omega, List.getElem?_cons_succ]
    exact this

theorem sch_cons (n : Int) (l : List Int) : schS (n :: l) = dg n :: tl l := by
  have : ((((n :: l).length : Nat) : Int) == 0) = false := by simp; omega
  unfold schS
  rw [this, cond_false, List.map_cons, Lib.join_cons, tl_eq]
  rfl

theorem sch_at (n : Int) (l : List Int) (j : Nat) : (schS (n :: l))[2 * j]? = (n :: l)[j]?.map dg := by
  rw [sch_cons]
  cases j with
  | zero => rfl
  | succ j =>
    rw [show 2 * (j + 1) = (2 * j + 1) + 1 by omega, List.getElem?_cons_succ, tl_at, List.getElem?_cons_succ]

theorem refSchLoop (m : Int) (l : List Int) (hl : (m :: l).length ≤ 1000) (ho : (m :: l).all okN = true) : ∀ (k n j : Nat) (out : List Int), (m :: l).length - j ≤ k → k < n → j ≤ (m :: l).length → out.length ≤ 1000 + j →
    racetreeref25_schedule_i5 n (schS (m :: l)) ((2 * j : Nat) : Int) out = some (out ++ (m :: l).drop j) := by
  have hlen : (schS (m :: l)).length = 2 * l.length + 1 := by rw [sch_cons, List.length_cons, tl_len]
  intro k
  induction k with
  | zero =>
    intro n j out hk hn hj hout
    cases n with
    | zero => omega
    | succ n =>
      unfold racetreeref25_schedule_i5 racetreeref25_schedule_t5
      simp only [List.length_cons] at hk
      rw [decide_eq_false (by omega), cond_false, List.drop_eq_nil_of_le (by simp only [List.length_cons]; omega), List.append_nil]
  | succ k ih =>
    intro n j out hk hn hj hout
    cases n with
    | zero => omega
    | succ n =>
      unfold racetreeref25_schedule_i5 racetreeref25_schedule_t5
      by_cases h : j < (m :: l).length
      · have hx : okN (m :: l)[j] = true := List.all_eq_true.1 ho _ (List.getElem_mem h)
        have hd := dg_nat hx
        obtain ⟨h0, h7⟩ := okN_mem hx
        have hg : (schS (m :: l))[Int.toNat ((2 * j : Nat) : Int)]? = some (dg (m :: l)[j]) := by
          rw [Int.toNat_natCast, sch_at, List.getElem?_eq_getElem h]; rfl
        have h' := h
        simp only [List.length_cons] at h'
        have e : IntKind.wrap IntKind.i64 (IntKind.wrap IntKind.i64 (((dg (m :: l)[j]).toNat : Nat) : Int) - 48) = (m :: l)[j] := by
          rw [i64_in ((dg (m :: l)[j]).toNat : Int) (by omega), i64_in _ (by omega)]
          omega
        rw [decide_eq_true (by omega), cond_true, decide_eq_true (by omega), cond_true, hg, Option.bind_some, e, decide_eq_true (by simp only [List.length_cons, List.length_nil] at hl ⊢; omega), cond_true, i64_in _ (by omega)]
        have := ih n (j + 1) (out ++ [(m :: l)[j]]) (by omega) (by omega) (by omega) (by simp; omega)
        rw [show ((2 * (j + 1) : Nat) : Int) = ((2 * j : Nat) : Int) + 2 by omega] at this
        rw [this, drop_at h]
        simp only [List.append_assoc, List.cons_append, List.nil_append]
      · have h' := h
        simp only [List.length_cons] at h'
        rw [decide_eq_false (by omega), cond_false, List.drop_eq_nil_of_le (by omega), List.append_nil]

theorem refSch (l : List Int) (hl : l.length ≤ 1000) (ho : l.all okN = true) : racetreeref25_schedule (schS l) = some l := by
  rw [racetreeref25_schedule, sealF_eq]
  unfold racetreeref25_schedule_f
  rw [sch_dash l ho]
  cases l with
  | nil => rfl
  | cons m l =>
    have := refSchLoop m l hl ho (m :: l).length fuel 0 [] (by omega) (by unfold fuel; omega) (by omega) (by simp)
    rw [show ((2 * 0 : Nat) : Int) = 0 from rfl] at this
    rw [decide_eq_false (by simp), cond_false, racetreeref25_schedule_l5, sealF_eq, this]
    rfl
end Lift.A1P

/- Layer 25: the document's reading of a printed line. -/
namespace Lift.A1P
open Go Go.RowKit Lift Go.IntWalk Lift.Fn

theorem line_len {f : Finding} (h : rightS f = true) : (lineS f).length ≤ 2040 := by
  obtain ⟨_, hl, _, _⟩ := rightS_parts h
  have hs := sch_len f.schedule
  have hm : (missS f.what).length ≤ 6 := by
    unfold missS
    cases f.what == 2 <;> cases f.what == 3 <;> decide
  unfold lineS wordsS
  cases f.kind == 1 <;> cases f.kind == 2 <;> cases f.kind == 3 <;>
    (simp only [cond_true, cond_false, List.cons_append, List.nil_append, Lib.join_length, Lib.lens, List.map_cons, List.map_nil, List.sum_cons, List.sum_nil, List.length_cons, List.length_nil]; omega)

theorem ref_line {f : Finding} (h : rightS f = true) : racetreeref25_read (lineS f) = some (f, true) := by
  obtain ⟨ht, hl, hs, hk⟩ := rightS_parts h
  have hlen := line_len h
  rw [racetreeref25_read, sealF_eq]
  unfold racetreeref25_read_f
  rw [words1 _ (by omega), line_pieces h, Option.bind_some]
  have hF := refRight f
  rw [h] at hF
  have hL := refLine1 h
  have e0 : decide (((lineS f).length : Int) > 2040) = false := decide_eq_false (by omega)
  rw [e0]
  unfold wordsS
  rcases kind_cases hk with ⟨e1, e2, e3⟩ | ⟨e1, e2, e3⟩ | ⟨e1, e2, e3⟩ | ⟨e1, e2, e3, _⟩
  · have hf : f = Finding.mk 1 f.thread 0 0 f.schedule := by
      cases f; simp only at e1 e2 e3; subst e1 e2 e3; rfl
    rw [e1]
    simp only [BEq.rfl, cond_true, cond_false, List.cons_append, List.nil_append, List.getElem?_cons_succ, List.getElem?_cons_zero, Option.bind_some, one_dg ht, List.length_cons, List.length_nil, refSch _ hl hs]
    rw [i64_in _ (by omega)]
    simp [refSch _ hl hs, ← hf, hF, hL]
  · rw [e1]
    unfold missS
    rcases e3 with e3 | e3 | e3 <;>
    (have hf : f = Finding.mk 2 f.thread 0 f.what f.schedule := by
       cases f; simp only at e1 e2; subst e1 e2; rfl
     rw [e3] at hf
     rw [e3]
     simp only [BEq.rfl, cond_true, cond_false, show ((2 : Int) == 1) = false from rfl, show ((3 : Int) == 2) = false from rfl, show ((4 : Int) == 2) = false from rfl, show ((4 : Int) == 3) = false from rfl, List.cons_append, List.nil_append, List.getElem?_cons_succ, List.getElem?_cons_zero, Option.bind_some, one_dg ht, List.length_cons, List.length_nil, refSch _ hl hs]
     rw [i64_in _ (by omega)]
     simp [refSch _ hl hs, ← hf, hF, hL])
  · have hf : f = Finding.mk 3 f.thread 0 0 f.schedule := by
      cases f; simp only at e1 e2 e3; subst e1 e2 e3; rfl
    rw [e1]
    simp only [BEq.rfl, cond_true, cond_false, show ((3 : Int) == 1) = false from rfl, show ((3 : Int) == 2) = false from rfl, List.cons_append, List.nil_append, List.getElem?_cons_succ, List.getElem?_cons_zero, Option.bind_some, one_dg ht, List.length_cons, List.length_nil, refSch _ hl hs]
    rw [i64_in _ (by omega)]
    simp [refSch _ hl hs, ← hf, hF, hL]
  · have hf : f = Finding.mk 4 f.thread f.other f.what f.schedule := by
      cases f; simp only at e1; subst e1; rfl
    rw [e1]
    simp only [BEq.rfl, cond_true, cond_false, show ((4 : Int) == 1) = false from rfl, show ((4 : Int) == 2) = false from rfl, show ((4 : Int) == 3) = false from rfl, List.cons_append, List.nil_append, List.getElem?_cons_succ, List.getElem?_cons_zero, Option.bind_some, one_dg ht, one_dg e2, one_dg e3, List.length_cons, List.length_nil, refSch _ hl hs]
    rw [i64_in _ (by omega)]
    simp [refSch _ hl hs, one_dg e2, one_dg e3, ← hf, hF, hL]
end Lift.A1P

/- Layer 25: whatever the words are, found answers. -/
namespace Lift.A1P
open Go Go.RowKit Lift Go.IntWalk Lift.Fn

theorem digit_any (s : List UInt8) : ∃ d, report_digit s = some d := by
  rw [report_digit, sealF_eq]
  unfold report_digit_f
  cases h : (((s.length : Nat) : Int) != 1) with
  | true => exact ⟨_, rfl⟩
  | false =>
    have hl : s.length = 1 := by
      have : ((s.length : Int)) = 1 := by simpa using h
      omega
    match s, hl with
    | [b], _ =>
      rw [cond_false]
      simp only [List.getElem?_cons_zero, Option.bind_some, between1]
      cases !(decide ((48 : Int) ≤ IntKind.wrap IntKind.i64 (b.toNat : Int)) && decide (IntKind.wrap IntKind.i64 (b.toNat : Int) ≤ 57)) with
      | true => exact ⟨_, rfl⟩
      | false => exact ⟨_, rfl⟩

theorem one_any (s : List UInt8) : ∃ d, racetreeref25_one s = some d := by
  rw [racetreeref25_one, sealF_eq]
  unfold racetreeref25_one_f
  cases h : (((s.length : Nat) : Int) != 1) with
  | true => exact ⟨_, rfl⟩
  | false =>
    have hl : s.length = 1 := by
      have : ((s.length : Int)) = 1 := by simpa using h
      omega
    match s, hl with
    | [b], _ =>
      rw [cond_false]
      simp only [List.getElem?_cons_zero, Option.bind_some]
      cases decide ((b.toNat : Int) < 48) with
      | true => exact ⟨_, rfl⟩
      | false =>
        rw [cond_false]
        cases decide ((b.toNat : Int) > 55) with
        | true => exact ⟨_, rfl⟩
        | false => exact ⟨_, rfl⟩

theorem steps_any : ∀ (p : List (List UInt8)) (l : List Int), l.length + p.length ≤ 1000000 → ∃ l', found_steps p l = some l'
  | [], l, _ => ⟨l, rfl⟩
  | x :: p, l, h => by
    simp only [List.length_cons] at h
    obtain ⟨d, hd⟩ := digit_any x
    obtain ⟨l', hl'⟩ := steps_any p (l ++ [d]) (by simp; omega)
    refine ⟨l', ?_⟩
    show (found_step x l).bind (found_steps p) = some l'
    unfold found_step
    rw [hd, Option.bind_some, decide_eq_true (by simp only [List.length_cons, List.length_nil]; omega), cond_true, Option.bind_some, hl']

theorem pieces_len (c : UInt8) : ∀ s : List UInt8, (pieces c s).length ≤ s.length + 1
  | [] => by simp [pieces]
  | x :: s => by
    have ih := pieces_len c s
    have e : pieces c (x :: s) = bif x == c then [] :: pieces c s else match pieces c s with
      | p :: ps => (x :: p) :: ps
      | [] => [[x]] := rfl
    rw [e]
    cases x == c with
    | true => rw [cond_true]; simp only [List.length_cons]; omega
    | false =>
      rw [cond_false]
      split
      · rename_i p ps h
        rw [h] at ih
        simp only [List.length_cons] at ih ⊢
        omega
      · simp

theorem piece_len (c : UInt8) : ∀ (s : List UInt8), ∀ w ∈ pieces c s, w.length ≤ s.length
  | [] => by simp [pieces]
  | x :: s => by
    have ih := piece_len c s
    have e : pieces c (x :: s) = bif x == c then [] :: pieces c s else match pieces c s with
      | p :: ps => (x :: p) :: ps
      | [] => [[x]] := rfl
    rw [e]
    intro w hw
    cases hx : x == c with
    | true =>
      rw [hx, cond_true] at hw
      rcases List.mem_cons.1 hw with rfl | hw
      · simp
      · have := ih w hw; simp only [List.length_cons]; omega
    | false =>
      rw [hx, cond_false] at hw
      split at hw
      · rename_i p ps h
        rcases List.mem_cons.1 hw with rfl | hw
        · have := ih p (by rw [h]; simp); simp only [List.length_cons]; omega
        · have := ih w (by rw [h]; simp [hw]); simp only [List.length_cons]; omega
      · simp at hw; subst hw; simp
end Lift.A1P

/- Layer 25: found, of any words. -/
namespace Lift.A1P
open Go Go.RowKit Lift Go.IntWalk Lift.Fn

theorem pre_any (w : List (List UInt8)) (h4 : 4 ≤ w.length) (hl : w.length ≤ 1000000) : ∃ s b k t o wh, found_pre w = some (s, b, k, t, o, wh, []) ∧ s ∈ w := by
  have g0 : w[0]? = some w[0] := List.getElem?_eq_getElem (by omega)
  have g1 : w[1]? = some w[1] := List.getElem?_eq_getElem (by omega)
  have g2 : w[2]? = some w[2] := List.getElem?_eq_getElem (by omega)
  have g3 : w[3]? = some w[3] := List.getElem?_eq_getElem (by omega)
  have hw : IntKind.wrap IntKind.i64 ((w.length : Int) - 1) = ((w.length - 1 : Nat) : Int) := by rw [i64_in _ (by omega)]; omega
  have gl : w[Int.toNat (((w.length - 1 : Nat) : Int))]? = some w[w.length - 1] := by rw [Int.toNat_natCast]; exact List.getElem?_eq_getElem (by omega)
  have hm : w[w.length - 1] ∈ w := List.getElem_mem _
  have hd : decide ((0 : Int) ≤ ((w.length - 1 : Nat) : Int)) = true := decide_eq_true (by omega)
  obtain ⟨d1, e1⟩ := digit_any w[1]
  obtain ⟨d2, e2⟩ := digit_any w[2]
  obtain ⟨d3, e3⟩ := digit_any w[3]
  unfold found_pre
  simp only [g0, g1, g2, g3, Option.bind_some, e1, e2, e3, hw, hd, gl, cond_true]
  cases w[0] == [(97 : UInt8), (115 : UInt8), (115 : UInt8), (101 : UInt8), (114 : UInt8), (116 : UInt8)] with
  | true => exact ⟨_, _, _, _, _, _, rfl, hm⟩
  | false =>
    cases w[0] == [(100 : UInt8), (101 : UInt8), (97 : UInt8), (100 : UInt8), (108 : UInt8), (111 : UInt8), (99 : UInt8), (107 : UInt8)] with
    | true => exact ⟨_, _, _, _, _, _, rfl, hm⟩
    | false =>
      cases w[0] == [(109 : UInt8), (105 : UInt8), (115 : UInt8), (117 : UInt8), (115 : UInt8), (101 : UInt8)] with
      | true =>
        cases w[2] == [(117 : UInt8), (110 : UInt8), (108 : UInt8), (111 : UInt8), (99 : UInt8), (107 : UInt8)] with
        | true => exact ⟨_, _, _, _, _, _, rfl, hm⟩
        | false =>
          cases w[2] == [(106 : UInt8), (111 : UInt8), (105 : UInt8), (110 : UInt8)] with
          | true => exact ⟨_, _, _, _, _, _, rfl, hm⟩
          | false =>
            cases w[2] == [(115 : UInt8), (116 : UInt8), (97 : UInt8), (114 : UInt8), (116 : UInt8)] with
            | true => exact ⟨_, _, _, _, _, _, rfl, hm⟩
            | false => exact ⟨_, _, _, _, _, _, rfl, hm⟩
      | false =>
        cases w[0] == [(114 : UInt8), (97 : UInt8), (99 : UInt8), (101 : UInt8)] with
        | true => exact ⟨_, _, _, _, _, _, rfl, hm⟩
        | false => exact ⟨_, _, _, _, _, _, rfl, hm⟩

theorem found_any_words (w : List (List UInt8)) (h4 : 4 ≤ w.length) (hl : w.length ≤ 1000000) (hw : ∀ x ∈ w, x.length ≤ 900000) : ∃ f, report_found w = some f := by
  obtain ⟨s, b, k, t, o, wh, hp, hm⟩ := pre_any w h4 hl
  have hs := hw s hm
  have hpl := pieces_len 44 s
  obtain ⟨l', hl'⟩ := steps_any (pieces 44 s) [] (by simp; omega)
  rw [report_found, sealF_eq]
  unfold report_found_f
  rw [hp, Option.bind_some]
  simp only
  cases b with
  | false => exact ⟨_, rfl⟩
  | true =>
    rw [cond_true, decide_eq_true (by omega), cond_true, hl']
    exact ⟨_, rfl⟩
end Lift.A1P

/- Layer 25: the document reads any line. -/
namespace Lift.A1P
open Go Go.RowKit Lift Go.IntWalk Lift.Fn

theorem schLoop_any (s : List UInt8) (hl : s.length ≤ 100000) : ∀ (k n i : Nat) (out : List Int), s.length - i ≤ k → k < n → i ≤ s.length + 1 → out.length ≤ i → ∃ l, racetreeref25_schedule_i5 n s (i : Int) out = some l := by
  intro k
  induction k with
  | zero =>
    intro n i out hk hn hi ho
    cases n with
    | zero => omega
    | succ n =>
      unfold racetreeref25_schedule_i5 racetreeref25_schedule_t5
      rw [decide_eq_false (by omega), cond_false]
      exact ⟨_, rfl⟩
  | succ k ih =>
    intro n i out hk hn hi ho
    cases n with
    | zero => omega
    | succ n =>
      unfold racetreeref25_schedule_i5 racetreeref25_schedule_t5
      by_cases h : i < s.length
      · have hg : s[Int.toNat (i : Int)]? = some s[i] := by rw [Int.toNat_natCast]; exact List.getElem?_eq_getElem h
        rw [decide_eq_true (by omega), cond_true, decide_eq_true (by omega), cond_true, hg, Option.bind_some, decide_eq_true (by simp only [List.length_cons, List.length_nil]; omega), cond_true, i64_in ((i : Int) + 2) (by omega)]
        obtain ⟨l, e⟩ := ih n (i + 2) (out ++ [IntKind.wrap IntKind.i64 (IntKind.wrap IntKind.i64 ((s[i].toNat : Nat) : Int) - 48)]) (by omega) (by omega) (by omega) (by simp; omega)
        exact ⟨l, e⟩
      · rw [decide_eq_false (by omega), cond_false]
        exact ⟨_, rfl⟩

theorem sch_any (s : List UInt8) (hl : s.length ≤ 100000) : ∃ l, racetreeref25_schedule s = some l := by
  rw [racetreeref25_schedule, sealF_eq]
  unfold racetreeref25_schedule_f
  cases s == [45] with
  | true => exact ⟨_, rfl⟩
  | false =>
    obtain ⟨l, e⟩ := schLoop_any s hl s.length fuel 0 [] (by omega) (by unfold fuel; omega) (by omega) (by simp)
    rw [show ((0 : Nat) : Int) = 0 from rfl] at e
    rw [cond_false, racetreeref25_schedule_l5, sealF_eq, e]
    exact ⟨_, rfl⟩

/-- A text is refused, or it is a right finding's line. -/
def Told (s : List UInt8) (x : Option (Finding × Bool)) : Prop := ∃ f, (x = some (f, true) ∧ rightS f = true ∧ lineS f = s) ∨ x = some (f, false)

theorem told_fin (g : Finding) (s : List UInt8) : Told s (Option.bind (racetreeref25_Right g) fun y => bif !y then some ((Finding.mk (0 : Int) (0 : Int) (0 : Int) (0 : Int) []), (false)) else Option.bind (racetreeref25_line g) fun y' => some (g, (y' == s))) := by
  rw [refRight, Option.bind_some]
  cases hr : rightS g with
  | false => exact ⟨_, .inr rfl⟩
  | true =>
    rw [Bool.not_true, cond_false, refLine1 hr, Option.bind_some]
    by_cases h : lineS g = s
    · exact ⟨g, .inl ⟨by rw [h]; simp, hr, h⟩⟩
    · have : (lineS g == s) = false := by simpa using h
      exact ⟨g, .inr (by rw [this])⟩

theorem ref_any (s : List UInt8) (hl : s.length ≤ 100000) : Told s (racetreeref25_read s) := by
  rw [racetreeref25_read, sealF_eq]
  unfold racetreeref25_read_f
  rw [words1 s (by omega), Option.bind_some]
  have hp := pieces_len 32 s
  have hw := piece_len 32 s
  generalize pieces 32 s = w at hp hw
  by_cases h4 : w.length < 4
  · rw [decide_eq_true (by omega)]; exact ⟨_, .inr rfl⟩
  rw [decide_eq_false (by omega), cond_false]
  by_cases hs : s.length ≤ 2040
  · rw [decide_eq_false (by omega), cond_false]
    have g0 : w[0]? = some w[0] := List.getElem?_eq_getElem (by omega)
    have g1 : w[1]? = some w[1] := List.getElem?_eq_getElem (by omega)
    have g2 : w[2]? = some w[2] := List.getElem?_eq_getElem (by omega)
    have g3 : w[3]? = some w[3] := List.getElem?_eq_getElem (by omega)
    have hwr : IntKind.wrap IntKind.i64 ((w.length : Int) - 1) = ((w.length - 1 : Nat) : Int) := by rw [i64_in _ (by omega)]; omega
    have gl : w[Int.toNat (((w.length - 1 : Nat) : Int))]? = some w[w.length - 1] := by rw [Int.toNat_natCast]; exact List.getElem?_eq_getElem (by omega)
    have c0 : (decide ((0 : Int) ≤ 0) && decide ((0 : Int) < (w.length : Int))) = true := by simp only [Bool.and_eq_true, decide_eq_true_eq]; omega
    have c1 : (decide ((0 : Int) ≤ 1) && decide ((1 : Int) < (w.length : Int))) = true := by simp only [Bool.and_eq_true, decide_eq_true_eq]; omega
    have c2 : (decide ((0 : Int) ≤ 2) && decide ((2 : Int) < (w.length : Int))) = true := by simp only [Bool.and_eq_true, decide_eq_true_eq]; omega
    have c3 : (decide ((0 : Int) ≤ 3) && decide ((3 : Int) < (w.length : Int))) = true := by simp only [Bool.and_eq_true, decide_eq_true_eq]; omega
    have cl : (decide ((0 : Int) ≤ ((w.length - 1 : Nat) : Int)) && decide (((w.length - 1 : Nat) : Int) < (w.length : Int))) = true := by simp only [Bool.and_eq_true, decide_eq_true_eq]; omega
    obtain ⟨d1, e1⟩ := one_any w[1]
    obtain ⟨d2, e2⟩ := one_any w[2]
    obtain ⟨d3, e3⟩ := one_any w[3]
    obtain ⟨l, el⟩ := sch_any w[w.length - 1] (by have := hw _ (List.getElem_mem (show w.length - 1 < w.length by omega)); omega)
    rw [hwr, c1, cond_true, g1, Option.bind_some, e1, Option.bind_some, cl, cond_true, gl, Option.bind_some, el, Option.bind_some, c0, cond_true, g0, Option.bind_some, c2, g2, c3, g3]
    cases w[0] == [(97 : UInt8), (115 : UInt8), (115 : UInt8), (101 : UInt8), (114 : UInt8), (116 : UInt8)] with
    | true => exact told_fin _ s
    | false =>
      cases w[0] == [(100 : UInt8), (101 : UInt8), (97 : UInt8), (100 : UInt8), (108 : UInt8), (111 : UInt8), (99 : UInt8), (107 : UInt8)] with
      | true => exact told_fin _ s
      | false =>
        cases w[0] == [(109 : UInt8), (105 : UInt8), (115 : UInt8), (117 : UInt8), (115 : UInt8), (101 : UInt8)] with
        | true =>
          cases hu : w[2] == [(117 : UInt8), (110 : UInt8), (108 : UInt8), (111 : UInt8), (99 : UInt8), (107 : UInt8)] <;> cases hj : w[2] == [(106 : UInt8), (111 : UInt8), (105 : UInt8), (110 : UInt8)] <;>
            (simp only [cond_true, cond_false, Option.bind_some, hu, hj]; exact told_fin _ s)
        | false =>
          cases w[0] == [(114 : UInt8), (97 : UInt8), (99 : UInt8), (101 : UInt8)] with
          | true => simp only [cond_true, cond_false, Option.bind_some, e2, e3]; exact told_fin _ s
          | false => exact told_fin _ s
  · rw [decide_eq_true (by omega)]; exact ⟨_, .inr rfl⟩
end Lift.A1P

/- Layer 25: the two readers of a line agree. -/
namespace Lift.A1P
open Go Go.RowKit Lift Go.IntWalk Lift.Fn

theorem words_four (f : Finding) : 4 ≤ (wordsS f ++ [[98, 121], schS f.schedule]).length := by
  unfold wordsS
  cases f.kind == 1 <;> cases f.kind == 2 <;> cases f.kind == 3 <;> simp

theorem line_agree (s : List UInt8) (hl : s.length ≤ 40000) :
    (∃ f, rightS f = true ∧ lineS f = s ∧ racetreeref25_read s = some (f, true) ∧ 4 ≤ (pieces 32 s).length ∧ report_found (pieces 32 s) = some f) ∨
    ((∃ f', racetreeref25_read s = some (f', false)) ∧ ((pieces 32 s).length < 4 ∨ ∃ f, 4 ≤ (pieces 32 s).length ∧ report_found (pieces 32 s) = some f ∧ (rightS f = false ∨ (rightS f = true ∧ lineS f ≠ s)))) := by
  by_cases hg : ∃ f, rightS f = true ∧ lineS f = s
  · left
    obtain ⟨f, hr, rfl⟩ := hg
    exact ⟨f, hr, rfl, ref_line hr, by rw [line_pieces hr]; exact words_four f, by rw [line_pieces hr]; exact found_line hr⟩
  · right
    refine ⟨?_, ?_⟩
    · obtain ⟨f, h | h⟩ := ref_any s (by omega)
      · exact absurd ⟨f, h.2⟩ hg
      · exact ⟨f, h⟩
    · by_cases h4 : (pieces 32 s).length < 4
      · exact .inl h4
      · right
        have hp := pieces_len 32 s
        obtain ⟨f, hf⟩ := found_any_words (pieces 32 s) (by omega) (by omega) (fun x hx => by have := piece_len 32 s x hx; omega)
        refine ⟨f, by omega, hf, ?_⟩
        cases hr : rightS f with
        | false => exact .inl rfl
        | true => exact .inr ⟨rfl, fun e => hg ⟨f, hr, e⟩⟩

/-- A finding is told by its line. -/
theorem line_inj {f g : Finding} (hf : rightS f = true) (hg : rightS g = true) (h : lineS f = lineS g) : f = g := by
  have h1 := found_line hf
  have h2 := found_line hg
  rw [← line_pieces hf, h, line_pieces hg, h2] at h1
  exact (Option.some.inj h1).symm
end Lift.A1P

/- Layer 25: what Read answers, as a list. -/
namespace Lift.A1P
open Go Go.RowKit Lift Go.IntWalk Lift.Fn

/-- The finding of a line; none: it is of none. -/
noncomputable def one1 (s : List UInt8) : Option Finding :=
  match racetreeref25_read s with
  | some (f, true) => some f
  | _ => none

theorem one1_good {s : List UInt8} {f : Finding} (h : racetreeref25_read s = some (f, true)) : one1 s = some f := by unfold one1; rw [h]
theorem one1_bad {s : List UInt8} {f : Finding} (h : racetreeref25_read s = some (f, false)) : one1 s = none := by unfold one1; rw [h]

/-- What lies behind the place `at_` is read: findings, or the place that fails. -/
noncomputable def readS : List (List UInt8) → Nat → List Finding → Nat ⊕ List Finding
  | [], _, out => .inr out
  | [s], at_, out => match s with
    | [] => .inr out
    | _ :: _ => .inl at_
  | s :: p :: l, at_, out => match one1 s with
    | some f => readS (p :: l) (at_ + s.length + 1) (out ++ [f])
    | none => .inl at_

theorem readS_good {s : List UInt8} {l : List (List UInt8)} {at_ : Nat} {out : List Finding} {f : Finding} (hl : l ≠ []) (h : one1 s = some f) : readS (s :: l) at_ out = readS l (at_ + s.length + 1) (out ++ [f]) := by
  cases l with
  | nil => exact absurd rfl hl
  | cons p l => rw [readS, h]
theorem readS_bad {s : List UInt8} {l : List (List UInt8)} {at_ : Nat} {out : List Finding} (hl : l ≠ []) (h : one1 s = none) : readS (s :: l) at_ out = .inl at_ := by
  cases l with
  | nil => exact absurd rfl hl
  | cons p l => rw [readS, h]
theorem readS_end {at_ : Nat} {out : List Finding} : readS [[]] at_ out = .inr out := rfl
theorem readS_open {s : List UInt8} {at_ : Nat} {out : List Finding} (h : s ≠ []) : readS [s] at_ out = .inl at_ := by
  cases s with
  | nil => exact absurd rfl h
  | cons a s => rfl

def readF : Nat ⊕ List Finding → Fault × List Finding
  | .inl p => (Fault.mk 250 (p : Int) [], [])
  | .inr l => (Fault.mk 0 0 [], l)

noncomputable def readT (t : List UInt8) : Fault × List Finding := bif decide ((t.length : Int) > 40000) then (Fault.mk 251 0 [], []) else readF (readS (pieces 10 t) 0 [])

theorem cut_at (u : List UInt8) : (Lib.cut u [10] = (u, [], false) ∧ pieces 10 u = [u]) ∨ ∃ k : Nat, k < u.length ∧ Lib.cut u [10] = (u.take k, u.drop (k + 1), true) ∧ pieces 10 u = u.take k :: pieces 10 (u.drop (k + 1)) := by
  rcases Go.Proofs.pieces_at 10 u with ⟨h1, h2⟩ | ⟨k, hk, h1, h2⟩
  · left
    refine ⟨?_, h2⟩
    rw [cut_one, h1]; rfl
  · right
    refine ⟨k, hk, ?_, h2⟩
    rw [cut_one, h1, if_pos (by omega), Int.toNat_natCast]

theorem cut1 (u : List UInt8) (h : u.length ≤ 1000000) : strings_Cut u [10] = some (Lib.cut u [10]) := by
  rw [strings_Cut, sealF_eq]
  unfold strings_Cut_f
  rw [decide_eq_true (by omega)]
  rfl

theorem splitW (u : List UInt8) (h : u.length ≤ 1000000) : strings_Split u [32] = some (pieces 32 u) := by
  rw [strings_Split, sealF_eq]
  unfold strings_Split_f
  rw [decide_eq_true ⟨by omega, by decide⟩, split_pieces 32 _ u (Nat.le_refl _)]
  rfl

theorem readLoop (t : List UInt8) (hl : t.length ≤ 40000) : ∀ (k n a : Nat) (out : List Finding), t.length + 1 - a ≤ k → k < n → a ≤ t.length → out.length ≤ a →
    report_Read_i5 n t (a : Int) 0 0 [] out = some (match readS (pieces 10 (t.drop a)) a out with | .inl p => .inl (250, (p : Int), []) | .inr l => .inr (0, 0, [], l)) := by
  intro k
  induction k with
  | zero => intro n a out hk; omega
  | succ k ih =>
    intro n a out hk hn ha ho
    cases n with
    | zero => omega
    | succ n =>
      unfold report_Read_i5 report_Read_t5
      by_cases h : a < t.length
      · have b3 : (decide ((0 : Int) ≤ (a : Int)) && (decide ((a : Int) ≤ (t.length : Int)) && decide ((t.length : Int) ≤ (t.length : Int)))) = true := by
          simp only [Bool.and_eq_true, decide_eq_true_eq]; omega
        have ul : (t.drop a).length = t.length - a := List.length_drop
        rw [decide_eq_true (show (a : Int) < (t.length : Int) by omega), cond_true, b3, cond_true, Int.toNat_natCast, Int.toNat_natCast, List.take_length, cut1 _ (by omega), Option.bind_some]
        rcases cut_at (t.drop a) with ⟨c1, c2⟩ | ⟨j, hj, c1, c2⟩
        · rw [c1, splitW _ (by show (t.drop a).length ≤ _; omega), Option.bind_some, c2, readS_open (by intro e; rw [e] at ul; simp at ul; omega)]
          rfl
        · have sl : ((t.drop a).take j).length = j := by rw [List.length_take]; omega
          rw [c1, splitW _ (by show ((t.drop a).take j).length ≤ _; omega), Option.bind_some, c2]
          simp only [Bool.not_true, cond_false]
          rcases line_agree ((t.drop a).take j) (by omega) with ⟨f, hr, hf, hd, h4, hc⟩ | ⟨⟨f', hd⟩, h4 | ⟨f, h4, hc, hb⟩⟩
          · have hb : decide ((List.length out + List.length [f]) * (56 : Nat) ≤ (140737488355328 : Nat) ∧ List.length out + List.length [f] ≤ (9223372036854775807 : Nat)) = true :=
              decide_eq_true (by simp only [List.length_cons, List.length_nil]; omega)
            rw [decide_eq_false (by omega), cond_false, hc, Option.bind_some]
            rw [show Finding.mk f.kind f.thread f.other f.what f.schedule = f from rfl, right1, hr, Option.bind_some, Bool.not_true, cond_false, line1 hr, Option.bind_some, hf]
            rw [show ((t.drop a).take j == (t.drop a).take j) = true by simp, Bool.not_true, cond_false, hb, cond_true]
            rw [i64_in ((List.length ((t.drop a).take j) : Int) + 1) (by omega), i64_in _ (by omega), readS_good (Go.Proofs.pieces_ne 10 _) (one1_good hd)]
            have := ih n (a + j + 1) (out ++ [f]) (by omega) (by omega) (by omega) (by simp; omega)
            rw [show ((a + j + 1 : Nat) : Int) = (a : Int) + ((j : Int) + 1) by omega] at this
            rw [sl, this, List.drop_drop, Nat.add_assoc]
          · rw [decide_eq_true (by omega), cond_true, readS_bad (Go.Proofs.pieces_ne 10 _) (one1_bad hd)]
          · rw [decide_eq_false (by omega), cond_false, hc, Option.bind_some]
            rw [show Finding.mk f.kind f.thread f.other f.what f.schedule = f from rfl, right1, Option.bind_some, readS_bad (Go.Proofs.pieces_ne 10 _) (one1_bad hd)]
            rcases hb with hb | ⟨hb, hne⟩
            · rw [hb]; rfl
            · rw [hb, Bool.not_true, cond_false, line1 hb, Option.bind_some, show (lineS f == (t.drop a).take j) = false by simpa using hne]
              rfl
      · have : a = t.length := by omega
        subst this
        rw [decide_eq_false (by omega), cond_false, List.drop_length]
        rfl

theorem read1 (t : List UInt8) : report_Read t = some (readT t) := by
  rw [report_Read, sealF_eq]
  unfold report_Read_f readT
  cases hc : decide ((t.length : Int) > 40000) with
  | true => rfl
  | false =>
    have := of_decide_eq_false hc
    rw [cond_false, cond_false, report_Read_l5, sealF_eq]
    have hL := readLoop t (by omega) (t.length + 1) fuel 0 [] (by omega) (by unfold fuel; omega) (by omega) (by simp)
    rw [show ((0 : Nat) : Int) = 0 from rfl, List.drop_zero] at hL
    rw [hL, Option.bind_some]
    cases readS (pieces 10 t) 0 [] <;> rfl

noncomputable def refEnd (y0 : (Int × Int × (List UInt8)) ⊕ ((List UInt8) × Int × Int × Int × (List UInt8) × (List (Finding)))) : Option (Fault × (List (Finding))) :=
  match y0 with
  | .inl y1 =>
    some ((Fault.mk (Prod.fst y1) (Prod.fst (Prod.snd y1)) (Prod.snd (Prod.snd y1))), ([]))
  | .inr y1 =>
    bif decide (Prod.fst (Prod.snd y1) < (↑(List.length (Prod.fst y1)) : Int)) then
      some ((Fault.mk (250 : Int) (Prod.fst (Prod.snd y1)) []), ([]))
    else
      some ((Fault.mk (0 : Int) (0 : Int) []), (Prod.snd (Prod.snd (Prod.snd (Prod.snd (Prod.snd y1))))))

theorem refReadLoop (t : List UInt8) (hl : t.length ≤ 40000) : ∀ (k n i f : Nat) (out : List Finding), t.length + 1 - i ≤ k → k < n → f ≤ i → i ≤ t.length → (10 : UInt8) ∉ (t.take i).drop f → out.length ≤ i →
    Option.bind (racetreeref25_Read_i6 n t (f : Int) (i : Int) 0 0 [] out) refEnd = some (readF (readS (pieces 10 (t.drop f)) f out)) := by
  intro k
  induction k with
  | zero => intro n i f out hk; omega
  | succ k ih =>
    intro n i f out hk hn hf hi hseg ho
    cases n with
    | zero => omega
    | succ n =>
      unfold racetreeref25_Read_i6 racetreeref25_Read_t6
      by_cases h : i = t.length
      · subst h
        rw [decide_eq_false (by omega), cond_false, Option.bind_some]
        have e : (t.take t.length).drop f = t.drop f := by rw [List.take_length]
        rw [e] at hseg
        rw [pieces_free 10 _ hseg]
        have ul : (t.drop f).length = t.length - f := List.length_drop
        unfold refEnd
        simp only
        by_cases hz : f = t.length
        · subst hz
          rw [decide_eq_false (by omega), cond_false, List.drop_length]
          rfl
        · rw [decide_eq_true (by omega), cond_true, readS_open (by intro e; rw [e] at ul; simp at ul; omega)]
          rfl
      · have hlt : i < t.length := by omega
        have hg : t[Int.toNat (i : Int)]? = some t[i] := by rw [Int.toNat_natCast]; exact List.getElem?_eq_getElem hlt
        rw [decide_eq_true (show (i : Int) < (t.length : Int) by omega), cond_true, decide_eq_true (show (0 : Int) ≤ (i : Int) by omega), cond_true, hg, Option.bind_some]
        by_cases hx : t[i] = 10
        · have hx' : (((t[i].toNat : Nat) : Int) != 10) = false := by rw [hx]; rfl
          have b3 : (decide ((0 : Int) ≤ (f : Int)) && (decide ((f : Int) ≤ (i : Int)) && decide ((i : Int) ≤ (t.length : Int)))) = true := by
            simp only [Bool.and_eq_true, decide_eq_true_eq]; omega
          have sl : ((t.take i).drop f).length = i - f := by rw [List.length_drop, List.length_take]; omega
          have hp : pieces 10 (t.drop f) = (t.take i).drop f :: pieces 10 (t.drop (i + 1)) := by
            rw [drop_seg hf hlt, hx, pieces_join 10 _ _ hseg]
          rw [hx', cond_false, b3, cond_true, Int.toNat_natCast, Int.toNat_natCast, hp]
          rcases line_agree ((t.take i).drop f) (by omega) with ⟨g, hr, hgl, hd, h4, hc⟩ | ⟨⟨f', hd⟩, _⟩
          · have hb : decide ((List.length out + List.length [g]) * (56 : Nat) ≤ (140737488355328 : Nat) ∧ List.length out + List.length [g] ≤ (9223372036854775807 : Nat)) = true :=
              decide_eq_true (by simp only [List.length_cons, List.length_nil]; omega)
            rw [hd, Option.bind_some]
            simp only
            rw [show Finding.mk g.kind g.thread g.other g.what g.schedule = g from rfl, Bool.not_true, cond_false, hb, cond_true, i64_in _ (by omega), readS_good (Go.Proofs.pieces_ne 10 _) (one1_good hd)]
            have := ih n (i + 1) (i + 1) (out ++ [g]) (by omega) (by omega) (Nat.le_refl _) (by omega) (by rw [List.drop_eq_nil_of_le (show (t.take (i + 1)).length ≤ i + 1 by simp; omega)]; simp) (by simp; omega)
            rw [show ((i + 1 : Nat) : Int) = (i : Int) + 1 by omega] at this
            rw [this, sl, show f + (i - f) + 1 = i + 1 by omega]
          · rw [hd, Option.bind_some, readS_bad (Go.Proofs.pieces_ne 10 _) (one1_bad hd)]
            rfl
        · have hx' : (((t[i].toNat : Nat) : Int) != 10) = true := by
            have : t[i].toNat ≠ 10 := fun e => hx (by apply UInt8.toNat_inj.1; rw [e]; rfl)
            simp; omega
          rw [hx', cond_true, i64_in _ (by omega)]
          have := ih n (i + 1) f out (by omega) (by omega) (by omega) (by omega) (by
            rw [seg_step hf hlt]
            intro hm
            rcases List.mem_append.1 hm with hm | hm
            · exact hseg hm
            · simp at hm; exact hx hm.symm) (by omega)
          rw [show ((i + 1 : Nat) : Int) = (i : Int) + 1 by omega] at this
          exact this

theorem refRead1 (t : List UInt8) : racetreeref25_Read t = some (readT t) := by
  rw [racetreeref25_Read, sealF_eq]
  unfold racetreeref25_Read_f readT
  cases hc : decide ((t.length : Int) > 40000) with
  | true => rfl
  | false =>
    have := of_decide_eq_false hc
    rw [cond_false, cond_false, racetreeref25_Read_l6, sealF_eq]
    exact refReadLoop t (by omega) (t.length + 1) fuel 0 0 [] (by omega) (by unfold fuel; omega) (Nat.le_refl _) (by omega) (by simp) (by simp)
end Lift.A1P

/- Layer 25: printed lines, one behind the other, and how they are read. -/
namespace Lift.A1P
open Go Go.RowKit Lift Go.IntWalk Lift.Fn

theorem sch_free10 (l : List Int) (ho : l.all okN = true) : (10 : UInt8) ∉ schS l := by
  unfold schS
  cases ((l.length : Int) == 0) with
  | true => rw [cond_true]; decide
  | false =>
    rw [cond_false]
    refine mem_join (by decide) _ (fun w hw hm => ?_)
    obtain ⟨n, hn, rfl⟩ := List.mem_map.1 hw
    have hn1 := List.all_eq_true.1 ho n hn
    simp only [List.mem_cons, List.not_mem_nil, or_false] at hm
    exact dg_ne hn1 (by decide) hm

theorem miss_free10 (n : Int) : (10 : UInt8) ∉ missS n := by
  unfold missS
  cases n == 2 <;> cases n == 3 <;> decide

theorem line_free10 {f : Finding} (h : rightS f = true) : (10 : UInt8) ∉ lineS f := by
  obtain ⟨ht, _, hs, hk⟩ := rightS_parts h
  unfold lineS
  refine mem_join (by decide) _ (fun w hw => ?_)
  rcases List.mem_append.1 hw with hw | hw
  · have hd : ∀ n, okN n = true → (10 : UInt8) ∉ [dg n] := fun n hn hm => by
      simp only [List.mem_cons, List.not_mem_nil, or_false] at hm
      exact dg_ne hn (by decide) hm
    unfold wordsS at hw
    rcases kind_cases hk with ⟨e1, _⟩ | ⟨e1, _⟩ | ⟨e1, _⟩ | ⟨e1, e2, e3, _⟩
    · rw [e1] at hw
      simp at hw
      rcases hw with rfl | rfl
      · decide
      · exact hd _ ht
    · rw [e1] at hw
      simp at hw
      rcases hw with rfl | rfl | rfl
      · decide
      · exact hd _ ht
      · exact miss_free10 _
    · rw [e1] at hw
      simp at hw
      rcases hw with rfl | rfl
      · decide
      · exact hd _ ht
    · rw [e1] at hw
      simp at hw
      rcases hw with rfl | rfl | rfl | rfl
      · decide
      · exact hd _ ht
      · exact hd _ e2
      · exact hd _ e3
  · simp only [List.mem_cons, List.not_mem_nil, or_false] at hw
    rcases hw with rfl | rfl
    · decide
    · exact sch_free10 _ hs

/-- Lines, one behind the other. -/
def flatS : List Finding → List UInt8
  | [] => []
  | f :: l => lineS f ++ 10 :: flatS l

theorem flat_append : ∀ a b : List Finding, flatS (a ++ b) = flatS a ++ flatS b
  | [], b => rfl
  | f :: a, b => by
    show lineS f ++ 10 :: flatS (a ++ b) = (lineS f ++ 10 :: flatS a) ++ flatS b
    rw [flat_append a b]; simp

theorem flat_len : ∀ a : List Finding, a.length ≤ (flatS a).length
  | [] => by simp
  | f :: a => by
    have := flat_len a
    unfold flatS
    simp only [List.length_append, List.length_cons]
    omega

/-- What was printed is read as it was. -/
theorem readS_flat : ∀ (m : List Finding) (a : Nat) (out : List Finding), m.all rightS = true → readS (pieces 10 (flatS m)) a out = .inr (out ++ m)
  | [], a, out, _ => by rw [List.append_nil]; rfl
  | f :: m, a, out, h => by
    rw [List.all_cons, Bool.and_eq_true] at h
    unfold flatS
    rw [pieces_join 10 _ _ (line_free10 h.1), readS_good (Go.Proofs.pieces_ne 10 _) (one1_good (ref_line h.1)), readS_flat m _ _ h.2]
    simp

theorem index_at (c : UInt8) : ∀ (r : List UInt8) (k : Nat), Lib.indexByte r c = (k : Int) → r[k]? = some c
  | [], k, h => by
    have : (-1 : Int) = (k : Int) := h
    omega
  | x :: r, k, h => by
    unfold Lib.indexByte at h
    by_cases hx : x = c
    · subst hx
      simp at h
      obtain rfl : k = 0 := by omega
      rfl
    · have hx' : (x == c) = false := by simpa using hx
      rw [hx'] at h
      by_cases hm : Lib.indexByte r c = -1
      · rw [hm] at h
        have : (-1 : Int) = (k : Int) := h
        omega
      · have hm' : (Lib.indexByte r c == -1) = false := by simpa using hm
        rw [hm'] at h
        have h' : Lib.indexByte r c + 1 = (k : Int) := h
        have hge := Lib.indexByte_ge r c
        cases k with
        | zero => omega
        | succ k => exact index_at c r k (by omega)

/-- What is read was printed. -/
theorem readS_inv : ∀ (n : Nat) (t : List UInt8), t.length ≤ n → t.length ≤ 40000 → ∀ (a : Nat) (out l : List Finding), readS (pieces 10 t) a out = .inr l → ∃ m : List Finding, l = out ++ m ∧ m.all rightS = true ∧ flatS m = t := by
  intro n
  induction n with
  | zero =>
    intro t ht _ a out l h
    have : t = [] := List.eq_nil_of_length_eq_zero (by omega)
    subst this
    refine ⟨[], ?_, rfl, rfl⟩
    rw [List.append_nil]
    exact (Sum.inr.inj (h : Sum.inr out = Sum.inr l)).symm
  | succ n ih =>
    intro t ht hl a out l h
    rcases cut_at t with ⟨_, c2⟩ | ⟨j, hj, _, c2⟩
    · rw [c2] at h
      by_cases e : t = []
      · subst e
        refine ⟨[], ?_, rfl, rfl⟩
        rw [List.append_nil]
        exact (Sum.inr.inj (h : Sum.inr out = Sum.inr l)).symm
      · rw [readS_open e] at h; cases h
    · rw [c2] at h
      rcases line_agree (t.take j) (by rw [List.length_take]; omega) with ⟨f, hr, hf, hd, h4, hc⟩ | ⟨⟨f', hd⟩, _⟩
      · rw [readS_good (Go.Proofs.pieces_ne 10 _) (one1_good hd)] at h
        obtain ⟨m, rfl, hm, ht'⟩ := ih (t.drop (j + 1)) (by rw [List.length_drop]; omega) (by rw [List.length_drop]; omega) _ _ _ h
        refine ⟨f :: m, by simp, by rw [List.all_cons, hr, hm]; rfl, ?_⟩
        unfold flatS
        have e10 : t[j] = 10 := by
          rcases Go.Proofs.pieces_at 10 t with ⟨h1, h2⟩ | ⟨k, hk, h1, h2⟩
          · rw [c2] at h2
            exact absurd (List.cons.inj h2).2 (Go.Proofs.pieces_ne 10 _)
          · rw [c2] at h2
            have hh := (List.cons.inj h2).1
            have : j = k := by
              have := congrArg List.length hh
              simp only [List.length_take] at this
              omega
            subst this
            have hb := index_at 10 t j h1
            rw [List.getElem?_eq_getElem hj] at hb
            exact Option.some.inj hb
        rw [ht', hf]
        conv => rhs; rw [← List.take_append_drop j t, List.drop_eq_getElem_cons hj, e10]
      · rw [readS_bad (Go.Proofs.pieces_ne 10 _) (one1_bad hd)] at h; cases h

theorem readT_cases (t : List UInt8) : (∃ c a, c ≠ 0 ∧ readT t = (Fault.mk c a [], [])) ∨ (t.length ≤ 40000 ∧ ∃ m, readT t = (Fault.mk 0 0 [], m) ∧ m.all rightS = true ∧ flatS m = t) := by
  unfold readT
  cases hc : decide ((t.length : Int) > 40000) with
  | true => exact .inl ⟨251, 0, by decide, rfl⟩
  | false =>
    have := of_decide_eq_false hc
    rw [cond_false]
    cases h : readS (pieces 10 t) 0 [] with
    | inl p => exact .inl ⟨250, p, by decide, rfl⟩
    | inr l =>
      obtain ⟨m, e, hm, ht⟩ := readS_inv t.length t (Nat.le_refl _) (by omega) _ _ _ h
      rw [List.nil_append] at e
      subst e
      exact .inr ⟨by omega, _, rfl, hm, ht⟩

theorem readT_flat (m : List Finding) (h : m.all rightS = true) (hl : (flatS m).length ≤ 40000) : readT (flatS m) = (Fault.mk 0 0 [], m) := by
  unfold readT
  rw [decide_eq_false (by omega), cond_false, readS_flat m 0 [] h]
  rfl

theorem ofStr_append (a b : List UInt8) : ofStr (a ++ b) = ofStr a ++ ofStr b := by unfold ofStr; rw [List.map_append]

theorem prS_flat : ∀ (l : List Finding) (acc : List Int), acc.length ≤ 40000 → prS l acc = bif decide (acc.length + (flatS l).length > 40000) then .inl ([], 251) else .inr (acc ++ ofStr (flatS l))
  | [], acc, h => by
    rw [decide_eq_false (by simp [flatS]; omega), cond_false]
    show _ = Sum.inr (acc ++ [])
    rw [List.append_nil]; rfl
  | f :: l, acc, h => by
    have ol := ofStr_len (lineS f)
    have fl : (flatS (f :: l)).length = (lineS f).length + 1 + (flatS l).length := by show (lineS f ++ 10 :: flatS l).length = _; simp only [List.length_append, List.length_cons]; omega
    have al : (acc ++ ofStr (lineS f) ++ [10]).length = acc.length + (lineS f).length + 1 := by simp only [List.length_append, List.length_cons, List.length_nil]; omega
    unfold prS
    cases hc : decide (((acc ++ ofStr (lineS f) ++ [10]).length : Int) > 40000) with
    | true =>
      have := of_decide_eq_true hc
      rw [cond_true, decide_eq_true (by omega), cond_true]
    | false =>
      have := of_decide_eq_false hc
      rw [cond_false, prS_flat l _ (by omega), al, fl, show acc.length + (lineS f).length + 1 + (flatS l).length = acc.length + ((lineS f).length + 1 + (flatS l).length) by omega]
      have e : acc ++ ofStr (lineS f) ++ [10] ++ ofStr (flatS l) = acc ++ ofStr (flatS (f :: l)) := by
        conv => rhs; unfold flatS
        rw [show (lineS f ++ 10 :: flatS l) = lineS f ++ ([10] ++ flatS l) from rfl, ofStr_append, ofStr_append]
        show _ = acc ++ (ofStr (lineS f) ++ ([10] ++ ofStr (flatS l)))
        simp
      rw [e]

theorem printS_flat (l : List Finding) : printS l = bif l.all rightS then (bif decide ((flatS l).length > 40000) then ([], 251) else (flatS l, 0)) else ([], 1) := by
  unfold printS
  cases l.all rightS with
  | false => rfl
  | true =>
    rw [cond_true, cond_true, prS_flat l [] (by simp)]
    rw [show ([] : List Int).length + (flatS l).length = (flatS l).length by simp]
    cases decide ((flatS l).length > 40000) with
    | true => rfl
    | false =>
      rw [cond_false, cond_false]
      show (bytesOf ([] ++ ofStr (flatS l)), (0 : Int)) = _
      rw [List.nil_append, bytes_ofStr]
end Lift.A1P

/- Layer 25: the laws of Read, There, Back and Joins, plain. -/
namespace Lift.A1P
open Go Go.RowKit Lift Go.IntWalk Lift.Fn

theorem compare_self (f : Finding) : racetreeref21_Compare f f = some 0 := by
  rw [racetreeref21_Compare, sealF_eq]
  unfold racetreeref21_Compare_f cmp4
  congr 1
  (repeat' split) <;> omega

theorem alikeLoop (l : List Finding) (hl : l.length ≤ 4611686018427387904) : ∀ (k n i : Nat), l.length - i ≤ k → k < n → i ≤ l.length → racetreeref21_Alike_i4 n l l (i : Int) = some (.inr ()) := by
  intro k
  induction k with
  | zero =>
    intro n i hk hn hi
    cases n with
    | zero => omega
    | succ n =>
      unfold racetreeref21_Alike_i4 racetreeref21_Alike_t4
      rw [decide_eq_false (by omega), cond_false]
  | succ k ih =>
    intro n i hk hn hi
    cases n with
    | zero => omega
    | succ n =>
      unfold racetreeref21_Alike_i4 racetreeref21_Alike_t4
      by_cases h : i < l.length
      · have hg : l[Int.toNat (i : Int)]? = some l[i] := by rw [Int.toNat_natCast]; exact List.getElem?_eq_getElem h
        rw [decide_eq_true (show (i : Int) < (l.length : Int) by omega), cond_true, decide_eq_true (show (0 : Int) ≤ (i : Int) by omega), cond_true, hg, Option.bind_some, cond_true, Option.bind_some, compare_self, Option.bind_some]
        rw [show ((0 : Int) != 0) = false from rfl, cond_false, i64_in _ (by omega)]
        exact ih n (i + 1) (by omega) (by omega) (by omega)
      · rw [decide_eq_false (by omega), cond_false]

theorem equalLoop (l : List Int) (hl : l.length ≤ 4611686018427387904) : ∀ (k n i : Nat), l.length - i ≤ k → k < n → i ≤ l.length → racetreeref21_equal_i4 n l l (i : Int) = some (.inr ()) := by
  intro k
  induction k with
  | zero =>
    intro n i hk hn hi
    cases n with
    | zero => omega
    | succ n =>
      unfold racetreeref21_equal_i4 racetreeref21_equal_t4
      rw [decide_eq_false (by omega), cond_false]
  | succ k ih =>
    intro n i hk hn hi
    cases n with
    | zero => omega
    | succ n =>
      unfold racetreeref21_equal_i4 racetreeref21_equal_t4
      by_cases h : i < l.length
      · have hg : l[Int.toNat (i : Int)]? = some l[i] := by rw [Int.toNat_natCast]; exact List.getElem?_eq_getElem h
        rw [decide_eq_true (show (i : Int) < (l.length : Int) by omega), cond_true, decide_eq_true (show (0 : Int) ≤ (i : Int) by omega), cond_true, hg, Option.bind_some, cond_true, Option.bind_some]
        rw [show (l[i] != l[i]) = false by simp, cond_false, i64_in _ (by omega)]
        exact ih n (i + 1) (by omega) (by omega) (by omega)
      · rw [decide_eq_false (by omega), cond_false]

theorem equal_self (l : List Int) (hl : l.length ≤ 4611686018427387904) : racetreeref21_equal l l = some true := by
  rw [racetreeref21_equal, sealF_eq]
  unfold racetreeref21_equal_f
  have := equalLoop l hl l.length fuel 0 (by omega) (by unfold fuel; omega) (by omega)
  rw [show ((0 : Nat) : Int) = 0 from rfl] at this
  rw [show ((l.length : Int) != (l.length : Int)) = false by simp, cond_false, racetreeref21_equal_l4, sealF_eq, this]
  rfl

theorem alike_self (l : List Finding) (hl : l.length ≤ 4611686018427387904) : racetreeref21_Alike l l = some true := by
  rw [racetreeref21_Alike, sealF_eq]
  unfold racetreeref21_Alike_f
  have := alikeLoop l hl l.length fuel 0 (by omega) (by unfold fuel; omega) (by omega)
  rw [show ((0 : Nat) : Int) = 0 from rfl] at this
  rw [show ((l.length : Int) != (l.length : Int)) = false by simp, cond_false, racetreeref21_Alike_l4, sealF_eq, this]
  rfl

theorem sameLoop (l : List Finding) (hl : l.length ≤ 4611686018427387904) (hr : l.all rightS = true) : ∀ (k n i : Nat), l.length - i ≤ k → k < n → i ≤ l.length → racetreeref21_Same_i5 n l l (i : Int) = some (.inr ()) := by
  intro k
  induction k with
  | zero =>
    intro n i hk hn hi
    cases n with
    | zero => omega
    | succ n =>
      unfold racetreeref21_Same_i5 racetreeref21_Same_t5
      rw [decide_eq_false (by omega), cond_false]
  | succ k ih =>
    intro n i hk hn hi
    cases n with
    | zero => omega
    | succ n =>
      unfold racetreeref21_Same_i5 racetreeref21_Same_t5
      by_cases h : i < l.length
      · have hg : l[Int.toNat (i : Int)]? = some l[i] := by rw [Int.toNat_natCast]; exact List.getElem?_eq_getElem h
        have hi1 : rightS l[i] = true := List.all_eq_true.1 hr _ (List.getElem_mem h)
        have hs := (rightS_parts hi1).2.1
        rw [decide_eq_true (show (i : Int) < (l.length : Int) by omega), cond_true, decide_eq_true (show (0 : Int) ≤ (i : Int) by omega), cond_true, hg, Option.bind_some, cond_true, Option.bind_some, equal_self _ (by omega), Option.bind_some]
        rw [Bool.not_true, cond_false, i64_in _ (by omega)]
        exact ih n (i + 1) (by omega) (by omega) (by omega)
      · rw [decide_eq_false (by omega), cond_false]

theorem same_self (l : List Finding) (hl : l.length ≤ 4611686018427387904) (hr : l.all rightS = true) : racetreeref21_Same l l = some true := by
  rw [racetreeref21_Same, sealF_eq]
  unfold racetreeref21_Same_f
  have := sameLoop l hl hr l.length fuel 0 (by omega) (by unfold fuel; omega) (by omega)
  rw [show ((0 : Nat) : Int) = 0 from rfl] at this
  rw [alike_self l hl, Option.bind_some, Bool.not_true, cond_false, racetreeref21_Same_l5, sealF_eq, this]
  rfl

/-- ReportReads. -/
theorem reportReads1 (t : List UInt8) : racetreelaw25_ReportReads t = some true := by
  rw [racetreelaw25_ReportReads, sealF_eq]
  unfold racetreelaw25_ReportReads_f
  have hs : racetreeref21_Same (readT t).2 (readT t).2 = some true := by
    rcases readT_cases t with ⟨c, a, _, h⟩ | ⟨hl, m, h, hm, ht⟩
    · rw [h]; exact same_self [] (by simp) rfl
    · rw [h]
      have := flat_len m
      rw [ht] at this
      exact same_self m (by omega) hm
  rw [awake1, read1, refRead1, Option.bind_some, Option.bind_some, Option.bind_some, hs, Option.bind_some, cond_true, decide_eq_true rfl, cond_true]

theorem print_cases (l : List Finding) : (∃ c, c ≠ 0 ∧ printS l = ([], c)) ∨ (l.all rightS = true ∧ (flatS l).length ≤ 40000 ∧ printS l = (flatS l, 0)) := by
  rw [printS_flat]
  cases hr : l.all rightS with
  | false => exact .inl ⟨1, by decide, rfl⟩
  | true =>
    cases hc : decide ((flatS l).length > 40000) with
    | true => exact .inl ⟨251, by decide, rfl⟩
    | false => exact .inr ⟨rfl, by have := of_decide_eq_false hc; omega, rfl⟩

/-- ReportThere. -/
theorem reportThere1 (l : List Finding) (hl : l.length ≤ 1000000000000000) : racetreelaw25_ReportThere l = some true := by
  rw [racetreelaw25_ReportThere, sealF_eq]
  unfold racetreelaw25_ReportThere_f
  rw [awake1, print1 l hl, refPrint1 l hl, Option.bind_some, Option.bind_some, Option.bind_some]
  rcases print_cases l with ⟨c, hc, h⟩ | ⟨hr, hf, h⟩
  · rw [h]
    simp only
    rw [show (c != 0) = true by simpa using hc, cond_true, cond_true, show (c == c) = true by simp]
  · rw [h]
    simp only
    rw [show ((0 : Int) != 0) = false from rfl, cond_false, read1, readT_flat l hr hf, Option.bind_some]
    simp only
    rw [same_self l (by omega) hr, Option.bind_some, cond_true, show ((0 : Int) == 0) = true from rfl, cond_true, decide_eq_true trivial, cond_true]

/-- ReportBack. -/
theorem reportBack1 (t : List UInt8) : racetreelaw25_ReportBack t = some true := by
  rw [racetreelaw25_ReportBack, sealF_eq]
  unfold racetreelaw25_ReportBack_f
  rw [awake1, read1, refRead1, Option.bind_some, Option.bind_some, Option.bind_some]
  rcases readT_cases t with ⟨c, a, hc, h⟩ | ⟨hl, m, h, hm, ht⟩
  · rw [h]
    simp only
    rw [show (c != 0) = true by simpa using hc, cond_true, cond_true, decide_eq_true trivial]
  · rw [h]
    simp only
    have hfl := flat_len m
    rw [ht] at hfl
    rw [show ((0 : Int) != 0) = false from rfl, cond_false, print1 m (by omega), Option.bind_some, printS_flat, hm, cond_true, ht, decide_eq_false (by omega), cond_false, cond_true]
    simp only
    rw [show ((0 : Int) == 0) = true from rfl, cond_true, cond_true, show (t == t) = true by simp]

/-- ReportJoins. -/
theorem reportJoins1 (a b : List Finding) (ha : a.length ≤ 10000000) (hb : b.length ≤ 10000000) : racetreelaw25_ReportJoins a b = some true := by
  rw [racetreelaw25_ReportJoins, sealF_eq]
  unfold racetreelaw25_ReportJoins_f
  have e1 : decide (((0 : Nat) + List.length a) * (56 : Nat) ≤ (140737488355328 : Nat) ∧ (0 : Nat) + List.length a ≤ (9223372036854775807 : Nat)) = true := decide_eq_true (by omega)
  have e2 : decide ((List.length ([] ++ a) + List.length b) * (56 : Nat) ≤ (140737488355328 : Nat) ∧ List.length ([] ++ a) + List.length b ≤ (9223372036854775807 : Nat)) = true := decide_eq_true (by rw [List.nil_append]; omega)
  have lab : (a ++ b).length = a.length + b.length := List.length_append
  rw [awake1, Option.bind_some, e1, cond_true, e2, cond_true, List.nil_append, refPrint1 _ (by omega), Option.bind_some]
  rcases print_cases (a ++ b) with ⟨c, hc, h⟩ | ⟨hr, hf, h⟩
  · rw [h]
    simp only
    rw [show (c != 0) = true by simpa using hc, cond_true]
  · have hf' := hf
    rw [flat_append, List.length_append] at hf'
    have hra : a.all rightS = true ∧ b.all rightS = true := by
      rw [List.all_append, Bool.and_eq_true] at hr; exact hr
    rw [h]
    simp only
    rw [show ((0 : Int) != 0) = false from rfl, cond_false, print1 a (by omega), print1 b (by omega), Option.bind_some, Option.bind_some]
    have pa : printS a = (flatS a, 0) := by rw [printS_flat, hra.1, decide_eq_false (by omega)]; rfl
    have pb : printS b = (flatS b, 0) := by rw [printS_flat, hra.2, decide_eq_false (by omega)]; rfl
    rw [pa, pb]
    simp only
    rw [decide_eq_true (show (flatS a).length + (flatS b).length ≤ 9223372036854775807 by omega), cond_true, read1, ← flat_append, readT_flat _ hr hf, Option.bind_some]
    simp only
    rw [same_self _ (by omega) hr, Option.bind_some]
    rfl
end Lift.A1P

