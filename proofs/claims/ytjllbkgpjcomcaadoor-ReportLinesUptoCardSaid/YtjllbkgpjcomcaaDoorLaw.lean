/-
  DERIVED. The Lean functions answer as the laws say. Conditions: as each theorem says.
-/
import Derived.Test.YtjllbkgpjcomcaaDoorWalk
import Derived.IntWalk
set_option linter.unusedVariables false
set_option linter.unusedSimpArgs false
set_option linter.unusedSectionVars false
/- Layer 25: which findings may be. -/
namespace Lift.A1P
open Go Go.RowKit Lift Go.IntWalk Lift.Fn

def okN (n : Int) : Bool := decide (0 ≤ n) && decide (n ≤ 7)
def kindOk (f : Finding) : Bool :=
  bif f.kind == 1 then f.other == 0 && f.what == 0 else
  bif f.kind == 2 then f.other == 0 && (decide (2 ≤ f.what) && decide (f.what ≤ 4)) else
  bif f.kind == 3 then f.other == 0 && f.what == 0 else
  bif f.kind == 4 then okN f.other && (okN f.what && decide (f.thread < f.other)) else false
def rightS (f : Finding) : Bool := okN f.thread && (decide (f.schedule.length ≤ 1000) && (f.schedule.all okN && kindOk f))

theorem between1 (n a b : Int) : report_between_int n a b = some (decide (a ≤ n) && decide (n ≤ b)) := by
  rw [report_between_int, sealF_eq]
  unfold report_between_int_f
  by_cases h : a ≤ n
  · rw [decide_eq_true (show n ≥ a from h)]; rfl
  · rw [decide_eq_false (show ¬ n ≥ a from h)]; rfl

theorem thread1 (n : Int) : report_thread n = some (okN n) := by
  rw [report_thread, sealF_eq]
  unfold report_thread_f
  rw [between1]
  rfl

theorem in1 (n : Int) : racetreeref25_in n = some (okN n) := by
  rw [racetreeref25_in, sealF_eq]
  unfold racetreeref25_in_f okN
  by_cases h : 0 ≤ n
  · rw [decide_eq_true (show n ≥ 0 from h), cond_true, Bool.true_and]
    congr 2
    rw [eq_iff_iff]; omega
  · rw [decide_eq_false (show ¬ n ≥ 0 from h)]; rfl

theorem right_1 (n : Int) : report_right_1 n = some (!okN n) := by
  rw [report_right_1, sealF_eq]
  unfold report_right_1_f
  rw [thread1]
  rfl

theorem drop_at {α : Type} {l : List α} {i : Nat} (h : i < l.length) : l.drop i = l[i] :: l.drop (i + 1) := List.drop_eq_getElem_cons h

theorem index1 (l : List Int) (hl : l.length ≤ 4611686018427387904) : ∀ (k n i : Nat), l.length - i ≤ k → k < n → i ≤ l.length →
    (∃ j : Int, slices_IndexFunc_int_int_i2 n l (l.length : Int) (i : Int) = some (.inl j) ∧ 0 ≤ j ∧ (l.drop i).all okN = false) ∨
    (slices_IndexFunc_int_int_i2 n l (l.length : Int) (i : Int) = some (.inr ()) ∧ (l.drop i).all okN = true) := by
  intro k
  induction k with
  | zero =>
    intro n i hk hn hi
    cases n with
    | zero => omega
    | succ n =>
      right
      unfold slices_IndexFunc_int_int_i2 slices_IndexFunc_int_int_t2
      rw [decide_eq_false (by omega), cond_false, List.drop_eq_nil_of_le (by omega)]
      exact ⟨rfl, rfl⟩
  | succ k ih =>
    intro n i hk hn hi
    cases n with
    | zero => omega
    | succ n =>
      unfold slices_IndexFunc_int_int_i2 slices_IndexFunc_int_int_t2
      by_cases h : i < l.length
      · have hg : l[Int.toNat (i : Int)]? = some l[i] := by rw [Int.toNat_natCast]; exact List.getElem?_eq_getElem h
        rw [decide_eq_true (by omega), cond_true, decide_eq_true (by omega), cond_true, hg, Option.bind_some, right_1, Option.bind_some, drop_at h, List.all_cons]
        cases ho : okN l[i] with
        | false => left; exact ⟨_, rfl, by omega, rfl⟩
        | true =>
          rw [Bool.not_true, cond_false, i64_in _ (by omega), Bool.true_and]
          exact ih n (i + 1) (by omega) (by omega) (by omega)
      · right
        rw [decide_eq_false (by omega), cond_false, List.drop_eq_nil_of_le (by omega)]
        exact ⟨rfl, rfl⟩

theorem contains1 (l : List Int) (hl : l.length ≤ 1000000000000000) : slices_ContainsFunc_int_int l = some (!l.all okN) := by
  rw [slices_ContainsFunc_int_int, sealF_eq]
  unfold slices_ContainsFunc_int_int_f
  rw [slices_IndexFunc_int_int, sealF_eq]
  unfold slices_IndexFunc_int_int_f
  rw [slices_IndexFunc_int_int_l2, sealF_eq]
  rcases index1 l (by omega) l.length fuel 0 (by omega) (by unfold fuel; omega) (by omega) with ⟨j, h1, h2, h3⟩ | ⟨h1, h3⟩
  · rw [show ((0 : Nat) : Int) = 0 from rfl] at h1
    rw [List.drop_zero] at h3
    rw [h1, Option.bind_some, h3]
    simp only [Option.bind_some]
    rw [decide_eq_true (show j ≥ 0 from h2)]
    rfl
  · rw [show ((0 : Nat) : Int) = 0 from rfl] at h1
    rw [List.drop_zero] at h3
    rw [h1, Option.bind_some, h3]
    rfl

theorem right1 (f : Finding) : report_right f = some (rightS f) := by
  rw [report_right, sealF_eq]
  unfold report_right_f rightS
  rw [thread1, Option.bind_some]
  cases okN f.thread with
  | false => rfl
  | true =>
    rw [Bool.not_true, cond_false, Bool.true_and]
    by_cases hs : f.schedule.length ≤ 1000
    · rw [decide_eq_false (by omega), cond_false, decide_eq_true hs, Bool.true_and, contains1 _ (by omega), Option.bind_some]
      cases f.schedule.all okN with
      | false => rfl
      | true =>
        rw [Bool.not_true, cond_false, Bool.true_and]
        unfold kindOk
        simp only [between1, thread1, Option.bind_some]
        by_cases h2 : f.kind = 2
        · rw [h2]
          simp only [BEq.rfl, cond_true]
          cases f.other == 0 <;> rfl
        · by_cases h4 : f.kind = 4
          · rw [h4]
            simp only [BEq.rfl, cond_true]
            rw [show ((4 : Int) == 2) = false from rfl, show ((4 : Int) == 1) = false from rfl, show ((4 : Int) == 3) = false from rfl]
            simp only [cond_false]
            cases okN f.other with
            | false => rfl
            | true =>
              rw [Bool.true_and, cond_true]
              by_cases ho : f.thread < f.other
              · rw [decide_eq_true (show f.other > f.thread from ho), cond_true, Bool.and_true]
              · rw [decide_eq_false (show ¬ f.other > f.thread from ho), cond_false, Bool.and_false]
          · have e2 : (f.kind == 2) = false := by simpa using h2
            have e4 : (f.kind == 4) = false := by simpa using h4
            rw [e2, e4]
            simp only [cond_false]
            cases f.kind == 1 <;> cases f.kind == 3 <;> cases f.other == 0 <;> rfl
    · rw [decide_eq_true (by omega), decide_eq_false hs]; rfl

theorem refLoop (l : List Int) (a b c d : Int) (hl : l.length ≤ 4611686018427387904) : ∀ (k n i : Nat), l.length - i ≤ k → k < n → i ≤ l.length →
    racetreeref25_Right_i5 n (i : Int) a b c d l = some (bif (l.drop i).all okN then .inr (a, b, c, d, l) else .inl false) := by
  intro k
  induction k with
  | zero =>
    intro n i hk hn hi
    cases n with
    | zero => omega
    | succ n =>
      unfold racetreeref25_Right_i5 racetreeref25_Right_t5
      rw [decide_eq_false (by omega), cond_false, List.drop_eq_nil_of_le (by omega)]
      rfl
  | succ k ih =>
    intro n i hk hn hi
    cases n with
    | zero => omega
    | succ n =>
      unfold racetreeref25_Right_i5 racetreeref25_Right_t5
      by_cases h : i < l.length
      · have hg : l[Int.toNat (i : Int)]? = some l[i] := by rw [Int.toNat_natCast]; exact List.getElem?_eq_getElem h
        rw [decide_eq_true (by omega), cond_true, decide_eq_true (by omega), cond_true, hg, Option.bind_some, in1, Option.bind_some, drop_at h, List.all_cons]
        cases ho : okN l[i] with
        | false => rfl
        | true =>
          rw [Bool.not_true, cond_false, i64_in _ (by omega), Bool.true_and]
          exact ih n (i + 1) (by omega) (by omega) (by omega)
      · rw [decide_eq_false (by omega), cond_false, List.drop_eq_nil_of_le (by omega)]
        rfl

theorem refRight (f : Finding) : racetreeref25_Right f = some (rightS f) := by
  rw [racetreeref25_Right, sealF_eq]
  unfold racetreeref25_Right_f rightS
  rw [in1, Option.bind_some]
  cases okN f.thread with
  | false => rfl
  | true =>
    rw [Bool.not_true, cond_false, Bool.true_and]
    by_cases hs : f.schedule.length ≤ 1000
    · have hL := refLoop f.schedule f.kind f.thread f.other f.what (by omega) f.schedule.length fuel 0 (by omega) (by unfold fuel; omega) (by omega)
      rw [show ((0 : Nat) : Int) = 0 from rfl, List.drop_zero] at hL
      rw [decide_eq_false (by omega), cond_false, decide_eq_true hs, Bool.true_and, racetreeref25_Right_l5, sealF_eq, hL, Option.bind_some]
      cases f.schedule.all okN with
      | false => rfl
      | true =>
        rw [cond_true, Bool.true_and]
        simp only
        unfold kindOk
        simp only [in1, Option.bind_some]
        by_cases h1 : f.kind = 1
        · rw [h1]
          simp only [BEq.rfl, cond_true]
          cases f.other == 0 <;> rfl
        · have e1 : (f.kind == 1) = false := by simpa using h1
          rw [e1]
          simp only [cond_false]
          by_cases h3 : f.kind = 3
          · rw [h3]
            simp only [BEq.rfl, cond_true]
            rw [show ((3 : Int) == 2) = false from rfl]
            simp only [cond_false]
            cases f.other == 0 <;> rfl
          · have e3 : (f.kind == 3) = false := by simpa using h3
            rw [e3]
            simp only [cond_false]
            cases f.kind == 2 with
            | true =>
              simp only [cond_true]
              cases f.other == 0 with
              | false => rfl
              | true =>
                simp only [cond_true, Bool.true_and]
                by_cases ha : 2 ≤ f.what
                · rw [decide_eq_true (show f.what ≥ 2 from ha)]; rfl
                · rw [decide_eq_false (show ¬ f.what ≥ 2 from ha)]; rfl
            | false =>
              simp only [cond_false]
              cases f.kind == 4 with
              | false => rfl
              | true =>
                simp only [cond_true]
                cases okN f.other with
                | false => rfl
                | true =>
                  cases okN f.what with
                  | false => rfl
                  | true => rfl
    · rw [decide_eq_true (by omega), decide_eq_false hs]; rfl
end Lift.A1P

/- Layer 25: a finding's line. -/
namespace Lift.A1P
open Go Go.RowKit Lift Go.IntWalk Lift.Fn

def dg (n : Int) : UInt8 := UInt8.ofNat (48 + n.toNat)
def schS (l : List Int) : List UInt8 := bif (l.length : Int) == 0 then [45] else Lib.join (l.map fun n => [dg n]) [44]
def missS (n : Int) : List UInt8 := bif n == 2 then [117, 110, 108, 111, 99, 107] else bif n == 3 then [106, 111, 105, 110] else [115, 116, 97, 114, 116]
def wordsS (f : Finding) : List (List UInt8) :=
  bif f.kind == 1 then [[97, 115, 115, 101, 114, 116], [dg f.thread]] else
  bif f.kind == 2 then [[109, 105, 115, 117, 115, 101], [dg f.thread], missS f.what] else
  bif f.kind == 3 then [[100, 101, 97, 100, 108, 111, 99, 107], [dg f.thread]] else
  [[114, 97, 99, 101], [dg f.thread], [dg f.other], [dg f.what]]
def lineS (f : Finding) : List UInt8 := Lib.join (wordsS f ++ [[98, 121], schS f.schedule]) [32]

theorem okN_mem {n : Int} (h : okN n = true) : 0 ≤ n ∧ n ≤ 7 := by
  unfold okN at h
  simpa using h

theorem dec8 : ∀ k : Fin 8, Lib.decDigits k.val = [UInt8.ofNat (48 + k.val)] ∧ bytesOf [IntKind.wrap IntKind.u8 (IntKind.wrap IntKind.i64 (48 + (k.val : Int)))] = [UInt8.ofNat (48 + k.val)] := by
  intro k
  have h := k.isLt
  refine ⟨?_, ?_⟩
  · rw [Lib.decDigits, dif_pos (by omega)]
  · rw [i64_in _ (by omega), u8_in _ (by omega)]
    unfold bytesOf
    rw [List.map_cons, List.map_nil]
    congr 2

theorem itoa1 {n : Int} (h : okN n = true) : strconv_Itoa n = some [dg n] := by
  obtain ⟨h0, h7⟩ := okN_mem h
  rw [strconv_Itoa, sealF_eq]
  unfold strconv_Itoa_f dg
  rw [decide_eq_true (by omega), cond_true, (dec8 ⟨n.toNat, by omega⟩).1]

theorem digit1 {n : Int} (h : okN n = true) : racetreeref25_digit n = some [dg n] := by
  obtain ⟨h0, h7⟩ := okN_mem h
  rw [racetreeref25_digit, sealF_eq]
  unfold racetreeref25_digit_f dg
  have := (dec8 ⟨n.toNat, by omega⟩).2
  simp only [Int.toNat_of_nonneg h0] at this
  rw [this]

theorem schLoop (l : List Int) (hl : l.length ≤ 1000) (ho : l.all okN = true) : ∀ (k n i : Nat) (out : List (List UInt8)), l.length - i ≤ k → k < n → i ≤ l.length → out.length = l.length →
    report_schedule_i5 n l (l.length : Int) (i : Int) out = some (out.take i ++ (l.drop i).map fun n => [dg n]) := by
  intro k
  induction k with
  | zero =>
    intro n i out hk hn hi hout
    cases n with
    | zero => omega
    | succ n =>
      unfold report_schedule_i5 report_schedule_t5
      rw [decide_eq_false (by omega), cond_false, List.drop_eq_nil_of_le (show l.length ≤ i by omega), List.take_of_length_le (by omega)]
      simp
  | succ k ih =>
    intro n i out hk hn hi hout
    cases n with
    | zero => omega
    | succ n =>
      unfold report_schedule_i5 report_schedule_t5
      by_cases h : i < l.length
      · have hg : l[Int.toNat (i : Int)]? = some l[i] := by rw [Int.toNat_natCast]; exact List.getElem?_eq_getElem h
        have hi1 : okN l[i] = true := List.all_eq_true.1 ho _ (List.getElem_mem h)
        have hg2 : out[Int.toNat (i : Int)]? = some out[i] := by rw [Int.toNat_natCast]; exact List.getElem?_eq_getElem (by omega)
        have b3 : (decide ((0 : Int) ≤ (i : Int)) && decide ((i : Int) < (out.length : Int))) = true := by
          simp only [Bool.and_eq_true, decide_eq_true_eq]; omega
        rw [decide_eq_true (show (i : Int) < l.length by omega), cond_true, b3, decide_eq_true (show (0 : Int) ≤ (i : Int) by omega), cond_true, hg, Option.bind_some, itoa1 hi1, Option.bind_some, cond_true, hg2, Option.bind_some,
          i64_in _ (by omega), Int.toNat_natCast]
        have := ih n (i + 1) (out.set i [dg l[i]]) (by omega) (by omega) (by omega) (by simpa using hout)
        rw [show ((i + 1 : Nat) : Int) = (i : Int) + 1 by omega] at this
        rw [this, drop_at h, List.map_cons]
        congr 1
        rw [List.take_add_one, List.getElem?_set_self (by omega), List.take_set_of_le (Nat.le_refl _)]
        simp
      · rw [decide_eq_false (by omega), cond_false, List.drop_eq_nil_of_le (show l.length ≤ i by omega), List.take_of_length_le (by omega)]
        simp

theorem lens_one (l : List Int) : Lib.lens (l.map fun n => [dg n]) = l.length := by
  unfold Lib.lens
  induction l with
  | nil => rfl
  | cons n l ih => simp only [List.map_cons, List.sum_cons, List.length_cons, List.length_nil] at ih ⊢; omega

theorem sch_len (l : List Int) : (schS l).length ≤ 2 * l.length + 1 := by
  unfold schS
  cases l with
  | nil => simp
  | cons n l =>
    have : (((n :: l).length : Int) == 0) = false := by simp; omega
    rw [this, cond_false, List.map_cons, Lib.join_length]
    have := lens_one (n :: l)
    rw [List.map_cons] at this
    rw [this]
    simp
    omega

theorem join1 (l : List (List UInt8)) (sep : List UInt8) (h1 : l.length ≤ 140737488355328) (h2 : (Lib.join l sep).length ≤ 140737488355328) : strings_Join l sep = some (Lib.join l sep) := by
  rw [strings_Join, sealF_eq]
  unfold strings_Join_f
  rw [decide_eq_true ⟨h1, h2⟩, cond_true]

theorem sch1 (l : List Int) (hl : l.length ≤ 1000) (ho : l.all okN = true) : report_schedule l = some (schS l) := by
  have hlen := sch_len l
  rw [report_schedule, sealF_eq]
  unfold report_schedule_f
  unfold schS at hlen ⊢
  cases he : ((l.length : Int) == 0) with
  | true => rfl
  | false =>
    rw [he, cond_false] at hlen
    rw [cond_false, cond_false]
    rw [decide_eq_true (show (0 : Int) ≤ (l.length : Int) by omega), decide_eq_true (show (l.length : Int) = (l.length : Int) from rfl), decide_eq_true (show Int.toNat (l.length : Int) * (16 : Nat) ≤ (140737488355328 : Nat) ∧ Int.toNat (l.length : Int) ≤ (9223372036854775807 : Nat) by rw [Int.toNat_natCast]; omega),
      Bool.and_self, Bool.and_self, cond_true, report_schedule_l5, sealF_eq, Int.toNat_natCast]
    have hL := schLoop l hl ho l.length fuel 0 (List.replicate l.length []) (by omega) (by unfold fuel; omega) (by omega) (by simp)
    rw [show ((0 : Nat) : Int) = 0 from rfl] at hL
    rw [hL, Option.bind_some, List.take_zero, List.nil_append, List.drop_zero, join1 _ _ (by rw [List.length_map]; omega) (by omega), Option.bind_some]

theorem rightS_parts {f : Finding} (h : rightS f = true) : okN f.thread = true ∧ f.schedule.length ≤ 1000 ∧ f.schedule.all okN = true ∧ kindOk f = true := by
  unfold rightS at h
  simpa [Bool.and_eq_true] using h

theorem kind_cases {f : Finding} (h : kindOk f = true) : (f.kind = 1 ∧ f.other = 0 ∧ f.what = 0) ∨ (f.kind = 2 ∧ f.other = 0 ∧ (f.what = 2 ∨ f.what = 3 ∨ f.what = 4)) ∨ (f.kind = 3 ∧ f.other = 0 ∧ f.what = 0) ∨
    (f.kind = 4 ∧ okN f.other = true ∧ okN f.what = true ∧ f.thread < f.other) := by
  unfold kindOk at h
  by_cases h1 : f.kind = 1
  · rw [h1] at h; simp at h; exact .inl ⟨h1, h⟩
  by_cases h2 : f.kind = 2
  · rw [h2] at h; simp at h; exact .inr (.inl ⟨h2, h.1, by omega⟩)
  by_cases h3 : f.kind = 3
  · rw [h3] at h; simp at h; exact .inr (.inr (.inl ⟨h3, h⟩))
  by_cases h4 : f.kind = 4
  · rw [h4] at h; simp at h; exact .inr (.inr (.inr ⟨h4, h⟩))
  · simp [h1, h2, h3, h4] at h

theorem words_len (f : Finding) (hl : f.schedule.length ≤ 1000) : (lineS f).length ≤ 2100 ∧ (wordsS f ++ [[98, 121], schS f.schedule]).length ≤ 10 := by
  have hs := sch_len f.schedule
  have hm : (missS f.what).length ≤ 6 := by
    unfold missS
    cases f.what == 2 <;> cases f.what == 3 <;> decide
  unfold lineS wordsS
  cases f.kind == 1 <;> cases f.kind == 2 <;> cases f.kind == 3 <;>
    (simp only [cond_true, cond_false, List.cons_append, List.nil_append, Lib.join_length, Lib.lens, List.map_cons, List.map_nil, List.sum_cons, List.sum_nil, List.length_cons, List.length_nil]; omega)

theorem line1 {f : Finding} (h : rightS f = true) : report_line f = some (lineS f) := by
  obtain ⟨ht, hl, hs, hk⟩ := rightS_parts h
  have hlen := words_len f hl
  have hj : strings_Join (wordsS f ++ [[98, 121], schS f.schedule]) [32] = some (lineS f) := join1 _ _ (by omega) (by have := hlen.1; unfold lineS at this; omega)
  clear hlen
  rw [report_line, sealF_eq]
  unfold report_line_f
  rw [itoa1 ht, sch1 _ hl hs]
  rcases kind_cases hk with ⟨e1, e2, e3⟩ | ⟨e1, e2, e3⟩ | ⟨e1, e2, e3⟩ | ⟨e1, e2, e3, _⟩
  · unfold wordsS at hj
    rw [e1] at hj ⊢
    rw [e3]
    simp only [BEq.rfl, cond_true, Option.bind_some, show ((1 : Int) == 4) = false from rfl, show ((0 : Int) == 2) = false from rfl, show ((0 : Int) == 3) = false from rfl, show ((0 : Int) == 4) = false from rfl, cond_false, List.cons_append, List.nil_append] at hj ⊢
    rw [hj]; rfl
  · unfold wordsS missS at hj
    rw [e1] at hj ⊢
    rcases e3 with e3 | e3 | e3 <;> rw [e3] at hj ⊢ <;>
    (simp only [BEq.rfl, cond_true, Option.bind_some, show ((2 : Int) == 1) = false from rfl, show ((2 : Int) == 4) = false from rfl, show ((3 : Int) == 2) = false from rfl, show ((4 : Int) == 2) = false from rfl, show ((4 : Int) == 3) = false from rfl, cond_false, List.cons_append, List.nil_append] at hj ⊢
     rw [hj]; rfl)
  · unfold wordsS at hj
    rw [e1] at hj ⊢
    rw [e3]
    simp only [BEq.rfl, cond_true, Option.bind_some, show ((3 : Int) == 1) = false from rfl, show ((3 : Int) == 2) = false from rfl, show ((3 : Int) == 4) = false from rfl, show ((0 : Int) == 2) = false from rfl, show ((0 : Int) == 3) = false from rfl, show ((0 : Int) == 4) = false from rfl, cond_false, List.cons_append, List.nil_append] at hj ⊢
    rw [hj]; rfl
  · unfold wordsS at hj
    rw [itoa1 e2, itoa1 e3]
    rw [e1] at hj ⊢
    simp only [BEq.rfl, cond_true, Option.bind_some, show ((4 : Int) == 1) = false from rfl, show ((4 : Int) == 2) = false from rfl, show ((4 : Int) == 3) = false from rfl, cond_false, List.cons_append, List.nil_append] at hj ⊢
    rw [hj]; rfl
end Lift.A1P

/- Layer 25: the document's line. -/
namespace Lift.A1P
open Go Go.RowKit Lift Go.IntWalk Lift.Fn

def comI (l : List Int) : List Int := l.flatMap fun n => [44, 48 + n]

theorem mis1 (n : Int) : racetreeref25_misuse n = some (missS n) := by
  rw [racetreeref25_misuse, sealF_eq]
  unfold racetreeref25_misuse_f missS
  cases n == 2 <;> cases n == 3 <;> rfl

theorem dgI {n : Int} (h : okN n = true) : IntKind.wrap IntKind.u8 (IntKind.wrap IntKind.i64 (48 + n)) = 48 + n := by
  obtain ⟨h0, h7⟩ := okN_mem h
  rw [i64_in _ (by omega), u8_in _ (by omega)]

theorem lineLoop (l : List Int) (a b c d : Int) (hl : l.length ≤ 1000) (ho : l.all okN = true) : ∀ (k n i : Nat) (acc : List Int), l.length - i ≤ k → k < n → 1 ≤ i → i ≤ l.length → acc.length + 2 * (l.length - i) ≤ 1000000 →
    racetreeref25_line_i20 n (i : Int) a b c d l acc = some (acc ++ comI (l.drop i)) := by
  intro k
  induction k with
  | zero =>
    intro n i acc hk hn h1 hi hb
    cases n with
    | zero => omega
    | succ n =>
      unfold racetreeref25_line_i20 racetreeref25_line_t20
      rw [decide_eq_false (by omega), cond_false, List.drop_eq_nil_of_le (show l.length ≤ i by omega)]
      simp [comI]
  | succ k ih =>
    intro n i acc hk hn h1 hi hb
    cases n with
    | zero => omega
    | succ n =>
      unfold racetreeref25_line_i20 racetreeref25_line_t20
      by_cases h : i < l.length
      · have hg : l[Int.toNat (i : Int)]? = some l[i] := by rw [Int.toNat_natCast]; exact List.getElem?_eq_getElem h
        have hi1 : okN l[i] = true := List.all_eq_true.1 ho _ (List.getElem_mem h)
        rw [decide_eq_true (show (i : Int) < l.length by omega), cond_true, decide_eq_true (show (i : Int) > 0 by omega), cond_true, decide_eq_true (show (List.length acc + (1 : Nat)) * (1 : Nat) ≤ (140737488355328 : Nat) ∧ List.length acc + (1 : Nat) ≤ (9223372036854775807 : Nat) by omega), cond_true,
          decide_eq_true (show (0 : Int) ≤ (i : Int) by omega), cond_true, hg, Option.bind_some, dgI hi1]
        rw [decide_eq_true (show (List.length (acc ++ [(44 : Int)]) + List.length [48 + l[i]]) * (1 : Nat) ≤ (140737488355328 : Nat) ∧ List.length (acc ++ [(44 : Int)]) + List.length [48 + l[i]] ≤ (9223372036854775807 : Nat) by
          simp only [List.length_append, List.length_cons, List.length_nil]; omega), cond_true, i64_in _ (by omega)]
        have := ih n (i + 1) (acc ++ [44] ++ [48 + l[i]]) (by omega) (by omega) (by omega) (by omega) (by simp only [List.length_append, List.length_cons, List.length_nil]; omega)
        rw [show ((i + 1 : Nat) : Int) = (i : Int) + 1 by omega] at this
        rw [this, drop_at h]
        simp only [comI, List.flatMap_cons, List.append_assoc, List.cons_append, List.nil_append]
      · rw [decide_eq_false (by omega), cond_false, List.drop_eq_nil_of_le (show l.length ≤ i by omega)]
        simp [comI]

theorem bytes_ofStr (s : List UInt8) : bytesOf (ofStr s) = s := by
  unfold bytesOf ofStr
  rw [List.map_map]
  conv => rhs; rw [← List.map_id s]
  apply List.map_congr_left
  intro b _
  simp

theorem bytes_append (a b : List Int) : bytesOf (a ++ b) = bytesOf a ++ bytesOf b := by
  unfold bytesOf; rw [List.map_append]

theorem bytes_dg {n : Int} (h : okN n = true) : bytesOf [48 + n] = [dg n] := by
  obtain ⟨h0, h7⟩ := okN_mem h
  unfold bytesOf dg
  rw [List.map_cons, List.map_nil]
  congr 2
  omega

theorem bytes_com : ∀ (l : List Int), l.all okN = true → bytesOf (comI l) = Lib.joinTail [44] (l.map fun n => [dg n])
  | [], _ => rfl
  | n :: l, h => by
    rw [List.all_cons, Bool.and_eq_true] at h
    have ih := bytes_com l h.2
    have h1 := bytes_dg h.1
    unfold comI Lib.joinTail at ih ⊢
    rw [List.flatMap_cons, bytes_append, ih, show [44, 48 + n] = [44] ++ [48 + n] from rfl, bytes_append, h1]
    simp [bytesOf]

theorem tail1 (l : List Int) (a b c d : Int) (s : List UInt8) (hl : l.length ≤ 1000) (ho : l.all okN = true) (hs : s.length ≤ 1000) (he : ((l.length : Int) == 0) = false) :
    ∃ y, racetreeref25_line_l20 0 a b c d l (ofStr s) = some y ∧ bytesOf y = s ++ schS l := by
  cases l with
  | nil => simp at he
  | cons m l =>
    have hm : okN m = true := List.all_eq_true.1 ho _ (by simp)
    have hL := lineLoop (m :: l) a b c d hl ho (m :: l).length (fuel - 1) 1 (ofStr s ++ [48 + m]) (by omega) (by unfold fuel; omega) (by omega) (by simp) (by simp only [List.length_append, List.length_cons, List.length_nil, ofStr, List.length_map] at hl ⊢; omega)
    refine ⟨ofStr s ++ [48 + m] ++ comI (List.drop 1 (m :: l)), ?_, ?_⟩
    · rw [racetreeref25_line_l20, sealF_eq, show fuel = (fuel - 1) + 1 by unfold fuel; omega]
      unfold racetreeref25_line_i20 racetreeref25_line_t20
      have hg : (m :: l)[Int.toNat (0 : Int)]? = some m := rfl
      rw [decide_eq_true (show (0 : Int) < ((m :: l).length : Int) by simp only [List.length_cons]; omega), cond_true, decide_eq_false (show ¬ (0 : Int) > 0 by omega), cond_false, decide_eq_true (show (0 : Int) ≤ 0 by omega), cond_true, hg, Option.bind_some, dgI hm]
      rw [decide_eq_true (show (List.length (ofStr s) + List.length [48 + m]) * (1 : Nat) ≤ (140737488355328 : Nat) ∧ List.length (ofStr s) + List.length [48 + m] ≤ (9223372036854775807 : Nat) by
          simp only [List.length_cons, List.length_nil, ofStr, List.length_map]; omega), cond_true, i64_in _ (by omega)]
      exact hL
    · rw [bytes_append, bytes_append, bytes_ofStr, bytes_dg hm, List.drop_succ_cons, List.drop_zero, bytes_com l (by rw [List.all_cons, Bool.and_eq_true] at ho; exact ho.2)]
      unfold schS
      rw [he, cond_false, List.map_cons, Lib.join_cons, List.append_assoc]

theorem lens8 (s : List UInt8) (hs : s.length ≤ 1000) : decide (s.length ≤ (140737488355328 : Nat) ∧ s.length ≤ (9223372036854775807 : Nat)) = true := decide_eq_true (by omega)

theorem refLine1 {f : Finding} (h : rightS f = true) : racetreeref25_line f = some (lineS f) := by
  obtain ⟨ht, hl, hs, hk⟩ := rightS_parts h
  rw [racetreeref25_line, sealF_eq]
  unfold racetreeref25_line_f
  rw [digit1 ht, Option.bind_some]
  rcases kind_cases hk with ⟨e1, e2, e3⟩ | ⟨e1, e2, e3⟩ | ⟨e1, e2, e3⟩ | ⟨e1, e2, e3, _⟩
  · rw [e1]
    simp only [BEq.rfl, cond_true]
    cases he : ((f.schedule.length : Int) == 0) with
    | true =>
      simp only [List.length_append, List.length_cons, List.length_nil, Nat.reduceAdd, Nat.reduceLeDiff, decide_true, cond_true]
      unfold lineS wordsS schS
      rw [he, e1]
      simp [Lib.join_cons, Lib.joinTail]
    | false =>
      obtain ⟨y, hy1, hy2⟩ := tail1 f.schedule 1 f.thread f.other f.what ([97, 115, 115, 101, 114, 116, 32] ++ [dg f.thread] ++ [32, 98, 121, 32]) hl hs (by simp) he
      rw [hy1, Option.bind_some, hy2]
      simp only [List.length_append, List.length_cons, List.length_nil, Nat.reduceAdd, Nat.reduceLeDiff, decide_true, cond_true, and_self, cond_false]
      unfold lineS wordsS
      rw [e1]
      simp [Lib.join_cons, Lib.joinTail]
  · rw [e1]
    simp only [BEq.rfl, cond_true, show ((2 : Int) == 1) = false from rfl, cond_false, mis1, Option.bind_some]
    have hm : (missS f.what).length ≤ 6 := by
      unfold missS
      cases f.what == 2 <;> cases f.what == 3 <;> decide
    have c : ∀ k, k ≤ 1000 → decide (k ≤ (9223372036854775807 : Nat)) = true := fun k hk => decide_eq_true (by omega)
    simp only [List.length_append, List.length_cons, List.length_nil, Nat.reduceAdd, Nat.reduceLeDiff, decide_true, cond_true]
    rw [c _ (by omega), cond_true, decide_eq_true (show 9 + (missS f.what).length ≤ 9223372036854775803 by omega), cond_true]
    cases he : ((f.schedule.length : Int) == 0) with
    | true =>
      rw [cond_true, decide_eq_true (show 9 + (missS f.what).length ≤ 9223372036854775802 by omega), cond_true]
      unfold lineS wordsS schS
      rw [he, e1]
      simp [Lib.join_cons, Lib.joinTail]
    | false =>
      obtain ⟨y, hy1, hy2⟩ := tail1 f.schedule 2 f.thread f.other f.what ([109, 105, 115, 117, 115, 101, 32] ++ [dg f.thread] ++ [32] ++ missS f.what ++ [32, 98, 121, 32]) hl hs (by simp only [List.length_append, List.length_cons, List.length_nil]; omega) he
      rw [hy1, Option.bind_some, hy2, cond_false, decide_eq_true (show 9 + (missS f.what).length ≤ 140737488355324 ∧ 9 + (missS f.what).length ≤ 9223372036854775803 by omega), cond_true]
      unfold lineS wordsS
      rw [e1]
      simp [Lib.join_cons, Lib.joinTail]
  · rw [e1]
    simp only [BEq.rfl, cond_true, show ((3 : Int) == 1) = false from rfl, show ((3 : Int) == 2) = false from rfl, cond_false]
    cases he : ((f.schedule.length : Int) == 0) with
    | true =>
      simp only [List.length_append, List.length_cons, List.length_nil, Nat.reduceAdd, Nat.reduceLeDiff, decide_true, cond_true]
      unfold lineS wordsS schS
      rw [he, e1]
      simp [Lib.join_cons, Lib.joinTail]
    | false =>
      obtain ⟨y, hy1, hy2⟩ := tail1 f.schedule 3 f.thread f.other f.what ([100, 101, 97, 100, 108, 111, 99, 107, 32] ++ [dg f.thread] ++ [32, 98, 121, 32]) hl hs (by simp) he
      rw [hy1, Option.bind_some, hy2]
      simp only [List.length_append, List.length_cons, List.length_nil, Nat.reduceAdd, Nat.reduceLeDiff, decide_true, cond_true, and_self, cond_false]
      unfold lineS wordsS
      rw [e1]
      simp [Lib.join_cons, Lib.joinTail]
  · rw [e1, digit1 e2, digit1 e3]
    simp only [BEq.rfl, cond_true, show ((4 : Int) == 1) = false from rfl, show ((4 : Int) == 2) = false from rfl, show ((4 : Int) == 3) = false from rfl, cond_false, Option.bind_some]
    cases he : ((f.schedule.length : Int) == 0) with
    | true =>
      simp only [List.length_append, List.length_cons, List.length_nil, Nat.reduceAdd, Nat.reduceLeDiff, decide_true, cond_true]
      unfold lineS wordsS schS
      rw [he, e1]
      simp [Lib.join_cons, Lib.joinTail]
    | false =>
      obtain ⟨y, hy1, hy2⟩ := tail1 f.schedule 4 f.thread f.other f.what ([114, 97, 99, 101, 32] ++ [dg f.thread] ++ [32] ++ [dg f.other] ++ [32] ++ [dg f.what] ++ [32, 98, 121, 32]) hl hs (by simp) he
      rw [hy1, Option.bind_some, hy2]
      simp only [List.length_append, List.length_cons, List.length_nil, Nat.reduceAdd, Nat.reduceLeDiff, decide_true, cond_true, and_self, cond_false]
      unfold lineS wordsS
      rw [e1]
      simp [Lib.join_cons, Lib.joinTail]
end Lift.A1P

/- Layer 25: Print. -/
namespace Lift.A1P
open Go Go.RowKit Lift Go.IntWalk Lift.Fn

theorem print_1 (f : Finding) : report_Print_1 f = some (!rightS f) := by
  rw [report_Print_1, sealF_eq]
  unfold report_Print_1_f
  rw [show Finding.mk f.kind f.thread f.other f.what f.schedule = f from rfl, right1]
  rfl

theorem index2 (l : List Finding) (hl : l.length ≤ 4611686018427387904) : ∀ (k n i : Nat), l.length - i ≤ k → k < n → i ≤ l.length →
    (∃ j : Int, slices_IndexFunc_api_Finding_api_Finding_i2 n l (l.length : Int) (i : Int) = some (.inl j) ∧ 0 ≤ j ∧ (l.drop i).all rightS = false) ∨
    (slices_IndexFunc_api_Finding_api_Finding_i2 n l (l.length : Int) (i : Int) = some (.inr ()) ∧ (l.drop i).all rightS = true) := by
  intro k
  induction k with
  | zero =>
    intro n i hk hn hi
    cases n with
    | zero => omega
    | succ n =>
      right
      unfold slices_IndexFunc_api_Finding_api_Finding_i2 slices_IndexFunc_api_Finding_api_Finding_t2
      rw [decide_eq_false (by omega), cond_false, List.drop_eq_nil_of_le (by omega)]
      exact ⟨rfl, rfl⟩
  | succ k ih =>
    intro n i hk hn hi
    cases n with
    | zero => omega
    | succ n =>
      unfold slices_IndexFunc_api_Finding_api_Finding_i2 slices_IndexFunc_api_Finding_api_Finding_t2
      by_cases h : i < l.length
      · have hg : l[Int.toNat (i : Int)]? = some l[i] := by rw [Int.toNat_natCast]; exact List.getElem?_eq_getElem h
        rw [decide_eq_true (by omega), cond_true, decide_eq_true (by omega), cond_true, hg, Option.bind_some, print_1, Option.bind_some, drop_at h, List.all_cons]
        cases ho : rightS l[i] with
        | false => left; exact ⟨_, rfl, by omega, rfl⟩
        | true =>
          rw [Bool.not_true, cond_false, i64_in _ (by omega), Bool.true_and]
          exact ih n (i + 1) (by omega) (by omega) (by omega)
      · right
        rw [decide_eq_false (by omega), cond_false, List.drop_eq_nil_of_le (by omega)]
        exact ⟨rfl, rfl⟩

theorem contains2 (l : List Finding) (hl : l.length ≤ 1000000000000000) : slices_ContainsFunc_api_Finding_api_Finding l = some (!l.all rightS) := by
  rw [slices_ContainsFunc_api_Finding_api_Finding, sealF_eq]
  unfold slices_ContainsFunc_api_Finding_api_Finding_f
  rw [slices_IndexFunc_api_Finding_api_Finding, sealF_eq]
  unfold slices_IndexFunc_api_Finding_api_Finding_f
  rw [slices_IndexFunc_api_Finding_api_Finding_l2, sealF_eq]
  rcases index2 l (by omega) l.length fuel 0 (by omega) (by unfold fuel; omega) (by omega) with ⟨j, h1, h2, h3⟩ | ⟨h1, h3⟩
  · rw [show ((0 : Nat) : Int) = 0 from rfl] at h1
    rw [List.drop_zero] at h3
    rw [h1, Option.bind_some, h3]
    simp only [Option.bind_some]
    rw [decide_eq_true (show j ≥ 0 from h2)]
    rfl
  · rw [show ((0 : Nat) : Int) = 0 from rfl] at h1
    rw [List.drop_zero] at h3
    rw [h1, Option.bind_some, h3]
    rfl

/-- The lines, one behind the other; or too much of them. -/
def prS : List Finding → List Int → (List UInt8 × Int) ⊕ List Int
  | [], acc => .inr acc
  | f :: l, acc => bif decide (((acc ++ ofStr (lineS f) ++ [10]).length : Int) > 40000) then .inl ([], 251) else prS l (acc ++ ofStr (lineS f) ++ [10])

def printS (l : List Finding) : List UInt8 × Int := bif l.all rightS then (match prS l [] with | .inl x => x | .inr a => (bytesOf a, 0)) else ([], 1)

theorem ofStr_len (s : List UInt8) : (ofStr s).length = s.length := by simp [ofStr]

theorem wstr1 (s : List UInt8) (a : List Int) (h : a.length + s.length ≤ 1000000) : strings_Builder_WriteString s a = some ((s.length : Int), false, a ++ ofStr s) := by
  rw [strings_Builder_WriteString, sealF_eq]
  unfold strings_Builder_WriteString_f
  rw [decide_eq_true (by omega)]
  rfl

theorem wbyte1 (b : Int) (a : List Int) (h : a.length ≤ 1000000) : strings_Builder_WriteByte b a = some (false, a ++ [b]) := by
  rw [strings_Builder_WriteByte, sealF_eq]
  unfold strings_Builder_WriteByte_f
  rw [decide_eq_true (by simp only [List.length_cons, List.length_nil]; omega)]
  rfl

theorem blen1 (a : List Int) : strings_Builder_Len a = some ((a.length : Int), a) := by
  rw [strings_Builder_Len, sealF_eq]
  rfl

theorem printLoop (l : List Finding) (hl : l.length ≤ 4611686018427387904) (hr : l.all rightS = true) : ∀ (k n i : Nat) (acc : List Int), l.length - i ≤ k → k < n → i ≤ l.length → acc.length ≤ 40000 →
    report_Print_i4 n l (l.length : Int) (i : Int) acc = some (prS (l.drop i) acc) := by
  intro k
  induction k with
  | zero =>
    intro n i acc hk hn hi ha
    cases n with
    | zero => omega
    | succ n =>
      unfold report_Print_i4 report_Print_t4
      rw [decide_eq_false (by omega), cond_false, List.drop_eq_nil_of_le (by omega)]
      rfl
  | succ k ih =>
    intro n i acc hk hn hi ha
    cases n with
    | zero => omega
    | succ n =>
      unfold report_Print_i4 report_Print_t4
      by_cases h : i < l.length
      · have hg : l[Int.toNat (i : Int)]? = some l[i] := by rw [Int.toNat_natCast]; exact List.getElem?_eq_getElem h
        have hi1 : rightS l[i] = true := List.all_eq_true.1 hr _ (List.getElem_mem h)
        have hlen := (words_len l[i] (rightS_parts hi1).2.1).1
        have ol := ofStr_len (lineS l[i])
        rw [decide_eq_true (by omega), cond_true, decide_eq_true (by omega), cond_true, hg, Option.bind_some]
        rw [show ∀ f : Finding, Finding.mk f.kind f.thread f.other f.what f.schedule = f from fun _ => rfl, line1 hi1, Option.bind_some, wstr1 _ _ (by omega), Option.bind_some]
        simp only
        rw [wbyte1 _ _ (by rw [List.length_append]; omega), Option.bind_some]
        simp only
        rw [blen1, Option.bind_some, drop_at h]
        unfold prS
        simp only
        cases hc : decide (((acc ++ ofStr (lineS l[i]) ++ [10]).length : Int) > 40000) with
        | true => rfl
        | false =>
          rw [cond_false, cond_false, i64_in _ (by omega)]
          have := of_decide_eq_false hc
          exact ih n (i + 1) _ (by omega) (by omega) (by omega) (by omega)
      · rw [decide_eq_false (by omega), cond_false, List.drop_eq_nil_of_le (by omega)]
        rfl

def byteOk (a : List Int) : Prop := ∀ n ∈ a, 0 ≤ n ∧ n < 256

theorem byteOk_ofStr (s : List UInt8) : byteOk (ofStr s) := by
  intro n hn
  unfold ofStr at hn
  obtain ⟨b, _, rfl⟩ := List.mem_map.1 hn
  have := b.toNat_lt
  omega

theorem prS_ok : ∀ (l : List Finding) (acc : List Int), byteOk acc → ∀ a, prS l acc = .inr a → byteOk a
  | [], acc, h, a, e => by cases e; exact h
  | f :: l, acc, h, a, e => by
    unfold prS at e
    cases hc : decide (((acc ++ ofStr (lineS f) ++ [10]).length : Int) > 40000) with
    | true => rw [hc] at e; cases e
    | false =>
      rw [hc, cond_false] at e
      refine prS_ok l _ ?_ a e
      intro n hn
      rcases List.mem_append.1 hn with hn | hn
      · rcases List.mem_append.1 hn with hn | hn
        · exact h n hn
        · exact byteOk_ofStr _ n hn
      · simp at hn; omega

theorem bstr1 (a : List Int) (h : byteOk a) : strings_Builder_String a = some (bytesOf a) := by
  rw [strings_Builder_String, sealF_eq]
  unfold strings_Builder_String_f
  rw [List.all_eq_true.2 (fun n hn => decide_eq_true (h n hn)), cond_true]

theorem print1 (l : List Finding) (hl : l.length ≤ 1000000000000000) : report_Print l = some (printS l) := by
  rw [report_Print, sealF_eq]
  unfold report_Print_f printS
  rw [contains2 l hl, Option.bind_some]
  cases hr : l.all rightS with
  | false => rfl
  | true =>
    have hL := printLoop l (by omega) hr l.length fuel 0 [] (by omega) (by unfold fuel; omega) (by omega) (by simp)
    rw [show ((0 : Nat) : Int) = 0 from rfl, List.drop_zero] at hL
    rw [Bool.not_true, Bool.not_false, cond_true, cond_true, report_Print_l4, sealF_eq, hL, Option.bind_some]
    cases hp : prS l [] with
    | inl x => rfl
    | inr a =>
      simp only
      rw [bstr1 a (prS_ok l [] (fun _ h => by cases h) a hp), Option.bind_some]

theorem refAll (l : List Finding) (hl : l.length ≤ 4611686018427387904) : ∀ (k n i : Nat), l.length - i ≤ k → k < n → i ≤ l.length →
    racetreeref25_Print_i2 n l (i : Int) = some (bif (l.drop i).all rightS then .inr l else .inl ([], 1)) := by
  intro k
  induction k with
  | zero =>
    intro n i hk hn hi
    cases n with
    | zero => omega
    | succ n =>
      unfold racetreeref25_Print_i2 racetreeref25_Print_t2
      rw [decide_eq_false (by omega), cond_false, List.drop_eq_nil_of_le (by omega)]
      rfl
  | succ k ih =>
    intro n i hk hn hi
    cases n with
    | zero => omega
    | succ n =>
      unfold racetreeref25_Print_i2 racetreeref25_Print_t2
      by_cases h : i < l.length
      · have hg : l[Int.toNat (i : Int)]? = some l[i] := by rw [Int.toNat_natCast]; exact List.getElem?_eq_getElem h
        rw [decide_eq_true (by omega), cond_true, decide_eq_true (by omega), cond_true, hg, Option.bind_some, refRight, Option.bind_some, drop_at h, List.all_cons]
        cases ho : rightS l[i] with
        | false => rfl
        | true =>
          rw [Bool.not_true, cond_false, i64_in _ (by omega), Bool.true_and]
          exact ih n (i + 1) (by omega) (by omega) (by omega)
      · rw [decide_eq_false (by omega), cond_false, List.drop_eq_nil_of_le (by omega)]
        rfl

theorem refPrLoop (l : List Finding) (hl : l.length ≤ 4611686018427387904) (hr : l.all rightS = true) : ∀ (k n i : Nat) (acc : List Int), l.length - i ≤ k → k < n → i ≤ l.length → acc.length ≤ 40000 →
    racetreeref25_Print_i9 n l (i : Int) acc = some (prS (l.drop i) acc) := by
  intro k
  induction k with
  | zero =>
    intro n i acc hk hn hi ha
    cases n with
    | zero => omega
    | succ n =>
      unfold racetreeref25_Print_i9 racetreeref25_Print_t9
      rw [decide_eq_false (by omega), cond_false, List.drop_eq_nil_of_le (by omega)]
      rfl
  | succ k ih =>
    intro n i acc hk hn hi ha
    cases n with
    | zero => omega
    | succ n =>
      unfold racetreeref25_Print_i9 racetreeref25_Print_t9
      by_cases h : i < l.length
      · have hg : l[Int.toNat (i : Int)]? = some l[i] := by rw [Int.toNat_natCast]; exact List.getElem?_eq_getElem h
        have hi1 : rightS l[i] = true := List.all_eq_true.1 hr _ (List.getElem_mem h)
        have hlen := (words_len l[i] (rightS_parts hi1).2.1).1
        have ol := ofStr_len (lineS l[i])
        rw [decide_eq_true (show (i : Int) < l.length by omega), cond_true, decide_eq_true (show (0 : Int) ≤ (i : Int) by omega), cond_true, hg, Option.bind_some, refLine1 hi1, Option.bind_some, drop_at h,
          decide_eq_true (show acc.length + (lineS l[i]).length ≤ 140737488355328 ∧ acc.length + (lineS l[i]).length ≤ 9223372036854775807 by omega), cond_true,
          decide_eq_true (show ((acc ++ ofStr (lineS l[i])).length + 1) * 1 ≤ 140737488355328 ∧ (acc ++ ofStr (lineS l[i])).length + 1 ≤ 9223372036854775807 by rw [List.length_append]; omega), cond_true]
        unfold prS
        cases hc : decide (((acc ++ ofStr (lineS l[i]) ++ [10]).length : Int) > 40000) with
        | true => rfl
        | false =>
          rw [cond_false, cond_false, i64_in _ (by omega)]
          have := of_decide_eq_false hc
          exact ih n (i + 1) _ (by omega) (by omega) (by omega) (by omega)
      · rw [decide_eq_false (by omega), cond_false, List.drop_eq_nil_of_le (by omega)]
        rfl

theorem refPrint1 (l : List Finding) (hl : l.length ≤ 1000000000000000) : racetreeref25_Print l = some (printS l) := by
  have hA := refAll l (by omega) l.length fuel 0 (by omega) (by unfold fuel; omega) (by omega)
  rw [show ((0 : Nat) : Int) = 0 from rfl, List.drop_zero] at hA
  rw [racetreeref25_Print, sealF_eq]
  unfold racetreeref25_Print_f printS
  rw [racetreeref25_Print_l2, sealF_eq, hA, Option.bind_some]
  cases hr : l.all rightS with
  | false => rfl
  | true =>
    have hL := refPrLoop l (by omega) hr l.length fuel 0 [] (by omega) (by unfold fuel; omega) (by omega) (by simp)
    rw [show ((0 : Nat) : Int) = 0 from rfl, List.drop_zero] at hL
    simp only [cond_true]
    rw [racetreeref25_Print_l9, sealF_eq, hL, Option.bind_some]
    cases hp : prS l [] with
    | inl x => rfl
    | inr a => rfl

theorem awake1 : racetreelaw25_awake = some true := by
  rw [racetreelaw25_awake, sealF_eq]
  unfold racetreelaw25_awake_f
  rw [print1 _ (by simp), Option.bind_some]
  have : printS [Finding.mk (1 : Int) (0 : Int) (0 : Int) (0 : Int) []] = ([97, 115, 115, 101, 114, 116, 32, 48, 32, 98, 121, 32, 45, 10], 0) := by decide +kernel
  rw [this]
  rfl

theorem reportPrints1 (l : List Finding) (hl : l.length ≤ 1000000000000000) : racetreelaw25_ReportPrints l = some true := by
  rw [racetreelaw25_ReportPrints, sealF_eq]
  unfold racetreelaw25_ReportPrints_f
  rw [awake1, print1 l hl, refPrint1 l hl]
  simp only [Option.bind_some, cond_true, BEq.rfl]
end Lift.A1P

/- Layer 25: a finding in words. -/
namespace Lift.A1P
open Go Go.RowKit Lift Go.IntWalk Lift.Fn

def pick (l : List (List UInt8)) (n : Int) : List UInt8 := (l[n.toNat]?).getD []

def lineN (f : Finding) (n : Names) : List UInt8 × Int :=
  bif rightS f then
    bif decide (f.thread ≥ (n.threads.length : Int)) then ([], 1) else
    bif f.kind == 4 then
      bif decide (f.other ≥ (n.threads.length : Int)) then ([], 1) else
      bif decide (f.what ≥ (n.cells.length : Int)) then ([], 1) else
      ([116, 104, 114, 101, 97, 100, 115, 32] ++ (pick n.threads f.thread ++ ([32, 97, 110, 100, 32] ++ (pick n.threads f.other ++ ([58, 32, 114, 97, 99, 101, 32, 102, 111, 114, 32, 116, 104, 101, 32, 99, 101, 108, 108, 32] ++ pick n.cells f.what)))), 0)
    else
    bif f.kind == 1 then ([116, 104, 114, 101, 97, 100, 32] ++ (pick n.threads f.thread ++ [58, 32, 97, 110, 32, 97, 115, 115, 101, 114, 116, 32, 102, 97, 105, 108, 115]), 0) else
    bif f.kind == 3 then ([116, 104, 114, 101, 97, 100, 32] ++ (pick n.threads f.thread ++ [58, 32, 119, 97, 105, 116, 115, 32, 102, 111, 114, 32, 101, 118, 101, 114]), 0) else
    bif f.what == 2 then ([116, 104, 114, 101, 97, 100, 32] ++ (pick n.threads f.thread ++ [58, 32, 117, 110, 108, 111, 99, 107, 115, 32, 97, 32, 109, 117, 116, 101, 120, 32, 116, 104, 97, 116, 32, 105, 116, 32, 100, 111, 101, 115, 32, 110, 111, 116, 32, 111, 119, 110]), 0) else
    bif f.what == 3 then ([116, 104, 114, 101, 97, 100, 32] ++ (pick n.threads f.thread ++ [58, 32, 106, 111, 105, 110, 115, 32, 97, 32, 116, 104, 114, 101, 97, 100, 32, 116, 104, 97, 116, 32, 119, 97, 115, 32, 110, 111, 116, 32, 115, 116, 97, 114, 116, 101, 100]), 0) else
    ([116, 104, 114, 101, 97, 100, 32] ++ (pick n.threads f.thread ++ [58, 32, 115, 116, 97, 114, 116, 115, 32, 97, 32, 116, 104, 114, 101, 97, 100, 32, 116, 104, 97, 116, 32, 119, 97, 115, 32, 115, 116, 97, 114, 116, 101, 100]), 0)
  else ([], 1)

theorem bif_dec {p : Prop} [Decidable p] {α : Type} {a b : α} (h : p) : (bif decide p then a else b) = a := by rw [decide_eq_true h, cond_true]

def smallN (n : Names) : Prop := (∀ s ∈ n.threads, s.length ≤ 1048576) ∧ ∀ s ∈ n.cells, s.length ≤ 1048576

theorem pick_at {l : List (List UInt8)} {n : Int} (h0 : 0 ≤ n) (h : ¬ n ≥ (l.length : Int)) (hs : ∀ s ∈ l, s.length ≤ 1048576) : l[Int.toNat n]? = some (pick l n) ∧ (pick l n).length ≤ 1048576 := by
  have hlt : n.toNat < l.length := by omega
  have e : l[Int.toNat n]? = some l[n.toNat] := List.getElem?_eq_getElem hlt
  unfold pick
  rw [e]
  exact ⟨rfl, hs _ (List.getElem_mem hlt)⟩

theorem named1 (l : List (List UInt8)) {n : Int} (h0 : 0 ≤ n) (hs : ∀ s ∈ l, s.length ≤ 1048576) : report_named l n = some (bif decide (n ≥ (l.length : Int)) then ([], false) else (pick l n, true)) := by
  rw [report_named, sealF_eq]
  unfold report_named_f
  by_cases h : n ≥ (l.length : Int)
  · rw [decide_eq_true h]; rfl
  · rw [decide_eq_false h, cond_false, cond_false, decide_eq_true h0, cond_true, (pick_at h0 h hs).1, Option.bind_some]

theorem nameLine (f : Finding) (n : Names) (hs : smallN n) : report_Line f n = some (lineN f n) := by
  rw [report_Line, sealF_eq]
  unfold report_Line_f
  rw [show Finding.mk f.kind f.thread f.other f.what f.schedule = f from rfl, right1, Option.bind_some]
  unfold lineN
  cases hr : rightS f with
  | false => rfl
  | true =>
    obtain ⟨ht, _, _, hk⟩ := rightS_parts hr
    have h0 := (okN_mem ht).1
    rw [Bool.not_true, cond_false, cond_true, named1 _ h0 hs.1, Option.bind_some]
    by_cases h : f.thread ≥ (n.threads.length : Int)
    · rw [decide_eq_true h]; rfl
    · obtain ⟨hp, hp2⟩ := pick_at h0 h hs.1
      rw [decide_eq_false h, cond_false, cond_false]
      simp only [Bool.not_true, cond_false]
      rcases kind_cases hk with ⟨e1, e2, e3⟩ | ⟨e1, e2, e3⟩ | ⟨e1, e2, e3⟩ | ⟨e1, e2, e3, _⟩
      · rw [e1]
        simp only [BEq.rfl, cond_true, show ((1 : Int) == 4) = false from rfl, cond_false]
        refine Eq.trans (bif_dec (by omega)) ?_
        refine Eq.trans (bif_dec (by simp only [List.length_append, List.length_cons, List.length_nil]; omega)) ?_
        simp only [List.append_assoc]
      · rw [e1]
        simp only [show ((2 : Int) == 1) = false from rfl, show ((2 : Int) == 3) = false from rfl, show ((2 : Int) == 4) = false from rfl, cond_false]
        cases f.what == 2 with
        | true =>
          simp only [cond_true]
          refine Eq.trans (bif_dec (by omega)) ?_
          refine Eq.trans (bif_dec (by simp only [List.length_append, List.length_cons, List.length_nil]; omega)) ?_
          simp only [List.append_assoc]
        | false =>
          cases f.what == 3 with
          | true =>
            simp only [cond_true, cond_false]
            refine Eq.trans (bif_dec (by omega)) ?_
            refine Eq.trans (bif_dec (by simp only [List.length_append, List.length_cons, List.length_nil]; omega)) ?_
            simp only [List.append_assoc]
          | false =>
            simp only [cond_false]
            refine Eq.trans (bif_dec (by omega)) ?_
            refine Eq.trans (bif_dec (by simp only [List.length_append, List.length_cons, List.length_nil]; omega)) ?_
            simp only [List.append_assoc]
      · rw [e1]
        simp only [BEq.rfl, cond_true, show ((3 : Int) == 1) = false from rfl, show ((3 : Int) == 4) = false from rfl, cond_false]
        refine Eq.trans (bif_dec (by omega)) ?_
        refine Eq.trans (bif_dec (by simp only [List.length_append, List.length_cons, List.length_nil]; omega)) ?_
        simp only [List.append_assoc]
      · have ho := (okN_mem e2).1
        have hw := (okN_mem e3).1
        rw [e1, named1 _ ho hs.1, named1 _ hw hs.2]
        simp only [BEq.rfl, cond_true, show ((4 : Int) == 1) = false from rfl, show ((4 : Int) == 3) = false from rfl, cond_false, Option.bind_some]
        by_cases h2 : f.other ≥ (n.threads.length : Int)
        · rw [decide_eq_true h2]; rfl
        · obtain ⟨hq, hq2⟩ := pick_at ho h2 hs.1
          rw [decide_eq_false h2, cond_false, cond_false]
          simp only [Bool.not_true, cond_false]
          by_cases h3 : f.what ≥ (n.cells.length : Int)
          · rw [decide_eq_true h3]; rfl
          · obtain ⟨hu, hu2⟩ := pick_at hw h3 hs.2
            rw [decide_eq_false h3, cond_false, cond_false]
            simp only [Bool.not_true, cond_false]
            refine Eq.trans (bif_dec (by omega)) ?_
            iterate 4 (refine Eq.trans (bif_dec (by simp only [List.length_append, List.length_cons, List.length_nil]; omega)) ?_)
            simp only [List.append_assoc]

theorem nameRef (f : Finding) (n : Names) (hs : smallN n) : racetreeref25_Line f n = some (lineN f n) := by
  rw [racetreeref25_Line, sealF_eq]
  unfold racetreeref25_Line_f
  rw [show Finding.mk f.kind f.thread f.other f.what f.schedule = f from rfl, refRight, Option.bind_some]
  unfold lineN
  cases hr : rightS f with
  | false => rfl
  | true =>
    obtain ⟨ht, _, _, hk⟩ := rightS_parts hr
    have h0 := (okN_mem ht).1
    rw [Bool.not_true, cond_false, cond_true]
    by_cases h : f.thread ≥ (n.threads.length : Int)
    · rw [decide_eq_true h]; rfl
    · obtain ⟨hp, hp2⟩ := pick_at h0 h hs.1
      have d0 : decide ((0 : Int) ≤ f.thread) = true := decide_eq_true h0
      rw [decide_eq_false h, cond_false, cond_false, d0, hp]
      rcases kind_cases hk with ⟨e1, e2, e3⟩ | ⟨e1, e2, e3⟩ | ⟨e1, e2, e3⟩ | ⟨e1, e2, e3, _⟩
      · rw [e1]
        simp only [BEq.rfl, cond_true, show ((1 : Int) == 4) = false from rfl, cond_false, Option.bind_some]
        refine Eq.trans (bif_dec (by omega)) ?_
        iterate 2 (refine Eq.trans (bif_dec (by simp only [List.length_append, List.length_cons, List.length_nil]; omega)) ?_)
        simp only [List.append_assoc, List.cons_append, List.nil_append]
      · rw [e1]
        simp only [show ((2 : Int) == 1) = false from rfl, show ((2 : Int) == 3) = false from rfl, show ((2 : Int) == 4) = false from rfl, cond_false, cond_true, Option.bind_some]
        refine Eq.trans (bif_dec (by omega)) ?_
        refine Eq.trans (bif_dec (by simp only [List.length_append, List.length_cons, List.length_nil]; omega)) ?_
        cases f.what == 2 with
        | true =>
          simp only [cond_true]
          refine Eq.trans (bif_dec (by simp only [List.length_append, List.length_cons, List.length_nil]; omega)) ?_
          simp only [List.append_assoc, List.cons_append, List.nil_append]
        | false =>
          cases f.what == 3 with
          | true =>
            simp only [cond_true, cond_false]
            refine Eq.trans (bif_dec (by simp only [List.length_append, List.length_cons, List.length_nil]; omega)) ?_
            simp only [List.append_assoc, List.cons_append, List.nil_append]
          | false =>
            simp only [cond_false]
            refine Eq.trans (bif_dec (by simp only [List.length_append, List.length_cons, List.length_nil]; omega)) ?_
            simp only [List.append_assoc, List.cons_append, List.nil_append]
      · rw [e1]
        simp only [BEq.rfl, cond_true, show ((3 : Int) == 1) = false from rfl, show ((3 : Int) == 4) = false from rfl, cond_false, Option.bind_some]
        refine Eq.trans (bif_dec (by omega)) ?_
        iterate 2 (refine Eq.trans (bif_dec (by simp only [List.length_append, List.length_cons, List.length_nil]; omega)) ?_)
        simp only [List.append_assoc, List.cons_append, List.nil_append]
      · have ho := (okN_mem e2).1
        have hw := (okN_mem e3).1
        rw [e1]
        simp only [BEq.rfl, cond_true, show ((4 : Int) == 1) = false from rfl, show ((4 : Int) == 3) = false from rfl, cond_false, Option.bind_some]
        by_cases h2 : f.other ≥ (n.threads.length : Int)
        · rw [decide_eq_true h2]; rfl
        · obtain ⟨hq, hq2⟩ := pick_at ho h2 hs.1
          rw [decide_eq_false h2, cond_false, cond_false]
          by_cases h3 : f.what ≥ (n.cells.length : Int)
          · rw [decide_eq_true h3]; rfl
          · obtain ⟨hu, hu2⟩ := pick_at hw h3 hs.2
            rw [decide_eq_false h3, cond_false, cond_false, hq, hu]
            simp only [Option.bind_some]
            refine Eq.trans (bif_dec (by omega)) ?_
            refine Eq.trans (bif_dec (by simp only [List.length_append, List.length_cons, List.length_nil]; omega)) ?_
            refine Eq.trans (bif_dec (by omega)) ?_
            refine Eq.trans (bif_dec (by simp only [List.length_append, List.length_cons, List.length_nil]; omega)) ?_
            refine Eq.trans (bif_dec (by omega)) ?_
            iterate 2 (refine Eq.trans (bif_dec (by simp only [List.length_append, List.length_cons, List.length_nil]; omega)) ?_)
            refine Eq.trans (bif_dec (by omega)) ?_
            refine Eq.trans (bif_dec (by simp only [List.length_append, List.length_cons, List.length_nil]; omega)) ?_
            simp only [List.append_assoc]

theorem reportLines1 (f : Finding) (n : Names) (hs : smallN n) : racetreelaw25_ReportLines f n = some true := by
  rw [racetreelaw25_ReportLines, sealF_eq]
  unfold racetreelaw25_ReportLines_f
  rw [show Finding.mk f.kind f.thread f.other f.what f.schedule = f from rfl, show Names.mk n.cells n.mutexes n.threads n.regs = n from rfl, awake1, nameLine f n hs, nameRef f n hs]
  simp only [Option.bind_some, cond_true, BEq.rfl]
end Lift.A1P

/- Names that are not too long. -/
namespace Lift.A1P
open Go Go.RowKit Lift Lift.Fn

theorem names_small {n : Names} (h : Sized Lift.D2.kk.u ⟨.st 34, n⟩ 1048576) : smallN n := by
  have h1 := h.st_inv
  have hm : ∀ (l : List (List UInt8)), (⟨.slc .str, l⟩ : TV Lift.D2.kk.u.U) ∈ Lift.D2.kk.u.cells 34 n → ∀ s ∈ l, s.length ≤ 1048576 := by
    intro l hl s hs
    obtain ⟨b, hb, h2⟩ := h1.mem hl
    obtain ⟨c, hc, h3⟩ := h2.slc_mem hs
    have := h3.str_inv
    omega
  exact ⟨hm n.threads (.tail _ (.tail _ (.head _))), hm n.cells (.head _)⟩
end Lift.A1P

