/-
  DERIVED. The Lean functions answer as the laws say. Conditions: as each theorem says.
-/
import Derived.Test.YthbhphfmnlchoaaGreatDoorWalk
import Derived.IntWalk
set_option linter.unusedVariables false
set_option linter.unusedSimpArgs false
set_option linter.unusedSectionVars false
namespace Lift.A3
open Go Go.RowKit Lift Go.IntWalk Lift.Fn
set_option linter.unusedVariables false
set_option linter.unusedSimpArgs false
theorem loop_fold {α σ : Type} (l : List α) (body : α → σ → Option σ) (L : Nat → Int → σ → Option σ)
    (h0 : ∀ n i s, 0 ≤ i → ¬ i < (l.length : Int) → L (n + 1) i s = some s)
    (h1 : ∀ n i s (x : α), 0 ≤ i → i < (l.length : Int) → l[i.toNat]? = some x → L (n + 1) i s = (body x s).bind fun s' => L n (i + 1) s') :
    ∀ (k n : Nat) (i : Int) (s : σ), 0 ≤ i → l.length - i.toNat ≤ k → k < n → L n i s = (l.drop i.toNat).foldlM (fun s x => body x s) s := by
  intro k
  induction k with
  | zero =>
    intro n i s hi hk hn
    obtain ⟨n, rfl⟩ : ∃ q, n = q + 1 := ⟨n - 1, by omega⟩
    rw [h0 n i s hi (by omega), List.drop_eq_nil_of_le (by omega)]
    rfl
  | succ k ih =>
    intro n i s hi hk hn
    obtain ⟨n, rfl⟩ : ∃ q, n = q + 1 := ⟨n - 1, by omega⟩
    by_cases c : i < (l.length : Int)
    · have hlt : i.toNat < l.length := by omega
      rw [h1 n i s l[i.toNat] hi c (List.getElem?_eq_getElem hlt), List.drop_eq_getElem_cons hlt, List.foldlM_cons]
      congr 1
      funext s'
      rw [ih n (i + 1) s' (by omega) (by omega) (by omega)]
      congr 2
      omega
    · rw [h0 n i s hi c, List.drop_eq_nil_of_le (by omega)]
      rfl
inductive Ev where
  | s (x : TStmt) (d : Int)
  | e (x : TExpr) (d : Int)
mutual
def evE : TExpr → Int → List Ev
  | ⟨k, n, m, l⟩, d => .e ⟨k, n, m, l⟩ d :: evEs l (d + 1)
def evEs : List TExpr → Int → List Ev
  | [], _ => []
  | x :: l, d => evE x d ++ evEs l d
end
def thereB (x : TExpr) : Bool := (x.kind != 0) || decide (0 < x.args.length)
mutual
def evS : TStmt → Int → List Ev
  | ⟨k, r, m, x, c, t, o⟩, d => .s ⟨k, r, m, x, c, t, o⟩ d :: ((if thereB x then evE x 1 else []) ++ (evSs t (d + 1) ++ evSs o (d + 1)))
def evSs : List TStmt → Int → List Ev
  | [], _ => []
  | x :: l, d => evS x d ++ evSs l d
end
def evP (p : TProg) : List Ev := p.threads.flatMap fun t => evSs t.body 1
mutual
def nE : TExpr → Nat
  | ⟨_, _, _, l⟩ => 1 + nEs l
def nEs : List TExpr → Nat
  | [] => 0
  | x :: l => nE x + nEs l
end
mutual
def nS : TStmt → Nat
  | ⟨_, _, _, x, _, t, o⟩ => 1 + nE x + nSs t + nSs o
def nSs : List TStmt → Nat
  | [] => 0
  | x :: l => nS x + nSs l
end
def nT : List TThread → Nat
  | [] => 0
  | t :: l => 1 + nSs t.body + nT l
theorem nE_eq (x : TExpr) : nE x = 1 + nEs x.args := by cases x; simp [nE]
theorem nS_eq (x : TStmt) : nS x = 1 + nE x.expr + nSs x.then_ + nSs x.else_ := by cases x; simp [nS]
theorem evE_eq (x : TExpr) (d : Int) : evE x d = .e x d :: evEs x.args (d + 1) := by cases x; simp [evE]
theorem evS_eq (x : TStmt) (d : Int) : evS x d = .s x d :: ((if thereB x.expr then evE x.expr 1 else []) ++ (evSs x.then_ (d + 1) ++ evSs x.else_ (d + 1))) := by cases x; simp [evS]
theorem nEs_len : ∀ l : List TExpr, l.length ≤ nEs l
  | [] => by simp [nEs]
  | x :: l => by have := nEs_len l; have := nE_eq x; simp only [nEs, List.length_cons]; omega
theorem nSs_len : ∀ l : List TStmt, l.length ≤ nSs l
  | [] => by simp [nSs]
  | x :: l => by have := nSs_len l; have := nS_eq x; simp only [nSs, List.length_cons]; omega
theorem nT_len : ∀ l : List TThread, l.length ≤ nT l
  | [] => by simp [nT]
  | x :: l => by have := nT_len l; simp only [nT, List.length_cons]; omega
theorem nEs_mem : ∀ {l : List TExpr} {x : TExpr}, x ∈ l → nE x ≤ nEs l
  | y :: l, x, h => by
    simp only [nEs]
    cases h with
    | head => omega
    | tail _ h => have := nEs_mem h; omega
theorem nSs_mem : ∀ {l : List TStmt} {x : TStmt}, x ∈ l → nS x ≤ nSs l
  | y :: l, x, h => by
    simp only [nSs]
    cases h with
    | head => omega
    | tail _ h => have := nSs_mem h; omega
theorem nT_mem : ∀ {l : List TThread} {x : TThread}, x ∈ l → nSs x.body < nT l
  | y :: l, x, h => by
    simp only [nT]
    cases h with
    | head => omega
    | tail _ h => have := nT_mem h; omega
theorem evEs_flat : ∀ (l : List TExpr) (d : Int), evEs l d = l.flatMap fun x => evE x d
  | [], d => by simp [evEs]
  | x :: l, d => by simp [evEs, evEs_flat l d]
theorem evSs_flat : ∀ (l : List TStmt) (d : Int), evSs l d = l.flatMap fun x => evS x d
  | [], d => by simp [evSs]
  | x :: l, d => by simp [evSs, evSs_flat l d]
theorem foldlM_flat {α β σ : Type} (f : α → List β) (g : σ → β → Option σ) : ∀ (l : List α) (s : σ), (l.flatMap f).foldlM g s = l.foldlM (fun s x => (f x).foldlM g s) s
  | [], s => rfl
  | x :: l, s => by
    rw [List.flatMap_cons, List.foldlM_append, List.foldlM_cons]
    congr 1
    funext s'
    exact foldlM_flat f g l s'
theorem bind_pair {α β : Type} (o : Option (α × β)) : (o.bind fun y => some (y.1, y.2)) = o := by cases o <;> rfl
theorem mk_expr (x : TExpr) : TExpr.mk x.kind x.num x.name x.args = x := by cases x; rfl
theorem mk_stmt (x : TStmt) : TStmt.mk x.kind x.reg x.name (TExpr.mk x.expr.kind x.expr.num x.expr.name x.expr.args) x.count x.then_ x.else_ = x := by
  obtain ⟨k, r, n, ⟨_, _, _, _⟩, c, t, o⟩ := x
  rfl
theorem mk_stmt' (x : TStmt) : TStmt.mk x.kind x.reg x.name x.expr x.count x.then_ x.else_ = x := by cases x; rfl
theorem mk_prog (x : TProg) : TProg.mk x.cells x.mutexes x.threads = x := by cases x; rfl
def atEv {σ : Type} (g : TStmt → Int → σ → Option σ) (h : TExpr → Int → σ → Option σ) (s : σ) : Ev → Option σ
  | .s x d => g x d s
  | .e x d => h x d s
structure WalksE {σ : Type} (h : TExpr → Int → σ → Option σ) (F : Nat → TExpr → Int → σ → Option σ) : Prop where
  step : ∀ n x d s, (d : Int) + 1 ≤ 4611686018427387904 → -4611686018427387904 ≤ d → x.args.length ≤ 4611686018427387904 → F (n + 1) x d s = (h x d s).bind fun s' => x.args.foldlM (fun s y => F n y (d + 1) s) s'
theorem walksE {σ : Type} {g : TStmt → Int → σ → Option σ} {h : TExpr → Int → σ → Option σ} {F : Nat → TExpr → Int → σ → Option σ} (hW : WalksE h F) :
    ∀ (k n : Nat) (x : TExpr) (d : Int) (s : σ), nE x ≤ k → k < n → 0 ≤ d → d + k ≤ 1000000000000000000 → F n x d s = (evE x d).foldlM (atEv g h) s := by
  intro k
  induction k with
  | zero => intro n x d s hk; have := nE_eq x; omega
  | succ k ih =>
    intro n x d s hk hn h0 hd
    obtain ⟨n, rfl⟩ : ∃ q, n = q + 1 := ⟨n - 1, by omega⟩
    have hx := nE_eq x
    have hl := nEs_len x.args
    rw [hW.step n x d s (by omega) (by omega) (by omega), evE_eq, List.foldlM_cons]
    show _ = (h x d s).bind _
    congr 1
    funext s'
    rw [evEs_flat, foldlM_flat]
    have : ∀ (l : List TExpr) (s : σ), (∀ y ∈ l, nE y ≤ k) → l.foldlM (fun s y => F n y (d + 1) s) s = l.foldlM (fun s y => (evE y (d + 1)).foldlM (atEv g h) s) s := by
      intro l
      induction l with
      | nil => intro s _; rfl
      | cons y l ihl =>
        intro s hy
        rw [List.foldlM_cons, List.foldlM_cons, ih n y (d + 1) s (hy y (by simp)) (by omega) (by omega) (by omega)]
        congr 1
        funext s'
        exact ihl s' (fun z hz => hy z (by simp [hz]))
    exact this _ _ (fun y hy => by have := nEs_mem hy; omega)
structure WalksS {σ : Type} (g : TStmt → Int → σ → Option σ) (E : TExpr → Int → σ → Option σ) (F : Nat → List TStmt → Int → σ → Option σ) : Prop where
  step : ∀ n l d s, (d : Int) + 1 ≤ 4611686018427387904 → -4611686018427387904 ≤ d → l.length ≤ 4611686018427387904 → F (n + 1) l d s = l.foldlM (fun s x => (g x d s).bind fun s1 => (if thereB x.expr then E x.expr 1 s1 else some s1).bind fun s2 => (F n x.then_ (d + 1) s2).bind fun s3 => F n x.else_ (d + 1) s3) s
theorem walksS {σ : Type} {g : TStmt → Int → σ → Option σ} {h : TExpr → Int → σ → Option σ} {E : TExpr → Int → σ → Option σ} {F : Nat → List TStmt → Int → σ → Option σ}
    (hE : ∀ x s, nE x ≤ 100000000000000000 → E x 1 s = (evE x 1).foldlM (atEv g h) s) (hW : WalksS g E F) :
    ∀ (k n : Nat) (l : List TStmt) (d : Int) (s : σ), nSs l ≤ k → k < n → 0 ≤ d → d + k ≤ 100000000000000000 → F n l d s = (evSs l d).foldlM (atEv g h) s := by
  intro k
  induction k with
  | zero =>
    intro n l d s hk hn h0 hd
    obtain ⟨n, rfl⟩ : ∃ q, n = q + 1 := ⟨n - 1, by omega⟩
    have hl := nSs_len l
    obtain rfl : l = [] := List.eq_nil_of_length_eq_zero (by omega)
    rw [hW.step n [] d s (by omega) (by omega) (by simp)]
    simp [evSs]
  | succ k ih =>
    intro n l d s hk hn h0 hd
    obtain ⟨n, rfl⟩ : ∃ q, n = q + 1 := ⟨n - 1, by omega⟩
    have hl := nSs_len l
    rw [hW.step n l d s (by omega) (by omega) (by omega), evSs_flat, foldlM_flat]
    have : ∀ (l : List TStmt) (s : σ), (∀ y ∈ l, nS y ≤ k + 1) → l.foldlM (fun s x => (g x d s).bind fun s1 => (if thereB x.expr then E x.expr 1 s1 else some s1).bind fun s2 => (F n x.then_ (d + 1) s2).bind fun s3 => F n x.else_ (d + 1) s3) s =
        l.foldlM (fun s y => (evS y d).foldlM (atEv g h) s) s := by
      intro l
      induction l with
      | nil => intro s _; rfl
      | cons y l ihl =>
        intro s hy
        have hy1 := hy y (by simp)
        have hy2 := nS_eq y
        rw [List.foldlM_cons, List.foldlM_cons]
        have e : ∀ s, ((g y d s).bind fun s1 => (if thereB y.expr then E y.expr 1 s1 else some s1).bind fun s2 => (F n y.then_ (d + 1) s2).bind fun s3 => F n y.else_ (d + 1) s3) = (evS y d).foldlM (atEv g h) s := by
          intro s
          rw [evS_eq, List.foldlM_cons]
          show _ = (g y d s).bind _
          congr 1
          funext s1
          rw [List.foldlM_append]
          have e1 : (if thereB y.expr then E y.expr 1 s1 else some s1) = (if thereB y.expr then evE y.expr 1 else []).foldlM (atEv g h) s1 := by
            split
            · exact hE _ _ (by omega)
            · rfl
          rw [e1]
          congr 1
          funext s2
          rw [List.foldlM_append]
          rw [ih n y.then_ (d + 1) s2 (by omega) (by omega) (by omega) (by omega)]
          congr 1
          funext s3
          exact ih n y.else_ (d + 1) s3 (by omega) (by omega) (by omega) (by omega)
        rw [e]
        congr 1
        funext s'
        exact ihl s' (fun z hz => hy z (by simp [hz]))
    exact this _ _ (fun y hy => by have := nSs_mem hy; omega)
end Lift.A3
namespace Lift.A3
open Go Go.RowKit Lift Go.IntWalk Lift.Fn
set_option linter.unusedVariables false
set_option linter.unusedSimpArgs false
theorem wE : WalksE (fun (x : TExpr) (d : Int) (s : Bool) => qbj x d s) (fun (n : Nat) (x : TExpr) (d : Int) (s : Bool) => qaa_i n x d s) where
  step := by
    intro n x d s hd1 hd2 hl
    show qaa_f (qaa_i n) x d s = _
    unfold qaa_f
    rw [mk_expr]
    congr 1
    funext y0
    have hL := loop_fold (σ := Bool) x.args (fun y s => qaa_i n y (d + 1) s) (fun m i s => qaa_i3 (qaa_i n) m d x.args (x.args.length : Int) i s)
      (fun m i s h0 h => by simp only [qaa_i3, qaa_t3, decide_eq_false h, cond_false])
      (fun m i s y h0 h hy => by
        simp only [qaa_i3, qaa_t3, decide_eq_true h, decide_eq_true h0, cond_true, hy, Option.bind_some, mk_expr]
        rw [i64_in (i + 1) (by omega), i64_in (d + 1) (by omega)])
      x.args.length fuel 0 y0 (by omega) (by omega) (by unfold fuel; omega)
    try simp only at hL
    rw [qaa_l3, sealF_eq, hL]
    simp [bind_pair]
theorem wEx (x : TExpr) (s : Bool) (hx : nE x ≤ 100000000000000000) : qaa x 1 s = (evE x 1).foldlM (atEv (fun (x : TStmt) (d : Int) (s : Bool) => qbi x d s) (fun (x : TExpr) (d : Int) (s : Bool) => qbj x d s)) s := by
  rw [qaa, sealF_eq]
  exact walksE (g := (fun (x : TStmt) (d : Int) (s : Bool) => qbi x d s)) wE (nE x) fuel x 1 s (Nat.le_refl _) (by unfold fuel; omega) (by omega) (by omega)
theorem wS : WalksS (fun (x : TStmt) (d : Int) (s : Bool) => qbi x d s) (fun (x : TExpr) (d : Int) (s : Bool) => qaa x d s) (fun (n : Nat) (l : List TStmt) (d : Int) (s : Bool) => qai_i n l d s) where
  step := by
    intro n l d s hd1 hd2 hl
    show qai_f (qai_i n) l d s = _
    unfold qai_f
    have hL := loop_fold (σ := Bool) l (fun x s => (qbi x d s).bind fun s1 => (if thereB x.expr then qaa x.expr 1 s1 else some s1).bind fun s2 => (qai_i n x.then_ (d + 1) s2).bind fun s3 => qai_i n x.else_ (d + 1) s3)
      (fun m i s => qai_i2 (qai_i n) m d l (l.length : Int) i s)
      (fun m i s h0 h => by simp only [qai_i2, qai_t2, decide_eq_false h, cond_false])
      (fun m i s y h0 h hy => by
        have e : (bif TExpr.kind (TStmt.expr y) != (0 : Int) then some true else some (decide ((↑(List.length (TExpr.args (TStmt.expr y))) : Int) > (0 : Int)))) = some (thereB y.expr) := by
          unfold thereB
          cases (y.expr.kind != 0)
          · simp
          · rfl
        simp only [qai_i2, qai_t2, decide_eq_true h, decide_eq_true h0, cond_true, hy, Option.bind_some, mk_expr, mk_stmt', e]
        rw [i64_in (i + 1) (by omega), i64_in (d + 1) (by omega)]
        cases thereB y.expr <;> simp [Option.bind_assoc])
      l.length fuel 0 s (by omega) (by omega) (by unfold fuel; omega)
    try simp only at hL
    rw [qai_l2, sealF_eq, hL]
    simp [bind_pair]
theorem wSt (l : List TStmt) (s : Bool) (hl : nSs l ≤ 10000000000000000) : qai l 1 s = (evSs l 1).foldlM (atEv (fun (x : TStmt) (d : Int) (s : Bool) => qbi x d s) (fun (x : TExpr) (d : Int) (s : Bool) => qbj x d s)) s := by
  rw [qai, sealF_eq]
  exact walksS (g := (fun (x : TStmt) (d : Int) (s : Bool) => qbi x d s)) (h := (fun (x : TExpr) (d : Int) (s : Bool) => qbj x d s)) (fun x s hx => wEx x s hx) wS (nSs l) fuel l 1 s (Nat.le_refl _) (by unfold fuel; omega) (by omega) (by omega)
theorem wP (p : TProg) (s : Bool) (hl : nT p.threads ≤ 10000000000000000) : qae p s = (evP p).foldlM (atEv (fun (x : TStmt) (d : Int) (s : Bool) => qbi x d s) (fun (x : TExpr) (d : Int) (s : Bool) => qbj x d s)) s := by
  rw [qae, sealF_eq]
  unfold qae_f
  have hn := nT_len p.threads
  have hL := loop_fold (σ := Bool) p.threads (fun t s => qai t.body 1 s) (fun m i s => qae_i2 m p.threads (p.threads.length : Int) i s)
    (fun m i s h0 h => by simp only [qae_i2, qae_t2, decide_eq_false h, cond_false])
    (fun m i s y h0 h hy => by
      simp only [qae_i2, qae_t2, decide_eq_true h, decide_eq_true h0, cond_true, hy, Option.bind_some]
      rw [i64_in (i + 1) (by omega)])
    p.threads.length fuel 0 s (by omega) (by omega) (by unfold fuel; omega)
  try simp only at hL
  rw [qae_l2, sealF_eq, hL]
  unfold evP
  rw [foldlM_flat]
  have : ∀ (l : List TThread) (s : Bool), (∀ t ∈ l, nSs t.body ≤ 10000000000000000) → l.foldlM (fun s t => qai t.body 1 s) s = l.foldlM (fun s t => (evSs t.body 1).foldlM (atEv (fun (x : TStmt) (d : Int) (s : Bool) => qbi x d s) (fun (x : TExpr) (d : Int) (s : Bool) => qbj x d s)) s) s := by
    intro l
    induction l with
    | nil => intro s _; rfl
    | cons t l ih =>
      intro s ht
      rw [List.foldlM_cons, List.foldlM_cons, wSt t.body s (ht t (by simp))]
      congr 1
      funext s'
      exact ih s' (fun z hz => ht z (by simp [hz]))
  rw [Int.toNat_zero, List.drop_zero, this _ _ (fun t ht => by have := nT_mem ht; omega)]
  simp [bind_pair]
theorem wE_1 : WalksE (fun (x : TExpr) (d : Int) (s : Int) => qa6 x d s) (fun (n : Nat) (x : TExpr) (d : Int) (s : Int) => qab_i n x d s) where
  step := by
    intro n x d s hd1 hd2 hl
    show qab_f (qab_i n) x d s = _
    unfold qab_f
    rw [mk_expr]
    congr 1
    funext y0
    have hL := loop_fold (σ := Int) x.args (fun y s => qab_i n y (d + 1) s) (fun m i s => qab_i3 (qab_i n) m d x.args (x.args.length : Int) i s)
      (fun m i s h0 h => by simp only [qab_i3, qab_t3, decide_eq_false h, cond_false])
      (fun m i s y h0 h hy => by
        simp only [qab_i3, qab_t3, decide_eq_true h, decide_eq_true h0, cond_true, hy, Option.bind_some, mk_expr]
        rw [i64_in (i + 1) (by omega), i64_in (d + 1) (by omega)])
      x.args.length fuel 0 y0 (by omega) (by omega) (by unfold fuel; omega)
    try simp only at hL
    rw [qab_l3, sealF_eq, hL]
    simp [bind_pair]
theorem wEx_1 (x : TExpr) (s : Int) (hx : nE x ≤ 100000000000000000) : qab x 1 s = (evE x 1).foldlM (atEv (fun (x : TStmt) (d : Int) (s : Int) => qa5 x d s) (fun (x : TExpr) (d : Int) (s : Int) => qa6 x d s)) s := by
  rw [qab, sealF_eq]
  exact walksE (g := (fun (x : TStmt) (d : Int) (s : Int) => qa5 x d s)) wE_1 (nE x) fuel x 1 s (Nat.le_refl _) (by unfold fuel; omega) (by omega) (by omega)
theorem wS_1 : WalksS (fun (x : TStmt) (d : Int) (s : Int) => qa5 x d s) (fun (x : TExpr) (d : Int) (s : Int) => qab x d s) (fun (n : Nat) (l : List TStmt) (d : Int) (s : Int) => qaj_i n l d s) where
  step := by
    intro n l d s hd1 hd2 hl
    show qaj_f (qaj_i n) l d s = _
    unfold qaj_f
    have hL := loop_fold (σ := Int) l (fun x s => (qa5 x d s).bind fun s1 => (if thereB x.expr then qab x.expr 1 s1 else some s1).bind fun s2 => (qaj_i n x.then_ (d + 1) s2).bind fun s3 => qaj_i n x.else_ (d + 1) s3)
      (fun m i s => qaj_i2 (qaj_i n) m d l (l.length : Int) i s)
      (fun m i s h0 h => by simp only [qaj_i2, qaj_t2, decide_eq_false h, cond_false])
      (fun m i s y h0 h hy => by
        have e : (bif TExpr.kind (TStmt.expr y) != (0 : Int) then some true else some (decide ((↑(List.length (TExpr.args (TStmt.expr y))) : Int) > (0 : Int)))) = some (thereB y.expr) := by
          unfold thereB
          cases (y.expr.kind != 0)
          · simp
          · rfl
        simp only [qaj_i2, qaj_t2, decide_eq_true h, decide_eq_true h0, cond_true, hy, Option.bind_some, mk_expr, mk_stmt', e]
        rw [i64_in (i + 1) (by omega), i64_in (d + 1) (by omega)]
        cases thereB y.expr <;> simp [Option.bind_assoc])
      l.length fuel 0 s (by omega) (by omega) (by unfold fuel; omega)
    try simp only at hL
    rw [qaj_l2, sealF_eq, hL]
    simp [bind_pair]
theorem wSt_1 (l : List TStmt) (s : Int) (hl : nSs l ≤ 10000000000000000) : qaj l 1 s = (evSs l 1).foldlM (atEv (fun (x : TStmt) (d : Int) (s : Int) => qa5 x d s) (fun (x : TExpr) (d : Int) (s : Int) => qa6 x d s)) s := by
  rw [qaj, sealF_eq]
  exact walksS (g := (fun (x : TStmt) (d : Int) (s : Int) => qa5 x d s)) (h := (fun (x : TExpr) (d : Int) (s : Int) => qa6 x d s)) (fun x s hx => wEx_1 x s hx) wS_1 (nSs l) fuel l 1 s (Nat.le_refl _) (by unfold fuel; omega) (by omega) (by omega)
theorem wP_1 (p : TProg) (s : Int) (hl : nT p.threads ≤ 10000000000000000) : qaf p s = (evP p).foldlM (atEv (fun (x : TStmt) (d : Int) (s : Int) => qa5 x d s) (fun (x : TExpr) (d : Int) (s : Int) => qa6 x d s)) s := by
  rw [qaf, sealF_eq]
  unfold qaf_f
  have hn := nT_len p.threads
  have hL := loop_fold (σ := Int) p.threads (fun t s => qaj t.body 1 s) (fun m i s => qaf_i2 m p.threads (p.threads.length : Int) i s)
    (fun m i s h0 h => by simp only [qaf_i2, qaf_t2, decide_eq_false h, cond_false])
    (fun m i s y h0 h hy => by
      simp only [qaf_i2, qaf_t2, decide_eq_true h, decide_eq_true h0, cond_true, hy, Option.bind_some]
      rw [i64_in (i + 1) (by omega)])
    p.threads.length fuel 0 s (by omega) (by omega) (by unfold fuel; omega)
  try simp only at hL
  rw [qaf_l2, sealF_eq, hL]
  unfold evP
  rw [foldlM_flat]
  have : ∀ (l : List TThread) (s : Int), (∀ t ∈ l, nSs t.body ≤ 10000000000000000) → l.foldlM (fun s t => qaj t.body 1 s) s = l.foldlM (fun s t => (evSs t.body 1).foldlM (atEv (fun (x : TStmt) (d : Int) (s : Int) => qa5 x d s) (fun (x : TExpr) (d : Int) (s : Int) => qa6 x d s)) s) s := by
    intro l
    induction l with
    | nil => intro s _; rfl
    | cons t l ih =>
      intro s ht
      rw [List.foldlM_cons, List.foldlM_cons, wSt_1 t.body s (ht t (by simp))]
      congr 1
      funext s'
      exact ih s' (fun z hz => ht z (by simp [hz]))
  rw [Int.toNat_zero, List.drop_zero, this _ _ (fun t ht => by have := nT_mem ht; omega)]
  simp [bind_pair]
theorem wE_2 : WalksE (fun (x : TExpr) (d : Int) (s : Int) => qa3 x d s) (fun (n : Nat) (x : TExpr) (d : Int) (s : Int) => qac_i n x d s) where
  step := by
    intro n x d s hd1 hd2 hl
    show qac_f (qac_i n) x d s = _
    unfold qac_f
    rw [mk_expr]
    congr 1
    funext y0
    have hL := loop_fold (σ := Int) x.args (fun y s => qac_i n y (d + 1) s) (fun m i s => qac_i3 (qac_i n) m d x.args (x.args.length : Int) i s)
      (fun m i s h0 h => by simp only [qac_i3, qac_t3, decide_eq_false h, cond_false])
      (fun m i s y h0 h hy => by
        simp only [qac_i3, qac_t3, decide_eq_true h, decide_eq_true h0, cond_true, hy, Option.bind_some, mk_expr]
        rw [i64_in (i + 1) (by omega), i64_in (d + 1) (by omega)])
      x.args.length fuel 0 y0 (by omega) (by omega) (by unfold fuel; omega)
    try simp only at hL
    rw [qac_l3, sealF_eq, hL]
    simp [bind_pair]
theorem wEx_2 (x : TExpr) (s : Int) (hx : nE x ≤ 100000000000000000) : qac x 1 s = (evE x 1).foldlM (atEv (fun (x : TStmt) (d : Int) (s : Int) => qa2 x d s) (fun (x : TExpr) (d : Int) (s : Int) => qa3 x d s)) s := by
  rw [qac, sealF_eq]
  exact walksE (g := (fun (x : TStmt) (d : Int) (s : Int) => qa2 x d s)) wE_2 (nE x) fuel x 1 s (Nat.le_refl _) (by unfold fuel; omega) (by omega) (by omega)
theorem wS_2 : WalksS (fun (x : TStmt) (d : Int) (s : Int) => qa2 x d s) (fun (x : TExpr) (d : Int) (s : Int) => qac x d s) (fun (n : Nat) (l : List TStmt) (d : Int) (s : Int) => qak_i n l d s) where
  step := by
    intro n l d s hd1 hd2 hl
    show qak_f (qak_i n) l d s = _
    unfold qak_f
    have hL := loop_fold (σ := Int) l (fun x s => (qa2 x d s).bind fun s1 => (if thereB x.expr then qac x.expr 1 s1 else some s1).bind fun s2 => (qak_i n x.then_ (d + 1) s2).bind fun s3 => qak_i n x.else_ (d + 1) s3)
      (fun m i s => qak_i2 (qak_i n) m d l (l.length : Int) i s)
      (fun m i s h0 h => by simp only [qak_i2, qak_t2, decide_eq_false h, cond_false])
      (fun m i s y h0 h hy => by
        have e : (bif TExpr.kind (TStmt.expr y) != (0 : Int) then some true else some (decide ((↑(List.length (TExpr.args (TStmt.expr y))) : Int) > (0 : Int)))) = some (thereB y.expr) := by
          unfold thereB
          cases (y.expr.kind != 0)
          · simp
          · rfl
        simp only [qak_i2, qak_t2, decide_eq_true h, decide_eq_true h0, cond_true, hy, Option.bind_some, mk_expr, mk_stmt', e]
        rw [i64_in (i + 1) (by omega), i64_in (d + 1) (by omega)]
        cases thereB y.expr <;> simp [Option.bind_assoc])
      l.length fuel 0 s (by omega) (by omega) (by unfold fuel; omega)
    try simp only at hL
    rw [qak_l2, sealF_eq, hL]
    simp [bind_pair]
theorem wSt_2 (l : List TStmt) (s : Int) (hl : nSs l ≤ 10000000000000000) : qak l 1 s = (evSs l 1).foldlM (atEv (fun (x : TStmt) (d : Int) (s : Int) => qa2 x d s) (fun (x : TExpr) (d : Int) (s : Int) => qa3 x d s)) s := by
  rw [qak, sealF_eq]
  exact walksS (g := (fun (x : TStmt) (d : Int) (s : Int) => qa2 x d s)) (h := (fun (x : TExpr) (d : Int) (s : Int) => qa3 x d s)) (fun x s hx => wEx_2 x s hx) wS_2 (nSs l) fuel l 1 s (Nat.le_refl _) (by unfold fuel; omega) (by omega) (by omega)
theorem wP_2 (p : TProg) (s : Int) (hl : nT p.threads ≤ 10000000000000000) : qag p s = (evP p).foldlM (atEv (fun (x : TStmt) (d : Int) (s : Int) => qa2 x d s) (fun (x : TExpr) (d : Int) (s : Int) => qa3 x d s)) s := by
  rw [qag, sealF_eq]
  unfold qag_f
  have hn := nT_len p.threads
  have hL := loop_fold (σ := Int) p.threads (fun t s => qak t.body 1 s) (fun m i s => qag_i2 m p.threads (p.threads.length : Int) i s)
    (fun m i s h0 h => by simp only [qag_i2, qag_t2, decide_eq_false h, cond_false])
    (fun m i s y h0 h hy => by
      simp only [qag_i2, qag_t2, decide_eq_true h, decide_eq_true h0, cond_true, hy, Option.bind_some]
      rw [i64_in (i + 1) (by omega)])
    p.threads.length fuel 0 s (by omega) (by omega) (by unfold fuel; omega)
  try simp only at hL
  rw [qag_l2, sealF_eq, hL]
  unfold evP
  rw [foldlM_flat]
  have : ∀ (l : List TThread) (s : Int), (∀ t ∈ l, nSs t.body ≤ 10000000000000000) → l.foldlM (fun s t => qak t.body 1 s) s = l.foldlM (fun s t => (evSs t.body 1).foldlM (atEv (fun (x : TStmt) (d : Int) (s : Int) => qa2 x d s) (fun (x : TExpr) (d : Int) (s : Int) => qa3 x d s)) s) s := by
    intro l
    induction l with
    | nil => intro s _; rfl
    | cons t l ih =>
      intro s ht
      rw [List.foldlM_cons, List.foldlM_cons, wSt_2 t.body s (ht t (by simp))]
      congr 1
      funext s'
      exact ih s' (fun z hz => ht z (by simp [hz]))
  rw [Int.toNat_zero, List.drop_zero, this _ _ (fun t ht => by have := nT_mem ht; omega)]
  simp [bind_pair]
theorem wE_3 : WalksE (fun (x : TExpr) (d : Int) (s : (List ((List UInt8) × Int)) × (List (List UInt8))) => qba x d s.1 s.2) (fun (n : Nat) (x : TExpr) (d : Int) (s : (List ((List UInt8) × Int)) × (List (List UInt8))) => qad_i n x d s.1 s.2) where
  step := by
    intro n x d s hd1 hd2 hl
    show qad_f (qad_i n) x d s.1 s.2 = _
    unfold qad_f
    rw [mk_expr]
    congr 1
    funext y0
    have hL := loop_fold (σ := (List ((List UInt8) × Int)) × (List (List UInt8))) x.args (fun y s => qad_i n y (d + 1) s.1 s.2) (fun m i s => qad_i3 (qad_i n) m d x.args (x.args.length : Int) i s.1 s.2)
      (fun m i s h0 h => by simp only [qad_i3, qad_t3, decide_eq_false h, cond_false])
      (fun m i s y h0 h hy => by
        simp only [qad_i3, qad_t3, decide_eq_true h, decide_eq_true h0, cond_true, hy, Option.bind_some, mk_expr]
        rw [i64_in (i + 1) (by omega), i64_in (d + 1) (by omega)])
      x.args.length fuel 0 y0 (by omega) (by omega) (by unfold fuel; omega)
    try simp only at hL
    rw [qad_l3, sealF_eq, hL]
    simp [bind_pair]
theorem wEx_3 (x : TExpr) (s : (List ((List UInt8) × Int)) × (List (List UInt8))) (hx : nE x ≤ 100000000000000000) : qad x 1 s.1 s.2 = (evE x 1).foldlM (atEv (fun (x : TStmt) (d : Int) (s : (List ((List UInt8) × Int)) × (List (List UInt8))) => qa9 x d s.1 s.2) (fun (x : TExpr) (d : Int) (s : (List ((List UInt8) × Int)) × (List (List UInt8))) => qba x d s.1 s.2)) s := by
  rw [qad, sealF_eq]
  exact walksE (g := (fun (x : TStmt) (d : Int) (s : (List ((List UInt8) × Int)) × (List (List UInt8))) => qa9 x d s.1 s.2)) wE_3 (nE x) fuel x 1 s (Nat.le_refl _) (by unfold fuel; omega) (by omega) (by omega)
theorem wS_3 : WalksS (fun (x : TStmt) (d : Int) (s : (List ((List UInt8) × Int)) × (List (List UInt8))) => qa9 x d s.1 s.2) (fun (x : TExpr) (d : Int) (s : (List ((List UInt8) × Int)) × (List (List UInt8))) => qad x d s.1 s.2) (fun (n : Nat) (l : List TStmt) (d : Int) (s : (List ((List UInt8) × Int)) × (List (List UInt8))) => qal_i n l d s.1 s.2) where
  step := by
    intro n l d s hd1 hd2 hl
    show qal_f (qal_i n) l d s.1 s.2 = _
    unfold qal_f
    have hL := loop_fold (σ := (List ((List UInt8) × Int)) × (List (List UInt8))) l (fun x s => (qa9 x d s.1 s.2).bind fun s1 => (if thereB x.expr then qad x.expr 1 s1.1 s1.2 else some s1).bind fun s2 => (qal_i n x.then_ (d + 1) s2.1 s2.2).bind fun s3 => qal_i n x.else_ (d + 1) s3.1 s3.2)
      (fun m i s => qal_i2 (qal_i n) m d l (l.length : Int) i s.1 s.2)
      (fun m i s h0 h => by simp only [qal_i2, qal_t2, decide_eq_false h, cond_false])
      (fun m i s y h0 h hy => by
        have e : (bif TExpr.kind (TStmt.expr y) != (0 : Int) then some true else some (decide ((↑(List.length (TExpr.args (TStmt.expr y))) : Int) > (0 : Int)))) = some (thereB y.expr) := by
          unfold thereB
          cases (y.expr.kind != 0)
          · simp
          · rfl
        simp only [qal_i2, qal_t2, decide_eq_true h, decide_eq_true h0, cond_true, hy, Option.bind_some, mk_expr, mk_stmt', e]
        rw [i64_in (i + 1) (by omega), i64_in (d + 1) (by omega)]
        cases thereB y.expr <;> simp [Option.bind_assoc])
      l.length fuel 0 s (by omega) (by omega) (by unfold fuel; omega)
    try simp only at hL
    rw [qal_l2, sealF_eq, hL]
    simp [bind_pair]
theorem wSt_3 (l : List TStmt) (s : (List ((List UInt8) × Int)) × (List (List UInt8))) (hl : nSs l ≤ 10000000000000000) : qal l 1 s.1 s.2 = (evSs l 1).foldlM (atEv (fun (x : TStmt) (d : Int) (s : (List ((List UInt8) × Int)) × (List (List UInt8))) => qa9 x d s.1 s.2) (fun (x : TExpr) (d : Int) (s : (List ((List UInt8) × Int)) × (List (List UInt8))) => qba x d s.1 s.2)) s := by
  rw [qal, sealF_eq]
  exact walksS (g := (fun (x : TStmt) (d : Int) (s : (List ((List UInt8) × Int)) × (List (List UInt8))) => qa9 x d s.1 s.2)) (h := (fun (x : TExpr) (d : Int) (s : (List ((List UInt8) × Int)) × (List (List UInt8))) => qba x d s.1 s.2)) (fun x s hx => wEx_3 x s hx) wS_3 (nSs l) fuel l 1 s (Nat.le_refl _) (by unfold fuel; omega) (by omega) (by omega)
theorem wP_3 (p : TProg) (s : (List ((List UInt8) × Int)) × (List (List UInt8))) (hl : nT p.threads ≤ 10000000000000000) : qah p s.1 s.2 = (evP p).foldlM (atEv (fun (x : TStmt) (d : Int) (s : (List ((List UInt8) × Int)) × (List (List UInt8))) => qa9 x d s.1 s.2) (fun (x : TExpr) (d : Int) (s : (List ((List UInt8) × Int)) × (List (List UInt8))) => qba x d s.1 s.2)) s := by
  rw [qah, sealF_eq]
  unfold qah_f
  have hn := nT_len p.threads
  have hL := loop_fold (σ := (List ((List UInt8) × Int)) × (List (List UInt8))) p.threads (fun t s => qal t.body 1 s.1 s.2) (fun m i s => qah_i2 m p.threads (p.threads.length : Int) i s.1 s.2)
    (fun m i s h0 h => by simp only [qah_i2, qah_t2, decide_eq_false h, cond_false])
    (fun m i s y h0 h hy => by
      simp only [qah_i2, qah_t2, decide_eq_true h, decide_eq_true h0, cond_true, hy, Option.bind_some]
      rw [i64_in (i + 1) (by omega)])
    p.threads.length fuel 0 s (by omega) (by omega) (by unfold fuel; omega)
  try simp only at hL
  rw [qah_l2, sealF_eq, hL]
  unfold evP
  rw [foldlM_flat]
  have : ∀ (l : List TThread) (s : (List ((List UInt8) × Int)) × (List (List UInt8))), (∀ t ∈ l, nSs t.body ≤ 10000000000000000) → l.foldlM (fun s t => qal t.body 1 s.1 s.2) s = l.foldlM (fun s t => (evSs t.body 1).foldlM (atEv (fun (x : TStmt) (d : Int) (s : (List ((List UInt8) × Int)) × (List (List UInt8))) => qa9 x d s.1 s.2) (fun (x : TExpr) (d : Int) (s : (List ((List UInt8) × Int)) × (List (List UInt8))) => qba x d s.1 s.2)) s) s := by
    intro l
    induction l with
    | nil => intro s _; rfl
    | cons t l ih =>
      intro s ht
      rw [List.foldlM_cons, List.foldlM_cons, wSt_3 t.body s (ht t (by simp))]
      congr 1
      funext s'
      exact ih s' (fun z hz => ht z (by simp [hz]))
  rw [Int.toNat_zero, List.drop_zero, this _ _ (fun t ht => by have := nT_mem ht; omega)]
  simp [bind_pair]
end Lift.A3
namespace Lift.A3
open Go Go.RowKit Lift Go.IntWalk Lift.Fn
set_option linter.unusedVariables false
set_option linter.unusedSimpArgs false
theorem loop_P {α σ ρ : Type} (l : List α) (I : List α → σ → Prop) (P : List α → σ → ρ) (L : Nat → Int → σ → Option ρ)
    (h0 : ∀ n i s, 0 ≤ i → ¬ i < (l.length : Int) → I [] s → L (n + 1) i s = some (P [] s))
    (h1 : ∀ n i s x r, 0 ≤ i → i < (l.length : Int) → l[i.toNat]? = some x → x ∈ l → I (x :: r) s → (∃ s', I r s' ∧ L (n + 1) i s = L n (i + 1) s' ∧ P (x :: r) s = P r s') ∨ L (n + 1) i s = some (P (x :: r) s)) :
    ∀ (k n : Nat) (i : Int) (s : σ), 0 ≤ i → l.length - i.toNat ≤ k → k < n → I (l.drop i.toNat) s → L n i s = some (P (l.drop i.toNat) s) := by
  intro k
  induction k with
  | zero =>
    intro n i s hi hk hn hI
    obtain ⟨n, rfl⟩ : ∃ q, n = q + 1 := ⟨n - 1, by omega⟩
    rw [List.drop_eq_nil_of_le (by omega)] at hI ⊢
    exact h0 n i s hi (by omega) hI
  | succ k ih =>
    intro n i s hi hk hn hI
    obtain ⟨n, rfl⟩ : ∃ q, n = q + 1 := ⟨n - 1, by omega⟩
    by_cases c : i < (l.length : Int)
    · have hlt : i.toNat < l.length := by omega
      rw [List.drop_eq_getElem_cons hlt] at hI ⊢
      rcases h1 n i s l[i.toNat] _ hi c (List.getElem?_eq_getElem hlt) (List.getElem_mem hlt) hI with ⟨s', i1, e1, e2⟩ | e
      · have e : (i + 1).toNat = i.toNat + 1 := by omega
        rw [e1, ih n (i + 1) s' (by omega) (by omega) (by omega) (by rw [e]; exact i1), e2, e]
      · exact e
    · rw [List.drop_eq_nil_of_le (by omega)] at hI ⊢
      exact h0 n i s hi c hI
theorem loop_P0 {α σ ρ : Type} (l : List α) (I : List α → σ → Prop) (P : List α → σ → ρ) (L : Nat → Int → σ → Option ρ)
    (h0 : ∀ n i s, 0 ≤ i → ¬ i < (l.length : Int) → I [] s → L (n + 1) i s = some (P [] s))
    (h1 : ∀ n i s x r, 0 ≤ i → i < (l.length : Int) → l[i.toNat]? = some x → x ∈ l → I (x :: r) s → (∃ s', I r s' ∧ L (n + 1) i s = L n (i + 1) s' ∧ P (x :: r) s = P r s') ∨ L (n + 1) i s = some (P (x :: r) s))
    (n : Nat) (s : σ) (hn : l.length < n) (hI : I l s) : L n 0 s = some (P l s) := by
  have := loop_P l I P L h0 h1 l.length n 0 s (by omega) (by omega) hn
  rw [Int.toNat_zero, List.drop_zero] at this
  exact this hI
mutual
theorem lenE : ∀ (x : TExpr) (d : Int), (evE x d).length = nE x
  | ⟨k, n, m, l⟩, d => by simp [evE, nE, lenEs l (d + 1)]; omega
theorem lenEs : ∀ (l : List TExpr) (d : Int), (evEs l d).length = nEs l
  | [], d => by simp [evEs, nEs]
  | x :: l, d => by simp [evEs, nEs, lenE x d, lenEs l d]
end
mutual
def cS : TStmt → Nat
  | ⟨_, _, _, x, _, t, o⟩ => 1 + (if thereB x then nE x else 0) + cSs t + cSs o
def cSs : List TStmt → Nat
  | [] => 0
  | x :: l => cS x + cSs l
end
def cT : List TThread → Nat
  | [] => 0
  | t :: l => cSs t.body + cT l
mutual
theorem lenS : ∀ (x : TStmt) (d : Int), (evS x d).length = cS x
  | ⟨k, r, m, x, c, t, o⟩, d => by
    have h1 := lenSs t (d + 1)
    have h2 := lenSs o (d + 1)
    have h3 := lenE x 1
    simp only [evS, cS, List.length_cons, List.length_append, h1, h2]
    split <;> simp [h3] <;> omega
theorem lenSs : ∀ (l : List TStmt) (d : Int), (evSs l d).length = cSs l
  | [], d => by simp [evSs, cSs]
  | x :: l, d => by simp [evSs, cSs, lenS x d, lenSs l d]
end
mutual
theorem cS_le : ∀ x : TStmt, cS x ≤ nS x
  | ⟨k, r, m, x, c, t, o⟩ => by
    have h1 := cSs_le t
    have h2 := cSs_le o
    simp only [cS, nS]
    split <;> omega
theorem cSs_le : ∀ l : List TStmt, cSs l ≤ nSs l
  | [] => by simp [cSs]
  | x :: l => by have := cS_le x; have := cSs_le l; simp only [cSs, nSs]; omega
end
theorem cT_le : ∀ l : List TThread, cT l ≤ nT l
  | [] => by simp [cT]
  | x :: l => by have := cSs_le x.body; have := cT_le l; simp only [cT, nT]; omega
theorem lenP : ∀ (l : List TThread), (l.flatMap fun t => evSs t.body 1).length = cT l
  | [] => rfl
  | t :: l => by simp only [List.flatMap_cons, List.length_append, lenSs, lenP l, cT]
theorem count_fold : ∀ (l : List Ev) (s : Int), 0 ≤ s → s + l.length ≤ 1000000000000000000 →
    l.foldlM (atEv (fun (x : TStmt) (d : Int) (s : Int) => qa2 x d s) (fun (x : TExpr) (d : Int) (s : Int) => qa3 x d s)) s = some (s + l.length)
  | [], s, _, _ => by simp
  | e :: l, s, h0, h => by
    simp only [List.length_cons] at h
    have e1 : atEv (fun (x : TStmt) (d : Int) (s : Int) => qa2 x d s) (fun (x : TExpr) (d : Int) (s : Int) => qa3 x d s) s e = some (s + 1) := by
      cases e with
      | s x d => show qa2 x d s = _; rw [qa2, sealF_eq]; unfold qa2_f; rw [i64_in (s + 1) (by omega)]
      | e x d => show qa3 x d s = _; rw [qa3, sealF_eq]; unfold qa3_f; rw [i64_in (s + 1) (by omega)]
    rw [List.foldlM_cons, e1]
    show List.foldlM _ (s + 1) l = _
    rw [count_fold l (s + 1) (by omega) (by omega), List.length_cons]
    congr 1
    omega
theorem treeCount (p : TProg) (h : nT p.threads ≤ 10000000000000000) : qa1 p = some (cT p.threads : Int) := by
  rw [qa1, sealF_eq]
  unfold qa1_f
  have hc := cT_le p.threads
  have hl := lenP p.threads
  rw [mk_prog, wP_2 p 0 h, count_fold _ 0 (by omega) (by unfold evP; rw [hl]; omega), Option.bind_some]
  unfold evP
  rw [hl]
  simp
def evD : Ev → Int
  | .s _ d => d
  | .e _ d => d
def maxEv (l : List Ev) (s : Int) : Int := l.foldl (fun s e => max s (evD e)) s
theorem ite_max (a b : Int) : (if a > b then a else b) = max b a := by
  rw [Int.max_def]
  split <;> split <;> omega
theorem deep_fold : ∀ (l : List Ev) (s : Int), l.foldlM (atEv (fun (x : TStmt) (d : Int) (s : Int) => qa5 x d s) (fun (x : TExpr) (d : Int) (s : Int) => qa6 x d s)) s = some (maxEv l s)
  | [], s => rfl
  | e :: l, s => by
    have e1 : atEv (fun (x : TStmt) (d : Int) (s : Int) => qa5 x d s) (fun (x : TExpr) (d : Int) (s : Int) => qa6 x d s) s e = some (max s (evD e)) := by
      cases e with
      | s x d => show qa5 x d s = _; rw [qa5, sealF_eq]; unfold qa5_f; rw [ite_max]; rfl
      | e x d => show qa6 x d s = _; rw [qa6, sealF_eq]; unfold qa6_f; rw [ite_max]; rfl
    rw [List.foldlM_cons, e1]
    exact deep_fold l _
theorem treeDeep (p : TProg) (h : nT p.threads ≤ 10000000000000000) : qa4 p = some (maxEv (evP p) 0) := by
  rw [qa4, sealF_eq]
  unfold qa4_f
  rw [mk_prog, wP_1 p 0 h, deep_fold]
  rfl
end Lift.A3
namespace Lift.A3
open Go Go.RowKit Lift Go.IntWalk Lift.Fn
set_option linter.unusedVariables false
set_option linter.unusedSimpArgs false
theorem refCopyE : ∀ (k n : Nat) (x : TExpr), nE x ≤ k → k < n → k ≤ 100000000 → qaA_i n x = some (x.kind, x.num, x.name, x.args) := by
  intro k
  induction k with
  | zero => intro n x h; have := nE_eq x; omega
  | succ k ih =>
    intro n x h hn hb
    obtain ⟨n, rfl⟩ : ∃ q, n = q + 1 := ⟨n - 1, by omega⟩
    have hx := nE_eq x
    have hl := nEs_len x.args
    show qaA_f (qaA_i n) x = _
    unfold qaA_f
    have hL := loop_P0 (σ := List TExpr) x.args (fun r s => s.length + r.length = x.args.length) (fun r s => ((0 : Int), (0 : Int), ([] : List UInt8), x.kind, x.num, x.name, s ++ r))
      (fun m i s => qaA_i3 (qaA_i n) m i x.kind x.num x.name x.args 0 0 [] x.kind x.num x.name s)
      (fun m i s h0 h hI => by
        simp only [qaA_i3, qaA_t3, decide_eq_false h, cond_false, List.append_nil])
      (fun m i s y r h0 h hy hm hI => by
        have hy1 := nEs_mem hm
        have hI' : s.length + (y :: r).length = x.args.length := hI
        simp only [List.length_cons] at hI'
        refine Or.inl ⟨s ++ [y], (by show (s ++ [y]).length + r.length = x.args.length; simp only [List.length_append, List.length_cons, List.length_nil]; omega), ?_, by simp⟩
        simp only [qaA_i3, qaA_t3, decide_eq_true h, decide_eq_true h0, cond_true, hy, Option.bind_some]
        rw [ih n y (by omega) (by omega) (by omega), Option.bind_some, i64_in (i + 1) (by omega)]
        simp only [List.length_cons, List.length_nil, mk_expr]
        rw [decide_eq_true (by omega), cond_true])
      fuel [] (by unfold fuel; omega) (by simp)
    rw [qaA_l3, sealF_eq, hL]
    rfl
theorem refCopyExpr (x : TExpr) (h : nE x ≤ 100000000) : qaA x = some (x.kind, x.num, x.name, x.args) := by
  rw [qaA, sealF_eq, refCopyE (nE x) fuel x (Nat.le_refl _) (by unfold fuel; omega) (by omega)]
theorem refCopyS : ∀ (k n : Nat) (l : List TStmt), nSs l ≤ k → k < n → k ≤ 100000000 → qaB_i n l = some l := by
  intro k
  induction k with
  | zero =>
    intro n l h hn _
    obtain ⟨n, rfl⟩ : ∃ q, n = q + 1 := ⟨n - 1, by omega⟩
    have hl := nSs_len l
    obtain rfl : l = [] := List.eq_nil_of_length_eq_zero (by omega)
    show qaB_f (qaB_i n) [] = _
    unfold qaB_f
    rw [qaB_l3, sealF_eq]
    rfl
  | succ k ih =>
    intro n l h hn hb
    obtain ⟨n, rfl⟩ : ∃ q, n = q + 1 := ⟨n - 1, by omega⟩
    have hl := nSs_len l
    show qaB_f (qaB_i n) l = _
    unfold qaB_f
    have hL := loop_P0 (σ := List TStmt) l (fun r s => s.length + r.length = l.length) (fun r s => s ++ r)
      (fun m i s => qaB_i3 (qaB_i n) m l i s)
      (fun m i s h0 h hI => by
        simp only [qaB_i3, qaB_t3, decide_eq_false h, cond_false, List.append_nil])
      (fun m i s y r h0 h hy hm hI => by
        have hy1 := nSs_mem hm
        have hy2 := nS_eq y
        have hI' : s.length + (y :: r).length = l.length := hI
        simp only [List.length_cons] at hI'
        refine Or.inl ⟨s ++ [y], (by show (s ++ [y]).length + r.length = l.length; simp only [List.length_append, List.length_cons, List.length_nil]; omega), ?_, by simp⟩
        simp only [qaB_i3, qaB_t3, decide_eq_true h, decide_eq_true h0, hy, Option.bind_some, mk_expr, cond_true]
        rw [ih n y.then_ (by omega) (by omega) (by omega), ih n y.else_ (by omega) (by omega) (by omega), refCopyExpr y.expr (by omega), i64_in (i + 1) (by omega)]
        simp only [Option.bind_some, List.length_cons, List.length_nil, mk_expr, mk_stmt']
        rw [decide_eq_true (by omega), cond_true])
      fuel [] (by unfold fuel; omega) (by simp)
    rw [qaB_l3, sealF_eq, hL]
    rfl
theorem refCopy (p : TProg) (h : nT p.threads ≤ 100000000) (h1 : p.cells.length ≤ 100000000) (h2 : p.mutexes.length ≤ 100000000) :
    qaz p = some (p.cells, p.mutexes, p.threads) := by
  rw [qaz, sealF_eq]
  unfold qaz_f
  have hl := nT_len p.threads
  have hL := loop_P0 (σ := List TThread) p.threads (fun r s => s.length + r.length = p.threads.length) (fun r s => (p.cells, p.mutexes, s ++ r))
      (fun m i s => qaz_i5 m i p.cells p.mutexes p.threads p.cells p.mutexes s)
      (fun m i s h0 h hI => by
        simp only [qaz_i5, qaz_t5, decide_eq_false h, cond_false, List.append_nil])
      (fun m i s y r h0 h hy hm hI => by
        have hy1 := nT_mem hm
        have hI' : s.length + (y :: r).length = p.threads.length := hI
        simp only [List.length_cons] at hI'
        refine Or.inl ⟨s ++ [y], (by show (s ++ [y]).length + r.length = p.threads.length; simp only [List.length_append, List.length_cons, List.length_nil]; omega), ?_, by simp⟩
        simp only [qaz_i5, qaz_t5, decide_eq_true h, decide_eq_true h0, hy, Option.bind_some, cond_true]
        rw [qaB, sealF_eq, refCopyS (nSs y.body) fuel y.body (Nat.le_refl _) (by unfold fuel; omega) (by omega), Option.bind_some, i64_in (i + 1) (by omega)]
        simp only [List.length_cons, List.length_nil]
        rw [decide_eq_true (by omega), cond_true])
      fuel [] (by unfold fuel; omega) (by simp)
  rw [decide_eq_true (by omega), cond_true, decide_eq_true (by omega), cond_true, qaz_l5, sealF_eq, hL]
  rfl
end Lift.A3
namespace Lift.A3
open Go Go.RowKit Lift Go.IntWalk Lift.Fn
set_option linter.unusedVariables false
set_option linter.unusedSimpArgs false
def two {α : Type} (f : α → α → Bool) : List α → List α → Bool
  | [], [] => true
  | x :: l, y :: r => f x y && two f l r
  | _, _ => false
theorem two_len {α : Type} (f : α → α → Bool) : ∀ (l r : List α), l.length ≠ r.length → two f l r = false
  | [], [], h => absurd rfl h
  | [], _ :: _, _ => rfl
  | _ :: _, [], _ => rfl
  | x :: l, y :: r, h => by
    rw [two, two_len f l r (by simpa using h), Bool.and_false]
theorem two_zip {α : Type} (f : α → α → Bool) : ∀ (l r : List α), l.length = r.length → two f l r = (l.zip r).all fun p => f p.1 p.2
  | [], [], h => rfl
  | x :: l, y :: r, h => by
    rw [two, two_zip f l r (by simpa using h), List.zip_cons_cons, List.all_cons]
theorem two_refl {α : Type} (f : α → α → Bool) : ∀ (l : List α), (∀ x ∈ l, f x x = true) → two f l l = true
  | [], h => rfl
  | x :: l, h => by
    rw [two, h x (by simp), two_refl f l (fun y hy => h y (by simp [hy]))]
    rfl
theorem loop_two {α τ : Type} (f : α → α → Bool) (l r : List α) (e : τ) (L : Nat → Int → Option (Bool ⊕ τ)) (hlen : l.length = r.length)
    (h0 : ∀ n i, 0 ≤ i → ¬ i < (l.length : Int) → L (n + 1) i = some (.inr e))
    (h1 : ∀ n i x y, 0 ≤ i → i < (l.length : Int) → l[i.toNat]? = some x → r[i.toNat]? = some y → x ∈ l → y ∈ r → L (n + 1) i = bif f x y then L n (i + 1) else some (.inl false))
    (n : Nat) (hn : l.length < n) : L n 0 = some (bif two f l r then .inr e else .inl false) := by
  have hz : (l.zip r).length = l.length := by rw [List.length_zip]; omega
  have := loop_P0 (σ := Unit) (l.zip r) (fun _ _ => True) (fun q _ => (bif q.all fun p => f p.1 p.2 then .inr e else .inl false : Bool ⊕ τ)) (fun m i _ => L m i)
    (fun m i s h h' _ => h0 m i h (by rw [← hz]; exact h'))
    (fun m i s p q h h' hp hm _ => by
      obtain ⟨x, y⟩ := p
      obtain ⟨e1, e2⟩ := List.getElem?_zip_eq_some.1 hp
      have := h1 m i x y h (by rw [← hz]; exact h') e1 e2 (List.mem_of_getElem? e1) (List.mem_of_getElem? e2)
      cases hf : f x y with
      | true =>
        rw [hf, cond_true] at this
        exact Or.inl ⟨(), trivial, this, by rw [List.all_cons, hf, Bool.true_and]⟩
      | false =>
        rw [hf, cond_false] at this
        refine Or.inr ?_
        rw [List.all_cons, hf, Bool.false_and]
        exact this)
    n () (by omega) trivial
  rw [two_zip f l r hlen]
  exact this
mutual
def sE : TExpr → TExpr → Bool
  | ⟨k, n, m, l⟩, ⟨k', n', m', l'⟩ => k == k' && (n == n' && (m == m' && sEs l l'))
def sEs : List TExpr → List TExpr → Bool
  | [], [] => true
  | x :: l, y :: r => sE x y && sEs l r
  | _, _ => false
end
theorem sEs_two : ∀ l r, sEs l r = two sE l r
  | [], [] => by simp [sEs, two]
  | [], _ :: _ => by simp [sEs, two]
  | _ :: _, [] => by simp [sEs, two]
  | x :: l, y :: r => by rw [sEs, two, sEs_two l r]
theorem sE_eq (x y : TExpr) : sE x y = (x.kind == y.kind && (x.num == y.num && (x.name == y.name && two sE x.args y.args))) := by
  cases x; cases y; rw [sE, sEs_two]
mutual
def sS : TStmt → TStmt → Bool
  | ⟨k, r, m, x, c, t, o⟩, ⟨k', r', m', x', c', t', o'⟩ => k == k' && (r == r' && (m == m' && (c == c' && (sE x x' && (sSs t t' && sSs o o')))))
def sSs : List TStmt → List TStmt → Bool
  | [], [] => true
  | x :: l, y :: r => sS x y && sSs l r
  | _, _ => false
end
theorem sSs_two : ∀ l r, sSs l r = two sS l r
  | [], [] => by simp [sSs, two]
  | [], _ :: _ => by simp [sSs, two]
  | _ :: _, [] => by simp [sSs, two]
  | x :: l, y :: r => by rw [sSs, two, sSs_two l r]
theorem sS_eq (x y : TStmt) : sS x y = (x.kind == y.kind && (x.reg == y.reg && (x.name == y.name && (x.count == y.count && (sE x.expr y.expr && (two sS x.then_ y.then_ && two sS x.else_ y.else_)))))) := by
  cases x; cases y; rw [sS, sSs_two, sSs_two]
def sT (x y : TThread) : Bool := x.name == y.name && two sS x.body y.body
def sP (p q : TProg) : Bool := two (fun x y => decide (x = y)) p.cells q.cells && (two (fun x y => x == y) p.mutexes q.mutexes && two sT p.threads q.threads)
mutual
theorem sE_refl : ∀ x, sE x x = true
  | ⟨k, n, m, l⟩ => by rw [sE, sEs_refl l]; simp
theorem sEs_refl : ∀ l, sEs l l = true
  | [] => by rw [sEs]
  | x :: l => by rw [sEs, sE_refl x, sEs_refl l]; rfl
end
mutual
theorem sS_refl : ∀ x, sS x x = true
  | ⟨k, r, m, x, c, t, o⟩ => by rw [sS, sSs_refl t, sSs_refl o, sE_refl x]; simp
theorem sSs_refl : ∀ l, sSs l l = true
  | [] => by rw [sSs]
  | x :: l => by rw [sSs, sS_refl x, sSs_refl l]; rfl
end
theorem sT_refl (x : TThread) : sT x x = true := by
  rw [sT, two_refl sS _ (fun y _ => sS_refl y)]
  simp
theorem sP_refl (p : TProg) : sP p p = true := by
  rw [sP, two_refl sT _ (fun y _ => sT_refl y), two_refl _ _ (fun y _ => by simp), two_refl _ _ (fun y _ => by simp)]
  rfl
theorem bcomm {α : Type} [BEq α] [LawfulBEq α] (a b : α) : (a == b) = (b == a) := by
  by_cases h : a = b
  · subst h; rfl
  · rw [beq_false_of_ne h, beq_false_of_ne (Ne.symm h)]
theorem refSameE : ∀ (k n : Nat) (x y : TExpr), nE x ≤ k → k < n → k ≤ 100000000 → qaD_i n x y = some (sE x y) := by
  intro k
  induction k with
  | zero => intro n x y h; have := nE_eq x; omega
  | succ k ih =>
    intro n x y h hn hb
    obtain ⟨n, rfl⟩ : ∃ q, n = q + 1 := ⟨n - 1, by omega⟩
    have hx := nE_eq x
    have hl := nEs_len x.args
    show qaD_f (qaD_i n) x y = _
    unfold qaD_f
    rw [sE_eq]
    cases h1 : x.kind == y.kind with
    | false => simp [bne, h1]
    | true =>
    cases h2 : x.num == y.num with
    | false => simp [bne, h1, h2]
    | true =>
    cases h3 : x.name == y.name with
    | false => simp [bne, h1, h2, h3]
    | true =>
    by_cases h4 : x.args.length = y.args.length
    · have h4' : ((x.args.length : Int) == (y.args.length : Int)) = true := by rw [h4]; simp
      simp only [bne, h1, h2, h3, h4', Bool.not_true, cond_false, Option.bind_some, Bool.true_and]
      have hL := loop_two sE x.args y.args () (fun m i => qaD_i4 (qaD_i n) m i x.kind x.num x.name x.args y.kind y.num y.name y.args) h4
        (fun m i h0 h => by
          simp only [qaD_i4, qaD_t4, decide_eq_false h, cond_false])
        (fun m i a b h0 h ha hb' ma mb => by
          have := nEs_mem ma
          simp only [qaD_i4, qaD_t4, decide_eq_true h, decide_eq_true h0, cond_true, ha, hb', Option.bind_some]
          rw [ih n a b (by omega) (by omega) (by omega), Option.bind_some, i64_in (i + 1) (by omega)]
          cases sE a b <;> rfl)
        fuel (by unfold fuel; omega)
      rw [qaD_l4, sealF_eq, hL]
      cases two sE x.args y.args <;> rfl
    · have h4' : ((x.args.length : Int) == (y.args.length : Int)) = false := by
        rw [beq_eq_false_iff_ne]; omega
      simp only [bne, h1, h2, h3, h4', Bool.not_true, Bool.not_false, cond_false, cond_true, Option.bind_some, Bool.true_and]
      rw [two_len sE _ _ h4]
theorem refSameExpr (x y : TExpr) (h : nE x ≤ 100000000) : qaD x y = some (sE x y) := by
  rw [qaD, sealF_eq, refSameE (nE x) fuel x y (Nat.le_refl _) (by unfold fuel; omega) (by omega)]
theorem refSameS : ∀ (k n : Nat) (l r : List TStmt), nSs l ≤ k → k < n → k ≤ 100000000 → qaE_i n l r = some (two sS l r) := by
  intro k
  induction k with
  | zero =>
    intro n l r h hn hb
    obtain ⟨n, rfl⟩ : ∃ q, n = q + 1 := ⟨n - 1, by omega⟩
    have hl := nSs_len l
    obtain rfl : l = [] := List.eq_nil_of_length_eq_zero (by omega)
    show qaE_f (qaE_i n) [] r = _
    unfold qaE_f
    cases r with
    | nil =>
      rw [qaE_l4, sealF_eq]
      rfl
    | cons y r =>
      have h4' : ((([] : List TStmt).length : Int) == ((y :: r).length : Int)) = false := by
        rw [beq_eq_false_iff_ne]; simp only [List.length_cons, List.length_nil]; omega
      simp only [bne, h4', Bool.not_false, cond_true, two]
  | succ k ih =>
    intro n l r h hn hb
    obtain ⟨n, rfl⟩ : ∃ q, n = q + 1 := ⟨n - 1, by omega⟩
    have hl := nSs_len l
    show qaE_f (qaE_i n) l r = _
    unfold qaE_f
    by_cases h4 : l.length = r.length
    · have h4' : ((l.length : Int) == (r.length : Int)) = true := by rw [h4]; simp
      simp only [bne, h4', Bool.not_true, cond_false]
      have hL := loop_two sS l r () (fun m i => qaE_i4 (qaE_i n) m l r i) h4
        (fun m i h0 h => by
          simp only [qaE_i4, qaE_t4, decide_eq_false h, cond_false])
        (fun m i a b h0 h ha hb' ma mb => by
          have h5 := nSs_mem ma
          have h6 := nS_eq a
          simp only [qaE_i4, qaE_t4, decide_eq_true h, decide_eq_true h0, cond_true, ha, hb', Option.bind_some, mk_expr]
          rw [ih n a.then_ b.then_ (by omega) (by omega) (by omega), ih n a.else_ b.else_ (by omega) (by omega) (by omega), refSameExpr a.expr b.expr (by omega), i64_in (i + 1) (by omega), sS_eq]
          simp only [Option.bind_some, bne]
          cases (a.kind == b.kind) with
          | false => rfl
          | true =>
          cases (a.reg == b.reg) with
          | false => rfl
          | true =>
          cases (a.name == b.name) with
          | false => rfl
          | true =>
          cases (a.count == b.count) with
          | false => rfl
          | true =>
          cases sE a.expr b.expr with
          | false => rfl
          | true =>
          cases two sS a.then_ b.then_ with
          | false => rfl
          | true =>
          cases two sS a.else_ b.else_ <;> rfl)
        fuel (by unfold fuel; omega)
      rw [qaE_l4, sealF_eq, hL]
      cases two sS l r <;> rfl
    · have h4' : ((l.length : Int) == (r.length : Int)) = false := by
        rw [beq_eq_false_iff_ne]; omega
      simp only [bne, h4', Bool.not_false, cond_true]
      rw [two_len sS _ _ h4]
theorem refSame (p q : TProg) (h : nT p.threads ≤ 100000000) (h1 : p.cells.length ≤ 100000000) (h2 : p.mutexes.length ≤ 100000000) :
    qaC p q = some (sP p q) := by
  rw [qaC, sealF_eq]
  unfold qaC_f
  have hl := nT_len p.threads
  rw [sP]
  by_cases l1 : p.cells.length = q.cells.length
  · have l1' : ((p.cells.length : Int) == (q.cells.length : Int)) = true := by rw [l1]; simp
    by_cases l2 : p.mutexes.length = q.mutexes.length
    · have l2' : ((p.mutexes.length : Int) == (q.mutexes.length : Int)) = true := by rw [l2]; simp
      by_cases l3 : p.threads.length = q.threads.length
      · have l3' : ((p.threads.length : Int) == (q.threads.length : Int)) = true := by rw [l3]; simp
        simp only [bne, l1', l2', l3', Bool.not_true, cond_false, Option.bind_some]
        have hL1 := loop_two (fun x y => decide (x = y)) p.cells q.cells (p.cells, p.mutexes, p.threads, q.cells, q.mutexes, q.threads) (fun m i => qaC_i4 m i p.cells p.mutexes p.threads q.cells q.mutexes q.threads) l1
          (fun m i h0 h => by
            simp only [qaC_i4, qaC_t4, decide_eq_false h, cond_false])
          (fun m i a b h0 h ha hb' ma mb => by
            simp only [qaC_i4, qaC_t4, decide_eq_true h, decide_eq_true h0, cond_true, ha, hb', Option.bind_some]
            rw [i64_in (i + 1) (by omega)]
            cases decide (a = b) <;> rfl)
          fuel (by unfold fuel; omega)
        have hL2 := loop_two (fun x y => x == y) p.mutexes q.mutexes (p.cells, p.mutexes, p.threads, q.cells, q.mutexes, q.threads) (fun m i => qaC_i9 m i p.cells p.mutexes p.threads q.cells q.mutexes q.threads) l2
          (fun m i h0 h => by
            simp only [qaC_i9, qaC_t9, decide_eq_false h, cond_false])
          (fun m i a b h0 h ha hb' ma mb => by
            simp only [qaC_i9, qaC_t9, decide_eq_true h, decide_eq_true h0, cond_true, ha, hb', Option.bind_some]
            rw [i64_in (i + 1) (by omega)]
            cases (a == b) <;> rfl)
          fuel (by unfold fuel; omega)
        have hL3 := loop_two sT p.threads q.threads () (fun m i => qaC_i14 m i p.cells p.mutexes p.threads q.cells q.mutexes q.threads) l3
          (fun m i h0 h => by
            simp only [qaC_i14, qaC_t14, decide_eq_false h, cond_false])
          (fun m i a b h0 h ha hb' ma mb => by
            have h5 := nT_mem ma
            simp only [qaC_i14, qaC_t14, decide_eq_true h, decide_eq_true h0, cond_true, ha, hb', Option.bind_some]
            rw [qaE, sealF_eq, refSameS (nSs a.body) fuel a.body b.body (Nat.le_refl _) (by unfold fuel; omega) (by omega), i64_in (i + 1) (by omega), sT, Option.bind_some]
            cases (a.name == b.name) with
            | false => rfl
            | true => cases two sS a.body b.body <;> rfl)
          fuel (by unfold fuel; omega)
        rw [qaC_l4, sealF_eq, hL1]
        cases two (fun x y => decide (x = y)) p.cells q.cells with
        | false => rfl
        | true =>
        simp only [cond_true, Option.bind_some]
        rw [qaC_l9, sealF_eq, hL2]
        cases two (fun x y => x == y) p.mutexes q.mutexes with
        | false => rfl
        | true =>
        simp only [cond_true, Option.bind_some]
        rw [qaC_l14, sealF_eq, hL3]
        cases two sT p.threads q.threads <;> rfl
      · have l3' : ((p.threads.length : Int) == (q.threads.length : Int)) = false := by
          rw [beq_eq_false_iff_ne]; omega
        simp only [bne, l1', l2', l3', Bool.not_true, Bool.not_false, cond_false, cond_true, Option.bind_some]
        rw [two_len sT _ _ l3, Bool.and_false, Bool.and_false]
    · have l2' : ((p.mutexes.length : Int) == (q.mutexes.length : Int)) = false := by
        rw [beq_eq_false_iff_ne]; omega
      simp only [bne, l1', l2', Bool.not_true, Bool.not_false, cond_false, cond_true, Option.bind_some]
      rw [two_len (fun x y => x == y) _ _ l2, Bool.false_and, Bool.and_false]
  · have l1' : ((p.cells.length : Int) == (q.cells.length : Int)) = false := by
      rw [beq_eq_false_iff_ne]; omega
    simp only [bne, l1', Bool.not_false, cond_true, Option.bind_some]
    rw [two_len (fun x y => decide (x = y)) _ _ l1, Bool.false_and]
end Lift.A3
namespace Lift.A3
open Go Go.RowKit Lift Go.IntWalk Lift.Fn
set_option linter.unusedVariables false
set_option linter.unusedSimpArgs false
theorem equal_shape {α : Type} (f : α → α → Bool) (l r : List α) (L : Option (Bool ⊕ Unit)) (hL : l.length = r.length → L = some (bif two f l r then .inr () else .inl false)) :
    (bif (l.length : Int) != (r.length : Int) then some false else Option.bind L fun y0 => match y0 with | .inl y1 => some y1 | .inr y1 => some true) = some (two f l r) := by
  by_cases h : l.length = r.length
  · have h4' : ((l.length : Int) == (r.length : Int)) = true := by rw [h]; simp
    simp only [bne, h4', Bool.not_true, cond_false]
    rw [hL h]
    cases two f l r <;> rfl
  · have h4' : ((l.length : Int) == (r.length : Int)) = false := by
      rw [beq_eq_false_iff_ne]; omega
    simp only [bne, h4', Bool.not_false, cond_true]
    rw [two_len f _ _ h]
theorem treeSameE : ∀ (k n : Nat) (x y : TExpr), nE x ≤ k → k < n → k ≤ 100000000 → qbr_i n x y = some (sE x y) := by
  intro k
  induction k with
  | zero => intro n x y h; have := nE_eq x; omega
  | succ k ih =>
    intro n x y h hn hb
    obtain ⟨n, rfl⟩ : ∃ q, n = q + 1 := ⟨n - 1, by omega⟩
    have hx := nE_eq x
    have hl := nEs_len x.args
    have e : qaR (qbr_i n) x.args y.args = some (two sE x.args y.args) := by
      rw [qaR, sealF_eq]
      refine equal_shape sE x.args y.args _ (fun h4 => ?_)
      rw [qaR_l4, sealF_eq]
      exact loop_two sE x.args y.args () (fun m i => qaR_i4 (qbr_i n) m y.args x.args x.args.length i) h4
        (fun m i h0 h => by
          simp only [qaR_i4, qaR_t4, decide_eq_false h, cond_false])
        (fun m i a b h0 h ha hb' ma mb => by
          have := nEs_mem ma
          simp only [qaR_i4, qaR_t4, decide_eq_true h, decide_eq_true h0, cond_true, ha, hb', Option.bind_some, mk_expr]
          rw [ih n a b (by omega) (by omega) (by omega), Option.bind_some, i64_in (i + 1) (by omega)]
          cases sE a b <;> rfl)
        fuel (by unfold fuel; omega)
    show qbr_f (qbr_i n) x y = _
    unfold qbr_f
    rw [sE_eq, e]
    cases (x.kind == y.kind) with
    | false => rfl
    | true =>
    cases (x.num == y.num) with
    | false => rfl
    | true =>
    cases (x.name == y.name) with
    | false => rfl
    | true => rfl
theorem treeSameExpr (x y : TExpr) (h : nE x ≤ 100000000) : qbr x y = some (sE x y) := by
  rw [qbr, sealF_eq, treeSameE (nE x) fuel x y (Nat.le_refl _) (by unfold fuel; omega) (by omega)]
theorem treeSameS : ∀ (k n : Nat) (l r : List TStmt), nSs l ≤ k → k < n → k ≤ 100000000 → qaS_i n l r = some (two sS l r) := by
  intro k
  induction k with
  | zero =>
    intro n l r h hn hb
    obtain ⟨n, rfl⟩ : ∃ q, n = q + 1 := ⟨n - 1, by omega⟩
    have hl := nSs_len l
    obtain rfl : l = [] := List.eq_nil_of_length_eq_zero (by omega)
    refine equal_shape sS [] r _ (fun h4 => ?_)
    obtain rfl : r = [] := List.eq_nil_of_length_eq_zero (by simpa using h4.symm)
    rw [qaS_l4, sealF_eq]
    rfl
  | succ k ih =>
    intro n l r h hn hb
    obtain ⟨n, rfl⟩ : ∃ q, n = q + 1 := ⟨n - 1, by omega⟩
    have hl := nSs_len l
    refine equal_shape sS l r _ (fun h4 => ?_)
    rw [qaS_l4, sealF_eq]
    exact loop_two sS l r () (fun m i => qaS_i4 (qaS_i n) m r l l.length i) h4
        (fun m i h0 h => by
          simp only [qaS_i4, qaS_t4, decide_eq_false h, cond_false])
        (fun m i a b h0 h ha hb' ma mb => by
          have h5 := nSs_mem ma
          have h6 := nS_eq a
          simp only [qaS_i4, qaS_t4, decide_eq_true h, decide_eq_true h0, cond_true, ha, hb', Option.bind_some, mk_expr, mk_stmt']
          have e : qbs (qaS_i n) a b = some (sS a b) := by
            rw [qbs, sealF_eq]
            unfold qbs_f
            rw [ih n a.then_ b.then_ (by omega) (by omega) (by omega), ih n a.else_ b.else_ (by omega) (by omega) (by omega), mk_expr, mk_expr, treeSameExpr a.expr b.expr (by omega), sS_eq]
            cases (a.kind == b.kind) with
            | false => rfl
            | true =>
            cases (a.reg == b.reg) with
            | false => rfl
            | true =>
            cases (a.name == b.name) with
            | false => rfl
            | true =>
            cases (a.count == b.count) with
            | false => rfl
            | true =>
            cases sE a.expr b.expr with
            | false => rfl
            | true =>
            cases two sS a.then_ b.then_ with
            | false => rfl
            | true => rfl
          rw [e, Option.bind_some, i64_in (i + 1) (by omega)]
          cases sS a b <;> rfl)
        fuel (by unfold fuel; omega)
theorem treeSame (p q : TProg) (h : nT p.threads ≤ 100000000) (h1 : p.cells.length ≤ 100000000) (h2 : p.mutexes.length ≤ 100000000) :
    qbc p q = some (sP p q) := by
  rw [qbc, sealF_eq]
  unfold qbc_f
  have hl := nT_len p.threads
  have e1 : qaU p.cells q.cells = some (two (fun x y => decide (x = y)) p.cells q.cells) := by
    rw [qaU, sealF_eq]
    refine equal_shape _ p.cells q.cells _ (fun h4 => ?_)
    rw [qaU_l4, sealF_eq]
    exact loop_two (fun x y => decide (x = y)) p.cells q.cells () (fun m i => qaU_i4 m p.cells q.cells p.cells.length i) h4
        (fun m i h0 h => by
          simp only [qaU_i4, qaU_t4, decide_eq_false h, cond_false])
        (fun m i a b h0 h ha hb' ma mb => by
          simp only [qaU_i4, qaU_t4, decide_eq_true h, decide_eq_true h0, cond_true, ha, hb', Option.bind_some]
          rw [i64_in (i + 1) (by omega)]
          cases decide (a = b) <;> rfl)
        fuel (by unfold fuel; omega)
  have e2 : qaV p.mutexes q.mutexes = some (two (fun x y => x == y) p.mutexes q.mutexes) := by
    rw [qaV, sealF_eq]
    refine equal_shape _ p.mutexes q.mutexes _ (fun h4 => ?_)
    rw [qaV_l4, sealF_eq]
    exact loop_two (fun x y => x == y) p.mutexes q.mutexes () (fun m i => qaV_i4 m p.mutexes q.mutexes p.mutexes.length i) h4
        (fun m i h0 h => by
          simp only [qaV_i4, qaV_t4, decide_eq_false h, cond_false])
        (fun m i a b h0 h ha hb' ma mb => by
          simp only [qaV_i4, qaV_t4, decide_eq_true h, decide_eq_true h0, cond_true, ha, hb', Option.bind_some]
          rw [i64_in (i + 1) (by omega)]
          cases (a == b) <;> rfl)
        fuel (by unfold fuel; omega)
  have e3 : qaT p.threads q.threads = some (two sT p.threads q.threads) := by
    rw [qaT, sealF_eq]
    refine equal_shape _ p.threads q.threads _ (fun h4 => ?_)
    rw [qaT_l4, sealF_eq]
    exact loop_two sT p.threads q.threads () (fun m i => qaT_i4 m q.threads p.threads p.threads.length i) h4
        (fun m i h0 h => by
          simp only [qaT_i4, qaT_t4, decide_eq_false h, cond_false])
        (fun m i a b h0 h ha hb' ma mb => by
          have h5 := nT_mem ma
          simp only [qaT_i4, qaT_t4, decide_eq_true h, decide_eq_true h0, cond_true, ha, hb', Option.bind_some]
          have e : qbd (TThread.mk a.name a.body) (TThread.mk b.name b.body) = some (sT a b) := by
            rw [qbd, sealF_eq]
            unfold qbd_f
            show Option.bind (bif a.name == b.name then Option.bind (qaS a.body b.body) fun y0 => some y0 else some false) (fun y1 => some y1) = _
            rw [qaS, sealF_eq, treeSameS (nSs a.body) fuel a.body b.body (Nat.le_refl _) (by unfold fuel; omega) (by omega), sT]
            cases (a.name == b.name) <;> rfl
          rw [e, Option.bind_some, i64_in (i + 1) (by omega)]
          cases sT a b <;> rfl)
        fuel (by unfold fuel; omega)
  rw [e1, e2, e3, sP]
  cases two (fun x y => decide (x = y)) p.cells q.cells with
  | false => rfl
  | true =>
  cases two (fun x y => x == y) p.mutexes q.mutexes with
  | false => rfl
  | true => rfl
end Lift.A3
namespace Lift.A3
open Go Go.RowKit Lift Go.IntWalk Lift.Fn
set_option linter.unusedVariables false
set_option linter.unusedSimpArgs false
theorem loop_own {α : Type} (l : List α) (L : Nat → Int → List α → Option (List α))
    (h0 : ∀ n i s, 0 ≤ i → ¬ i < (l.length : Int) → L (n + 1) i s = some s)
    (h1 : ∀ n i s x, 0 ≤ i → i < (l.length : Int) → l[i.toNat]? = some x → x ∈ l → s.length < l.length → L (n + 1) i s = L n (i + 1) (s ++ [x]))
    (n : Nat) (hn : l.length < n) : L n 0 [] = some l := by
  have := loop_P0 (σ := List α) l (fun r s => s.length + r.length = l.length) (fun r s => s ++ r) L
    (fun m i s h h' _ => by rw [h0 m i s h h', List.append_nil])
    (fun m i s x r h h' hx hm hI => by
      have hI' : s.length + (x :: r).length = l.length := hI
      simp only [List.length_cons] at hI'
      refine Or.inl ⟨s ++ [x], (by show (s ++ [x]).length + r.length = l.length; simp only [List.length_append, List.length_cons, List.length_nil]; omega), ?_, by simp⟩
      exact h1 m i s x h h' hx hm (by omega))
    n [] hn (by simp)
  rw [this]
  rfl
theorem treeCopyE : ∀ (k n : Nat) (x : TExpr), nE x ≤ k → k < n → k ≤ 100000000 → qbe_i n x = some (x.kind, x.num, x.name, x.args) := by
  intro k
  induction k with
  | zero => intro n x h; have := nE_eq x; omega
  | succ k ih =>
    intro n x h hn hb
    obtain ⟨n, rfl⟩ : ∃ q, n = q + 1 := ⟨n - 1, by omega⟩
    have hx := nE_eq x
    have hl := nEs_len x.args
    show qbe_f (qbe_i n) x = _
    unfold qbe_f
    have e : qbn (qbe_i n) x.args = some x.args := by
      rw [qbn, sealF_eq]
      unfold qbn_f
      rw [qbn_l3, sealF_eq, loop_own x.args (fun m i s => qbn_i3 (qbe_i n) m x.args x.args.length i s)
        (fun m i s h0 h => by
          simp only [qbn_i3, qbn_t3, decide_eq_false h, cond_false])
        (fun m i s y h0 h hy hm hs => by
          have hy1 := nEs_mem hm
          simp only [qbn_i3, qbn_t3, decide_eq_true h, decide_eq_true h0, cond_true, hy, Option.bind_some, mk_expr]
          rw [ih n y (by omega) (by omega) (by omega), Option.bind_some, i64_in (i + 1) (by omega)]
          simp only [List.length_cons, List.length_nil, mk_expr]
          rw [decide_eq_true (by omega), cond_true])
        fuel (by unfold fuel; omega), Option.bind_some, qaM, sealF_eq]
      unfold qaM_f
      simp
    rw [e]
    rfl
theorem treeCopyExpr (x : TExpr) (h : nE x ≤ 100000000) : qbe x = some (x.kind, x.num, x.name, x.args) := by
  rw [qbe, sealF_eq, treeCopyE (nE x) fuel x (Nat.le_refl _) (by unfold fuel; omega) (by omega)]
theorem treeCopyS : ∀ (k n : Nat) (l : List TStmt), nSs l ≤ k → k < n → k ≤ 100000000 → qbo_i n l = some l := by
  have clip : ∀ (R : List TStmt → Option (List TStmt)) (l : List TStmt), qaN R l = some l := by
    intro R l
    rw [qaN, sealF_eq]
    unfold qaN_f
    simp
  intro k
  induction k with
  | zero =>
    intro n l h hn _
    obtain ⟨n, rfl⟩ : ∃ q, n = q + 1 := ⟨n - 1, by omega⟩
    have hl := nSs_len l
    obtain rfl : l = [] := List.eq_nil_of_length_eq_zero (by omega)
    show qbo_f (qbo_i n) [] = _
    unfold qbo_f
    rw [qbo_l3, sealF_eq]
    show Option.bind (some []) _ = _
    rw [Option.bind_some, clip]
    rfl
  | succ k ih =>
    intro n l h hn hb
    obtain ⟨n, rfl⟩ : ∃ q, n = q + 1 := ⟨n - 1, by omega⟩
    have hl := nSs_len l
    show qbo_f (qbo_i n) l = _
    unfold qbo_f
    rw [qbo_l3, sealF_eq, loop_own l (fun m i s => qbo_i3 (qbo_i n) m l l.length i s)
      (fun m i s h0 h => by
        simp only [qbo_i3, qbo_t3, decide_eq_false h, cond_false])
      (fun m i s y h0 h hy hm hs => by
        have hy1 := nSs_mem hm
        have hy2 := nS_eq y
        have e : qbf (qbo_i n) y = some (y.kind, y.reg, y.name, y.expr.kind, y.expr.num, y.expr.name, y.count, y.expr.args, y.then_, y.else_) := by
          rw [qbf, sealF_eq]
          unfold qbf_f
          rw [ih n y.then_ (by omega) (by omega) (by omega), ih n y.else_ (by omega) (by omega) (by omega), mk_expr, treeCopyExpr y.expr (by omega)]
          rfl
        simp only [qbo_i3, qbo_t3, decide_eq_true h, decide_eq_true h0, hy, Option.bind_some, mk_expr, mk_stmt', cond_true, e]
        simp only [List.length_cons, List.length_nil]
        rw [decide_eq_true (by omega), cond_true, i64_in (i + 1) (by omega)])
      fuel (by unfold fuel; omega), Option.bind_some, clip]
    rfl
theorem treeCopy (p : TProg) (h : nT p.threads ≤ 100000000) (h1 : p.cells.length ≤ 100000000) (h2 : p.mutexes.length ≤ 100000000) :
    qaX p = some (p.cells, p.mutexes, p.threads) := by
  rw [qaX, sealF_eq]
  unfold qaX_f
  have hl := nT_len p.threads
  have e1 : qbm p.cells = some p.cells := by
    rw [qbm, sealF_eq]
    unfold qbm_f
    rw [qbm_l3, sealF_eq, loop_own p.cells (fun m i s => qbm_i3 m p.cells p.cells.length i s)
      (fun m i s h0 h => by
        simp only [qbm_i3, qbm_t3, decide_eq_false h, cond_false])
      (fun m i s y h0 h hy hm hs => by
        have e : qaY (TCell.mk y.name y.init) = some y := by rw [qaY, sealF_eq]; rfl
        simp only [qbm_i3, qbm_t3, decide_eq_true h, decide_eq_true h0, hy, Option.bind_some, cond_true, e]
        simp only [List.length_cons, List.length_nil]
        rw [decide_eq_true (by omega), cond_true, i64_in (i + 1) (by omega)])
      fuel (by unfold fuel; omega), Option.bind_some, qaL, sealF_eq]
    unfold qaL_f
    simp
  have e2 : qbq p.mutexes = some p.mutexes := by
    rw [qbq, sealF_eq]
    unfold qbq_f
    rw [qbq_l3, sealF_eq, loop_own p.mutexes (fun m i s => qbq_i3 m p.mutexes p.mutexes.length i s)
      (fun m i s h0 h => by
        simp only [qbq_i3, qbq_t3, decide_eq_false h, cond_false])
      (fun m i s y h0 h hy hm hs => by
        have e : qaZ y = some y := by rw [qaZ, sealF_eq]; rfl
        simp only [qbq_i3, qbq_t3, decide_eq_true h, decide_eq_true h0, hy, Option.bind_some, cond_true, e]
        simp only [List.length_cons, List.length_nil]
        rw [decide_eq_true (by omega), cond_true, i64_in (i + 1) (by omega)])
      fuel (by unfold fuel; omega), Option.bind_some, qaP, sealF_eq]
    unfold qaP_f
    simp
  have e3 : qbp p.threads = some p.threads := by
    rw [qbp, sealF_eq]
    unfold qbp_f
    rw [qbp_l3, sealF_eq, loop_own p.threads (fun m i s => qbp_i3 m p.threads p.threads.length i s)
      (fun m i s h0 h => by
        simp only [qbp_i3, qbp_t3, decide_eq_false h, cond_false])
      (fun m i s y h0 h hy hm hs => by
        have hy1 := nT_mem hm
        have e : qa0 (TThread.mk y.name y.body) = some (y.name, y.body) := by
          rw [qa0, sealF_eq]
          unfold qa0_f
          show Option.bind (qbo y.body) _ = _
          rw [qbo, sealF_eq, treeCopyS (nSs y.body) fuel y.body (Nat.le_refl _) (by unfold fuel; omega) (by omega)]
          rfl
        simp only [qbp_i3, qbp_t3, decide_eq_true h, decide_eq_true h0, hy, Option.bind_some, cond_true, e]
        simp only [List.length_cons, List.length_nil]
        rw [decide_eq_true (by omega), cond_true, i64_in (i + 1) (by omega)])
      fuel (by unfold fuel; omega), Option.bind_some, qaO, sealF_eq]
    unfold qaO_f
    simp
  rw [e1, e2, e3]
  rfl
end Lift.A3
namespace Lift.A1P
open Go Go.RowKit Lift Go.IntWalk
namespace Sp
def isRune (r : Int) : Bool := decide (0 ≤ r ∧ r ≤ 1114111 ∧ (r < 55296 ∨ r > 57343))
def letter (r : Int) : Bool := isRune r && decide ((65 ≤ r ∧ r ≤ 90) ∨ r = 95 ∨ (97 ≤ r ∧ r ≤ 122) ∨ 192 ≤ r)
def digit (r : Int) : Bool := decide (48 ≤ r ∧ r ≤ 57)
def blank (r : Int) : Bool := decide (r = 9 ∨ r = 10 ∨ r = 13 ∨ r = 32)
def long (r : Int) : Int := if r < 128 then 1 else if r < 2048 then 2 else if r < 65536 then 3 else 4
def enc (r : Int) : List Int :=
  if r < 128 then [r] else if r < 2048 then [192 + r / 64, 128 + r % 64] else if r < 65536 then [224 + r / 4096, 128 + r / 64 % 64, 128 + r % 64]
  else [240 + r / 262144, 128 + r / 4096 % 64, 128 + r / 64 % 64, 128 + r % 64]
def dc (t : List UInt8) (p : Nat) : Nat × Nat := Utf8.decode ⟨t.toArray⟩ p
def bad (t : List UInt8) (p : Nat) : Bool := decide ((dc t p).1 = 65533) && !(((t.take (min t.length (p + 3))).drop p) == [239, 191, 189])
def at1 (t : List UInt8) (p : Int) : Int := if bad t p.toNat then 0 else ((dc t p.toNat).1 : Int)
def at2 (t : List UInt8) (p : Int) : Int := if bad t p.toNat then 0 else ((dc t p.toNat).2 : Int)
def on (s : Spot) (r n : Int) : Spot := if r = 10 then ⟨s.rune, s.at_ + n, s.line + 1, 1⟩ else ⟨s.rune, s.at_ + n, s.line, s.col + 1⟩
def spotsFrom (t : List UInt8) : Nat → List Spot → Spot → List Spot × Spot
  | 0, acc, s => (acc, s)
  | n + 1, acc, s => if s.at_ < t.length then (if bad t s.at_.toNat then (acc, s) else
      spotsFrom t n (acc ++ [⟨at1 t s.at_, s.at_, s.line, s.col⟩]) (on ⟨at1 t s.at_, s.at_, s.line, s.col⟩ (at1 t s.at_) (at2 t s.at_))) else (acc, s)
def ended (s : Spot) : Spot := ⟨-1, s.at_, s.line, s.col⟩
def spots1 (t : List UInt8) : List Spot := (spotsFrom t t.length [] ⟨0, 0, 1, 1⟩).1
def spots2 (t : List UInt8) : Spot := ended (spotsFrom t t.length [] ⟨0, 0, 1, 1⟩).2
def runes1 (t : List UInt8) : List Spot := if 4000 < t.length then [] else if (spots2 t).at_ < t.length then [] else spots1 t
def runes2 (t : List UInt8) : Fault := if 4000 < t.length then ⟨10, 4000, []⟩ else if (spots2 t).at_ < t.length then ⟨11, (spots2 t).at_, []⟩ else ⟨0, 0, []⟩
def same (a b : List Spot) : Bool := decide (a = b)
end Sp
namespace Sp
def by_ (l : List UInt8) (k : Nat) : Nat := (l.getD k 0).toNat
def ct (l : List UInt8) (k : Nat) : Bool := decide (k < l.length) && (by_ l k / 64 == 2)
def dl (l : List UInt8) : Nat × Nat :=
  if by_ l 0 < 0x80 then (by_ l 0, 1)
  else if by_ l 0 / 32 == 6 && ct l 1 then
    if (by_ l 0 % 32) * 64 + by_ l 1 % 64 ≥ 0x80 then ((by_ l 0 % 32) * 64 + by_ l 1 % 64, 2) else (65533, 1)
  else if by_ l 0 / 16 == 14 && ct l 1 && ct l 2 then
    if (by_ l 0 % 16) * 4096 + (by_ l 1 % 64) * 64 + by_ l 2 % 64 ≥ 0x800 && Utf8.valid (((by_ l 0 % 16) * 4096 + (by_ l 1 % 64) * 64 + by_ l 2 % 64 : Nat) : Int) then ((by_ l 0 % 16) * 4096 + (by_ l 1 % 64) * 64 + by_ l 2 % 64, 3) else (65533, 1)
  else if by_ l 0 / 8 == 30 && ct l 1 && ct l 2 && ct l 3 then
    if (by_ l 0 % 8) * 262144 + (by_ l 1 % 64) * 4096 + (by_ l 2 % 64) * 64 + by_ l 3 % 64 ≥ 0x10000 && Utf8.valid (((by_ l 0 % 8) * 262144 + (by_ l 1 % 64) * 4096 + (by_ l 2 % 64) * 64 + by_ l 3 % 64 : Nat) : Int) then ((by_ l 0 % 8) * 262144 + (by_ l 1 % 64) * 4096 + (by_ l 2 % 64) * 64 + by_ l 3 % 64, 4) else (65533, 1)
  else (65533, 1)
def badl (l : List UInt8) : Bool := decide ((dl l).1 = 65533) && !(l.take 3 == [239, 191, 189])
theorem by_drop (t : List UInt8) (q k : Nat) : by_ (t.drop q) k = (t.getD (q + k) 0).toNat := by
  simp [by_, List.getD_eq_getElem?_getD]
theorem dc_eq (t : List UInt8) (q : Nat) : dc t q = dl (t.drop q) := by
  have hb : ∀ k, ((⟨t.toArray⟩ : ByteArray).get! (q + k)).toNat = by_ (t.drop q) k := by
    intro k
    rw [by_drop]
    simp [ByteArray.get!, List.getD_eq_getElem?_getD, getElem!_def]
    cases t[q + k]? <;> rfl
  have hs : (⟨t.toArray⟩ : ByteArray).size = t.length := by simp [ByteArray.size]
  have hc : ∀ k, (decide (q + k < t.length) && ((by_ (t.drop q) k) / 64 == 2)) = ct (t.drop q) k := by
    intro k
    unfold ct
    have : (q + k < t.length) ↔ (k < (t.drop q).length) := by simp; omega
    simp only [this]
  unfold dc Utf8.decode
  simp only [hb, hs, hc]
  unfold dl
  rfl
theorem bad_eq (t : List UInt8) (q : Nat) : bad t q = badl (t.drop q) := by
  unfold bad badl
  rw [dc_eq]
  congr 2
  have : (t.take (min t.length (q + 3))).drop q = (t.drop q).take 3 := by
    have h1 : t.take (min t.length (q + 3)) = t.take (q + 3) := by
      rcases Nat.le_total t.length (q + 3) with h | h
      · rw [Nat.min_eq_left h, List.take_of_length_le h, List.take_of_length_le (Nat.le_refl _)]
      · rw [Nat.min_eq_right h]
    rw [h1, List.drop_take]
    simp
  rw [this]
end Sp
namespace Sp
theorem take3 (l : List UInt8) : (l.take 3 == [239, 191, 189]) = decide (3 ≤ l.length ∧ by_ l 0 = 239 ∧ by_ l 1 = 191 ∧ by_ l 2 = 189) := by
  have e : ∀ (a b : UInt8), (a == b) = decide (a.toNat = b.toNat) := fun a b => by
    rw [Bool.eq_iff_iff]; simp [UInt8.toNat_inj]
  match l with
  | [] => simp [by_]
  | [a] => simp [by_]
  | [a, b] => simp [by_]
  | a :: b :: c :: r =>
    have : List.take 3 (a :: b :: c :: r) = [a, b, c] := rfl
    rw [this]
    rw [Bool.eq_iff_iff]
    simp [by_, ← UInt8.toNat_inj]
end Sp
def ansA (n b0 b1 b2 b3 : Nat) : Int × Int :=
  let ok (r : Int) (k : Int) : Int × Int := if (0 ≤ r ∧ r ≤ 1114111 ∧ (r < 55296 ∨ r > 57343)) ∧ Sp.long r = k then (r, k) else (0, 0)
  if 240 ≤ b0 then (if n < 4 then (0, 0) else if b1 < 128 ∨ 191 < b1 then (0, 0) else if b2 < 128 ∨ 191 < b2 then (0, 0) else if b3 < 128 ∨ 191 < b3 then (0, 0) else ok (64 * (64 * (64 * (b0 - 240) + b1 - 128) + b2 - 128) + b3 - 128) 4)
  else if 224 ≤ b0 then (if n < 3 then (0, 0) else if b1 < 128 ∨ 191 < b1 then (0, 0) else if b2 < 128 ∨ 191 < b2 then (0, 0) else ok (64 * (64 * (b0 - 224) + b1 - 128) + b2 - 128) 3)
  else if 192 ≤ b0 then (if n < 2 then (0, 0) else if b1 < 128 ∨ 191 < b1 then (0, 0) else ok (64 * (b0 - 192) + b1 - 128) 2)
  else if 128 ≤ b0 then (0, 0) else (b0, 1)
theorem valid_iff (r : Int) : Utf8.valid r = true ↔ (0 ≤ r ∧ r < 55296) ∨ (57344 ≤ r ∧ r ≤ 1114111) := by
  unfold Utf8.valid
  simp only [Bool.or_eq_true, Bool.and_eq_true, decide_eq_true_eq]
theorem ans_dl (l : List UInt8) (hl : 0 < l.length) : ansA l.length (Sp.by_ l 0) (Sp.by_ l 1) (Sp.by_ l 2) (Sp.by_ l 3) = if Sp.badl l then (0, 0) else (((Sp.dl l).1 : Int), ((Sp.dl l).2 : Int)) := by
  have hb : ∀ k, Sp.by_ l k < 256 := fun k => (l.getD k 0).toNat_lt
  have h0 := hb 0
  have h1 := hb 1
  have h2 := hb 2
  have h3 := hb 3
  unfold Sp.badl
  rw [Sp.take3]
  obtain ⟨D, hD⟩ : ∃ D, D = Sp.dl l := ⟨_, rfl⟩
  rw [← hD]
  unfold Sp.dl Sp.ct at hD
  generalize Sp.by_ l 0 = b0 at *
  generalize Sp.by_ l 1 = b1 at *
  generalize Sp.by_ l 2 = b2 at *
  generalize Sp.by_ l 3 = b3 at *
  generalize l.length = n at *
  clear hb
  have small : ∀ r : Int, r < 128 → Sp.long r = 1 := fun r h => by unfold Sp.long; rw [if_pos h]
  have two : ∀ r : Int, 128 ≤ r → r < 2048 → Sp.long r = 2 := fun r h h' => by unfold Sp.long; rw [if_neg (by omega), if_pos h']
  have three : ∀ r : Int, 2048 ≤ r → r < 65536 → Sp.long r = 3 := fun r h h' => by unfold Sp.long; rw [if_neg (by omega), if_neg (by omega), if_pos h']
  have four : ∀ r : Int, 65536 ≤ r → Sp.long r = 4 := fun r h => by unfold Sp.long; rw [if_neg (by omega), if_neg (by omega), if_neg (by omega)]
  simp only [Bool.and_eq_true, decide_eq_true_eq, beq_iff_eq, valid_iff, ge_iff_le] at hD
  simp only [Bool.and_eq_true, decide_eq_true_eq, Bool.not_eq_true', decide_eq_false_iff_not]
  have good : ∀ (r k : Nat), D = (r, k) → ¬ (r = 65533 ∧ ¬ (3 ≤ n ∧ b0 = 239 ∧ b1 = 191 ∧ b2 = 189)) → (if D.1 = 65533 ∧ ¬ (3 ≤ n ∧ b0 = 239 ∧ b1 = 191 ∧ b2 = 189) then ((0 : Int), (0 : Int)) else (↑D.1, ↑D.2)) = ((r : Int), (k : Int)) := by
    intro r k h1 h2
    rw [h1]
    exact if_neg h2
  have badd : D = (65533, 1) → ¬ (3 ≤ n ∧ b0 = 239 ∧ b1 = 191 ∧ b2 = 189) → (if D.1 = 65533 ∧ ¬ (3 ≤ n ∧ b0 = 239 ∧ b1 = 191 ∧ b2 = 189) then ((0 : Int), (0 : Int)) else (↑D.1, ↑D.2)) = (0, 0) := by
    intro h1 h2
    rw [h1]
    exact if_pos ⟨rfl, h2⟩
  unfold ansA
  by_cases k0 : b0 < 128
  · rw [if_neg (by omega), if_neg (by omega), if_neg (by omega), if_neg (by omega)]
    rw [if_pos k0] at hD
    rw [good _ _ hD (by omega)]
    rfl
  rw [if_neg k0] at hD
  by_cases k1 : b0 < 192
  · rw [if_neg (by omega), if_neg (by omega), if_neg (by omega), if_pos (by omega)]
    rw [if_neg (by omega), if_neg (by omega), if_neg (by omega)] at hD
    rw [badd hD (by omega)]
  by_cases k2 : b0 < 224
  · rw [if_neg (by omega), if_neg (by omega), if_pos (by omega)]
    by_cases c1 : n < 2
    · rw [if_neg (by omega), if_neg (by omega), if_neg (by omega)] at hD
      rw [if_pos c1, badd hD (by omega)]
    rw [if_neg c1]
    by_cases c2 : b1 < 128 ∨ 191 < b1
    · rw [if_neg (by omega), if_neg (by omega), if_neg (by omega)] at hD
      rw [if_pos c2, badd hD (by omega)]
    rw [if_neg c2]
    rw [if_pos (by omega)] at hD
    by_cases c3 : 128 ≤ b0 % 32 * 64 + b1 % 64
    · rw [if_pos c3] at hD
      rw [good _ _ hD (by omega)]
      have := two (64 * ((b0 : Int) - 192) + b1 - 128) (by omega) (by omega)
      show (if _ then _ else _) = _
      rw [if_pos ⟨by omega, this⟩]
      simp only [Prod.mk.injEq]
      omega
    · rw [if_neg c3] at hD
      rw [badd hD (by omega)]
      show (if _ then _ else _) = _
      rw [if_neg]
      intro hh
      have := small (64 * ((b0 : Int) - 192) + b1 - 128) (by omega)
      omega
  by_cases k3 : b0 < 240
  · rw [if_neg (by omega), if_pos (by omega)]
    by_cases c1 : n < 3
    · rw [if_neg (by omega), if_neg (by omega), if_neg (by omega)] at hD
      rw [if_pos c1, badd hD (by omega)]
    rw [if_neg c1]
    by_cases c2 : b1 < 128 ∨ 191 < b1
    · rw [if_neg (by omega), if_neg (by omega), if_neg (by omega)] at hD
      rw [if_pos c2, badd hD (by omega)]
    rw [if_neg c2]
    by_cases c3 : b2 < 128 ∨ 191 < b2
    · rw [if_neg (by omega), if_neg (by omega), if_neg (by omega)] at hD
      rw [if_pos c3, badd hD (by omega)]
    rw [if_neg c3]
    rw [if_neg (by omega), if_pos (by omega)] at hD
    have hv : (64 * (64 * ((b0 : Int) - 224) + b1 - 128) + b2 - 128) = ((b0 % 16 * 4096 + b1 % 64 * 64 + b2 % 64 : Nat) : Int) := by omega
    show (if _ then _ else _) = _
    rw [hv]
    obtain ⟨N, hN⟩ : ∃ N, N = b0 % 16 * 4096 + b1 % 64 * 64 + b2 % 64 := ⟨_, rfl⟩
    rw [← hN] at hD ⊢
    by_cases c4 : 2048 ≤ N ∧ (0 ≤ (N : Int) ∧ (N : Int) < 55296 ∨ 57344 ≤ (N : Int) ∧ (N : Int) ≤ 1114111)
    · rw [if_pos c4] at hD
      have h5 := three (N : Int) (by omega) (by omega)
      rw [good N 3 hD (by omega), if_pos (And.intro (by omega) h5)]
      exact Prod.ext rfl rfl
    · rw [if_neg c4] at hD
      rw [badd hD (by omega), if_neg]
      intro hh
      by_cases c5 : N < 128
      · have := small (N : Int) (by omega); omega
      by_cases c6 : N < 2048
      · have := two (N : Int) (by omega) (by omega); omega
      · omega
  · rw [if_pos (by omega)]
    by_cases c1 : n < 4
    · rw [if_neg (by omega), if_neg (by omega), if_neg (by omega)] at hD
      rw [if_pos c1, badd hD (by omega)]
    rw [if_neg c1]
    by_cases c2 : b1 < 128 ∨ 191 < b1
    · rw [if_neg (by omega), if_neg (by omega), if_neg (by omega)] at hD
      rw [if_pos c2, badd hD (by omega)]
    rw [if_neg c2]
    by_cases c3 : b2 < 128 ∨ 191 < b2
    · rw [if_neg (by omega), if_neg (by omega), if_neg (by omega)] at hD
      rw [if_pos c3, badd hD (by omega)]
    rw [if_neg c3]
    by_cases c3' : b3 < 128 ∨ 191 < b3
    · rw [if_neg (by omega), if_neg (by omega), if_neg (by omega)] at hD
      rw [if_pos c3', badd hD (by omega)]
    rw [if_neg c3']
    rw [if_neg (by omega), if_neg (by omega)] at hD
    have hv : (64 * (64 * (64 * ((b0 : Int) - 240) + b1 - 128) + b2 - 128) + b3 - 128) = (((b0 - 240) * 262144 + (b1 - 128) * 4096 + (b2 - 128) * 64 + (b3 - 128) : Nat) : Int) := by omega
    show (if _ then _ else _) = _
    rw [hv]
    by_cases k4 : b0 < 248
    · rw [if_pos (by omega)] at hD
      have hm : b0 % 8 * 262144 + b1 % 64 * 4096 + b2 % 64 * 64 + b3 % 64 = (b0 - 240) * 262144 + (b1 - 128) * 4096 + (b2 - 128) * 64 + (b3 - 128) := by omega
      rw [hm] at hD
      obtain ⟨N, hN⟩ : ∃ N, N = (b0 - 240) * 262144 + (b1 - 128) * 4096 + (b2 - 128) * 64 + (b3 - 128) := ⟨_, rfl⟩
      rw [← hN] at hD ⊢
      by_cases c4 : 65536 ≤ N ∧ (0 ≤ (N : Int) ∧ (N : Int) < 55296 ∨ 57344 ≤ (N : Int) ∧ (N : Int) ≤ 1114111)
      · rw [if_pos c4] at hD
        have h5 := four (N : Int) (by omega)
        rw [good N 4 hD (by omega), if_pos (And.intro (by omega) h5)]
        exact Prod.ext rfl rfl
      · rw [if_neg c4] at hD
        rw [badd hD (by omega), if_neg]
        intro hh
        by_cases c5 : N < 128
        · have := small (N : Int) (by omega); omega
        by_cases c6 : N < 2048
        · have := two (N : Int) (by omega) (by omega); omega
        by_cases c7 : N < 65536
        · have := three (N : Int) (by omega) (by omega); omega
        · omega
    · rw [if_neg (by omega)] at hD
      rw [badd hD (by omega), if_neg]
      intro hh
      omega
def okSpot (t : List UInt8) (s : Spot) : Prop := t.length ≤ 4000 ∧ 0 ≤ s.at_ ∧ s.at_ ≤ t.length ∧ 1 ≤ s.line ∧ s.line ≤ s.at_ + 1 ∧ 1 ≤ s.col ∧ s.col ≤ s.at_ + 1
noncomputable def goneTo (t : List UInt8) (l : List Spot) (s : Spot) : List Spot × Spot := Sp.spotsFrom t (t.length - s.at_.toNat) l s
namespace Sp
theorem dl_pos (l : List UInt8) (h : 0 < l.length) : 1 ≤ (dl l).2 ∧ (dl l).2 ≤ 4 ∧ (dl l).2 ≤ l.length := by
  unfold dl ct
  simp only [Bool.and_eq_true, decide_eq_true_eq]
  repeat' split
  all_goals simp only
  all_goals omega
theorem ansA_ok (n b0 b1 b2 b3 : Nat) (h : b0 < 256) : ansA n b0 b1 b2 b3 = (0, 0) ∨ (isRune (ansA n b0 b1 b2 b3).1 = true ∧ long (ansA n b0 b1 b2 b3).1 = (ansA n b0 b1 b2 b3).2) := by
  unfold ansA
  simp only
  by_cases a1 : 240 ≤ b0
  · rw [if_pos a1]
    repeat' split
    all_goals first | exact .inl rfl | (rename_i hc; exact .inr ⟨by simpa only [isRune, decide_eq_true_eq] using hc.1, hc.2⟩)
  rw [if_neg a1]
  by_cases a2 : 224 ≤ b0
  · rw [if_pos a2]
    repeat' split
    all_goals first | exact .inl rfl | (rename_i hc; exact .inr ⟨by simpa only [isRune, decide_eq_true_eq] using hc.1, hc.2⟩)
  rw [if_neg a2]
  by_cases a3 : 192 ≤ b0
  · rw [if_pos a3]
    repeat' split
    all_goals first | exact .inl rfl | (rename_i hc; exact .inr ⟨by simpa only [isRune, decide_eq_true_eq] using hc.1, hc.2⟩)
  rw [if_neg a3]
  by_cases a4 : 128 ≤ b0
  · rw [if_pos a4]; exact .inl rfl
  rw [if_neg a4]
  exact .inr ⟨by simp only [isRune, decide_eq_true_eq]; omega, by unfold long; rw [if_pos (by omega)]⟩
theorem good_at {t : List UInt8} {p : Int} (hp : 0 ≤ p) (h : p < t.length) (hb : bad t p.toNat = false) : isRune (at1 t p) = true ∧ long (at1 t p) = at2 t p ∧ 1 ≤ at2 t p ∧ at2 t p ≤ 4 ∧ p + at2 t p ≤ t.length ∧
    at1 t p = (dc t p.toNat).1 ∧ at2 t p = (dc t p.toNat).2 := by
  have hl : 0 < (t.drop p.toNat).length := by simp; omega
  obtain ⟨h1, h2, h3⟩ := dl_pos _ hl
  have h4 := ans_dl _ hl
  rw [← bad_eq, hb, ← dc_eq] at h4
  rw [← dc_eq] at h1 h2 h3
  have hlen : ((t.drop p.toNat).length : Int) = t.length - p := by simp; omega
  unfold at1 at2
  rw [hb]
  simp only [Bool.false_eq_true, if_false] at h4 ⊢
  rcases ansA_ok (t.drop p.toNat).length (by_ (t.drop p.toNat) 0) (by_ (t.drop p.toNat) 1) (by_ (t.drop p.toNat) 2) (by_ (t.drop p.toNat) 3) ((t.drop p.toNat).getD 0 0).toNat_lt with h5 | ⟨h5, h6⟩
  · rw [h4] at h5
    simp only [Prod.mk.injEq] at h5
    omega
  · rw [h4] at h5 h6
    exact ⟨h5, h6, by omega, by omega, by omega, by simp⟩
theorem fuel (t : List UInt8) : ∀ (n m : Nat) (l : List Spot) (s : Spot), 0 ≤ s.at_ → t.length - s.at_.toNat ≤ n → t.length - s.at_.toNat ≤ m → spotsFrom t n l s = spotsFrom t m l s := by
  intro n
  induction n with
  | zero =>
    intro m l s h0 h1 h2
    have hc : ¬ s.at_ < t.length := by omega
    cases m with
    | zero => rfl
    | succ m => simp only [spotsFrom, if_neg hc]
  | succ n ih =>
    intro m l s h0 h1 h2
    by_cases hc : s.at_ < t.length
    · cases m with
      | zero => omega
      | succ m =>
        simp only [spotsFrom, if_pos hc]
        cases hb : bad t s.at_.toNat with
        | true => rfl
        | false =>
          simp only [Bool.false_eq_true, if_false]
          obtain ⟨g1, g2, g3, g4, g5, _⟩ := good_at h0 hc hb
          have ha : ∀ x : Spot, (on x (at1 t s.at_) (at2 t s.at_)).at_ = x.at_ + at2 t s.at_ := fun x => by unfold on; split <;> rfl
          refine ih m _ _ ?_ ?_ ?_ <;> rw [ha] <;> simp only <;> omega
    · cases m with
      | zero => simp only [spotsFrom, if_neg hc]
      | succ m => simp only [spotsFrom, if_neg hc]
end Sp
theorem goneTo_end {t : List UInt8} {l : List Spot} {s : Spot} (h : ¬ s.at_ < t.length) : goneTo t l s = (l, s) := by
  unfold goneTo
  cases t.length - s.at_.toNat with
  | zero => rfl
  | succ n => simp only [Sp.spotsFrom, if_neg h]
theorem goneTo_bad {t : List UInt8} {l : List Spot} {s : Spot} (hb : Sp.bad t s.at_.toNat = true) : goneTo t l s = (l, s) := by
  unfold goneTo
  cases t.length - s.at_.toNat with
  | zero => rfl
  | succ n => simp only [Sp.spotsFrom, hb, if_true]; split <;> rfl
def here (t : List UInt8) (s : Spot) : Spot := ⟨Sp.at1 t s.at_, s.at_, s.line, s.col⟩
def after (t : List UInt8) (s : Spot) : Spot := Sp.on (here t s) (Sp.at1 t s.at_) (Sp.at2 t s.at_)
theorem after_at (t : List UInt8) (s : Spot) : (after t s).at_ = s.at_ + Sp.at2 t s.at_ := by
  unfold after Sp.on here
  split <;> rfl
theorem goneTo_step {t : List UInt8} {l : List Spot} {s : Spot} (h0 : 0 ≤ s.at_) (h : s.at_ < t.length) (hb : Sp.bad t s.at_.toNat = false) : goneTo t l s = goneTo t (l ++ [here t s]) (after t s) := by
  unfold goneTo
  obtain ⟨n, hn⟩ : ∃ n, t.length - s.at_.toNat = n + 1 := ⟨t.length - s.at_.toNat - 1, by omega⟩
  obtain ⟨g1, g2, g3, g4, g5, _⟩ := Sp.good_at h0 h hb
  rw [hn]
  simp only [Sp.spotsFrom, if_pos h, hb, Bool.false_eq_true, if_false]
  have ha := after_at t s
  exact Sp.fuel t _ _ _ _ (by unfold after here at ha; omega) (by unfold after here at ha; omega) (Nat.le_refl _)
theorem okSpot_after {t : List UInt8} {s : Spot} (h : okSpot t s) (hlt : s.at_ < t.length) (hb : Sp.bad t s.at_.toNat = false) : okSpot t (after t s) := by
  obtain ⟨h1, h2, h3, h4, h5, h6, h7⟩ := h
  obtain ⟨g1, g2, g3, g4, g5, _⟩ := Sp.good_at h2 hlt hb
  unfold okSpot after Sp.on here
  split <;> simp only <;> omega
theorem from_rune (t : List UInt8) : ∀ (n : Nat) (l : List Spot) (s s' : Spot), Sp.ended s = Sp.ended s' → (Sp.spotsFrom t n l s).1 = (Sp.spotsFrom t n l s').1 ∧ Sp.ended (Sp.spotsFrom t n l s).2 = Sp.ended (Sp.spotsFrom t n l s').2 := by
  intro n l s s' h
  obtain ⟨r, a, b, c⟩ := s
  obtain ⟨r', a', b', c'⟩ := s'
  simp only [Sp.ended, Spot.mk.injEq, true_and] at h
  obtain ⟨rfl, rfl, rfl⟩ := h
  cases n with
  | zero => exact ⟨rfl, rfl⟩
  | succ n =>
    simp only [Sp.spotsFrom]
    split
    · split
      · exact ⟨rfl, rfl⟩
      · exact ⟨rfl, rfl⟩
    · exact ⟨rfl, rfl⟩
theorem gone_rune (t : List UInt8) (l : List Spot) (r r' a b c : Int) : (goneTo t l ⟨r, a, b, c⟩).1 = (goneTo t l ⟨r', a, b, c⟩).1 ∧ (goneTo t l ⟨r, a, b, c⟩).2.at_ = (goneTo t l ⟨r', a, b, c⟩).2.at_ ∧
    (goneTo t l ⟨r, a, b, c⟩).2.line = (goneTo t l ⟨r', a, b, c⟩).2.line ∧ (goneTo t l ⟨r, a, b, c⟩).2.col = (goneTo t l ⟨r', a, b, c⟩).2.col := by
  have := from_rune t (t.length - a.toNat) l ⟨r, a, b, c⟩ ⟨r', a, b, c⟩ rfl
  unfold goneTo
  obtain ⟨h1, h2⟩ := this
  simp only [Sp.ended, Spot.mk.injEq, true_and] at h2
  exact ⟨h1, h2.1, h2.2.1, h2.2.2⟩
end Lift.A1P
namespace Lift.A1P
open Go Go.RowKit Lift Go.IntWalk Lift.Fn
theorem someBq {a b : Bool} (h : a = true ↔ b = true) : some a = some b := by rw [Bool.eq_iff_iff.2 h]
theorem digit1 (r : Int) : qaG r = some (Sp.digit r) := by
  rw [qaG, sealF_eq]
  unfold qaG_f
  simp only [cond_eq_ite]
  split
  all_goals refine someBq ?_
  all_goals simp only [Sp.digit, decide_eq_true_eq, decide_eq_false_iff_not, Bool.false_eq_true, false_iff, Bool.not_eq_true] at *
  all_goals omega
theorem blank1 (r : Int) : qaF r = some (Sp.blank r) := by
  rw [qaF, sealF_eq]
  unfold qaF_f
  simp only [cond_eq_ite]
  repeat' split
  all_goals refine someBq ?_
  all_goals simp only [Sp.blank, beq_iff_eq, decide_eq_true_eq, decide_eq_false_iff_not, Bool.false_eq_true, false_iff, true_iff, Bool.not_eq_true] at *
  all_goals omega
theorem valid1 (r : Int) : qbw r = some (Sp.isRune r) := by
  rw [qbw, sealF_eq]
  unfold qbw_f
  simp only [cond_eq_ite]
  repeat' split
  all_goals refine someBq ?_
  all_goals simp only [Sp.isRune, beq_iff_eq, decide_eq_true_eq, decide_eq_false_iff_not, Bool.false_eq_true, false_iff, true_iff, Bool.not_eq_true] at *
  all_goals omega
theorem whole1 (r : Int) : qaK r = some (Sp.isRune r) := by
  rw [qaK, sealF_eq]
  unfold qaK_f
  simp only [cond_eq_ite]
  repeat' split
  · simp only [decide_eq_true_eq] at *
    rw [valid1, i32_in r (by omega)]
    rfl
  all_goals refine someBq ?_
  all_goals simp only [Sp.isRune, beq_iff_eq, decide_eq_true_eq, decide_eq_false_iff_not, Bool.false_eq_true, false_iff, true_iff, Bool.not_eq_true] at *
  all_goals omega
theorem letter1 (r : Int) : qaH r = some (Sp.letter r) := by
  rw [qaH, sealF_eq]
  unfold qaH_f
  simp only [cond_eq_ite, whole1, Option.bind_some]
  repeat' split
  all_goals refine someBq ?_
  all_goals simp only [Sp.letter, Sp.isRune, beq_iff_eq, Bool.and_eq_true, decide_eq_true_eq, decide_eq_false_iff_not, Bool.false_eq_true, false_iff, true_iff, Bool.not_eq_true] at *
  all_goals omega
theorem len1 (r : Int) (h : Sp.isRune r = true) : qbv r = some (Sp.long r) := by
  simp only [Sp.isRune, decide_eq_true_eq] at h
  rw [qbv, sealF_eq]
  unfold qbv_f Sp.long
  simp only [cond_eq_ite, decide_eq_true_eq]
  repeat' split
  all_goals first | rfl | omega
theorem okSpot_lo {t : List UInt8} {s : Spot} (h : okSpot t s) : 0 ≤ s.at_ ∧ s.at_ ≤ t.length ∧ t.length ≤ 4000 ∧ 1 ≤ s.line ∧ s.line ≤ s.at_ + 1 ∧ 1 ≤ s.col ∧ s.col ≤ s.at_ + 1 :=
  ⟨h.2.1, h.2.2.1, h.1, h.2.2.2.1, h.2.2.2.2.1, h.2.2.2.2.2.1, h.2.2.2.2.2.2⟩
theorem goneL (s : List UInt8) (a1 a2 a3 a4 : Int) : ∀ (k n : Nat) (c2 c3 c4 : Int) (pos : Nat) (l : List Spot), s.length - c2.toNat ≤ k → k < n → okSpot s ⟨-1, c2, c3, c4⟩ → (l.length : Int) ≤ c2 → (pos : Int) = c2 →
    qaJ_i4 n s a1 a2 a3 a4 (-1) c2 c3 c4 s pos l = some (if (goneTo s l ⟨-1, c2, c3, c4⟩).2.at_ < s.length then
      .inl (-1, (goneTo s l ⟨-1, c2, c3, c4⟩).2.at_, (goneTo s l ⟨-1, c2, c3, c4⟩).2.line, (goneTo s l ⟨-1, c2, c3, c4⟩).2.col, (goneTo s l ⟨-1, c2, c3, c4⟩).1)
      else .inr (a1, a2, a3, a4, -1, (goneTo s l ⟨-1, c2, c3, c4⟩).2.at_, (goneTo s l ⟨-1, c2, c3, c4⟩).2.line, (goneTo s l ⟨-1, c2, c3, c4⟩).2.col, (goneTo s l ⟨-1, c2, c3, c4⟩).1)) := by
  intro k
  induction k with
  | zero =>
    intro n c2 c3 c4 pos l hk hn hok hl hp
    obtain ⟨n, rfl⟩ : ∃ q, n = q + 1 := ⟨n - 1, by omega⟩
    have := okSpot_lo hok
    simp only at this
    have c : ¬ c2 < s.length := by omega
    have c' : ¬ pos < s.length := by omega
    rw [goneTo_end (s := ⟨-1, c2, c3, c4⟩) c, if_neg c]
    simp only [qaJ_i4, qaJ_t4, c', decide_false, cond_false]
  | succ k ih =>
    intro n c2 c3 c4 pos l hk hn hok hl hp
    obtain ⟨n, rfl⟩ : ∃ q, n = q + 1 := ⟨n - 1, by omega⟩
    obtain ⟨h2, h3, h1, h4, h5, h6, h7⟩ := okSpot_lo hok
    simp only at h2 h3 h4 h5 h6 h7
    have hq : pos = c2.toNat := by omega
    simp only [qaJ_i4, qaJ_t4]
    by_cases c : c2 < s.length
    · have hlt : pos < s.length := by omega
      have hdc : Utf8.decode ⟨s.toArray⟩ pos = Sp.dc s c2.toNat := by rw [hq]; rfl
      rw [hdc]
      rw [i64_in ((pos : Int) + 3) (by omega)]
      have hmin : (if (pos : Int) + 3 < (s.length : Int) then (pos : Int) + 3 else (s.length : Int)) = (min s.length (c2.toNat + 3) : Nat) := by
        split <;> omega
      rw [hmin]
      have hslice : List.drop (Int.toNat (pos : Int)) (List.take (Int.toNat ((min s.length (c2.toNat + 3) : Nat) : Int)) s) = (s.take (min s.length (c2.toNat + 3))).drop c2.toNat := by
        rw [Int.toNat_natCast, Int.toNat_natCast, hq]
      rw [hslice]
      have hbnd : (decide ((0 : Int) ≤ (pos : Int)) && (decide ((pos : Int) ≤ (min s.length (c2.toNat + 3) : Nat)) && decide (((min s.length (c2.toNat + 3) : Nat) : Int) ≤ (s.length : Int)))) = true := by
        simp only [Bool.and_eq_true, decide_eq_true_eq]; omega
      rw [hbnd]
      have hbad : Sp.bad s c2.toNat = (decide ((Sp.dc s c2.toNat).1 = 65533) && !(((s.take (min s.length (c2.toNat + 3))).drop c2.toNat) == [239, 191, 189])) := rfl
      simp only [hlt, decide_true, cond_true]
      cases hb : Sp.bad s c2.toNat with
      | true =>
        rw [hb] at hbad
        have hbad := hbad.symm
        simp only [Bool.and_eq_true, decide_eq_true_eq] at hbad
        have e1 : (((Sp.dc s c2.toNat).1 : Int) == 65533) = true := by rw [beq_iff_eq]; omega
        rw [e1, hbad.2]
        simp only [cond_true]
        rw [goneTo_bad (s := ⟨-1, c2, c3, c4⟩) hb, if_pos c]
      | false =>
        obtain ⟨g1, g2, g3, g4, g5, g6, g7⟩ := Sp.good_at h2 c hb
        rw [goneTo_step (s := ⟨-1, c2, c3, c4⟩) h2 c hb]
        generalize hR : (some (ite ((goneTo s (l ++ [here s ⟨-1, c2, c3, c4⟩]) (after s ⟨-1, c2, c3, c4⟩)).2.at_ < (s.length : Int)) _ _) : Option _) = R
        have hk' := okSpot_after hok c hb
        have haf := after_at s ⟨-1, c2, c3, c4⟩
        simp only at haf
        have hrune : Sp.isRune ((Sp.dc s c2.toNat).1 : Int) = true := by rw [← g6]; exact g1
        have hlong : Sp.long ((Sp.dc s c2.toNat).1 : Int) = Sp.at2 s c2 := by rw [← g6]; exact g2
        have hr : (0 : Int) ≤ (Sp.dc s c2.toNat).1 ∧ ((Sp.dc s c2.toNat).1 : Int) ≤ 1114111 := by
          simp only [Sp.isRune, decide_eq_true_eq] at hrune; omega
        rw [len1 _ hrune, hlong, Option.bind_some]
        rw [i64_in ((Sp.dc s c2.toNat).1 : Int) (by omega), i64_in (c2 + Sp.at2 s c2) (by omega), i64_in (c3 + 1) (by omega), i64_in (c4 + 1) (by omega)]
        have hhere : here s ⟨-1, c2, c3, c4⟩ = ⟨((Sp.dc s c2.toNat).1 : Int), c2, c3, c4⟩ := by unfold here; rw [g6]
        have go : ∀ (b3 b4 : Int), (after s ⟨-1, c2, c3, c4⟩).line = b3 → (after s ⟨-1, c2, c3, c4⟩).col = b4 →
            qaJ_i4 n s a1 a2 a3 a4 (-1) (c2 + Sp.at2 s c2) b3 b4 s (pos + (Sp.dc s c2.toNat).2) (l ++ [⟨((Sp.dc s c2.toNat).1 : Int), c2, c3, c4⟩]) =
              R := by
          intro b3 b4 e3 e4
          rw [← hR]
          have hk2 : okSpot s ⟨-1, c2 + Sp.at2 s c2, b3, b4⟩ := by
            obtain ⟨q1, q2, q3, q4, q5, q6, q7⟩ := hk'
            rw [haf] at q2 q3 q5 q7
            rw [e3] at q4 q5
            rw [e4] at q6 q7
            exact ⟨q1, q2, q3, q4, q5, q6, q7⟩
          have heta : after s ⟨-1, c2, c3, c4⟩ = ⟨(after s ⟨-1, c2, c3, c4⟩).rune, c2 + Sp.at2 s c2, b3, b4⟩ := by
            rw [← haf, ← e3, ← e4]
          rw [ih n _ _ _ _ _ (by omega) (by omega) hk2 (by simp only [List.length_append, List.length_cons, List.length_nil]; omega) (by omega)]
          rw [hhere, heta]
          obtain ⟨y1, y2, y3, y4⟩ := gone_rune s (l ++ [⟨((Sp.dc s c2.toNat).1 : Int), c2, c3, c4⟩]) (-1) (after s ⟨-1, c2, c3, c4⟩).rune (c2 + Sp.at2 s c2) b3 b4
          rw [y1, y2, y3, y4]
        have main : (bif decide ((List.length l + List.length [Spot.mk ((Sp.dc s c2.toNat).1 : Int) c2 c3 c4]) * (32 : Nat) ≤ (140737488355328 : Nat) ∧ List.length l + List.length [Spot.mk ((Sp.dc s c2.toNat).1 : Int) c2 c3 c4] ≤ (9223372036854775807 : Nat)) then
              bif ((Sp.dc s c2.toNat).1 : Int) == (10 : Int) then
                qaJ_i4 n s a1 a2 a3 a4 (-1) (c2 + Sp.at2 s c2) (c3 + 1) 1 s (pos + (Sp.dc s c2.toNat).2) (l ++ [⟨((Sp.dc s c2.toNat).1 : Int), c2, c3, c4⟩])
              else
                qaJ_i4 n s a1 a2 a3 a4 (-1) (c2 + Sp.at2 s c2) c3 (c4 + 1) s (pos + (Sp.dc s c2.toNat).2) (l ++ [⟨((Sp.dc s c2.toNat).1 : Int), c2, c3, c4⟩])
            else none) = R := by
          have hlen1 : ((List.length l + List.length [Spot.mk ((Sp.dc s c2.toNat).1 : Int) c2 c3 c4]) * (32 : Nat) ≤ (140737488355328 : Nat) ∧ List.length l + List.length [Spot.mk ((Sp.dc s c2.toNat).1 : Int) c2 c3 c4] ≤ (9223372036854775807 : Nat)) := by
            simp only [List.length_cons, List.length_nil]; omega
          rw [decide_eq_true hlen1, cond_true]
          cases e10 : (((Sp.dc s c2.toNat).1 : Int) == 10) with
          | true =>
            have : Sp.at1 s c2 = 10 := by rw [g6]; exact beq_iff_eq.1 e10
            exact go _ _ (by simp [after, here, Sp.on, this]) (by simp [after, here, Sp.on, this])
          | false =>
            have : ¬ Sp.at1 s c2 = 10 := by rw [g6]; exact beq_eq_false_iff_ne.1 e10
            exact go _ _ (by simp [after, here, Sp.on, this]) (by simp [after, here, Sp.on, this])
        cases e1 : (((Sp.dc s c2.toNat).1 : Int) == 65533) with
        | true =>
          rw [hb] at hbad
          have e2 : decide ((Sp.dc s c2.toNat).1 = 65533) = true := by
            have := beq_iff_eq.1 e1
            rw [decide_eq_true_eq]; omega
          rw [e2, Bool.true_and] at hbad
          rw [← hbad]
          simp only [cond_true, cond_false]
          exact main
        | false =>
          simp only [cond_false]
          exact main
    · have hlt : ¬ pos < s.length := by omega
      simp only [hlt, decide_false, cond_false]
      rw [goneTo_end (s := ⟨-1, c2, c3, c4⟩) c, if_neg c]
theorem gone1 (t : List UInt8) (h : t.length ≤ 4000) : qaJ t = some (Sp.spots2 t, Sp.spots1 t) := by
  have g : goneTo t [] ⟨0, 0, 1, 1⟩ = Sp.spotsFrom t t.length [] ⟨0, 0, 1, 1⟩ := rfl
  obtain ⟨y1, y2, y3, y4⟩ := gone_rune t [] (-1) 0 0 1 1
  rw [g] at y1 y2 y3 y4
  have e2 : (⟨-1, (goneTo t [] ⟨-1, 0, 1, 1⟩).2.at_, (goneTo t [] ⟨-1, 0, 1, 1⟩).2.line, (goneTo t [] ⟨-1, 0, 1, 1⟩).2.col⟩ : Spot) = Sp.spots2 t := by
    rw [y2, y3, y4]; rfl
  have e1 : (goneTo t [] ⟨-1, 0, 1, 1⟩).1 = Sp.spots1 t := y1
  rw [qaJ, sealF_eq]
  unfold qaJ_f
  rw [qaJ_l4, sealF_eq, goneL t _ _ _ _ t.length fuel 0 1 1 0 [] (by simp) (by unfold fuel; omega) (by unfold okSpot; simp only; omega) (by simp) (by simp), Option.bind_some]
  split
  · rename_i y heq
    split at heq
    · cases heq
      simp only [e1, e2]
    · cases heq
  · rename_i y heq
    split at heq
    · cases heq
    · cases heq
      simp only [e1, e2]
theorem runes1_ (t : List UInt8) : qaI t = some (Sp.runes2 t, Sp.runes1 t) := by
  rw [qaI, sealF_eq]
  unfold qaI_f Sp.runes1 Sp.runes2
  simp only [cond_eq_ite, decide_eq_true_eq]
  by_cases h : 4000 < t.length
  · rw [if_pos (show (t.length : Int) > 4000 by omega), if_pos h, if_pos h]
  · rw [if_neg (show ¬ (t.length : Int) > 4000 by omega), if_neg h, if_neg h, gone1 t (by omega), Option.bind_some]
    by_cases h2 : (Sp.spots2 t).at_ < t.length
    · rw [if_pos h2, if_pos h2, if_pos h2]
    · rw [if_neg h2, if_neg h2, if_neg h2]
end Lift.A1P
namespace Lift.A1P
open Go Go.RowKit Lift Go.IntWalk Lift.Fn
theorem bytes_len (l : List Int) : (bytesOf l).length = l.length := by simp [bytesOf]
def encB (r : Int) : List UInt8 := bytesOf (Sp.enc r)
def encs (rs : List Int) : List UInt8 := rs.flatMap encB
theorem encs_cons (r : Int) (rs : List Int) : encs (r :: rs) = encB r ++ encs rs := rfl
theorem encs_append (a b : List Int) : encs (a ++ b) = encs a ++ encs b := by simp [encs]
theorem toNat_of (n : Nat) (h : n < 256) : (UInt8.ofNat n).toNat = n := by
  simp [UInt8.toNat_ofNat']
  omega
theorem encB_len (r : Int) : (encB r).length = (Sp.long r).toNat := by
  unfold encB Sp.enc Sp.long
  rw [bytes_len]
  repeat' split
  all_goals rfl
theorem by0 (a : UInt8) (l : List UInt8) : Sp.by_ (a :: l) 0 = a.toNat := rfl
theorem by1 (a b : UInt8) (l : List UInt8) : Sp.by_ (a :: b :: l) 1 = b.toNat := rfl
theorem by2 (a b c : UInt8) (l : List UInt8) : Sp.by_ (a :: b :: c :: l) 2 = c.toNat := rfl
theorem by3 (a b c d : UInt8) (l : List UInt8) : Sp.by_ (a :: b :: c :: d :: l) 3 = d.toNat := rfl
theorem badl_of {l : List UInt8} {r k : Nat} (h : Sp.dl l = (r, k)) (h2 : r ≠ 65533 ∨ (3 ≤ l.length ∧ Sp.by_ l 0 = 239 ∧ Sp.by_ l 1 = 191 ∧ Sp.by_ l 2 = 189)) : Sp.badl l = false := by
  unfold Sp.badl
  rw [h, Sp.take3]
  rcases h2 with h2 | h2
  · simp [h2]
  · simp [h2]
theorem dl_enc (r : Int) (rest : List UInt8) (h : Sp.isRune r = true) : Sp.dl (encB r ++ rest) = (r.toNat, (Sp.long r).toNat) ∧ Sp.badl (encB r ++ rest) = false := by
  simp only [Sp.isRune, decide_eq_true_eq] at h
  by_cases a1 : r < 128
  · have e : encB r ++ rest = UInt8.ofNat r.toNat :: rest := by simp [encB, bytesOf, Sp.enc, a1]
    have hl : (Sp.long r).toNat = 1 := by unfold Sp.long; rw [if_pos a1]; rfl
    rw [e, hl]
    have hd : Sp.dl (UInt8.ofNat r.toNat :: rest) = (r.toNat, 1) := by
      unfold Sp.dl
      rw [by0, toNat_of _ (by omega), if_pos (by omega)]
    exact ⟨hd, badl_of hd (.inl (by omega))⟩
  by_cases a2 : r < 2048
  · have e : encB r ++ rest = UInt8.ofNat (192 + r.toNat / 64) :: UInt8.ofNat (128 + r.toNat % 64) :: rest := by
      unfold encB Sp.enc bytesOf
      rw [if_neg a1, if_pos a2]
      simp only [List.map_cons, List.map_nil, List.cons_append, List.nil_append]
      rw [show (192 + r / 64).toNat = 192 + r.toNat / 64 by omega, show (128 + r % 64).toNat = 128 + r.toNat % 64 by omega]
    have hl : (Sp.long r).toNat = 2 := by unfold Sp.long; rw [if_neg a1, if_pos a2]; rfl
    rw [e, hl]
    have hd : Sp.dl (UInt8.ofNat (192 + r.toNat / 64) :: UInt8.ofNat (128 + r.toNat % 64) :: rest) = (r.toNat, 2) := by
      unfold Sp.dl Sp.ct
      rw [by0, by1, toNat_of _ (by omega), toNat_of _ (by omega)]
      simp only [List.length_cons, Bool.and_eq_true, decide_eq_true_eq, beq_iff_eq]
      rw [if_neg (by omega), if_pos (by omega), if_pos (by omega)]
      rw [show (192 + r.toNat / 64) % 32 * 64 + (128 + r.toNat % 64) % 64 = r.toNat by omega]
    exact ⟨hd, badl_of hd (.inl (by omega))⟩
  by_cases a3 : r < 65536
  · have e : encB r ++ rest = UInt8.ofNat (224 + r.toNat / 4096) :: UInt8.ofNat (128 + r.toNat / 64 % 64) :: UInt8.ofNat (128 + r.toNat % 64) :: rest := by
      unfold encB Sp.enc bytesOf
      rw [if_neg a1, if_neg a2, if_pos a3]
      simp only [List.map_cons, List.map_nil, List.cons_append, List.nil_append]
      rw [show (224 + r / 4096).toNat = 224 + r.toNat / 4096 by omega, show (128 + r / 64 % 64).toNat = 128 + r.toNat / 64 % 64 by omega, show (128 + r % 64).toNat = 128 + r.toNat % 64 by omega]
    have hl : (Sp.long r).toNat = 3 := by unfold Sp.long; rw [if_neg a1, if_neg a2, if_pos a3]; rfl
    rw [e, hl]
    have hd : Sp.dl (UInt8.ofNat (224 + r.toNat / 4096) :: UInt8.ofNat (128 + r.toNat / 64 % 64) :: UInt8.ofNat (128 + r.toNat % 64) :: rest) = (r.toNat, 3) := by
      unfold Sp.dl Sp.ct
      rw [by0, by1, by2, toNat_of _ (by omega), toNat_of _ (by omega), toNat_of _ (by omega)]
      simp only [List.length_cons, Bool.and_eq_true, decide_eq_true_eq, beq_iff_eq, valid_iff, ge_iff_le]
      have hv : (224 + r.toNat / 4096) % 16 * 4096 + (128 + r.toNat / 64 % 64) % 64 * 64 + (128 + r.toNat % 64) % 64 = r.toNat := by omega
      rw [hv, if_neg (by omega), if_neg (by omega), if_pos (by omega), if_pos (by omega)]
    refine ⟨hd, badl_of hd ?_⟩
    simp only [List.length_cons, by0, by1, by2]
    rw [toNat_of _ (by omega), toNat_of _ (by omega), toNat_of _ (by omega)]
    omega
  · have e : encB r ++ rest = UInt8.ofNat (240 + r.toNat / 262144) :: UInt8.ofNat (128 + r.toNat / 4096 % 64) :: UInt8.ofNat (128 + r.toNat / 64 % 64) :: UInt8.ofNat (128 + r.toNat % 64) :: rest := by
      unfold encB Sp.enc bytesOf
      rw [if_neg a1, if_neg a2, if_neg a3]
      simp only [List.map_cons, List.map_nil, List.cons_append, List.nil_append]
      rw [show (240 + r / 262144).toNat = 240 + r.toNat / 262144 by omega, show (128 + r / 4096 % 64).toNat = 128 + r.toNat / 4096 % 64 by omega, show (128 + r / 64 % 64).toNat = 128 + r.toNat / 64 % 64 by omega, show (128 + r % 64).toNat = 128 + r.toNat % 64 by omega]
    have hl : (Sp.long r).toNat = 4 := by unfold Sp.long; rw [if_neg a1, if_neg a2, if_neg a3]; rfl
    rw [e, hl]
    have hd : Sp.dl (UInt8.ofNat (240 + r.toNat / 262144) :: UInt8.ofNat (128 + r.toNat / 4096 % 64) :: UInt8.ofNat (128 + r.toNat / 64 % 64) :: UInt8.ofNat (128 + r.toNat % 64) :: rest) = (r.toNat, 4) := by
      unfold Sp.dl Sp.ct
      rw [by0, by1, by2, by3, toNat_of _ (by omega), toNat_of _ (by omega), toNat_of _ (by omega), toNat_of _ (by omega)]
      simp only [List.length_cons, Bool.and_eq_true, decide_eq_true_eq, beq_iff_eq, valid_iff, ge_iff_le]
      have hv : (240 + r.toNat / 262144) % 8 * 262144 + (128 + r.toNat / 4096 % 64) % 64 * 4096 + (128 + r.toNat / 64 % 64) % 64 * 64 + (128 + r.toNat % 64) % 64 = r.toNat := by omega
      rw [hv, if_neg (by omega), if_neg (by omega), if_neg (by omega), if_pos (by omega), if_pos (by omega)]
    exact ⟨hd, badl_of hd (.inl (by omega))⟩
theorem of_toNat' {n : Int} {a : UInt8} (h : n.toNat = a.toNat) : UInt8.ofNat n.toNat = a := by
  rw [h]; simp
theorem two_of {l : List UInt8} (h : 1 < l.length) : ∃ a b r, l = a :: b :: r := by
  match l, h with
  | a :: b :: r, _ => exact ⟨a, b, r, rfl⟩
theorem three_of {l : List UInt8} (h : 2 < l.length) : ∃ a b c r, l = a :: b :: c :: r := by
  match l, h with
  | a :: b :: c :: r, _ => exact ⟨a, b, c, r, rfl⟩
theorem four_of {l : List UInt8} (h : 3 < l.length) : ∃ a b c d r, l = a :: b :: c :: d :: r := by
  match l, h with
  | a :: b :: c :: d :: r, _ => exact ⟨a, b, c, d, r, rfl⟩
theorem dl_split (l : List UInt8) (hl : l ≠ []) (hb : Sp.badl l = false) : Sp.isRune ((Sp.dl l).1 : Int) = true ∧ ∃ rest, l = encB ((Sp.dl l).1 : Int) ++ rest := by
  have hlen : 0 < l.length := by cases l with | nil => exact absurd rfl hl | cons _ _ => simp
  have hr : Sp.isRune ((Sp.dl l).1 : Int) = true := by
    have h4 := ans_dl _ hlen
    obtain ⟨h1, h2, h3⟩ := Sp.dl_pos _ hlen
    rw [hb] at h4
    simp only [Bool.false_eq_true, if_false] at h4
    rcases Sp.ansA_ok l.length (Sp.by_ l 0) (Sp.by_ l 1) (Sp.by_ l 2) (Sp.by_ l 3) (l.getD 0 0).toNat_lt with h5 | ⟨h5, h6⟩
    · rw [h4] at h5
      simp only [Prod.mk.injEq] at h5
      omega
    · rw [h4] at h5
      exact h5
  refine ⟨hr, ?_⟩
  have hg : ¬ ((Sp.dl l).1 = 65533 ∧ ¬ (3 ≤ l.length ∧ Sp.by_ l 0 = 239 ∧ Sp.by_ l 1 = 191 ∧ Sp.by_ l 2 = 189)) := by
    unfold Sp.badl at hb
    rw [Sp.take3] at hb
    intro hh
    simp [hh.1] at hb
    exact hh.2 hb
  obtain ⟨D, hD⟩ : ∃ D, D = Sp.dl l := ⟨_, rfl⟩
  rw [← hD] at hg ⊢
  unfold Sp.dl Sp.ct at hD
  simp only [Bool.and_eq_true, decide_eq_true_eq, beq_iff_eq, valid_iff, ge_iff_le] at hD
  have hb0 : Sp.by_ l 0 < 256 := (l.getD 0 0).toNat_lt
  have hb1 : Sp.by_ l 1 < 256 := (l.getD 1 0).toNat_lt
  have hb2 : Sp.by_ l 2 < 256 := (l.getD 2 0).toNat_lt
  have hb3 : Sp.by_ l 3 < 256 := (l.getD 3 0).toNat_lt
  by_cases k0 : Sp.by_ l 0 < 128
  · rw [if_pos k0] at hD
    rw [hD]
    match l, hlen with
    | a :: l, _ =>
      rw [by0] at *
      refine ⟨l, ?_⟩
      unfold encB Sp.enc bytesOf
      rw [if_pos (by simp only; omega)]
      simp
  rw [if_neg k0] at hD
  by_cases k1 : Sp.by_ l 0 / 32 = 6 ∧ 1 < l.length ∧ Sp.by_ l 1 / 64 = 2
  · rw [if_pos k1] at hD
    by_cases k2 : 128 ≤ Sp.by_ l 0 % 32 * 64 + Sp.by_ l 1 % 64
    · rw [if_pos k2] at hD
      rw [hD]
      obtain ⟨a, b, l, rfl⟩ := two_of k1.2.1
      next =>
        rw [by0, by1] at *
        refine ⟨l, ?_⟩
        unfold encB Sp.enc bytesOf
        rw [if_neg (by simp only; omega), if_pos (by simp only; omega)]
        simp only [List.map_cons, List.map_nil, List.cons_append, List.nil_append]
        rw [of_toNat' (a := a) (by omega), of_toNat' (a := b) (by omega)]
    · rw [if_neg k2] at hD
      rw [hD] at hg
      have hg' := Classical.byContradiction fun hh => hg ⟨rfl, hh⟩
      omega
  rw [if_neg k1] at hD
  by_cases k2 : (Sp.by_ l 0 / 16 = 14 ∧ 1 < l.length ∧ Sp.by_ l 1 / 64 = 2) ∧ 2 < l.length ∧ Sp.by_ l 2 / 64 = 2
  · rw [if_pos k2] at hD
    by_cases k3 : 2048 ≤ Sp.by_ l 0 % 16 * 4096 + Sp.by_ l 1 % 64 * 64 + Sp.by_ l 2 % 64 ∧ (0 ≤ ((Sp.by_ l 0 % 16 * 4096 + Sp.by_ l 1 % 64 * 64 + Sp.by_ l 2 % 64 : Nat) : Int) ∧ ((Sp.by_ l 0 % 16 * 4096 + Sp.by_ l 1 % 64 * 64 + Sp.by_ l 2 % 64 : Nat) : Int) < 55296 ∨ 57344 ≤ ((Sp.by_ l 0 % 16 * 4096 + Sp.by_ l 1 % 64 * 64 + Sp.by_ l 2 % 64 : Nat) : Int) ∧ ((Sp.by_ l 0 % 16 * 4096 + Sp.by_ l 1 % 64 * 64 + Sp.by_ l 2 % 64 : Nat) : Int) ≤ 1114111)
    · rw [if_pos k3] at hD
      rw [hD]
      obtain ⟨a, b, c, l, rfl⟩ := three_of k2.2.1
      next =>
        rw [by0, by1, by2] at *
        refine ⟨l, ?_⟩
        unfold encB Sp.enc bytesOf
        rw [if_neg (by simp only; omega), if_neg (by simp only; omega), if_pos (by simp only; omega)]
        simp only [List.map_cons, List.map_nil, List.cons_append, List.nil_append]
        rw [of_toNat' (a := a) (by omega), of_toNat' (a := b) (by omega), of_toNat' (a := c) (by omega)]
    · rw [if_neg k3] at hD
      rw [hD] at hg
      have hg' := Classical.byContradiction fun hh => hg ⟨rfl, hh⟩
      omega
  rw [if_neg k2] at hD
  by_cases k3 : ((Sp.by_ l 0 / 8 = 30 ∧ 1 < l.length ∧ Sp.by_ l 1 / 64 = 2) ∧ 2 < l.length ∧ Sp.by_ l 2 / 64 = 2) ∧ 3 < l.length ∧ Sp.by_ l 3 / 64 = 2
  · rw [if_pos k3] at hD
    by_cases k4 : 65536 ≤ Sp.by_ l 0 % 8 * 262144 + Sp.by_ l 1 % 64 * 4096 + Sp.by_ l 2 % 64 * 64 + Sp.by_ l 3 % 64 ∧ (0 ≤ ((Sp.by_ l 0 % 8 * 262144 + Sp.by_ l 1 % 64 * 4096 + Sp.by_ l 2 % 64 * 64 + Sp.by_ l 3 % 64 : Nat) : Int) ∧ ((Sp.by_ l 0 % 8 * 262144 + Sp.by_ l 1 % 64 * 4096 + Sp.by_ l 2 % 64 * 64 + Sp.by_ l 3 % 64 : Nat) : Int) < 55296 ∨ 57344 ≤ ((Sp.by_ l 0 % 8 * 262144 + Sp.by_ l 1 % 64 * 4096 + Sp.by_ l 2 % 64 * 64 + Sp.by_ l 3 % 64 : Nat) : Int) ∧ ((Sp.by_ l 0 % 8 * 262144 + Sp.by_ l 1 % 64 * 4096 + Sp.by_ l 2 % 64 * 64 + Sp.by_ l 3 % 64 : Nat) : Int) ≤ 1114111)
    · rw [if_pos k4] at hD
      rw [hD]
      obtain ⟨a, b, c, d, l, rfl⟩ := four_of k3.2.1
      next =>
        rw [by0, by1, by2, by3] at *
        refine ⟨l, ?_⟩
        unfold encB Sp.enc bytesOf
        rw [if_neg (by simp only; omega), if_neg (by simp only; omega), if_neg (by simp only; omega)]
        simp only [List.map_cons, List.map_nil, List.cons_append, List.nil_append]
        rw [of_toNat' (a := a) (by omega), of_toNat' (a := b) (by omega), of_toNat' (a := c) (by omega), of_toNat' (a := d) (by omega)]
    · rw [if_neg k4] at hD
      rw [hD] at hg
      have hg' := Classical.byContradiction fun hh => hg ⟨rfl, hh⟩
      omega
  · rw [if_neg k3] at hD
    rw [hD] at hg
    have hg' := Classical.byContradiction fun hh => hg ⟨rfl, hh⟩
    omega
def put : List Int → Spot → List Spot × Spot
  | [], s => ([], s)
  | r :: rs, s => (⟨r, s.at_, s.line, s.col⟩ :: (put rs (Sp.on ⟨r, s.at_, s.line, s.col⟩ r (Sp.long r))).1, (put rs (Sp.on ⟨r, s.at_, s.line, s.col⟩ r (Sp.long r))).2)
theorem on_at (s : Spot) (r n : Int) : (Sp.on s r n).at_ = s.at_ + n := by unfold Sp.on; split <;> rfl
theorem long_pos (r : Int) : 1 ≤ Sp.long r := by unfold Sp.long; repeat' split
                                                 all_goals omega
theorem put_at : ∀ (rs : List Int) (s : Spot), (put rs s).2.at_ = s.at_ + (encs rs).length
  | [], s => by simp [put, encs]
  | r :: rs, s => by
    simp only [put]
    rw [put_at rs, on_at, encs_cons, List.length_append, encB_len]
    have := long_pos r
    simp only
    omega
theorem from_put (t : List UInt8) : ∀ (rs : List Int) (n : Nat) (acc : List Spot) (s : Spot) (rest : List UInt8), rs.all Sp.isRune = true → 0 ≤ s.at_ → t.drop s.at_.toNat = encs rs ++ rest → (rest = [] ∨ Sp.badl rest = true) →
    t.length - s.at_.toNat ≤ n → Sp.spotsFrom t n acc s = (acc ++ (put rs s).1, (put rs s).2)
  | [], n, acc, s, rest => by
    intro _ h0 hd hr hn
    simp only [encs, List.flatMap_nil, List.nil_append] at hd
    simp only [put, List.append_nil]
    cases n with
    | zero => rfl
    | succ n =>
      simp only [Sp.spotsFrom]
      by_cases hc : s.at_ < t.length
      · rw [if_pos hc]
        have hne : t.drop s.at_.toNat ≠ [] := by
          intro hh
          have := congrArg List.length hh
          simp at this
          omega
        rcases hr with rfl | hr
        · exact absurd hd hne
        · rw [if_pos]
          rw [Sp.bad_eq, hd]
          exact hr
      · rw [if_neg hc]
  | r :: rs, n, acc, s, rest => by
    intro ha h0 hd hr hn
    simp only [List.all_cons, Bool.and_eq_true] at ha
    rw [encs_cons, List.append_assoc] at hd
    obtain ⟨h1, h2⟩ := dl_enc r (encs rs ++ rest) ha.1
    have hlen := congrArg List.length hd
    have hl := long_pos r
    have hel := encB_len r
    simp only [List.length_drop, List.length_append] at hlen
    have hc : s.at_ < t.length := by omega
    have hb : Sp.bad t s.at_.toNat = false := by rw [Sp.bad_eq, hd]; exact h2
    have hr' : 0 ≤ r := by
      have := ha.1
      simp only [Sp.isRune, decide_eq_true_eq] at this
      exact this.1
    have e1 : Sp.at1 t s.at_ = r := by
      unfold Sp.at1
      rw [hb, Sp.dc_eq, hd, h1]
      simp
      omega
    have e2 : Sp.at2 t s.at_ = Sp.long r := by
      unfold Sp.at2
      rw [hb, Sp.dc_eq, hd, h1]
      simp
      omega
    obtain ⟨n, rfl⟩ : ∃ m, n = m + 1 := ⟨n - 1, by omega⟩
    simp only [Sp.spotsFrom, if_pos hc, hb, Bool.false_eq_true, if_false]
    rw [e1, e2]
    have hat := on_at ⟨r, s.at_, s.line, s.col⟩ r (Sp.long r)
    simp only at hat
    rw [from_put t rs n _ _ rest ha.2 (by rw [hat]; omega) ?_ hr (by rw [hat]; omega)]
    · simp only [put, List.append_assoc, List.cons_append, List.nil_append]
    · rw [hat, show (s.at_ + Sp.long r).toNat = s.at_.toNat + (encB r).length by omega, ← List.drop_drop, hd, List.drop_left]
def s0 : Spot := ⟨0, 0, 1, 1⟩
theorem spots_put (rs : List Int) (rest : List UInt8) (ha : rs.all Sp.isRune = true) (hr : rest = [] ∨ Sp.badl rest = true) : Sp.spots1 (encs rs ++ rest) = (put rs s0).1 ∧ Sp.spots2 (encs rs ++ rest) = Sp.ended (put rs s0).2 := by
  have := from_put (encs rs ++ rest) rs (encs rs ++ rest).length [] s0 rest ha (by simp [s0]) (by simp [s0]) hr (by omega)
  unfold Sp.spots1 Sp.spots2
  unfold s0 at this ⊢
  rw [this]
  simp
theorem text_split : ∀ (n : Nat) (t : List UInt8), t.length ≤ n → ∃ rs rest, t = encs rs ++ rest ∧ rs.all Sp.isRune = true ∧ (rest = [] ∨ Sp.badl rest = true)
  | 0, t, h => ⟨[], [], by cases t <;> simp_all [encs], rfl, .inl rfl⟩
  | n + 1, t, h => by
    by_cases h0 : t = []
    · exact ⟨[], [], by simp [h0, encs], rfl, .inl rfl⟩
    cases hb : Sp.badl t with
    | true => exact ⟨[], t, by simp [encs], rfl, .inr hb⟩
    | false =>
      obtain ⟨h1, rest, h2⟩ := dl_split t h0 hb
      have hl := encB_len ((Sp.dl t).1 : Int)
      have hp := long_pos ((Sp.dl t).1 : Int)
      have hlen : rest.length ≤ n := by
        have := congrArg List.length h2
        rw [List.length_append] at this
        omega
      obtain ⟨rs, r2, h3, h4, h5⟩ := text_split n rest hlen
      refine ⟨((Sp.dl t).1 : Int) :: rs, r2, ?_, ?_, h5⟩
      · rw [encs_cons, List.append_assoc, ← h3]; exact h2
      · simp [h1, h4]
theorem ended_at (s : Spot) : (Sp.ended s).at_ = s.at_ := rfl
theorem runes_ok (rs : List Int) (ha : rs.all Sp.isRune = true) (hl : (encs rs).length ≤ 4000) : Sp.runes1 (encs rs) = (put rs s0).1 ∧ Sp.runes2 (encs rs) = ⟨0, 0, []⟩ := by
  obtain ⟨h1, h2⟩ := spots_put rs [] ha (.inl rfl)
  rw [List.append_nil] at h1 h2
  have h3 := put_at rs s0
  unfold Sp.runes1 Sp.runes2
  rw [h1, h2, ended_at, h3]
  have h5 : ¬ (s0.at_ + ((encs rs).length : Int) < (encs rs).length) := by simp [s0]
  have h4 : ¬ 4000 < (encs rs).length := by omega
  simp only [if_neg h4, if_neg h5, and_self]
theorem runes_bad (rs : List Int) (rest : List UInt8) (ha : rs.all Sp.isRune = true) (hne : rest ≠ []) (hb : Sp.badl rest = true) (hl : (encs rs ++ rest).length ≤ 4000) : Sp.runes1 (encs rs ++ rest) = [] ∧ Sp.runes2 (encs rs ++ rest) = ⟨11, (encs rs).length, []⟩ := by
  obtain ⟨h1, h2⟩ := spots_put rs rest ha (.inr hb)
  have h3 := put_at rs s0
  have hpos : 0 < rest.length := by cases rest with | nil => exact absurd rfl hne | cons _ _ => simp
  unfold Sp.runes1 Sp.runes2
  rw [h2, ended_at, h3]
  have h5 : (s0.at_ + ((encs rs).length : Int) < (encs rs ++ rest).length) := by simp [s0]; omega
  have h4 : ¬ 4000 < (encs rs ++ rest).length := by omega
  simp only [if_neg h4, if_pos h5]
  simp [s0]
theorem runes_cases (t : List UInt8) : (Sp.runes1 t = [] ∧ Sp.runes2 t = ⟨10, 4000, []⟩) ∨
    (t.length ≤ 4000 ∧ ∃ rs rest, t = encs rs ++ rest ∧ rs.all Sp.isRune = true ∧ rest ≠ [] ∧ Sp.badl rest = true ∧ Sp.runes1 t = [] ∧ Sp.runes2 t = ⟨11, (encs rs).length, []⟩) ∨
    (t.length ≤ 4000 ∧ ∃ rs, t = encs rs ∧ rs.all Sp.isRune = true ∧ Sp.runes1 t = (put rs s0).1 ∧ Sp.runes2 t = ⟨0, 0, []⟩) := by
  by_cases h : 4000 < t.length
  · left
    unfold Sp.runes1 Sp.runes2
    rw [if_pos h, if_pos h]
    exact ⟨rfl, rfl⟩
  right
  obtain ⟨rs, rest, h1, h2, h3⟩ := text_split t.length t (Nat.le_refl _)
  by_cases h0 : rest = []
  · right
    subst h0
    rw [List.append_nil] at h1
    subst h1
    obtain ⟨q1, q2⟩ := runes_ok rs h2 (by omega)
    exact ⟨by omega, rs, rfl, h2, q1, q2⟩
  · left
    have hb : Sp.badl rest = true := by rcases h3 with h3 | h3; exact absurd h3 h0; exact h3
    subst h1
    obtain ⟨q1, q2⟩ := runes_bad rs rest h2 h0 hb (by omega)
    exact ⟨by omega, rs, rest, rfl, h2, h0, hb, q1, q2⟩
end Lift.A1P
namespace Lift.A1P
open Go Go.RowKit Lift Go.IntWalk Lift.Fn
def goesR (r : Int) : Bool := Sp.letter r || Sp.digit r
theorem goes1 (r : Int) (h : 0 ≤ r ∧ r ≤ 1114111) : qao r = some (goesR r) := by
  rw [qao, sealF_eq]
  unfold qao_f goesR
  rw [i64_in r (by omega), letter1, digit1, Option.bind_some, Option.bind_some]
  cases Sp.letter r <;> rfl
theorem rune_range {r : Int} (h : Sp.isRune r = true) : 0 ≤ r ∧ r ≤ 1114111 := by
  simp only [Sp.isRune, decide_eq_true_eq] at h
  omega
theorem dec_at (t : List UInt8) (p : Nat) (r : Int) (l : List UInt8) (hd : t.drop p = encB r ++ l) (hr : Sp.isRune r = true) : Utf8.decode ⟨t.toArray⟩ p = (r.toNat, (Sp.long r).toNat) := by
  have h1 := Sp.dc_eq t p
  unfold Sp.dc at h1
  rw [h1, hd]
  exact (dl_enc r l hr).1
theorem encs_drop (ds rs : List Int) : (encs (ds ++ rs)).drop (encs ds).length = encs rs := by
  rw [encs_append, List.drop_left]
theorem lt_len (ds rs : List Int) (r : Int) : (encs ds).length < (encs (ds ++ r :: rs)).length := by
  rw [encs_append, encs_cons, List.length_append, List.length_append, encB_len]
  have := long_pos r
  omega
theorem len_snoc (ds : List Int) (r : Int) : (encs (ds ++ [r])).length = (encs ds).length + (Sp.long r).toNat := by
  rw [encs_append, encs_cons, List.length_append, List.length_append, encB_len]
  simp [encs]
theorem wordL : ∀ (rs ds : List Int) (n : Nat), rs.all Sp.isRune = true → rs.length < n → (encs (ds ++ rs)).length ≤ 9000000 →
    qat_i2 n (encs (ds ++ rs)) (encs (ds ++ rs)) (encs ds).length = some (if rs.all goesR then .inr (encs (ds ++ rs)) else .inl (encs (ds ++ rs.takeWhile goesR)))
  | [], ds, n, _, hn, hl => by
    obtain ⟨n, rfl⟩ : ∃ q, n = q + 1 := ⟨n - 1, by simp at hn; omega⟩
    simp only [List.append_nil, qat_i2, qat_t2]
    simp
  | r :: rs, ds, n, ha, hn, hl => by
    obtain ⟨n, rfl⟩ : ∃ q, n = q + 1 := ⟨n - 1, by simp at hn; omega⟩
    simp only [List.all_cons, Bool.and_eq_true] at ha
    have hlt := lt_len ds rs r
    have hd : Utf8.decode ⟨(encs (ds ++ r :: rs)).toArray⟩ (encs ds).length = (r.toNat, (Sp.long r).toNat) := dec_at _ _ r (encs rs) (by rw [encs_drop, encs_cons]) ha.1
    have hr := rune_range ha.1
    simp only [qat_i2, qat_t2, hd, hlt, decide_true, cond_true]
    rw [show ((r.toNat : Nat) : Int) = r by omega, goes1 r hr, Option.bind_some]
    cases hg : goesR r with
    | false =>
      have hb : (decide ((0 : Int) ≤ 0) && (decide ((0 : Int) ≤ ((encs ds).length : Int)) && decide (((encs ds).length : Int) ≤ ((encs (ds ++ r :: rs)).length : Int)))) = true := by
        simp only [Bool.and_eq_true, decide_eq_true_eq]; omega
      simp only [Bool.not_false, cond_true, hb, List.all_cons, hg, Bool.false_and, Bool.false_eq_true, if_false, List.takeWhile_cons, List.append_nil, List.drop_zero, Int.toNat_natCast]
      rw [encs_append, List.take_left]
    | true =>
      have ih := wordL rs (ds ++ [r]) n ha.2 (by simp at hn; omega) (by simpa using hl)
      rw [List.append_assoc, List.singleton_append, len_snoc] at ih
      simp only [Bool.not_true, cond_false, ih, List.all_cons, hg, Bool.true_and, List.takeWhile_cons, if_true, List.append_assoc, List.singleton_append]
theorem take_all {p : Int → Bool} {l : List Int} (h : l.all p = true) : l.takeWhile p = l := by
  induction l with
  | nil => rfl
  | cons a l ih =>
    simp only [List.all_cons, Bool.and_eq_true] at h
    rw [List.takeWhile_cons, if_pos h.1, ih h.2]
theorem len_runes (rs : List Int) : rs.length ≤ (encs rs).length := by
  induction rs with
  | nil => simp
  | cons r l ih =>
    rw [encs_cons, List.length_append, encB_len, List.length_cons]
    have := long_pos r
    omega
theorem word1 (rs : List Int) (ha : rs.all Sp.isRune = true) (hl : (encs rs).length ≤ 9000000) : qat (encs rs) = some (encs (rs.takeWhile goesR)) := by
  rw [qat, sealF_eq]
  unfold qat_f
  have := wordL rs [] fuel ha (by have := len_runes rs; unfold fuel; omega) (by simpa using hl)
  simp only [List.nil_append] at this
  rw [qat_l2, sealF_eq, show (0 : Nat) = (encs []).length from rfl, this]
  cases hg : rs.all goesR with
  | true => simp only [if_true, Option.bind_some, take_all hg]
  | false => simp
def skip : Bool → List Int → List Int
  | _, [] => []
  | true, r :: rs => skip (r != 10) rs
  | false, r :: rs => if r = 35 then skip true rs else if Sp.blank r then skip false rs else r :: rs
theorem passedL : ∀ (rs ds : List Int) (c : Bool) (n : Nat), rs.all Sp.isRune = true → rs.length < n →
    qaq_i3 n (encs (ds ++ rs)) c (encs (ds ++ rs)) (encs ds).length = some (if skip c rs = [] then .inr (encs (ds ++ rs)) else .inl (((encs (ds ++ rs)).length : Int) - (encs (skip c rs)).length))
  | [], ds, c, n, _, hn => by
    obtain ⟨n, rfl⟩ : ∃ q, n = q + 1 := ⟨n - 1, by simp at hn; omega⟩
    simp only [List.append_nil, qaq_i3, qaq_t3]
    cases c <;> simp [skip]
  | r :: rs, ds, c, n, ha, hn => by
    obtain ⟨n, rfl⟩ : ∃ q, n = q + 1 := ⟨n - 1, by simp at hn; omega⟩
    simp only [List.all_cons, Bool.and_eq_true] at ha
    have hlt := lt_len ds rs r
    have hd : Utf8.decode ⟨(encs (ds ++ r :: rs)).toArray⟩ (encs ds).length = (r.toNat, (Sp.long r).toNat) := dec_at _ _ r (encs rs) (by rw [encs_drop, encs_cons]) ha.1
    have hr := rune_range ha.1
    have ih := fun c => passedL rs (ds ++ [r]) c n ha.2 (by simp at hn; omega)
    simp only [List.append_assoc, List.singleton_append, len_snoc] at ih
    simp only [qaq_i3, qaq_t3, hd, hlt, decide_true, cond_true]
    rw [show ((r.toNat : Nat) : Int) = r by omega]
    cases c with
    | true =>
      rw [cond_true, ih]
      rfl
    | false =>
      rw [cond_false]
      by_cases h35 : r = 35
      · have : (r == 35) = true := by simp [h35]
        rw [this, cond_true, ih]
        simp only [skip, h35, if_true]
      · have : (r == 35) = false := by simp [h35]
        rw [this, cond_false, i64_in r (by omega), blank1, Option.bind_some]
        cases hb : Sp.blank r with
        | true =>
          simp only [Bool.not_true, cond_false, ih, skip, h35, if_false, hb, if_true]
        | false =>
          have hne : skip false (r :: rs) = r :: rs := by simp [skip, h35, hb]
          rw [hne]
          simp only [Bool.not_false, cond_true, if_neg (List.cons_ne_nil r rs)]
          congr 2
          rw [encs_append, List.length_append]
          omega
theorem passed1 (rs : List Int) (ha : rs.all Sp.isRune = true) (hl : (encs rs).length ≤ 9000000) : qaq (encs rs) = some (((encs rs).length : Int) - (encs (skip false rs)).length) := by
  rw [qaq, sealF_eq]
  unfold qaq_f
  have := passedL rs [] false fuel ha (by have := len_runes rs; unfold fuel; omega)
  simp only [List.nil_append] at this
  rw [qaq_l3, sealF_eq, show (0 : Nat) = (encs []).length from rfl, this]
  by_cases hs : skip false rs = []
  · rw [if_pos hs, hs]; simp [encs]
  · rw [if_neg hs]; simp
theorem indexL (l : List (List UInt8)) (x : List UInt8) (hl : l.length ≤ 4000) : ∀ (k n : Nat) (i : Int), 0 ≤ i → l.length - i.toNat ≤ k → k < n →
    ∃ r, qaW_i2 n l x l.length i = some r ∧ ((l.drop i.toNat).contains x = match r with | .inl j => decide (0 ≤ j) | .inr _ => false) := by
  intro k
  have fin : ∀ (n : Nat) (i : Int), 0 ≤ i → ¬ i < l.length → ∃ r, qaW_i2 (n + 1) l x l.length i = some r ∧ ((l.drop i.toNat).contains x = match r with | .inl j => decide (0 ≤ j) | .inr _ => false) := by
    intro n i h0 c
    refine ⟨.inr (), ?_, ?_⟩
    · simp only [qaW_i2, qaW_t2, c, decide_false, cond_false]
    · rw [List.drop_eq_nil_of_le (by omega)]; rfl
  induction k with
  | zero =>
    intro n i h0 hk hn
    obtain ⟨n, rfl⟩ : ∃ q, n = q + 1 := ⟨n - 1, by omega⟩
    exact fin n i h0 (by omega)
  | succ k ih =>
    intro n i h0 hk hn
    obtain ⟨n, rfl⟩ : ∃ q, n = q + 1 := ⟨n - 1, by omega⟩
    by_cases c : i < l.length
    · have ha : i.toNat < l.length := by omega
      rw [List.drop_eq_getElem_cons ha]
      simp only [qaW_i2, qaW_t2, c, h0, decide_true, cond_true, List.getElem?_eq_getElem ha, Option.bind_some, List.contains_cons]
      cases hx : (x == l[i.toNat]) with
      | true => exact ⟨.inl i, rfl, by simp [h0]⟩
      | false =>
        rw [i64_in (i + 1) (by omega)]
        obtain ⟨r, h1, h2⟩ := ih n (i + 1) (by omega) (by omega) (by omega)
        refine ⟨r, h1, ?_⟩
        rw [show (i + 1).toNat = i.toNat + 1 by omega] at h2
        rw [Bool.false_or, h2]
    · exact fin n i h0 c
theorem contains1 (l : List (List UInt8)) (x : List UInt8) (hl : l.length ≤ 4000) : qaQ l x = some (l.contains x) := by
  obtain ⟨r, h1, h2⟩ := indexL l x hl l.length fuel 0 (by omega) (by omega) (by unfold fuel; omega)
  simp only [Int.toNat_zero, List.drop_zero] at h2
  rw [qaQ, sealF_eq]
  unfold qaQ_f
  rw [qaW, sealF_eq]
  unfold qaW_f
  rw [qaW_l2, sealF_eq, h1, h2]
  cases r with
  | inl j => simp
  | inr u => simp
def ones : List UInt8 := [61, 60, 62, 33, 43, 45, 42, 47, 37, 59, 123, 125, 40, 41]
def twos : List (List UInt8) := [[58, 61], [60, 45], [61, 61], [33, 61], [60, 61], [62, 61], [38, 38], [124, 124]]
def sgn (t : List UInt8) : List UInt8 := if 1 < t.length ∧ twos.contains (t.take 2) = true then t.take 2 else if ones.contains (t.headD 0) = true then t.take 1 else []
theorem ones_all : ∀ i : Fin 256, Lib.contains ones [UInt8.ofNat i.val] = ones.contains (UInt8.ofNat i.val) := by decide +kernel
theorem ones_one (b : UInt8) : Lib.contains ones [b] = ones.contains b := by
  have := ones_all ⟨b.toNat, b.toNat_lt⟩
  simpa using this
theorem sign1 (b : UInt8) (t : List UInt8) (hl : (b :: t).length ≤ 9000000) : qar (b :: t) = some (sgn (b :: t)) := by
  rw [qar, sealF_eq]
  unfold qar_f
  have ht : List.take 1 (b :: t) = [b] := rfl
  have hc : strings_Contains ones [b] = some (ones.contains b) := by
    rw [strings_Contains, sealF_eq]
    unfold strings_Contains_f
    rw [decide_eq_true (by decide), cond_true, ones_one]
  have hc' : strings_Contains [61, 60, 62, 33, 43, 45, 42, 47, 37, 59, 123, 125, 40, 41] [b] = some (ones.contains b) := hc
  have b1 : (decide ((0 : Int) ≤ 0) && (decide ((0 : Int) ≤ 1) && decide ((1 : Int) ≤ ((b :: t).length : Int)))) = true := by
    simp only [Bool.and_eq_true, decide_eq_true_eq, List.length_cons]; omega
  simp only [List.drop_zero, ht, b1, cond_true, hc', Option.bind_some]
  unfold sgn
  by_cases h1 : 1 < (b :: t).length
  · have h1' : decide (((b :: t).length : Int) > 1) = true := decide_eq_true (by omega)
    have b2 : (decide ((0 : Int) ≤ 0) && (decide ((0 : Int) ≤ 2) && decide ((2 : Int) ≤ ((b :: t).length : Int)))) = true := by
      simp only [Bool.and_eq_true, decide_eq_true_eq]; omega
    have hc2 := contains1 twos ((b :: t).take 2) (by decide)
    have hc2' : qaQ [[58, 61], [60, 45], [61, 61], [33, 61], [60, 61], [62, 61], [38, 38], [124, 124]] ((b :: t).take 2) = some (twos.contains ((b :: t).take 2)) := hc2
    rw [h1', cond_true, b2, cond_true, hc2', Option.bind_some]
    cases h2 : twos.contains ((b :: t).take 2) with
    | true => rw [if_pos ⟨h1, rfl⟩]; rfl
    | false =>
      rw [if_neg (fun hh => by cases hh.2)]
      cases h3 : ones.contains b with
      | true => simp only [List.headD_cons, h3, if_true]; rfl
      | false => simp only [List.headD_cons, h3, Bool.false_eq_true, if_false]; rfl
  · have h1' : decide (((b :: t).length : Int) > 1) = false := decide_eq_false (by omega)
    rw [h1', cond_false, if_neg (fun hh => h1 hh.1)]
    cases h3 : ones.contains b with
    | true => simp only [List.headD_cons, h3, if_true]; rfl
    | false => simp only [List.headD_cons, h3, Bool.false_eq_true, if_false]; rfl
end Lift.A1P
namespace Lift.A1P
open Go Go.RowKit Lift Go.IntWalk Lift.Fn
def tens : List UInt8 := [48, 49, 50, 51, 52, 53, 54, 55, 56, 57]
def numS (t : List UInt8) : Int × Bool :=
  if 1 < t.length ∧ (t.headD 0).toNat = 48 then (0, false) else if Lib.trimS t tens ≠ [] then (0, false) else if (atoiOf t).2 = true then ((atoiOf t).1, false) else ((atoiOf t).1, decide ((atoiOf t).1 ≤ 2147483647))
theorem number1 (t : List UInt8) (hl : t.length ≤ 9000000) : qap t = some (numS t) := by
  rw [qap, sealF_eq]
  unfold qap_f numS
  have hT : strings_Trim t [48, 49, 50, 51, 52, 53, 54, 55, 56, 57] = some (Lib.trimS t tens) := by
    rw [strings_Trim, sealF_eq]
    unfold strings_Trim_f
    rw [decide_eq_true (show _ ∧ _ by constructor; omega; decide)]
    rfl
  have hA : strconv_Atoi t = some (atoiOf t) := by
    rw [strconv_Atoi, sealF_eq]
    unfold strconv_Atoi_f
    rw [decide_eq_true (by omega)]
    rfl
  have rest : (bif !Lib.trimS t tens == [] then some ((0 : Int), false) else bif !(atoiOf t).2 then some ((atoiOf t).1, decide ((atoiOf t).1 ≤ 2147483647)) else some ((atoiOf t).1, false)) =
      some (if Lib.trimS t tens ≠ [] then (0, false) else if (atoiOf t).2 = true then ((atoiOf t).1, false) else ((atoiOf t).1, decide ((atoiOf t).1 ≤ 2147483647))) := by
    by_cases h : Lib.trimS t tens = []
    · rw [if_neg (fun hh => hh h), h]
      cases (atoiOf t).2 <;> rfl
    · rw [if_pos h]
      have : (Lib.trimS t tens == []) = false := by simpa using h
      rw [this]; rfl
  rw [hT, hA]
  by_cases h1 : 1 < t.length
  · rw [decide_eq_true (show (t.length : Int) > 1 by omega), cond_true]
    match t, h1 with
    | b :: t, h1 =>
      simp only [List.getElem?_cons_zero, Option.bind_some]
      by_cases h2 : b.toNat = 48
      · have : (((b.toNat : Nat) : Int) == 48) = true := by rw [beq_iff_eq]; omega
        rw [this, cond_true, if_pos (show 1 < (b :: t).length ∧ ((b :: t).headD 0).toNat = 48 from ⟨h1, h2⟩)]
      · have : (((b.toNat : Nat) : Int) == 48) = false := by rw [beq_eq_false_iff_ne]; omega
        rw [this, cond_false, if_neg (show ¬ (1 < (b :: t).length ∧ ((b :: t).headD 0).toNat = 48) from fun hh => h2 hh.2)]
        exact rest
  · rw [decide_eq_false (show ¬ (t.length : Int) > 1 by omega), cond_false, if_neg (show ¬ (1 < t.length ∧ (t.headD 0).toNat = 48) from fun hh => h1 hh.1)]
    simp only [Option.bind_some]
    exact rest
theorem words1 : qan = qan_f := by rw [qan, sealF_eq]
noncomputable def words : List (List UInt8) := qan_f.getD []
theorem words_eq : qan = some words := by rw [words1]; rfl
theorem runesL : ∀ (rs ds : List Int) (n : Nat), rs.all Sp.isRune = true → rs.length ≤ n → Lib.runeCountFrom ⟨(encs (ds ++ rs)).toArray⟩ n (encs ds).length = rs.length
  | [], ds, n, _, _ => by
    cases n with
    | zero => rfl
    | succ n => simp [Lib.runeCountFrom, ByteArray.size]
  | r :: rs, ds, n, ha, hn => by
    obtain ⟨n, rfl⟩ : ∃ q, n = q + 1 := ⟨n - 1, by simp at hn; omega⟩
    simp only [List.all_cons, Bool.and_eq_true] at ha
    have hlt := lt_len ds rs r
    have hd : Utf8.decode ⟨(encs (ds ++ r :: rs)).toArray⟩ (encs ds).length = (r.toNat, (Sp.long r).toNat) := dec_at _ _ r (encs rs) (by rw [encs_drop, encs_cons]) ha.1
    have ih := runesL rs (ds ++ [r]) n ha.2 (by simp at hn; omega)
    simp only [List.append_assoc, List.singleton_append, len_snoc] at ih
    simp only [Lib.runeCountFrom, hd]
    rw [if_pos (by simpa [ByteArray.size] using hlt), ih, List.length_cons]
    omega
theorem count1 (rs : List Int) (ha : rs.all Sp.isRune = true) (hl : (encs rs).length ≤ 9000000) : unicode_utf8_RuneCountInString (encs rs) = some (rs.length : Int) := by
  rw [unicode_utf8_RuneCountInString, sealF_eq]
  unfold unicode_utf8_RuneCountInString_f Lib.runeCount
  rw [decide_eq_true (by omega), cond_true]
  have := runesL rs [] (encs rs).length ha (len_runes rs)
  simp only [List.nil_append] at this
  have hs : (⟨(encs rs).toArray⟩ : ByteArray).size = (encs rs).length := by simp [ByteArray.size]
  rw [hs, show (0 : Nat) = (encs []).length from rfl, this]
theorem decode1 (r : Int) (rs : List Int) (hr : Sp.isRune r = true) : unicode_utf8_DecodeRuneInString (encs (r :: rs)) = some (r, Sp.long r) := by
  rw [unicode_utf8_DecodeRuneInString, sealF_eq]
  unfold unicode_utf8_DecodeRuneInString_f Lib.decodeGo
  have hp := long_pos r
  have hs : ¬ (⟨(encs (r :: rs)).toArray⟩ : ByteArray).size = 0 := by
    have := lt_len [] rs r
    simp only [List.nil_append] at this
    simp [ByteArray.size]
    intro hh
    rw [hh] at this
    simp at this
  have hd : Utf8.decode ⟨(encs (r :: rs)).toArray⟩ 0 = (r.toNat, (Sp.long r).toNat) := dec_at _ 0 r (encs rs) (by rw [List.drop_zero, encs_cons]) hr
  have h0 := rune_range hr
  rw [if_neg hs, hd]
  simp only
  rw [show ((r.toNat : Nat) : Int) = r by omega, show (((Sp.long r).toNat : Nat) : Int) = Sp.long r by omega]
noncomputable def tokR (rs : List Int) : Token × Int :=
  bif goesR (rs.headD 0) then
    (bif Sp.digit (rs.headD 0) then (bif (numS (encs (rs.takeWhile goesR))).2 then (⟨2, encs (rs.takeWhile goesR), (numS (encs (rs.takeWhile goesR))).1, 0⟩, 0) else (⟨1, encs (rs.takeWhile goesR), 0, 0⟩, 22))
     else bif words.contains (encs (rs.takeWhile goesR)) then (⟨4, encs (rs.takeWhile goesR), 0, 0⟩, 0)
     else bif decide (16 < (rs.takeWhile goesR).length) then (⟨1, encs (rs.takeWhile goesR), 0, 0⟩, 21) else (⟨1, encs (rs.takeWhile goesR), 0, 0⟩, 0))
  else bif sgn (encs rs) == [] then (⟨0, [], 0, 0⟩, 20) else (⟨3, sgn (encs rs), 0, 0⟩, 0)
theorem take_all_rune {p : Int → Bool} {rs : List Int} (ha : rs.all Sp.isRune = true) : (rs.takeWhile p).all Sp.isRune = true := by
  rw [List.all_eq_true] at ha ⊢
  intro r hr
  exact ha r ((List.takeWhile_sublist _).subset hr)
theorem take_len (p : Int → Bool) (rs : List Int) : (encs (rs.takeWhile p)).length ≤ (encs rs).length := by
  have : encs rs = encs (rs.takeWhile p) ++ encs (rs.dropWhile p) := by rw [← encs_append, List.takeWhile_append_dropWhile]
  rw [this, List.length_append]
  omega
theorem token1 (rs : List Int) (hne : rs ≠ []) (ha : rs.all Sp.isRune = true) (hl : (encs rs).length ≤ 9000000) : qas (encs rs) = some (tokR rs) := by
  match rs, hne with
  | r :: rs, _ =>
    have ha' := ha
    simp only [List.all_cons, Bool.and_eq_true] at ha'
    have hr := rune_range ha'.1
    have hw := word1 (r :: rs) ha hl
    have hwl := take_len goesR (r :: rs)
    rw [qas, sealF_eq]
    unfold qas_f tokR
    rw [decode1 r rs ha'.1, Option.bind_some]
    simp only
    rw [goes1 r hr, Option.bind_some]
    simp only [List.headD_cons]
    cases hg : goesR r with
    | false =>
      obtain ⟨b, t, hbt⟩ : ∃ b t, encs (r :: rs) = b :: t := by
        cases he : encs (r :: rs) with
        | nil =>
          have := lt_len [] rs r
          simp only [List.nil_append, he] at this
          simp [encs] at this
        | cons b t => exact ⟨b, t, rfl⟩
      have hs := sign1 b t (by rw [← hbt]; exact hl)
      rw [← hbt] at hs
      simp only [Bool.not_false, cond_true, cond_false, hs, Option.bind_some]
      cases (sgn (encs (r :: rs)) == []) <;> rfl
    | true =>
      simp only [Bool.not_true, cond_false, cond_true, hw, Option.bind_some]
      rw [i64_in r (by omega), digit1, Option.bind_some]
      cases hd : Sp.digit r with
      | true =>
        rw [cond_true, cond_true, number1 _ (by omega), Option.bind_some]
        cases (numS (encs ((r :: rs).takeWhile goesR))).2 <;> rfl
      | false =>
        rw [cond_false, cond_false, words_eq, Option.bind_some, contains1 _ _ (by decide), Option.bind_some]
        cases words.contains (encs ((r :: rs).takeWhile goesR)) with
        | true => rfl
        | false =>
          rw [cond_false, cond_false, count1 _ (take_all_rune ha) (by omega), Option.bind_some]
          have : decide ((((r :: rs).takeWhile goesR).length : Int) > 16) = decide (16 < ((r :: rs).takeWhile goesR).length) := by
            rw [Bool.eq_iff_iff, decide_eq_true_eq, decide_eq_true_eq]; omega
          rw [this]
          cases decide (16 < ((r :: rs).takeWhile goesR).length) <;> rfl
noncomputable def restR (rs : List Int) : List Int := bif goesR (rs.headD 0) then rs.dropWhile goesR else rs.drop (sgn (encs rs)).length
theorem ascii_head {r : Int} {rs : List Int} {b : UInt8} {t : List UInt8} (hr : Sp.isRune r = true) (h : encs (r :: rs) = b :: t) (hb : b.toNat < 128) : encB r = [b] ∧ t = encs rs := by
  rw [encs_cons] at h
  simp only [Sp.isRune, decide_eq_true_eq] at hr
  by_cases a1 : r < 128
  · have e : encB r = [UInt8.ofNat r.toNat] := by simp [encB, bytesOf, Sp.enc, a1]
    rw [e] at h ⊢
    simp only [List.singleton_append, List.cons.injEq] at h
    exact ⟨by rw [h.1], h.2.symm⟩
  · exfalso
    have hh : ∀ x l, encB r = UInt8.ofNat x :: l → 128 ≤ x → x < 256 → False := by
      intro x l he h1 h2
      rw [he, List.cons_append, List.cons.injEq] at h
      have := congrArg UInt8.toNat h.1
      rw [toNat_of _ h2] at this
      omega
    unfold encB Sp.enc bytesOf at hh
    rw [if_neg a1] at hh
    by_cases a2 : r < 2048
    · rw [if_pos a2] at hh
      exact hh _ _ rfl (by omega) (by omega)
    · rw [if_neg a2] at hh
      by_cases a3 : r < 65536
      · rw [if_pos a3] at hh
        exact hh _ _ rfl (by omega) (by omega)
      · rw [if_neg a3] at hh
        exact hh _ _ rfl (by omega) (by omega)
end Lift.A1P
namespace Lift.A1P
open Go Go.RowKit Lift Go.IntWalk Lift.Fn
theorem skip_split : ∀ (l : List Int) (c : Bool), ∃ ds, l = ds ++ skip c l
  | [], c => ⟨[], by cases c <;> rfl⟩
  | r :: l, true => by
    obtain ⟨ds, h⟩ := skip_split l (r != 10)
    exact ⟨r :: ds, by simp only [skip, List.cons_append]; rw [← h]⟩
  | r :: l, false => by
    simp only [skip]
    split
    · obtain ⟨ds, h⟩ := skip_split l true
      exact ⟨r :: ds, by rw [List.cons_append, ← h]⟩
    · split
      · obtain ⟨ds, h⟩ := skip_split l false
        exact ⟨r :: ds, by rw [List.cons_append, ← h]⟩
      · exact ⟨[], rfl⟩
theorem twos_ok : ∀ x ∈ twos, x.length = 2 ∧ x.all (fun b => decide (b.toNat < 128)) = true := by decide
theorem ones_ok : ∀ b ∈ ones, b.toNat < 128 := by decide
theorem enc_ne (r : Int) (rs : List Int) : ∃ b t, encs (r :: rs) = b :: t := by
  cases he : encs (r :: rs) with
  | nil =>
    have := lt_len [] rs r
    simp only [List.nil_append, he] at this
    simp [encs] at this
  | cons b t => exact ⟨b, t, rfl⟩
theorem sgn_split (r : Int) (rs : List Int) (ha : (r :: rs).all Sp.isRune = true) (h : sgn (encs (r :: rs)) ≠ []) : encs ((r :: rs).take (sgn (encs (r :: rs))).length) = sgn (encs (r :: rs)) ∧ 0 < (sgn (encs (r :: rs))).length := by
  refine ⟨?_, List.length_pos_iff.2 h⟩
  simp only [List.all_cons, Bool.and_eq_true] at ha
  obtain ⟨b, t, hbt⟩ := enc_ne r rs
  rw [hbt] at h ⊢
  unfold sgn at h ⊢
  by_cases h1 : 1 < (b :: t).length ∧ twos.contains ((b :: t).take 2) = true
  · rw [if_pos h1]
    have hm : (b :: t).take 2 ∈ twos := by simpa using h1.2
    obtain ⟨hl, hall⟩ := twos_ok _ hm
    match t, hl with
    | c :: t, _ =>
      simp only [List.take_succ_cons, List.take_zero, List.all_cons, List.all_nil, Bool.and_true, Bool.and_eq_true, decide_eq_true_eq] at hall
      obtain ⟨e1, e2⟩ := ascii_head ha.1 hbt hall.1
      match rs, ha.2, e2 with
      | [], _, e2 => simp [encs] at e2
      | r2 :: rs, ha2, e2 =>
        simp only [List.all_cons, Bool.and_eq_true] at ha2
        obtain ⟨e3, _⟩ := ascii_head ha2.1 e2.symm hall.2
        show encs [r, r2] = [b, c]
        rw [encs_cons, encs_cons, e1, e3]
        rfl
  · rw [if_neg h1] at h ⊢
    by_cases h2 : ones.contains ((b :: t).headD 0) = true
    · rw [if_pos h2]
      have hb : b ∈ ones := by simpa using h2
      obtain ⟨e1, _⟩ := ascii_head ha.1 hbt (ones_ok b hb)
      show encs [r] = [b]
      rw [encs_cons, e1]
      rfl
    · rw [if_neg h2] at h
      exact absurd rfl h
theorem rest_split (r : Int) (rs : List Int) (ha : (r :: rs).all Sp.isRune = true) (h0 : (tokR (r :: rs)).2 = 0) : ∃ ds, ds ≠ [] ∧ r :: rs = ds ++ restR (r :: rs) ∧ encs ds = (tokR (r :: rs)).1.text := by
  unfold tokR at h0 ⊢
  unfold restR
  simp only [List.headD_cons] at h0 ⊢
  cases hg : goesR r with
  | true =>
    refine ⟨(r :: rs).takeWhile goesR, by simp [hg], (List.takeWhile_append_dropWhile).symm, ?_⟩
    simp only [cond_true]
    cases Sp.digit r with
    | true =>
      cases (numS (encs ((r :: rs).takeWhile goesR))).2 <;> rfl
    | false =>
      cases words.contains (encs ((r :: rs).takeWhile goesR)) with
      | true => rfl
      | false => cases decide (16 < ((r :: rs).takeWhile goesR).length) <;> rfl
  | false =>
    rw [hg] at h0
    simp only [cond_false] at h0 ⊢
    cases hs : (sgn (encs (r :: rs)) == []) with
    | true => rw [hs] at h0; simp at h0
    | false =>
      have hne : sgn (encs (r :: rs)) ≠ [] := by simpa using hs
      obtain ⟨h1, h2⟩ := sgn_split r rs ha hne
      refine ⟨(r :: rs).take (sgn (encs (r :: rs))).length, ?_, (List.take_append_drop _ _).symm, h1⟩
      intro hh
      have := congrArg List.length hh
      simp only [List.length_take, List.length_nil, List.length_cons] at this
      omega
noncomputable def toks : Nat → Int → List Int → (Int × Int) ⊕ List Token
  | 0, _, _ => .inr []
  | _ + 1, _, [] => .inr []
  | n + 1, p, r :: rs => bif (tokR (r :: rs)).2 != 0 then .inl ((tokR (r :: rs)).2, p) else
      match toks n (p + (encs (r :: rs)).length - (encs (skip false (restR (r :: rs)))).length) (skip false (restR (r :: rs))) with
      | .inl e => .inl e
      | .inr l => .inr (⟨(tokR (r :: rs)).1.kind, (tokR (r :: rs)).1.text, (tokR (r :: rs)).1.num, p⟩ :: l)
theorem all_suffix {ds rs : List Int} (h : (ds ++ rs).all Sp.isRune = true) : rs.all Sp.isRune = true := by
  rw [List.all_append, Bool.and_eq_true] at h
  exact h.2
theorem tokensL (a2 a3 : Int) (a4 : List UInt8) : ∀ (k n : Nat) (rs ds : List Int) (out : List Token), rs.length ≤ k → k < n → (ds ++ rs).all Sp.isRune = true → (encs (ds ++ rs)).length ≤ 4000 → out.length ≤ (encs ds).length →
    qam_i6 n (encs (ds ++ rs)) ((encs ds).length : Int) a2 a3 a4 out = some (match toks k ((encs ds).length : Int) rs with | .inl e => .inl (e.1, e.2, []) | .inr l => .inr (encs (ds ++ rs), a2, a3, a4, out ++ l)) := by
  intro k
  have fin : ∀ (n k : Nat) (ds : List Int) (out : List Token), qam_i6 (n + 1) (encs (ds ++ [])) ((encs ds).length : Int) a2 a3 a4 out = some (match toks k ((encs ds).length : Int) [] with | .inl e => .inl (e.1, e.2, []) | .inr l => .inr (encs (ds ++ []), a2, a3, a4, out ++ l)) := by
    intro n k ds out
    have : toks k ((encs ds).length : Int) [] = .inr [] := by cases k <;> rfl
    rw [this]
    simp only [List.append_nil, qam_i6, qam_t6]
    have : decide (((encs ds).length : Int) < ((encs ds).length : Int)) = false := decide_eq_false (by omega)
    rw [this, cond_false]
  induction k with
  | zero =>
    intro n rs ds out hk hn ha hl ho
    obtain ⟨n, rfl⟩ : ∃ q, n = q + 1 := ⟨n - 1, by omega⟩
    match rs, hk with
    | [], _ => exact fin n 0 ds out
  | succ k ih =>
    intro n rs ds out hk hn ha hl ho
    obtain ⟨n, rfl⟩ : ∃ q, n = q + 1 := ⟨n - 1, by omega⟩
    match rs, hk, ha, hl with
    | [], _, _, _ => exact fin n (k + 1) ds out
    | r :: rs, hk, ha, hl =>
      have har := all_suffix ha
      have hlt := lt_len ds rs r
      have hlen : (encs (ds ++ r :: rs)).length = (encs ds).length + (encs (r :: rs)).length := by rw [encs_append, List.length_append]
      simp only [qam_i6, qam_t6]
      have b0 : decide (((encs ds).length : Int) < ((encs (ds ++ r :: rs)).length : Int)) = true := decide_eq_true (by omega)
      have b1 : (decide ((0 : Int) ≤ ((encs ds).length : Int)) && (decide (((encs ds).length : Int) ≤ ((encs (ds ++ r :: rs)).length : Int)) && decide (((encs (ds ++ r :: rs)).length : Int) ≤ ((encs (ds ++ r :: rs)).length : Int)))) = true := by
        simp only [Bool.and_eq_true, decide_eq_true_eq]; omega
      have hd : List.drop (Int.toNat ((encs ds).length : Int)) (List.take (Int.toNat ((encs (ds ++ r :: rs)).length : Int)) (encs (ds ++ r :: rs))) = encs (r :: rs) := by
        rw [Int.toNat_natCast, Int.toNat_natCast, List.take_length, encs_drop]
      rw [b0, cond_true, b1, cond_true, hd, token1 _ (List.cons_ne_nil _ _) har (by omega), Option.bind_some]
      simp only [toks]
      cases hc : ((tokR (r :: rs)).2 != 0) with
      | true => rfl
      | false =>
        have h0 : (tokR (r :: rs)).2 = 0 := by simpa using hc
        obtain ⟨es, hes, hsp, htx⟩ := rest_split r rs har h0
        obtain ⟨fs, hfs⟩ := skip_split (restR (r :: rs)) false
        have hall : ((ds ++ es) ++ restR (r :: rs)).all Sp.isRune = true := by rw [List.append_assoc, ← hsp]; exact ha
        have hres := all_suffix hall
        have l1 : (encs (r :: rs)).length = (encs es).length + (encs (restR (r :: rs))).length := by
          conv => lhs; rw [hsp]
          rw [encs_append, List.length_append]
        have l2 : (encs (restR (r :: rs))).length = (encs fs).length + (encs (skip false (restR (r :: rs)))).length := by
          conv => lhs; rw [hfs]
          rw [encs_append, List.length_append]
        have hes1 : 1 ≤ (encs es).length := by
          have := len_runes es
          have : 0 < es.length := List.length_pos_iff.2 hes
          omega
        rw [← htx]
        simp only [cond_false]
        rw [decide_eq_true (show _ ∧ _ by simp only [List.length_cons, List.length_nil]; omega), cond_true, i64_in (((encs ds).length : Int) + (encs es).length) (by omega)]
        have b2 : (decide ((0 : Int) ≤ ((encs ds).length : Int) + (encs es).length) && (decide (((encs ds).length : Int) + (encs es).length ≤ ((encs (ds ++ r :: rs)).length : Int)) && decide (((encs (ds ++ r :: rs)).length : Int) ≤ ((encs (ds ++ r :: rs)).length : Int)))) = true := by
          simp only [Bool.and_eq_true, decide_eq_true_eq]; omega
        have hd2 : List.drop (Int.toNat (((encs ds).length : Int) + (encs es).length)) (List.take (Int.toNat ((encs (ds ++ r :: rs)).length : Int)) (encs (ds ++ r :: rs))) = encs (restR (r :: rs)) := by
          have e : ds ++ r :: rs = (ds ++ es) ++ restR (r :: rs) := by rw [List.append_assoc, ← hsp]
          have e2 : (((encs ds).length : Int) + (encs es).length).toNat = (encs (ds ++ es)).length := by rw [encs_append, List.length_append]; omega
          rw [Int.toNat_natCast, List.take_length, e2, e, encs_drop]
        rw [b2, cond_true, hd2, passed1 _ hres (by omega), Option.bind_some]
        have hat : IntKind.wrap IntKind.i64 (((encs ds).length : Int) + (encs es).length + (((encs (restR (r :: rs))).length : Int) - (encs (skip false (restR (r :: rs)))).length)) = ((encs (ds ++ es ++ fs)).length : Int) := by
          rw [i64_in _ (by omega), encs_append, encs_append, List.length_append, List.length_append]
          omega
        have hp : ((encs ds).length : Int) + (encs (r :: rs)).length - (encs (skip false (restR (r :: rs)))).length = ((encs (ds ++ es ++ fs)).length : Int) := by
          rw [encs_append, encs_append, List.length_append, List.length_append]
          omega
        have hT : ds ++ r :: rs = (ds ++ es ++ fs) ++ skip false (restR (r :: rs)) := by
          rw [List.append_assoc, ← hfs, List.append_assoc, ← hsp]
        have hk' : (skip false (restR (r :: rs))).length ≤ k := by
          have q1 := congrArg List.length hsp
          have q2 := congrArg List.length hfs
          have q3 : 0 < es.length := List.length_pos_iff.2 hes
          simp only [List.length_append, List.length_cons] at q1 q2 hk
          omega
        rw [hat, hp]
        have := ih n (skip false (restR (r :: rs))) (ds ++ es ++ fs) (out ++ [⟨(tokR (r :: rs)).1.kind, encs es, (tokR (r :: rs)).1.num, ((encs ds).length : Int)⟩]) hk' (by omega) (by rw [← hT]; exact ha) (by rw [← hT]; exact hl) (by
          rw [encs_append, encs_append]
          simp only [List.length_append, List.length_cons, List.length_nil]
          omega)
        rw [← hT] at this
        rw [this]
        cases toks k ((encs (ds ++ es ++ fs)).length : Int) (skip false (restR (r :: rs))) with
        | inl e => rfl
        | inr l => simp only [List.append_assoc, List.singleton_append]
theorem toks_len : ∀ (k : Nat) (p : Int) (rs : List Int), rs.all Sp.isRune = true → ∀ l, toks k p rs = .inr l → l.length ≤ rs.length
  | 0, p, rs, _, l, h => by simp only [toks, Sum.inr.injEq] at h; subst h; simp
  | k + 1, p, [], _, l, h => by simp only [toks, Sum.inr.injEq] at h; subst h; simp
  | k + 1, p, r :: rs, ha, l, h => by
    simp only [toks] at h
    cases hc : ((tokR (r :: rs)).2 != 0) with
    | true => rw [hc] at h; simp at h
    | false =>
      rw [hc] at h
      have h0 : (tokR (r :: rs)).2 = 0 := by simpa using hc
      obtain ⟨es, hes, hsp, _⟩ := rest_split r rs ha h0
      obtain ⟨fs, hfs⟩ := skip_split (restR (r :: rs)) false
      have q1 := congrArg List.length hsp
      have q2 := congrArg List.length hfs
      have q3 : 0 < es.length := List.length_pos_iff.2 hes
      simp only [List.length_append, List.length_cons] at q1 q2
      simp only [cond_false] at h
      have hs : (skip false (restR (r :: rs))).all Sp.isRune = true := all_suffix (ds := es ++ fs) (by rw [List.append_assoc, ← hfs, ← hsp]; exact ha)
      split at h
      · cases h
      · rename_i l' hl'
        simp only [Sum.inr.injEq] at h
        subst h
        have := toks_len k _ _ hs l' hl'
        simp only [List.length_cons]
        omega
theorem tokens1 (rs : List Int) (ha : rs.all Sp.isRune = true) (hl : (encs rs).length ≤ 4000) : qam (encs rs) = some (match toks rs.length (((encs rs).length : Int) - (encs (skip false rs)).length) (skip false rs) with
    | .inl e => (⟨e.1, e.2, []⟩, [])
    | .inr l => (⟨0, 0, []⟩, l ++ [⟨5, [], 0, ((encs rs).length : Int)⟩])) := by
  obtain ⟨fs, hfs⟩ := skip_split rs false
  obtain ⟨q1, q2⟩ := runes_ok rs ha hl
  have hsk : ((encs rs).length : Int) - (encs (skip false rs)).length = ((encs fs).length : Int) := by
    have : (encs rs).length = (encs fs).length + (encs (skip false rs)).length := by
      conv => lhs; rw [hfs]
      rw [encs_append, List.length_append]
    omega
  have hL := tokensL 0 0 [] rs.length fuel (skip false rs) fs [] (by have := congrArg List.length hfs; rw [List.length_append] at this; omega) (by have := len_runes rs; unfold fuel; omega) (by rw [← hfs]; exact ha) (by rw [← hfs]; exact hl) (by simp)
  rw [← hfs] at hL
  rw [qam, sealF_eq]
  unfold qam_f
  rw [runes1_, q1, q2, Option.bind_some]
  simp only [bne_self_eq_false, cond_false]
  rw [passed1 rs ha (by omega), Option.bind_some, hsk, qam_l6, sealF_eq, hL, Option.bind_some]
  have hlen := toks_len rs.length ((encs fs).length : Int) (skip false rs) (all_suffix (ds := fs) (by rw [← hfs]; exact ha))
  cases ht : toks rs.length ((encs fs).length : Int) (skip false rs) with
  | inl e => rfl
  | inr l =>
    have hl2 := hlen l ht
    have h3 : (skip false rs).length ≤ rs.length := by
      have := congrArg List.length hfs
      rw [List.length_append] at this
      omega
    have h4 := len_runes rs
    simp only [List.nil_append]
    rw [decide_eq_true (show _ ∧ _ by simp only [List.length_cons, List.length_nil]; omega), cond_true]
end Lift.A1P
namespace Lift.A1P
open Go Go.RowKit Lift Go.IntWalk Lift.Fn
end Lift.A1P
namespace Lift.A1P
open Go Go.RowKit Lift Go.IntWalk Lift.Fn
def whole (w : List Int) (t : Token) : Prop := w ≠ [] ∧ w.all Sp.isRune = true ∧ tokR w = (t, 0) ∧ t.text = encs w
end Lift.A1P
namespace Lift.A1P
open Go Go.RowKit Lift Go.IntWalk Lift.Fn
end Lift.A1P
namespace Lift.A1P
open Go Go.RowKit Lift Go.IntWalk Lift.Fn
end Lift.A1P
namespace Lift.A1P
open Go Go.RowKit Lift Go.IntWalk Lift.Fn
end Lift.A1P
namespace Lift.A1P
open Go Go.RowKit Lift Go.IntWalk Lift.Fn
theorem tokens_bad (t : List UInt8) (h : (Sp.runes2 t).code ≠ 0) : qam t = some (⟨(Sp.runes2 t).code, (Sp.runes2 t).at_, (Sp.runes2 t).name⟩, []) := by
  rw [qam, sealF_eq]
  unfold qam_f
  rw [runes1_, Option.bind_some]
  have : ((Sp.runes2 t).code != 0) = true := by simp [h]
  simp only [this, cond_true]
end Lift.A1P
namespace Lift.A1P
open Go Go.RowKit Lift Go.IntWalk Lift.Fn
end Lift.A1P
namespace Lift.A1P
open Go Go.RowKit Lift Go.IntWalk Lift.Fn
end Lift.A1P
namespace Lift.A1P
open Go Go.RowKit Lift Go.IntWalk Lift.Fn
end Lift.A1P
namespace Lift.A1P
open Go Go.RowKit Lift Go.IntWalk Lift.Fn
theorem tokens_any (t : List UInt8) : ∃ f l, qam t = some (f, l) ∧ l.length ≤ 4001 := by
  rcases runes_cases t with ⟨h1, h2⟩ | ⟨h0, rs, rest, _, _, _, _, h1, h2⟩ | ⟨h0, rs, rfl, ha, h1, h2⟩
  · rw [tokens_bad t (by rw [h2]; decide)]; exact ⟨_, _, rfl, by simp⟩
  · rw [tokens_bad t (by rw [h2]; show (11 : Int) ≠ 0; decide)]; exact ⟨_, _, rfl, by simp⟩
  · rw [tokens1 rs ha h0]
    have hlr := len_runes rs
    have hS : (skip false rs).all Sp.isRune = true := by
      obtain ⟨fs, hfs⟩ := skip_split rs false
      exact all_suffix (ds := fs) (by rw [← hfs]; exact ha)
    have hsl : (skip false rs).length ≤ rs.length := by
      obtain ⟨fs, hfs⟩ := skip_split rs false
      have := congrArg List.length hfs
      rw [List.length_append] at this
      omega
    cases ht : toks rs.length (((encs rs).length : Int) - ((encs (skip false rs)).length : Int)) (skip false rs) with
    | inl e => exact ⟨_, _, rfl, by simp⟩
    | inr l =>
      have := toks_len _ _ _ hS l ht
      exact ⟨_, _, rfl, by rw [List.length_append, List.length_cons, List.length_nil]; omega⟩
end Lift.A1P
namespace Lift.A3
open Go Go.RowKit Lift Go.IntWalk Lift.Fn
set_option linter.unusedVariables false
set_option linter.unusedSimpArgs false
theorem isName_any (t : List UInt8) : ∃ b, qbl t = some b := by
  obtain ⟨f, l, e, hl⟩ := Lift.A1P.tokens_any t
  rw [qbl, sealF_eq]
  unfold qbl_f
  rw [e]
  cases decide (((t.length : Nat) : Int) > 64) with
  | true => exact ⟨false, rfl⟩
  | false =>
  simp only [cond_false, Option.bind_some]
  cases f.code == 0 with
  | false => exact ⟨false, rfl⟩
  | true =>
  match l with
  | [] => exact ⟨false, rfl⟩
  | [a] => exact ⟨false, rfl⟩
  | a :: b :: c :: l =>
    have : ((((a :: b :: c :: l : List Token).length : Nat) : Int) == 2) = false := by
      rw [beq_eq_false_iff_ne]; simp only [List.length_cons]; omega
    rw [this]
    exact ⟨false, rfl⟩
  | [a, b] =>
    have : ((([a, b] : List Token).length : Int) == 2) = true := rfl
    simp only [this, cond_true, Option.bind_some]
    have h2 : (decide ((0 : Int) ≤ 0) && decide ((0 : Int) < (([a, b] : List Token).length : Int))) = true := rfl
    simp only [h2, cond_true, List.getElem?_cons_zero, Option.bind_some]
    cases (a.kind == 1) with
    | false => exact ⟨false, rfl⟩
    | true => exact ⟨a.text == t, rfl⟩
noncomputable def isNm (t : List UInt8) : Bool := (qbl t).getD false
theorem isName1 (t : List UInt8) : qbl t = some (isNm t) := by
  obtain ⟨b, e⟩ := isName_any t
  rw [isNm, e]
  rfl
end Lift.A3
namespace Lift.A3
open Go Go.RowKit Lift Go.IntWalk Lift.Fn
set_option linter.unusedVariables false
set_option linter.unusedSimpArgs false
theorem bif_some {α : Type} (c : Bool) (a b : α) : (bif c then some a else some b) = some (bif c then a else b) := by cases c <;> rfl
theorem cand (a b : Bool) : (bif a then b else false) = (a && b) := by cases a <;> rfl
theorem cor (a b : Bool) : (bif a then true else b) = (a || b) := by cases a <;> rfl
noncomputable def xOk (x : TExpr) : Bool :=
  bif x.kind == 1 then ((decide (x.num ≥ 0) && decide (x.num ≤ 2147483647)) && x.name == []) && ((x.args.length : Int) == 0)
  else bif x.kind == 2 then (isNm x.name && x.num == 0) && ((x.args.length : Int) == 0)
  else bif (x.kind == 3 || x.kind == 4) then (((decide (x.kind ≥ 3) && decide (x.kind ≤ 17)) && ((x.args.length : Int) == 1)) && x.num == 0) && x.name == []
  else (((decide (x.kind ≥ 3) && decide (x.kind ≤ 17)) && ((x.args.length : Int) == 2)) && x.num == 0) && x.name == []
theorem exprIs1 (x : TExpr) : qbg x = some (xOk x) := by
  rw [qbg, sealF_eq]
  unfold qbg_f xOk
  simp only [isName1, bif_some, Option.bind_some, cand, cor]
mutual
noncomputable def eF : TExpr → Bool
  | ⟨k, n, m, l⟩ => xOk ⟨k, n, m, l⟩ && eFs l
noncomputable def eFs : List TExpr → Bool
  | [] => true
  | x :: l => eF x && eFs l
end
end Lift.A3
namespace Lift.A3
open Go Go.RowKit Lift Go.IntWalk Lift.Fn
set_option linter.unusedVariables false
set_option linter.unusedSimpArgs false
def shs : List (Int × Shape) := (mapSet (11 : Int) (Shape.mk false false false true true false) (mapSet (10 : Int) (Shape.mk false false true false true true) (mapSet (9 : Int) (Shape.mk false false true false false false) (mapSet (8 : Int) (Shape.mk false true false false false false) (mapSet (7 : Int) (Shape.mk false true false false false false) (mapSet (6 : Int) (Shape.mk false true false false false false) (mapSet (5 : Int) (Shape.mk false true false false false false) (mapSet (4 : Int) (Shape.mk true true true false false false) (mapSet (3 : Int) (Shape.mk false true true false false false) (mapSet (2 : Int) (Shape.mk true true false false false false) (mapSet (1 : Int) (Shape.mk true false true false false false) [])))))))))))
def shp (k : Int) : Shape := Option.getD (mapAt shs k) (Shape.mk false false false false false false)
def inR (k : Int) : Bool := !(decide (k < 1) || decide (k > 11))
theorem shapes1 : qbt = some shs := by rw [qbt, sealF_eq]; rfl
theorem inR_some (k : Int) : Option.isSome (mapAt shs k) = inR k := by
  by_cases h : 1 ≤ k ∧ k ≤ 11
  · obtain ⟨h1, h2⟩ := h
    have : k = 1 ∨ k = 2 ∨ k = 3 ∨ k = 4 ∨ k = 5 ∨ k = 6 ∨ k = 7 ∨ k = 8 ∨ k = 9 ∨ k = 10 ∨ k = 11 := by omega
    rcases this with rfl | rfl | rfl | rfl | rfl | rfl | rfl | rfl | rfl | rfl | rfl <;> decide
  · have e : inR k = false := by
      unfold inR
      rw [Bool.not_eq_false', Bool.or_eq_true, decide_eq_true_eq, decide_eq_true_eq]
      omega
    rw [e]
    have hs : shs = [(1, Shape.mk true false true false false false), (2, Shape.mk true true false false false false), (3, Shape.mk false true true false false false), (4, Shape.mk true true true false false false), (5, Shape.mk false true false false false false), (6, Shape.mk false true false false false false), (7, Shape.mk false true false false false false), (8, Shape.mk false true false false false false), (9, Shape.mk false false true false false false), (10, Shape.mk false false true false true true), (11, Shape.mk false false false true true false)] := by decide
    have n : ∀ c : Int, 1 ≤ c → c ≤ 11 → (c == k) = false := by
      intro c h1 h2
      rw [beq_eq_false_iff_ne]
      omega
    rw [hs]
    unfold mapAt
    simp [List.find?_cons, n]
def none_ (x : TExpr) : Bool := ((x.kind == 0 && x.num == 0) && x.name == []) && ((x.args.length : Int) == 0)
noncomputable def isOpt (t : List UInt8) (b : Bool) : Bool := (b && isNm t) || (!b && t == [])
theorem is1 (t : List UInt8) (b : Bool) : qbk t b = some (isOpt t b) := by
  rw [qbk, sealF_eq]
  unfold qbk_f isOpt
  simp only [isName1, bif_some, Option.bind_some, cand, cor]
noncomputable def sOk (y : TStmt) : Bool :=
  ((((((inR y.kind && isOpt y.reg (shp y.kind).reg) && isOpt y.name (shp y.kind).name) && (((shp y.kind).expr && y.expr.kind != 0) || (!(shp y.kind).expr && none_ y.expr))) &&
    (y.count == 0 || (((shp y.kind).count && decide (y.count > 0)) && decide (y.count ≤ 1000)))) && ((shp y.kind).then_ || ((y.then_.length : Int) == 0))) && ((shp y.kind).other || ((y.else_.length : Int) == 0)))
theorem stmtIs1 (y : TStmt) : qbu y = some (sOk y) := by
  rw [qbu, sealF_eq]
  unfold qbu_f sOk
  simp only [shapes1, is1, bif_some, Option.bind_some, cand, cor, inR_some]
  rfl
mutual
noncomputable def sF : TStmt → Bool
  | ⟨k, r, m, x, c, t, o⟩ => sOk ⟨k, r, m, x, c, t, o⟩ && ((if thereB x then eF x else true) && (sFs t && sFs o))
noncomputable def sFs : List TStmt → Bool
  | [] => true
  | x :: l => sF x && sFs l
end
noncomputable def evOk : Ev → Bool
  | .s x _ => sOk x
  | .e x _ => xOk x
mutual
theorem evOkE : ∀ (x : TExpr) (d : Int), (evE x d).all evOk = eF x
  | ⟨k, n, m, l⟩, d => by rw [evE, List.all_cons, evOkEs l (d + 1), eF]; rfl
theorem evOkEs : ∀ (l : List TExpr) (d : Int), (evEs l d).all evOk = eFs l
  | [], d => by rw [evEs, eFs]; rfl
  | x :: l, d => by rw [evEs, List.all_append, evOkE x d, evOkEs l d, eFs]
end
mutual
theorem evOkS : ∀ (x : TStmt) (d : Int), (evS x d).all evOk = sF x
  | ⟨k, r, m, x, c, t, o⟩, d => by
    rw [evS, List.all_cons, List.all_append, List.all_append, evOkSs t (d + 1), evOkSs o (d + 1), sF]
    cases thereB x with
    | true => rw [if_pos rfl, if_pos rfl, evOkE]; rfl
    | false => rw [if_neg (by simp), if_neg (by simp)]; rfl
theorem evOkSs : ∀ (l : List TStmt) (d : Int), (evSs l d).all evOk = sFs l
  | [], d => by rw [evSs, sFs]; rfl
  | x :: l, d => by rw [evSs, List.all_append, evOkS x d, evOkSs l d, sFs]
end
theorem form_fold : ∀ (l : List Ev) (b : Bool), l.foldlM (atEv (fun (x : TStmt) (d : Int) (s : Bool) => qbi x d s) (fun (x : TExpr) (d : Int) (s : Bool) => qbj x d s)) b = some (b && l.all evOk)
  | [], b => by simp
  | e :: l, b => by
    have e1 : atEv (fun (x : TStmt) (d : Int) (s : Bool) => qbi x d s) (fun (x : TExpr) (d : Int) (s : Bool) => qbj x d s) b e = some (b && evOk e) := by
      cases e with
      | s x d => show qbi x d b = _; rw [qbi, sealF_eq]; unfold qbi_f; simp only [mk_stmt, stmtIs1, bif_some, Option.bind_some, cand]; rfl
      | e x d => show qbj x d b = _; rw [qbj, sealF_eq]; unfold qbj_f; simp only [mk_expr, exprIs1, bif_some, Option.bind_some, cand]; rfl
    rw [List.foldlM_cons, e1]
    show List.foldlM _ (b && evOk e) l = _
    rw [form_fold l _, List.all_cons, Bool.and_assoc]
noncomputable def cOk (c : TCell) : Bool := (isNm c.name && decide (c.init ≥ -2147483647)) && decide (c.init ≤ 2147483647)
noncomputable def pOk (p : TProg) : Bool := p.cells.all cOk && (p.mutexes.all isNm && p.threads.all fun t => isNm t.name && sFs t.body)
theorem all_split {α : Type} (f g : α → Bool) : ∀ l : List α, (l.all fun t => f t && g t) = (l.all f && l.all g)
  | [] => rfl
  | x :: l => by
    rw [List.all_cons, List.all_cons, List.all_cons, all_split f g l]
    cases f x <;> cases g x <;> cases l.all f <;> rfl
theorem treeForm (p : TProg) (h : nT p.threads ≤ 100000000) (h1 : p.cells.length ≤ 100000000) (h2 : p.mutexes.length ≤ 100000000) : qbh p = some (pOk p) := by
  rw [qbh, sealF_eq]
  unfold qbh_f
  have hl := nT_len p.threads
  have e1 := loop_P0 (σ := Bool) p.cells (fun _ _ => True) (fun r s => (p.cells, p.mutexes, p.threads, s && r.all cOk)) (fun m i s => qbh_i3 m p.cells p.cells.length i p.cells p.mutexes p.threads s)
    (fun m i s h0 h hI => by simp only [qbh_i3, qbh_t3, decide_eq_false h, cond_false, List.all_nil, Bool.and_true])
    (fun m i s y r h0 h hy hm hI => by
      refine Or.inl ⟨s && cOk y, trivial, ?_, by rw [List.all_cons, Bool.and_assoc]⟩
      simp only [qbh_i3, qbh_t3, decide_eq_true h, decide_eq_true h0, hy, Option.bind_some, cond_true, isName1, bif_some, cand]
      rw [i64_in (i + 1) (by omega), cOk, Bool.and_assoc, Bool.and_assoc, Bool.and_assoc])
    fuel true (by unfold fuel; omega) trivial
  have e2 := fun s => loop_P0 (σ := Bool) p.mutexes (fun _ _ => True) (fun r s => (p.cells, p.mutexes, p.threads, s && r.all isNm)) (fun m i s => qbh_i8 m p.mutexes p.mutexes.length i p.cells p.mutexes p.threads s)
    (fun m i s h0 h hI => by simp only [qbh_i8, qbh_t8, decide_eq_false h, cond_false, List.all_nil, Bool.and_true])
    (fun m i s y r h0 h hy hm hI => by
      refine Or.inl ⟨s && isNm y, trivial, ?_, by rw [List.all_cons, Bool.and_assoc]⟩
      simp only [qbh_i8, qbh_t8, decide_eq_true h, decide_eq_true h0, hy, Option.bind_some, cond_true, isName1, bif_some, cand]
      rw [i64_in (i + 1) (by omega)])
    fuel s (by unfold fuel; omega) trivial
  have e3 := fun s => loop_P0 (σ := Bool) p.threads (fun _ _ => True) (fun r s => (p.cells, p.mutexes, p.threads, s && r.all fun t => isNm t.name)) (fun m i s => qbh_i13 m p.threads p.threads.length i p.cells p.mutexes p.threads s)
    (fun m i s h0 h hI => by simp only [qbh_i13, qbh_t13, decide_eq_false h, cond_false, List.all_nil, Bool.and_true])
    (fun m i s y r h0 h hy hm hI => by
      refine Or.inl ⟨s && isNm y.name, trivial, ?_, by rw [List.all_cons, Bool.and_assoc]⟩
      simp only [qbh_i13, qbh_t13, decide_eq_true h, decide_eq_true h0, hy, Option.bind_some, cond_true, isName1, bif_some, cand]
      rw [i64_in (i + 1) (by omega)])
    fuel s (by unfold fuel; omega) trivial
  rw [qbh_l3, sealF_eq, e1, Option.bind_some]
  simp only
  rw [qbh_l8, sealF_eq, e2, Option.bind_some]
  simp only
  rw [qbh_l13, sealF_eq, e3, Option.bind_some]
  simp only [mk_prog]
  rw [wP p _ (by omega), form_fold]
  have ef : (evP p).all evOk = p.threads.all fun t => sFs t.body := by
    unfold evP
    generalize p.threads = l
    induction l with
    | nil => rfl
    | cons t l ih => rw [List.flatMap_cons, List.all_append, ih, List.all_cons, evOkSs]
  rw [ef, pOk, all_split]
  cases p.cells.all cOk <;> cases p.mutexes.all isNm <;> cases p.threads.all (fun t => isNm t.name) <;> cases p.threads.all (fun t => sFs t.body) <;> rfl
end Lift.A3
namespace Lift.A3
open Go Go.RowKit Lift Go.IntWalk Lift.Fn
set_option linter.unusedVariables false
set_option linter.unusedSimpArgs false
noncomputable def rightV (p : TProg) : Int :=
  bif !pOk p then 30 else bif decide (maxEv (evP p) 0 > 16) then 31 else bif decide ((cT p.threads : Int) > 500) then 32 else 0
theorem treeRight (p : TProg) (h : nT p.threads ≤ 100000000) (h1 : p.cells.length ≤ 100000000) (h2 : p.mutexes.length ≤ 100000000) : qbb p = some (rightV p) := by
  rw [qbb, sealF_eq]
  unfold qbb_f rightV
  rw [mk_prog, treeForm p h h1 h2, treeDeep p (by omega), treeCount p (by omega)]
  simp only [Option.bind_some, bif_some]
end Lift.A3
namespace Lift.A3
open Go Go.RowKit Lift Go.IntWalk Lift.Fn
set_option linter.unusedVariables false
set_option linter.unusedSimpArgs false
abbrev Nm := List UInt8
abbrev Met := List (Nm × Int) × List Nm
def putN (s : List Nm) (x : Nm) : List Nm := if (s.contains x || x == []) then s else s ++ [x]
def stepN (s : Met) (x : Nm) : Met := if Option.isSome (mapAt s.1 x) then s else (mapSet x (s.2.length : Int) s.1, s.2 ++ [x])
theorem mapAt_set {β : Type} (x y : Nm) (v : β) : ∀ l : List (Nm × β), (mapAt (mapSet x v l) y).isSome = (x == y || (mapAt l y).isSome)
  | [] => by
    unfold mapSet mapAt
    rw [List.find?_cons]
    cases (x == y) <;> rfl
  | (k, w) :: l => by
    have ih := mapAt_set x y v l
    unfold mapSet
    unfold mapAt at ih ⊢
    cases h : (k == x) with
    | true =>
      have := eq_of_beq h
      subst this
      simp only [cond_true, List.find?_cons]
      cases (k == y) <;> simp
    | false =>
      simp only [cond_false, List.find?_cons]
      cases (k == y) with
      | true => simp
      | false => exact ih
def MetOk (s : Met) : Prop := ∀ x, (mapAt s.1 x).isSome = (s.2.contains x || x == [])
theorem stepN_ok (s : Met) (x : Nm) (h : MetOk s) : MetOk (stepN s x) ∧ (stepN s x).2 = putN s.2 x := by
  unfold stepN putN
  rw [← h x]
  cases hx : (mapAt s.1 x).isSome with
  | true => exact ⟨h, rfl⟩
  | false =>
    refine ⟨fun y => ?_, rfl⟩
    show (mapAt (mapSet x (s.2.length : Int) s.1) y).isSome = ((s.2 ++ [x]).contains y || y == [])
    rw [mapAt_set, h y, List.contains_append]
    have : ([x] : List Nm).contains y = (x == y) := by
      rw [List.contains_cons, bcomm y x]
      show (x == y || false) = _
      rw [Bool.or_false]
    rw [this]
    cases (x == y) <;> cases s.2.contains y <;> cases (y == []) <;> rfl
theorem foldN_ok : ∀ (l : List Nm) (s : Met), MetOk s → (l.foldl stepN s).2 = l.foldl putN s.2
  | [], s, _ => rfl
  | x :: l, s, h => by
    obtain ⟨h1, h2⟩ := stepN_ok s x h
    rw [List.foldl_cons, List.foldl_cons, ← h2]
    exact foldN_ok l _ h1
theorem stepN_len (s : Met) (x : Nm) : (stepN s x).2.length ≤ s.2.length + 1 := by
  unfold stepN
  split
  · omega
  · simp
theorem names1 (x : Nm) (s : Met) (h : s.2.length ≤ 100000000000) : qa8 x s.1 s.2 = some (stepN s x) := by
  rw [qa8, sealF_eq]
  unfold qa8_f stepN
  rw [decide_eq_true (by simp only [List.length_cons, List.length_nil]; omega)]
  cases (mapAt s.1 x).isSome <;> rfl
def evNm : Ev → List Nm
  | .s x _ => [x.reg, x.name]
  | .e x _ => [x.name]
def nms (l : List Ev) : List Nm := l.flatMap evNm
theorem names_fold : ∀ (l : List Ev) (s : Met), s.2.length + 2 * l.length ≤ 100000000000 →
    l.foldlM (atEv (fun (x : TStmt) (d : Int) (s : Met) => qa9 x d s.1 s.2) (fun (x : TExpr) (d : Int) (s : Met) => qba x d s.1 s.2)) s = some ((nms l).foldl stepN s)
  | [], s, _ => rfl
  | e :: l, s, h => by
    simp only [List.length_cons] at h
    have e1 : atEv (fun (x : TStmt) (d : Int) (s : Met) => qa9 x d s.1 s.2) (fun (x : TExpr) (d : Int) (s : Met) => qba x d s.1 s.2) s e = some ((evNm e).foldl stepN s) := by
      cases e with
      | s x d =>
        have := stepN_len s x.reg
        show qa9 x d s.1 s.2 = _
        rw [qa9, sealF_eq]
        unfold qa9_f
        rw [names1 x.reg s (by omega), Option.bind_some, names1 x.name _ (by omega)]
        rfl
      | e x d =>
        show qba x d s.1 s.2 = _
        rw [qba, sealF_eq]
        unfold qba_f
        rw [names1 x.name s (by omega)]
        rfl
    have hlen : ((evNm e).foldl stepN s).2.length ≤ s.2.length + 2 := by
      cases e with
      | s x d =>
        have := stepN_len s x.reg
        have := stepN_len (stepN s x.reg) x.name
        show (stepN (stepN s x.reg) x.name).2.length ≤ _
        omega
      | e x d =>
        have := stepN_len s x.name
        show (stepN s x.name).2.length ≤ _
        omega
    rw [List.foldlM_cons, e1]
    show List.foldlM _ ((evNm e).foldl stepN s) l = _
    rw [names_fold l _ (by omega)]
    have : nms (e :: l) = evNm e ++ nms l := by unfold nms; rw [List.flatMap_cons]
    rw [this, List.foldl_append]
def allNm (p : TProg) : List Nm := p.cells.map (·.name) ++ (p.mutexes ++ (p.threads.map (·.name) ++ nms (evP p)))
theorem treeNames (p : TProg) (h : nT p.threads ≤ 100000000) (h1 : p.cells.length ≤ 100000000) (h2 : p.mutexes.length ≤ 100000000) : qa7 p = some ((allNm p).foldl putN []) := by
  rw [qa7, sealF_eq]
  unfold qa7_f
  have hl := nT_len p.threads
  have e1 := loop_P0 (σ := Met) p.cells (fun r s => s.2.length + r.length ≤ 100000000) (fun r s => (p.cells, p.mutexes, p.threads, ((r.map (·.name)).foldl stepN s).1, ((r.map (·.name)).foldl stepN s).2))
    (fun m i s => qa7_i5 m p.cells p.cells.length i p.cells p.mutexes p.threads s.1 s.2)
    (fun m i s h0 h hI => by simp only [qa7_i5, qa7_t5, decide_eq_false h, cond_false]; rfl)
    (fun m i s y r h0 h hy hm hI => by
      have hI' : s.2.length + (y :: r).length ≤ 100000000 := hI
      simp only [List.length_cons] at hI'
      have := stepN_len s y.name
      refine Or.inl ⟨stepN s y.name, (by show (stepN s y.name).2.length + r.length ≤ 100000000; omega), ?_, rfl⟩
      simp only [qa7_i5, qa7_t5, decide_eq_true h, decide_eq_true h0, hy, Option.bind_some, cond_true]
      rw [names1 y.name s (by omega), i64_in (i + 1) (by omega)]
      rfl)
    fuel (mapSet [] (0 : Int) [], []) (by unfold fuel; omega) (by simp; omega)
  have e2 := fun s hs => loop_P0 (σ := Met) p.mutexes (fun r s => s.2.length + r.length ≤ 200000000) (fun r s => (p.cells, p.mutexes, p.threads, (r.foldl stepN s).1, (r.foldl stepN s).2))
    (fun m i s => qa7_i10 m p.mutexes p.mutexes.length i p.cells p.mutexes p.threads s.1 s.2)
    (fun m i s h0 h hI => by simp only [qa7_i10, qa7_t10, decide_eq_false h, cond_false]; rfl)
    (fun m i s y r h0 h hy hm hI => by
      have hI' : s.2.length + (y :: r).length ≤ 200000000 := hI
      simp only [List.length_cons] at hI'
      have := stepN_len s y
      refine Or.inl ⟨stepN s y, (by show (stepN s y).2.length + r.length ≤ 200000000; omega), ?_, rfl⟩
      simp only [qa7_i10, qa7_t10, decide_eq_true h, decide_eq_true h0, hy, Option.bind_some, cond_true]
      rw [names1 y s (by omega), i64_in (i + 1) (by omega)]
      rfl)
    fuel s (by unfold fuel; omega) hs
  have e3 := fun s hs => loop_P0 (σ := Met) p.threads (fun r s => s.2.length + r.length ≤ 300000000) (fun r s => (p.cells, p.mutexes, p.threads, ((r.map (·.name)).foldl stepN s).1, ((r.map (·.name)).foldl stepN s).2))
    (fun m i s => qa7_i15 m p.threads p.threads.length i p.cells p.mutexes p.threads s.1 s.2)
    (fun m i s h0 h hI => by simp only [qa7_i15, qa7_t15, decide_eq_false h, cond_false]; rfl)
    (fun m i s y r h0 h hy hm hI => by
      have hI' : s.2.length + (y :: r).length ≤ 300000000 := hI
      simp only [List.length_cons] at hI'
      have := stepN_len s y.name
      refine Or.inl ⟨stepN s y.name, (by show (stepN s y.name).2.length + r.length ≤ 300000000; omega), ?_, rfl⟩
      simp only [qa7_i15, qa7_t15, decide_eq_true h, decide_eq_true h0, hy, Option.bind_some, cond_true]
      rw [names1 y.name s (by omega), i64_in (i + 1) (by omega)]
      rfl)
    fuel s (by unfold fuel; omega) hs
  have hok : MetOk (mapSet [] (0 : Int) [], []) := by
    intro x
    show (mapAt (mapSet [] (0 : Int) []) x).isSome = _
    rw [mapAt_set]
    have : (([] : Nm) == x) = (x == []) := bcomm _ _
    rw [this]
    show (x == [] || false) = (false || x == [])
    simp
  have len : ∀ (l : List Nm) (s : Met), (l.foldl stepN s).2.length ≤ s.2.length + l.length := by
    intro l
    induction l with
    | nil => intro s; simp
    | cons x l ih => intro s; have := ih (stepN s x); have := stepN_len s x; simp only [List.foldl_cons, List.length_cons]; omega
  have g1 := len (p.cells.map (·.name)) (mapSet [] (0 : Int) [], [])
  rw [List.length_map] at g1
  have g2 := len p.mutexes ((p.cells.map (·.name)).foldl stepN (mapSet [] (0 : Int) [], []))
  have g3 := len (p.threads.map (·.name)) (p.mutexes.foldl stepN ((p.cells.map (·.name)).foldl stepN (mapSet [] (0 : Int) [], [])))
  rw [List.length_map] at g3
  have g0 : ((mapSet ([] : Nm) (0 : Int) [], []) : Met).2.length = 0 := rfl
  rw [qa7_l5, sealF_eq, e1, Option.bind_some]
  simp only
  rw [qa7_l10, sealF_eq, e2 _ (by omega), Option.bind_some]
  simp only
  rw [qa7_l15, sealF_eq, e3 _ (by omega), Option.bind_some]
  simp only [mk_prog]
  have hc := cT_le p.threads
  have hl2 := lenP p.threads
  rw [wP_3 p _ (by omega), names_fold _ _ (by unfold evP; rw [hl2]; omega), Option.bind_some, qaP, sealF_eq]
  unfold qaP_f
  rw [← List.foldl_append, ← List.foldl_append, ← List.foldl_append, foldN_ok _ _ hok]
  simp [allNm]
end Lift.A3
namespace Lift.A3
open Go Go.RowKit Lift Go.IntWalk Lift.Fn Lift.A1P
set_option linter.unusedVariables false
set_option linter.unusedSimpArgs false
theorem lexOf (rs : List Int) (t : List UInt8) (l : List Token) (ha : rs.all Sp.isRune = true) (hl : (encs rs).length ≤ 4000) (ht : encs rs = t)
    (hT : toks rs.length (((encs rs).length : Int) - (encs (skip false rs)).length) (skip false rs) = .inr l) : qam t = some (⟨0, 0, []⟩, l ++ [⟨5, [], 0, ((encs rs).length : Int)⟩]) := by
  have hk := tokens1 rs ha hl
  rw [hT, ht] at hk
  rw [hk, ht]
theorem nm_of (rs : List Int) (t : List UInt8) (a : Token) (ha : rs.all Sp.isRune = true) (hl : (encs rs).length ≤ 64) (ht : encs rs = t)
    (hT : toks rs.length (((encs rs).length : Int) - (encs (skip false rs)).length) (skip false rs) = .inr [a]) : isNm t = (a.kind == 1 && a.text == t) := by
  unfold isNm
  rw [qbl, sealF_eq]
  unfold qbl_f
  rw [decide_eq_false (by rw [← ht]; omega), cond_false, lexOf rs t [a] ha (by omega) ht hT]
  simp only [Option.bind_some, List.singleton_append]
  have h2 : ((([a, ⟨5, [], 0, ((encs rs).length : Int)⟩] : List Token).length : Int) == 2) = true := rfl
  have h3 : (decide ((0 : Int) ≤ 0) && decide ((0 : Int) < (([a, ⟨5, [], 0, ((encs rs).length : Int)⟩] : List Token).length : Int))) = true := rfl
  rw [h2, h3]
  cases h : (a.kind == 1)
  · simp [h]
  · simp [h]
theorem nm_x : isNm [120] = true := (nm_of [120] [120] ⟨1, [120], 0, 0⟩ (by decide) (by decide +kernel) (by decide +kernel) (by decide +kernel)).trans (by decide)
theorem nm_t : isNm [116] = true := (nm_of [116] [116] ⟨1, [116], 0, 0⟩ (by decide) (by decide +kernel) (by decide +kernel) (by decide +kernel)).trans (by decide)
theorem nm_r : isNm [114] = true := (nm_of [114] [114] ⟨1, [114], 0, 0⟩ (by decide) (by decide +kernel) (by decide +kernel) (by decide +kernel)).trans (by decide)
theorem nm_q : isNm [113] = true := (nm_of [113] [113] ⟨1, [113], 0, 0⟩ (by decide) (by decide +kernel) (by decide +kernel) (by decide +kernel)).trans (by decide)
theorem nm_if : isNm [105, 102] = false := (nm_of [105, 102] [105, 102] ⟨4, [105, 102], 0, 0⟩ (by decide) (by decide +kernel) (by decide +kernel) (by decide +kernel)).trans (by decide)
end Lift.A3
namespace Lift.A3
open Go Go.RowKit Lift Go.IntWalk Lift.Fn
set_option linter.unusedVariables false
set_option linter.unusedSimpArgs false
def sy0 : TStmt := TStmt.mk (4 : Int) [(114 : UInt8)] [(120 : UInt8)] (TExpr.mk (5 : Int) (0 : Int) [] [TExpr.mk (2 : Int) (0 : Int) [(114 : UInt8)] [], TExpr.mk (2 : Int) (0 : Int) [(113 : UInt8)] []]) (0 : Int) [] []
def p0 (c : List UInt8) : TProg := TProg.mk [TCell.mk c (0 : Int)] [] [TThread.mk [(116 : UInt8)] [sy0]]
theorem sF0 : sF sy0 = true := by
  have h4 : shp 4 = ⟨true, true, true, false, false, false⟩ := by decide
  have hi : inR 4 = true := by decide
  simp [sF, sy0, sOk, h4, hi, isOpt, nm_x, nm_r, thereB, eF, eFs, xOk, nm_q, sFs]
theorem pOk0 : pOk (p0 [120]) = true := by
  simp [pOk, p0, cOk, nm_x, nm_t, sFs, sF0]
theorem pOk1 : pOk (p0 [105, 102]) = false := by
  simp [pOk, p0, cOk, nm_if]
theorem shown1 : qay = some true := by
  rw [qay, sealF_eq]
  unfold qay_f
  have n0 : ∀ c, nT (p0 c).threads ≤ 100000000 := by intro c; show nT [TThread.mk [(116 : UInt8)] [sy0]] ≤ 100000000; simp [nT, nSs, nS, sy0, nE, nEs]
  have n1 : ∀ c, (p0 c).cells.length ≤ 100000000 := by intro c; show 1 ≤ _; omega
  have n2 : ∀ c, (p0 c).mutexes.length ≤ 100000000 := by intro c; show 0 ≤ _; omega
  have r0 : rightV (p0 [120]) = 0 := by
    unfold rightV
    rw [pOk0]
    have h1 : maxEv (evP (p0 [120])) 0 = 2 := by simp [evP, p0, evSs, evS, sy0, thereB, evE, evEs, maxEv, evD]; rfl
    have h2 : cT (p0 [120]).threads = 4 := by simp [p0, cT, cSs, cS, sy0, thereB, nE, nEs]
    rw [h1, h2]
    rfl
  have r1 : rightV (p0 [105, 102]) = 30 := by
    unfold rightV
    rw [pOk1]
    rfl
  have e1 := treeRight (p0 [120]) (n0 _) (n1 _) (n2 _)
  have e2 := treeCount (p0 [120]) (Nat.le_trans (n0 _) (by decide))
  have e3 := treeDeep (p0 [120]) (Nat.le_trans (n0 _) (by decide))
  have e4 := treeNames (p0 [120]) (n0 _) (n1 _) (n2 _)
  have e5 := treeCopy (p0 [120]) (n0 _) (n1 _) (n2 _)
  have e6 := fun q => treeSame (p0 [120]) q (n0 _) (n1 _) (n2 _)
  have e7 := treeRight (p0 [105, 102]) (n0 _) (n1 _) (n2 _)
  have h1 : maxEv (evP (p0 [120])) 0 = 2 := by simp [evP, p0, evSs, evS, sy0, thereB, evE, evEs, maxEv, evD]; rfl
  have h2 : cT (p0 [120]).threads = 4 := by simp [p0, cT, cSs, cS, sy0, thereB, nE, nEs]
  have h3 : (allNm (p0 [120])).foldl putN [] = [[120], [116], [114], [113]] := by
    have : allNm (p0 [120]) = [[120], [116], [114], [120], [], [114], [113]] := by simp [allNm, evP, p0, evSs, evS, sy0, thereB, evE, evEs, nms, evNm]
    rw [this]
    decide
  have h6 : sP (p0 [120]) (TProg.mk [] [] []) = false := rfl
  rw [r0] at e1
  rw [h2] at e2
  rw [h1] at e3
  rw [h3] at e4
  rw [r1] at e7
  show Option.bind (qbb (p0 [120])) _ = _
  rw [e1, Option.bind_some]
  show Option.bind (qa1 (p0 [120])) _ = _
  rw [e2, Option.bind_some]
  show Option.bind (qa4 (p0 [120])) _ = _
  rw [e3, Option.bind_some]
  show Option.bind (qa7 (p0 [120])) _ = _
  rw [e4, Option.bind_some]
  show Option.bind (qaX (p0 [120])) _ = _
  rw [e5, Option.bind_some]
  show Option.bind (qbc (p0 [120]) (p0 [120])) _ = _
  rw [e6, sP_refl, Option.bind_some]
  show Option.bind (qbc (p0 [120]) (TProg.mk [] [] [])) _ = _
  rw [e6, h6, Option.bind_some]
  show Option.bind (qbb (p0 [105, 102])) _ = _
  rw [e7, Option.bind_some]
  rfl
end Lift.A3
namespace Lift.A3
open Go Go.RowKit Lift Go.IntWalk Lift.Fn
set_option linter.unusedVariables false
set_option linter.unusedSimpArgs false
theorem loop_set {α ρ : Type} (l : List α) (P : ρ → Prop) (L : Nat → Int → List α → Option ρ)
    (h0 : ∀ n i s, 0 ≤ i → ¬ i < (l.length : Int) → s.length = l.length → ∃ r, L (n + 1) i s = some r ∧ P r)
    (h1 : ∀ n i s x, 0 ≤ i → i < (l.length : Int) → s.length = l.length → x ∈ l → s[i.toNat]? = some x → ∃ y, L (n + 1) i s = L n (i + 1) (s.set i.toNat y)) :
    ∀ n, l.length < n → ∃ r, L n 0 l = some r ∧ P r := by
  have key : ∀ (k n : Nat) (i : Int) (s : List α), 0 ≤ i → i.toNat ≤ l.length → l.length - i.toNat ≤ k → k < n → s.length = l.length → (∀ j, i.toNat ≤ j → s[j]? = l[j]?) → ∃ r, L n i s = some r ∧ P r := by
    intro k
    induction k with
    | zero =>
      intro n i s hi hle hk hn hs hj
      obtain ⟨n, rfl⟩ : ∃ q, n = q + 1 := ⟨n - 1, by omega⟩
      exact h0 n i s hi (by omega) hs
    | succ k ih =>
      intro n i s hi hle hk hn hs hj
      obtain ⟨n, rfl⟩ : ∃ q, n = q + 1 := ⟨n - 1, by omega⟩
      by_cases c : i < (l.length : Int)
      · have hlt : i.toNat < l.length := by omega
        have hx : s[i.toNat]? = some l[i.toNat] := by rw [hj _ (Nat.le_refl _)]; exact List.getElem?_eq_getElem hlt
        obtain ⟨y, e⟩ := h1 n i s l[i.toNat] hi c hs (List.getElem_mem hlt) hx
        have e2 : (i + 1).toNat = i.toNat + 1 := by omega
        rw [e]
        refine ih n (i + 1) _ (by omega) (by omega) (by omega) (by omega) (by simpa using hs) (fun j hj2 => ?_)
        rw [List.getElem?_set_ne (by omega)]
        exact hj j (by omega)
      · exact h0 n i s hi c hs
  intro n hn
  exact key l.length n 0 l (by omega) (by simp) (by simp) hn rfl (fun _ _ => rfl)
theorem nat_beq (n : Nat) : Nat.beq n n = true := by simp
theorem markE (rs : List TStmt → Option (List TStmt)) : ∀ (k n : Nat) (x : TExpr), nE x ≤ k → k < n → k ≤ 100000000 → ∃ r, qaw_i rs n x.kind x.num x.name x.args = some r := by
  intro k
  induction k with
  | zero => intro n x h; have := nE_eq x; omega
  | succ k ih =>
    intro n x h hn hb
    obtain ⟨n, rfl⟩ : ∃ q, n = q + 1 := ⟨n - 1, by omega⟩
    have hx := nE_eq x
    have hl := nEs_len x.args
    show ∃ r, qaw_f rs (qaw_i rs n) x.kind x.num x.name x.args = some r
    unfold qaw_f
    obtain ⟨r, hr, hP⟩ := loop_set x.args (fun r => r.2.2.2.2.2.2.length = x.args.length)
      (fun m i s => qaw_i2 rs (qaw_i rs n) m i x.kind x.num x.name 0 0 [] s)
      (fun m i s h0 h hs => by
        refine ⟨(x.kind, x.num, x.name, 0, 0, [], s), ?_, hs⟩
        simp only [qaw_i2, qaw_t2, hs, decide_eq_false h, cond_false])
      (fun m i s y h0 h hs hm hy => by
        have hy1 := nEs_mem hm
        obtain ⟨z, hz⟩ := ih n y (by omega) (by omega) (by omega)
        refine ⟨TExpr.mk z.1 z.2.1 z.2.2.1 z.2.2.2, ?_⟩
        simp only [qaw_i2, qaw_t2, hs, decide_eq_true h, decide_eq_true h0, cond_true, Bool.and_self, hy, Option.bind_some, hz, nat_beq, i64_in (i + 1) (by omega)])
      fuel (by unfold fuel; omega)
    rw [qaw_l2, sealF_eq, hr, Option.bind_some, hP, decide_eq_true (by omega), cond_true]
    exact ⟨_, rfl⟩
theorem markS : ∀ (k n : Nat) (l : List TStmt), nSs l ≤ k → k < n → k ≤ 100000000 → ∃ r, qax_i n l = some r := by
  intro k
  induction k with
  | zero =>
    intro n l h hn _
    obtain ⟨n, rfl⟩ : ∃ q, n = q + 1 := ⟨n - 1, by omega⟩
    have hl := nSs_len l
    obtain rfl : l = [] := List.eq_nil_of_length_eq_zero (by omega)
    show ∃ r, qax_f (qax_i n) [] = some r
    unfold qax_f
    rw [qax_l2, sealF_eq]
    exact ⟨_, rfl⟩
  | succ k ih =>
    intro n l h hn hb
    obtain ⟨n, rfl⟩ : ∃ q, n = q + 1 := ⟨n - 1, by omega⟩
    have hl := nSs_len l
    show ∃ r, qax_f (qax_i n) l = some r
    unfold qax_f
    obtain ⟨r, hr, hP⟩ := loop_set l (fun r => r.length = l.length)
      (fun m i s => qax_i2 (qax_i n) m i s)
      (fun m i s h0 h hs => by
        refine ⟨s, ?_, hs⟩
        simp only [qax_i2, qax_t2, hs, decide_eq_false h, cond_false])
      (fun m i s y h0 h hs hm hy => by
        have hy1 := nSs_mem hm
        have hy2 := nS_eq y
        obtain ⟨z1, hz1⟩ := ih n y.then_ (by omega) (by omega) (by omega)
        obtain ⟨z2, hz2⟩ := ih n y.else_ (by omega) (by omega) (by omega)
        obtain ⟨z3, hz3⟩ := markE (qax_i n) (nE y.expr) fuel y.expr (Nat.le_refl _) (by unfold fuel; omega) (by omega)
        refine ⟨TStmt.mk (-77) [45, 55, 55] [] (TExpr.mk z3.1 z3.2.1 z3.2.2.1 z3.2.2.2) 0 z1 z2, ?_⟩
        simp only [qax_i2, qax_t2, hs, decide_eq_true h, decide_eq_true h0, cond_true, Bool.and_self, hy, Option.bind_some, hz1, hz2, nat_beq, i64_in (i + 1) (by omega)]
        rw [qaw, sealF_eq, hz3, Option.bind_some])
      fuel (by unfold fuel; omega)
    rw [qax_l2, sealF_eq, hr, Option.bind_some, hP, decide_eq_true (by omega), cond_true]
    exact ⟨_, rfl⟩
theorem markP (a : List TCell) (b : List (List UInt8)) (c : List TThread) (h : nT c ≤ 100000000) (h1 : a.length ≤ 100000000) (h2 : b.length ≤ 100000000) : ∃ r, qav a b c = some r ∧ 0 < r.2.2.length := by
  rw [qav, sealF_eq]
  unfold qav_f
  have hl := nT_len c
  obtain ⟨r1, e1, p1⟩ := loop_set a (fun r => r.1.length = a.length ∧ r.2 = (b, c)) (fun m i s => qav_i2 m i s b c)
    (fun m i s h0 h hs => by
      refine ⟨(s, b, c), ?_, hs, rfl⟩
      simp only [qav_i2, qav_t2, hs, decide_eq_false h, cond_false])
    (fun m i s y h0 h hs hm hy => by
      refine ⟨TCell.mk [45, 55, 55] 0, ?_⟩
      simp only [qav_i2, qav_t2, hs, decide_eq_true h, decide_eq_true h0, cond_true, Bool.and_self, hy, Option.bind_some, i64_in (i + 1) (by omega)])
    fuel (by unfold fuel; omega)
  rw [qav_l2, sealF_eq, e1, Option.bind_some]
  obtain ⟨x1, x2⟩ := r1
  obtain ⟨p1, p2⟩ := p1
  simp only at p1 p2
  subst p2
  obtain ⟨r2, e2, p3⟩ := loop_set b (fun r => r.2.1.length = b.length ∧ r.1 = x1 ∧ r.2.2 = c) (fun m i s => qav_i6 m i x1 s c)
    (fun m i s h0 h hs => by
      refine ⟨(x1, s, c), ?_, hs, rfl, rfl⟩
      simp only [qav_i6, qav_t6, hs, decide_eq_false h, cond_false])
    (fun m i s y h0 h hs hm hy => by
      refine ⟨[45, 55, 55], ?_⟩
      simp only [qav_i6, qav_t6, hs, decide_eq_true h, decide_eq_true h0, cond_true, Bool.and_self, hy, Option.bind_some, i64_in (i + 1) (by omega)])
    fuel (by unfold fuel; omega)
  simp only
  rw [qav_l6, sealF_eq, e2, Option.bind_some]
  obtain ⟨y1, y2, y3⟩ := r2
  obtain ⟨p3, p4, p5⟩ := p3
  simp only at p3 p4 p5
  subst p4 p5
  simp only [p1, p3]
  rw [decide_eq_true (by omega), decide_eq_true (by omega), cond_true, cond_true]
  obtain ⟨r3, e3, p6⟩ := loop_set y3 (fun r => r.2.2.length = y3.length) (fun m i s => qav_i12 m i (y1 ++ [TCell.mk [(45 : UInt8), (55 : UInt8), (56 : UInt8)] (0 : Int)]) (y2 ++ [[(45 : UInt8), (55 : UInt8), (56 : UInt8)]]) s)
    (fun m i s h0 h hs => by
      refine ⟨(y1 ++ [TCell.mk [(45 : UInt8), (55 : UInt8), (56 : UInt8)] (0 : Int)], y2 ++ [[(45 : UInt8), (55 : UInt8), (56 : UInt8)]], s), ?_, hs⟩
      simp only [qav_i12, qav_t12, hs, decide_eq_false h, cond_false])
    (fun m i s y h0 h hs hm hy => by
      have hy1 := nT_mem hm
      have hlt : i.toNat < s.length := (List.getElem?_eq_some_iff.1 hy).1
      obtain ⟨z, hz⟩ := markS (nSs y.body) fuel y.body (Nat.le_refl _) (by unfold fuel; omega) (by omega)
      have hz' : qax y.body = some z := by rw [qax, sealF_eq]; exact hz
      refine ⟨TThread.mk [45, 55, 55] z, ?_⟩
      simp only [qav_i12, qav_t12, List.length_set, hs, decide_eq_true h, decide_eq_true h0, cond_true, Bool.and_self, hy, Option.bind_some, List.getElem?_set_self hlt, hz', nat_beq, i64_in (i + 1) (by omega), List.set_set])
    fuel (by unfold fuel; omega)
  rw [qav_l12, sealF_eq, e3, Option.bind_some, p6, decide_eq_true (by omega), cond_true]
  exact ⟨_, rfl, by simp⟩
theorem lawCopies (p : TProg) (h : nT p.threads ≤ 100000000) (h1 : p.cells.length ≤ 100000000) (h2 : p.mutexes.length ≤ 100000000) : qau p = some true := by
  rw [qau, sealF_eq]
  unfold qau_f
  obtain ⟨r, hr, hp⟩ := markP p.cells p.mutexes p.threads h h1 h2
  rw [shown1, mk_prog, refCopy p h h1 h2]
  simp only [Option.bind_some, mk_prog]
  rw [treeCopy p h h1 h2]
  simp only [Option.bind_some, mk_prog]
  rw [refSame p p h h1 h2, hr, sP_refl]
  simp only [Option.bind_some, cond_true]
  rw [decide_eq_true (by omega)]
end Lift.A3
namespace Lift.A3
open Go Go.RowKit Lift Lift.Fn
set_option linter.unusedVariables false
theorem sl_cons {u : Uni} {c : TV u.U} {cs : List (TV u.U)} {N : Nat} (h : SizedL u (c :: cs) N) : ∃ a b, Sized u c a ∧ SizedL u cs b ∧ a + b + 1 ≤ N := by
  cases h with
  | cons _ _ a b _ h1 h2 h3 => exact ⟨a, b, h1, h2, h3⟩
mutual
theorem szE : ∀ (x : TExpr) (N : Nat), Sized F3.kk.u ⟨.st 41, x⟩ N → nE x ≤ N
  | ⟨k, n, m, l⟩, N, h => by
    have h1 : SizedL F3.kk.u [⟨.int .i64, k⟩, ⟨.int .i64, n⟩, ⟨.str, m⟩, ⟨.slc (.st 41), l⟩] N := h.st_inv
    obtain ⟨a1, b1, _, h1, e1⟩ := sl_cons h1
    obtain ⟨a2, b2, _, h2, e2⟩ := sl_cons h1
    obtain ⟨a3, b3, _, h3, e3⟩ := sl_cons h2
    obtain ⟨a4, b4, s4, h4, e4⟩ := sl_cons h3
    have := szEs l a4 s4.slc_inv
    rw [nE]
    omega
theorem szEs : ∀ (l : List TExpr) (N : Nat), SizedL F3.kk.u (l.map (TV.mk (.st 41))) N → nEs l ≤ N
  | [], N, h => by simp [nEs]
  | x :: l, N, h => by
    obtain ⟨a, b, h1, h2, e⟩ := sl_cons h
    have := szE x a h1
    have := szEs l b h2
    rw [nEs]
    omega
end
mutual
theorem szS : ∀ (x : TStmt) (N : Nat), Sized F3.kk.u ⟨.st 43, x⟩ N → nS x ≤ N
  | ⟨k, r, m, ⟨k', n', m', l'⟩, c, t, o⟩, N, h => by
    have h1 : SizedL F3.kk.u [⟨.int .i64, k⟩, ⟨.str, r⟩, ⟨.str, m⟩, ⟨.int .i64, k'⟩, ⟨.int .i64, n'⟩, ⟨.str, m'⟩, ⟨.slc (.st 41), l'⟩, ⟨.int .i64, c⟩, ⟨.slc (.st 43), t⟩, ⟨.slc (.st 43), o⟩] N := h.st_inv
    obtain ⟨a1, b1, _, h1, e1⟩ := sl_cons h1
    obtain ⟨a2, b2, _, h2, e2⟩ := sl_cons h1
    obtain ⟨a3, b3, _, h3, e3⟩ := sl_cons h2
    obtain ⟨a4, b4, _, h4, e4⟩ := sl_cons h3
    obtain ⟨a5, b5, _, h5, e5⟩ := sl_cons h4
    obtain ⟨a6, b6, _, h6, e6⟩ := sl_cons h5
    obtain ⟨a7, b7, s7, h7, e7⟩ := sl_cons h6
    obtain ⟨a8, b8, _, h8, e8⟩ := sl_cons h7
    obtain ⟨a9, b9, s9, h9, e9⟩ := sl_cons h8
    obtain ⟨a10, b10, s10, h10, e10⟩ := sl_cons h9
    have := szEs l' a7 s7.slc_inv
    have := szSs t a9 s9.slc_inv
    have := szSs o a10 s10.slc_inv
    rw [nS, nE]
    omega
theorem szSs : ∀ (l : List TStmt) (N : Nat), SizedL F3.kk.u (l.map (TV.mk (.st 43))) N → nSs l ≤ N
  | [], N, h => by simp [nSs]
  | x :: l, N, h => by
    obtain ⟨a, b, h1, h2, e⟩ := sl_cons h
    have := szS x a h1
    have := szSs l b h2
    rw [nSs]
    omega
end
theorem szT : ∀ (l : List TThread) (N : Nat), SizedL F3.kk.u (l.map (TV.mk (.st 38))) N → nT l ≤ N
  | [], N, h => by simp [nT]
  | ⟨m, t⟩ :: l, N, h => by
    obtain ⟨a, b, h1, h2, e⟩ := sl_cons h
    have h3 : SizedL F3.kk.u [⟨.str, m⟩, ⟨.slc (.st 43), t⟩] a := h1.st_inv
    obtain ⟨a1, b1, _, h3, e1⟩ := sl_cons h3
    obtain ⟨a2, b2, s2, h4, e2⟩ := sl_cons h3
    have := szSs t a2 s2.slc_inv
    have := szT l b h2
    rw [nT]
    show 1 + nSs t + nT l ≤ N
    omega
structure Small (y : TProg) : Prop where
  t : nT y.threads ≤ 100000000
  c : y.cells.length ≤ 100000000
  m : y.mutexes.length ≤ 100000000
theorem small (y : TProg) (h : Sized F3.kk.u ⟨.st 26, y⟩ 1048576) : Small y := by
  obtain ⟨c, m, t⟩ := y
  have h1 : SizedL F3.kk.u [⟨.slc (.st 46), c⟩, ⟨.slc .str, m⟩, ⟨.slc (.st 38), t⟩] 1048576 := h.st_inv
  obtain ⟨a1, b1, s1, h1, e1⟩ := sl_cons h1
  obtain ⟨a2, b2, s2, h2, e2⟩ := sl_cons h1
  obtain ⟨a3, b3, s3, h3, e3⟩ := sl_cons h2
  have := s1.slc_len
  have := s2.slc_len
  have := szT t a3 s3.slc_inv
  have q1 : c.length ≤ a1 := s1.slc_len
  have q2 : m.length ≤ a2 := s2.slc_len
  exact ⟨by show nT t ≤ _; omega, by show c.length ≤ _; omega, by show m.length ≤ _; omega⟩
theorem treeCopies1 (p : TProg) (h : Small p) : qau p = some true := lawCopies p h.t h.c h.m
end Lift.A3
