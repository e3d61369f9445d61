/-
  DERIVED. The function that holds the loop. Conditions: as each theorem says.
-/
import Derived.Test.YtfclmdmignblkaaDoorFound
set_option linter.unusedVariables false
set_option linter.unusedSimpArgs false
set_option linter.unusedSectionVars false
/- Read's code, in parts. -/
namespace Lift.E2.R
open Go Go.RowKit Go.Proofs Lift Lift.Fn

def seqL : Code → Code
  | .seq a _ => a
  | c => c
def seqR : Code → Code
  | .seq _ b => b
  | c => c
def inB : Code → Code
  | .block _ a => a
  | c => c
def rfAssign : Code → Code
  | .rangeFunc _ _ a _ => a
  | c => c
def rfBody : Code → Code
  | .rangeFunc _ _ _ b => b
  | c => c

noncomputable def c0 : Code := bodyOf Tryd.f17
noncomputable def r0 : Code := seqL c0
noncomputable def c1 : Code := seqR c0
noncomputable def cT : Code := seqL c1
noncomputable def c2 : Code := seqR c1
noncomputable def r3 : Code := seqL c2
noncomputable def c3 : Code := seqR c2
noncomputable def r4 : Code := seqL c3
noncomputable def c4 : Code := seqR c3
noncomputable def cY : Code := seqL c4
noncomputable def cZ : Code := seqR c4
noncomputable def r5 : Code := seqL cY
noncomputable def rf : Code := inB (seqR cY)
noncomputable def rfA : Code := rfAssign rf
noncomputable def rfB : Code := rfBody rf
noncomputable def preC : Code := .seq r0 (.seq cT (.seq r3 r4))

noncomputable def sh0 : StSh := ⟨⟨[0], [], []⟩, [.t .str], []⟩
noncomputable def shP : StSh := ⟨⟨[0, 2, 3, 4, 5], [2, 3, 4, 5], [⟨.cell 4 0, 20200, 3, .int .i64⟩]⟩, [.t .str, .ptr 2 0, .ptr 3 0, .ptr 4 0, .ptr 5 0],
  [.blk 22 [.junk], .blk 34 [.junk, .junk, .junk], .blk 22 [.oslc 20200], .blk 3 [.t (.int .i64)], .row 3 (.int .i64)]⟩
noncomputable def shQ : StSh := ⟨⟨[2, 3], [2, 3], []⟩, [.ptr 2 0, .ptr 3 0], [.blk 22 [.nil], .blk 34 [.t (.int .i64), .t (.int .i64), .t .str]]⟩
noncomputable def shB : StSh := ⟨⟨[2, 3, 4, 5, 6], [100002, 100003, 100004, 100005], [⟨.cell 100004 0, 200400, 3, .int .i64⟩]⟩, [.ptr 100002 0, .ptr 100003 0, .ptr 100004 0, .ptr 100005 0, .t .str],
  [.blk 22 [.junk], .blk 34 [.junk, .junk, .junk], .blk 22 [.oslc 200400], .blk 3 [.t (.int .i64)], .row 3 (.int .i64)]⟩
noncomputable def shR : StSh := ⟨⟨[2, 3], [100002, 100003], []⟩, [.ptr 100002 0, .ptr 100003 0], [.blk 22 [.nil], .blk 34 [.t (.int .i64), .t (.int .i64), .t .str]]⟩
noncomputable def shF : StSh := ⟨⟨[2, 3], [100002, 100003], [⟨.cell 100002 0, 200200, 3, .int .i64⟩]⟩, [.ptr 100002 0, .ptr 100003 0], [.blk 22 [.oslc 200200], .blk 34 [.t (.int .i64), .t (.int .i64), .t .str], .row 3 (.int .i64)]⟩
noncomputable def shZ0 : StSh := ⟨⟨[2, 3, 4, 5], [100002, 100003, 100004, 100005], [⟨.cell 100004 0, 200400, 3, .int .i64⟩]⟩, [.ptr 100002 0, .ptr 100003 0, .ptr 100004 0, .ptr 100005 0],
  [.blk 22 [.junk], .blk 34 [.junk, .junk, .junk], .blk 22 [.oslc 200400], .blk 3 [.t (.int .i64)], .row 3 (.int .i64)]⟩
noncomputable def kF : Kit := Kit.withModes kk (modesOf ms14)

noncomputable def encP : List (TV U) → Option (((List UInt8) × Int × List Int) ⊕ (Int × Int × List UInt8))
  | [⟨.str, s⟩, ⟨.int .i64, a⟩, ⟨.slc (.int .i64), l⟩] => some (.inl (s, a, l))
  | _ => none
noncomputable def encR {α : Type} : List (TV U) → Option (α ⊕ (Int × Int × List UInt8))
  | [⟨.int .i64, c⟩, ⟨.int .i64, a⟩, ⟨.str, n⟩] => some (.inr (c, a, n))
  | _ => none
noncomputable def kP (e : Xit) (σ : St U) : Option (((List UInt8) × Int × List Int) ⊕ (Int × Int × List UInt8)) := match e with
  | .normal => (enter kF.u shP (look σ.tm) (look σ.st)).bind encP
  | .ret => (enter kF.u shQ (look σ.tm) (look σ.st)).bind encR
  | _ => none
noncomputable def encB : List (TV U) → Option ((Int × List Int) ⊕ (Int × Int × List UInt8))
  | [⟨.str, _⟩, ⟨.int .i64, a⟩, ⟨.slc (.int .i64), l⟩] => some (.inl (a, l))
  | _ => none
noncomputable def kB (e : Xit) (σ : St U) : Option ((Int × List Int) ⊕ (Int × Int × List UInt8)) := match e with
  | .normal => (enter kF.u shB (look σ.tm) (look σ.st)).bind encB
  | .ret => (enter kF.u shR (look σ.tm) (look σ.st)).bind encR
  | _ => none
noncomputable def encF : List (TV U) → Option (Int × Int × List UInt8 × List Int)
  | [⟨.int .i64, c⟩, ⟨.int .i64, a⟩, ⟨.str, n⟩, ⟨.slc (.int .i64), l⟩] => some (c, a, n, l)
  | _ => none
noncomputable def kZ (e : Xit) (σ : St U) : Option (Int × Int × List UInt8 × List Int) := match e with
  | .ret => (enter kF.u shF (look σ.tm) (look σ.st)).bind encF
  | _ => none
end Lift.E2.R

/- Read's code: what its parts compute. -/
namespace Lift.E2.R
open Go Go.RowKit Go.Proofs Lift Lift.Fn

theorem preE (a0 : List UInt8) : kF.exec Tryd.f17.ntmps (fun _ => none) preC (StSh.fill sh0 [⟨.str, a0⟩]) kP = bif a0 == [] then some (.inr (0, 0, [])) else some (.inl (a0, 0, [])) := by kernel_rfl

theorem bodyE (x : List UInt8) (a : Int) (l : List Int) : kF.exec Tryd.f17.ntmps (fun _ => none) rfB (StSh.fill shB [⟨.str, x⟩, ⟨.int .i64, a⟩, ⟨.slc (.int .i64), l⟩]) kB = read_step x a l := by kernel_rfl

theorem zE (t : Int) (l : List Int) : kF.exec Tryd.f17.ntmps (fun _ => none) cZ (StSh.fill shZ0 [⟨.int .i64, t⟩, ⟨.slc (.int .i64), l⟩]) kZ = (slices_Clip_int_int l).bind fun y => some (0, 0, [], y) := by kernel_rfl

theorem bodyCalm : calm rfB = true := by kernel_rfl
theorem kFok : KitOk kF env0 := kitOk_of eqOk mixed known14
theorem codeE : Tryd.f17.body = some (.seq r0 (.seq cT (.seq r3 (.seq r4 (.seq (.seq r5 (.block 0 (.rangeFunc (.tmp 13) #[14] rfA rfB))) cZ))))) := by kernel_rfl
end Lift.E2.R

/- Read: one round. -/
namespace Lift.E2.R
open Go Go.RowKit Go.Proofs Lift Lift.Fn

abbrev lsB (x : List UInt8) (t : Int) (l : List Int) : List (TV U) := [⟨.str, x⟩, ⟨.int .i64, t⟩, ⟨.slc (.int .i64), l⟩]
abbrev lsR (c a : Int) (n : List UInt8) : List (TV U) := [⟨.int .i64, c⟩, ⟨.int .i64, a⟩, ⟨.str, n⟩]
abbrev stB (t : Int) (l : List Int) : List (Nat × Ob U) := [(100002, .blk 22 [.junk]), (100003, .blk 34 [.junk, .junk, .junk]), (100004, .blk 22 [.oslc 200400 0]), (100005, .blk 3 [.t ⟨.int .i64, t⟩]), (200400, .row 3 0 (.int .i64) l)]
abbrev stR (c a : Int) (n : List UInt8) : List (Nat × Ob U) := [(100002, .blk 22 [.k (.slice none 0 0)]), (100003, .blk 34 [.t ⟨.int .i64, c⟩, .t ⟨.int .i64, a⟩, .t ⟨.str, n⟩])]

theorem look_all {α : Type} {st : List (Nat × α)} {P : Nat → α → Prop} (h : ∀ x ∈ st, P x.1 x.2) {id : Nat} {ob : α} (hl : look st id = some ob) : P id ob := h _ (look_mem hl)

def ptr (b : Nat) : Value := .pointer (some ⟨b, 0, none⟩)
def pvF (b2 b3 b4 b5 : Nat) : Nat → Value := fun i => if i = 100002 then ptr b2 else if i = 100003 then ptr b3 else if i = 100004 then ptr b4 else ptr b5

theorem stB_scalar {t : Int} {l : List Int} : ∀ id ob, look (stB t l) id = some ob → scalarOb ob = true := fun id ob h =>
  look_all (P := fun _ (o : Ob U) => scalarOb o = true) (fun x hx => by
    simp only [List.mem_cons, List.not_mem_nil, or_false] at hx
    rcases hx with rfl | rfl | rfl | rfl | rfl <;> rfl) h
theorem stB_live {t : Int} {l : List Int} : ∀ id ob, look (stB t l) id = some ob → ob.live = true := fun id ob h =>
  look_all (P := fun _ (o : Ob U) => o.live = true) (fun x hx => by
    simp only [List.mem_cons, List.not_mem_nil, or_false] at hx
    rcases hx with rfl | rfl | rfl | rfl | rfl <;> rfl) h
theorem stB_kind {t : Int} {l : List Int} : ∀ id (ob : Ob U), look (stB t l) id = some ob → (∃ T cs, ob = .blk T cs) ∨ ∃ T v e l, ob = .row T v e l := fun id ob h =>
  look_all (P := fun _ (o : Ob U) => (∃ T cs, o = .blk T cs) ∨ ∃ T v e l, o = .row T v e l) (fun x hx => by
    simp only [List.mem_cons, List.not_mem_nil, or_false] at hx
    rcases hx with rfl | rfl | rfl | rfl | rfl
    · exact .inl ⟨_, _, rfl⟩
    · exact .inl ⟨_, _, rfl⟩
    · exact .inl ⟨_, _, rfl⟩
    · exact .inl ⟨_, _, rfl⟩
    · exact .inr ⟨_, _, _, _, rfl⟩) h
theorem stR_scalar {c a : Int} {n : List UInt8} : ∀ id ob, look (stR c a n) id = some ob → scalarOb ob = true := fun id ob h =>
  look_all (P := fun _ (o : Ob U) => scalarOb o = true) (fun x hx => by
    simp only [List.mem_cons, List.not_mem_nil, or_false] at hx
    rcases hx with rfl | rfl <;> rfl) h
theorem stR_live {c a : Int} {n : List UInt8} : ∀ id ob, look (stR c a n) id = some ob → ob.live = true := fun id ob h =>
  look_all (P := fun _ (o : Ob U) => o.live = true) (fun x hx => by
    simp only [List.mem_cons, List.not_mem_nil, or_false] at hx
    rcases hx with rfl | rfl <;> rfl) h

/-- Where the four boxes lie. -/
structure At4 (β : Nat → Value) (b2 b3 b4 b5 : Nat) : Prop where
  e2 : β 100002 = ptr b2
  e3 : β 100003 = ptr b3
  e4 : β 100004 = ptr b4
  e5 : β 100005 = ptr b5

theorem At4.pv {β : Nat → Value} {b2 b3 b4 b5 : Nat} (h : At4 β b2 b3 b4 b5) {t : Int} {l : List Int} : ∀ id ob, pinBase ≤ id → look (stB t l) id = some ob → ob.isP = true → β id = pvF b2 b3 b4 b5 id := fun id ob _ hl hp => by
  revert hp
  refine look_all (P := fun id (o : Ob U) => o.isP = true → β id = pvF b2 b3 b4 b5 id) (fun x hx => ?_) hl
  simp only [List.mem_cons, List.not_mem_nil, or_false] at hx
  rcases hx with rfl | rfl | rfl | rfl | rfl <;> intro hp
  · exact h.e2
  · exact h.e3
  · exact h.e4
  · exact h.e5
  · cases hp

/-- The slots that point to the boxes. -/
structure Slots (a : Act) (b2 b3 b4 b5 : Nat) : Prop where
  t2 : a.tmps[2]? = some (ptr b2)
  t3 : a.tmps[3]? = some (ptr b3)
  t4 : a.tmps[4]? = some (ptr b4)
  t5 : a.tmps[5]? = some (ptr b5)

theorem round_rel {b2 b3 b4 b5 : Nat} {β : Nat → Value} {t : Int} {l : List Int} {W : World} (hL : Lies kF (stB t l) β W) (hA : At4 β b2 b3 b4 b5) (hE : env0.E W) (hn : env0.N0 ≤ W.heap.size) (hh : ∀ b, Has (stB t l) β b → env0.N0 ≤ b)
    {x : List UInt8} {a : Act} {nt : Nat} (hS : Slots a b2 b3 b4 b5) (h6 : a.tmps[6]? = some (.string ⟨x.toArray⟩)) (hs : a.tmps.size = nt) (hd : a.defers = []) :
    Rel kF env0 (baseL W (Has (stB t l) β) (pvF b2 b3 b4 b5) []) nt (shB.fill (lsB x t l)) a W := by
  refine ⟨_, β, hL.inv hE hn (fun _ h => h) hh hA.pv [], ?_, hs, hd⟩
  intro n p hp
  have hP : ∀ {id b : Nat} {ob : Ob U}, look (stB t l) id = some ob → β id = ptr b → PRel kF (baseL W (Has (stB t l) β) (pvF b2 b3 b4 b5) []).G0 (look (stB t l)) β (PV.ptr id 0) (ptr b) := fun {id b ob} h e => by
    simp only [PRel]
    exact ⟨rfl, ob, h, fun _ => by rw [e]; rfl⟩
  refine look_all (st := [((2 : Nat), (PV.ptr 100002 0 : PV U)), (3, .ptr 100003 0), (4, .ptr 100004 0), (5, .ptr 100005 0), (6, .t ⟨.str, x⟩)]) (P := fun n p => ∃ v, a.tmps[n]? = some v ∧ PRel kF (baseL W (Has (stB t l) β) (pvF b2 b3 b4 b5) []).G0 (look (stB t l)) β p v) (fun y hy => ?_) hp
  simp only [List.mem_cons, List.not_mem_nil, or_false] at hy
  rcases hy with rfl | rfl | rfl | rfl | rfl
  · exact ⟨_, hS.t2, hP rfl hA.e2⟩
  · exact ⟨_, hS.t3, hP rfl hA.e3⟩
  · exact ⟨_, hS.t4, hP rfl hA.e4⟩
  · exact ⟨_, hS.t5, hP rfl hA.e5⟩
  · refine ⟨_, h6, ?_⟩
    simp only [PRel]
    exact .str _

theorem encB_inv {ls : List (TV U)} {y : (Int × List Int) ⊕ (Int × Int × List UInt8)} (h : encB ls = some y) : ∃ x t l, ls = lsB x t l ∧ y = .inl (t, l) := by
  unfold encB at h
  split at h
  · cases h; exact ⟨_, _, _, rfl, rfl⟩
  · cases h

theorem encR_inv {α : Type} {ls : List (TV U)} {y : α ⊕ (Int × Int × List UInt8)} (h : encR ls = some y) : ∃ c a n, ls = lsR c a n ∧ y = .inr (c, a, n) := by
  unfold encR at h
  split at h
  · cases h; exact ⟨_, _, _, rfl, rfl⟩
  · cases h

/-- A round's code, at a round's state. -/
theorem round_wp {l₀ n : Nat} {b2 b3 b4 b5 : Nat} {β : Nat → Value} {t : Int} {l : List Int} {W : World} (hL : Lies kF (stB t l) β W) (hA : At4 β b2 b3 b4 b5) (hE : env0.E W) (hn : env0.N0 ≤ W.heap.size) (hh : ∀ b, Has (stB t l) β b → env0.N0 ≤ b)
    {x : List UInt8} {y : (Int × List Int) ⊕ (Int × Int × List UInt8)} (hx : read_step x t l = some y) {a : Act} (hS : Slots a b2 b3 b4 b5) (h6 : a.tmps[6]? = some (.string ⟨x.toArray⟩)) (hs : a.tmps.size = Tryd.f17.ntmps) (hd : a.defers = [])
    {Q : Exit → Act → World → Prop} (hQ : ¬ LetsOut Q)
    (hk : ∀ t' l' a' W' β', y = .inl (t', l') → Lies kF (stB t' l') β' W' → At4 β' b2 b3 b4 b5 → KeptL env0 (Has (stB t l) β) W W' → (∀ b, Has (stB t' l') β' b → Has (stB t l) β b ∨ W.heap.size ≤ b) → Q .normal a' W')
    (hr : ∀ c d m a' W' β', y = .inr (c, d, m) → Lies kF (stR c d m) β' W' → (β' 100002 = ptr b2 ∧ β' 100003 = ptr b3) → KeptL env0 (Has (stB t l) β) W W' → (∀ b, Has (stR c d m) β' b → Has (stB t l) β b ∨ W.heap.size ≤ b) → Q .ret a' W') :
    rfB.wpIn (Fence.wide.inRound l₀) n Tryd.prog Q a W := by
  refine exec_in kFok bodyCalm ((bodyE x t l).trans hx) (round_rel hL hA hE hn hh hS h6 hs hd) hQ (fun e σ' a' W' he hrel => ?_)
  unfold kB at he
  split at he
  · obtain ⟨ls, h7, h8⟩ := Option.bind_eq_some_iff.1 he
    obtain ⟨x', t', l', rfl, hy⟩ := encB_inv h8
    obtain ⟨G, β', hI, _, _, _⟩ := enter_rel h7 hrel
    change Inv kF env0 _ G (look (stB t' l')) β' W' at hI
    have pin : ∀ id ob, pinBase ≤ id → look (stB t' l') id = some ob → ob.isP = true → β' id = pvF b2 b3 b4 b5 id := hI.pin
    exact hk t' l' a' W' β' hy (Lies.of_inv hI stB_scalar stB_live) ⟨pin 100002 _ (by decide) rfl rfl, pin 100003 _ (by decide) rfl rfl, pin 100004 _ (by decide) rfl rfl, pin 100005 _ (by decide) rfl rfl⟩ (kept_of_inv hI) (has_of_inv hI)
  · obtain ⟨ls, h7, h8⟩ := Option.bind_eq_some_iff.1 he
    obtain ⟨c, d, m, rfl, hy⟩ := encR_inv h8
    obtain ⟨G, β', hI, _, _, _⟩ := enter_rel h7 hrel
    change Inv kF env0 _ G (look (stR c d m)) β' W' at hI
    have pin : ∀ id ob, pinBase ≤ id → look (stR c d m) id = some ob → ob.isP = true → β' id = pvF b2 b3 b4 b5 id := hI.pin
    exact hr c d m a' W' β' hy (Lies.of_inv hI stR_scalar stR_live) ⟨pin 100002 _ (by decide) rfl rfl, pin 100003 _ (by decide) rfl rfl⟩ (kept_of_inv hI) (has_of_inv hI)
  · cases he
end Lift.E2.R

/- Read: the call of SplitSeq; what the function leaves. -/
namespace Lift.E2.R
open Go Go.RowKit Go.Proofs Lift Lift.Fn

theorem exec_seq {K : Kit} {nt : Nat} {R : Type} {x y : Code} {L : Nat → Option (Loop K.u.U)} {σ : St K.u.U} {k : Xit → St K.u.U → Option R} :
    K.exec nt L (.seq x y) σ k = K.exec nt L x σ (fun e σ' => match e with | .normal => K.exec nt L y σ' k | e => k e σ') := by
  simp only [Kit.exec]
  congr 1
  funext e σ'
  cases e <;> rfl

theorem wpOps_wp {P : Program} {ops : Array Oper} {Q : Exit → Act → World → Prop} {i : Nat} {rest : List Nat} {a : Act} {w : World} (o : Oper) (ho : ops[i]? = some o) (hg : o.guard = none) (h : o.wp P a w (wpOps P ops Q rest) Q) : wpOps P ops Q (i :: rest) a w := by
  simp only [wpOps, ho]
  have hw : Region.wanted o (yielded ops a.tmps) = true := by simp [Region.wanted, hg]
  rw [if_pos hw]
  exact .inl h

/-- Code ahead of the rest: it goes on, or it returns. -/
theorem wp_seq_exec2 {K : Kit} {V : Env} {B : Base} {nt : Nat} {R : Type} (hK : KitOk K V) {x y rest : Code} {σ : St K.u.U} {k : Xit → St K.u.U → Option R} {r : R} (h : K.exec nt (fun _ => none) (.seq x y) σ k = some r)
    (hx : ∀ id σ, k (.exit id) σ ≠ some r) {a : Act} {w : World} (hr : Rel K V B nt σ a w) {Q : Exit → Act → World → Prop} (hret : ∀ σ' a' w', k .ret σ' = some r → Rel K V B nt σ' a' w' → Q .ret a' w')
    (hn : ∀ σ' a' w', K.exec nt (fun _ => none) y σ' k = some r → Rel K V B nt σ' a' w' → rest.wp K.P Q a' w') : (Code.seq x rest).wp K.P Q a w := by
  rw [exec_seq] at h
  refine wp_seq (exec_sound hK (fun b _ lp h => by cases h) h hr (fun e σ' a' w' he hr' => ?_))
  cases e with
  | normal => exact hn σ' a' w' he hr'
  | exit id => exact absurd he (hx _ _)
  | ret => exact hret σ' a' w' he hr'

theorem eval_tmp {a : Act} {n : Nat} {v : Value} (h : a.tmps[n]? = some v) : a.eval (.tmp n) = v := by
  simp [Act.eval, Array.getD_eq_getD_getElem?, h]

abbrev op12 : Oper := { dst := some 12, op := Op.move (Operand.tmp 0), type := 9, pos := "sched.go:75", after := #[], guard := none }
abbrev op13 : Oper := { dst := some 13, op := Op.call { callee := Callee.value (Operand.func 31), args := #[Operand.tmp 12, Operand.const (Value.string { data := #[32] })], argTypes := #[9, 9] }, type := 60, pos := "sched.go:75", after := #[{ on := 0, ground := Ground.data }], guard := none }
abbrev op6 : Oper := { dst := some 6, op := Op.assign (Operand.tmp 14), type := 9, pos := "sched.go:75", after := #[], guard := none }
def ops5 : Array Oper := #[op12, op13]
def opsA : Array Oper := #[op6]

theorem r5E : r5 = .region 5 ops5 false := by kernel_rfl
theorem rfAE : rfA = .region 6 opsA false := by kernel_rfl

noncomputable def iter (w : World) : Value := .func (.func 51) #[] #[.pointer (some ⟨w.heap.size + 1, 0, none⟩), .pointer (some ⟨w.heap.size, 0, none⟩), .pointer (some ⟨w.heap.size + 2, 0, none⟩)]

theorem r5_wp {a : Act} {w : World} {s : ByteArray} {Q : Exit → Act → World → Prop} (h0 : a.tmps[0]? = some (.string s)) (hs : a.tmps.size = Tryd.f17.ntmps)
    (hk : Q .normal { a with tmps := (a.tmps.setIfInBounds 12 (.string s)).setIfInBounds 13 (iter w) } (seqWorld w s ⟨#[32]⟩)) : r5.wp Tryd.prog Q a w := by
  have hsz : a.tmps.size = 64 := hs
  rw [r5E]
  refine wp_region ?_
  show wpOps Tryd.prog ops5 Q [0, 1] a w
  refine wpOps_wp op12 rfl rfl (wp_value (v := .string s) (w' := w) ?_ ?_)
  · simp [execOp, eval_tmp h0]
  refine wpOps_wp op13 rfl rfl ?_
  unfold Oper.wp
  have e12 : (a.put (some 12) (.string s)).eval (.tmp 12) = .string s := eval_tmp (by simp [Act.put, hsz])
  have hrun : (execOp (a.put (some 12) (.string s)).eval op13).run Tryd.prog w = .ok (.enter 31 #[.string s, .string ⟨#[32]⟩]) w := by
    have hc : callable Tryd.prog 31 = true := by kernel_rfl
    simp [execOp, resolve, Act.eval, Deferred.ofValue, invoke, run_callFunc hc]
    simpa [Act.eval] using e12
  rw [hrun, Oper.upon_enter]
  refine (callsIn_wide.1 (Tryd.SplitSeq_in 0 s ⟨#[32]⟩ w)).mono ?_
  rintro e w' ⟨rfl, rfl⟩
  simp only [wpOps]
  exact hk

theorem rfA_wp {l n : Nat} {a : Act} {W : World} {x : Value} {K : Act → World → Prop} (h : a.tmps[14]? = some x) (hk : K { a with tmps := a.tmps.setIfInBounds 6 x } W) :
    rfA.wpIn (Fence.wide.inRound l) n Tryd.prog (Exit.then K (fun _ _ _ => False)) a W := by
  rw [rfAE]
  refine wpIn_region (wpOps_in (by decide) (by rintro ⟨_, _, h⟩; exact h) _ _ _ ?_)
  show wpOps Tryd.prog opsA _ [0] a W
  refine wpOps_wp op6 rfl rfl (wp_value (v := x) (w' := W) ?_ ?_)
  · simp [execOp, eval_tmp h]
  · simp only [wpOps]
    exact hk

theorem f17_results {tmps : Array Value} {W : World} {b2 b3 : Nat} {sl x1 x2 x3 : Value} (h2 : tmps[2]? = some (ptr b2)) (h3 : tmps[3]? = some (ptr b3)) (hb2 : W.heap[b2]? = some (.cells #[sl] 22 (0, 0))) (hb3 : W.heap[b3]? = some (.cells #[x1, x2, x3] 34 (0, 0))) :
    (results Tryd.f17 tmps).run Tryd.prog W = .ok (.tuple #[sl, .agg #[x1, x2, x3]]) W := by
  have hr : Tryd.f17.results = #[.cell 2 22, .cell 3 34] := rfl
  have l2 := run_loadVar_one (P := Tryd.prog) (w := W) (T := 22) (b := b2) (o := 0) (v := sl) (by kernel_rfl) (by rw [cell_at hb2]; rfl)
  have l3 := run_loadVar_agg (P := Tryd.prog) (w := W) (T := 34) (b := b3) (o := 0) (vs := [x1, x2, x3]) (by kernel_rfl) (by kernel_rfl) (fun j v hj => by
    rw [Nat.zero_add, cell_at hb3]
    simpa using hj)
  have t2 : tmps.getD 2 undef = .pointer (some ⟨b2, 0, none⟩) := by simp [Array.getD_eq_getD_getElem?, h2, ptr]
  have t3 : tmps.getD 3 undef = .pointer (some ⟨b3, 0, none⟩) := by simp [Array.getD_eq_getD_getElem?, h3, ptr]
  rw [results_eq, hr]
  simp [resOne, t2, t3, asAddr, l2, l3]

abbrev stO (l : List Int) : List (Nat × Ob U) := [(100000, .row 3 0 (.int .i64) l)]

/-- What the caller wants of f17's end. -/
def R17 (B : Base) (F : Fault) (l : List Int) (e : Ending) (w' : World) : Prop :=
  ∃ G' β' v, e = .returned v ∧ Inv kF env0 B G' (look (stO l)) β' w' ∧ ResPV kF G' (look (stO l)) β' [.oslc 100000 0, .t ⟨.st 34, F⟩] v

theorem mem1 {α : Type} {i : Nat} {x : α} {id : Nat} {ob : α} (h : look [(i, x)] id = some ob) : id = i ∧ ob = x := by
  have hm := look_mem h
  simpa using hm

theorem leave {B : Base} {G : Nat → Option Obj} {sl : Value} {l : List Int} {c d : Int} {m : List UInt8} {W' : World} {b2 b3 : Nat} {tmps : Array Value} {ds : List Deferred} (hI : Inv kF env0 B G (look (stO l)) (fun _ => sl) W') (hone : sl.oneCell' = true)
    (h2 : tmps[2]? = some (ptr b2)) (h3 : tmps[3]? = some (ptr b3)) (hb2 : W'.heap[b2]? = some (.cells #[sl] 22 (0, 0))) (hb3 : W'.heap[b3]? = some (.cells #[.int .i64 c, .int .i64 d, .string ⟨m.toArray⟩] 34 (0, 0)))
    (hd : ds = [] ∨ ∃ D, B.w0.heap.size ≤ D ∧ G D = none ∧ W'.heap[D]? = some (.deferred (some [])) ∧ ds = [{ target := .collected D, args := #[] }]) :
    LeavesInM Fence.wide 0 Tryd.prog Tryd.f17 tmps (R17 B ⟨c, d, m⟩ l) ds .returning W' := by
  have hres : ResPV kF G (look (stO l)) (fun _ => sl) [.oslc 100000 0, .t ⟨.st 34, (⟨c, d, m⟩ : Fault)⟩] (.tuple #[sl, .agg #[.int .i64 c, .int .i64 d, .string ⟨m.toArray⟩]]) := by
    have hc : TsRel kF.u G (kF.u.cells 34 (⟨c, d, m⟩ : Fault)) [.int .i64 c, .int .i64 d, .string ⟨m.toArray⟩] := .cons _ _ _ _ (.int _ _) (.cons _ _ _ _ (.int _ _) (.cons _ _ _ _ (.str _) .nil))
    refine ⟨[sl, .agg #[.int .i64 c, .int .i64 d, .string ⟨m.toArray⟩]], rfl, _, _, rfl, ?_, _, _, rfl, ?_, rfl⟩
    · simp only [PRel]
      exact ⟨hone, _, rfl, Nat.le_refl _, fun _ _ => trivial⟩
    · simp only [PRel]
      exact TRel.st (u := kF.u) 34 _ _ hc
  rcases hd with rfl | ⟨D, hD, hG, hDW, rfl⟩
  · exact ⟨_, f17_results h2 h3 hb2 hb3, G, _, _, rfl, hI, hres⟩
  · refine ⟨by simp, .inl ⟨_, _, rfl, run_takeDeferred hDW, ?_⟩⟩
    have n2 : b2 ≠ D := fun e => by rw [e, hDW] at hb2; cases hb2
    have n3 : b3 ≠ D := fun e => by rw [e, hDW] at hb3; cases hb3
    have nH : ¬ Has (stO l) (fun _ => sl) D := by
      rintro ⟨id, ob, h1, _, hb⟩
      obtain ⟨rfl, rfl⟩ := mem1 h1
      obtain ⟨vals, _, hown⟩ := hI.obs 100000 _ rfl
      rcases hown.2 with ⟨h', _⟩ | ⟨g, cap, cur, fz, h', _, hg, _⟩
      · rw [h'] at hb; cases hb
      · rw [h'] at hb; cases hb
        rw [hg] at hDW; cases hDW
    have b2' : (W'.putObj D (.deferred none)).heap[b2]? = some (.cells #[sl] 22 (0, 0)) := (World.putObj_heap_other n2).trans hb2
    have b3' : (W'.putObj D (.deferred none)).heap[b3]? = some (.cells #[.int .i64 c, .int .i64 d, .string ⟨m.toArray⟩] 34 (0, 0)) := (World.putObj_heap_other n3).trans hb3
    exact ⟨_, f17_results h2 h3 b2' b3', G, _, _, rfl, hI.put hD hG nH _, hres⟩
end Lift.E2.R

/- Read: its ends. -/
namespace Lift.E2.R
open Go Go.RowKit Go.Proofs Lift Lift.Fn

abbrev stP (t : Int) (l : List Int) : List (Nat × Ob U) := [(2, .blk 22 [.junk]), (3, .blk 34 [.junk, .junk, .junk]), (4, .blk 22 [.oslc 20200 0]), (5, .blk 3 [.t ⟨.int .i64, t⟩]), (20200, .row 3 0 (.int .i64) l)]
abbrev stF (c a : Int) (n : List UInt8) (l : List Int) : List (Nat × Ob U) := [(100002, .blk 22 [.oslc 200200 0]), (100003, .blk 34 [.t ⟨.int .i64, c⟩, .t ⟨.int .i64, a⟩, .t ⟨.str, n⟩]), (200200, .row 3 0 (.int .i64) l)]

/-- What has become of the world since the loop began. -/
structure Out (w5 W : World) (H5 : Nat → Prop) : Prop where
  same : ∀ j, j < w5.heap.size → ¬ H5 j → W.heap[j]? = w5.heap[j]?
  os : W.os = w5.os
  tape : W.tape = w5.tape
  output : W.output = w5.output
  size : w5.heap.size + 3 ≤ W.heap.size
  env : env0.E W

theorem box2 {st : List (Nat × Ob U)} {β : Nat → Value} {W : World} (hL : Lies kF st β W) {id b : Nat} {p : PV U} {T : TypeId} (h : look st id = some (.blk T [p])) (e : β id = ptr b) :
    ∃ x, W.heap[b]? = some (.cells #[x] T (0, 0)) ∧ PRel kF (fun _ => none) (look st) β p x ∧ x.oneCell' = true := by
  obtain ⟨b', vs, e1, e2, e3, e4⟩ := hL.obs id _ h
  rw [e] at e1
  cases e1
  obtain ⟨x, r, rfl, p1, rfl⟩ := e3
  exact ⟨x, e2, p1, e4 x (by simp)⟩

theorem box3 {st : List (Nat × Ob U)} {β : Nat → Value} {W : World} (hL : Lies kF st β W) {id b : Nat} {c d : Int} {m : List UInt8} (h : look st id = some (.blk 34 [.t ⟨.int .i64, c⟩, .t ⟨.int .i64, d⟩, .t ⟨.str, m⟩])) (e : β id = ptr b) :
    W.heap[b]? = some (.cells #[.int .i64 c, .int .i64 d, .string ⟨m.toArray⟩] 34 (0, 0)) := by
  obtain ⟨b', vs, e1, e2, e3, e4⟩ := hL.obs id _ h
  rw [e] at e1
  cases e1
  obtain ⟨x1, r1, rfl, p1, x2, r2, rfl, p2, x3, r3, rfl, p3, rfl⟩ := e3
  simp only [PRel] at p1 p2 p3
  have i1 := p1.int_inv
  have i2 := p2.int_inv
  have i3 := p3.str_inv
  subst i1 i2 i3
  exact e2

theorem stop_leave {B : Base} {G5 : Nat → Option Obj} {st5 : List (Nat × Ob U)} {β5 : Nat → Value} {w5 W : World} {ds0 : List Deferred} (hI5 : Inv kF env0 { B with ds := ds0 } G5 (look st5) β5 w5) (hO : Out w5 W (Has st5 β5))
    {c d : Int} {m : List UInt8} {β : Nat → Value} {b2 b3 : Nat} (hL : Lies kF (stR c d m) β W) (h2 : β 100002 = ptr b2) (h3 : β 100003 = ptr b3) {tmps : Array Value} (t2 : tmps[2]? = some (ptr b2)) (t3 : tmps[3]? = some (ptr b3))
    {D : Nat} (hD : w5.heap.size + 3 ≤ D) (hDW : W.heap[D]? = some (.deferred (some []))) :
    LeavesInM Fence.wide 0 Tryd.prog Tryd.f17 tmps (R17 B ⟨c, d, m⟩ []) [{ target := .collected D, args := #[] }] .returning W := by
  obtain ⟨x, hx, px, ox⟩ := box2 hL (id := 100002) rfl h2
  simp only [PRel] at px
  obtain ⟨rfl, _⟩ := px
  have hI : Inv kF env0 { B with ds := ds0 } G5 (look (stO [])) (fun _ => .slice none 0 0) W := by
    refine hI5.after hO.same hO.os hO.tape hO.output (by have := hO.size; omega) hO.env ⟨fun id ob h => ?_, fun id id' _ _ _ h h' _ _ _ _ => ?_, fun id ob h => ?_⟩ (fun b hb => ?_) (fun id ob _ h hp => ?_)
    · obtain ⟨rfl, rfl⟩ := mem1 h
      exact ⟨[], .nil, World.ownsZ_nil _ _ _ _⟩
    · exact (mem1 h).1.trans (mem1 h').1.symm
    · obtain ⟨rfl, rfl⟩ := mem1 h; rfl
    · obtain ⟨_, _, _, _, e⟩ := hb
      cases e
    · obtain ⟨rfl, rfl⟩ := mem1 h; cases hp
  exact leave (hI.ds B.ds) rfl t2 t3 hx (box3 hL (id := 100003) rfl h3) (.inr ⟨D, by have := hI5.size; show B.w0.heap.size ≤ D; have h' : B.w0.heap.size ≤ w5.heap.size := hI5.size; omega, hI5.none_of_ge (by omega), hDW, rfl⟩)

theorem z_rel {b2 b3 b4 b5 : Nat} {β : Nat → Value} {t : Int} {l : List Int} {W : World} (hL : Lies kF (stB t l) β W) (hA : At4 β b2 b3 b4 b5) (hE : env0.E W) (hn : env0.N0 ≤ W.heap.size) (hh : ∀ b, Has (stB t l) β b → env0.N0 ≤ b)
    {a : Act} {nt : Nat} {ds : List Deferred} (hS : Slots a b2 b3 b4 b5) (hs : a.tmps.size = nt) (hd : a.defers = ds) :
    Rel kF env0 (baseL W (Has (stB t l) β) (pvF b2 b3 b4 b5) ds) nt (shZ0.fill [⟨.int .i64, t⟩, ⟨.slc (.int .i64), l⟩]) a W := by
  refine ⟨_, β, hL.inv hE hn (fun _ h => h) hh hA.pv ds, ?_, hs, hd⟩
  intro n p hp
  have hP : ∀ {id b : Nat} {ob : Ob U}, look (stB t l) id = some ob → β id = ptr b → PRel kF (baseL W (Has (stB t l) β) (pvF b2 b3 b4 b5) ds).G0 (look (stB t l)) β (PV.ptr id 0) (ptr b) := fun {id b ob} h e => by
    simp only [PRel]
    exact ⟨rfl, ob, h, fun _ => by rw [e]; rfl⟩
  refine look_all (st := [((2 : Nat), (PV.ptr 100002 0 : PV U)), (3, .ptr 100003 0), (4, .ptr 100004 0), (5, .ptr 100005 0)]) (P := fun n p => ∃ v, a.tmps[n]? = some v ∧ PRel kF (baseL W (Has (stB t l) β) (pvF b2 b3 b4 b5) ds).G0 (look (stB t l)) β p v) (fun y hy => ?_) hp
  simp only [List.mem_cons, List.not_mem_nil, or_false] at hy
  rcases hy with rfl | rfl | rfl | rfl
  · exact ⟨_, hS.t2, hP rfl hA.e2⟩
  · exact ⟨_, hS.t3, hP rfl hA.e3⟩
  · exact ⟨_, hS.t4, hP rfl hA.e4⟩
  · exact ⟨_, hS.t5, hP rfl hA.e5⟩

theorem encF_inv {ls : List (TV U)} {y : Int × Int × List UInt8 × List Int} (h : encF ls = some y) : ls = [⟨.int .i64, y.1⟩, ⟨.int .i64, y.2.1⟩, ⟨.str, y.2.2.1⟩, ⟨.slc (.int .i64), y.2.2.2⟩] := by
  unfold encF at h
  split at h
  · cases h; rfl
  · cases h

theorem stF_scalar {c a : Int} {n : List UInt8} {l : List Int} : ∀ id ob, look (stF c a n l) id = some ob → scalarOb ob = true := fun id ob h =>
  look_all (P := fun _ (o : Ob U) => scalarOb o = true) (fun x hx => by
    simp only [List.mem_cons, List.not_mem_nil, or_false] at hx
    rcases hx with rfl | rfl | rfl <;> rfl) h
theorem stF_live {c a : Int} {n : List UInt8} {l : List Int} : ∀ id ob, look (stF c a n l) id = some ob → ob.live = true := fun id ob h =>
  look_all (P := fun _ (o : Ob U) => o.live = true) (fun x hx => by
    simp only [List.mem_cons, List.not_mem_nil, or_false] at hx
    rcases hx with rfl | rfl | rfl <;> rfl) h

/-- The function's last part, behind the loop. -/
theorem tail_wp {B : Base} {G5 : Nat → Option Obj} {st5 : List (Nat × Ob U)} {β5 : Nat → Value} {w5 W : World} {ds0 : List Deferred} (hI5 : Inv kF env0 { B with ds := ds0 } G5 (look st5) β5 w5) (hO : Out w5 W (Has st5 β5))
    {t : Int} {l y : List Int} {β : Nat → Value} {b2 b3 b4 b5 : Nat} (hL : Lies kF (stB t l) β W) (hA : At4 β b2 b3 b4 b5) (hown : ∀ b, Has (stB t l) β b → Has st5 β5 b ∨ w5.heap.size + 3 ≤ b) (hy : slices_Clip_int_int l = some y)
    {a : Act} (hS : Slots a b2 b3 b4 b5) (hs : a.tmps.size = Tryd.f17.ntmps) {D : Nat} (hD : w5.heap.size + 3 ≤ D) (hDW : W.heap[D]? = some (.deferred (some []))) (hd : a.defers = [{ target := .collected D, args := #[] }]) :
    cZ.wp Tryd.prog (bodyPostM Fence.wide 0 Tryd.prog Tryd.f17 (R17 B ⟨0, 0, []⟩ y)) a W := by
  have hn5 : env0.N0 ≤ w5.heap.size := Nat.le_trans hI5.n0 hI5.size
  have hh5 : ∀ b, Has st5 β5 b → env0.N0 ≤ b := by
    rintro b ⟨id, ob, h1, h2, h3⟩
    rcases (hI5.own id ob b h1 h2 h3).2 with h | h
    · exact Nat.le_trans hI5.n0 h
    · exact hI5.hh b h
  have hz := zE t l
  rw [hy, Option.bind_some] at hz
  refine exec_sound kFok (L := fun _ => none) (fun b _ lp h => by cases h) hz (z_rel hL hA hO.env (by have := hO.size; omega) (fun b hb => ?_) hS hs rfl) (fun e σ' a' W' he hr => ?_)
  · rcases hown b hb with h | h
    · exact hh5 b h
    · omega
  unfold kZ at he
  split at he
  · obtain ⟨ls, h6, h7⟩ := Option.bind_eq_some_iff.1 he
    obtain ⟨G, β', hI, hT, hs', hd'⟩ := enter_rel h6 hr
    obtain rfl := encF_inv h7
    change Inv kF env0 _ G (look (stF 0 0 [] y)) β' W' at hI
    have hL' : Lies kF (stF 0 0 [] y) β' W' := Lies.of_inv hI stF_scalar stF_live
    have hK := kept_of_inv hI
    have e2 : β' 100002 = ptr b2 := hI.pin 100002 _ (by decide) rfl rfl
    have e3 : β' 100003 = ptr b3 := hI.pin 100003 _ (by decide) rfl rfl
    obtain ⟨x, hx, px, ox⟩ := box2 hL' (id := 100002) rfl e2
    simp only [PRel] at px
    obtain ⟨_, ob, q1, _, q2⟩ := px
    cases (show some (Ob.row 3 0 (.int .i64) y) = some ob from q1)
    have hxe := q2 _ now_row
    subst hxe
    have hT' : ∀ n p, look [((2 : Nat), (PV.ptr 100002 0 : PV U)), (3, .ptr 100003 0)] n = some p → ∃ v, a'.tmps[n]? = some v ∧ PRel kF G (look (stF 0 0 [] y)) β' p v := hT
    have tp : ∀ {n id b : Nat} {ob : Ob U}, look [((2 : Nat), (PV.ptr 100002 0 : PV U)), (3, .ptr 100003 0)] n = some (.ptr id 0) → look (stF 0 0 [] y) id = some ob → ob.isP = true → β' id = ptr b → a'.tmps[n]? = some (ptr b) := by
      intro n id b ob h1 h2 h3 h4
      obtain ⟨v, hv, hp⟩ := hT' n _ h1
      simp only [PRel] at hp
      obtain ⟨_, ob', k1, k2⟩ := hp
      have k3 : some ob = some ob' := h2.symm.trans k1
      cases k3
      have := k2 h3
      rw [h4] at this
      rw [hv, this]
      rfl
    have t2 := tp (n := 2) rfl (ob := .blk 22 [.oslc 200200 0]) rfl rfl e2
    have t3 := tp (n := 3) rfl (ob := .blk 34 [.t ⟨.int .i64, 0⟩, .t ⟨.int .i64, 0⟩, .t ⟨.str, []⟩]) rfl rfl e3
    have noH : ∀ j, j < w5.heap.size → ¬ Has st5 β5 j → ¬ Has (stB t l) β j := fun j hj h h' => by
      rcases hown j h' with h'' | h''
      · exact h h''
      · omega
    have hsz := hO.size
    have hI' : Inv kF env0 { B with ds := ds0 } G5 (look (stO y)) (fun _ => β' 200200) W' := by
      refine hI5.after (fun j hj h => (hK.same j (by omega) (noH j hj h)).trans (hO.same j hj h)) (hK.os.trans hO.os) (hK.tape.trans hO.tape) (hK.output.trans hO.output) (by have := hK.size; omega) hK.env
        ⟨fun id ob h => ?_, fun id id' _ _ _ h h' _ _ _ _ => ?_, fun id ob h => ?_⟩ (fun b hb => ?_) (fun id ob _ h hp => ?_)
      · obtain ⟨rfl, rfl⟩ := mem1 h
        exact hL'.obs 200200 _ rfl
      · exact (mem1 h).1.trans (mem1 h').1.symm
      · obtain ⟨rfl, rfl⟩ := mem1 h; rfl
      · obtain ⟨id, ob, h, _, e⟩ := hb
        rcases has_of_inv hI b ⟨200200, _, rfl, rfl, e⟩ with h' | h'
        · rcases hown b h' with h'' | h''
          · exact .inl h''
          · right; omega
        · right; omega
      · obtain ⟨rfl, rfl⟩ := mem1 h; cases hp
    have hDlt : D < W.heap.size := (Array.getElem?_eq_some_iff.1 hDW).1
    have hDH : ¬ Has (stB t l) β D := fun h => by
      obtain ⟨o, h1, h2⟩ := hL.cells stB_kind h
      rw [hDW] at h1
      cases h1
      cases h2
    have hDW' : W'.heap[D]? = some (.deferred (some [])) := (hK.same D hDlt hDH).trans hDW
    have hB0 : B.w0.heap.size ≤ w5.heap.size := hI5.size
    show LeavesInM Fence.wide 0 Tryd.prog Tryd.f17 a'.tmps (R17 B ⟨0, 0, []⟩ y) a'.defers .returning W'
    rw [hd']
    exact leave (hI'.ds B.ds) ox t2 t3 hx (box3 hL' (id := 100003) rfl e3) (.inr ⟨D, by omega, hI5.none_of_ge (by omega), hDW', hd⟩)
  · cases he
end Lift.E2.R

/- Read: the loop. -/
namespace Lift.E2.R
open Go Go.RowKit Go.Proofs Lift Lift.Fn

theorem seq_old {w : World} {s sep : ByteArray} {j : Nat} (hj : j < w.heap.size) : (seqWorld w s sep).heap[j]? = w.heap[j]? := by
  unfold seqWorld
  rw [heap_alloc_old _ _ (by simp; omega), heap_alloc_old _ _ (by simp; omega), heap_alloc_old _ _ hj]
theorem seq_size {w : World} {s sep : ByteArray} : (seqWorld w s sep).heap.size = w.heap.size + 3 := by
  unfold seqWorld
  simp
theorem seq_0 {w : World} {s sep : ByteArray} : (seqWorld w s sep).heap[w.heap.size]? = some (.cells #[.string s] 9 (0, 0)) := by
  unfold seqWorld
  rw [heap_alloc_old _ _ (by simp; omega), heap_alloc_old _ _ (by simp), heap_alloc_new]
theorem seq_1 {w : World} {s sep : ByteArray} : (seqWorld w s sep).heap[w.heap.size + 1]? = some (.cells #[.string sep] 9 (0, 0)) := by
  unfold seqWorld
  rw [heap_alloc_old _ _ (by simp)]
  have := heap_alloc_new (w.alloc (.cells #[.string s] 9)) (.cells #[.string sep] 9)
  simpa using this
theorem seq_2 {w : World} {s sep : ByteArray} : (seqWorld w s sep).heap[w.heap.size + 2]? = some (.cells #[.int .i64 0] 3 (0, 0)) := by
  unfold seqWorld
  have := heap_alloc_new ((w.alloc (.cells #[.string s] 9)).alloc (.cells #[.string sep] 9)) (.cells #[.int .i64 0] 3)
  simpa using this
theorem seq_grown {w : World} {s sep : ByteArray} {row : Option Nat} : w.grownBy (seqWorld w s sep) row :=
  ⟨rfl, rfl, rfl, by rw [seq_size]; omega, fun _ hk _ => seq_old hk⟩

theorem Out.over {w5 W W' : World} {H5 : Nat → Prop} (h : Out w5 W H5) (hN : env0.N0 ≤ w5.heap.size) {row : Option Nat} (hg : W.grownBy W' row) (hr : ∀ r, row = some r → w5.heap.size ≤ r) : Out w5 W' H5 := by
  have hb : ∀ j, j < w5.heap.size → W'.heap[j]? = W.heap[j]? := fun j hj => hg.block j (by have := h.size; omega) (fun e => by have := hr j e.symm; omega)
  exact ⟨fun j hj hH => (hb j hj).trans (h.same j hj hH), hg.os.trans h.os, hg.tape.trans h.tape, hg.output.trans h.output, Nat.le_trans h.size hg.size, env0.stays W W' h.env (fun j hj => hb j (by omega)) hg.size hg.tape hg.os⟩

theorem loop_wp {B : Base} {G5 : Nat → Option Obj} {st5 : List (Nat × Ob U)} {β5 β6 : Nat → Value} {w5 : World} (hI5 : Inv kF env0 { B with ds := [] } G5 (look st5) β5 w5)
    (hlive : ∀ id ob, look st5 id = some ob → ob.live = true → (∃ T cs, ob = .blk T cs) ∨ ∃ T v e l, ob = .row T v e l) {b2 b3 b4 b5 : Nat} (hL6 : Lies kF (stB 0 []) β6 w5) (hA6 : At4 β6 b2 b3 b4 b5) (hown6 : ∀ b, Has (stB 0 []) β6 b → Has st5 β5 b)
    {s : List UInt8} (hlen : s.length ≤ 1000000000000) {r : (Int × List Int) ⊕ (Int × Int × List UInt8)} (hst : read_steps (pieces 32 s) 0 [] = some r) {F : Fault} {y : List Int}
    (hr : match r with | .inl (_, l) => slices_Clip_int_int l = some y ∧ F = ⟨0, 0, []⟩ | .inr (c, d, m) => F = ⟨c, d, m⟩ ∧ y = [])
    {a : Act} (hS : Slots a b2 b3 b4 b5) (h0 : a.tmps[0]? = some (.string ⟨s.toArray⟩)) (hs : a.tmps.size = Tryd.f17.ntmps) (hd : a.defers = []) :
    (Code.seq (.seq r5 (.block 0 (.rangeFunc (.tmp 13) #[14] rfA rfB))) cZ).wp Tryd.prog (bodyPostM Fence.wide 0 Tryd.prog Tryd.f17 (R17 B F y)) a w5 := by
  have hsz : a.tmps.size = 64 := hs
  have hN : env0.N0 ≤ w5.heap.size := Nat.le_trans hI5.n0 hI5.size
  have hh5 : ∀ b, Has st5 β5 b → env0.N0 ≤ b := by
    rintro b ⟨id, ob, h1, h2, h3⟩
    rcases (hI5.own id ob b h1 h2 h3).2 with h | h
    · exact Nat.le_trans hI5.n0 h
    · exact hI5.hh b h
  have hlt5 : ∀ b, Has st5 β5 b → b < w5.heap.size := by
    rintro b ⟨id, ob, h1, h2, h3⟩
    exact hI5.block_lt h1 h2 h3
  refine wp_seq (wp_seq (r5_wp h0 hs ?_))
  refine wp_block ?_
  obtain ⟨a6, ha6⟩ : ∃ a6 : Act, a6 = { a with tmps := (a.tmps.setIfInBounds 12 (.string ⟨s.toArray⟩)).setIfInBounds 13 (iter w5) } := ⟨_, rfl⟩
  rw [← ha6]
  have s6 : a6.tmps.size = 64 := by rw [ha6]; simp [hsz]
  have hS6 : Slots a6 b2 b3 b4 b5 := by
    rw [ha6]
    exact ⟨by simpa using hS.t2, by simpa using hS.t3, by simpa using hS.t4, by simpa using hS.t5⟩
  have t13 : a6.tmps[13]? = some (iter w5) := by rw [ha6]; simp [hsz]
  have d6 : a6.defers = [] := by rw [ha6]; exact hd
  have nb : ∀ {t : Int} {l : List Int} {β : Nat → Value}, (∀ b, Has (stB t l) β b → Has st5 β5 b ∨ w5.heap.size + 3 ≤ b) → ∀ b, Has (stB t l) β b → env0.N0 ≤ b := fun h b hb => by
    rcases h b hb with h' | h'
    · exact hh5 b h'
    · omega
  refine range_seq (gf := 51) (lb := #[.pointer (some ⟨w5.heap.size + 1, 0, none⟩), .pointer (some ⟨w5.heap.size, 0, none⟩), .pointer (some ⟨w5.heap.size + 2, 0, none⟩)]) (b2 := w5.heap.size) (keep := [w5.heap.size + 1, w5.heap.size, w5.heap.size + 2]) (xs := pieces 32 s)
    (eval_tmp t13) (enters_of Tryd.func51 (by kernel_rfl) rfl) (Tryd.seqZ s 32 hlen _ _ seq_0 seq_1 seq_2) (by rw [seq_size]; omega) (fun b hb => by rw [seq_size]; simp at hb; omega) rfl
    (fun pre W => ∃ t l β, read_steps pre 0 [] = some (.inl (t, l)) ∧ Lies kF (stB t l) β W ∧ At4 β b2 b3 b4 b5 ∧ (∀ b, Has (stB t l) β b → Has st5 β5 b ∨ w5.heap.size + 3 ≤ b) ∧ Out w5 W (Has st5 β5))
    (fun pre W => ∃ c d m β, read_steps pre 0 [] = some (.inr (c, d, m)) ∧ Lies kF (stR c d m) β W ∧ (β 100002 = ptr b2 ∧ β 100003 = ptr b3) ∧ (∀ b, Has (stR c d m) β b → Has st5 β5 b ∨ w5.heap.size + 3 ≤ b) ∧ Out w5 W (Has st5 β5)) ?_ ?_ ?_
    (fun x => { tmps := (a6.tmps.setIfInBounds 14 (.string ⟨x.toArray⟩)).setIfInBounds 6 (.string ⟨x.toArray⟩), defers := [] }) ?_ ?_ ?_ ?_
  · -- what a round may rely on stays
    rintro pre W W' row ⟨t, l, β, q1, q2, q3, q4, q5⟩ hg hr
    rw [seq_size] at hr
    have hge : ∀ r, row = some r → w5.heap.size ≤ r := fun r e => by rcases hr r e with h | ⟨h, _⟩ <;> omega
    refine ⟨t, l, β, q1, q2.over hg (fun r e h => ?_), q3, q4, q5.over hN hg hge⟩
    rcases hr r e with h' | ⟨_, ob, hob, hc⟩
    · rcases q4 r h with h'' | h''
      · have := hlt5 r h''; omega
      · omega
    · obtain ⟨o, h1, h2⟩ := q2.cells stB_kind h
      rw [hob] at h1
      cases h1
      rw [hc] at h2
      cases h2
  · rintro pre W W' row ⟨c, d, m, β, q1, q2, q3, q4, q5⟩ hg hr
    rw [seq_size] at hr
    have hge : ∀ r, row = some r → w5.heap.size ≤ r := fun r e => by rcases hr r e with h | ⟨h, _⟩ <;> omega
    refine ⟨c, d, m, β, q1, q2.over hg (fun r e h => ?_), q3, q4, q5.over hN hg hge⟩
    rcases hr r e with h' | ⟨_, ob, hob, hc⟩
    · rcases q4 r h with h'' | h''
      · have := hlt5 r h''; omega
      · omega
    · obtain ⟨o, h1, h2⟩ := q2.cells (fun id ob h => look_all (P := fun _ (o : Ob U) => (∃ T cs, o = .blk T cs) ∨ ∃ T v e l, o = .row T v e l) (fun x hx => by
        simp only [List.mem_cons, List.not_mem_nil, or_false] at hx
        rcases hx with rfl | rfl
        · exact .inl ⟨_, _, rfl⟩
        · exact .inl ⟨_, _, rfl⟩) h) h
      rw [hob] at h1
      cases h1
      rw [hc] at h2
      cases h2
  · -- at the start
    have hO : Out w5 (seqWorld w5 ⟨s.toArray⟩ ⟨#[32]⟩) (Has st5 β5) := ⟨fun j hj _ => seq_old hj, rfl, rfl, rfl, by rw [seq_size]; exact Nat.le_refl _, env0.stays w5 _ hI5.env (fun j hj => seq_old (by omega)) (by rw [seq_size]; omega) rfl rfl⟩
    exact ⟨0, [], β6, rfl, hL6.over (row := none) seq_grown (fun r e => by cases e), hA6, fun b h => .inl (hown6 b h), hO⟩
  · -- the assignment
    intro l x W K hK
    exact rfA_wp (x := .string ⟨x.toArray⟩) (by simp [s6]) (by simpa using hK)
  · -- a round
    rintro l₀ pre x W ⟨t, l, β, q1, q2, q3, q4, q5⟩ hpx
    obtain ⟨rest, hrest⟩ := hpx
    obtain ⟨z, hz⟩ : ∃ z, read_step x t l = some z := by
      rw [← hrest, List.append_assoc, steps_append, q1] at hst
      cases hx : read_step x t l with
      | none =>
        have : read_steps ([x] ++ rest) t l = none := by show (match read_step x t l with | none => none | some (.inl (a', l')) => read_steps rest a' l' | some (.inr r) => some (.inr r)) = none; rw [hx]
        simp only at hst
        rw [this] at hst
        cases hst
      | some z => exact ⟨z, rfl⟩
    have hone : read_steps (pre ++ [x]) 0 [] = some z := by
      rw [steps_append, q1]
      show (match read_step x t l with | none => none | some (.inl (a', l')) => read_steps [] a' l' | some (.inr r) => some (.inr r)) = some z
      rw [hz]
      cases z <;> rfl
    have hsz5 := q5.size
    have keepB : ∀ {W'}, KeptL env0 (Has (stB t l) β) W W' → KeepsFrom (seqWorld w5 ⟨s.toArray⟩ ⟨#[32]⟩).heap.size W W' := fun {W'} hK => ⟨hK.size, fun j ob hj hob hc => by
      refine (hK.same j (Array.getElem?_eq_some_iff.1 hob).1 (fun e => ?_)).trans hob
      obtain ⟨o, h1, h2⟩ := q2.cells stB_kind e
      rw [hob] at h1
      cases h1
      rw [hc] at h2
      cases h2⟩
    have outB : ∀ {W'}, KeptL env0 (Has (stB t l) β) W W' → Out w5 W' (Has st5 β5) := fun {W'} hK => ⟨fun j hj h => (hK.same j (by omega) (fun h' => by
      rcases q4 j h' with h'' | h''
      · exact h h''
      · omega)).trans (q5.same j hj h), hK.os.trans q5.os, hK.tape.trans q5.tape, hK.output.trans q5.output, Nat.le_trans q5.size hK.size, hK.env⟩
    have ownB : ∀ b, (Has (stB t l) β b ∨ W.heap.size ≤ b) → Has st5 β5 b ∨ w5.heap.size + 3 ≤ b := fun b h => by
      rcases h with h | h
      · exact q4 b h
      · right; omega
    refine round_wp q2 q3 q5.env (by omega) (nb q4) hz ⟨by simpa using hS6.t2, by simpa using hS6.t3, by simpa using hS6.t4, by simpa using hS6.t5⟩ (by simp [s6]) (by simpa using s6) rfl postZ_shut
      (fun t' l' a' W' β' e hL' hA' hK ho => ?_) (fun c d m a' W' β' e hL' hA' hK ho => ?_)
    · subst e
      refine ⟨keepB hK, fun b hb => ?_, t', l', β', hone, hL', hA', fun b h => ownB b (ho b h), outB hK⟩
      have hb' : w5.heap.size ≤ b ∧ b < w5.heap.size + 3 := by simp at hb; omega
      refine hK.same b (by omega) (fun e => ?_)
      rcases q4 b e with h' | h'
      · have := hlt5 b h'; omega
      · omega
    · subst e
      exact ⟨keepB hK, c, d, m, β', hone, hL', hA', fun b h => ownB b (ho b h), outB hK⟩
  · -- behind the loop
    rintro D W hD ⟨t, l, β, q1, q2, q3, q4, q5⟩ hDW
    rw [hst] at q1
    cases q1
    rw [seq_size] at hD
    obtain ⟨hy, rfl⟩ := hr
    show cZ.wp Tryd.prog _ _ W
    exact tail_wp hI5 q5 q2 q3 q4 hy ⟨by simpa using hS6.t2, by simpa using hS6.t3, by simpa using hS6.t4, by simpa using hS6.t5⟩ (by simpa using s6) hD hDW (by rw [d6])
  · -- a round that returns
    rintro D pre W hD hpre ⟨c, d, m, β, q1, q2, q3, q4, q5⟩ hDW
    obtain ⟨rest, hrest⟩ := hpre
    rw [← hrest, steps_append, q1] at hst
    cases hst
    rw [seq_size] at hD
    obtain ⟨rfl, rfl⟩ := hr
    show LeavesInM Fence.wide 0 Tryd.prog Tryd.f17 a6.tmps _ _ .returning W
    rw [d6]
    exact stop_leave hI5 q5 q2 q3.1 q3.2 hS6.t2 hS6.t3 hD hDW
end Lift.E2.R

/- Read: its contract. -/
namespace Lift.E2.R
open Go Go.RowKit Go.Proofs Lift Lift.Fn

def gid (id : Nat) : Nat := if id = 200400 then 20200 else id - 100000
theorem g5 : gid 200400 = 20200 := if_pos rfl
theorem g4 : gid 100005 = 5 := by simp [gid]
theorem g3 : gid 100004 = 4 := by simp [gid]
theorem g2 : gid 100003 = 3 := by simp [gid]
theorem g1 : gid 100002 = 2 := by simp [gid]

theorem stB_to {t : Int} {l : List Int} : ∀ id (ob : Ob U), look (stB t l) id = some ob → (id = 100002 ∨ id = 100003 ∨ id = 100004 ∨ id = 100005 ∨ id = 200400) ∧ ∃ ob', look (stP t l) (gid id) = some ob' ∧ ob'.live = true := fun id ob h =>
  look_all (P := fun id (_ : Ob U) => (id = 100002 ∨ id = 100003 ∨ id = 100004 ∨ id = 100005 ∨ id = 200400) ∧ ∃ ob', look (stP t l) (gid id) = some ob' ∧ ob'.live = true) (fun x hx => by
    simp only [List.mem_cons, List.not_mem_nil, or_false] at hx
    rcases hx with rfl | rfl | rfl | rfl | rfl
    · exact ⟨.inl rfl, .blk 22 [.junk], by simp only [g1]; rfl, rfl⟩
    · exact ⟨.inr (.inl rfl), .blk 34 [.junk, .junk, .junk], by simp only [g2]; rfl, rfl⟩
    · exact ⟨.inr (.inr (.inl rfl)), .blk 22 [.oslc 20200 0], by simp only [g3]; rfl, rfl⟩
    · exact ⟨.inr (.inr (.inr (.inl rfl))), .blk 3 [.t ⟨.int .i64, t⟩], by simp only [g4]; rfl, rfl⟩
    · exact ⟨.inr (.inr (.inr (.inr rfl))), .row 3 0 (.int .i64) l, by simp only [g5]; rfl, rfl⟩) h

theorem stP_scalar {t : Int} {l : List Int} : ∀ id ob, look (stP t l) id = some ob → scalarOb ob = true := fun id ob h =>
  look_all (P := fun _ (o : Ob U) => scalarOb o = true) (fun x hx => by
    simp only [List.mem_cons, List.not_mem_nil, or_false] at hx
    rcases hx with rfl | rfl | rfl | rfl | rfl <;> rfl) h
theorem stP_live {t : Int} {l : List Int} : ∀ id ob, look (stP t l) id = some ob → ob.live = true := fun id ob h =>
  look_all (P := fun _ (o : Ob U) => o.live = true) (fun x hx => by
    simp only [List.mem_cons, List.not_mem_nil, or_false] at hx
    rcases hx with rfl | rfl | rfl | rfl | rfl <;> rfl) h

/-- The boxes, under the numbers that a round has for them. -/
theorem lies_again {t : Int} {l : List Int} {β : Nat → Value} {W : World} (h : Lies kF (stP t l) β W) : Lies kF (stB t l) (fun id => β (gid id)) W := by
  refine ⟨fun id ob hi => ?_, fun id id' ob ob' b h1 h2 l1 l2 e1 e2 => ?_, stB_live⟩
  · revert hi
    intro hi
    refine look_all (P := fun id (ob : Ob U) => ObRel kF (fun _ => none) (look (stB t l)) (fun id => β (gid id)) W id ob) (fun x hx => ?_) hi
    simp only [List.mem_cons, List.not_mem_nil, or_false] at hx
    rcases hx with rfl | rfl | rfl | rfl | rfl
    · obtain ⟨b, vs, e1, e2, e3, e4⟩ := h.obs 2 _ rfl
      have e1' : β (gid 100002) = .pointer (some ⟨b, 0, none⟩) := by rw [g1]; exact e1
      refine ⟨b, vs, e1', e2, ?_, e4⟩
      obtain ⟨x, r, rfl, p1, rfl⟩ := e3
      exact ⟨_, _, rfl, by simp only [PRel], rfl⟩
    · obtain ⟨b, vs, e1, e2, e3, e4⟩ := h.obs 3 _ rfl
      have e1' : β (gid 100003) = .pointer (some ⟨b, 0, none⟩) := by rw [g2]; exact e1
      refine ⟨b, vs, e1', e2, ?_, e4⟩
      obtain ⟨x1, r1, rfl, p1, x2, r2, rfl, p2, x3, r3, rfl, p3, rfl⟩ := e3
      exact ⟨_, _, rfl, by simp only [PRel], _, _, rfl, by simp only [PRel], _, _, rfl, by simp only [PRel], rfl⟩
    · obtain ⟨b, vs, e1, e2, e3, e4⟩ := h.obs 4 _ rfl
      have e1' : β (gid 100004) = .pointer (some ⟨b, 0, none⟩) := by rw [g3]; exact e1
      refine ⟨b, vs, e1', e2, ?_, e4⟩
      obtain ⟨x, r, rfl, p1, rfl⟩ := e3
      simp only [PRel] at p1
      obtain ⟨o, ob, q1, _, q2⟩ := p1
      cases (show some (Ob.row 3 0 (.int .i64) l) = some ob from q1)
      have hx := q2 _ now_row
      have : PRel kF (fun _ => none) (look (stB t l)) (fun id => β (gid id)) (PV.oslc 200400 0) x := by
        simp only [PRel]
        exact ⟨o, .row 3 0 (.int .i64) l, rfl, Nat.le_refl _, fun _ _ => hx⟩
      exact ⟨_, _, rfl, this, rfl⟩
    · obtain ⟨b, vs, e1, e2, e3, e4⟩ := h.obs 5 _ rfl
      have e1' : β (gid 100005) = .pointer (some ⟨b, 0, none⟩) := by rw [g4]; exact e1
      refine ⟨b, vs, e1', e2, ?_, e4⟩
      obtain ⟨x, r, rfl, p1, rfl⟩ := e3
      simp only [PRel] at p1
      have : PRel kF (fun _ => none) (look (stB t l)) (fun id => β (gid id)) (PV.t ⟨.int .i64, t⟩) x := by
        simp only [PRel]; exact p1
      exact ⟨_, _, rfl, this, rfl⟩
    · obtain ⟨vals, k1, k2⟩ := h.obs 20200 _ rfl
      refine ⟨vals, k1, ?_⟩
      show W.ownsZ 0 3 _ (β (gid 200400)) _ _
      rw [g5]
      exact k2
  · obtain ⟨m1, o1, k1, v1⟩ := stB_to id ob h1
    obtain ⟨m2, o2, k2, v2⟩ := stB_to id' ob' h2
    have := h.inj (gid id) (gid id') o1 o2 b k1 k2 v1 v2 e1 e2
    unfold gid at this
    split at this <;> split at this <;> omega

theorem kP_exit (id : Nat) (σ : St U) (r) : kP (.exit id) σ ≠ some r := by simp [kP]

theorem encP_inv {ls : List (TV U)} {z : ((List UInt8) × Int × List Int) ⊕ (Int × Int × List UInt8)} (h : encP ls = some z) : ∃ s t l, ls = [⟨.str, s⟩, ⟨.int .i64, t⟩, ⟨.slc (.int .i64), l⟩] ∧ z = .inl (s, t, l) := by
  unfold encP at h
  split at h
  · cases h; exact ⟨_, _, _, rfl, rfl⟩
  · cases h

abbrev stQ (c a : Int) (n : List UInt8) : List (Nat × Ob U) := [(2, .blk 22 [.k (.slice none 0 0)]), (3, .blk 34 [.t ⟨.int .i64, c⟩, .t ⟨.int .i64, a⟩, .t ⟨.str, n⟩])]

theorem slot_ptr {G : Nat → Option Obj} {st : List (Nat × Ob U)} {β : Nat → Value} {tm : List (Nat × PV U)} {a : Act} (hT : ∀ n p, look tm n = some p → ∃ v, a.tmps[n]? = some v ∧ PRel kF G (look st) β p v) {n id b : Nat} {ob : Ob U}
    (h1 : look tm n = some (.ptr id 0)) (h2 : look st id = some ob) (h3 : ob.isP = true) (h4 : β id = ptr b) : a.tmps[n]? = some (ptr b) := by
  obtain ⟨v, hv, hp⟩ := hT n _ h1
  simp only [PRel] at hp
  obtain ⟨_, ob', k1, k2⟩ := hp
  have k3 : some ob = some ob' := h2.symm.trans k1
  cases k3
  have := k2 h3
  rw [h4] at this
  rw [hv, this]
  rfl

/-- The end ahead of the loop. -/
theorem pre_ret {B : Base} {G : Nat → Option Obj} {β : Nat → Value} {w : World} {c d : Int} {m : List UInt8} {a : Act} (hI : Inv kF env0 { B with ds := [] } G (look (stQ c d m)) β w)
    (hT : ∀ n p, look [((2 : Nat), (PV.ptr 2 0 : PV U)), (3, .ptr 3 0)] n = some p → ∃ v, a.tmps[n]? = some v ∧ PRel kF G (look (stQ c d m)) β p v) (hd : a.defers = []) :
    LeavesInM Fence.wide 0 Tryd.prog Tryd.f17 a.tmps (R17 B ⟨c, d, m⟩ []) a.defers .returning w := by
  have hs : ∀ id ob, look (stQ c d m) id = some ob → scalarOb ob = true := fun id ob h =>
    look_all (P := fun _ (o : Ob U) => scalarOb o = true) (fun x hx => by
      simp only [List.mem_cons, List.not_mem_nil, or_false] at hx
      rcases hx with rfl | rfl <;> rfl) h
  have hl : ∀ id ob, look (stQ c d m) id = some ob → ob.live = true := fun id ob h =>
    look_all (P := fun _ (o : Ob U) => o.live = true) (fun x hx => by
      simp only [List.mem_cons, List.not_mem_nil, or_false] at hx
      rcases hx with rfl | rfl <;> rfl) h
  have hL : Lies kF (stQ c d m) β w := Lies.of_inv hI hs hl
  obtain ⟨b2, _, e2, _⟩ := hI.obs 2 _ rfl
  obtain ⟨b3, _, e3, _⟩ := hI.obs 3 _ rfl
  obtain ⟨x, hx, px, ox⟩ := box2 hL (id := 2) rfl e2
  simp only [PRel] at px
  obtain ⟨rfl, _⟩ := px
  have t2 := slot_ptr hT (n := 2) rfl (ob := .blk 22 [.k (.slice none 0 0)]) rfl rfl e2
  have t3 := slot_ptr hT (n := 3) rfl (ob := .blk 34 [.t ⟨.int .i64, c⟩, .t ⟨.int .i64, d⟩, .t ⟨.str, m⟩]) rfl rfl e3
  have hI' : Inv kF env0 { B with ds := [] } G (look (stO [])) (fun _ => .slice none 0 0) w := by
    refine hI.after (fun _ _ _ => rfl) rfl rfl rfl (Nat.le_refl _) hI.env ⟨fun id ob h => ?_, fun id id' _ _ _ h h' _ _ _ _ => ?_, fun id ob h => ?_⟩ (fun b hb => ?_) (fun id ob _ h hp => ?_)
    · obtain ⟨rfl, rfl⟩ := mem1 h
      exact ⟨[], .nil, World.ownsZ_nil _ _ _ _⟩
    · exact (mem1 h).1.trans (mem1 h').1.symm
    · obtain ⟨rfl, rfl⟩ := mem1 h; rfl
    · obtain ⟨_, _, _, _, e⟩ := hb
      cases e
    · obtain ⟨rfl, rfl⟩ := mem1 h; cases hp
  rw [hd]
  exact leave (hI'.ds B.ds) rfl t2 t3 hx (box3 hL (id := 3) rfl e3) (.inl rfl)

theorem read_calls {B : Base} {G : Nat → Option Obj} {β : Nat → Value} {w : World} {s : List UInt8} {v0 : Value} {F : Fault} {y : List Int} (hI : Inv kF env0 B G (look ([] : List (Nat × Ob U))) β w)
    (hv : TRel kF.u G ⟨.str, s⟩ v0) (h : sched_Read_f s = some (F, y)) : Calls Tryd.prog 17 #[v0] w (R17 B F y) := by
  have hv0 := hv.str_inv
  subst hv0
  refine callsIn_wide.1 (callsIn_of_wp_marks (F := Fence.wide) (n := 0) Tryd.func17 codeE trivial (wpIn_wide.2 ?_) rfl)
  have hrel : Rel kF env0 { B with ds := [] } Tryd.f17.ntmps (sh0.fill [⟨.str, s⟩]) { tmps := #[.string ⟨s.toArray⟩] ++ Array.replicate (Tryd.f17.ntmps - (#[.string ⟨s.toArray⟩] : Array Value).size) undef, defers := [] } w := by
    refine ⟨G, β, hI.ds [], ?_, by simp [show Tryd.f17.ntmps = 64 from rfl], rfl⟩
    intro n p hp
    obtain ⟨rfl, rfl⟩ := mem1 (α := PV U) (i := 0) hp
    have : PRel kF G (look ([] : List (Nat × Ob U))) β (PV.t ⟨.str, s⟩) (.string ⟨s.toArray⟩) := by simp only [PRel]; exact hv
    exact ⟨.string ⟨s.toArray⟩, by simp [Array.getElem?_append], this⟩
  obtain ⟨z, hz⟩ : ∃ z : ((List UInt8) × Int × List Int) ⊕ (Int × Int × List UInt8), (bif s == [] then some (.inr (0, 0, [])) else some (.inl (s, 0, []))) = some z := by
    cases s == [] <;> exact ⟨_, rfl⟩
  have hp := (preE s).trans hz
  unfold preC at hp
  -- it returns
  have hret : ∀ (σ' : St U) a' w', kP .ret σ' = some z → Rel kF env0 { B with ds := [] } Tryd.f17.ntmps σ' a' w' → bodyPostM Fence.wide 0 Tryd.prog Tryd.f17 (R17 B F y) .ret a' w' := by
    intro σ' a' w' he hr'
    obtain ⟨ls, h6, h7⟩ := Option.bind_eq_some_iff.1 (show (enter kF.u shQ (look σ'.tm) (look σ'.st)).bind encR = some z from he)
    obtain ⟨c, d, m, rfl, rfl⟩ := encR_inv h7
    have hr6 := enter_rel h6 hr'
    obtain ⟨G', β', hI', hT', _, hd'⟩ := hr6
    cases hs : s == [] with
    | false => rw [hs] at hz; cases hz
    | true =>
      rw [hs] at hz
      cases hz
      unfold sched_Read_f at h
      rw [hs] at h
      cases h
      exact pre_ret (B := B) hI' hT' hd'
  refine wp_seq_exec2 kFok hp (fun id σ => kP_exit id σ _) hrel hret (fun σ1 a1 w1 h1 hr1 => ?_)
  refine wp_seq_exec2 kFok h1 (fun id σ => kP_exit id σ _) hr1 hret (fun σ2 a2 w2 h2 hr2 => ?_)
  refine wp_seq_exec2 kFok h2 (fun id σ => kP_exit id σ _) hr2 hret (fun σ3 a3 w3 h3 hr3 => ?_)
  refine wp_seq (exec_sound kFok (L := fun _ => none) (fun b _ lp h => by cases h) h3 hr3 (fun e σ5 a5 w5 h5 hr5 => ?_))
  cases e with
  | exit id => exact absurd h5 (kP_exit id σ5 _)
  | ret => exact hret σ5 a5 w5 h5 hr5
  | normal =>
    obtain ⟨ls, h6, h7⟩ := Option.bind_eq_some_iff.1 (show (enter kF.u shP (look σ5.tm) (look σ5.st)).bind encP = some z from h5)
    obtain ⟨s', t, l, rfl, rfl⟩ := encP_inv h7
    have hr6 := enter_rel h6 hr5
    obtain ⟨G5, β5, hI5, hT5, hs5, hd5⟩ := hr6
    cases hs : s == [] with
    | true => rw [hs] at hz; cases hz
    | false =>
      rw [hs] at hz
      cases hz
      change Inv kF env0 { B with ds := [] } G5 (look (stP 0 [])) β5 w5 at hI5
      have hT : ∀ n p, look [((0 : Nat), (PV.t ⟨.str, s⟩ : PV U)), (2, .ptr 2 0), (3, .ptr 3 0), (4, .ptr 4 0), (5, .ptr 5 0)] n = some p → ∃ v, a5.tmps[n]? = some v ∧ PRel kF G5 (look (stP 0 [])) β5 p v := hT5
      have hL5 : Lies kF (stP 0 []) β5 w5 := Lies.of_inv hI5 stP_scalar stP_live
      obtain ⟨b2, _, e2, _⟩ := hI5.obs 2 _ rfl
      obtain ⟨b3, _, e3, _⟩ := hI5.obs 3 _ rfl
      obtain ⟨b4, _, e4, _⟩ := hI5.obs 4 _ rfl
      obtain ⟨b5, _, e5, _⟩ := hI5.obs 5 _ rfl
      have hS : Slots a5 b2 b3 b4 b5 := ⟨slot_ptr hT (n := 2) rfl (ob := .blk 22 [.junk]) rfl rfl e2, slot_ptr hT (n := 3) rfl (ob := .blk 34 [.junk, .junk, .junk]) rfl rfl e3, slot_ptr hT (n := 4) rfl (ob := .blk 22 [.oslc 20200 0]) rfl rfl e4, slot_ptr hT (n := 5) rfl (ob := .blk 3 [.t ⟨.int .i64, 0⟩]) rfl rfl e5⟩
      obtain ⟨vs, hvs, pvs⟩ := hT 0 _ rfl
      simp only [PRel] at pvs
      rw [pvs.str_inv] at hvs
      unfold sched_Read_f at h
      rw [hs, cond_false] at h
      cases hc : decide (s.length ≤ 1000000000000) with
      | false => rw [hc] at h; cases h
      | true =>
        rw [hc, cond_true] at h
        cases hst : read_steps (pieces 32 s) 0 [] with
        | none => rw [hst] at h; cases h
        | some r =>
          rw [hst] at h
          refine loop_wp (B := B) hI5 (fun id ob hl _ => look_all (P := fun _ (o : Ob U) => (∃ T cs, o = .blk T cs) ∨ ∃ T v e l, o = .row T v e l) (fun x hx => by
              simp only [List.mem_cons, List.not_mem_nil, or_false] at hx
              rcases hx with rfl | rfl | rfl | rfl | rfl
              · exact .inl ⟨_, _, rfl⟩
              · exact .inl ⟨_, _, rfl⟩
              · exact .inl ⟨_, _, rfl⟩
              · exact .inl ⟨_, _, rfl⟩
              · exact .inr ⟨_, _, _, _, rfl⟩) hl) (lies_again hL5) ⟨e2, e3, e4, e5⟩ (fun b hb => ?_) (of_decide_eq_true hc) hst (r := r) ?_ hS hvs hs5 hd5
          · obtain ⟨id, ob, k1, k2, k3⟩ := hb
            obtain ⟨_, o1, q1, q2⟩ := stB_to id ob k1
            exact ⟨gid id, o1, q1, q2, k3⟩
          · cases r with
            | inl x =>
              obtain ⟨x1, x2⟩ := x
              simp only [Option.bind_eq_some_iff] at h
              obtain ⟨y', hy', h⟩ := h
              cases h
              exact ⟨hy', rfl⟩
            | inr x =>
              obtain ⟨x1, x2, x3⟩ := x
              cases h
              exact ⟨rfl, rfl⟩

theorem read_post : ∀ (s : List UInt8) (F : Fault) (y : List Int), sched_Read_f s = some (F, y) → FnPost kF env0 17 ⟨⟨[0], [], []⟩, [.t .str], []⟩ [⟨⟨[0, 1], [], [⟨.slot 0, 100000, 3, .int .i64⟩]⟩, [.oslc 100000, .t (.st 34)], [.row 3 (.int .i64)]⟩]
    [⟨.str, s⟩] 0 [⟨.st 34, F⟩, ⟨.slc (.int .i64), y⟩] := by
  intro s F y h B G β w args o ho hw hI hp
  cases ho
  obtain ⟨v0, r, rfl, hv, hr⟩ := hp
  cases hr
  change PRel kF G (look ([] : List (Nat × Ob U))) β (PV.t ⟨.str, s⟩) v0 at hv
  simp only [PRel] at hv
  refine (read_calls (s := s) hI hv h).mono ?_
  rintro e w' ⟨G', β', v, rfl, hI', hT⟩
  exact ⟨G', β', v, rfl, hI', hT⟩
end Lift.E2.R

/- Read's mode holds. -/
namespace Lift.E3
open Go Go.RowKit Go.Proofs Lift Lift.Fn
open Lift.E2 (U kk uni cells ctys make tyOf eqOk mixed ms0 ms1 ms2 ms3 ms4 ms5 strings_Join_md strconv_ItoaW_md strings_Cut_md strconv_Atoi_md slices_Repeat_int_int_md env0 globs known5)

theorem sched_Read_post : ∀ ls j rs, (sched_Read_md.sum ls).val = some (j, rs) → FnPost kk env0 17 sched_Read_md.sh sched_Read_md.outs ls j rs := by
  intro ls j rs h
  simp only [sched_Read_md] at h
  split at h
  · obtain ⟨r, hr, h⟩ := Tr.get_val h
    rw [sched_Read, sealF_eq] at hr
    cases h
    exact FnPost.modes.1 (Lift.E2.R.read_post _ r.1 r.2 hr)
  · cases h
theorem known6 : Known kk env0 (modesOf ms6) := known_cons (by kernel_rfl) sched_Read_post known5
end Lift.E3

