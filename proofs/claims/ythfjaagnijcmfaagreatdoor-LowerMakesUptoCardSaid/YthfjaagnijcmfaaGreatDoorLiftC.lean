/-
  DERIVED. A function's code, evaluated: whole functions, and from a computed answer to a law; library functions. Conditions: none.
-/
import Derived.Test.YthfjaagnijcmfaaGreatDoorLiftB
import Derived.Laws.StructEq
import Derived.Lib.Join
import Derived.Lib.IndexMore
import Derived.Lib.AtoiAll
import Derived.Lib.RuneCount
import Derived.Shelf.Unicode.DecodeSlow
import Derived.Lib.ValidU
import Derived.Lib.SlTrimSet
import Derived.Lib.ItoaNum
import Derived.Lib.Split
import Derived.ChangeSlices
import Derived.Carry
import Derived.Shelf.Strings.OnBuilder
import Derived.Shelf.Strings.Search3
import Derived.Shelf.Strconv.AtoiAll
import Derived.Shelf.Unicode.DecodeAny
import Derived.Shelf.Unicode.ValidAny
import Derived.Shelf.Utf8.RuneCount
import Derived.Shelf.Strings.SlTrimAscii
import Derived.Lib.SmallJoins
import Derived.Shelf.Strings.Builder1
import Derived.Shelf.Strconv.Itoa3
import Derived.Shelf.Strings.Cut
import Derived.Shelf.Strings.Split
import Derived.Lib.AppendIntMem
import Derived.Lib.LaidU8
import Derived.Recover
set_option linter.unusedVariables false
set_option linter.unusedSimpArgs false
set_option linter.unusedSectionVars false
namespace Lift
open Go Go.RowKit
section
variable {U : Nat → Type}
def St.put (σ : St U) (dst : Option Nat) (p : PV U) (up : Ups U) : St U := ⟨match dst with | some d => (d, p) :: σ.tm | none => σ.tm, up ++ σ.st⟩
def St.pan (σ : St U) (p : PV U) (up : Ups U) : St U := ⟨(zabj, p) :: σ.tm, up ++ σ.st⟩
def St.lit (σ : St U) (s : Nat) (b : Bool) : St U := ⟨(s, .t ⟨.bool, b⟩) :: σ.tm, σ.st⟩
def St.eqv (σ τ : St U) : Prop := look σ.tm = look τ.tm ∧ look σ.st = look τ.st
end
structure Rec where
 i : Nat
 sl : List Nat
 d : Option Nat
 F : List Nat
 W : List Nat
def zaq0 (l : List Operand) : List Nat := l.filterMap fun | .tmp t => some t | _ => none
def dstOk (nt : Nat) : Option Nat → Bool
 | some d => Nat.blt d nt
 | none => true
section
variable (K : Kit) {R : Type}
def mkRec (i : Nat) (o : Oper) (tm : Nat → Option (PV K.u.U)) (gs : Option Nat) (up : Ups K.u.U) : Rec :=
 { i, sl := zaq0 o.op.operands.toList ++ gs.toList, d := o.dst, F := foot K o tm ++ up.map (·.1), W := up.map (·.1) }
def Kit.opIf (i : Nat) (o : Oper) (s : Nat) (want b : Bool) (σ : St K.u.U) (c : St K.u.U → Rec → Option R) : Option R :=
 if b = want then K.step o (look (σ.lit s b).tm) (look (σ.lit s b).st) fun p up => c ((σ.lit s b).put o.dst p up) (mkRec K i o (look (σ.lit s b).tm) (some s) up)
 else c ((σ.lit s b).put o.dst (.tup []) []) (mkRec K i o (look (σ.lit s b).tm) (some s) [])
def Kit.op (nt : Nat) (full : List Oper) (i : Nat) (σ : St K.u.U) (c : St K.u.U → Rec → Option R) : Option R :=
 match full[i]? with
 | none => none
 | some o => bif dstOk nt o.dst then
   match o.guard with
   | none => K.step o (look σ.tm) (look σ.st) fun p up => c (σ.put o.dst p up) (mkRec K i o (look σ.tm) none up)
   | some (j, want) => match (full[j]?).bind (·.dst) with
    | none => none
    | some s => match look σ.tm s with
     | some (.t ⟨.bool, b⟩) => bif b then K.opIf i o s want true σ c else K.opIf i o s want false σ c
     | some (.tup []) => c (σ.put o.dst (.tup []) []) (mkRec K i o (look σ.tm) (some s) [])
     | _ => none
  else none
def Kit.opIfP (o : Oper) (s : Nat) (want b : Bool) (σ : St K.u.U) (c pc : St K.u.U → Option R) : Option R :=
 if b = want then K.stepP o (look (σ.lit s b).tm) (look (σ.lit s b).st) (fun p up => c ((σ.lit s b).put o.dst p up)) (fun p up => pc ((σ.lit s b).pan p up))
 else c ((σ.lit s b).put o.dst (.tup []) [])
def Kit.opP (nt : Nat) (full : List Oper) (i : Nat) (σ : St K.u.U) (c pc : St K.u.U → Option R) : Option R :=
 match full[i]? with
 | none => none
 | some o => bif dstOk nt o.dst then
   match o.guard with
   | none => K.stepP o (look σ.tm) (look σ.st) (fun p up => c (σ.put o.dst p up)) (fun p up => pc (σ.pan p up))
   | some (j, want) => match (full[j]?).bind (·.dst) with
    | none => none
    | some s => match look σ.tm s with
     | some (.t ⟨.bool, b⟩) => bif b then K.opIfP o s want true σ c pc else K.opIfP o s want false σ c pc
     | some (.tup []) => c (σ.put o.dst (.tup []) [])
     | _ => none
  else none
def Kit.ops (nt : Nat) (full : List Oper) : List Nat → St K.u.U → List Rec → (St K.u.U → List Rec → Option R) → Option R
 | [], σ, rs, c => c σ rs
 | i :: l, σ, rs, c => K.op nt full i σ fun σ' r => Kit.ops nt full l σ' (r :: rs) c
def Rel (V : Env) (B : Base) (nt : Nat) (σ : St K.u.U) (a : Act) (w : World) : Prop :=
 ∃ G β, Inv K V B G (look σ.st) β w ∧ TmOk K G (look σ.st) β (look σ.tm) a ∧ a.tmps.size = nt ∧ a.defers = B.ds
def RelP (V : Env) (B : Base) (nt : Nat) (σ : St K.u.U) (v : Value) (a : Act) (w : World) : Prop :=
 ∃ G β, Inv K V B G (look σ.st) β w ∧ (∃ p, look σ.tm zabj = some p ∧ PRel K G (look σ.st) β p v) ∧ (∀ s p, s ≠ zabj → look σ.tm s = some p → ∃ u, a.tmps[s]? = some u ∧ PRel K G (look σ.st) β p u) ∧ a.tmps.size = nt ∧ a.defers = B.ds
variable {K} {V : Env} {B : Base} {nt : Nat}
theorem St.eqv.refl {U : Nat → Type} (σ : St U) : σ.eqv σ := ⟨rfl, rfl⟩
theorem St.eqv.symm {U : Nat → Type} {σ τ : St U} (h : σ.eqv τ) : τ.eqv σ := ⟨h.1.symm, h.2.symm⟩
theorem St.eqv.trans {U : Nat → Type} {σ τ ρ : St U} (h : σ.eqv τ) (h' : τ.eqv ρ) : σ.eqv ρ := ⟨h.1.trans h'.1, h.2.trans h'.2⟩
theorem zacq {U : Nat → Type} {σ : St U} {dst : Option Nat} {p : PV U} {up : Ups U} (s : Nat) : look (σ.put dst p up).tm s = if dst = some s then some p else look σ.tm s := by
 cases dst with
 | none => simp [St.put]
 | some d =>
  simp only [St.put, zaah, Option.some.injEq]
  by_cases h : s = d
  ·subst h; simp
  ·simp [h, Ne.symm h]
theorem St.eqv.put {U : Nat → Type} {σ τ : St U} (h : σ.eqv τ) (dst : Option Nat) (p : PV U) (up : Ups U) : (σ.put dst p up).eqv (τ.put dst p up) := by
 refine ⟨funext fun s => ?_, funext fun s => ?_⟩
 ·rw [zacq, zacq, h.1]
 ·show look (up ++ σ.st) s = look (up ++ τ.st) s
  rw [zac9, zac9, h.2]
theorem Rel.eqv {σ τ : St K.u.U} {a : Act} {w : World} (h : Rel K V B nt σ a w) (he : σ.eqv τ) : Rel K V B nt τ a w := by
 obtain ⟨G, β, h1, h2, h3, h4⟩ := h
 refine ⟨G, β, ?_, ?_, h3, h4⟩
 ·rw [← he.2]; exact h1
 ·rw [← he.1, ← he.2]; exact h2
theorem zac3 {U : Nat → Type} {σ : St U} {s : Nat} {b : Bool} (h : look σ.tm s = some (.t ⟨.bool, b⟩)) : (σ.lit s b).eqv σ := by
 refine ⟨funext fun i => ?_, rfl⟩
 simp only [St.lit, zaah]
 split
 ·rename_i hi; subst hi; exact h.symm
 ·rfl
theorem TmOk.put {G G' : Nat → Option Obj} {σ : St K.u.U} {β β' : Nat → Gh} {a : Act} {dst : Option Nat} {p : PV K.u.U} {up : Ups K.u.U} {v : Value} (h : TmOk K G (look σ.st) β (look σ.tm) a) (hs : a.tmps.size = nt) (hd : dstOk nt dst = true)
  (hc : Comp K G G' (look σ.st) β (look (up ++ σ.st)) β') (hp : PRel K G' (look (up ++ σ.st)) β' p v) : TmOk K G' (look (σ.put dst p up).st) β' (look (σ.put dst p up).tm) (a.put dst v) ∧ (a.put dst v).tmps.size = nt := by
 have hst : (σ.put dst p up).st = up ++ σ.st := rfl
 rw [hst]
 cases dst with
 | none =>
  refine ⟨fun s q hq => ?_, hs⟩
  obtain ⟨u, h1, h2⟩ := h s q hq
  exact ⟨u, h1, h2.over hc⟩
 | some d =>
  have hd' : d < a.tmps.size := by
   rw [hs]
   simpa [dstOk] using hd
  refine ⟨fun s q hq => ?_, by simp [Act.put, hs]⟩
  rw [zacq] at hq
  by_cases e : d = s
  ·subst e
   simp at hq
   subst hq
   exact ⟨v, by simp [Act.put, hd'], hp⟩
  ·simp [e] at hq
   obtain ⟨u, h1, h2⟩ := h s q hq
   exact ⟨u, by simp [Act.put, Array.getElem?_setIfInBounds_ne e, h1], h2.over hc⟩
theorem zadq (a : Act) (dst : Option Nat) (v : Value) : (a.put dst v).defers = a.defers := by cases dst <;> rfl
def Keeps {U : Nat → Type} (d : Option Nat) (σ σ' : St U) : Prop := (∀ s, d ≠ some s → look σ'.tm s = look σ.tm s) ∧ ∃ l, σ'.st = l ++ σ.st
theorem Keeps.put {U : Nat → Type} {σ1 σ : St U} (h1 : look σ1.tm = look σ.tm) (h2 : σ1.st = σ.st) {d : Option Nat} {p : PV U} {up : Ups U} : Keeps d σ (σ1.put d p up) :=
 ⟨fun s hs => by rw [zacq, if_neg hs, h1], up, by simp [St.put, h2]⟩
theorem zaqy (hK : KitOk K V) {ops : Array Oper} {i : Nat} {σ : St K.u.U} {c : St K.u.U → Rec → Option R} {r : R} (h : K.op nt ops.toList i σ c = some r) {a : Act} {w : World} (hr : Rel K V B nt σ a w)
  {Kp : Act → World → Prop} {Q : Exit → Act → World → Prop} (hk : ∀ σ' rec a' w', c σ' rec = some r → Keeps ((ops[i]?).bind (·.dst)) σ σ' → Rel K V B nt σ' a' w' → Kp a' w') : wpOp K.P ops Q i Kp a w := by
 unfold Kit.op at h
 unfold wpOp
 have hfull : ops.toList[i]? = ops[i]? := by simp
 rw [hfull] at h
 cases ho : ops[i]? with
 | none => rw [ho] at h; cases h
 | some o =>
  rw [ho] at h
  simp only at h ⊢
  have hd : dstOk nt o.dst = true := by
   cases hb : dstOk nt o.dst with
   | true => rfl
   | false => rw [hb] at h; cases h
  rw [hd, cond_true] at h
  have run : ∀ (σ1 : St K.u.U) (gs : Option Nat), look σ1.tm = look σ.tm → σ1.st = σ.st → Rel K V B nt σ1 a w → (K.step o (look σ1.tm) (look σ1.st) fun p up => c (σ1.put o.dst p up) (mkRec K i o (look σ1.tm) gs up)) = some r → o.wp K.P a w Kp Q := by
   intro σ1 gs e1 e2 hr h
   obtain ⟨G, β, h1, h2, h3, h4⟩ := hr
   refine zafn hK h1 h2 h (fun p up v w' G' β' hc hI hcomp hp => ?_)
   obtain ⟨t1, t2⟩ := h2.put h3 hd hcomp hp
   exact hk _ _ _ _ hc (by rw [ho]; exact Keeps.put e1 e2) ⟨G', β', hI, t1, t2, by rw [zadq]; exact h4⟩
  cases hg : o.guard with
  | none =>
   rw [hg] at h
   have hw : Region.wanted o (yielded ops a.tmps) = true := by simp [Region.wanted, hg]
   rw [if_pos hw]
   exact .inl (run σ none rfl rfl hr h)
  | some g =>
   obtain ⟨j, want⟩ := g
   rw [hg] at h
   simp only at h
   have hj : ops.toList[j]? = ops[j]? := by simp
   rw [hj] at h
   cases hs : (ops[j]?).bind (·.dst) with
   | none => rw [hs] at h; cases h
   | some s =>
    rw [hs] at h
    simp only at h
    split at h
    ·rename_i b hb
     have h' : K.opIf i o s want b σ c = some r := by cases b <;> exact h
     have hr' := hr
     obtain ⟨G, β, h1, h2, h3, h4⟩ := hr
     obtain ⟨v, hv1, hv2⟩ := h2 s _ hb
     simp only [PRel] at hv2
     have hv := hv2.bool_inv
     subst hv
     have hy : yielded ops a.tmps j = some b := by simp [yielded, hs, hv1]
     have hrl := hr'.eqv (zac3 hb).symm
     unfold Kit.opIf at h'
     by_cases hbw : b = want
     ·rw [if_pos hbw] at h'
      have hw : Region.wanted o (yielded ops a.tmps) = true := by simp [Region.wanted, hg, hy, hbw]
      rw [if_pos hw]
      exact .inl (run (σ.lit s b) (some s) (zac3 hb).1 rfl hrl h')
     ·rw [if_neg hbw] at h'
      have hw : ¬ Region.wanted o (yielded ops a.tmps) = true := by simp [Region.wanted, hg, hy, hbw]
      rw [if_neg hw]
      obtain ⟨G, β, h1, h2, h3, h4⟩ := hrl
      obtain ⟨t1, t2⟩ := h2.put (up := []) (p := .tup []) (v := undef) h3 hd Comp.refl (by simp only [PRel, PsRel]; exact ⟨[], rfl, rfl⟩)
      exact hk _ _ _ _ h' (by rw [ho]; exact Keeps.put (zac3 hb).1 rfl) ⟨G, β, h1, t1, t2, by rw [zadq]; exact h4⟩
    ·rename_i hb
     obtain ⟨G, β, h1, h2, h3, h4⟩ := hr
     obtain ⟨v, hv1, hv2⟩ := h2 s _ hb
     simp only [PRel, PsRel] at hv2
     obtain ⟨vs, hv2, rfl⟩ := hv2
     subst hv2
     have hy : yielded ops a.tmps j = none := by simp [yielded, hs, hv1]
     have hw : ¬ Region.wanted o (yielded ops a.tmps) = true := by simp [Region.wanted, hg, hy]
     rw [if_neg hw]
     obtain ⟨t1, t2⟩ := h2.put (up := []) (p := .tup []) (v := undef) h3 hd Comp.refl (by simp only [PRel, PsRel]; exact ⟨[], rfl, rfl⟩)
     exact hk _ _ _ _ h (by rw [ho]; exact Keeps.put rfl rfl) ⟨G, β, h1, t1, t2, by rw [zadq]; exact h4⟩
    ·cases h
theorem zam2 (hK : KitOk K V) {ops : Array Oper} {i : Nat} {σ : St K.u.U} {c : St K.u.U → Rec → Option R} {r : R} (h : K.op nt ops.toList i σ c = some r) {a : Act} {w : World} (hr : Rel K V B nt σ a w)
  {Kp : Act → World → Prop} {Q : Exit → Act → World → Prop} (hk : ∀ σ' rec a' w', c σ' rec = some r → Rel K V B nt σ' a' w' → Kp a' w') : wpOp K.P ops Q i Kp a w :=
 zaqy hK h hr fun σ' rec a' w' h1 _ h2 => hk σ' rec a' w' h1 h2
theorem zal0 (hK : KitOk K V) {ops : Array Oper} : ∀ {l : List Nat} {σ : St K.u.U} {rs : List Rec} {c : St K.u.U → List Rec → Option R} {r : R}, K.ops nt ops.toList l σ rs c = some r → ∀ {a : Act} {w : World}, Rel K V B nt σ a w →
  ∀ {Q : Exit → Act → World → Prop}, (∀ σ' rs' a' w', c σ' rs' = some r → Rel K V B nt σ' a' w' → Q .normal a' w') → wpOps K.P ops Q l a w
 | [], σ, rs, c, r, h, a, w, hr, Q, hk => by simp only [wpOps]; exact hk _ _ _ _ h hr
 | i :: l, σ, rs, c, r, h, a, w, hr, Q, hk => by
  rw [wpOps_cons]
  simp only [Kit.ops] at h
  exact zam2 hK h hr (fun σ' rec a' w' hc hr' => zal0 hK hc hr' hk)
theorem zap3 (hK : KitOk K V) {ops : Array Oper} {i : Nat} {σ : St K.u.U} {c pc : St K.u.U → Option R} {r : R} (h : K.opP nt ops.toList i σ c pc = some r) {a : Act} {w : World} (hr : Rel K V B nt σ a w)
  {Kp : Act → World → Prop} {Q : Exit → Act → World → Prop} (hp : ∀ σ' v w', pc σ' = some r → RelP K V B nt σ' v a w' → Q (.panic [{ v := v, recovered := false }]) a w') (hk : ∀ σ' a' w', c σ' = some r → Keeps ((ops[i]?).bind (·.dst)) σ σ' → Rel K V B nt σ' a' w' → Kp a' w') : wpOp K.P ops Q i Kp a w := by
 unfold Kit.opP at h
 unfold wpOp
 have hfull : ops.toList[i]? = ops[i]? := by simp
 rw [hfull] at h
 cases ho : ops[i]? with
 | none => rw [ho] at h; cases h
 | some o =>
  rw [ho] at h
  simp only at h ⊢
  have hd : dstOk nt o.dst = true := by
   cases hb : dstOk nt o.dst with
   | true => rfl
   | false => rw [hb] at h; cases h
  rw [hd, cond_true] at h
  have run : ∀ (σ1 : St K.u.U), look σ1.tm = look σ.tm → σ1.st = σ.st → Rel K V B nt σ1 a w → (K.stepP o (look σ1.tm) (look σ1.st) (fun p up => c (σ1.put o.dst p up)) (fun p up => pc (σ1.pan p up))) = some r → o.wp K.P a w Kp Q := by
   intro σ1 e1 e2 hr h
   obtain ⟨G, β, h1, h2, h3, h4⟩ := hr
   refine zao1 hK h1 h2 h (fun p up v w' G' β' hc hI hcomp hp => ?_) (fun p up v w' G' β' hc hI hcomp hpr => ?_)
   ·obtain ⟨t1, t2⟩ := h2.put h3 hd hcomp hp
    exact hk _ _ _ hc (by rw [ho]; exact Keeps.put e1 e2) ⟨G', β', hI, t1, t2, by rw [zadq]; exact h4⟩
   ·refine hp _ v w' hc ⟨G', β', hI, ⟨p, by simp [St.pan, zaah], hpr⟩, fun s q hs hq => ?_, h3, h4⟩
    simp only [St.pan, zaah, if_neg hs] at hq
    obtain ⟨u, u1, u2⟩ := h2 s q hq
    exact ⟨u, u1, u2.over hcomp⟩
  cases hg : o.guard with
  | none =>
   rw [hg] at h
   have hw : Region.wanted o (yielded ops a.tmps) = true := by simp [Region.wanted, hg]
   rw [if_pos hw]
   exact .inl (run σ rfl rfl hr h)
  | some g =>
   obtain ⟨j, want⟩ := g
   rw [hg] at h
   simp only at h
   have hj : ops.toList[j]? = ops[j]? := by simp
   rw [hj] at h
   cases hs : (ops[j]?).bind (·.dst) with
   | none => rw [hs] at h; cases h
   | some s =>
    rw [hs] at h
    simp only at h
    split at h
    ·rename_i b hb
     have h' : K.opIfP o s want b σ c pc = some r := by cases b <;> exact h
     have hr' := hr
     obtain ⟨G, β, h1, h2, h3, h4⟩ := hr
     obtain ⟨v, hv1, hv2⟩ := h2 s _ hb
     simp only [PRel] at hv2
     have hv := hv2.bool_inv
     subst hv
     have hy : yielded ops a.tmps j = some b := by simp [yielded, hs, hv1]
     have hrl := hr'.eqv (zac3 hb).symm
     unfold Kit.opIfP at h'
     by_cases hbw : b = want
     ·rw [if_pos hbw] at h'
      have hw : Region.wanted o (yielded ops a.tmps) = true := by simp [Region.wanted, hg, hy, hbw]
      rw [if_pos hw]
      exact .inl (run (σ.lit s b) (zac3 hb).1 rfl hrl h')
     ·rw [if_neg hbw] at h'
      have hw : ¬ Region.wanted o (yielded ops a.tmps) = true := by simp [Region.wanted, hg, hy, hbw]
      rw [if_neg hw]
      obtain ⟨G, β, h1, h2, h3, h4⟩ := hrl
      obtain ⟨t1, t2⟩ := h2.put (up := []) (p := .tup []) (v := undef) h3 hd Comp.refl (by simp only [PRel, PsRel]; exact ⟨[], rfl, rfl⟩)
      exact hk _ _ _ h' (by rw [ho]; exact Keeps.put (zac3 hb).1 rfl) ⟨G, β, h1, t1, t2, by rw [zadq]; exact h4⟩
    ·rename_i hb
     obtain ⟨G, β, h1, h2, h3, h4⟩ := hr
     obtain ⟨v, hv1, hv2⟩ := h2 s _ hb
     simp only [PRel, PsRel] at hv2
     obtain ⟨vs, hv2, rfl⟩ := hv2
     subst hv2
     have hy : yielded ops a.tmps j = none := by simp [yielded, hs, hv1]
     have hw : ¬ Region.wanted o (yielded ops a.tmps) = true := by simp [Region.wanted, hg, hy]
     rw [if_neg hw]
     obtain ⟨t1, t2⟩ := h2.put (up := []) (p := .tup []) (v := undef) h3 hd Comp.refl (by simp only [PRel, PsRel]; exact ⟨[], rfl, rfl⟩)
     exact hk _ _ _ h (by rw [ho]; exact Keeps.put rfl rfl) ⟨G, β, h1, t1, t2, by rw [zadq]; exact h4⟩
    ·cases h
end
end Lift
namespace Lift
open Go Go.RowKit
def zacc (ops : List Oper) (y : Nat) : List Nat := match ops[y]? with
 | some o => (o.after.toList.filter fun e => Region.binds .any e).map (·.on)
 | none => []
def ancOf (ops : List Oper) : Nat → Nat → List Nat
 | 0, _ => []
 | f + 1, y => (zacc ops y).flatMap fun e => e :: ancOf ops f e
def zala (l m : List Nat) : Bool := l.all fun x => !m.elem x
def Rec.indep (x y : Rec) : Bool :=
 (match x.d with | some d => !y.sl.elem d && (match y.d with | some d' => !Nat.beq d d' | none => true) | none => true) &&
 (match y.d with | some d => !x.sl.elem d | none => true) && zala x.W y.F && zala y.W x.F
def zahj (ops : List Oper) : List Rec → Bool
 | [] => true
 | y :: rs => (rs.all fun x => (zacc ops y.i).elem x.i || (x.indep y || (ancOf ops ops.length y.i).elem x.i)) && zahj ops rs
theorem zarq {ops : List Oper} {y x : Nat} (h : x ∈ zacc ops y) : x ∈ ancOf ops ops.length y := by
 have hl : ∃ n, ops.length = n + 1 := by
  cases ops with
  | nil => simp [zacc] at h
  | cons a l => exact ⟨l.length, rfl⟩
 obtain ⟨n, hn⟩ := hl
 rw [hn]
 exact List.mem_flatMap.2 ⟨x, h, List.mem_cons_self⟩
theorem zat1 {ops : List Oper} {x y : Rec} (h : ((zacc ops y.i).elem x.i || (x.indep y || (ancOf ops ops.length y.i).elem x.i)) = true) : ((ancOf ops ops.length y.i).elem x.i || x.indep y) = true := by
 simp only [Bool.or_eq_true, List.elem_eq_mem, decide_eq_true_eq] at h ⊢
 rcases h with h | h | h
 ·exact .inl (zarq h)
 ·exact .inr h
 ·exact .inl h
def zals (ops : List Oper) : Bool := (List.range ops.length).all fun y => (zacc ops y).all fun e => Nat.blt e y
section
variable {K : Kit} {R R' : Type} {V : Env} {B : Base} {nt : Nat} {full : List Oper}
theorem zatw {i : Nat} {σ : St K.u.U} {c : St K.u.U → Rec → Option R} : K.op nt full i σ c = (K.op nt full i σ fun σ' r => some (σ', r)).bind fun x => c x.1 x.2 := by
 unfold Kit.op
 cases full[i]? with
 | none => rfl
 | some o =>
  simp only [zaar, Option.bind_none]
  congr 1
  cases o.guard with
  | none => simp only []; rw [zaig]; rfl
  | some g =>
   obtain ⟨j, want⟩ := g
   simp only []
   cases (full[j]?).bind (·.dst) with
   | none => rfl
   | some s =>
    simp only []
    have e : ∀ b, K.opIf i o s want b σ c = (K.opIf i o s want b σ fun σ' r => some (σ', r)).bind fun x => c x.1 x.2 := by
     intro b
     unfold Kit.opIf
     rw [zaa0]
     congr 1
     rw [zaig]
     rfl
    split
    ·rw [zaar, ← e, ← e]
    ·rfl
    ·rfl
def run1 (K : Kit) (nt : Nat) (full : List Oper) (i : Nat) (σ : St K.u.U) : Option (St K.u.U × Rec) := K.op nt full i σ fun σ' r => some (σ', r)
def run (K : Kit) (nt : Nat) (full : List Oper) : List Nat → St K.u.U → Option (St K.u.U × List Rec)
 | [], σ => some (σ, [])
 | i :: l, σ => (run1 K nt full i σ).bind fun x => (run K nt full l x.1).bind fun y => some (y.1, x.2 :: y.2)
theorem zapv : ∀ {l : List Nat} {σ : St K.u.U} {rs : List Rec} {c : St K.u.U → List Rec → Option R}, K.ops nt full l σ rs c = (run K nt full l σ).bind fun x => c x.1 (x.2.reverse ++ rs)
 | [], σ, rs, c => by simp [Kit.ops, run]
 | i :: l, σ, rs, c => by
  simp only [Kit.ops, run]
  rw [zatw]
  simp only [run1, Option.bind_assoc]
  congr 1
  funext x
  rw [zapv]
  congr 1
  funext y
  simp
theorem zalu {σ τ : St K.u.U} {l : List Operand} (h : ∀ s ∈ zaq0 l, look τ.tm s = look σ.tm s) : ∀ x ∈ l, ev K (look σ.tm) x = ev K (look τ.tm) x := by
 intro x hx
 cases x with
 | tmp s => simp only [ev]; exact (h s (List.mem_filterMap.2 ⟨_, hx, rfl⟩)).symm
 | _ => rfl
theorem zagk {o : Oper} {tm tm' : Nat → Option (PV K.u.U)} (h : ∀ x ∈ o.op.operands.toList, ev K tm x = ev K tm' x) : foot K o tm = foot K o tm' := by
 have e : PV.idsL (o.op.operands.toList.filterMap (ev K tm)) = PV.idsL (o.op.operands.toList.filterMap (ev K tm')) := by
  congr 1
  generalize o.op.operands.toList = l at h
  induction l with
  | nil => rfl
  | cons x l ih =>
   simp only [List.filterMap_cons, h x (by simp)]
   rw [ih (fun y hy => h y (by simp [hy]))]
 unfold foot
 congr 1
 unfold footO
 cases ho : o.op with
 | fieldAddr T x f =>
  rw [ho] at e h
  simp only []
  rw [← h x (by simp [Op.operands]), e]
 | nilCheck x =>
  rw [ho] at e h
  simp only []
  rw [← h x (by simp [Op.operands]), e]
 | move x => rfl
 | assign x => rfl
 | _ => rw [ho] at e; exact e
theorem zafe {i : Nat} {σ τ : St K.u.U} {r : Rec} (h : run1 K nt full i σ = some (τ, r)) : ∃ p up, r.i = i ∧ (∀ x ∈ up, x.1 ∈ r.F) ∧ r.W = up.map (·.1) ∧ τ.eqv (σ.put r.d p up) ∧
  ∀ σ' : St K.u.U, (∀ s ∈ r.sl, look σ'.tm s = look σ.tm s) → (∀ id ∈ r.F, look σ'.st id = look σ.st id) → ∃ τ', run1 K nt full i σ' = some (τ', r) ∧ τ'.eqv (σ'.put r.d p up) := by
 unfold run1 Kit.op at h
 unfold run1 Kit.op
 cases ho : full[i]? with
 | none => rw [ho] at h; cases h
 | some o =>
  rw [ho] at h
  simp only at h ⊢
  have hd : dstOk nt o.dst = true := by
   cases hb : dstOk nt o.dst with
   | true => rfl
   | false => rw [hb] at h; cases h
  rw [hd, cond_true] at h
  simp only [hd, cond_true]
  cases hg : o.guard with
  | none =>
   rw [hg] at h
   simp only at h ⊢
   rw [zagg] at h
   simp only [Option.bind_eq_some_iff, Option.some.injEq, Prod.mk.injEq] at h
   obtain ⟨⟨p, up⟩, hs, rfl, rfl⟩ := h
   refine ⟨p, up, rfl, fun x hx => by simp only [mkRec]; exact List.mem_append.2 (.inr (List.mem_map_of_mem hx)), rfl, St.eqv.refl _, fun σ' h1 h2 => ?_⟩
   have he := zalu (σ := σ) (τ := σ') (l := o.op.operands.toList) (fun s hs => h1 s (by simp only [mkRec]; exact List.mem_append.2 (.inl hs)))
   have hf := zagk he
   have hst : (K.step o (look σ'.tm) (look σ'.st) fun p up => some (p, up)) = some (p, up) :=
    zak3 hs he (fun id hid => (h2 id (by simp only [mkRec]; exact List.mem_append.2 (.inl hid))).symm) (fun id hid => (h2 id (by simp only [mkRec]; exact List.mem_append.2 (.inr hid))).symm)
   refine ⟨σ'.put o.dst p up, ?_, St.eqv.refl _⟩
   rw [zagg, hst]
   simp only [Option.bind_some, mkRec, hf]
  | some g =>
   obtain ⟨j, want⟩ := g
   rw [hg] at h
   simp only at h ⊢
   cases hs : (full[j]?).bind (·.dst) with
   | none => rw [hs] at h; cases h
   | some s =>
    rw [hs] at h
    simp only at h ⊢
    split at h
    ·rename_i b hb
     have h' : (K.opIf i o s want b σ fun σ' r => some (σ', r)) = some (τ, r) := by cases b <;> exact h
     have key : ∃ p up, r = mkRec K i o (look (σ.lit s b).tm) (some s) up ∧ τ = (σ.lit s b).put o.dst p up ∧
       ∀ σ' : St K.u.U, (∀ x ∈ o.op.operands.toList, ev K (look (σ.lit s b).tm) x = ev K (look (σ'.lit s b).tm) x) → (∀ id ∈ foot K o (look (σ.lit s b).tm) ++ up.map (·.1), look σ'.st id = look σ.st id) →
        (K.opIf i o s want b σ' fun σ' r => some (σ', r)) = some ((σ'.lit s b).put o.dst p up, r) := by
      unfold Kit.opIf at h'
      by_cases hbw : b = want
      ·rw [if_pos hbw, zagg] at h'
       simp only [Option.bind_eq_some_iff, Option.some.injEq, Prod.mk.injEq] at h'
       obtain ⟨⟨p, up⟩, hs', rfl, rfl⟩ := h'
       refine ⟨p, up, rfl, rfl, fun σ' he h2 => ?_⟩
       unfold Kit.opIf
       rw [if_pos hbw, zagg]
       have hst : (K.step o (look (σ'.lit s b).tm) (look (σ'.lit s b).st) fun p up => some (p, up)) = some (p, up) :=
        zak3 (K := K) (S := look (σ.lit s b).st) (S' := look (σ'.lit s b).st) hs' he (fun id hid => (h2 id (List.mem_append.2 (.inl hid))).symm) (fun id hid => (h2 id (List.mem_append.2 (.inr hid))).symm)
       rw [hst]
       simp only [Option.bind_some, mkRec, zagk he]
      ·rw [if_neg hbw] at h'
       simp only [Option.some.injEq, Prod.mk.injEq] at h'
       obtain ⟨rfl, rfl⟩ := h'
       refine ⟨.tup [], [], rfl, rfl, fun σ' he h2 => ?_⟩
       unfold Kit.opIf
       rw [if_neg hbw]
       simp only [mkRec, zagk he]
     obtain ⟨p, up, rfl, rfl, hall⟩ := key
     refine ⟨p, up, rfl, fun x hx => by simp only [mkRec]; exact List.mem_append.2 (.inr (List.mem_map_of_mem hx)), rfl, (zac3 hb).put _ _ _, fun σ' h1 h2 => ?_⟩
     have hb' : look σ'.tm s = some (.t ⟨.bool, b⟩) := by rw [h1 s (by simp [mkRec])]; exact hb
     have he : ∀ x ∈ o.op.operands.toList, ev K (look (σ.lit s b).tm) x = ev K (look (σ'.lit s b).tm) x := by
      rw [(zac3 hb).1, (zac3 hb').1]
      exact zalu (fun t ht => h1 t (by simp only [mkRec]; exact List.mem_append.2 (.inl ht)))
     refine ⟨(σ'.lit s b).put o.dst p up, ?_, (zac3 hb').put _ _ _⟩
     rw [hb']
     have := hall σ' he (fun id hid => h2 id hid)
     cases b <;> exact this
    ·rename_i hb
     simp only [Option.some.injEq, Prod.mk.injEq] at h
     obtain ⟨rfl, rfl⟩ := h
     refine ⟨.tup [], [], rfl, by simp, rfl, St.eqv.refl _, fun σ' h1 h2 => ?_⟩
     have hb' : look σ'.tm s = some (.tup []) := by rw [h1 s (by simp [mkRec])]; exact hb
     have he := zalu (σ := σ) (τ := σ') (l := o.op.operands.toList) (fun t ht => h1 t (by simp only [mkRec]; exact List.mem_append.2 (.inl ht)))
     rw [hb']
     exact ⟨σ'.put o.dst (.tup []) [], by simp only [mkRec, zagk he], St.eqv.refl _⟩
    ·cases h
theorem zas9 {i : Nat} {σ σ' τ : St K.u.U} {r : Rec} (he : σ.eqv σ') (h : run1 K nt full i σ = some (τ, r)) : ∃ τ', run1 K nt full i σ' = some (τ', r) ∧ τ.eqv τ' := by
 obtain ⟨p, up, _, _, _, h1, h2⟩ := zafe h
 obtain ⟨τ', h3, h4⟩ := h2 σ' (fun s _ => by rw [he.1]) (fun s _ => by rw [he.2])
 exact ⟨τ', h3, (h1.trans (he.put _ _ _)).trans h4.symm⟩
theorem zaps : ∀ {l : List Nat} {σ σ' τ : St K.u.U} {rs : List Rec}, σ.eqv σ' → run K nt full l σ = some (τ, rs) → ∃ τ', run K nt full l σ' = some (τ', rs) ∧ τ.eqv τ'
 | [], σ, σ', τ, rs, he, h => by simp [run] at h; obtain ⟨rfl, rfl⟩ := h; exact ⟨σ', by simp [run], he⟩
 | i :: l, σ, σ', τ, rs, he, h => by
  simp only [run, Option.bind_eq_some_iff, Option.some.injEq, Prod.mk.injEq] at h
  obtain ⟨⟨ρ, r⟩, h1, ⟨τ0, rs0⟩, h2, rfl, rfl⟩ := h
  obtain ⟨ρ', h3, h4⟩ := zas9 he h1
  obtain ⟨τ', h5, h6⟩ := zaps h4 h2
  exact ⟨τ', by simp [run, h3, h5], h6⟩
theorem zajl {l m : List Nat} (h : zala l m = true) : ∀ x ∈ l, x ∉ m := by
 intro x hx hm
 unfold zala at h
 have := List.all_eq_true.1 h x hx
 simp [hm] at this
theorem zap8 {x y : Rec} (h : x.indep y = true) : (∀ d, x.d = some d → d ∉ y.sl ∧ y.d ≠ some d) ∧ (∀ d, y.d = some d → d ∉ x.sl) ∧ (∀ id ∈ x.W, id ∉ y.F) ∧ (∀ id ∈ y.W, id ∉ x.F) := by
 unfold Rec.indep at h
 simp only [Bool.and_eq_true] at h
 obtain ⟨⟨⟨h1, h2⟩, h3⟩, h4⟩ := h
 refine ⟨fun d hd => ?_, fun d hd => ?_, zajl h3, zajl h4⟩
 ·rw [hd] at h1
  simp only [Bool.and_eq_true] at h1
  refine ⟨by simpa using h1.1, fun hy => ?_⟩
  rw [hy] at h1
  simp at h1
 ·rw [hd] at h2
  simpa using h2
theorem zagx {σ : St K.u.U} {dst : Option Nat} {p : PV K.u.U} {up : Ups K.u.U} (id : Nat) : look (σ.put dst p up).st id = (look up id).or (look σ.st id) := zac9 up σ.st id
theorem zas8 {i j : Nat} {σ σ1 σ2 : St K.u.U} {x y : Rec} (h1 : run1 K nt full i σ = some (σ1, x)) (h2 : run1 K nt full j σ1 = some (σ2, y)) (hi : x.indep y = true) :
  ∃ σ1' σ2', run1 K nt full j σ = some (σ1', y) ∧ run1 K nt full i σ1' = some (σ2', x) ∧ σ2'.eqv σ2 := by
 obtain ⟨a1, a2, a3, a4⟩ := zap8 hi
 obtain ⟨px, ux, _, fx, wx, ex, cx⟩ := zafe h1
 obtain ⟨py, uy, _, fy, wy, ey, cy⟩ := zafe h2
 obtain ⟨σ1', r1, e1⟩ := cy σ (fun s hs => by
   rw [ex.1, zacq, if_neg]
   intro hd
   exact (a1 s hd).1 hs) (fun id hid => by
   rw [ex.2, zagx, zagl (u := ux) (by rw [← wx]; exact fun hm => a3 id hm hid)]
   rfl)
 obtain ⟨σ2', r2, e2⟩ := cx σ1' (fun s hs => by
   rw [e1.1, zacq, if_neg]
   intro hd
   exact a2 s hd hs) (fun id hid => by
   rw [e1.2, zagx, zagl (u := uy) (by rw [← wy]; exact fun hm => a4 id hm hid)]
   rfl)
 refine ⟨σ1', σ2', r1, r2, ?_⟩
 have hcomm : ((σ.put y.d py uy).put x.d px ux).eqv ((σ.put x.d px ux).put y.d py uy) := by
  refine ⟨funext fun s => ?_, funext fun id => ?_⟩
  ·simp only [zacq]
   by_cases c1 : x.d = some s
   ·have : y.d ≠ some s := (a1 s c1).2
    simp [c1, this]
   ·simp [c1]
  ·simp only [zagx]
   cases hx : look ux id with
   | none => simp
   | some ox =>
    have hm : id ∈ x.W := by
     rw [wx]
     exact Classical.byContradiction fun hn => by rw [zagl hn] at hx; cases hx
    have : look uy id = none := zagl (fun hm2 => by
     obtain ⟨z, hz, rfl⟩ := List.mem_map.1 hm2
     exact a3 _ hm (fy z hz))
    simp [this]
 exact ((e2.trans (e1.put _ _ _)).trans hcomm).trans (ey.trans (ex.put _ _ _)).symm
theorem zakm {i : Nat} {l2 : List Nat} : ∀ {l1 : List Nat} {σ τ : St K.u.U} {rs : List Rec}, run K nt full (l1 ++ i :: l2) σ = some (τ, rs) → ∃ rs1 x rs2, rs = rs1 ++ x :: rs2 ∧ rs1.map (·.i) = l1 ∧ x.i = i ∧
  ((∀ y ∈ rs1, y.indep x = true) → ∃ τ', run K nt full (i :: (l1 ++ l2)) σ = some (τ', x :: (rs1 ++ rs2)) ∧ τ'.eqv τ)
 | [], σ, τ, rs, h => by
  have h0 := h
  simp only [List.nil_append, run, Option.bind_eq_some_iff, Option.some.injEq, Prod.mk.injEq] at h
  obtain ⟨⟨ρ, r⟩, h1, ⟨τ0, rs0⟩, h2, rfl, rfl⟩ := h
  obtain ⟨_, _, hi, _⟩ := zafe h1
  exact ⟨[], r, rs0, rfl, rfl, hi, fun _ => ⟨_, h0, St.eqv.refl _⟩⟩
 | j :: l1, σ, τ, rs, h => by
  simp only [List.cons_append, run, Option.bind_eq_some_iff, Option.some.injEq, Prod.mk.injEq] at h
  obtain ⟨⟨ρ, r⟩, h1, ⟨τ0, rs0⟩, h2, rfl, rfl⟩ := h
  obtain ⟨rs1, x, rs2, e1, e2, e3, e4⟩ := zakm h2
  obtain ⟨_, _, hj, _⟩ := zafe h1
  subst e1
  refine ⟨r :: rs1, x, rs2, rfl, by simp [hj, e2], e3, fun hall => ?_⟩
  obtain ⟨τ', h3, h4⟩ := e4 (fun y hy => hall y (by simp [hy]))
  simp only [run, Option.bind_eq_some_iff, Option.some.injEq, Prod.mk.injEq] at h3
  obtain ⟨⟨ρ2, r2⟩, h5, ⟨τ1, rs3⟩, h6, rfl, h7⟩ := h3
  simp only [List.cons.injEq] at h7
  obtain ⟨rfl, rfl⟩ := h7
  obtain ⟨σ1', σ2', s1, s2, s3⟩ := zas8 h1 h5 (hall r (by simp))
  obtain ⟨τ2, h8, h9⟩ := zaps s3.symm h6
  refine ⟨τ2, ?_, h9.symm.trans h4⟩
  simp [run, s1, s2, h8]
def zad2 (full : List Oper) : List Rec → Prop
 | [] => True
 | x :: rs => (∀ y ∈ rs, x.i ∈ ancOf full full.length y.i ∨ x.indep y = true) ∧ zad2 full rs
theorem zaj4 : ∀ (rs acc : List Rec), zad2 full acc → zahj full rs = true → (∀ x ∈ rs, ∀ y ∈ acc, x.i ∈ ancOf full full.length y.i ∨ x.indep y = true) → zad2 full (rs.reverse ++ acc)
 | [], acc, h, _, _ => by simpa using h
 | y :: rs, acc, h, hp, hc => by
  simp only [zahj, Bool.and_eq_true] at hp
  obtain ⟨h1, h2⟩ := hp
  rw [List.reverse_cons, List.append_assoc]
  refine zaj4 rs (y :: acc) ⟨fun z hz => hc y (by simp) z hz, h⟩ h2 (fun x hx z hz => ?_)
  cases hz with
  | head =>
   have := zat1 (List.all_eq_true.1 h1 x hx)
   simpa using this
  | tail _ hz => exact hc x (by simp [hx]) z hz
theorem zad2.drop {x : Rec} : ∀ {rs1 rs2 : List Rec}, zad2 full (rs1 ++ x :: rs2) → zad2 full (rs1 ++ rs2) ∧ ∀ y ∈ rs1, y.i ∈ ancOf full full.length x.i ∨ y.indep x = true
 | [], rs2, h => ⟨h.2, by simp⟩
 | z :: rs1, rs2, h => by
  obtain ⟨h1, h2⟩ := h
  obtain ⟨h3, h4⟩ := zad2.drop h2
  refine ⟨⟨fun y hy => h1 y (by simp at hy ⊢; rcases hy with hy | hy <;> simp [hy]), h3⟩, fun y hy => ?_⟩
  cases hy with
  | head => exact h1 x (by simp)
  | tail _ hy => exact h4 y hy
theorem zaq7 {D : Nat → Prop} (hD : ∀ y, D y → ∀ e ∈ zacc full y, D e) : ∀ (f y : Nat), (∀ e ∈ zacc full y, D e) → ∀ x ∈ ancOf full f y, D x
 | 0, y, _, x, hx => by simp [ancOf] at hx
 | f + 1, y, h, x, hx => by
  simp only [ancOf, List.mem_flatMap, List.mem_cons] at hx
  obtain ⟨e, he, hx⟩ := hx
  rcases hx with rfl | hx
  ·exact h x he
  ·exact zaq7 hD f e (hD e (h e he)) x hx
theorem zai6 {ops : Array Oper} {listed : Array Bool} {i : Nat} (hs : listed.size = ops.size) : i ∈ Region.ready .any ops listed ↔ i < ops.size ∧ listed[i]? = some false ∧ ∀ e ∈ zacc ops.toList i, listed.getD e false = true := by
 unfold Region.ready zacc
 simp only [List.mem_filter, List.mem_range, Bool.and_eq_true]
 constructor
 ·rintro ⟨h1, h2, h3⟩
  refine ⟨h1, ?_, ?_⟩
  ·have hl : i < listed.size := by omega
   simp [hl] at h2 ⊢
   exact h2
  ·have ho : ops.toList[i]? = some ops[i] := by simp [h1]
   rw [ho]
   have ho' : ops[i]? = some ops[i] := by simp [h1]
   rw [ho'] at h3
   simp only [Option.map_some, Option.getD_some, Array.all_eq_true_iff_forall_mem] at h3
   intro e he
   simp only [List.mem_map, List.mem_filter] at he
   obtain ⟨g, ⟨hg, hb⟩, rfl⟩ := he
   have := h3 g (Array.mem_toList_iff.1 hg)
   simpa [hb] using this
 ·rintro ⟨h1, h2, h3⟩
  refine ⟨h1, ?_, ?_⟩
  ·have hl : i < listed.size := by omega
   simp [hl] at h2 ⊢
   exact h2
  ·have ho : ops.toList[i]? = some ops[i] := by simp [h1]
   rw [ho] at h3
   have ho' : ops[i]? = some ops[i] := by simp [h1]
   rw [ho']
   simp only [Option.map_some, Option.getD_some, Array.all_eq_true_iff_forall_mem]
   intro g hg
   by_cases hb : Region.binds .any g = true
   ·have := h3 g.on (List.mem_map.2 ⟨g, List.mem_filter.2 ⟨Array.mem_toList_iff.2 hg, hb⟩, rfl⟩)
    simp [this]
   ·simp [hb]
theorem zare (hK : KitOk K V) {ops : Array Oper} (hf : zals ops.toList = true) : ∀ (fuel : Nat) (listed : Array Bool) (L : List Nat) {σ τ : St K.u.U} {rs : List Rec} {a : Act} {w : World} {Q : Exit → Act → World → Prop},
  listed.size = ops.size → L.Pairwise (· < ·) → (∀ i, i ∈ L ↔ i < ops.size ∧ listed[i]? = some false) → (∀ y, listed.getD y false = true → ∀ e ∈ zacc ops.toList y, listed.getD e false = true) →
  run K nt ops.toList L σ = some (τ, rs) → zad2 ops.toList rs → L.length ≤ fuel → Rel K V B nt σ a w → (∀ τ' a' w', τ'.eqv τ → Rel K V B nt τ' a' w' → Q .normal a' w') → wpAny K.P .any ops Q fuel listed a w := by
 have hfw : ∀ y, ∀ e ∈ zacc ops.toList y, e < y := by
  intro y e he
  by_cases hy : y < ops.toList.length
  ·have := List.all_eq_true.1 hf y (List.mem_range.2 hy)
   have := List.all_eq_true.1 this e he
   simpa using this
  ·unfold zacc at he
   rw [List.getElem?_eq_none (by omega)] at he
   cases he
 have hnil : ∀ (listed : Array Bool) (L : List Nat), listed.size = ops.size → L.Pairwise (· < ·) → (∀ i, i ∈ L ↔ i < ops.size ∧ listed[i]? = some false) → Region.ready .any ops listed = [] → L = [] := by
  intro listed L hs hp hL hr
  cases L with
  | nil => rfl
  | cons i L =>
   exfalso
   obtain ⟨h1, h2⟩ := (hL i).1 (by simp)
   have : i ∈ Region.ready .any ops listed := (zai6 hs).2 ⟨h1, h2, fun e he => by
    have hlt := hfw i e he
    have hn : e ∉ i :: L := fun hm => by
     cases hm with
     | head => omega
     | tail _ hm => have := (List.pairwise_cons.1 hp).1 e hm; omega
    have hel : e < listed.size := by omega
    have : ¬ listed[e]? = some false := fun h => hn ((hL e).2 ⟨by omega, h⟩)
    simp [hel] at this ⊢
    exact this⟩
   rw [hr] at this
   cases this
 intro fuel
 induction fuel with
 | zero =>
  intro listed L σ τ rs a w Q hs hp hL hD hrun hok hlen hrel hfin
  have : L = [] := by cases L with | nil => rfl | cons => simp at hlen
  subst this
  simp [run] at hrun
  obtain ⟨rfl, _⟩ := hrun
  refine ⟨?_, hfin σ a w (St.eqv.refl _) hrel⟩
  cases hr : Region.ready .any ops listed with
  | nil => rfl
  | cons i l =>
   exfalso
   obtain ⟨h1, h2, _⟩ := (zai6 hs).1 (by rw [hr]; exact List.mem_cons_self : i ∈ Region.ready .any ops listed)
   have := (hL i).2 ⟨h1, h2⟩
   cases this
 | succ fuel ih =>
  intro listed L σ τ rs a w Q hs hp hL hD hrun hok hlen hrel hfin
  refine ⟨fun hr => ?_, fun i hi => ?_⟩
  ·have := hnil listed L hs hp hL hr
   subst this
   simp [run] at hrun
   obtain ⟨rfl, _⟩ := hrun
   exact hfin σ a w (St.eqv.refl _) hrel
  ·obtain ⟨h1, h2, h3⟩ := (zai6 hs).1 hi
   have hm := (hL i).2 ⟨h1, h2⟩
   obtain ⟨L1, L2, rfl⟩ := List.append_of_mem hm
   obtain ⟨rs1, x, rs2, rfl, e2, e3, e4⟩ := zakm hrun
   obtain ⟨hok2, hpair⟩ := hok.drop
   have hin : ∀ y ∈ rs1, y.indep x = true := fun y hy => by
    rcases hpair y hy with h | h
    ·exfalso
     rw [e3] at h
     have hyl := zaq7 (full := ops.toList) (D := fun z => listed.getD z false = true) hD _ i h3 y.i h
     have hyL : y.i ∈ L1 ++ i :: L2 := List.mem_append.2 (.inl (by rw [← e2]; exact List.mem_map_of_mem hy))
     obtain ⟨hy1, hy2⟩ := (hL y.i).1 hyL
     have hyl' : y.i < listed.size := by omega
     simp [hyl'] at hyl hy2
     rw [hyl] at hy2
     cases hy2
    ·exact h
   obtain ⟨τ', h5, h6⟩ := e4 hin
   simp only [run, Option.bind_eq_some_iff, Option.some.injEq, Prod.mk.injEq] at h5
   obtain ⟨⟨ρ, r⟩, h7, ⟨τ0, rs0⟩, h8, rfl, h9⟩ := h5
   simp only [List.cons.injEq] at h9
   obtain ⟨rfl, rfl⟩ := h9
   refine zam2 hK (c := fun σ' r => some (σ', r)) (r := (ρ, r)) h7 hrel (fun σ' rec a' w' hc hr' => ?_)
   simp only [Option.some.injEq, Prod.mk.injEq] at hc
   obtain ⟨rfl, rfl⟩ := hc
   have hil : i < listed.size := by omega
   have hp' : (L1 ++ L2).Pairwise (· < ·) := by
    refine hp.sublist ?_
    exact List.Sublist.append_left (List.sublist_cons_self _ _) _
   have hne : ∀ j ∈ L1 ++ L2, j ≠ i := by
    rw [List.pairwise_append] at hp
    obtain ⟨_, q2, q3⟩ := hp
    intro j hj
    rcases List.mem_append.1 hj with hj | hj
    ·have := q3 j hj i (by simp); omega
    ·have := (List.pairwise_cons.1 q2).1 j hj; omega
   refine ih (listed.setIfInBounds i true) (L1 ++ L2) (by simpa using hs) hp' (fun j => ?_) (fun y hy e he => ?_) h8 hok2 (by simp at hlen ⊢; omega) hr' (fun τ2 a2 w2 q1 q2 => hfin τ2 a2 w2 (q1.trans h6) q2)
   ·by_cases hj : j = i
    ·subst hj
     simp only [Array.getElem?_setIfInBounds_self_of_lt hil]
     constructor
     ·intro h; exact absurd rfl (hne j h)
     ·rintro ⟨_, h⟩; cases h
    ·rw [Array.getElem?_setIfInBounds_ne (Ne.symm hj), ← hL j]
     simp only [List.mem_append, List.mem_cons]
     constructor
     ·rintro (h | h) <;> simp [h]
     ·rintro (h | h | h)
      ·exact .inl h
      ·exact absurd h hj
      ·exact .inr h
   ·have get : ∀ z, (listed.setIfInBounds i true).getD z false = if z = i then true else listed.getD z false := by
     intro z
     by_cases hz : z = i
     ·subst hz; simp [hil]
     ·simp only [Array.getD_eq_getD_getElem?, Array.getElem?_setIfInBounds_ne (Ne.symm hz), hz, if_false]
    rw [get] at hy ⊢
    split
    ·rfl
    ·by_cases hyi : y = i
     ·subst hyi; exact h3 e he
     ·rw [if_neg hyi] at hy; exact hD y hy e he
theorem zap7 (hK : KitOk K V) {ops : Array Oper} {id : Nat} {σ : St K.u.U} {c : St K.u.U → Option R} {r : R} (hf : zals ops.toList = true)
  (h : (K.ops nt ops.toList (List.range ops.size) σ [] fun σ' rs => if zahj ops.toList rs = true then c σ' else none) = some r) {a : Act} {w : World} (hr : Rel K V B nt σ a w)
  {Q : Exit → Act → World → Prop} (hk : ∀ σ' a' w', c σ' = some r → Rel K V B nt σ' a' w' → Q .normal a' w') : (Code.region id ops true).wp K.P Q a w := by
 rw [zapv] at h
 simp only [Option.bind_eq_some_iff, List.append_nil] at h
 obtain ⟨⟨τ, rs⟩, h1, h2⟩ := h
 simp only at h2
 split at h2
 ·rename_i hp
  have hok := zaj4 rs.reverse [] trivial hp (by simp)
  simp only [List.reverse_reverse, List.append_nil] at hok
  refine wp_region_any hK.mixed (zare hK hf ops.size _ (List.range ops.size) (by simp) List.pairwise_lt_range (fun i => ?_) (fun y hy => ?_) h1 hok (by simp) ?_ (fun τ' a' w' he hr' => hk τ a' w' h2 (hr'.eqv he)))
  ·simp only [List.mem_range]
   constructor
   ·intro h; exact ⟨h, by simp [h]⟩
   ·exact fun h => h.1
  ·exfalso
   by_cases hy' : y < ops.size
   ·simp [hy'] at hy
   ·simp [hy'] at hy
  ·obtain ⟨G, β, q1, q2, q3, q4⟩ := hr
   exact ⟨G, β, q1.drew, q2, q3, q4⟩
 ·cases h2
end
end Lift
namespace Lift
open Go Go.RowKit
inductive Nds where
 | nil
 | op (i : Nat) (l : Nds)
 | join (seg : Nds) (s d : Nat) (l : Nds)
def Nds.flat : Nds → List Nat
 | .nil => []
 | .op i l => i :: l.flat
 | .join s _ _ l => s.flat ++ l.flat
def zact (full : List Oper) (l : List Nat) : List Nat := l.filterMap fun i => (full[i]?).bind (·.dst)
def ndsGo (full : List Oper) : Nat → List Nat → Option Nat → Nat → Nds × Option Nat × Nat
 | 0, _, _, i => (.nil, none, i)
 | n + 1, act, stop, i => match full[i]? with
  | none => (.nil, none, i)
  | some o =>
   let plain := fun (_ : Unit) =>
    let r := ndsGo full n act stop (i + 1)
    (Nds.op i r.1, r.2.1, r.2.2)
   let ends := match o.op, stop with
    | .pick (.tmp s) _ _, some t => Nat.beq s t
    | _, _ => false
   bif ends then (.op i .nil, o.dst, i + 1) else
   match o.guard with
   | none => plain ()
   | some (j, _) => match (full[j]?).bind (·.dst) with
    | none => plain ()
    | some s => bif act.elem s then plain () else
     let r := ndsGo full n (s :: act) (some s) i
     match r.2.1 with
     | none => plain ()
     | some d =>
      let q := ndsGo full n act stop r.2.2
      (.join r.1 s d q.1, q.2.1, q.2.2)
def ndsOf (full : List Oper) : Nds := (ndsGo full (full.length * 3 + 3) [] none 0).1
def jn {α : Type} (x : Option α) : Option α := x
section
variable {U : Nat → Type}
def leafB (n d : Nat) (σ : St U) : Option Bool := bif Nat.beq σ.st.length n then (match look σ.tm d with | some (.t ⟨.bool, x⟩) => some x | _ => none) else none
def over (σ : St U) (ds : List Nat) (d : Nat) (x : Bool) : St U := ⟨(d, .t ⟨.bool, x⟩) :: (ds.map (fun s => (s, PV.junk)) ++ σ.tm), σ.st⟩
end
def zari {U : Nat → Type} : Option (PV U) → Bool
 | some (.tup []) => true
 | _ => false
def St.closed (u : Uni) (σ : St u.U) : St u.U := bif σ.st.any (fun x => x.2.isOpn) then ⟨σ.tm, closeL u (zaru σ.st) σ.st⟩ else σ
section
variable (K : Kit)
def Kit.preC (o : Oper) (σ : St K.u.U) : St K.u.U := bif σ.st.any (fun x => x.2.isOpn) then
  (fun ids => ⟨σ.tm, closeL K.u ((reach σ.st 3 ids).filter fun id => match look σ.st id with
   | some (.opn _ _ _ _ _ cs) => (PV.idsL cs).all fun j => !ids.elem j
   | _ => false) σ.st⟩) (PV.idsL (o.op.operands.toList.filterMap (ev K (look σ.tm))))
 else σ
def Kit.pre (full : List Oper) (i : Nat) (σ : St K.u.U) : St K.u.U := match full[i]? with
 | some o => match o.op with
  | .call cl => match cl.callee with
   | .builtin b => match b with
    | .append => K.preC o σ
    | .copy => K.preC o σ
    | _ => σ
   | _ => K.preC o σ
  | _ => σ
 | none => σ
def Kit.nds (nt : Nat) (full : List Oper) : Nds → ∀ {R : Type}, St K.u.U → (St K.u.U → Option R) → (St K.u.U → Option R) → Option R
 | .nil, _, σ, c, _ => c σ
 | .op i l, _, σ, c, pc => K.opP nt full i (K.pre full i σ) (fun σ' => Kit.nds nt full l σ' c pc) pc
 | .join seg s d l, _, σ, c, pc => bif zari (look σ.tm s) then Kit.nds nt full seg σ (fun σ' => Kit.nds nt full l σ' c pc) pc else bif (zact full seg.flat).elem d && (zact full seg.flat).all (Nat.blt · nt) then
   (jn (Kit.nds nt full seg σ (leafB σ.st.length d) (fun _ => none))).bind fun x => Kit.nds nt full l (over σ (zact full seg.flat) d x) c pc
  else none
end
section
variable {K : Kit} {V : Env} {B : Base} {nt : Nat}
def zabt {U : Nat → Type} (ds : List Nat) (σ σ' : St U) : Prop := (∀ s, s ∉ ds → look σ'.tm s = look σ.tm s) ∧ ∃ l, σ'.st = l ++ σ.st
theorem zabt.refl {U : Nat → Type} {σ : St U} (ds : List Nat) : zabt ds σ σ := ⟨fun _ _ => rfl, [], rfl⟩
theorem zabt.trans {U : Nat → Type} {σ σ' σ'' : St U} {d e : List Nat} (h : zabt d σ σ') (h' : zabt e σ' σ'') : zabt (d ++ e) σ σ'' := by
 obtain ⟨a, l, b⟩ := h
 obtain ⟨a', l', b'⟩ := h'
 refine ⟨fun s hs => ?_, l' ++ l, by rw [b', b, List.append_assoc]⟩
 simp only [List.mem_append, not_or] at hs
 rw [a' s hs.2, a s hs.1]
theorem zaii (full : List Oper) (l m : List Nat) : zact full (l ++ m) = zact full l ++ zact full m := by simp [zact]
theorem zao5 (full : List Oper) (i : Nat) (l : List Nat) : zact full (i :: l) = ((full[i]?).bind (·.dst)).toList ++ zact full l := by
 unfold zact
 rw [List.filterMap_cons]
 cases (full[i]?).bind (·.dst) <;> rfl
theorem Keeps.list {U : Nat → Type} {σ σ' : St U} {d : Option Nat} (h : Keeps d σ σ') : zabt d.toList σ σ' :=
 ⟨fun s hs => h.1 s (fun e => by subst e; exact hs (by simp)), h.2⟩
theorem zahs {U : Nat → Type} {tm : List (Nat × PV U)} {s : Nat} : ∀ {ds : List Nat}, look (ds.map (fun s => (s, PV.junk)) ++ tm) s = if s ∈ ds then some .junk else look tm s
 | [] => by simp
 | d :: ds => by
  rw [List.map_cons, List.cons_append, zaah, zahs (ds := ds)]
  by_cases h : s = d
  ·subst h; simp
  ·simp [h]
theorem zap2 {U : Nat → Type} {n d : Nat} {σ : St U} {x : Bool} (h : leafB n d σ = some x) : σ.st.length = n ∧ look σ.tm d = some (.t ⟨.bool, x⟩) := by
 unfold leafB at h
 cases hb : Nat.beq σ.st.length n with
 | false => rw [hb] at h; cases h
 | true =>
  rw [hb, cond_true] at h
  refine ⟨Nat.eq_of_beq_eq_true hb, ?_⟩
  split at h
  ·rename_i y hy
   cases h
   exact hy
  ·cases h
theorem Rel.over {σ σ' : St K.u.U} {ds : List Nat} {d : Nat} {x : Bool} {a : Act} {w : World} (h : Rel K V B nt σ' a w) (hk : zabt ds σ σ') (hx : leafB σ.st.length d σ' = some x) (hds : ds.all (Nat.blt · nt) = true) : Rel K V B nt (over σ ds d x) a w := by
 obtain ⟨G, β, h1, h2, h3, h4⟩ := h
 obtain ⟨k1, l, k2⟩ := hk
 obtain ⟨e1, e2⟩ := zap2 hx
 have hl : l = [] := by
  have := congrArg List.length k2
  rw [List.length_append, e1] at this
  exact List.eq_nil_of_length_eq_zero (by omega)
 subst hl
 rw [List.nil_append] at k2
 refine ⟨G, β, by show Inv K V B G (look σ.st) β w; rw [← k2]; exact h1, fun s p hs => ?_, h3, h4⟩
 show ∃ v, a.tmps[s]? = some v ∧ PRel K G (look σ.st) β p v
 rw [← k2]
 simp only [Lift.over, zaah, zahs] at hs
 by_cases c1 : s = d
 ·subst c1
  rw [if_pos rfl] at hs
  cases hs
  exact h2 _ _ e2
 ·rw [if_neg c1] at hs
  by_cases c2 : s ∈ ds
  ·rw [if_pos c2] at hs
   cases hs
   have hlt : s < a.tmps.size := by
    rw [h3]
    have := List.all_eq_true.1 hds s c2
    simpa using this
   exact ⟨a.tmps[s], Array.getElem?_eq_getElem hlt, by simp only [PRel]⟩
  ·rw [if_neg c2] at hs
   rw [← k1 s c2] at hs
   exact h2 _ _ hs
theorem zabt.over {U : Nat → Type} {σ : St U} {ds : List Nat} {d : Nat} {x : Bool} (hd : d ∈ ds) : zabt ds σ (over σ ds d x) := by
 refine ⟨fun s hs => ?_, [], rfl⟩
 have : s ≠ d := fun e => by subst e; exact hs hd
 simp only [Lift.over, zaah, zahs, if_neg this, if_neg hs]
theorem zaif : ∀ {ids : List Nat} {st : List (Nat × Ob K.u.U)}, ∃ l, closeL K.u ids st = l ++ st
 | [], st => ⟨[], rfl⟩
 | id :: r, st => by
  unfold closeL
  split
  ·rename_i up h
   obtain ⟨l, e⟩ := zaif (ids := r) (st := up ++ st)
   exact ⟨l ++ up, by rw [e, List.append_assoc]⟩
  ·exact zaif
theorem Rel.closeL {σ : St K.u.U} {a : Act} {w : World} (h : Rel K V B nt σ a w) (ids : List Nat) : Rel K V B nt ⟨σ.tm, Lift.closeL K.u ids σ.st⟩ a w := by
 obtain ⟨G, β, h1, h2, h3, h4⟩ := h
 obtain ⟨β', i1, i2⟩ := zad4 (ids := ids) h1
 exact ⟨G, β', i1, fun s p hs => by obtain ⟨v, v1, v2⟩ := h2 s p hs; exact ⟨v, v1, v2.over i2⟩, h3, h4⟩
theorem Rel.closed {σ : St K.u.U} {a : Act} {w : World} (h : Rel K V B nt σ a w) : Rel K V B nt (σ.closed K.u) a w := by
 unfold St.closed
 cases σ.st.any (fun x => x.2.isOpn) with
 | true => exact h.closeL _
 | false => exact h
theorem zahu {o : Oper} {σ : St K.u.U} {a : Act} {w : World} (h : Rel K V B nt σ a w) : Rel K V B nt (K.preC o σ) a w ∧ zabt [] σ (K.preC o σ) := by
 unfold Kit.preC
 cases σ.st.any (fun x => x.2.isOpn) with
 | true => exact ⟨h.closeL _, fun _ _ => rfl, zaif⟩
 | false => exact ⟨h, zabt.refl _⟩
theorem zarf {full : List Oper} {i : Nat} {σ : St K.u.U} {a : Act} {w : World} (h : Rel K V B nt σ a w) : Rel K V B nt (K.pre full i σ) a w ∧ zabt [] σ (K.pre full i σ) := by
 unfold Kit.pre
 split
 ·split
  ·split
   ·split
    ·exact zahu h
    ·exact zahu h
    ·exact ⟨h, zabt.refl _⟩
   ·exact zahu h
  ·exact ⟨h, zabt.refl _⟩
 ·exact ⟨h, zabt.refl _⟩
theorem zar7 (hK : KitOk K V) {ops : Array Oper} : ∀ (l : Nds) {rest : List Nat} {R : Type} {σ : St K.u.U} {c pc : St K.u.U → Option R} {r : R}, K.nds nt ops.toList l σ c pc = some r → ∀ {a : Act} {w : World}, Rel K V B nt σ a w →
  ∀ {Q : Exit → Act → World → Prop}, (∀ σ' v a' w', pc σ' = some r → RelP K V B nt σ' v a' w' → Q (.panic [{ v := v, recovered := false }]) a' w') → (∀ σ' a' w', c σ' = some r → zabt (zact ops.toList l.flat) σ σ' → Rel K V B nt σ' a' w' → wpOps K.P ops Q rest a' w') → wpOps K.P ops Q (l.flat ++ rest) a w := by
 intro l
 induction l with
 | nil => intro rest R σ c pc r h a w hr Q hp hk; exact hk _ _ _ h (zabt.refl _) hr
 | op i l ih =>
  intro rest R σ c pc r h a w hr Q hp hk
  simp only [Kit.nds] at h
  simp only [Nds.flat, List.cons_append]
  rw [wpOps_cons]
  obtain ⟨p1, p2⟩ := zarf (full := ops.toList) (i := i) hr
  refine zap3 hK h p1 (fun σ' v w' hc hr' => hp σ' v _ w' hc hr') (fun σ' a' w' hc hke hr' => ih hc hr' hp (fun σ'' a'' w'' hc' hke' hr'' => hk _ _ _ hc' ?_ hr''))
  rw [Nds.flat, zao5]
  have : ops.toList[i]? = ops[i]? := by simp
  rw [this]
  have := (p2.trans hke.list).trans hke'
  rwa [List.nil_append] at this
 | join seg s d l ihs ih =>
  intro rest R σ c pc r h a w hr Q hp hk
  simp only [Kit.nds] at h
  cases hsk : zari (look σ.tm s) with
  | true =>
   rw [hsk, cond_true] at h
   simp only [Nds.flat, List.append_assoc]
   refine ihs h hr hp (fun σ' a' w' hc hke hr' => ?_)
   refine ih hc hr' hp (fun σ'' a'' w'' hc' hke' hr'' => hk _ _ _ hc' ?_ hr'')
   rw [Nds.flat, zaii]
   exact hke.trans hke'
  | false =>
  rw [hsk, cond_false] at h
  cases hb : (zact ops.toList seg.flat).elem d && (zact ops.toList seg.flat).all (Nat.blt · nt) with
  | false => rw [hb] at h; cases h
  | true =>
   rw [hb, cond_true] at h
   simp only [Bool.and_eq_true, List.elem_eq_mem, decide_eq_true_eq] at hb
   obtain ⟨hd, hds⟩ := hb
   simp only [Option.bind_eq_some_iff, jn] at h
   obtain ⟨x, hx, h⟩ := h
   simp only [Nds.flat, List.append_assoc]
   refine ihs hx hr (fun _ _ _ _ h => by cases h) (fun σ' a' w' hc hke hr' => ?_)
   refine ih h (hr'.over hke hc hds) hp (fun σ'' a'' w'' hc' hke' hr'' => hk _ _ _ hc' ?_ hr'')
   rw [Nds.flat, zaii]
   exact (zabt.over hd).trans hke'
theorem zaol (hK : KitOk K V) {ops : Array Oper} {l : Nds} (hf : l.flat = List.range ops.size) {R : Type} {σ : St K.u.U} {c pc : St K.u.U → Option R} {r : R} (h : K.nds nt ops.toList l σ c pc = some r) {a : Act} {w : World} (hr : Rel K V B nt σ a w)
  {Q : Exit → Act → World → Prop} (hp : ∀ σ' v a' w', pc σ' = some r → RelP K V B nt σ' v a' w' → Q (.panic [{ v := v, recovered := false }]) a' w') (hk : ∀ σ' a' w', c σ' = some r → Rel K V B nt σ' a' w' → Q .normal a' w') : wpOps K.P ops Q (List.range ops.size) a w := by
 have := zar7 hK l (rest := []) h hr (Q := Q) hp (fun σ' a' w' hc _ hr' => by simp only [wpOps]; exact hk _ _ _ hc hr')
 rwa [List.append_nil, hf] at this
end
end Lift
namespace Lift
open Go Go.RowKit
def Xit.up : Xit → Exit
 | .normal => .normal
 | .exit id => .exit id
 | .ret => .ret
 | .pan => .outgrown
def zacy : Code → Nat
 | .region id _ _ => id
 | .seq a _ => zacy a
 | .cond _ a _ => zacy a
 | .block _ b => zacy b
 | .loop b => zacy b
 | .scope b => zacy b
 | _ => 0
def zatk (nt : Nat) (sh : StSh) : Bool := sh.ann.slots.all fun s => Nat.blt s nt
def Xit.same : Xit → Xit → Bool
 | .normal, .normal => true
 | .exit i, .exit j => Nat.beq i j
 | .ret, .ret => true
 | .pan, .pan => true
 | _, _ => false
def zaap : Nat := 4000000
def zaam {U : Nat → Type} : Loop U := ⟨⟨⟨[], [], []⟩, [], []⟩, [], fun _ => .fail⟩
def zad5 (u : Uni) (sh : StSh) (σ : St u.U) : Option (List (TV u.U)) := match enter u sh (look σ.tm) (look σ.st) with
 | some ls => some ls
 | none => bif σ.st.any (fun x => x.2.isOpn) then enter u sh (look (σ.closed u).tm) (look (σ.closed u).st) else none
def zauk : Nat := 888888
def isUnr {U : Nat → Type} (lp : Loop U) : Bool := match lp.sh.ann.slots with
 | [i] => Nat.beq i zauk
 | _ => false
def zac6 : Code → Bool
 | .seq a b => zac6 a && zac6 b
 | .cond _ a b => zac6 a && zac6 b
 | .block _ b => zac6 b
 | .loop _ => false
 | _ => true
def zam9 {U : Nat → Type} {R : Type} (f : St U → (Xit → St U → Option R) → Option R) : Nat → St U → (Xit → St U → Option R) → Option R
 | 0, _, _ => none
 | n + 1, σ, k => f σ fun e σ' => match e with
  | .normal => zam9 f n σ' k
  | e => k e σ'
section
variable (K : Kit) {R : Type}
noncomputable def Kit.exec (nt : Nat) (L : Nat → Option (Loop K.u.U)) : Code → St K.u.U → (Xit → St K.u.U → Option R) → Option R
 | .skip => fun σ k => k .normal σ
 | .region _ ops draw => fun σ k =>
  if draw = true then
   if zals ops.toList = true then K.ops nt ops.toList (List.range ops.size) σ [] fun σ' rs => if zahj ops.toList rs = true then k .normal σ' else none
   else none
  else bif (L zaap).isSome then (if (ndsOf ops.toList).flat = List.range ops.size then K.nds nt ops.toList (ndsOf ops.toList) σ (fun σ' => k .normal σ') (fun σ' => k .pan σ') else none) else K.ops nt ops.toList (List.range ops.size) σ [] fun σ' _ => k .normal σ'
 | .seq a b => fun σ k => Kit.exec nt L a σ fun e σ' => match e with
  | .normal => Kit.exec nt L b σ' k
  | .exit id => k (.exit id) σ'
  | .ret => k .ret σ'
  | .pan => k .pan σ'
 | .cond c a b => fun σ k => match ev K (look σ.tm) c with
  | some (.t ⟨.bool, t⟩) => bif t then Kit.exec nt L a σ k else Kit.exec nt L b σ k
  | some .ub => both (Kit.exec nt L a σ k) (Kit.exec nt L b σ k)
  | _ => none
 | .block id b => fun σ k => Kit.exec nt L b σ fun e σ' => match e with
  | .normal => k .normal σ'
  | .exit j => if j = id then k .normal σ' else k (.exit j) σ'
  | .ret => k .ret σ'
  | .pan => k .pan σ'
 | .loop b => fun σ k => match L (zacy b) with
  | some lp => bif isUnr lp then (if zac6 b = true then zam9 (Kit.exec nt L b) 8 σ k else none) else if zatk nt lp.sh = true then (zad5 K.u lp.sh σ).bind fun ls => (lp.sum ls).on fun r => (lp.outs[r.1]?).bind fun o => k o.xit (o.sh.fill r.2) else none
  | none => none
 | .exit id => fun σ k => k (.exit id) σ
 | .ret => fun σ k => k .ret σ
 | _ => fun _ _ => none
def outOf (u : Uni) {R : Type} (e : Xit) (σ : St u.U) (out : Nat → List (TV u.U) → Option R) : Nat → List Out → Option R
 | _, [] => none
 | j, o :: r => match Xit.same o.xit e with
  | true => match (if Xit.same e .pan = o.sh.isPanL then zad5 u o.sh σ else none) with
   | some ls => out j ls
   | none => outOf u e σ out (j + 1) r
  | false => outOf u e σ out (j + 1) r
noncomputable def Kit.turn (nt : Nat) (L : Nat → Option (Loop K.u.U)) (sh : StSh) (outs : List Out) (b : Code) (ls : List (TV K.u.U)) (rec : List (TV K.u.U) → Option R) (out : Nat → List (TV K.u.U) → Option R) : Option R :=
 K.exec nt L b (sh.fill ls) fun e σ => match e with
  | .normal => (zad5 K.u sh σ).bind rec
  | e => outOf K.u e σ out 0 outs
variable {K} {V : Env} {B : Base} {nt : Nat}
def Ends (K : Kit) (V : Env) (B : Base) (nt : Nat) : Xit → St K.u.U → (Exit → Act → World → Prop) → Prop
 | .pan, σ, Q => ∀ v a w, RelP K V B nt σ v a w → Q (.panic [{ v := v, recovered := false }]) a w
 | e, σ, Q => ∀ a w, Rel K V B nt σ a w → Q e.up a w
def zan7 (K : Kit) (V : Env) (nt : Nat) (b : Code) (sh : StSh) (outs : List Out) (ls : List (TV K.u.U)) (j : Nat) (rs : List (TV K.u.U)) : Prop :=
 ∀ (B : Base) o, outs[j]? = some o → ∀ a w, Rel K V B nt (sh.fill ls) a w → ∀ Q : Exit → Act → World → Prop, Ends K V B nt o.xit (o.sh.fill rs) Q → Code.wp K.P (.loop b) Q a w
def zaak (K : Kit) (V : Env) (nt : Nat) (b : Code) (lp : Loop K.u.U) : Prop :=
 ∀ ls j rs, (lp.sum ls).val = some (j, rs) → zan7 K V nt b lp.sh lp.outs ls j rs
def zaas : Code → List Code
 | .seq a b => zaas a ++ zaas b
 | .cond _ a b => zaas a ++ zaas b
 | .block _ b => zaas b
 | .loop b => [b]
 | _ => []
def zaau (K : Kit) (V : Env) (nt : Nat) (L : Nat → Option (Loop K.u.U)) (c : Code) : Prop := ∀ b ∈ zaas c, ∀ lp, L (zacy b) = some lp → zaak K V nt b lp
theorem zal1 {sh : StSh} {σ : St K.u.U} {ls : List (TV K.u.U)} (h : enter K.u sh (look σ.tm) (look σ.st) = some ls) {a : Act} {w : World} (hr : Rel K V B nt σ a w) : Rel K V B nt (sh.fill ls) a w := by
 obtain ⟨G, β, h1, h2, h3, h4⟩ := hr
 obtain ⟨G', β', i1, i2⟩ := zaex h h1 (vals := fun s => a.tmps[s]?) h2
 exact ⟨G', β', i1, i2, h3, h4⟩
theorem zafi {sh : StSh} {σ : St K.u.U} {ls : List (TV K.u.U)} (h : zad5 K.u sh σ = some ls) {a : Act} {w : World} (hr : Rel K V B nt σ a w) : Rel K V B nt (sh.fill ls) a w := by
 unfold zad5 at h
 split at h
 ·rename_i ls' he
  cases h
  exact zal1 he hr
 ·cases hb : σ.st.any (fun x => x.2.isOpn) with
  | false => rw [hb] at h; cases h
  | true =>
   rw [hb, cond_true] at h
   exact zal1 h hr.closed
theorem RelP.closed {σ : St K.u.U} {v : Value} {a : Act} {w : World} (h : RelP K V B nt σ v a w) : RelP K V B nt (σ.closed K.u) v a w := by
 unfold St.closed
 cases σ.st.any (fun x => x.2.isOpn) with
 | true =>
  obtain ⟨G, β, h1, ⟨p, hp1, hp2⟩, h2, h3, h4⟩ := h
  obtain ⟨β', i1, i2⟩ := zad4 (ids := zaru σ.st) h1
  exact ⟨G, β', i1, ⟨p, hp1, hp2.over i2⟩, fun s p hs hq => by obtain ⟨v, v1, v2⟩ := h2 s p hs hq; exact ⟨v, v1, v2.over i2⟩, h3, h4⟩
 | false => exact h
theorem zaj1 {sh : StSh} (h : sh.isPan = true) : sh.slots = [zabj] := by
 unfold StSh.isPan at h
 split at h
 ·rename_i i hi
  have := Nat.eq_of_beq_eq_true h
  subst this
  exact hi
 ·cases h
theorem zapx {sh : StSh} (h : sh.isPanL = true) : zabj ∈ sh.slots := by
 unfold StSh.isPanL at h
 simpa [StSh.slots] using h
theorem zai8 {α : Type} : ∀ {l : List (Nat × α)} {i : Nat}, i ∈ l.map (·.1) → ∃ x, look l i = some x
 | [], i, h => by cases h
 | (j, x) :: l, i, h => by
  rw [zaah]
  by_cases e : i = j
  ·exact ⟨x, by simp [e]⟩
  ·obtain ⟨y, hy⟩ := zai8 (l := l) (i := i) (by simpa [e] using h)
   exact ⟨y, by simp [e, hy]⟩
theorem zaky {sh : StSh} {σ : St K.u.U} {ls : List (TV K.u.U)} (h : enter K.u sh (look σ.tm) (look σ.st) = some ls) (hpn : sh.isPanL = true) {v : Value} {a : Act} {w : World} (hr : RelP K V B nt σ v a w) : RelP K V B nt (sh.fill ls) v a w := by
 obtain ⟨G, β, h1, ⟨p, hp1, hp2⟩, h2, h3, h4⟩ := hr
 obtain ⟨G', β', i1, i2⟩ := zaex h h1 (vals := fun s => if s = zabj then some v else a.tmps[s]?) (fun s q hs => by
  by_cases e : s = zabj
  ·subst e
   rw [hp1] at hs
   cases hs
   exact ⟨v, by simp, hp2⟩
  ·obtain ⟨u, u1, u2⟩ := h2 s q e hs
   exact ⟨u, by simp [e, u1], u2⟩)
 have hsl := zag3 h
 refine ⟨G', β', i1, ?_, fun s q hs hq => ?_, h3, h4⟩
 ·obtain ⟨q, hq⟩ := zai8 (l := (sh.fill ls).tm) (i := zabj) (by rw [hsl]; exact zapx hpn)
  obtain ⟨u, u1, u2⟩ := i2 _ _ hq
  simp at u1
  subst u1
  exact ⟨q, hq, u2⟩
 ·obtain ⟨u, u1, u2⟩ := i2 s q hq
  rw [if_neg hs] at u1
  exact ⟨u, u1, u2⟩
theorem zaoz {sh : StSh} {σ : St K.u.U} {ls : List (TV K.u.U)} (h : zad5 K.u sh σ = some ls) (hpn : sh.isPanL = true) {v : Value} {a : Act} {w : World} (hr : RelP K V B nt σ v a w) : RelP K V B nt (sh.fill ls) v a w := by
 unfold zad5 at h
 split at h
 ·rename_i ls' he
  cases h
  exact zaky he hpn hr
 ·cases hb : σ.st.any (fun x => x.2.isOpn) with
  | false => rw [hb] at h; cases h
  | true =>
   rw [hb, cond_true] at h
   exact zaky h hpn hr.closed
def zag9 (P : Program) (c : Code) (Q : Exit → Act → World → Prop) (a : Act) (w : World) : Prop :=
 ∀ (b : Frame) (k : List Item) (cs : List Frame), ∃ e a' w', Q e a' w' ∧ Arrives P (lone (b.at a (.code c :: .inLoop c :: k)) cs w) b k cs e a' w'
theorem zajj {P : Program} {c : Code} {Q : Exit → Act → World → Prop} {a : Act} {w : World} (h : zag9 P c Q a w) : (Code.loop c).wp P Q a w := by
 intro b k cs
 obtain ⟨e, a', w', hq, harr⟩ := h b k cs
 exact ⟨e, a', w', hq, .of_steps (.one step_loop) harr⟩
theorem zal6 {P : Program} {c : Code} {Q : Exit → Act → World → Prop} {a : Act} {w : World} (h : c.wp P (Exit.then (zag9 P c Q) Q) a w) : zag9 P c Q a w := by
 intro b k cs
 obtain ⟨e, a₁, w₁, hq, harr⟩ := h b (.inLoop c :: k) cs
 cases e with
 | normal =>
  obtain ⟨e₂, a₂, w₂, hq₂, harr₂⟩ := hq b k cs
  exact ⟨e₂, a₂, w₂, hq₂, .of_steps (Steps.trans harr (.one step_inLoop)) harr₂⟩
 | exit id => exact ⟨_, a₁, w₁, hq, .pass (x := .inLoop c) rfl (fun _ _ => .inl (by simp)) harr⟩
 | goto l => exact ⟨_, a₁, w₁, hq, .pass (x := .inLoop c) rfl (fun _ _ => .inl (by simp)) harr⟩
 | ret => exact ⟨_, a₁, w₁, hq, .pass (x := .inLoop c) rfl (fun _ _ => .inl (by simp)) harr⟩
 | panic ch => exact ⟨_, a₁, w₁, hq, .pass (x := .inLoop c) rfl (fun _ _ => .inl (by simp)) harr⟩
 | outgrown => exact ⟨_, a₁, w₁, hq, .pass (x := .inLoop c) rfl (fun _ _ => .inl (by simp)) harr⟩
theorem zape {c : Code} : zac6 c = true → zaas c = [] := by
 induction c with
 | seq x y ihx ihy => intro h; simp only [zac6, Bool.and_eq_true] at h; simp [zaas, ihx h.1, ihy h.2]
 | cond _ x y ihx ihy => intro h; simp only [zac6, Bool.and_eq_true] at h; simp [zaas, ihx h.1, ihy h.2]
 | block _ x ih => intro h; simp only [zac6] at h; simp [zaas, ih h]
 | loop _ _ => intro h; cases h
 | _ => intro _; rfl
theorem zakx (hK : KitOk K V) {L : Nat → Option (Loop K.u.U)} : ∀ {code : Code}, zaau K V nt L code → ∀ {σ : St K.u.U} {k : Xit → St K.u.U → Option R} {r : R}, K.exec nt L code σ k = some r → ∀ {a : Act} {w : World}, Rel K V B nt σ a w →
  ∀ {Q : Exit → Act → World → Prop}, (∀ e σ', k e σ' = some r → Ends K V B nt e σ' Q) → code.wp K.P Q a w := by
 intro code
 induction code with
 | skip => intro hL σ k r h a w hr Q hk; exact wp_skip (hk .normal σ h a w hr)
 | region id ops draw =>
  intro hL σ k r h a w hr Q hk
  simp only [Kit.exec] at h
  cases draw with
  | true =>
   simp only [if_true] at h
   split at h
   ·rename_i hf
    exact zap7 hK hf (c := fun σ' => k .normal σ') h hr (fun σ' a' w' h' hr' => hk .normal σ' h' a' w' hr')
   ·cases h
  | false =>
   simp only [Bool.false_eq_true, if_false] at h
   cases hj : (L zaap).isSome with
   | true =>
    rw [hj, cond_true] at h
    split at h
    ·rename_i hf
     exact wp_region (zaol hK hf h hr (fun σ' v a' w' h' hr' => hk .pan σ' h' v a' w' hr') (fun σ' a' w' h' hr' => hk .normal σ' h' a' w' hr'))
    ·cases h
   | false =>
    rw [hj, cond_false] at h
    exact wp_region (zal0 hK h hr (fun σ' _ a' w' h' hr' => hk .normal σ' h' a' w' hr'))
 | seq x y ihx ihy =>
  intro hL σ k r h a w hr Q hk
  simp only [Kit.exec] at h
  refine wp_seq (ihx (fun b hb => hL b (by simp [zaas, hb])) h hr (fun e σ' h' => ?_))
  cases e with
  | normal => exact fun a' w' hr' => ihy (fun b hb => hL b (by simp [zaas, hb])) h' hr' hk
  | exit id => exact fun a' w' hr' => hk (.exit id) σ' h' a' w' hr'
  | ret => exact fun a' w' hr' => hk .ret σ' h' a' w' hr'
  | pan => exact fun v a' w' hr' => hk .pan σ' h' v a' w' hr'
 | cond c x y ihx ihy =>
  intro hL σ k r h a w hr Q hk
  simp only [Kit.exec] at h
  split at h
  ·rename_i t ht
   have hr0 := hr
   obtain ⟨G, β, h1, h2, h3, h4⟩ := hr0
   have he := zaaf h2 ht
   simp only [PRel] at he
   have he := he.bool_inv
   cases t with
   | true => exact wp_cond_true he (ihx (fun b hb => hL b (by simp [zaas, hb])) h hr hk)
   | false => exact wp_cond_false he (ihy (fun b hb => hL b (by simp [zaas, hb])) h hr hk)
  ·rename_i ht
   have hr0 := hr
   obtain ⟨G, β, h1, h2, h3, h4⟩ := hr0
   have he := zaaf h2 ht
   simp only [PRel] at he
   obtain ⟨t, he⟩ := he
   obtain ⟨hx, hy⟩ := zaqx h
   cases t with
   | true => exact wp_cond_true he (ihx (fun b hb => hL b (by simp [zaas, hb])) hx hr hk)
   | false => exact wp_cond_false he (ihy (fun b hb => hL b (by simp [zaas, hb])) hy hr hk)
  ·cases h
 | block id b ih =>
  intro hL σ k r h a w hr Q hk
  simp only [Kit.exec] at h
  refine wp_block (ih (fun b hb => hL b (by simpa [zaas] using hb)) h hr (fun e σ' h' => ?_))
  cases e with
  | normal => exact fun a' w' hr' => hk .normal σ' h' a' w' hr'
  | exit j =>
   intro a' w' hr'
   simp only at h'
   simp only [Xit.up, Exit.inBlock]
   split at h'
   ·rename_i hj
    rw [if_pos hj]
    exact hk .normal σ' h' a' w' hr'
   ·rename_i hj
    rw [if_neg hj]
    exact hk (.exit j) σ' h' a' w' hr'
  | ret => exact fun a' w' hr' => hk .ret σ' h' a' w' hr'
  | pan => exact fun v a' w' hr' => hk .pan σ' h' v a' w' hr'
 | loop b ih =>
  intro hL σ k r h a w hr Q hk
  simp only [Kit.exec] at h
  split at h
  ·rename_i lp hlp
   cases hu : isUnr lp with
   | true =>
    rw [hu, cond_true] at h
    split at h
    ·rename_i hn
     have hLb : zaau K V nt L b := fun x hx => by rw [zape hn] at hx; cases hx
     have key : ∀ n {σ : St K.u.U} {a : Act} {w : World}, zam9 (K.exec nt L b) n σ k = some r → Rel K V B nt σ a w → zag9 K.P b Q a w := by
      intro n
      induction n with
      | zero => intro σ a w h; cases h
      | succ n ihn =>
       intro σ a w h hr
       refine zal6 (ih hLb h hr (fun e σ' h' => ?_))
       cases e with
       | normal => exact fun a' w' hr' => ihn h' hr'
       | exit id => exact fun a' w' hr' => hk (.exit id) σ' h' a' w' hr'
       | ret => exact fun a' w' hr' => hk .ret σ' h' a' w' hr'
       | pan => exact fun v a' w' hr' => hk .pan σ' h' v a' w' hr'
     exact zajj (key 8 h hr)
    ·cases h
   | false =>
   rw [hu, cond_false] at h
   split at h
   ·rename_i hs
    simp only [Tr.on_eq, Option.bind_eq_some_iff] at h
    obtain ⟨ls, h0, ⟨j, rs⟩, h1, o, h2, h3⟩ := h
    exact hL b (by simp [zaas]) lp hlp ls j rs h1 B o h2 a w (zafi h0 hr) Q (hk _ _ h3)
   ·cases h
  ·cases h
 | exit id => intro hL σ k r h a w hr Q hk; exact wp_exit (hk (.exit id) σ h a w hr)
 | ret => intro hL σ k r h a w hr Q hk; exact wp_ret (hk .ret σ h a w hr)
 | _ => intro hL σ k r h; simp [Kit.exec] at h
theorem zak6 {e : Xit} {σ : St K.u.U} {out : Nat → List (TV K.u.U) → Option R} {r : R} : ∀ {os : List Out} {j : Nat}, outOf K.u e σ out j os = some r → ∃ i o ls, os[i]? = some o ∧ o.xit = e ∧ (zad5 K.u o.sh σ = some ls ∧ Xit.same e .pan = o.sh.isPanL) ∧ out (j + i) ls = some r
 | [], j, h => by simp [outOf] at h
 | o :: os, j, h => by
  simp only [outOf] at h
  have go : outOf K.u e σ out (j + 1) os = some r → ∃ i o' ls, (o :: os)[i]? = some o' ∧ o'.xit = e ∧ (zad5 K.u o'.sh σ = some ls ∧ Xit.same e .pan = o'.sh.isPanL) ∧ out (j + i) ls = some r := fun h => by
   obtain ⟨i, o', ls, h1, h2, h4, h5⟩ := zak6 h
   exact ⟨i + 1, o', ls, by simpa using h1, h2, h4, by rw [← h5]; congr 1; omega⟩
  split at h
  ·rename_i hc
   have hx : o.xit = e := by
    cases ho : o.xit <;> cases e <;> simp_all [Xit.same]
   split at h
   ·rename_i ls hl
    split at hl
    ·rename_i hpn
     exact ⟨0, o, ls, by simp, hx, ⟨hl, hpn⟩, h⟩
    ·cases hl
   ·exact go h
  ·exact go h
def zabh (K : Kit) (V : Env) (nt : Nat) (b : Code) (sh : StSh) (outs : List Out) (ls : List (TV K.u.U)) (j : Nat) (rs : List (TV K.u.U)) : Prop :=
 ∀ (B : Base) o, outs[j]? = some o → ∀ a w, Rel K V B nt (sh.fill ls) a w → ∀ Q : Exit → Act → World → Prop, Ends K V B nt o.xit (o.sh.fill rs) Q → zag9 K.P b Q a w
theorem zabh.loop {b : Code} {sh : StSh} {outs : List Out} {ls : List (TV K.u.U)} {j : Nat} {rs : List (TV K.u.U)} (h : zabh K V nt b sh outs ls j rs) : zan7 K V nt b sh outs ls j rs :=
 fun B o ho a w hr Q hQ => zajj (h B o ho a w hr Q hQ)
theorem zaqs (hK : KitOk K V) {L : Nat → Option (Loop K.u.U)} {sh : StSh} {outs : List Out} {b : Code} (hL : zaau K V nt L b) {ls : List (TV K.u.U)} {rec : List (TV K.u.U) → Option R} {out : Nat → List (TV K.u.U) → Option R} {r : R} {j : Nat} {rs : List (TV K.u.U)}
  (h : K.turn nt L sh outs b ls rec out = some r) (hrec : ∀ q, rec q = some r → zabh K V nt b sh outs q j rs) (hout : ∀ i qs, out i qs = some r → i = j ∧ qs = rs) : zabh K V nt b sh outs ls j rs := by
 intro B o ho a w hr Q hQ
 refine zal6 ?_
 unfold Kit.turn at h
 refine zakx hK hL h hr (fun e σ' h' => ?_)
 have done : ∀ e, e ≠ .normal → outOf K.u e σ' out 0 outs = some r → Ends K V B nt e σ' (Exit.then (zag9 K.P b Q) Q) := fun e hne h' => by
  obtain ⟨i, o', ls', h1, h2, ⟨h4, h4'⟩, h5⟩ := zak6 h'
  obtain ⟨rfl, rfl⟩ := hout _ _ h5
  rw [Nat.zero_add] at ho
  rw [ho] at h1
  cases h1
  subst h2
  cases hx : o.xit with
  | normal => exact absurd hx hne
  | exit id => rw [hx] at hQ; exact fun a' w' hr' => hQ a' w' (zafi h4 hr')
  | ret => rw [hx] at hQ; exact fun a' w' hr' => hQ a' w' (zafi h4 hr')
  | pan => rw [hx] at hQ h4'; exact fun v a' w' hr' => hQ v a' w' (zaoz h4 h4'.symm hr')
 cases e with
 | normal =>
  intro a' w' hr'
  simp only [Option.bind_eq_some_iff] at h'
  obtain ⟨q, h1, h2⟩ := h'
  exact hrec q h2 B o ho a' w' (zafi h1 hr') Q hQ
 | exit id => exact done (.exit id) (by simp) h'
 | ret => exact done .ret (by simp) h'
 | pan => exact done .pan (by simp) h'
def zaai (c : Code) (i : Nat) : Code := (zaas c).getD i .skip
variable (K) in
def Kit.finOne (σ : St K.u.U) : ResultVar → Option (PV K.u.U)
 | .tmp s => look σ.tm s
 | .cell s T' => match look σ.tm s with
  | some (.ptr id 0) => match look σ.st id with
   | some (.blk _ cs) => match zac0 K.P T', szT K.P T' with
    | some true, some n => if n = cs.length then some (.agg cs) else none
    | some false, some _ => match cs with
     | [p] => some p
     | _ => none
    | _, _ => none
   | _ => none
  | _ => none
variable (K) in
def Kit.fin (σ : St K.u.U) : List ResultVar → Option (List (PV K.u.U))
 | [] => some []
 | rv :: rvs => (K.finOne σ rv).bind fun c => (Kit.fin σ rvs).bind fun cs => some (c :: cs)
def outFn (u : Uni) {R : Type} (rps : List (PV u.U)) (st : List (Nat × Ob u.U)) (out : Nat → List (TV u.U) → Option R) : Nat → List StSh → Option R
 | _, [] => none
 | j, o :: r => if o.slots = List.range rps.length then (match enter u o (fun i => rps[i]?) (look st) with
  | some ls => out j ls
  | none => outFn u rps st out (j + 1) r) else outFn u rps st out (j + 1) r
def zaf7 (u : Uni) {R : Type} (p : PV u.U) (st : List (Nat × Ob u.U)) (out : Nat → List (TV u.U) → Option R) : Nat → List StSh → Option R
 | _, [] => none
 | j, o :: r => bif o.isPan then (match enter u o (fun i => if i = zabj then some p else none) (look st) with
  | some ls => out j ls
  | none => zaf7 u p st out (j + 1) r) else zaf7 u p st out (j + 1) r
def zaag (fn : Func) : Code := fn.body.getD .skip
variable (K) in
noncomputable def Kit.fnEval (L : Nat → Option (Loop K.u.U)) (fn : Func) (sh : StSh) (outs : List StSh) (ls : List (TV K.u.U)) (out : Nat → List (TV K.u.U) → Option R) : Option R :=
 match fn.body with
 | some c => if (sh.fill ls).tm.map (·.1) = List.range (sh.fill ls).tm.length ∧ (sh.fill ls).tm.length ≤ fn.ntmps then K.exec fn.ntmps L c (sh.fill ls) fun e σ => match e with
   | .normal => (K.fin (σ.closed K.u) fn.results.toList).bind fun rps => outFn K.u rps (σ.closed K.u).st out 0 outs
   | .ret => (K.fin (σ.closed K.u) fn.results.toList).bind fun rps => outFn K.u rps (σ.closed K.u).st out 0 outs
   | .pan => (look (σ.closed K.u).tm zabj).bind fun p => zaf7 K.u p (σ.closed K.u).st out 0 outs
   | .exit _ => none
  else none
 | none => none
def zae9 (tmps : Array Value) : ResultVar → Sem Value
 | .tmp t => pure (tmps.getD t undef)
 | .cell a t => do loadVar t (← asAddr (tmps.getD a undef))
theorem zap6 (fn : Func) (tmps : Array Value) : results fn tmps = (do
  let vs ← fn.results.mapM (zae9 tmps)
  pure (if h : vs.size = 1 then vs[0] else .tuple vs)) := by
 unfold results zae9
 rfl
theorem zand {G : Nat → Option Obj} {β : Nat → Gh} {a : Act} {w : World} {σ : St K.u.U} (hI : Inv K V B G (look σ.st) β w) (ht : TmOk K G (look σ.st) β (look σ.tm) a) {rv : ResultVar} {p : PV K.u.U} (h : K.finOne σ rv = some p) :
  ∃ v, (zae9 a.tmps rv).run K.P w = .ok v w ∧ PRel K G (look σ.st) β p v := by
 cases rv with
 | tmp s =>
  obtain ⟨v, h3, h4⟩ := ht s p h
  exact ⟨v, by simp [zae9, h3], h4⟩
 | cell s T' =>
  simp only [Kit.finOne] at h
  split at h
  ·rename_i id hs
   obtain ⟨u, hu1, hu2⟩ := ht s _ hs
   split at h
   ·rename_i cs hS
    simp only [PRel] at hu2
    obtain ⟨_, ob, h1, h2⟩ := hu2
    rw [hS] at h1
    cases h1
    have hu := h2 rfl
    obtain ⟨b, vs, hb, hh, hps, h1c⟩ := hI.obs id _ hS
    simp [hb, zaa7] at hu
    subst hu
    have hcell : ∀ j v, vs[j]? = some v → w.cell? ⟨b, 0 + j, none⟩ = some v := fun j v hj => by rw [zadp hh]; simpa using hj
    have hl := hps.length
    split at h
    ·rename_i n ha hz
     split at h
     ·rename_i hn
      cases h
      refine ⟨.agg vs.toArray, ?_, by simp only [PRel]; exact ⟨vs, rfl, hps, h1c⟩⟩
      simp only [zae9, hu1, Array.getD_eq_getD_getElem?, Option.getD_some, asAddr, Sem.run_bind, Sem.run_pure, Result.andThen_ok]
      exact zabv ha (by rw [hz, hn, hl]) hcell
     ·cases h
    ·rename_i n ha hz
     split at h
     ·rename_i q
      cases h
      obtain ⟨v, h5, h6⟩ := hps.get 0 (show [p][0]? = some p from rfl)
      refine ⟨v, ?_, h6⟩
      simp only [zae9, hu1, Array.getD_eq_getD_getElem?, Option.getD_some, asAddr, Sem.run_bind, Sem.run_pure, Result.andThen_ok]
      exact zacl ha (hcell 0 v h5)
     ·cases h
    ·cases h
   ·cases h
  ·cases h
theorem zalz {G : Nat → Option Obj} {β : Nat → Gh} {a : Act} {w : World} {σ : St K.u.U} (hI : Inv K V B G (look σ.st) β w) (ht : TmOk K G (look σ.st) β (look σ.tm) a) :
  ∀ {rvs : List ResultVar} {ps : List (PV K.u.U)}, K.fin σ rvs = some ps → ∃ vs, (rvs.mapM (zae9 a.tmps)).run K.P w = .ok vs w ∧ PsRel K G (look σ.st) β ps vs
 | [], ps, h => by simp [Kit.fin] at h; subst h; exact ⟨[], by simp, by simp [PsRel]⟩
 | rv :: rvs, ps, h => by
  simp only [Kit.fin, Option.bind_eq_some_iff] at h
  obtain ⟨c, h1, ds, h2, h3⟩ := h
  cases h3
  obtain ⟨v, i1, i2⟩ := zand hI ht h1
  obtain ⟨vs, j1, j2⟩ := zalz hI ht h2
  exact ⟨v :: vs, by simp [List.mapM_cons, i1, j1], by simp only [PsRel]; exact ⟨v, vs, rfl, i2, j2⟩⟩
theorem zahv {rps : List (PV K.u.U)} {st : List (Nat × Ob K.u.U)} {out : Nat → List (TV K.u.U) → Option R} {r : R} : ∀ {os : List StSh} {j : Nat}, outFn K.u rps st out j os = some r → ∃ i o ls, os[i]? = some o ∧ o.slots = List.range rps.length ∧ enter K.u o (fun i => rps[i]?) (look st) = some ls ∧ out (j + i) ls = some r
 | [], j, h => by simp [outFn] at h
 | o :: os, j, h => by
  simp only [outFn] at h
  split at h
  ·rename_i hs
   split at h
   ·rename_i ls hl
    exact ⟨0, o, ls, by simp, hs, hl, h⟩
   ·obtain ⟨i, o', ls, h1, h2, h4, h5⟩ := zahv h
    exact ⟨i + 1, o', ls, by simpa using h1, h2, h4, by rw [← h5]; congr 1; omega⟩
  ·obtain ⟨i, o', ls, h1, h2, h4, h5⟩ := zahv h
   exact ⟨i + 1, o', ls, by simpa using h1, h2, h4, by rw [← h5]; congr 1; omega⟩
theorem zaju {p : PV K.u.U} {st : List (Nat × Ob K.u.U)} {out : Nat → List (TV K.u.U) → Option R} {r : R} : ∀ {os : List StSh} {j : Nat}, zaf7 K.u p st out j os = some r → ∃ i o ls, os[i]? = some o ∧ o.isPan = true ∧ enter K.u o (fun i => if i = zabj then some p else none) (look st) = some ls ∧ out (j + i) ls = some r
 | [], j, h => by simp [zaf7] at h
 | o :: os, j, h => by
  simp only [zaf7] at h
  have go : zaf7 K.u p st out (j + 1) os = some r → ∃ i o' ls, (o :: os)[i]? = some o' ∧ o'.isPan = true ∧ enter K.u o' (fun i => if i = zabj then some p else none) (look st) = some ls ∧ out (j + i) ls = some r := fun h => by
   obtain ⟨i, o', ls, h1, h2, h4, h5⟩ := zaju h
   exact ⟨i + 1, o', ls, by simpa using h1, h2, h4, by rw [← h5]; congr 1; omega⟩
  cases hpn : o.isPan with
  | true =>
   rw [hpn, cond_true] at h
   split at h
   ·rename_i ls hl
    exact ⟨0, o, ls, by simp, hpn, hl, h⟩
   ·exact go h
  | false => rw [hpn, cond_false] at h; exact go h
theorem zams {G' : Nat → Option Obj} {S' : Nat → Option (Ob K.u.U)} {β : Nat → Gh} {fn : Func} {a : Act} {w : World} {ps : List (PV K.u.U)} {vs : List Value} (h : (fn.results.toList.mapM (zae9 a.tmps)).run K.P w = .ok vs w) (hr : PsRel K G' S' β ps vs) :
  ∃ v, (results fn a.tmps).run K.P w = .ok v w ∧ ResPV K G' S' β ps v := by
 rw [zap6, Array.mapM_eq_mapM_toList]
 simp only [Sem.run_bind, Sem.run_map, h, Result.andThen_ok, Sem.run_pure]
 refine ⟨_, rfl, ?_⟩
 cases ps with
 | nil => simp only [PsRel] at hr; subst hr; exact ⟨[], rfl, by simp [PsRel]⟩
 | cons p ps =>
  have hr0 := hr
  simp only [PsRel] at hr
  obtain ⟨u, rr, rfl, h1, h2⟩ := hr
  cases ps with
  | nil => simp only [PsRel] at h2; subst h2; exact h1
  | cons q ps =>
   have h3 := h2
   simp only [PsRel] at h2
   obtain ⟨u2, r2, rfl, _, _⟩ := h2
   exact ⟨_, rfl, hr0⟩
theorem Inv.ds {G : Nat → Option Obj} {S : Nat → Option (Ob K.u.U)} {β : Nat → Gh} {w : World} (h : Inv K V B G S β w) (d : List Deferred) : Inv K V { B with ds := d } G S β w :=
 ⟨h.gok, h.obs, h.own, h.inj, h.os, h.tape, h.output, h.size, h.low, h.gl, h.env, h.n0, h.hh, h.pin⟩
theorem zas7 (hK : KitOk K V) {L : Nat → Option (Loop K.u.U)} {f : FuncId} {fn : Func} (hf : K.P.funcs[f]? = some fn) (hL : zaau K V fn.ntmps L (zaag fn)) {sh : StSh} {outs : List StSh} {ls : List (TV K.u.U)} {out : Nat → List (TV K.u.U) → Option R} {r : R} {j : Nat} {rs : List (TV K.u.U)}
  (h : K.fnEval L fn sh outs ls out = some r) (hout : ∀ i qs, out i qs = some r → i = j ∧ qs = rs) : zabe K V f sh outs ls j rs := by
 intro B G β w args o ho hw0 hI hargs
 have hI := hI.ds []
 unfold Kit.fnEval at h
 split at h
 ·rename_i c hb
  split at h
  ·rename_i hlen
   obtain ⟨hsl, hlen⟩ := hlen
   have hL' : zaau K V fn.ntmps L c := by rw [zaag, hb] at hL; exact hL
   refine calls_of_wp hf hb ?_
   have hal : args.length = (sh.fill ls).tm.length := by rw [← hargs.length, List.length_map]
   have hT : TmOk K G (look (sh.fill ls).st) β (look (sh.fill ls).tm) { tmps := args.toArray ++ Array.replicate (fn.ntmps - args.toArray.size) undef, defers := [] } := by
    intro s p hs
    have hm := zaa3 hs
    have hs2 : s < (sh.fill ls).tm.length := by
     have : s ∈ (sh.fill ls).tm.map (·.1) := List.mem_map_of_mem (f := Prod.fst) hm
     rw [hsl] at this
     simpa using this
    have hget : ((sh.fill ls).tm.map (·.2))[s]? = some p := by
     obtain ⟨q, hq⟩ : ∃ q, ((sh.fill ls).tm.map (·.2))[s]? = some q := ⟨_, List.getElem?_eq_getElem (by simpa using hs2)⟩
     have := zafj (k := 0) (l := (sh.fill ls).tm) (by rw [hsl, List.range_eq_range']) hq
     rw [Nat.zero_add, hs] at this
     cases this
     exact hq
    obtain ⟨v, h2, h3⟩ := hargs.get s hget
    refine ⟨v, ?_, h3⟩
    have hlt : s < args.length := by omega
    simp only [Array.getElem?_append, List.size_toArray, hlt, if_true]
    simpa using h2
   have hrel : Rel K V { B with ds := [] } fn.ntmps (sh.fill ls) { tmps := args.toArray ++ Array.replicate (fn.ntmps - args.toArray.size) undef, defers := [] } w :=
    ⟨G, _, hI, hT, by simp; omega, rfl⟩
   have fin : ∀ (σ' : St K.u.U) (a' : Act) (w' : World), ((K.fin σ' fn.results.toList).bind fun rps => outFn K.u rps σ'.st out 0 outs) = some r → Rel K V { B with ds := [] } fn.ntmps σ' a' w' →
     a'.defers = [] ∧ ∃ v, (results fn a'.tmps).run K.P w' = .ok v w' ∧ ∃ G' β' v', Ending.returned v = endOf o v' ∧ Inv K V B G' (look (o.fill rs).st) β' w' ∧ ResPV K G' (look (o.fill rs).st) β' ((o.fill rs).tm.map (·.2)) v' := by
    intro σ' a' w' h' ⟨G2, β2, h1, h2, h3, h4⟩
    refine ⟨h4, ?_⟩
    simp only [Option.bind_eq_some_iff] at h'
    obtain ⟨rps, h5, h6⟩ := h'
    obtain ⟨i, o', ls', i1, i2, i3, i4⟩ := zahv h6
    obtain ⟨e1, rfl⟩ := hout _ _ i4
    rw [Nat.zero_add] at e1
    subst e1
    rw [ho] at i1
    cases i1
    obtain ⟨vs, j1, j2⟩ := zalz h1 h2 h5
    obtain ⟨G3, β3, k1, k2⟩ := zaex i3 h1 (vals := fun s => vs[s]?) (fun s p hs => by
     obtain ⟨v, v1, v2⟩ := j2.get s hs
     exact ⟨v, v1, v2⟩)
    have hps : PsRel K G3 (look (o.fill ls').st) β3 ((o.fill ls').tm.map (·.2)) vs := by
     have hsl2 : (o.fill ls').tm.map (·.1) = List.range vs.length := by
      have := zag3 i3
      rw [this, i2, j2.length]
     have hln : (o.fill ls').tm.length = vs.length := by
      have := congrArg List.length hsl2
      simpa using this
     refine PsRel.of_get (by simpa using hln) (fun i p hp => ?_)
     have := zafj (k := 0) (l := (o.fill ls').tm) (by rw [hsl2, hln, List.range_eq_range']) hp
     rw [Nat.zero_add] at this
     exact k2 i p this
    obtain ⟨v, q1, q2⟩ := zams (fn := fn) j1 hps
    have hnp : o.isPan = false := by
     cases hpn : o.isPan with
     | false => rfl
     | true =>
      have := zaj1 hpn
      rw [i2] at this
      have hl := congrArg List.length this
      simp only [List.length_range, List.length_singleton] at hl
      rw [hl] at this
      simp [zabj, List.range_succ] at this
    exact ⟨v, q1, G3, β3, v, (zagi hnp v).symm, k1.ds _, q2⟩
   refine zakx hK hL' h hrel (fun e σ' h' => ?_)
   cases e with
   | normal => exact fun a' w' hr' => fin _ a' w' h' hr'.closed
   | ret => exact fun a' w' hr' => fin _ a' w' h' hr'.closed
   | exit id => cases h'
   | pan =>
    intro v a' w' hr'
    have hr' := hr'.closed
    simp only [Option.bind_eq_some_iff] at h'
    obtain ⟨p0, hp0, h'⟩ := h'
    obtain ⟨G2, β2, h1, ⟨p, hp1, hp2⟩, h2, h3, h4⟩ := hr'
    rw [hp0] at hp1
    cases hp1
    refine ⟨h4, ?_⟩
    obtain ⟨i, o', ls', i1, i2, i3, i4⟩ := zaju h'
    obtain ⟨e1, rfl⟩ := hout _ _ i4
    rw [Nat.zero_add] at e1
    subst e1
    rw [ho] at i1
    cases i1
    obtain ⟨G3, β3, k1, k2⟩ := zaex i3 h1 (vals := fun s => if s = zabj then some v else none) (fun s q hs => by
     by_cases e : s = zabj
     ·rw [if_pos e] at hs
      cases hs
      exact ⟨v, by simp [e], hp2⟩
     ·rw [if_neg e] at hs; cases hs)
    refine ⟨G3, β3, v, (zaly i2 v).symm, k1.ds _, ?_⟩
    have hsl := zag3 i3
    rw [zaj1 i2] at hsl
    cases htm : (o.fill ls').tm with
    | nil => rw [htm] at hsl; cases hsl
    | cons x r =>
     obtain ⟨j, q⟩ := x
     rw [htm] at hsl
     simp only [List.map_cons, List.cons.injEq, List.map_eq_nil_iff] at hsl
     obtain ⟨rfl, rfl⟩ := hsl
     obtain ⟨u, u1, u2⟩ := k2 zabj q (by rw [htm, zaah]; simp)
     simp at u1
     subst u1
     exact u2
  ·cases h
 ·cases h
end
end Lift
namespace Lift
open Go Go.RowKit
section
variable {U : Nat → Type}
def zacz : TV U → TV U → Bool
 | ⟨.int _, a⟩, ⟨.int _, b⟩ => a == b
 | ⟨.bool, a⟩, ⟨.bool, b⟩ => a == b
 | ⟨.str, a⟩, ⟨.str, b⟩ => a == b
 | _, _ => false
def zabp : List (TV U) → List (TV U) → Bool
 | c :: cs, d :: ds => bif zacz c d then zabp cs ds else false
 | _, _ => true
end
def zado (P : Program) : List Field → List Ty → Nat → Bool
 | [], [], _ => true
 | f :: fs, t :: ts, i => (f.name != "_") && (Nat.beq f.offset i && ((match P.underlying f.type, t with
   | some (.int k), .int k' => decide (k = k')
   | some .bool, .bool => true
   | some .string, .str => true
   | _, _ => false) && zado P fs ts (i + 1)))
 | _, _, _ => false
def zafh (P : Program) (T : TypeId) (ts : List Ty) : Bool := match P.underlying T with
 | some (.struct fs) => zado P fs.toList ts 0 && (!P.stoodInHeld T && !P.eqGuardType P.depth T)
 | _ => false
section
variable {u : Uni} {G : Nat → Option Obj} {P : Program}
theorem zanr {T : TypeId} {xs : Array Value} {i : Nat} {v : Value} {w : World} (ha : zac0 P T = some false) (h : xs[i]? = some v) : (part T xs i).run P w = .ok v w := by
 simp [part, Sem.run_bind, zah4 ha, h]
theorem zaih {xs ys : Array Value} {d : Nat} : ∀ {fs : List Field} {ts : List Ty} {i : Nat}, zado P fs ts i = true → ∀ {cs ds : List (TV u.U)}, TsRel u G cs (xs.toList.drop i) → TsRel u G ds (ys.toList.drop i) →
  cs.map TV.t = ts → ds.map TV.t = ts → ∀ w, (Op.eqFields (d + 1) xs ys fs).run P w = .ok (zabp cs ds) w
 | [], [], i, h, cs, ds, hc, hd, ec, ed, w => by
  have e1 : cs = [] := by simpa using ec
  have e2 : ds = [] := by simpa using ed
  subst e1; subst e2
  simp [Op.eqFields, zabp]
 | f :: fs, t :: ts, i, h, cs, ds, hc, hd, ec, ed, w => by
  simp only [zado, Bool.and_eq_true] at h
  obtain ⟨hn, ho, hu, hr⟩ := h
  have ho := Nat.eq_of_beq_eq_true ho
  cases cs with
  | nil => simp at ec
  | cons c cs =>
  cases ds with
  | nil => simp at ed
  | cons e ds =>
  simp only [List.map_cons, List.cons.injEq] at ec ed
  obtain ⟨ec, ec'⟩ := ec
  obtain ⟨ed, ed'⟩ := ed
  have key : ∀ (zs : Array Value) (c : TV u.U) (cs : List (TV u.U)), TsRel u G (c :: cs) (zs.toList.drop i) → ∃ v, zs[i]? = some v ∧ TRel u G c v ∧ TsRel u G cs (zs.toList.drop (i + 1)) := by
   intro zs c cs h
   generalize hl : zs.toList.drop i = l at h
   cases h with
   | cons _ _ v vs h1 h2 =>
    refine ⟨v, ?_, h1, ?_⟩
    ·have := congrArg (fun l => l[0]?) hl
     simpa [List.getElem?_drop] using this
    ·have := congrArg List.tail hl
     simp at this
     rw [this]; exact h2
  obtain ⟨v1, g1, r1, t1⟩ := key xs c cs hc
  obtain ⟨v2, g2, r2, t2⟩ := key ys e ds hd
  have ih := fun w => zaih (d := d) hr t1 t2 ec' ed' w
  have hn' : f.name ≠ "_" := by simpa using hn
  have hagg : zac0 P f.type = some false := by
   unfold zac0
   split at hu <;> simp_all
  have step : ∀ b, (Op.equalIn (d + 1) f.type v1 v2).run P w = .ok b w → b = zacz c e → (Op.eqFields (d + 1) xs ys (f :: fs)).run P w = .ok (zabp (c :: cs) (e :: ds)) w := by
   intro b h1 h2
   simp only [Op.eqFields, if_pos hn', Sem.run_bind, ho, zanr hagg g1, zanr hagg g2, Result.andThen_ok, h1]
   cases b with
   | true => simp [zabp, ← h2, ih]
   | false => simp [zabp, ← h2]
  obtain ⟨tc, xc⟩ := c
  obtain ⟨te, xe⟩ := e
  simp only at ec ed
  subst ec
  split at hu
  ·rename_i k k' hk
   subst ed
   rw [r1.int_inv, r2.int_inv] at step
   exact step _ (run_equalIn_int w d f.type _ _ _ _ hk) rfl
  ·rename_i hk
   subst ed
   rw [r1.bool_inv, r2.bool_inv] at step
   exact step _ (run_equalIn_bool w d f.type _ _ hk) rfl
  ·rename_i hk
   subst ed
   rw [r1.str_inv, r2.str_inv] at step
   refine step _ (run_equalIn_string w d f.type _ _ hk) ?_
   simp [zacz, zah3]
  ·cases hu
 | [], _ :: _, i, h, cs, ds, hc, hd, ec, ed, w => by simp [zado] at h
 | _ :: _, [], i, h, cs, ds, hc, hd, ec, ed, w => by simp [zado] at h
theorem zatg {T : TypeId} {ts : List Ty} (h : zafh P T ts = true) {cs ds : List (TV u.U)} {va vb : List Value} (hc : TsRel u G cs va) (hd : TsRel u G ds vb) (ec : cs.map TV.t = ts) (ed : ds.map TV.t = ts) (w : World) (x y : Operand) :
  (do eqGuard .eql T x y (.agg va.toArray) (.agg vb.toArray); binOp .eql T (.agg va.toArray) (.agg vb.toArray)).run P w = .ok (.bool (zabp cs ds)) w ∧
  (do eqGuard .neq T x y (.agg va.toArray) (.agg vb.toArray); binOp .neq T (.agg va.toArray) (.agg vb.toArray)).run P w = .ok (.bool (!(zabp cs ds))) w := by
 unfold zafh at h
 split at h
 ·rename_i fs hu
  simp only [Bool.and_eq_true, Bool.not_eq_true'] at h
  obtain ⟨h1, h2, h3⟩ := h
  have ht : P.underlying T = some (.struct (P.fieldsOf T)) := by simp [Program.fieldsOf, hu]
  have hf : (P.fieldsOf T).toList = fs.toList := by simp [Program.fieldsOf, hu]
  have he : (Op.equalIn 10000 T (.agg va.toArray) (.agg vb.toArray)).run P w = .ok (zabp cs ds) w := by
   rw [show (10000 : Nat) = 9998 + 1 + 1 from rfl, run_equalIn_struct w _ T _ _ ht h2, hf]
   exact zaih h1 (by simpa using hc) (by simpa using hd) ec ed w
  constructor
  ·simp only [Sem.run_bind, run_eqGuard_agg w .eql T x y _ _ h3, Result.andThen_ok, run_eql_struct, he]
  ·simp only [Sem.run_bind, run_eqGuard_agg w .neq T x y _ _ h3, Result.andThen_ok, run_neq_struct, he]
 ·cases h
theorem zasf {K : Kit} (h : ∀ T n f, K.eqOf T n = some f → zafh K.P T (K.u.ctys n) = true ∧ ∀ a b, f a b = zabp (K.u.cells n a) (K.u.cells n b)) : EqOk K := by
 refine ⟨fun T n f hf G a b va vb ha hb w x y => ?_⟩
 obtain ⟨h1, h2⟩ := h T n f hf
 rw [h2]
 exact zatg h1 ha hb (K.u.tys_ok n a) (K.u.tys_ok n b) w x y
end
section
variable {K : Kit}
@[reducible] def Kit.withModes (K : Kit) (ms : FuncId → List (Mode K.u.U)) : Kit := { K with modes := ms }
section
variable {ms : FuncId → List (Mode K.u.U)}
mutual
theorem PRel.modes {G : Nat → Option Obj} {S : Nat → Option (Ob K.u.U)} {β : Nat → Gh} : ∀ (p : PV K.u.U) {v : Value}, PRel (K.withModes ms) G S β p v ↔ PRel K G S β p v
 | .t c, v => by simp only [PRel]
 | .junk, v => by simp only [PRel]
 | .k c, v => by simp only [PRel]
 | .ub, v => by simp only [PRel]
 | .ptr id off, v => by simp only [PRel]
 | .selfp id, v => by simp only [PRel]
 | .bslc id n, v => by simp only [PRel]
 | .oslc id ver, v => by simp only [PRel]
 | .eptr id ver i off, v => by simp only [PRel]
 | .rptr c off, v => by simp only [PRel]
 | .agg l, v => by simp only [PRel]; exact exists_congr fun vs => and_congr_right fun _ => and_congr_left fun _ => PsRel.modes l
 | .tup l, v => by simp only [PRel]; exact exists_congr fun vs => and_congr_right fun _ => PsRel.modes l
 | .clo f l, v => by simp only [PRel]; exact exists_congr fun vs => and_congr_right fun _ => PsRel.modes l
 | .ifc T p, v => by simp only [PRel]; exact exists_congr fun x => and_congr_right fun _ => PRel.modes p
theorem PsRel.modes {G : Nat → Option Obj} {S : Nat → Option (Ob K.u.U)} {β : Nat → Gh} : ∀ (l : List (PV K.u.U)) {vs : List Value}, PsRel (K.withModes ms) G S β l vs ↔ PsRel K G S β l vs
 | [], vs => by simp only [PsRel]
 | p :: l, vs => by simp only [PsRel]; exact exists_congr fun u => exists_congr fun r => and_congr_right fun _ => and_congr (PRel.modes p) (PsRel.modes l)
end
theorem ObRel.modes {G : Nat → Option Obj} {S : Nat → Option (Ob K.u.U)} {β : Nat → Gh} {w : World} {i : Nat} : ∀ (ob : Ob K.u.U), ObRel (K.withModes ms) G S β w i ob ↔ ObRel K G S β w i ob
 | .blk bT cs => by simp only [ObRel]; exact exists_congr fun b => exists_congr fun vs => and_congr_right fun _ => and_congr_right fun _ => and_congr_left fun _ => PsRel.modes cs
 | .row T v e l => Iff.rfl
 | .frz v e l => Iff.rfl
 | .sit s p => Iff.rfl
 | .mp _ _ _ => Iff.rfl
 | .fmp _ _ _ => Iff.rfl
 | .opn T v e l j cs => ⟨fun ⟨vals, cvs, F1, F3, a1, a2, a3, a4, a5, a6, a7, a8, a9, a10, a11, a12⟩ => ⟨vals, cvs, F1, F3, a1, a2, a3, a4, a5, a6, a7, a8, (PsRel.modes cs).1 a9, a10, a11, a12⟩,
   fun ⟨vals, cvs, F1, F3, a1, a2, a3, a4, a5, a6, a7, a8, a9, a10, a11, a12⟩ => ⟨vals, cvs, F1, F3, a1, a2, a3, a4, a5, a6, a7, a8, (PsRel.modes (K := K) cs).2 a9, a10, a11, a12⟩⟩
 | .dead => Iff.rfl
theorem Inv.modes {V : Env} {B : Base} {G : Nat → Option Obj} {S : Nat → Option (Ob K.u.U)} {β : Nat → Gh} {w : World} : Inv (K.withModes ms) V B G S β w ↔ Inv K V B G S β w :=
  ⟨fun h => ⟨h.gok, fun id ob hi => (ObRel.modes ob).1 (h.obs id ob hi), h.own, h.inj, h.os, h.tape, h.output, h.size, h.low, h.gl, h.env, h.n0, h.hh, h.pin⟩,
   fun h => ⟨h.gok, fun id ob hi => (ObRel.modes (K := K) ob).2 (h.obs id ob hi), h.own, h.inj, h.os, h.tape, h.output, h.size, h.low, h.gl, h.env, h.n0, h.hh, h.pin⟩⟩
theorem ResPV.modes {G : Nat → Option Obj} {S : Nat → Option (Ob K.u.U)} {β : Nat → Gh} {l : List (PV K.u.U)} {v : Value} : ResPV (K.withModes ms) G S β l v ↔ ResPV K G S β l v := by
 cases l with
 | nil => simp only [ResPV]; exact exists_congr fun vs => and_congr_right fun _ => PsRel.modes _
 | cons p l => cases l with
  | nil => simp only [ResPV]; exact PRel.modes p
  | cons q l => simp only [ResPV]; exact exists_congr fun vs => and_congr_right fun _ => PsRel.modes _
theorem zabe.modes {V : Env} {f : FuncId} {sh : StSh} {outs : List StSh} {ls : List (TV K.u.U)} {j : Nat} {rs : List (TV K.u.U)} : zabe (K.withModes ms) V f sh outs ls j rs ↔ zabe K V f sh outs ls j rs := by
 constructor
 ·intro h B G β w args o h1 h2 h3 h4
  exact (h B G β w args o h1 h2 (Inv.modes.2 h3) ((PsRel.modes _).2 h4)).mono fun e w' ⟨G', β', v, a, b, c⟩ => ⟨G', β', v, a, Inv.modes.1 b, ResPV.modes.1 c⟩
 ·intro h B G β w args o h1 h2 h3 h4
  exact (h B G β w args o h1 h2 (Inv.modes.1 h3) ((PsRel.modes _).1 h4)).mono fun e w' ⟨G', β', v, a, b, c⟩ => ⟨G', β', v, a, Inv.modes.2 b, ResPV.modes.2 c⟩
theorem Rel.modes {V : Env} {B : Base} {nt : Nat} {σ : St K.u.U} {a : Act} {w : World} : Rel (K.withModes ms) V B nt σ a w ↔ Rel K V B nt σ a w := by
 constructor
 ·rintro ⟨G, β, h1, h2, h3, h4⟩
  exact ⟨G, β, Inv.modes.1 h1, fun s p hs => by obtain ⟨v, a, b⟩ := h2 s p hs; exact ⟨v, a, (PRel.modes p).1 b⟩, h3, h4⟩
 ·rintro ⟨G, β, h1, h2, h3, h4⟩
  exact ⟨G, β, Inv.modes.2 h1, fun s p hs => by obtain ⟨v, a, b⟩ := h2 s p hs; exact ⟨v, a, (PRel.modes (K := K) p).2 b⟩, h3, h4⟩
theorem RelP.modes {V : Env} {B : Base} {nt : Nat} {σ : St K.u.U} {v : Value} {a : Act} {w : World} : RelP (K.withModes ms) V B nt σ v a w ↔ RelP K V B nt σ v a w := by
 constructor
 ·rintro ⟨G, β, h1, ⟨q, q1, q2⟩, h2, h3, h4⟩
  exact ⟨G, β, Inv.modes.1 h1, ⟨q, q1, (PRel.modes (K := K) (ms := ms) q).1 q2⟩, fun s p hn hs => by obtain ⟨v, a, b⟩ := h2 s p hn hs; exact ⟨v, a, (PRel.modes p).1 b⟩, h3, h4⟩
 ·rintro ⟨G, β, h1, ⟨q, q1, q2⟩, h2, h3, h4⟩
  exact ⟨G, β, Inv.modes.2 h1, ⟨q, q1, (PRel.modes (K := K) q).2 q2⟩, fun s p hn hs => by obtain ⟨v, a, b⟩ := h2 s p hn hs; exact ⟨v, a, (PRel.modes (K := K) p).2 b⟩, h3, h4⟩
theorem Ends.modes {V : Env} {B : Base} {nt : Nat} {e : Xit} {σ : St K.u.U} {Q : Exit → Act → World → Prop} : Ends (K.withModes ms) V B nt e σ Q ↔ Ends K V B nt e σ Q := by
 cases e with
 | pan => exact forall_congr' fun v => forall_congr' fun a => forall_congr' fun w => ⟨fun h hr => h (RelP.modes.2 hr), fun h hr => h (RelP.modes.1 hr)⟩
 | _ => exact forall_congr' fun a => forall_congr' fun w => ⟨fun h hr => h (Rel.modes.2 hr), fun h hr => h (Rel.modes.1 hr)⟩
theorem zabh.modes {V : Env} {nt : Nat} {b : Code} {sh : StSh} {outs : List Out} {ls : List (TV K.u.U)} {j : Nat} {rs : List (TV K.u.U)} : zabh (K.withModes ms) V nt b sh outs ls j rs ↔ zabh K V nt b sh outs ls j rs := by
 constructor
 ·intro h B o ho a w hr Q hQ
  exact h B o ho a w (Rel.modes.2 hr) Q (Ends.modes.2 hQ)
 ·intro h B o ho a w hr Q hQ
  exact h B o ho a w (Rel.modes.1 hr) Q (Ends.modes.1 hQ)
def Known (K : Kit) (V : Env) (ms : FuncId → List (Mode K.u.U)) : Prop := ∀ f m, m ∈ ms f → zabf K.P f = true ∧ ∀ ls j rs, (m.sum ls).val = some (j, rs) → zabe K V f m.sh m.outs ls j rs
theorem zaac {V : Env} (hE : EqOk K) (hmix : K.P.follows .mixedOrders = true) (h : Known K V ms) : KitOk (K.withModes ms) V :=
 ⟨⟨hE.eq⟩, fun f m hm => ⟨(h f m hm).1, fun ls j rs hv => zabe.modes.2 ((h f m hm).2 ls j rs hv)⟩, hmix⟩
theorem zaak.of_round {V : Env} {nt : Nat} {b : Code} {lp : Loop K.u.U} (h : ∀ ls j rs, (lp.sum ls).val = some (j, rs) → zabh K V nt b lp.sh lp.outs ls j rs) : zaak (K.withModes ms) V nt b lp :=
 fun ls j rs hv => (zabh.modes.2 (h ls j rs hv)).loop
def zaae {U : Nat → Type} : List (FuncId × Mode U) → FuncId → List (Mode U)
 | [], _ => []
 | (g, m) :: r, f => bif Nat.beq g f then m :: zaae r f else zaae r f
theorem known_nil {V : Env} : Known K V (zaae []) := fun f m hm => by cases hm
theorem known_cons {V : Env} {l : List (FuncId × Mode K.u.U)} {g : FuncId} {m : Mode K.u.U} (hc : zabf K.P g = true) (hm : ∀ ls j rs, (m.sum ls).val = some (j, rs) → zabe K V g m.sh m.outs ls j rs) (h : Known K V (zaae l)) : Known K V (zaae ((g, m) :: l)) := by
 intro f m' hm'
 simp only [zaae] at hm'
 cases hb : Nat.beq g f with
 | true =>
  rw [hb] at hm'
  cases Nat.eq_of_beq_eq_true hb
  simp only [cond_true, List.mem_cons] at hm'
  rcases hm' with rfl | hm'
  ·exact ⟨hc, hm⟩
  ·exact h _ _ hm'
 | false => rw [hb] at hm'; exact h _ _ hm'
end
end
end Lift
namespace Lift
open Go Go.RowKit
noncomputable def sealF {α : Type} (a : α) : α := Classical.choose (⟨a, rfl⟩ : ∃ x : α, x = a)
theorem zaaa {α : Type} (a : α) : sealF a = a := Classical.choose_spec (⟨a, rfl⟩ : ∃ x : α, x = a)
theorem Tr.get_val {α β : Type} {o : Option β} {k : β → Tr α} {y : α} (h : (Tr.get o k).val = some y) : ∃ b, o = some b ∧ (k b).val = some y := by
 cases o with
 | none => cases h
 | some b => exact ⟨b, rfl, h⟩
def fuel : Nat := 1180591620717411303424
section
variable {K : Kit} {V : Env} {nt : Nat} {L : Nat → Option (Loop K.u.U)} {c : Code}
def AllOk (K : Kit) (V : Env) (nt : Nat) (L : Nat → Option (Loop K.u.U)) : List Code → Prop
 | [] => True
 | b :: r => (L (zacy b) = none ∨ ∃ lp, L (zacy b) = some lp ∧ zaak K V nt b lp) ∧ AllOk K V nt L r
theorem zaab {bs : List Code} (h : zaas c = bs) (hh : AllOk K V nt L bs) : zaau K V nt L c := by
 intro b hb lp hlp
 rw [h] at hb
 clear h
 induction bs with
 | nil => cases hb
 | cons x r ih =>
  obtain ⟨h1, h2⟩ := hh
  cases hb with
  | head =>
   rcases h1 with h1 | ⟨lp', h1, h3⟩
   ·rw [h1] at hlp; cases hlp
   ·rw [h1] at hlp; cases hlp; exact h3
  | tail _ hb => exact ih h2 hb
end
end Lift
namespace Lift
open Go Go.RowKit
variable {K : Kit} {V : Env} {ms : FuncId → List (Mode K.u.U)} {T : Type}
def LoopR (K : Kit) (V : Env) (nt : Nat) (b : Code) (lp : Loop K.u.U) : Prop := ∀ ls j rs, (lp.sum ls).val = some (j, rs) → zabh K V nt b lp.sh lp.outs ls j rs
theorem fn_of {f : FuncId} {fn : Func} {L : Nat → Option (Loop K.u.U)} {sh : StSh} {os : List StSh} {tr : T → Tr (Nat × List (TV K.u.U))} (enc : Nat → List (TV K.u.U) → Option T) (dec : T → Nat × List (TV K.u.U))
  (hk : KitOk (K.withModes ms) V) (hf : K.P.funcs[f]? = some fn) (inner : zaau (K.withModes ms) V fn.ntmps L (zaag fn)) {F : List (TV K.u.U) → Option T}
  (htr : ∀ r, (tr r).val = some (dec r)) (henc : ∀ i qs r, enc i qs = some r → dec r = (i, qs)) (hE : ∀ ls r, F ls = some r → (K.withModes ms).fnEval L fn sh os ls enc = some r) :
  ∀ ls j rs, (Tr.get (F ls) tr).val = some (j, rs) → zabe K V f sh os ls j rs := by
 intro ls j rs h
 obtain ⟨r, hr, h⟩ := Tr.get_val h
 rw [htr r] at h
 have hd := Option.some.inj h
 refine zabe.modes.1 (zas7 hk hf inner (hE ls r hr) fun i qs he => ?_)
 have := (henc i qs r he).symm.trans hd
 cases this
 exact ⟨rfl, rfl⟩
theorem zaaj {nt : Nat} {b : Code} {L : Nat → Option (Loop K.u.U)} {sh : StSh} {os : List Out} {tr : T → Tr (Nat × List (TV K.u.U))} (enc : Nat → List (TV K.u.U) → Option T) (dec : T → Nat × List (TV K.u.U))
  (R : Nat → List (TV K.u.U) → Option T) (hk : KitOk (K.withModes ms) V) (inner : zaau (K.withModes ms) V nt L b) {F : List (TV K.u.U) → Option T}
  (htr : ∀ r, (tr r).val = some (dec r)) (henc : ∀ i qs r, enc i qs = some r → dec r = (i, qs)) (h0 : ∀ ls r, R 0 ls = some r → False)
  (h1 : ∀ n ls r, R (n + 1) ls = some r → (K.withModes ms).turn nt L sh os b ls (R n) enc = some r) (hF : F = R fuel) :
  ∀ ls j rs, (Tr.get (F ls) tr).val = some (j, rs) → zabh K V nt b sh os ls j rs := by
 have key : ∀ n ls r, R n ls = some r → zabh K V nt b sh os ls (dec r).1 (dec r).2 := by
  intro n
  induction n with
  | zero => intro ls r h; exact (h0 ls r h).elim
  | succ n ih =>
   intro ls r h
   refine zabh.modes.1 (zaqs hk inner (h1 n ls r h) (fun q hq => zabh.modes.2 (ih q r hq)) fun i qs he => ?_)
   have := henc i qs r he
   rw [this]
   exact ⟨rfl, rfl⟩
 intro ls j rs h
 obtain ⟨r, hr, h⟩ := Tr.get_val h
 rw [htr r] at h
 have hd := Option.some.inj h
 rw [hF] at hr
 have := key fuel ls r hr
 rw [hd] at this
 exact this
theorem zabr {A : Type} {f : FuncId} (m : A → Mode K.u.U) (i : Nat → A) {F : A} (hF : F = i fuel) (h0 : zaad K V f (m (i 0))) (h1 : ∀ n, zaad K V f (m (i n)) → zaad K V f (m (i (n + 1)))) : zaad K V f (m F) := by
 rw [hF]
 generalize fuel = n
 induction n with
 | zero => exact h0
 | succ n ih => exact h1 n ih
theorem zaa5 {f : FuncId} {sh : StSh} {os : List StSh} {fi : List Find} {tr : T → Tr (Nat × List (TV K.u.U))} {F : List (TV K.u.U) → Option T} (h : ∀ ls r, F ls = some r → False) : zaad K V f ⟨sh, fi, os, fun ls => .get (F ls) tr⟩ := by
 intro ls j rs h'
 obtain ⟨r, hr, _⟩ := Tr.get_val h'
 exact (h ls r hr).elim
end Lift
namespace Lift
open Go Go.RowKit
def jnL {U : Nat → Type} : Nat → Option (Loop U) := fun n => bif Nat.beq n zaap then some zaam else none
def noL {U : Nat → Type} : Nat → Option (Loop U) := fun _ => none
end Lift
namespace Lift
structure Spot where
 rune : Int
 at_ : Int
 line : Int
 col : Int
 deriving DecidableEq
structure Fault where
 code : Int
 at_ : Int
 name : List UInt8
 deriving DecidableEq
structure Finding where
 kind : Int
 thread : Int
 other : Int
 what : Int
 schedule : List Int
 deriving DecidableEq
structure Names where
 cells : List (List UInt8)
 mutexes : List (List UInt8)
 threads : List (List UInt8)
 regs : List (List (List UInt8))
 deriving DecidableEq
structure Run where
 n : Int
 times : Int
 deriving DecidableEq
structure Rdr where
 b : List Int
 at_ : Int
 bad : Bool
 deriving DecidableEq
structure Token where
 kind : Int
 text : List UInt8
 num : Int
 at_ : Int
 deriving DecidableEq
structure TExpr where
 kind : Int
 num : Int
 name : List UInt8
 args : List TExpr
structure TStmt where
 kind : Int
 reg : List UInt8
 name : List UInt8
 expr : TExpr
 count : Int
 then_ : List TStmt
 else_ : List TStmt
structure TCell where
 name : List UInt8
 init : Int
 deriving DecidableEq
structure TThread where
 name : List UInt8
 body : List TStmt
structure TProg where
 cells : List TCell
 mutexes : List (List UInt8)
 threads : List TThread
structure Shape where
 reg : Bool
 name : Bool
 expr : Bool
 count : Bool
 then_ : Bool
 other : Bool
 deriving DecidableEq
structure TAct where
 kind : Int
 reg : Int
 obj : Int
 expr : TExpr
 count : Int
 then_ : List TAct
 else_ : List TAct
structure TBody where
 regs : Int
 acts : List TAct
structure TUnit where
 cells : List Int
 mutexes : Int
 threads : List TBody
structure Instr where
 op : Int
 a : Int
 b : Int
 c : Int
 deriving DecidableEq
structure ACode where
 regs : Int
 instrs : List Instr
 deriving DecidableEq
structure Image where
 cells : List Int
 mutexes : Int
 threads : List ACode
 deriving DecidableEq
structure Namer where
 cells : List (List UInt8)
 mutexes : List (List UInt8)
 threads : List (List UInt8)
 regs : List (List UInt8)
structure Thing where
 kind : Int
 number : Int
 deriving DecidableEq
structure Refused where
 e : Int
 name : List UInt8
 deriving DecidableEq
structure Operation where
 word : List UInt8
 numbers : List UInt8
 deriving DecidableEq
end Lift
namespace Lift
open Go
def zabz (s : List UInt8) : Int × Bool := match Lib.atoiAll s with
 | .ok v => (v, false)
 | .range => (Lib.atoiSat s, true)
 | _ => (0, true)
end Lift
namespace Lift.Fn
open Go Lift
noncomputable def zadf (s t : List UInt8) : Option Bool := bif decide (s.length < 4294967281) then some (Lib.contains s t) else none
noncomputable def strings_Contains : List UInt8 → List UInt8 → Option Bool := sealF zadf
noncomputable def zabm (s : List UInt8) : Option (Int × Int) := some (((Lib.decodeGo ⟨s.toArray⟩).1 : Int), ((Lib.decodeGo ⟨s.toArray⟩).2 : Int))
noncomputable def zaay : List UInt8 → Option (Int × Int) := sealF zabm
noncomputable def zabo (s : List UInt8) : Option Int := bif decide (s.length < 9223372036854775807) then some ((Lib.runeCount ⟨s.toArray⟩ : Nat) : Int) else none
noncomputable def zaa2 : List UInt8 → Option Int := sealF zabo
noncomputable def zaeu (s c : List UInt8) : Option (List UInt8) := bif decide (s.length ≤ 9223372036854775807 ∧ c.length < 4294967281) && c.all (fun b => decide (b.toNat < 128)) then some (Lib.trimS s c) else none
noncomputable def zacw : List UInt8 → List UInt8 → Option (List UInt8) := sealF zaeu
noncomputable def zaek (s : List UInt8) : Option (Int × Bool) := bif decide (s.length ≤ 281474976710656) then some (zabz s) else none
noncomputable def zacv : List UInt8 → Option (Int × Bool) := sealF zaek
end Lift.Fn
namespace Lift
end Lift
namespace Lift.Fn
open Go Lift
end Lift.Fn
namespace Lift.Fn
open Go Lift
end Lift.Fn
namespace Lift.Fn
open Go Lift
end Lift.Fn
namespace Lift
open Go Go.RowKit
end Lift
namespace Lift
open Go Go.RowKit
end Lift
namespace Lift
open Go Go.RowKit
theorem zahp {K : Kit} {G : Nat → Option Obj} {S : Nat → Option (Ob K.u.U)} {β : Nat → Gh} : ∀ {ls : List (TV K.u.U)} {vs : List Value}, PsRel K G S β (ls.map .t) vs ↔ TsRel K.u G ls vs
 | [], vs => by
  constructor
  ·intro h
   have : vs = [] := h
   subst this
   exact .nil
  ·intro h
   cases h
   rfl
 | c :: ls, vs => by
  constructor
  ·rintro ⟨u, r, rfl, h1, h2⟩
   exact .cons _ _ _ _ h1 (zahp.1 h2)
  ·intro h
   cases h with
   | cons _ _ v vs h1 h2 => exact ⟨_, _, rfl, h1, zahp.2 h2⟩
def ResT (u : Uni) (G : Nat → Option Obj) : List (TV u.U) → Value → Prop
 | [c], v => TRel u G c v
 | l, v => ∃ vs : List Value, v = .tuple vs.toArray ∧ TsRel u G l vs
theorem zatl {K : Kit} {G : Nat → Option Obj} {S : Nat → Option (Ob K.u.U)} {β : Nat → Gh} {rs : List (TV K.u.U)} {v : Value} (h : ResT K.u G rs v) : ResPV K G S β (rs.map .t) v := by
 match rs, h with
 | [], ⟨vs, h1, h2⟩ => exact ⟨vs, h1, zahp.2 h2⟩
 | [c], h => exact h
 | a :: b :: r, ⟨vs, h1, h2⟩ => exact ⟨vs, h1, zahp (ls := a :: b :: r).2 h2⟩
def grow (n : Nat) (G : Nat → Option Obj) (w : World) : Nat → Option Obj := fun k => if k < n then G k else w.heap[k]?
theorem zad9 {K : Kit} {V : Env} {f : FuncId} {sh o : StSh} {outs : List StSh} {ls rs : List (TV K.u.U)} (hs : (sh.fill ls).st = []) (ht : (sh.fill ls).tm.map (·.2) = ls.map .t) (ho : outs[0]? = some o)
  (hos : (o.fill rs).st = []) (hot : (o.fill rs).tm.map (·.2) = rs.map .t)
  (h : ∀ (G : Nat → Option Obj) (w : World) (args : List Value), V.E w → V.N0 ≤ w.heap.size → (∀ k o, G k = some o → w.heap[k]? = some o) → TsRel K.u G ls args →
   Calls K.P f args.toArray w fun e w' => ∃ v, e = .returned v ∧ Below w.heap.size w w' ∧ ResT K.u (grow w.heap.size G w') rs v) (hpn : o.isPan = false := by rfl) : zabe K V f sh outs ls 0 rs := by
 intro B G β w args o' ho' hw hI hp
 rw [ho] at ho'
 cases ho'
 rw [hs] at hI hp
 rw [ht] at hp
 have hN : V.N0 ≤ w.heap.size := by rw [← hw]; exact hI.n0
 refine (h G w args hI.env hN hI.gok (zahp.1 hp)).mono ?_
 rintro e w' ⟨v, rfl, hb, hr⟩
 refine ⟨grow w.heap.size G w', β, v, (zagi hpn v).symm, ?_, ?_⟩
 ·rw [hos]
  refine ⟨?_, (fun _ _ h => by cases h), (fun _ _ _ h => by cases h), (fun _ _ _ _ _ h => by cases h), hb.os.trans hI.os, hb.tape.trans hI.tape, hb.output.trans hI.output, Nat.le_trans hI.size hb.size, ?_, ?_, ?_, hI.n0, hI.hh, (fun _ _ _ h => by cases h)⟩
  ·intro k o hk
   unfold grow at hk
   split at hk
   ·rename_i hlt
    rw [hb.block k hlt]
    exact hI.gok k o hk
   ·exact hk
  ·intro k hk hH
   have : k < w.heap.size := by rw [← hw]; exact hk
   rw [hb.block k this]
   exact hI.low k hk hH
  ·intro k hk hH
   have : k < w.heap.size := by rw [← hw]; exact hk
   unfold grow
   rw [if_pos this]
   exact hI.gl k hk hH
  ·exact V.stays w w' hI.env (fun k hk => hb.block k (Nat.lt_of_lt_of_le hk hN)) hb.size hb.tape hb.os
 ·rw [hot]
  exact zatl hr
end Lift
namespace Lift
open Go Go.RowKit Go.Shelf Go.Proofs
section
variable {u : Uni} {G : Nat → Option Obj}
theorem zajc {c : TV u.U} {args : List Value} (h : TsRel u G [c] args) : ∃ v, args = [v] ∧ TRel u G c v := by
 cases h with
 | cons _ _ v vs h h' => cases h'; exact ⟨v, rfl, h⟩
theorem zapm {c d : TV u.U} {args : List Value} (h : TsRel u G [c, d] args) : ∃ v v', args = [v, v'] ∧ TRel u G c v ∧ TRel u G d v' := by
 cases h with
 | cons _ _ v vs h h' =>
  obtain ⟨v', rfl, h2⟩ := zajc h'
  exact ⟨v, v', rfl, h, h2⟩
theorem str_inv {s : List UInt8} {v : Value} (h : TRel u G ⟨.str, s⟩ v) : v = .string ⟨s.toArray⟩ := by cases h; rfl
end
theorem zaqf (w : World) (s : ByteArray) (pos : Nat) : Below w.heap.size w (w.iter s pos) := (Below.refl _ _).alloc (Nat.le_refl _) _
section
variable {K : Kit} {V : Env} {ρ : Shelf.Ren}
theorem contains_post (L : Lays.n144 K.P ρ) (hE : ∀ w, V.E w → ∃ m, w.cell? ⟨ρ.g 1, 0, none⟩ = some (.int .i64 m)) (s t : List UInt8) (h1 : s.length < 4294967281) :
  zabe K V (ρ.f 144) ⟨⟨[0, 1], [], []⟩, [.t .str, .t .str], []⟩ [⟨⟨[0], [], []⟩, [.t .bool], []⟩] [⟨.str, s⟩, ⟨.str, t⟩] 0 [⟨.bool, Lib.contains s t⟩] := by
 refine zad9 rfl rfl rfl rfl rfl ?_
 intro G w args hV _ hG ha
 obtain ⟨v, v', rfl, hv, hv'⟩ := zapm ha
 rw [str_inv hv, str_inv hv']
 obtain ⟨m, hm⟩ := hE w hV
 exact (Any.strings_Contains L ⟨s.toArray⟩ ⟨t.toArray⟩ m w (by simpa [ByteArray.size] using h1) hm).mono fun e w' ⟨he, hw⟩ => ⟨_, he, hw ▸ Below.refl _ _, .bool _⟩
theorem decode_post (L : Lays.n197 K.P ρ) (hE : ∀ w, V.E w → Lib.Utf8Tabs (ρ.g 3) (ρ.g 4) w) (s : List UInt8) :
  zabe K V (ρ.f 197) ⟨⟨[0], [], []⟩, [.t .str], []⟩ [⟨⟨[0, 1], [], []⟩, [.t (.int .i32), .t (.int .i64)], []⟩] [⟨.str, s⟩] 0 [⟨.int .i32, ((Lib.decodeGo ⟨s.toArray⟩).1 : Int)⟩, ⟨.int .i64, ((Lib.decodeGo ⟨s.toArray⟩).2 : Int)⟩] := by
 refine zad9 rfl rfl rfl rfl rfl ?_
 intro G w args hV _ hG ha
 obtain ⟨v, rfl, hv⟩ := zajc ha
 rw [str_inv hv]
 exact (Any.utf8_DecodeRuneInString L ⟨s.toArray⟩ w (hE w hV)).mono fun e w' ⟨he, hw⟩ => ⟨_, he, hw, _, rfl, .cons _ _ _ _ (.int _ _) (.cons _ _ _ _ (.int _ _) .nil)⟩
theorem runeCount_post (L : Lays.n195 K.P ρ) (s : List UInt8) (h1 : s.length < 9223372036854775807) :
  zabe K V (ρ.f 195) ⟨⟨[0], [], []⟩, [.t .str], []⟩ [⟨⟨[0], [], []⟩, [.t (.int .i64)], []⟩] [⟨.str, s⟩] 0 [⟨.int .i64, ((Lib.runeCount ⟨s.toArray⟩ : Nat) : Int)⟩] := by
 refine zad9 rfl rfl rfl rfl rfl ?_
 intro G w args hV _ hG ha
 obtain ⟨v, rfl, hv⟩ := zajc ha
 rw [str_inv hv]
 exact (Any.utf8_RuneCountInString L ⟨s.toArray⟩ w (by simpa [ByteArray.size] using h1)).mono fun e w' ⟨he, pos, hw⟩ => ⟨_, he, hw ▸ zaqf _ _ _, .int _ _⟩
theorem trim_post (L : Lays.n160 K.P ρ) (h116 : (K.P.info? (ρ.t 116)).map (fun i => (i.zero, i.size)) = some (some (.agg (Array.replicate 256 (.bool false))), 256)) (s c : List UInt8) (h1 : s.length ≤ 9223372036854775807) (h2 : c.length < 4294967281)
  (h3 : c.all (fun b => decide (b.toNat < 128)) = true) :
  zabe K V (ρ.f 160) ⟨⟨[0, 1], [], []⟩, [.t .str, .t .str], []⟩ [⟨⟨[0], [], []⟩, [.t .str], []⟩] [⟨.str, s⟩, ⟨.str, c⟩] 0 [⟨.str, Lib.trimS s c⟩] := by
 refine zad9 rfl rfl rfl rfl rfl ?_
 intro G w args hV _ hG ha
 obtain ⟨v, v', rfl, hv, hv'⟩ := zapm ha
 rw [str_inv hv, str_inv hv']
 exact (Any.strings_Trim_laid L h116 ⟨s.toArray⟩ ⟨c.toArray⟩ w (by simpa [ByteArray.size] using h1) (by simpa [ByteArray.size] using h2) (fun j b hj => ascii_of_all h3 j b hj)).mono fun e w' ⟨he, hw⟩ => ⟨_, he, hw, .str _⟩
theorem atoi_post (L : LaysC.n172 K.P ρ) (hE : ∀ w, V.E w → ∃ a b, (w.cell? ⟨ρ.g 15, 0, none⟩ = some a ∧ (a = .nilIface ∨ ∃ te pe, a = .iface te pe)) ∧ (w.cell? ⟨ρ.g 16, 0, none⟩ = some b ∧ (b = .nilIface ∨ ∃ te pe, b = .iface te pe)))
  (s : List UInt8) (h1 : s.length ≤ 281474976710656) :
  zabe K V (ρ.f 172) ⟨⟨[0], [], []⟩, [.t .str], []⟩ [⟨⟨[0, 1], [], []⟩, [.t (.int .i64), .t .err], []⟩] [⟨.str, s⟩] 0 [⟨.int .i64, (zabz s).1⟩, ⟨.err, (zabz s).2⟩] := by
 refine zad9 rfl rfl rfl rfl rfl ?_
 intro G w args hV _ hG ha
 obtain ⟨v, rfl, hv⟩ := zajc ha
 rw [str_inv hv]
 obtain ⟨a, b, ⟨ha1, ha2⟩, hb1, hb2⟩ := hE w hV
 have hsz : (⟨s.toArray⟩ : ByteArray).size ≤ 281474976710656 := by simpa [ByteArray.size] using h1
 unfold zabz
 cases hc : Lib.atoiAll s
 ·rename_i v
  refine (Any.strconv_Atoi_ok L ⟨s.toArray⟩ (by omega) v hc w).mono fun e w' ⟨he, hw⟩ => ⟨_, he, ?_, _, rfl, .cons _ _ _ _ (.int _ _) (.cons _ _ _ _ .noErr .nil)⟩
  rcases hw with rfl | ⟨t, rfl⟩
  ·exact Below.refl _ _
  ·exact Go.Joins.below_bytesWorld _ _ _ _ (Nat.le_refl _)
 ·exact (Any.strconv_Atoi_syntax L ⟨s.toArray⟩ hsz hc a w ha1 ha2).mono fun e w' ⟨N, he, _, _, hw⟩ => ⟨_, he, hw, _, rfl, .cons _ _ _ _ (.int _ _) (.cons _ _ _ _ (.anErr _ _) .nil)⟩
 ·exact (Any.strconv_Atoi_range L ⟨s.toArray⟩ hsz hc b w hb1 hb2).mono fun e w' ⟨N, he, _, _, hw⟩ => ⟨_, he, hw, _, rfl, .cons _ _ _ _ (.int _ _) (.cons _ _ _ _ (.anErr _ _) .nil)⟩
end
end Lift
set_option linter.unusedVariables false
namespace Lift
open Go Go.RowKit Go.Shelf Go.Proofs
section
variable {K : Kit} {V : Env} {ρ : Shelf.Ren}
theorem Inv.empty {B : Base} {G : Nat → Option Obj} {S : Nat → Option (Ob K.u.U)} {β : Nat → Gh} {w w' : World} {row : Option Nat} (hI : Inv K V B G S β w) (hg : w.grownBy w' row)
  (hrow : ∀ k, row = some k → ∃ id ob, S id = some ob ∧ ob.live = true ∧ ob.has (β id) k) : Inv K V B G (look []) β w' := by
 have hn : ∀ k, row = some k → G k = none ∧ (B.w0.heap.size ≤ k ∨ B.H k) := fun k hk => by
  obtain ⟨id, ob, a, b, c⟩ := hrow k hk
  exact hI.own id ob k a b c
 have hlow : ∀ k, k < B.w0.heap.size → ¬ B.H k → w'.heap[k]? = w.heap[k]? := fun k hk h =>
  hg.block k (Nat.lt_of_lt_of_le hk hI.size) (fun e => by
   rcases (hn k e.symm).2 with h' | h'
   ·omega
   ·exact h h')
 refine ⟨fun k o hk => ?_, (fun _ _ h => by cases h), (fun _ _ _ h => by cases h), (fun _ _ _ _ _ h => by cases h), hg.os.trans hI.os, hg.tape.trans hI.tape, hg.output.trans hI.output, Nat.le_trans hI.size hg.size,
  fun k hk h => (hlow k hk h).trans (hI.low k hk h), hI.gl, hI.env' hlow hg.size hg.tape hg.os, hI.n0, hI.hh, (fun _ _ _ h => by cases h)⟩
 have h1 := hI.gok k o hk
 rw [hg.block k (Array.getElem?_eq_some_iff.1 h1).1 (fun e => by rw [(hn k e.symm).1] at hk; cases hk)]
 exact h1
end
end Lift
set_option linter.unusedVariables false
namespace Lift
open Go Go.RowKit Go.Shelf Go.Proofs Lift.Fn
section
variable {K : Kit} {V : Env} {ρ : Shelf.Ren}
end
end Lift
namespace Lift
open Go Go.RowKit Go.Proofs
section
variable {K : Kit} {V : Env} {ρ : Shelf.Ren}
end
end Lift
namespace Lift
open Go Go.RowKit
structure Dfr (U : Nat → Type) where
 f : FuncId
 ps : List (PV U)
def zacs : Nat := 170000
def zani (i : Nat) : Bool := Nat.ble zacs i && Nat.blt i (zacs + 1000)
def envOf : List Nat → Nat → List (Nat × Nat)
 | [], _ => []
 | id :: r, k => (zacs + k, id) :: envOf r (k + 1)
def zaed (env : List (Nat × Nat)) : Ren := fun i => match swap env i with
 | some n => (n, 0)
 | none => (i, 0)
section
variable (K : Kit) {R : Type}
variable {K} {V : Env} {B : Base} {nt : Nat}
structure Bext (B B' : Base) : Prop where
 w0 : B'.w0 = B.w0
 G0 : B'.G0 = B.G0
 H : B'.H = B.H
 pv : ∀ i, zani i = false → B'.pv i = B.pv i
theorem Bext.refl (B : Base) : Bext B B := ⟨rfl, rfl, rfl, fun _ _ => rfl⟩
theorem Bext.trans {B B' B'' : Base} (h : Bext B B') (h' : Bext B' B'') : Bext B B'' :=
 ⟨h'.w0.trans h.w0, h'.G0.trans h.G0, h'.H.trans h.H, fun i hi => (h'.pv i hi).trans (h.pv i hi)⟩
theorem zaqa {ids : List Nat} : ∀ (k : Nat) {i n : Nat}, swap (envOf ids k) i = some n → i ∈ ids ∧ zacs + k ≤ n ∧ n < zacs + k + ids.length ∧ (n, i) ∈ envOf ids k := by
 induction ids with
 | nil => intro k i n h; cases h
 | cons id r ih =>
  intro k i n h
  simp only [envOf, swap] at h
  cases he : Nat.beq id i with
  | true =>
   rw [he, cond_true] at h
   cases h
   have := Nat.eq_of_beq_eq_true he
   subst this
   exact ⟨by simp, Nat.le_refl _, by simp, by simp [envOf]⟩
  | false =>
   rw [he, cond_false] at h
   obtain ⟨h1, h2, h3, h4⟩ := ih (k + 1) h
   exact ⟨by simp [h1], by omega, by simp only [List.length_cons]; omega, by simp only [envOf, List.mem_cons]; exact .inr h4⟩
theorem zap4 {ids : List Nat} : ∀ (k : Nat) {n i : Nat}, (n, i) ∈ envOf ids k → look (envOf ids k) n = some i ∧ zacs + k ≤ n := by
 induction ids with
 | nil => intro k n i h; cases h
 | cons id r ih =>
  intro k n i h
  simp only [envOf, List.mem_cons, Prod.mk.injEq] at h
  rcases h with ⟨rfl, rfl⟩ | h
  ·exact ⟨by simp [envOf, zaah], Nat.le_refl _⟩
  ·obtain ⟨h1, h2⟩ := ih (k + 1) h
   refine ⟨?_, by omega⟩
   simp only [envOf, zaah]
   rw [if_neg (by omega)]
   exact h1
theorem zap0 {ids : List Nat} : ∀ (k : Nat) {n : Nat}, n < zacs + k ∨ zacs + k + ids.length ≤ n → look (envOf ids k) n = none := by
 induction ids with
 | nil => intro k n _; rfl
 | cons id r ih =>
  intro k n h
  simp only [List.length_cons] at h
  simp only [envOf, zaah]
  rw [if_neg (by omega)]
  exact ih (k + 1) (by omega)
theorem Inv.pinned {G : Nat → Option Obj} {st : List (Nat × Ob K.u.U)} {β : Nat → Gh} {w : World} {ids : List Nat} (hI : Inv K V B G (look st) β w) (hk : (st.map (·.1)).Nodup) (hn : (st.map fun x => (zaed (envOf ids 0) x.1).1).Nodup)
  (hlen : ids.length ≤ 1000) (hlo : ∀ i ∈ ids, i < zabk) (he : ∀ x ∈ st, look (envOf ids 0) x.1 = none) (ds : List Deferred) :
  ∃ β' B', Bext B B' ∧ B'.ds = ds ∧ Inv K V B' G (look (renSt (zaed (envOf ids 0)) st)) β' w ∧
   ∀ n ob, look st n = some ob → look (renSt (zaed (envOf ids 0)) st) (zaed (envOf ids 0) n).1 = some (renO (zaed (envOf ids 0)) n ob) ∧ β' (zaed (envOf ids 0) n).1 = β n := by
 generalize hφ : zaed (envOf ids 0) = φ at *
 have hn' : ((st.map (·.1)).map fun n => (φ n).1).Nodup := by rw [List.map_map]; exact hn
 have mv : ∀ n ob, look st n = some ob → look (renSt φ st) (φ n).1 = some (renO φ n ob) ∧ renβ φ β (st.map (·.1)) (φ n).1 = β n := fun n ob h =>
  ⟨zad8 hn h, zagf hn' (List.mem_map_of_mem (f := Prod.fst) (zaa3 h))⟩
 have back : ∀ i ob', look (renSt φ st) i = some ob' → ∃ n ob, look st n = some ob ∧ (φ n).1 = i ∧ ob' = renO φ n ob := fun i ob' h => by
  obtain ⟨n, ob, h1, h2, h3⟩ := zaei h
  exact ⟨n, ob, zac8 hk h1, h2, h3⟩
 refine ⟨renβ φ β (st.map (·.1)), { B with pv := fun i => match look (envOf ids 0) i with | some old => (β old).v | none => B.pv i, ds := ds }, ⟨rfl, rfl, rfl, fun i hi => ?_⟩, rfl, ⟨hI.gok, fun i ob' h => ?_, fun i ob' b h hl hb => ?_, fun i j ob1 ob2 b h1 h2 hl1 hl2 hb1 hb2 => ?_, hI.os, hI.tape, hI.output, hI.size, hI.low, hI.gl, hI.env, hI.n0, hI.hh, fun i ob' hi h hp => ?_⟩, mv⟩
 ·have : look (envOf ids 0) i = none := zap0 0 (by
   unfold zani at hi
   by_cases h1 : zacs ≤ i
   ·by_cases h2 : i < zacs + 1000
    ·rw [Nat.ble_eq_true_of_le h1, Bool.true_and] at hi
     have h3 : Nat.blt i (zacs + 1000) = true := Nat.ble_eq_true_of_le h2
     rw [h3] at hi
     cases hi
    ·right; omega
   ·left; omega)
  simp only [this]
 ·obtain ⟨n, ob, h1, rfl, rfl⟩ := back i ob' h
  exact ObRel.ren mv h1 (hI.obs n ob h1)
 ·obtain ⟨n, ob, h1, rfl, rfl⟩ := back i ob' h
  rw [zad0] at hl
  rw [(mv n ob h1).2, zadj] at hb
  exact hI.own n ob b h1 hl hb
 ·obtain ⟨n, o1, a1, rfl, rfl⟩ := back i ob1 h1
  obtain ⟨m, o2, a2, rfl, rfl⟩ := back j ob2 h2
  rw [zad0] at hl1 hl2
  rw [(mv n o1 a1).2, zadj] at hb1
  rw [(mv m o2 a2).2, zadj] at hb2
  rw [hI.inj n m o1 o2 b a1 a2 hl1 hl2 hb1 hb2]
 ·obtain ⟨n, ob, h1, rfl, rfl⟩ := back i ob' h
  rw [zaer] at hp
  rw [(mv n ob h1).2]
  have hmem := zaa3 h1
  show (β n).v = match look (envOf ids 0) (φ n).1 with | some old => (β old).v | none => B.pv (φ n).1
  cases hs : swap (envOf ids 0) n with
  | some m =>
   have e : (φ n).1 = m := by rw [← hφ]; simp [zaed, hs]
   rw [e, (zap4 0 (zaqa 0 hs).2.2.2).1]
  | none =>
   have e : (φ n).1 = n := by rw [← hφ]; simp [zaed, hs]
   rw [e] at hi ⊢
   rw [he _ hmem]
   exact hI.pin n ob hi h1 hp
theorem Bext.back {B B' : Base} (hb : Bext B B') {G : Nat → Option Obj} {S : Nat → Option (Ob K.u.U)} {β : Nat → Gh} {w : World} (hI : Inv K V B' G S β w) (h : ∀ i ob, S i = some ob → zani i = false) : Inv K V B G S β w := by
 obtain ⟨h1, h2, h3, h4⟩ := hb
 refine ⟨hI.gok, hI.obs, ?_, hI.inj, ?_, ?_, ?_, ?_, ?_, ?_, hI.env, ?_, ?_, ?_⟩
 ·have := hI.own; rw [h1, h3] at this; exact this
 ·rw [← h1]; exact hI.os
 ·rw [← h1]; exact hI.tape
 ·rw [← h1]; exact hI.output
 ·rw [← h1]; exact hI.size
 ·have := hI.low; rw [h1, h3] at this; exact this
 ·have := hI.gl; rw [h1, h2, h3] at this; exact this
 ·rw [← h1]; exact hI.n0
 ·rw [← h3]; exact hI.hh
 ·intro id ob hid hS hp
  rw [hI.pin id ob hid hS hp, h4 id (h id ob hS)]
end
end Lift
namespace Lift
open Go Go.RowKit
def blkAt {U : Nat → Type} (st : List (Nat × Ob U)) (id : Nat) : Bool := match look st id with
 | some (.blk _ _) => true
 | _ => false
section
variable (K : Kit) {R : Type}
def liveD {U : Nat → Type} (st : List (Nat × Ob U)) : PV U → Bool
 | .ptr id _ => blkAt st id
 | .t _ => true
 | _ => false
def zatm {U : Nat → Type} (st : List (Nat × Ob U)) (l : List (Nat × PV U)) : Bool := l.all fun x => liveD st x.2
variable {K} {V : Env} {B : Base} {nt : Nat}
def zaq3 (K : Kit) (B : Base) (a : Act) (rt : List (Nat × PV K.u.U)) : Prop := ∀ x ∈ rt, ∃ id, x.2 = .ptr id 0 ∧ zabk ≤ id ∧ ∃ v, a.tmps[x.1]? = some v ∧ v.oneCell' = true ∧ v = zaa7 (B.pv id) 0
theorem zaq3.tm {G : Nat → Option Obj} {st : List (Nat × Ob K.u.U)} {β : Nat → Gh} {a : Act} {w : World} {rt : List (Nat × PV K.u.U)} (h : zaq3 K B a rt) (hI : Inv K V B G (look st) β w) (hl : zatm st rt = true) : TmOk K G (look st) β (look rt) a := by
 intro s p hs
 have hm := zaa3 hs
 obtain ⟨id, h1, h2, v, h3, h4, h5⟩ := h _ hm
 have h1 : p = .ptr id 0 := h1
 subst h1
 have h6 := List.all_eq_true.1 hl _ hm
 simp only [liveD, blkAt] at h6
 split at h6
 ·rename_i T cs hS
  refine ⟨v, h3, ?_⟩
  simp only [PRel]
  exact ⟨h4, _, hS, fun _ => by rw [hI.pin id _ h2 hS rfl]; exact h5⟩
 ·cases h6
end
end Lift
namespace Lift
open Go Go.RowKit
theorem zaql {K : Kit} {V : Env} {β : Nat → Gh} {w : World} (hE : V.E w) (hN : V.N0 ≤ w.heap.size) : Inv K V ⟨w, fun k => w.heap[k]?, fun _ => False, fun _ => undef, []⟩ (fun k => w.heap[k]?) (look ([] : List (Nat × Ob K.u.U))) β w where
 gok := fun _ _ h => h
 obs := fun _ _ h => by cases h
 own := fun _ _ _ h => by cases h
 inj := fun _ _ _ _ _ h => by cases h
 os := rfl
 tape := rfl
 output := rfl
 size := Nat.le_refl _
 low := fun _ _ _ => rfl
 gl := fun _ _ _ => rfl
 env := hE
 n0 := hN
 hh := fun _ h => h.elim
 pin := fun _ _ _ h => by cases h
theorem bool_of_postV {K : Kit} {V : Env} {f : FuncId} {sh : StSh} {os : List StSh} {ls : List (TV K.u.U)} {b : Bool} {o : StSh} {args : List Value} {w : World} (hE : V.E w) (hN : V.N0 ≤ w.heap.size)
  (h : zabe K V f sh os ls 0 [⟨.bool, b⟩]) (ho : os[0]? = some o) (hr : (o.fill ([⟨.bool, b⟩] : List (TV K.u.U))).tm.map (·.2) = [.t ⟨.bool, b⟩]) (hs : (sh.fill ls).st = [])
  (ha : PsRel K (fun k => w.heap[k]?) (look ([] : List (Nat × Ob K.u.U))) (fun _ => Gh.of undef) ((sh.fill ls).tm.map (·.2)) args) (hpn : o.isPan = false := by rfl) :
  Calls K.P f args.toArray w fun e w' => e = .returned (.bool b) ∧ Below w.heap.size w w' := by
 refine (h ⟨w, fun k => w.heap[k]?, fun _ => False, fun _ => undef, []⟩ (fun k => w.heap[k]?) (fun _ => Gh.of undef) w args o ho rfl ?_ ?_).mono ?_
 ·rw [hs]; exact zaql hE hN
 ·rw [hs]; exact ha
 ·rintro e w' ⟨G', β', v, rfl, hI, hv⟩
  rw [hr] at hv
  have hv' : TRel K.u G' ⟨.bool, b⟩ v := by
   unfold ResPV PRel at hv
   exact hv
  refine ⟨?_, hI.os, hI.tape, hI.output, hI.size, fun k hk => hI.low k hk (fun hh => hh)⟩
  rw [hv'.bool_inv, zagi hpn]
end Lift
namespace Lift
open Go Go.RowKit
section
variable (K : Kit)
def zae6 (Ts : List TypeId) : List Field → Nat → List Ty → Bool
 | [], _, ts => ts.isEmpty
 | f :: fs, off, ts => match K.tyOf f.type with
  | some t => Ts.contains f.type && Nat.beq f.offset off && Nat.beq (K.P.cellsOf f.type) (K.u.ctysOf t).length && decide (ts.take (K.u.ctysOf t).length = K.u.ctysOf t) && zae6 Ts fs (off + (K.u.ctysOf t).length) (ts.drop (K.u.ctysOf t).length)
  | none => false
def tyFits (Ts : List TypeId) (wt : Ty → Nat) (T : TypeId) : Bool :=
 match K.tyOf T, K.P.underlying T with
 | some (.int k), some (.int k') => decide (k = k') && Nat.beq (K.P.cellsOf T) 1
 | some .bool, some .bool => Nat.beq (K.P.cellsOf T) 1
 | some .str, some .string => Nat.beq (K.P.cellsOf T) 1
 | some (.slc e), some (.slice E) => decide (K.tyOf E = some e) && Ts.contains E && Nat.beq (K.P.cellsOf T) 1 && Nat.beq (K.P.cellsOf E) (K.u.size e) && Nat.blt 0 (K.u.size e) && Nat.ble (wt e) (K.P.bytesOf E)
 | some (.st n), some (.struct fs) => Nat.beq (K.P.cellsOf T) (K.u.ctys n).length && zae6 K Ts fs.toList 0 (K.u.ctys n)
 | _, _ => false
end
mutual
inductive Sized (u : Uni) : TV u.U → Nat → Prop
 | int (k : IntKind) (n : Int) (N : Nat) : Sized u ⟨.int k, n⟩ N
 | bool (b : Bool) (N : Nat) : Sized u ⟨.bool, b⟩ N
 | str (s : List UInt8) (N : Nat) : s.length ≤ N → Sized u ⟨.str, s⟩ N
 | slc (e : Ty) (l : List (e.den u.U)) (N : Nat) : SizedL u (l.map (TV.mk e)) N → Sized u ⟨.slc e, l⟩ N
 | st (n : Nat) (x : u.U n) (N : Nat) : SizedL u (u.cells n x) N → Sized u ⟨.st n, x⟩ N
inductive SizedL (u : Uni) : List (TV u.U) → Nat → Prop
 | nil (N : Nat) : SizedL u [] N
 | cons (c : TV u.U) (cs : List (TV u.U)) (a b N : Nat) : Sized u c a → SizedL u cs b → a + b + 1 ≤ N → SizedL u (c :: cs) N
end
mutual
inductive Reach (u : Uni) (wt : Ty → Nat) (R : Nat) : TV u.U → Prop
 | int (k : IntKind) (n : Int) : Reach u wt R ⟨.int k, n⟩
 | bool (b : Bool) : Reach u wt R ⟨.bool, b⟩
 | str (s : List UInt8) : s.length ≤ R → Reach u wt R ⟨.str, s⟩
 | slc (e : Ty) (l : List (e.den u.U)) : l.length * wt e ≤ R → ReachL u wt R (l.map (TV.mk e)) → Reach u wt R ⟨.slc e, l⟩
 | st (n : Nat) (x : u.U n) : ReachL u wt R (u.cells n x) → Reach u wt R ⟨.st n, x⟩
inductive ReachL (u : Uni) (wt : Ty → Nat) (R : Nat) : List (TV u.U) → Prop
 | nil : ReachL u wt R []
 | cons (c : TV u.U) (cs : List (TV u.U)) : Reach u wt R c → ReachL u wt R cs → ReachL u wt R (c :: cs)
end
section
variable {u : Uni}
mutual
theorem Sized.le : ∀ {c : TV u.U} {a b : Nat}, Sized u c a → a ≤ b → Sized u c b
 | _, _, b, .int k n _, _ => .int k n b
 | _, _, b, .bool x _, _ => .bool x b
 | _, _, b, .str s _ h, hl => .str s b (Nat.le_trans h hl)
 | _, _, b, .slc e l _ h, hl => .slc e l b (SizedL.le h hl)
 | _, _, b, .st n x _ h, hl => .st n x b (SizedL.le h hl)
theorem SizedL.le : ∀ {c : List (TV u.U)} {a b : Nat}, SizedL u c a → a ≤ b → SizedL u c b
 | _, _, b, .nil _, _ => .nil b
 | _, _, b, .cons c cs x y _ h1 h2 h3, hl => .cons c cs x y b h1 h2 (Nat.le_trans h3 hl)
end
theorem SizedL.append {c d : List (TV u.U)} {a b : Nat} (h : SizedL u c a) (h' : SizedL u d b) : SizedL u (c ++ d) (a + b) := by
 induction c generalizing a with
 | nil => exact h'.le (by omega)
 | cons x c ih =>
  cases h with
  | cons _ _ p q _ h1 h2 h3 => exact .cons _ _ p (q + b) _ h1 (ih h2) (by omega)
theorem ReachL.append {wt : Ty → Nat} {R : Nat} {c d : List (TV u.U)} (h : ReachL u wt R c) (h' : ReachL u wt R d) : ReachL u wt R (c ++ d) := by
 induction c with
 | nil => exact h'
 | cons x c ih => cases h with | cons _ _ h1 h2 => exact .cons _ _ h1 (ih h2)
theorem SizedL.length {c : List (TV u.U)} {a : Nat} (h : SizedL u c a) : c.length ≤ a := by
 induction c generalizing a with
 | nil => exact Nat.zero_le _
 | cons x c ih => cases h with | cons _ _ p q _ h1 h2 h3 => have := ih h2; simp only [List.length_cons]; omega
theorem SizedL.mem {c : List (TV u.U)} {a : Nat} (h : SizedL u c a) {x : TV u.U} (hx : x ∈ c) : ∃ b, b + 1 ≤ a ∧ Sized u x b := by
 induction c generalizing a with
 | nil => cases hx
 | cons y c ih =>
  cases h with
  | cons _ _ p q _ h1 h2 h3 =>
   rcases List.mem_cons.1 hx with rfl | hx
   ·exact ⟨p, by omega, h1⟩
   ·obtain ⟨b, hb, h⟩ := ih h2 hx; exact ⟨b, by omega, h⟩
theorem Sized.str_inv {s : List UInt8} {N : Nat} (h : Sized u ⟨.str, s⟩ N) : s.length ≤ N := by cases h; assumption
theorem Sized.slc_inv {e : Ty} {l : List (e.den u.U)} {N : Nat} (h : Sized u ⟨.slc e, l⟩ N) : SizedL u (l.map (TV.mk e)) N := by cases h; assumption
theorem Sized.slc_len {e : Ty} {l : List (e.den u.U)} {N : Nat} (h : Sized u ⟨.slc e, l⟩ N) : l.length ≤ N := by have := h.slc_inv.length; simpa using this
theorem Sized.st_inv {n : Nat} {x : u.U n} {N : Nat} (h : Sized u ⟨.st n, x⟩ N) : SizedL u (u.cells n x) N := by cases h; assumption
theorem Reach.str_inv {wt : Ty → Nat} {R : Nat} {s : List UInt8} (h : Reach u wt R ⟨.str, s⟩) : s.length ≤ R := by cases h; assumption
theorem Reach.slc_inv {wt : Ty → Nat} {R : Nat} {e : Ty} {l : List (e.den u.U)} (h : Reach u wt R ⟨.slc e, l⟩) : l.length * wt e ≤ R ∧ ReachL u wt R (l.map (TV.mk e)) := by cases h; exact ⟨by assumption, by assumption⟩
theorem Reach.st_inv {wt : Ty → Nat} {R : Nat} {n : Nat} {x : u.U n} (h : Reach u wt R ⟨.st n, x⟩) : ReachL u wt R (u.cells n x) := by cases h; assumption
theorem ReachL.mem {wt : Ty → Nat} {R : Nat} {c : List (TV u.U)} (h : ReachL u wt R c) {x : TV u.U} (hx : x ∈ c) : Reach u wt R x := by
 induction c with
 | nil => cases hx
 | cons y c ih =>
  cases h with
  | cons _ _ h1 h2 =>
   rcases List.mem_cons.1 hx with rfl | hx
   ·exact h1
   ·exact ih h2 hx
end
structure Bulky {H : Type} (bulk : DataW H → Nat) (all : List (DataW H) → Nat) : Prop where
 lit : ∀ l, 1 ≤ bulk (.lit l)
 str : ∀ s : List UInt8, s.length + 1 ≤ bulk (.lit (.string s))
 nil : 1 ≤ bulk .nil
 slice : ∀ a b, all a + all b + 1 ≤ bulk (.slice a b)
 agg : ∀ a, all a + 1 ≤ bulk (.agg a)
 cons : ∀ d r, bulk d + all r ≤ all (d :: r)
section
variable {H : Type} {enc : TypeId × Value → H} {K : Kit} {W : World}
def zanh (K : Kit) (W : World) (wt : Ty → Nat) (bulk : DataW H → Nat) (T : TypeId) (ty : Ty) (cs : List Value) (d : DataW H) : Prop :=
 ∃ y : ty.den K.u.U, TsRel K.u (fun k => W.heap[k]?) (K.u.tcells ⟨ty, y⟩) cs ∧ (∃ a, Sized K.u ⟨ty, y⟩ a ∧ a + 1 ≤ bulk d) ∧ (∀ R, (DataW.weights K.P T d).all (· ≤ R) = true → Reach K.u wt R ⟨ty, y⟩)
theorem zaqi {base : Nat} {a : Addr} {n : Nat} {cs : List Value} (h : W.cells? base a n = some cs) (hn : 0 < n) : a.spot = none ∧ ∃ cur T fz, W.heap[a.block]? = some (.cells cur T fz) := by
 have h0 := (World.cells?_some h).2.2 0 (by omega)
 have h1 : cs.length = n := (World.cells?_some h).2.1
 have e : Addr.add a 0 = a := by simp [Addr.add]
 rw [e, List.getElem?_eq_getElem (by omega)] at h0
 unfold World.cell? at h0
 split at h0
 ·rename_i c t fz hc
  split at h0
  ·cases h0
  ·rename_i hs
   refine ⟨?_, c, t, fz, hc⟩
   cases hsp : a.spot with
   | none => rfl
   | some x => rw [hsp] at hs; simp at hs
 ·cases h0
theorem zasr {base : Nat} {b o n : Nat} {cs : List Value} {cur : Array Value} {T : TypeId} {fz : Nat × Nat} (h : W.cells? base ⟨b, o, none⟩ n = some cs) (hc : W.heap[b]? = some (.cells cur T fz)) : cs.length = n ∧ ∀ j v, cs[j]? = some v → cur[o + j]? = some v := by
 have h1 : cs.length = n := (World.cells?_some h).2.1
 refine ⟨h1, fun j v hj => ?_⟩
 have hlt : j < cs.length := (List.getElem?_eq_some_iff.1 hj).1
 have h0 := (World.cells?_some h).2.2 j (by omega)
 rw [zab6, zadp hc, hj] at h0
 exact h0
theorem zak2 {wt : Ty → Nat} {bulk : DataW H → Nat} {all : List (DataW H) → Nat} (hB : Bulky bulk all) {E : TypeId} {e : Ty} {b o : Nat} {cur : Array Value} {T0 : TypeId} {fz : Nat × Nat} (hc : W.heap[b]? = some (.cells cur T0 fz)) (hs : K.P.cellsOf E = K.u.size e) :
  ∀ (ds : List (DataW H)) (k : Nat), (∀ i d, ds[i]? = some d → ∃ cs, W.cells? 0 ⟨b, o + (k + i) * K.u.size e, none⟩ (K.u.size e) = some cs ∧ zanh K W wt bulk E e cs d) →
  ∃ (l : List (e.den K.u.U)) (vals : List Value), l.length = ds.length ∧ TsRel K.u (fun k => W.heap[k]?) (l.map (TV.mk e)) vals ∧
   (∀ i x, vals[i]? = some x → x.cells.size = K.u.size e ∧ ∀ j c, x.cells[j]? = some c → cur[o + (k + i) * K.u.size e + j]? = some c) ∧
   SizedL K.u (l.map (TV.mk e)) (all ds) ∧ (∀ R, (DataW.weightsAll K.P E ds).all (· ≤ R) = true → ReachL K.u wt R (l.map (TV.mk e)))
 | [], k, _ => ⟨[], [], rfl, .nil, fun i x h => by simp at h, .nil _, fun _ _ => .nil⟩
 | d :: ds, k, h => by
  obtain ⟨cs, h1, y, h2, ⟨a, h3, h4⟩, h5⟩ := h 0 d rfl
  obtain ⟨l, vals, q1, q2, q3, q4, q5⟩ := zak2 hB hc hs ds (k + 1) (fun i d' hd => by
   have := h (i + 1) d' (by simpa using hd)
   rwa [show k + (i + 1) = k + 1 + i by omega] at this)
  obtain ⟨r1, r2⟩ := zasr h1 hc
  obtain ⟨v, hv1, hv2⟩ : ∃ v : Value, TRel K.u (fun k => W.heap[k]?) ⟨e, y⟩ v ∧ v.cells.toList = cs := by
   by_cases hf : ∃ n, e = .st n
   ·obtain ⟨n, rfl⟩ := hf
    exact ⟨.agg cs.toArray, .st n y cs h2, by simp [Value.cells]⟩
   ·have ht : K.u.tcells ⟨e, y⟩ = [⟨e, y⟩] := by
     cases e <;> first | rfl | exact absurd ⟨_, rfl⟩ hf
    rw [ht] at h2
    cases h2 with
    | cons _ _ v vs hv hn =>
     cases hn
     refine ⟨v, hv, ?_⟩
     rw [hv.cells_flat (by cases e <;> first | rfl | exact absurd ⟨_, rfl⟩ hf)]
  refine ⟨y :: l, v :: vals, by simp [q1], .cons _ _ _ _ hv1 q2, ?_, .cons _ _ a (all ds) _ h3 q4 ?_, ?_⟩
  ·intro i x hx
   cases i with
   | zero =>
    simp only [List.getElem?_cons_zero, Option.some.injEq] at hx
    subst hx
    refine ⟨hv1.size, fun j c hj => ?_⟩
    have : cs[j]? = some c := by rw [← hv2]; simpa using hj
    exact r2 j c this
   | succ i =>
    have := q3 i x (by simpa using hx)
    rwa [show k + 1 + i = k + (i + 1) by omega] at this
  ·have := hB.cons d ds; omega
  ·intro R hR
   simp only [DataW.weightsAll, List.all_append, Bool.and_eq_true] at hR
   exact .cons _ _ (h5 R hR.1) (q5 R hR.2)
end
end Lift
namespace Lift
open Go Go.RowKit
section
variable {H : Type} {enc : TypeId × Value → H} {K : Kit} {W : World}
theorem zajg {Ts : List TypeId} {wt : Ty → Nat} {bulk : DataW H → Nat} {all : List (DataW H) → Nat} (hB : Bulky bulk all) {cs : List Value} {n : Nat}
  (ih : ∀ T ∈ Ts, ∀ ty cs x, K.tyOf T = some ty → DataW.trod enc K.P W 0 (fun _ => true) true n T cs = some x → zanh K W wt bulk T ty cs x.1) :
  ∀ (fs : List Field) (off : Nat) (ts : List Ty) (xs : List (DataW H × List MemPlace)), zae6 K Ts fs off ts = true → xs.length = fs.length →
   (∀ (i : Nat) (f : Field), fs[i]? = some f → DataW.trod enc K.P W 0 (fun _ => true) true n f.type ((cs.drop f.offset).take (K.P.cellsOf f.type)) = xs[i]?) → cs.length = off + ts.length →
   ∃ l : List (TV K.u.U), l.map TV.t = ts ∧ TsRel K.u (fun k => W.heap[k]?) l (cs.drop off) ∧ SizedL K.u l (all (xs.map (·.1))) ∧
    (∀ R, (DataW.weightsEach K.P (fs.map (·.type)) (xs.map (·.1))).all (· ≤ R) = true → ReachL K.u wt R l)
 | [], off, ts, xs, h, hl, _, hc => by
  simp only [zae6, List.isEmpty_iff] at h
  subst h
  have : cs.drop off = [] := by rw [List.drop_eq_nil_iff]; simp at hc; omega
  rw [this]
  exact ⟨[], rfl, .nil, .nil _, fun _ _ => .nil⟩
 | f :: fs, off, ts, xs, h, hl, hf, hc => by
  simp only [zae6] at h
  split at h
  ·rename_i t ht
   simp only [Bool.and_eq_true, decide_eq_true_eq] at h
   obtain ⟨⟨⟨⟨h1, h2⟩, h3⟩, h4⟩, h5⟩ := h
   have h2 := Nat.eq_of_beq_eq_true h2
   have h3 := Nat.eq_of_beq_eq_true h3
   obtain ⟨x, xs, rfl⟩ : ∃ x r, xs = x :: r := by
    cases xs with
    | nil => simp at hl
    | cons x r => exact ⟨x, r, rfl⟩
   have hx := hf 0 f rfl
   rw [List.getElem?_cons_zero, h2, h3] at hx
   obtain ⟨y, q1, ⟨a, q2, q3⟩, q4⟩ := ih f.type (by simpa using h1) t _ x ht hx
   have hlen : ts.length = (K.u.ctysOf t).length + (ts.drop (K.u.ctysOf t).length).length := by
    have h6 := congrArg List.length h4
    rw [List.length_take] at h6
    rw [List.length_drop]
    omega
   obtain ⟨l, r1, r2, r3, r4⟩ := zajg hB ih fs (off + (K.u.ctysOf t).length) (ts.drop (K.u.ctysOf t).length) xs h5 (by simpa using hl) (fun i g hg => by simpa using hf (i + 1) g (by simpa using hg)) (by omega)
   have htc : (K.u.tcells ⟨t, y⟩).map TV.t = K.u.ctysOf t := by
    cases t with
    | st m => exact K.u.tys_ok m y
    | _ => rfl
   refine ⟨K.u.tcells ⟨t, y⟩ ++ l, ?_, ?_, ?_, ?_⟩
   ·have h7 := List.take_append_drop (K.u.ctysOf t).length ts
    rw [h4] at h7
    rw [List.map_append, htc, r1]
    exact h7
   ·have : cs.drop off = (cs.drop off).take (K.u.ctysOf t).length ++ cs.drop (off + (K.u.ctysOf t).length) := by
     rw [← List.drop_drop, List.take_append_drop]
    rw [this]
    exact q1.append r2
   ·have hs : SizedL K.u (K.u.tcells ⟨t, y⟩) (bulk x.1) := by
     cases t with
     | st m => exact q2.st_inv.le (by omega)
     | _ => exact .cons _ _ a 0 _ q2 (.nil 0) (by omega)
    refine (hs.append r3).le ?_
    rw [List.map_cons]
    exact hB.cons _ _
   ·intro R hR
    simp only [List.map_cons, DataW.weightsEach, List.all_append, Bool.and_eq_true] at hR
    have hq := q4 R hR.1
    have hs : ReachL K.u wt R (K.u.tcells ⟨t, y⟩) := by
     cases t with
     | st m => exact hq.st_inv
     | _ => exact .cons _ _ hq .nil
    exact hs.append (r4 R hR.2)
  ·cases h
theorem zai7 {Ts : List TypeId} {wt : Ty → Nat} {bulk : DataW H → Nat} {all : List (DataW H) → Nat} (hB : Bulky bulk all) (hT : ∀ T ∈ Ts, tyFits K Ts wt T = true)
  (hM : ∀ T ∈ Ts, ∀ n, K.tyOf T = some (.st n) → ∀ cs, cs.map TV.t = K.u.ctys n → ∃ x, K.u.make n cs = some x) :
  ∀ (fuel : Nat) (T : TypeId), T ∈ Ts → ∀ ty cs x, K.tyOf T = some ty → DataW.trod enc K.P W 0 (fun _ => true) true fuel T cs = some x → zanh K W wt bulk T ty cs x.1
 | 0, T, _, ty, cs, x, _, h => by simp [DataW.trod] at h
 | fuel + 1, T, hm, ty, cs, x, ht, h => by
  have hfit := hT T hm
  unfold tyFits at hfit
  rw [ht] at hfit
  split at hfit
  ·rename_i k k' h1 h2
   simp only [Bool.and_eq_true, decide_eq_true_eq] at hfit
   obtain ⟨rfl, _⟩ := hfit
   cases h1
   obtain ⟨n, rfl, rfl, _⟩ := DataW.trod_int h2 h
   exact ⟨n, .cons _ _ _ _ (.int _ _) .nil, ⟨0, .int _ _ _, hB.lit _⟩, fun _ _ => .int _ _⟩
  ·rename_i h1 h2
   cases h1
   obtain ⟨n, rfl, rfl⟩ := DataW.trod_bool h2 h
   exact ⟨n, .cons _ _ _ _ (.bool _) .nil, ⟨0, .bool _ _, hB.lit _⟩, fun _ _ => .bool _⟩
  ·rename_i h1 h2
   cases h1
   obtain ⟨s, rfl, rfl, _⟩ := DataW.trod_string h2 h
   refine ⟨s.data.toList, .cons _ _ _ _ ?_ .nil, ⟨s.data.toList.length, .str _ _ (Nat.le_refl _), hB.str _⟩, fun R hR => .str _ ?_⟩
   ·have := TRel.str (u := K.u) (G := fun k => W.heap[k]?) s.data.toList
    simpa using this
   ·simpa [DataW.weights] using hR
  ·rename_i e E h1 h2
   simp only [Bool.and_eq_true, decide_eq_true_eq] at hfit
   obtain ⟨⟨⟨⟨⟨g1, g2⟩, g3⟩, g4⟩, g5⟩, g6⟩ := hfit
   have g4 := Nat.eq_of_beq_eq_true g4
   have g5 : 0 < K.u.size e := by simpa [Nat.blt_eq] using g5
   have g6 : wt e ≤ K.P.bytesOf E := Nat.le_of_ble_eq_true g6
   cases h1
   have g2 : E ∈ Ts := by simpa using g2
   rcases DataW.trod_slice h2 h with ⟨rfl, rfl⟩ | ⟨a, len, cap, elems, rest, n, hn, rfl, rfl, _, hl, hmx, hlen, hel, hsp, _⟩
   ·exact ⟨[], .cons _ _ _ _ (.nil _ _) .nil, ⟨0, .slc _ _ _ (.nil _), hB.nil⟩, fun _ _ => .slc _ _ (by simp) .nil⟩
   ·obtain rfl : n = fuel := by omega
    obtain ⟨hrl, hrest⟩ := hsp rfl
    obtain ⟨b, off, spot⟩ := a
    -- each member's cells
    have each : ∀ i y, (elems ++ rest)[i]? = some y → ∃ cs, W.cells? 0 (Addr.add ⟨b, off, spot⟩ (i * K.u.size e)) (K.u.size e) = some cs ∧ DataW.trod enc K.P W 0 (fun _ => true) true n E cs = some y := by
     intro i y hy
     have hb' : (W.cells? 0 (Addr.add ⟨b, off, spot⟩ (i * K.P.cellsOf E)) (K.P.cellsOf E)).bind (DataW.trod enc K.P W 0 (fun _ => true) true n E) = some y := by
      by_cases hi : i < len
      ·rw [hel i hi, ← hy, List.getElem?_append_left (by omega)]
      ·have hi' : i - len < rest.length := by
        have := (List.getElem?_eq_some_iff.1 hy).1
        simp at this
        omega
       have := hrest (i - len) (by omega)
       rw [show len + (i - len) = i by omega] at this
       rw [this, ← hy, List.getElem?_append_right (by omega), hlen]
     rw [g4, Option.bind_eq_some_iff] at hb'
     exact hb'
    by_cases hz : cap = 0
    ·have : len = 0 := by omega
     subst hz this
     have he : elems = [] := List.eq_nil_of_length_eq_zero hlen
     subst he
     refine ⟨[], .cons _ _ _ _ (.nil _ _) .nil, ⟨0, .slc _ _ _ (.nil _), ?_⟩, fun _ _ => .slc _ _ (by simp) .nil⟩
     have := hB.slice ([] : List (DataW H)) (rest.map (·.1))
     simp only [List.map_nil]
     omega
    ·
     have hne : 0 < (elems ++ rest).length := by rw [List.length_append]; omega
     obtain ⟨cs0, hc0, _⟩ := each 0 _ (List.getElem?_eq_getElem hne)
     have e0 : Addr.add ⟨b, off, spot⟩ (0 * K.u.size e) = ⟨b, off, spot⟩ := by simp [Addr.add]
     rw [e0] at hc0
     obtain ⟨hs0, cur, T0, fz, hcur⟩ := zaqi hc0 g5
     simp only at hs0
     subst hs0
     obtain ⟨l, vals, q1, q2, q3, q4, q5⟩ := zak2 (wt := wt) (b := b) (o := off) hB hcur g4 (elems.map (·.1)) 0 (fun i d hd => by
      rw [List.getElem?_map, Option.map_eq_some_iff] at hd
      obtain ⟨y, hy, rfl⟩ := hd
      have hi : i < elems.length := (List.getElem?_eq_some_iff.1 hy).1
      obtain ⟨cs, hc, ht'⟩ := each i y (by rw [List.getElem?_append_left hi]; exact hy)
      rw [zab6] at hc
      refine ⟨cs, by simpa using hc, zai7 hB hT hM n E g2 e cs y g1 ht'⟩)
     have hll : l.length = len := by rw [q1, List.length_map, hlen]
     refine ⟨l, .cons _ _ _ _ ?_ .nil, ⟨all (elems.map (·.1)), .slc _ _ _ q4, ?_⟩, ?_⟩
     ·have hr := TRel.slc (u := K.u) (G := fun k => W.heap[k]?) e l b off cap cur T0 fz vals (by omega) hcur q2 (fun i x hx => by
       obtain ⟨a1, a2⟩ := q3 i x hx
       exact ⟨a1, fun j c hj => by have := a2 j c hj; rwa [Nat.zero_add] at this⟩)
      rw [hll] at hr
      exact hr
     ·exact Nat.le_trans (by omega) (hB.slice (elems.map (·.1)) (rest.map (·.1)))
     ·intro R hR
      simp only [DataW.weights, h2, List.all_cons, List.all_append, Bool.and_eq_true, decide_eq_true_eq] at hR
      refine .slc _ _ ?_ (q5 R hR.2.1)
      have h8 : l.length * wt e ≤ (elems.length + rest.length) * K.P.bytesOf E := by
       rw [hll, ← hlen]
       exact Nat.mul_le_mul (by omega) g6
      simp only [List.length_map] at hR
      omega
  ·rename_i n fs h1 h2
   simp only [Bool.and_eq_true] at hfit
   cases h1
   obtain ⟨xs, n', hn, rfl, hcl, hxl, hf⟩ := DataW.trod_struct h2 h
   obtain rfl : n' = fuel := by omega
   have g1 := Nat.eq_of_beq_eq_true hfit.1
   obtain ⟨l, q1, q2, q3, q4⟩ := zajg (wt := wt) (bulk := bulk) (Ts := Ts) (K := K) (W := W) (enc := enc) (n := n') (cs := cs) hB (fun T hT' ty cs x ht' h' => zai7 hB hT hM n' T hT' ty cs x ht' h') fs.toList 0 (K.u.ctys n) xs hfit.2 (by simpa using hxl) (fun i f hi => hf i f (by simpa using hi)) (by omega)
   obtain ⟨y, hy⟩ := hM T hm n ht l q1
   have hcells := K.u.make_ok n l y hy
   refine ⟨y, ?_, ⟨all (xs.map (·.1)), .st _ _ _ (by rw [hcells]; exact q3), hB.agg _⟩, ?_⟩
   ·show TsRel K.u _ (K.u.cells n y) cs
    rw [hcells]
    simpa using q2
   ·intro R hR
    simp only [DataW.weights, h2] at hR
    exact .st _ _ (by rw [hcells]; exact q4 R hR)
  ·cases hfit
end
theorem open_arg {H : Type} {enc : TypeId × Value → H} {K : Kit} {W : World} {Ts : List TypeId} {wt : Ty → Nat} {bulk : DataW H → Nat} {all : List (DataW H) → Nat} (hB : Bulky bulk all) (hT : ∀ T ∈ Ts, tyFits K Ts wt T = true)
  (hM : ∀ T ∈ Ts, ∀ n, K.tyOf T = some (.st n) → ∀ cs, cs.map TV.t = K.u.ctys n → ∃ x, K.u.make n cs = some x) {T : TypeId} (hm : T ∈ Ts) {ty : Ty} (ht : K.tyOf T = some ty) {b0 : Nat} {v : Value} {d : DataW H} {ps : List MemPlace}
  (hval : Value.okWide K.P W .any b0 T v) (hd : DataW.Trod enc K.P W 0 (fun _ => true) true T v d ps) :
  ∃ y : ty.den K.u.U, TRel K.u (fun k => W.heap[k]?) ⟨ty, y⟩ v ∧ (∃ a, Sized K.u ⟨ty, y⟩ a ∧ a + 1 ≤ bulk d) ∧ (∀ R, (DataW.weights K.P T d).all (· ≤ R) = true → Reach K.u wt R ⟨ty, y⟩) := by
 obtain ⟨fuel, hf⟩ := hd
 obtain ⟨y, h1, h2, h3⟩ := zai7 hB hT hM fuel T hm ty _ _ ht hf
 refine ⟨y, ?_, h2, h3⟩
 have hfit := hT T hm
 unfold tyFits at hfit
 rw [ht] at hfit
 have flat : (∀ fs, K.P.underlying T ≠ some (.struct fs)) → (∀ n, ty ≠ .st n) → TRel K.u (fun k => W.heap[k]?) ⟨ty, y⟩ v := by
  intro _ hns
  have htc : K.u.tcells ⟨ty, y⟩ = [⟨ty, y⟩] := by cases ty <;> first | rfl | exact absurd rfl (hns _)
  rw [htc] at h1
  have hv : v.cells.toList = [v] ∨ ∃ cs, v = .agg cs := by
   cases v <;> first | exact .inr ⟨_, rfl⟩ | exact .inl rfl
  cases hc : v.cells.toList with
  | nil => rw [hc] at h1; cases h1
  | cons a r =>
   rw [hc] at h1
   cases h1 with
   | cons _ _ _ _ hr hn =>
    cases hn
    rcases hv with hv | ⟨cs, rfl⟩
    ·rw [hv] at hc; cases hc; exact hr
    ·
     exfalso
     unfold Value.okWide at hval
     split at hfit <;> rename_i h1 h2
     all_goals first
      | (rw [h2] at hval; simp [Cell.okWide, h2, Cell.ok] at hval; done)
      | (cases h1; exact absurd rfl (hns _))
      | cases hfit
 split at hfit
 ·rename_i h1 h2; exact flat (fun fs hh => by rw [h2] at hh; cases hh) (fun n hh => by rw [hh] at h1; cases h1)
 ·rename_i h1 h2; exact flat (fun fs hh => by rw [h2] at hh; cases hh) (fun n hh => by rw [hh] at h1; cases h1)
 ·rename_i h1 h2; exact flat (fun fs hh => by rw [h2] at hh; cases hh) (fun n hh => by rw [hh] at h1; cases h1)
 ·rename_i h1 h2; exact flat (fun fs hh => by rw [h2] at hh; cases hh) (fun n hh => by rw [hh] at h1; cases h1)
 ·rename_i n fs g1 g2
  cases g1
  unfold Value.okWide at hval
  rw [g2] at hval
  obtain ⟨cs, rfl, _, _⟩ := hval
  have := TRel.st (u := K.u) (G := fun k => W.heap[k]?) n y cs.toList (by simpa [Value.cells, Uni.tcells] using h1)
  simpa using this
 ·cases hfit
end Lift
namespace Lift
theorem zalf {U : Nat → Type} {cs : List (TV U)} (h : cs.map TV.t = []) : cs = [] := by simpa using h
theorem zabd {U : Nat → Type} {cs : List (TV U)} {t : Ty} {ts : List Ty} (h : cs.map TV.t = t :: ts) : ∃ (x : t.den U) (r : List (TV U)), cs = ⟨t, x⟩ :: r ∧ r.map TV.t = ts := by
 cases cs with
 | nil => simp at h
 | cons c r =>
  simp only [List.map_cons, List.cons.injEq] at h
  obtain ⟨t', x⟩ := c
  obtain ⟨rfl, h⟩ := h
  exact ⟨x, r, rfl, h⟩
end Lift
