/-
  DERIVED. The Lean functions answer as the laws say. Conditions: as each theorem says.
-/
import Derived.Test.YthfjaagnijcmfaaGreatDoorLawA
set_option linter.unusedVariables false
set_option linter.unusedSimpArgs false
set_option linter.unusedSectionVars false
namespace Lift.A9
open Go Go.RowKit Lift Go.IntWalk Lift.Fn Lift.A3
set_option linter.unusedVariables false
set_option linter.unusedSimpArgs false
theorem zaki {α ρ : Type} (l : List α) (P : ρ → Prop) (L : Nat → Int → List α → Option ρ)
  (h0 : ∀ n i s, 0 ≤ i → ¬ i < (l.length : Int) → s.length = l.length → ∃ r, L (n + 1) i s = some r ∧ P r)
  (h1 : ∀ n i s x, 0 ≤ i → i < (l.length : Int) → s.length = l.length → x ∈ l → s[i.toNat]? = some x → ∃ y, L (n + 1) i s = L n (i + 1) (s.set i.toNat y)) :
  ∀ n, l.length < n → ∃ r, L n 0 l = some r ∧ P r := by
 have key : ∀ (k n : Nat) (i : Int) (s : List α), 0 ≤ i → i.toNat ≤ l.length → l.length - i.toNat ≤ k → k < n → s.length = l.length → (∀ j, i.toNat ≤ j → s[j]? = l[j]?) → ∃ r, L n i s = some r ∧ P r := by
  intro k
  induction k with
  | zero =>
   intro n i s hi hle hk hn hs hj
   obtain ⟨n, rfl⟩ : ∃ q, n = q + 1 := ⟨n - 1, by omega⟩
   exact h0 n i s hi (by omega) hs
  | succ k ih =>
   intro n i s hi hle hk hn hs hj
   obtain ⟨n, rfl⟩ : ∃ q, n = q + 1 := ⟨n - 1, by omega⟩
   by_cases c : i < (l.length : Int)
   ·have hlt : i.toNat < l.length := by omega
    have hx : s[i.toNat]? = some l[i.toNat] := by rw [hj _ (Nat.le_refl _)]; exact List.getElem?_eq_getElem hlt
    obtain ⟨y, e⟩ := h1 n i s l[i.toNat] hi c hs (List.getElem_mem hlt) hx
    have e2 : (i + 1).toNat = i.toNat + 1 := by omega
    rw [e]
    refine ih n (i + 1) _ (by omega) (by omega) (by omega) (by omega) (by simpa using hs) (fun j hj2 => ?_)
    rw [List.getElem?_set_ne (by omega)]
    exact hj j (by omega)
   ·exact h0 n i s hi c hs
 intro n hn
 exact key l.length n 0 l (by omega) (by simp) (by simp) hn rfl (fun _ _ => rfl)
def no0 : TExpr := ⟨0, 0, [], []⟩
def u0 : TUnit := ⟨[], 1, [⟨0, [⟨11, 0, 0, no0, 3, [⟨11, 0, 0, no0, 2, [⟨5, 0, 0, no0, 0, [], []⟩], []⟩], []⟩]⟩]⟩
theorem nX_0 (n : Namer) : nX n no0 = no0 := by rw [nX_eq]; rfl
theorem th_0 : zaao no0 = false := rfl
theorem ok_5 (u : TUnit) (h : 0 < u.mutexes) : sF (nSt (nmU u 0) ⟨5, 0, 0, no0, 0, [], []⟩) = true := by
 rw [sF_eq, zadt]
 simp only [nX_0, th_0]
 have e : stN (nmU u 0) ⟨5, 0, 0, no0, 0, [], []⟩ = [120] := by
  show atL (xs u.mutexes.toNat) 0 = _
  unfold atL
  rw [zanq _ _ (by simpa using (by omega : 0 < u.mutexes.toNat))]
  have : (0 : Int) < ((xs u.mutexes.toNat).length : Int) := by simp [xs]; omega
  rw [decide_eq_true this]
  rfl
 rw [e]
 have e2 : sOk ⟨stK ⟨5, 0, 0, no0, 0, [], []⟩, stR (nmU u 0) ⟨5, 0, 0, no0, 0, [], []⟩, [120], no0, 0, nSts (nmU u 0) [], nSts (nmU u 0) []⟩ = true := by
  unfold sOk
  show ((((((true && true) && ((true && isNm [120]) || false)) && _) && _) && _) && _) = true
  rw [nm_x]
  rfl
 rw [e2]
 simp [nSts, sFs]
theorem ok_11 (u : TUnit) (c : Int) (h : 0 < c) (h2 : c ≤ 1000) (l : List TAct) (hl : sFs (nSts (nmU u 0) l) = true) : sF (nSt (nmU u 0) ⟨11, 0, 0, no0, c, l, []⟩) = true := by
 rw [sF_eq, zadt]
 simp only [nX_0, th_0, hl]
 have e2 : sOk ⟨stK ⟨11, 0, 0, no0, c, l, []⟩, stR (nmU u 0) ⟨11, 0, 0, no0, c, l, []⟩, stN (nmU u 0) ⟨11, 0, 0, no0, c, l, []⟩, no0, c, nSts (nmU u 0) l, nSts (nmU u 0) []⟩ = true := by
  unfold sOk
  show ((((((true && true) && true) && true) && (c == 0 || ((true && decide (c > 0)) && decide (c ≤ 1000)))) && true) && (false || (((nSts (nmU u 0) []).length : Int) == 0))) = true
  rw [decide_eq_true (by omega : c > 0), decide_eq_true h2, nSts]
  simp
 rw [e2]
 simp [nSts, sFs]
theorem zaut : zac1 u0 = true := by
 have hok : sFs (nSts (nmU u0 0) [⟨11, 0, 0, no0, 3, [⟨11, 0, 0, no0, 2, [⟨5, 0, 0, no0, 0, [], []⟩], []⟩], []⟩]) = true := by
  rw [nSts, sFs, nSts, sFs, Bool.and_true]
  refine ok_11 _ _ (by decide) (by decide) _ ?_
  rw [nSts, sFs, nSts, sFs, Bool.and_true]
  refine ok_11 _ _ (by decide) (by decide) _ ?_
  rw [nSts, sFs, nSts, sFs, Bool.and_true]
  exact ok_5 _ (by decide)
 have hp : zabl u0 (nmsU u0) = ⟨[], [[120]], [⟨[120], nSts (nmU u0 0) [⟨11, 0, 0, no0, 3, [⟨11, 0, 0, no0, 2, [⟨5, 0, 0, no0, 0, [], []⟩], []⟩], []⟩]⟩]⟩ := rfl
 have h1 : zadn u0 = false := rfl
 have h2 : u0.threads.all (fun t => !zabq t) = true := rfl
 unfold zac1
 rw [h1, h2, cond_false, cond_true, hp]
 unfold zahf
 have h3 : pOk ⟨[], [[120]], [⟨[120], nSts (nmU u0 0) [⟨11, 0, 0, no0, 3, [⟨11, 0, 0, no0, 2, [⟨5, 0, 0, no0, 0, [], []⟩], []⟩], []⟩]⟩]⟩ = true := by
  unfold pOk
  simp only [List.all_nil, List.all_cons, nm_x, hok]
  rfl
 have h4 : maxEv (evP ⟨[], [[120]], [⟨[120], nSts (nmU u0 0) [⟨11, 0, 0, no0, 3, [⟨11, 0, 0, no0, 2, [⟨5, 0, 0, no0, 0, [], []⟩], []⟩], []⟩]⟩]⟩) 0 = 3 := by
  simp [evP, nSts, nSt, evSs, evS, nX_0, th_0, maxEv, evD]
  rfl
 have h5 : cT [⟨[120], nSts (nmU u0 0) [⟨11, 0, 0, no0, 3, [⟨11, 0, 0, no0, 2, [⟨5, 0, 0, no0, 0, [], []⟩], []⟩], []⟩]⟩] = 3 := by
  simp [cT, cSs, cS, nSts, nSt, nX_0, th_0]
 rw [h3, h4]
 show (bif decide ((cT [⟨[120], nSts (nmU u0 0) [⟨11, 0, 0, no0, 3, [⟨11, 0, 0, no0, 2, [⟨5, 0, 0, no0, 0, [], []⟩], []⟩], []⟩]⟩] : Int) > 500) then (32 : Int) else 0) == 0
 rw [h5]
 rfl
theorem zauj : qaG = some true := by
 rw [qaG, zaaa]
 unfold qaG_f
 have e : qaz u0 = some (1, 0, [], [⟨2, [⟨1, 0, 3, 0⟩, ⟨1, 1, 2, 0⟩, ⟨24, 0, 0, 0⟩, ⟨20, 1, 2, 0⟩, ⟨20, 0, 1, 0⟩, ⟨29, 0, 0, 0⟩]⟩]) := by
  rw [zaoj u0 (by simp [u0, nB, nAs, nA, nE, nEs, no0]) (by simp [u0])]
  unfold lowV
  rw [zaut, cond_true]
  rfl
 rw [show (TUnit.mk [] 1 [TBody.mk 0 [TAct.mk 11 0 0 (TExpr.mk 0 0 [] []) 3 [TAct.mk 11 0 0 (TExpr.mk 0 0 [] []) 2 [TAct.mk 5 0 0 (TExpr.mk 0 0 [] []) 0 [] []] []] []]]) = u0 from rfl, e]
 rfl
theorem same9 (a : Image) (hc : a.cells.length ≤ 1000000) (ht : a.threads.length ≤ 1000000) (hi : ∀ t ∈ a.threads, t.instrs.length ≤ 1000000000000) : qaX a a = some true := by
 rw [qaX, zaaa]
 unfold qaX_f
 simp only [bne_self_eq_false, cond_false, Option.bind_some]
 have hL1 := zakf (fun x y => x == y) a.cells a.cells (a.cells, a.mutexes, a.threads, a.cells, a.mutexes, a.threads) (fun m i => qaX_i4 m i a.cells a.mutexes a.threads a.cells a.mutexes a.threads) rfl
  (fun m i h0 h => by
   simp only [qaX_i4, qaX_t4, decide_eq_false h, cond_false])
  (fun m i x y h0 h ha hb' ma mb => by
   have := Option.some.inj (ha.symm.trans hb')
   subst this
   simp only [qaX_i4, qaX_t4, decide_eq_true h, decide_eq_true h0, cond_true, ha, Option.bind_some, bne_self_eq_false, cond_false]
   rw [i64_in (i + 1) (by omega)]
   simp)
  fuel (by unfold fuel; omega)
 rw [qaX_l4, zaaa, hL1, zaic _ _ (by simp), cond_true]
 simp only [Option.bind_some]
 have hL2 := zakf (fun x y => decide (x = y)) a.threads a.threads () (fun m i => qaX_i9 m i a.cells a.mutexes a.threads a.cells a.mutexes a.threads) rfl
  (fun m i h0 h => by
   simp only [qaX_i9, qaX_t9, decide_eq_false h, cond_false])
  (fun m i x y h0 h ha hb' ma mb => by
   have := Option.some.inj (ha.symm.trans hb')
   subst this
   have hx := hi x ma
   have hL3 := zakf (fun x y => decide (x = y)) x.instrs x.instrs (i, a.cells, a.mutexes, a.threads, a.cells, a.mutexes, a.threads) (fun m j => qaX_i16 m i j a.cells a.mutexes a.threads a.cells a.mutexes a.threads x.regs x.instrs x.regs x.instrs) rfl
    (fun m j h0 h => by
     simp only [qaX_i16, qaX_t16, decide_eq_false h, cond_false])
    (fun m j x y h0 h ha hb' ma mb => by
     have := Option.some.inj (ha.symm.trans hb')
     subst this
     simp only [qaX_i16, qaX_t16, decide_eq_true h, decide_eq_true h0, cond_true, ha, Option.bind_some]
     rw [i64_in (j + 1) (by omega)]
     simp)
    fuel (by unfold fuel; omega)
   simp only [qaX_i9, qaX_t9, decide_eq_true h, decide_eq_true h0, cond_true, ha, Option.bind_some, bne_self_eq_false, cond_false]
   rw [qaX_l16, zaaa, hL3, zaic _ _ (by simp), cond_true]
   simp only [Option.bind_some]
   rw [i64_in (i + 1) (by omega)]
   simp)
  fuel (by unfold fuel; omega)
 rw [qaX_l9, zaaa, hL2, zaic _ _ (by simp), cond_true]
 rfl
theorem zaqm (u : TUnit) (h : nB u.threads ≤ 100000000) : (lowV u).2.2.1.length ≤ 8 ∧ (lowV u).2.2.2.length ≤ 8 ∧ ∀ t ∈ (lowV u).2.2.2, t.instrs.length ≤ 1000000000000 := by
 unfold lowV
 cases hr : zac1 u with
 | false => exact ⟨by simp, by simp, fun t ht => by simp at ht⟩
 | true =>
  obtain ⟨r1, r2, r3, r4, rt⟩ := zakj u hr
  rw [cond_true]
  refine ⟨r1, by simpa using r4, fun t ht => ?_⟩
  simp only [List.mem_map] at ht
  obtain ⟨y, hy, rfl⟩ := ht
  have hb := zahe hy
  obtain ⟨q1, q2, q3, q4⟩ := rt y hy
  have hw := zag7 u y.regs q1 q2 y.acts q3
  have hln := zaci y.regs y.acts 0 0 hw
  show (zai1 y).length ≤ _
  unfold zai1
  rw [List.length_append, List.length_cons, List.length_nil]
  omega
theorem zao7 (u : TUnit) (h : nB u.threads ≤ 100000000) (hc : u.cells.length ≤ 100000000) : qaF u = some true := by
 rw [qaF, zaaa]
 unfold qaF_f
 obtain ⟨s1, s2, s3⟩ := zaqm u h
 have hS : qaX (Image.mk (lowV u).2.2.1 (lowV u).1 (lowV u).2.2.2) (Image.mk (lowV u).2.2.1 (lowV u).1 (lowV u).2.2.2) = some true := same9 _ (by simp only; omega) (by simp only; omega) s3
 simp only [zauj, Option.bind_some, show TUnit.mk u.cells u.mutexes u.threads = u from rfl, zarp u h hc, zaoj u h hc, hS]
 have hL := zaoj u h hc
 generalize lowV u = v at s1 s2 s3 hS hL ⊢
 obtain ⟨m, e, cs, ts⟩ := v
 simp only at s1 s2 s3 hS ⊢
 obtain ⟨r6, e6, P6⟩ := zaki cs (fun r => ∃ c, c.length = cs.length ∧ r = (true, e, e, true, u.cells, u.mutexes, u.threads, m, m, cs, ts, c, ts)) (fun n i s => qaF_i6 n true e e true i u.cells u.mutexes u.threads m m cs ts s ts)
  (fun n i s h0 h hs => by
   simp only [qaF_i6, qaF_t6]
   rw [decide_eq_false (by rw [hs]; exact h), cond_false]
   exact ⟨_, rfl, s, hs, rfl⟩)
  (fun n i s x h0 h hs hm hx => by
   simp only [qaF_i6, qaF_t6]
   rw [decide_eq_true (by rw [hs]; exact h), decide_eq_true h0, hx]
   simp only [cond_true, Bool.true_and, Option.bind_some]
   rw [i64_in (i + 1) (by omega)]
   exact ⟨_, rfl⟩)
  fuel (by unfold fuel; omega)
 obtain ⟨c, hcl, rfl⟩ := P6
 rw [qaF_l6, zaaa, e6]
 simp only [Option.bind_some]
 rw [decide_eq_true (by omega), cond_true]
 obtain ⟨r11, e11, P11⟩ := zaki ts (fun r => ∃ t, r = (true, e, e, true, u.cells, u.mutexes, u.threads, m, m, cs, ts, c ++ [-78], t)) (fun n i s => qaF_i11 n true e e true i u.cells u.mutexes u.threads m m cs ts (c ++ [-78]) s)
  (fun n i s h0 h hs => by
   simp only [qaF_i11, qaF_t11]
   rw [decide_eq_false (by rw [hs]; exact h), cond_false]
   exact ⟨_, rfl, s, rfl⟩)
  (fun n i s x h0 h hs hm hx => by
   have hxi := s3 x hm
   obtain ⟨r15, e15, P15⟩ := zaki x.instrs (fun r => ∃ l, r = (true, e, e, true, i, u.cells, u.mutexes, u.threads, m, m, cs, ts, c ++ [-78], s.set i.toNat (ACode.mk x.regs l))) (fun n j l => qaF_i15 n true e e true i j u.cells u.mutexes u.threads m m l cs ts (c ++ [-78]) s i.toNat x.regs)
    (fun n j l h0 h hl => by
     simp only [qaF_i15, qaF_t15]
     rw [decide_eq_false (by rw [hl]; exact h), cond_false]
     exact ⟨_, rfl, l, rfl⟩)
    (fun n j l y h0 h hl hm hy => by
     simp only [qaF_i15, qaF_t15]
     rw [decide_eq_true (by rw [hl]; exact h), decide_eq_true h0, hy]
     simp only [cond_true, Bool.true_and, Option.bind_some]
     rw [i64_in (j + 1) (by omega)]
     exact ⟨_, rfl⟩)
    fuel (by unfold fuel; omega)
   obtain ⟨l, rfl⟩ := P15
   simp only [qaF_i11, qaF_t11]
   rw [decide_eq_true (by rw [hs]; exact h), decide_eq_true h0, hx]
   simp only [cond_true, Bool.true_and, Option.bind_some]
   rw [qaF_l15, zaaa, e15]
   simp only [Option.bind_some]
   have hlt : i.toNat < s.length := by omega
   rw [List.length_set, decide_eq_true h0, decide_eq_true (by rw [hs]; exact h), List.getElem?_set_self hlt]
   simp only [cond_true, Bool.true_and, Option.bind_some, List.set_set]
   rw [i64_in (i + 1) (by omega)]
   exact ⟨_, rfl⟩)
  fuel (by unfold fuel; omega)
 obtain ⟨t, rfl⟩ := P11
 rw [qaF_l11, zaaa, e11]
 simp only [Option.bind_some, show TUnit.mk u.cells u.mutexes u.threads = u from rfl, hL, hS, cond_true, beq_self_eq_true]
 rw [decide_eq_true (by rw [List.length_append, List.length_cons, List.length_nil]; omega)]
end Lift.A9
namespace Lift.A9
open Go Go.RowKit Lift Go.IntWalk Lift.Fn Lift.A3
set_option linter.unusedVariables false
set_option linter.unusedSimpArgs false
end Lift.A9
namespace Lift.A9
open Go Go.RowKit Lift Lift.Fn Lift.A3
set_option linter.unusedVariables false
theorem zaa4 {u : Uni} {c : TV u.U} {cs : List (TV u.U)} {N : Nat} (h : SizedL u (c :: cs) N) : ∃ a b, Sized u c a ∧ SizedL u cs b ∧ a + b + 1 ≤ N := by
 cases h with
 | cons _ _ a b _ h1 h2 h3 => exact ⟨a, b, h1, h2, h3⟩
mutual
theorem szE : ∀ (x : TExpr) (N : Nat), Sized F9.kk.u ⟨.st 57, x⟩ N → nE x ≤ N
 | ⟨k, n, m, l⟩, N, h => by
  have h1 : SizedL F9.kk.u [⟨.int .i64, k⟩, ⟨.int .i64, n⟩, ⟨.str, m⟩, ⟨.slc (.st 57), l⟩] N := h.st_inv
  obtain ⟨a1, b1, _, h1, e1⟩ := zaa4 h1
  obtain ⟨a2, b2, _, h2, e2⟩ := zaa4 h1
  obtain ⟨a3, b3, _, h3, e3⟩ := zaa4 h2
  obtain ⟨a4, b4, s4, h4, e4⟩ := zaa4 h3
  have := szEs l a4 s4.slc_inv
  rw [nE]
  omega
theorem szEs : ∀ (l : List TExpr) (N : Nat), SizedL F9.kk.u (l.map (TV.mk (.st 57))) N → nEs l ≤ N
 | [], N, h => by simp [nEs]
 | x :: l, N, h => by
  obtain ⟨a, b, h1, h2, e⟩ := zaa4 h
  have := szE x a h1
  have := szEs l b h2
  rw [nEs]
  omega
end
mutual
theorem szA : ∀ (x : TAct) (N : Nat), Sized F9.kk.u ⟨.st 59, x⟩ N → nA x ≤ N
 | ⟨k, r, ob, ⟨k', n', m', l'⟩, c, t, o⟩, N, h => by
  have h1 : SizedL F9.kk.u [⟨.int .i64, k⟩, ⟨.int .i64, r⟩, ⟨.int .i64, ob⟩, ⟨.int .i64, k'⟩, ⟨.int .i64, n'⟩, ⟨.str, m'⟩, ⟨.slc (.st 57), l'⟩, ⟨.int .i64, c⟩, ⟨.slc (.st 59), t⟩, ⟨.slc (.st 59), o⟩] N := h.st_inv
  obtain ⟨a1, b1, _, h1, e1⟩ := zaa4 h1
  obtain ⟨a2, b2, _, h2, e2⟩ := zaa4 h1
  obtain ⟨a3, b3, _, h3, e3⟩ := zaa4 h2
  obtain ⟨a4, b4, _, h4, e4⟩ := zaa4 h3
  obtain ⟨a5, b5, _, h5, e5⟩ := zaa4 h4
  obtain ⟨a6, b6, _, h6, e6⟩ := zaa4 h5
  obtain ⟨a7, b7, s7, h7, e7⟩ := zaa4 h6
  obtain ⟨a8, b8, _, h8, e8⟩ := zaa4 h7
  obtain ⟨a9, b9, s9, h9, e9⟩ := zaa4 h8
  obtain ⟨a10, b10, s10, h10, e10⟩ := zaa4 h9
  have := szEs l' a7 s7.slc_inv
  have := szAs t a9 s9.slc_inv
  have := szAs o a10 s10.slc_inv
  rw [nA, nE]
  omega
theorem szAs : ∀ (l : List TAct) (N : Nat), SizedL F9.kk.u (l.map (TV.mk (.st 59))) N → nAs l ≤ N
 | [], N, h => by simp [nAs]
 | x :: l, N, h => by
  obtain ⟨a, b, h1, h2, e⟩ := zaa4 h
  have := szA x a h1
  have := szAs l b h2
  rw [nAs]
  omega
end
theorem szB : ∀ (l : List TBody) (N : Nat), SizedL F9.kk.u (l.map (TV.mk (.st 51))) N → nB l ≤ N
 | [], N, h => by simp [nB]
 | ⟨m, t⟩ :: l, N, h => by
  obtain ⟨a, b, h1, h2, e⟩ := zaa4 h
  have h3 : SizedL F9.kk.u [⟨.int .i64, m⟩, ⟨.slc (.st 59), t⟩] a := h1.st_inv
  obtain ⟨a1, b1, _, h3, e1⟩ := zaa4 h3
  obtain ⟨a2, b2, s2, h4, e2⟩ := zaa4 h3
  have := szAs t a2 s2.slc_inv
  have := szB l b h2
  rw [nB]
  show 1 + nAs t + nB l ≤ N
  omega
structure Small (y : TUnit) : Prop where
 t : nB y.threads ≤ 100000000
 c : y.cells.length ≤ 100000000
theorem small (y : TUnit) (h : Sized F9.kk.u ⟨.st 25, y⟩ 1048576) : Small y := by
 obtain ⟨c, m, t⟩ := y
 have h1 : SizedL F9.kk.u [⟨.slc (.int .i64), c⟩, ⟨.int .i64, m⟩, ⟨.slc (.st 51), t⟩] 1048576 := h.st_inv
 obtain ⟨a1, b1, s1, h1, e1⟩ := zaa4 h1
 obtain ⟨a2, b2, s2, h2, e2⟩ := zaa4 h1
 obtain ⟨a3, b3, s3, h3, e3⟩ := zaa4 h2
 have := szB t a3 s3.slc_inv
 have q1 : c.length ≤ a1 := s1.slc_len
 exact ⟨by show nB t ≤ _; omega, by show c.length ≤ _; omega⟩
theorem lowerMakes2 (u : TUnit) (h : Small u) : qaF u = some true := zao7 u h.t h.c
end Lift.A9
