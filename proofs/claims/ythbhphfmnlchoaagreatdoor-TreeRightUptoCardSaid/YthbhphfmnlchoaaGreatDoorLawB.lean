/-
  DERIVED. The Lean functions answer as the laws say. Conditions: as each theorem says.
-/
import Derived.Test.YthbhphfmnlchoaaGreatDoorLawA
set_option linter.unusedVariables false
set_option linter.unusedSimpArgs false
set_option linter.unusedSectionVars false
namespace Lift.A3
open Go Go.RowKit Lift Go.IntWalk Lift.Fn
set_option linter.unusedVariables false
set_option linter.unusedSimpArgs false
def sy0 : TStmt := TStmt.mk (4 : Int) [(114 : UInt8)] [(120 : UInt8)] (TExpr.mk (5 : Int) (0 : Int) [] [TExpr.mk (2 : Int) (0 : Int) [(114 : UInt8)] [], TExpr.mk (2 : Int) (0 : Int) [(113 : UInt8)] []]) (0 : Int) [] []
def p0 (c : List UInt8) : TProg := TProg.mk [TCell.mk c (0 : Int)] [] [TThread.mk [(116 : UInt8)] [sy0]]
theorem sF0 : sF sy0 = true := by
  have h4 : shp 4 = ⟨true, true, true, false, false, false⟩ := by decide
  have hi : inR 4 = true := by decide
  simp [sF, sy0, sOk, h4, hi, isOpt, nm_x, nm_r, thereB, eF, eFs, xOk, nm_q, sFs]
theorem pOk0 : pOk (p0 [120]) = true := by
  simp [pOk, p0, cOk, nm_x, nm_t, sFs, sF0]
theorem pOk1 : pOk (p0 [105, 102]) = false := by
  simp [pOk, p0, cOk, nm_if]
theorem shown1 : qav = some true := by
  rw [qav, sealF_eq]
  unfold qav_f
  have n0 : ∀ c, nT (p0 c).threads ≤ 100000000 := by intro c; show nT [TThread.mk [(116 : UInt8)] [sy0]] ≤ 100000000; simp [nT, nSs, nS, sy0, nE, nEs]
  have n1 : ∀ c, (p0 c).cells.length ≤ 100000000 := by intro c; show 1 ≤ _; omega
  have n2 : ∀ c, (p0 c).mutexes.length ≤ 100000000 := by intro c; show 0 ≤ _; omega
  have r0 : rightV (p0 [120]) = 0 := by
    unfold rightV
    rw [pOk0]
    have h1 : maxEv (evP (p0 [120])) 0 = 2 := by simp [evP, p0, evSs, evS, sy0, thereB, evE, evEs, maxEv, evD]; rfl
    have h2 : cT (p0 [120]).threads = 4 := by simp [p0, cT, cSs, cS, sy0, thereB, nE, nEs]
    rw [h1, h2]
    rfl
  have r1 : rightV (p0 [105, 102]) = 30 := by
    unfold rightV
    rw [pOk1]
    rfl
  have e1 := treeRight (p0 [120]) (n0 _) (n1 _) (n2 _)
  have e2 := treeCount (p0 [120]) (Nat.le_trans (n0 _) (by decide))
  have e3 := treeDeep (p0 [120]) (Nat.le_trans (n0 _) (by decide))
  have e4 := treeNames (p0 [120]) (n0 _) (n1 _) (n2 _)
  have e5 := treeCopy (p0 [120]) (n0 _) (n1 _) (n2 _)
  have e6 := fun q => treeSame (p0 [120]) q (n0 _) (n1 _) (n2 _)
  have e7 := treeRight (p0 [105, 102]) (n0 _) (n1 _) (n2 _)
  have h1 : maxEv (evP (p0 [120])) 0 = 2 := by simp [evP, p0, evSs, evS, sy0, thereB, evE, evEs, maxEv, evD]; rfl
  have h2 : cT (p0 [120]).threads = 4 := by simp [p0, cT, cSs, cS, sy0, thereB, nE, nEs]
  have h3 : (allNm (p0 [120])).foldl putN [] = [[120], [116], [114], [113]] := by
    have : allNm (p0 [120]) = [[120], [116], [114], [120], [], [114], [113]] := by simp [allNm, evP, p0, evSs, evS, sy0, thereB, evE, evEs, nms, evNm]
    rw [this]
    decide
  have h6 : sP (p0 [120]) (TProg.mk [] [] []) = false := rfl
  rw [r0] at e1
  rw [h2] at e2
  rw [h1] at e3
  rw [h3] at e4
  rw [r1] at e7
  show Option.bind (qbF (p0 [120])) _ = _
  rw [e1, Option.bind_some]
  show Option.bind (qbv (p0 [120])) _ = _
  rw [e2, Option.bind_some]
  show Option.bind (qby (p0 [120])) _ = _
  rw [e3, Option.bind_some]
  show Option.bind (qbB (p0 [120])) _ = _
  rw [e4, Option.bind_some]
  show Option.bind (qbr (p0 [120])) _ = _
  rw [e5, Option.bind_some]
  show Option.bind (qbG (p0 [120]) (p0 [120])) _ = _
  rw [e6, sP_refl, Option.bind_some]
  show Option.bind (qbG (p0 [120]) (TProg.mk [] [] [])) _ = _
  rw [e6, h6, Option.bind_some]
  show Option.bind (qbF (p0 [105, 102])) _ = _
  rw [e7, Option.bind_some]
  rfl
theorem lawRight (p : TProg) (h : nT p.threads ≤ 100000000) (h1 : p.cells.length ≤ 100000000) (h2 : p.mutexes.length ≤ 100000000) : qau p = some true := by
  rw [qau, sealF_eq]
  unfold qau_f
  rw [shown1, mk_prog, refCopy p h h1 h2, refRight p h h1 h2]
  simp only [Option.bind_some, mk_prog]
  rw [treeRight p h h1 h2, refSame p p h h1 h2, sP_refl]
  simp
end Lift.A3
namespace Lift.A3
open Go Go.RowKit Lift Lift.Fn
set_option linter.unusedVariables false
theorem sl_cons {u : Uni} {c : TV u.U} {cs : List (TV u.U)} {N : Nat} (h : SizedL u (c :: cs) N) : ∃ a b, Sized u c a ∧ SizedL u cs b ∧ a + b + 1 ≤ N := by
  cases h with
  | cons _ _ a b _ h1 h2 h3 => exact ⟨a, b, h1, h2, h3⟩
mutual
theorem szE : ∀ (x : TExpr) (N : Nat), Sized F3.kk.u ⟨.st 41, x⟩ N → nE x ≤ N
  | ⟨k, n, m, l⟩, N, h => by
    have h1 : SizedL F3.kk.u [⟨.int .i64, k⟩, ⟨.int .i64, n⟩, ⟨.str, m⟩, ⟨.slc (.st 41), l⟩] N := h.st_inv
    obtain ⟨a1, b1, _, h1, e1⟩ := sl_cons h1
    obtain ⟨a2, b2, _, h2, e2⟩ := sl_cons h1
    obtain ⟨a3, b3, _, h3, e3⟩ := sl_cons h2
    obtain ⟨a4, b4, s4, h4, e4⟩ := sl_cons h3
    have := szEs l a4 s4.slc_inv
    rw [nE]
    omega
theorem szEs : ∀ (l : List TExpr) (N : Nat), SizedL F3.kk.u (l.map (TV.mk (.st 41))) N → nEs l ≤ N
  | [], N, h => by simp [nEs]
  | x :: l, N, h => by
    obtain ⟨a, b, h1, h2, e⟩ := sl_cons h
    have := szE x a h1
    have := szEs l b h2
    rw [nEs]
    omega
end
mutual
theorem szS : ∀ (x : TStmt) (N : Nat), Sized F3.kk.u ⟨.st 43, x⟩ N → nS x ≤ N
  | ⟨k, r, m, ⟨k', n', m', l'⟩, c, t, o⟩, N, h => by
    have h1 : SizedL F3.kk.u [⟨.int .i64, k⟩, ⟨.str, r⟩, ⟨.str, m⟩, ⟨.int .i64, k'⟩, ⟨.int .i64, n'⟩, ⟨.str, m'⟩, ⟨.slc (.st 41), l'⟩, ⟨.int .i64, c⟩, ⟨.slc (.st 43), t⟩, ⟨.slc (.st 43), o⟩] N := h.st_inv
    obtain ⟨a1, b1, _, h1, e1⟩ := sl_cons h1
    obtain ⟨a2, b2, _, h2, e2⟩ := sl_cons h1
    obtain ⟨a3, b3, _, h3, e3⟩ := sl_cons h2
    obtain ⟨a4, b4, _, h4, e4⟩ := sl_cons h3
    obtain ⟨a5, b5, _, h5, e5⟩ := sl_cons h4
    obtain ⟨a6, b6, _, h6, e6⟩ := sl_cons h5
    obtain ⟨a7, b7, s7, h7, e7⟩ := sl_cons h6
    obtain ⟨a8, b8, _, h8, e8⟩ := sl_cons h7
    obtain ⟨a9, b9, s9, h9, e9⟩ := sl_cons h8
    obtain ⟨a10, b10, s10, h10, e10⟩ := sl_cons h9
    have := szEs l' a7 s7.slc_inv
    have := szSs t a9 s9.slc_inv
    have := szSs o a10 s10.slc_inv
    rw [nS, nE]
    omega
theorem szSs : ∀ (l : List TStmt) (N : Nat), SizedL F3.kk.u (l.map (TV.mk (.st 43))) N → nSs l ≤ N
  | [], N, h => by simp [nSs]
  | x :: l, N, h => by
    obtain ⟨a, b, h1, h2, e⟩ := sl_cons h
    have := szS x a h1
    have := szSs l b h2
    rw [nSs]
    omega
end
theorem szT : ∀ (l : List TThread) (N : Nat), SizedL F3.kk.u (l.map (TV.mk (.st 38))) N → nT l ≤ N
  | [], N, h => by simp [nT]
  | ⟨m, t⟩ :: l, N, h => by
    obtain ⟨a, b, h1, h2, e⟩ := sl_cons h
    have h3 : SizedL F3.kk.u [⟨.str, m⟩, ⟨.slc (.st 43), t⟩] a := h1.st_inv
    obtain ⟨a1, b1, _, h3, e1⟩ := sl_cons h3
    obtain ⟨a2, b2, s2, h4, e2⟩ := sl_cons h3
    have := szSs t a2 s2.slc_inv
    have := szT l b h2
    rw [nT]
    show 1 + nSs t + nT l ≤ N
    omega
structure Small (y : TProg) : Prop where
  t : nT y.threads ≤ 100000000
  c : y.cells.length ≤ 100000000
  m : y.mutexes.length ≤ 100000000
theorem small (y : TProg) (h : Sized F3.kk.u ⟨.st 26, y⟩ 1048576) : Small y := by
  obtain ⟨c, m, t⟩ := y
  have h1 : SizedL F3.kk.u [⟨.slc (.st 46), c⟩, ⟨.slc .str, m⟩, ⟨.slc (.st 38), t⟩] 1048576 := h.st_inv
  obtain ⟨a1, b1, s1, h1, e1⟩ := sl_cons h1
  obtain ⟨a2, b2, s2, h2, e2⟩ := sl_cons h1
  obtain ⟨a3, b3, s3, h3, e3⟩ := sl_cons h2
  have := s1.slc_len
  have := s2.slc_len
  have := szT t a3 s3.slc_inv
  have q1 : c.length ≤ a1 := s1.slc_len
  have q2 : m.length ≤ a2 := s2.slc_len
  exact ⟨by show nT t ≤ _; omega, by show c.length ≤ _; omega, by show m.length ≤ _; omega⟩
theorem treeRight1 (p : TProg) (h : Small p) : qau p = some true := lawRight p h.t h.c h.m
end Lift.A3
