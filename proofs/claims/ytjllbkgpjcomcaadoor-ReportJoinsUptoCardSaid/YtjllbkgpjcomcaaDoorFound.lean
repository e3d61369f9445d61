/-
  DERIVED. A loop over a library's iterator, and the function that holds it. Conditions: as each theorem says.
-/
import Derived.Test.YtjllbkgpjcomcaaDoorDefs
import Derived.RangeFuncKeeps
import Derived.RangeFuncLeaves
import Derived.Shelf.Abstract
import Derived.Shelf.RegionOpen
import Derived.WalkKit
import Derived.OwnWalkIn
import Derived.TacticsInMore
import Derived.LoopNIn
import Derived.LoopIn
import Derived.Shelf.Strings.Search3
set_option linter.unusedVariables false
set_option linter.unusedSimpArgs false
set_option linter.unusedSectionVars false
/- strings.SplitSeq's iterator. -/
set_option linter.unusedVariables false
namespace Go.Proofs
open Go.RowKit Go.Shelf
def Tryd.laysIndex_ren : Go.Shelf.Ren := ⟨fun | 143 => 61 | 219 => 58 | 217 => 65 | 225 => 66 | 224 => 67 | 267 => 68 | 266 => 78 | 314 => 79 | n => n, fun | 9 => 9 | 3 => 3 | 4 => 4 | 5 => 5 | 46 => 93 | 146 => 104 | 51 => 103 | n => n, fun | 1 => 0 | n => n⟩
theorem Tryd.laysIndex : Go.Proofs.LaysM.n143 Tryd.prog Tryd.laysIndex_ren where
  mixed := by kernel_rfl
  f143 := Tryd.func61.trans (congrArg some (by kernel_rfl))
  f217 := Tryd.func65.trans (congrArg some (by kernel_rfl))
  f219 := Tryd.func58.trans (congrArg some (by kernel_rfl))
  f224 := Tryd.func67.trans (congrArg some (by kernel_rfl))
  f225 := Tryd.func66.trans (congrArg some (by kernel_rfl))
  f266 := Tryd.func78.trans (congrArg some (by kernel_rfl))
  f267 := Tryd.func68.trans (congrArg some (by kernel_rfl))
  f314 := Tryd.func79.trans (congrArg some (by kernel_rfl))
  t3 := Tryd.underlying3
  a3 := Tryd.isAgg3
  z3 := Tryd.sizeOf3
  v3 := Tryd.zeroValue3
  t4 := Tryd.underlying4
  a4 := Tryd.isAgg4
  z4 := Tryd.sizeOf4
  v4 := Tryd.zeroValue4
  t5 := Tryd.underlying5
  a5 := Tryd.isAgg5
  z5 := Tryd.sizeOf5
  v5 := Tryd.zeroValue5
  t9 := Tryd.underlying9
  a9 := Tryd.isAgg9
  z9 := Tryd.sizeOf9
  v9 := Tryd.zeroValue9
  t46 := Tryd.underlying93
  a46 := Tryd.isAgg93
  z46 := Tryd.sizeOf93
  v46 := Tryd.zeroValue93
  t51 := Tryd.underlying103
  a51 := Tryd.isAgg103
  z51 := Tryd.sizeOf103
  v51 := Tryd.zeroValue103
  t146 := Tryd.underlying104
  a146 := Tryd.isAgg104
  z146 := Tryd.sizeOf104
  v146 := Tryd.zeroValue104
  g1 := by kernel_rfl
  i3 := by kernel_rfl
  i4 := by kernel_rfl
  i5 := by kernel_rfl
  i9 := by kernel_rfl
  i46 := by kernel_rfl
  i51 := by kernel_rfl
  i146 := by kernel_rfl
  m1 := by kernel_rfl
  s1_3 := fun w h => Go.Proofs.cell_of_shapedOpen_int (zero := #[.int .i64 0]) (t := 3) h (of_decide_eq_true (by kernel_rfl)) (by kernel_rfl) rfl (by kernel_rfl) (by kernel_rfl) Tryd.underlying3

attribute [local go_sem] Oper.semAt_some

open Lift (pieces)

/-- How much is still to come. -/
def leftOf (b : Nat) (W : World) : Nat := match W.cell? ⟨b, 0, none⟩ with
  | some (.string s) => s.size
  | _ => 0

theorem pieces_ne (c : UInt8) (s : List UInt8) : pieces c s ≠ [] := by
  cases s with
  | nil => simp [Lift.pieces]
  | cons x s =>
    unfold Lift.pieces
    cases x == c with
    | true => simp
    | false =>
      simp only [cond_false]
      split <;> simp

theorem pieces_at (c : UInt8) : ∀ r : List UInt8, (Lib.indexByte r c = -1 ∧ pieces c r = [r]) ∨ ∃ k : Nat, k < r.length ∧ Lib.indexByte r c = (k : Int) ∧ pieces c r = r.take k :: pieces c (r.drop (k + 1))
  | [] => .inl ⟨rfl, rfl⟩
  | x :: r => by
    have ih := pieces_at c r
    have e : pieces c (x :: r) = bif x == c then [] :: pieces c r else match pieces c r with
      | p :: ps => (x :: p) :: ps
      | [] => [[x]] := rfl
    rw [e]
    unfold Lib.indexByte
    cases hx : x == c with
    | true =>
      right
      refine ⟨0, by simp, ?_, by simp⟩
      simp [hx]
    | false =>
      rcases ih with ⟨h1, h2⟩ | ⟨k, h1, h2, h3⟩
      · left
        refine ⟨?_, ?_⟩
        · simp [hx, h1]
        · rw [h2]; rfl
      · right
        refine ⟨k + 1, by simp; omega, ?_, ?_⟩
        · simp [hx, h2]
        · rw [h3]; simp

set_option maxRecDepth 100000 in
set_option maxHeartbeats 1000000 in
theorem Tryd.seq_in (n l b1 b2 b3 : Nat) (c : UInt8) (s : List UInt8) (h12 : b1 ≠ b2) (h32 : b3 ≠ b2) (J Jx : List (List UInt8) → World → Prop)
    (hJ : ∀ pre W W', J pre W → W.grownBy W' (some b2) → J pre W')
    (hY : ∀ pre x W, J pre W → pre ++ [x] <+: pieces c s → YieldAt Fence.wide (n - 1) Tryd.prog l #[.string ⟨(x : List UInt8).toArray⟩] W fun e W' =>
      (e = .returned (.bool true) ∧ J (pre ++ [x]) W' ∧ ∀ b, (b = b1 ∨ b = b2 ∨ b = b3) → W'.heap[b]? = W.heap[b]?) ∨ (e = .returned (.bool false) ∧ Jx (pre ++ [x]) W'))
    (W : World) (H1 : W.heap[b1]? = some (.cells #[.string ⟨#[c]⟩] 9 (0, 0))) (H2 : W.heap[b2]? = some (.cells #[.string ⟨s.toArray⟩] 9 (0, 0))) (H3 : W.heap[b3]? = some (.cells #[.int .i64 0] 3 (0, 0)))
    (hs : s.length ≤ 1000000000000) (h0 : J [] W) :
    CallsIn Fence.wide n Tryd.prog 72 #[.func (.yield l) #[] #[], .pointer (some ⟨b1, 0, none⟩), .pointer (some ⟨b2, 0, none⟩), .pointer (some ⟨b3, 0, none⟩)] W fun e W' => (∃ v, e = .returned v) ∧
      (J (pieces c s) W' ∨ ∃ pre, pre <+: pieces c s ∧ Jx pre W') := by
  refine callsIn_of_wp Tryd.func72 rfl trivial ?_ rfl
  simp only [Tryd.ntmps72, List.size_toArray, List.length_cons, List.length_nil, Nat.reduceAdd, Nat.reduceSub, Array.replicate_succ, Array.replicate_zero, List.push_toArray, List.append_toArray, List.nil_append, List.cons_append]
  have c1 : W.cell? ⟨b1, 0, none⟩ = some (.string ⟨#[c]⟩) := by rw [Lib.cell_of_heap H1]; rfl
  gi_wp2
  gi_loopw [] (fun wr => ∃ (pre : List (List UInt8)) (r : List UInt8), pieces c s = pre ++ pieces c r ∧ r.length ≤ s.length ∧ wr.heap[b1]? = some (.cells #[.string ⟨#[c]⟩] 9 (0, 0)) ∧ wr.heap[b2]? = some (.cells #[.string ⟨r.toArray⟩] 9 (0, 0)) ∧ wr.heap[b3]? = some (.cells #[.int .i64 0] 3 (0, 0)) ∧ J pre wr)
    (fun wr => leftOf b2 wr)
  case atStart =>
    exact ⟨[], s, rfl, Nat.le_refl _, H1, H2, H3, h0⟩
  case round =>
    obtain ⟨pre, r, hx, hl, G1, G2, G3, hJs⟩ := hrel
    have c1 : wr.cell? ⟨b1, 0, none⟩ = some (.string ⟨#[c]⟩) := by rw [Lib.cell_of_heap G1]; rfl
    have c2 : wr.cell? ⟨b2, 0, none⟩ = some (.string ⟨r.toArray⟩) := by rw [Lib.cell_of_heap G2]; rfl
    have c3 : wr.cell? ⟨b3, 0, none⟩ = some (.int .i64 0) := by rw [Lib.cell_of_heap G3]; rfl
    gi_wp2
    refine ⟨trivial, fun h => (by cases h), (callsIn_wide.2 (Any.strings_Index_one (ρ := Tryd.laysIndex_ren) { Tryd.laysIndex with } ⟨r.toArray⟩ c wr)).mono ?_⟩
    rintro e w' ⟨rfl, rfl⟩
    simp only
    rcases pieces_at c r with ⟨hi, hp⟩ | ⟨k, hk, hi, hp⟩
    · rw [hi]
      obtain ⟨fn, tmps, assign, body, hy, hR⟩ := hY pre r w' hJs (by rw [hx, hp]; exact List.prefix_refl _)
      gi_wp2
      refine ⟨fun h => (by cases h), hR.mono ?_⟩
      rintro e W3 (⟨rfl, hJ3, hk3⟩ | ⟨rfl, hJx3⟩)
      · gi_wp2
        go_end0
        exact ⟨⟨_, rfl⟩, .inl (by rw [hx, hp]; exact hJ3)⟩
      · gi_wp2
        go_end0
        exact ⟨⟨_, rfl⟩, .inr ⟨pre ++ [r], by rw [hx, hp]; exact List.prefix_refl _, hJx3⟩⟩
    · rw [hi]
      obtain ⟨fn, tmps, assign, body, hy, hR⟩ := hY pre (r.take k) w' hJs (by rw [hx, hp]; exact ⟨pieces c (r.drop (k + 1)), by simp⟩)
      have hk0 : ¬ (k : Int) < 0 := by omega
      have he : (⟨(r.take k).toArray⟩ : ByteArray) = (⟨r.toArray⟩ : ByteArray).extract 0 k := by
        apply ByteArray.ext
        simp [ByteArray.data_extract]
      rw [he] at hy
      gi_wp2
      refine ⟨fun h => (by cases h), hR.mono ?_⟩
      rintro e W3 (⟨rfl, hJ3, hk3⟩ | ⟨rfl, hJx3⟩)
      · have d1 : W3.cell? ⟨b1, 0, none⟩ = some (.string ⟨#[c]⟩) := by rw [Lib.cell_of_heap ((hk3 b1 (.inl rfl)).trans G1)]; rfl
        have d2 : W3.cell? ⟨b2, 0, none⟩ = some (.string ⟨r.toArray⟩) := by rw [Lib.cell_of_heap ((hk3 b2 (.inr (.inl rfl))).trans G2)]; rfl
        have d3 : W3.cell? ⟨b3, 0, none⟩ = some (.int .i64 0) := by rw [Lib.cell_of_heap ((hk3 b3 (.inr (.inr rfl))).trans G3)]; rfl
        have f2 : W3.frozen? ⟨b2, 0, none⟩ = false := by
          unfold World.frozen?
          rw [(hk3 b2 (.inr (.inl rfl))).trans G2]
          rfl
        gi_wp2
        have he2 : (⟨r.toArray⟩ : ByteArray).extract (k + 1) r.length = ⟨(r.drop (k + 1)).toArray⟩ := by
          apply ByteArray.ext
          rw [ByteArray.data_extract]
          apply Array.ext'
          simp only [Array.toList_extract, List.extract_eq_take_drop]
          rw [List.take_of_length_le (by simp)]
        have g2 : W3.heap[b2]? = some (.cells #[.string ⟨r.toArray⟩] 9 (0, 0)) := (hk3 b2 (.inr (.inl rfl))).trans G2
        have hset : W3.setCell ⟨b2, 0, none⟩ (.string ((⟨r.toArray⟩ : ByteArray).extract (k + 1) r.length)) = W3.setRow b2 #[.string ⟨(r.drop (k + 1)).toArray⟩] := by
          rw [he2, setCell_eq_setRow W3 b2 0 _ _ _ _ g2]; rfl
        rw [hset]
        have o2 := setRow_heap W3 b2 _ #[.string ⟨(r.drop (k + 1)).toArray⟩] 9 (0, 0) g2
        have hlt : (r.drop (k + 1)).length < r.length := by rw [List.length_drop]; omega
        refine ⟨⟨pre ++ [r.take k], r.drop (k + 1), by rw [hx, hp]; simp, by omega, ?_, o2, ?_, hJ _ _ _ hJ3 Lift.setRow_grown⟩, ?_⟩
        · rw [setRow_other W3 b2 b1 _ h12, hk3 b1 (.inl rfl)]; exact G1
        · rw [setRow_other W3 b2 b3 _ h32, hk3 b3 (.inr (.inr rfl))]; exact G3
        · unfold leftOf
          rw [Lib.cell_of_heap o2, Lib.cell_of_heap G2]
          simp [ByteArray.size]
          omega
      · gi_wp2
        refine bodyPost_ret (results_none rfl _ _ _) rfl ?_
        exact ⟨⟨_, rfl⟩, .inr ⟨pre ++ [r.take k], by rw [hx, hp]; exact ⟨pieces c (r.drop (k + 1)), by simp⟩, hJx3⟩⟩
end Go.Proofs

/- strings.SplitSeq. -/
set_option linter.unusedVariables false
namespace Go.Proofs
open Go.RowKit Go.Shelf Lift

/-- The world behind SplitSeq. -/
def seqWorld (w : World) (s sep : ByteArray) : World := ((w.alloc (.cells #[.string s] 9)).alloc (.cells #[.string sep] 9)).alloc (.cells #[.int .i64 0] 3)

set_option maxRecDepth 100000 in
set_option maxHeartbeats 1000000 in
theorem Tryd.splitSeq_in (n : Nat) (s sep : ByteArray) (w : World) :
    CallsIn Fence.wide n Tryd.prog 62 #[.string s, .string sep, .int .i64 0] w fun e w' => e = .returned (.func (.func 72) #[] #[.pointer (some ⟨w.heap.size + 1, 0, none⟩), .pointer (some ⟨w.heap.size, 0, none⟩), .pointer (some ⟨w.heap.size + 2, 0, none⟩)]) ∧ w' = seqWorld w s sep := by
  refine callsIn_of_wp Tryd.func62 rfl trivial ?_ rfl
  simp only [Tryd.ntmps62, List.size_toArray, List.length_cons, List.length_nil, Nat.reduceAdd, Nat.reduceSub, Array.replicate_succ, Array.replicate_zero, List.push_toArray, List.append_toArray, List.nil_append, List.cons_append]
  gi_wp2
  go_ret
  exact ⟨rfl, rfl⟩

set_option maxRecDepth 100000 in
set_option maxHeartbeats 1000000 in
theorem Tryd.SplitSeq_in (n : Nat) (s sep : ByteArray) (w : World) :
    CallsIn Fence.wide n Tryd.prog 49 #[.string s, .string sep] w fun e w' => e = .returned (.func (.func 72) #[] #[.pointer (some ⟨w.heap.size + 1, 0, none⟩), .pointer (some ⟨w.heap.size, 0, none⟩), .pointer (some ⟨w.heap.size + 2, 0, none⟩)]) ∧ w' = seqWorld w s sep := by
  refine callsIn_of_wp Tryd.func49 rfl trivial ?_ rfl
  simp only [Tryd.ntmps49, List.size_toArray, List.length_cons, List.length_nil, Nat.reduceAdd, Nat.reduceSub, Array.replicate_succ, Array.replicate_zero, List.push_toArray, List.append_toArray, List.nil_append, List.cons_append]
  gi_wp2
  refine ⟨trivial, fun h => (by cases h), (Tryd.splitSeq_in (n - 1) s sep w).mono ?_⟩
  rintro e w' ⟨rfl, rfl⟩
  gi_wp2
  go_ret
  exact ⟨rfl, rfl⟩

/-- What SplitSeq hands back is an iterator over the pieces. -/
theorem Tryd.seqZ (s : List UInt8) (c : UInt8) (hs : s.length ≤ 1000000000000) (w : World) (b : Nat) (h0 : w.heap[b]? = some (.cells #[.string ⟨s.toArray⟩] 9 (0, 0))) (h1 : w.heap[b + 1]? = some (.cells #[.string ⟨#[c]⟩] 9 (0, 0))) (h2 : w.heap[b + 2]? = some (.cells #[.int .i64 0] 3 (0, 0))) :
    SeqZ Tryd.prog 72 #[.pointer (some ⟨b + 1, 0, none⟩), .pointer (some ⟨b, 0, none⟩), .pointer (some ⟨b + 2, 0, none⟩)] b [b + 1, b, b + 2] (pieces c s) w := by
  intro n l J Jx W hJ hY hk hJ0
  refine Tryd.seq_in n l (b + 1) b (b + 2) c s (by omega) (by omega) J Jx hJ (fun pre x W1 h hp => ?_) W ((hk _ (by simp)).trans h1) ((hk _ (by simp)).trans h0) ((hk _ (by simp)).trans h2) hs hJ0
  obtain ⟨fn, tmps, assign, body, hy, hR⟩ := hY pre x W1 h hp
  refine ⟨fn, tmps, assign, body, hy, hR.mono ?_⟩
  rintro e W' (⟨he, hj, hk'⟩ | h)
  · exact .inl ⟨he, hj, fun d hd => hk' d (by rcases hd with rfl | rfl | rfl <;> simp)⟩
  · exact .inr h
end Go.Proofs

/- found's code, in parts. -/
namespace Lift.D2.F
open Go Go.RowKit Go.Proofs Lift Lift.Fn

def seqL : Code → Code
  | .seq a _ => a
  | c => c
def seqR : Code → Code
  | .seq _ b => b
  | c => c
def thenC : Code → Code
  | .cond _ a _ => a
  | c => c
def inB : Code → Code
  | .block _ a => a
  | c => c
def rfAssign : Code → Code
  | .rangeFunc _ _ a _ => a
  | c => c
def rfBody : Code → Code
  | .rangeFunc _ _ _ b => b
  | c => c

noncomputable def c0 : Code := bodyOf Tryd.f30
noncomputable def r0 : Code := seqL c0
noncomputable def c1 : Code := seqR c0
noncomputable def r1 : Code := seqL c1
noncomputable def c2 : Code := seqR c1
noncomputable def rX : Code := seqL c2
noncomputable def c3 : Code := seqR c2
noncomputable def cY : Code := seqL c3
noncomputable def cZ : Code := seqR c3
noncomputable def r18 : Code := seqL cY
noncomputable def c4 : Code := seqR cY
noncomputable def r19 : Code := seqL c4
noncomputable def cC : Code := seqR c4
noncomputable def cT : Code := thenC cC
noncomputable def r20 : Code := seqL cT
noncomputable def rf : Code := inB (seqR cT)
noncomputable def rfA : Code := rfAssign rf
noncomputable def rfB : Code := rfBody rf
noncomputable def preC : Code := .seq r0 (.seq r1 (.seq rX (.seq r18 r19)))

noncomputable def sh0 : StSh := ⟨⟨[0], [], []⟩, [.t (.slc .str)], []⟩
noncomputable def shP : StSh := ⟨⟨[2, 3, 4, 55], [2, 3], [⟨.cell 3 4, 20154, 3, .int .i64⟩]⟩, [.ptr 2 0, .ptr 3 0, .t .str, .t .bool],
  [.blk 30 [.junk, .junk, .junk, .junk, .junk], .blk 30 [.t (.int .i64), .t (.int .i64), .t (.int .i64), .t (.int .i64), .oslc 20154], .row 3 (.int .i64)]⟩
noncomputable def shZ : StSh := ⟨⟨[2, 3], [2, 3], [⟨.cell 3 4, 20154, 3, .int .i64⟩]⟩, [.ptr 2 0, .ptr 3 0],
  [.blk 30 [.junk, .junk, .junk, .junk, .junk], .blk 30 [.t (.int .i64), .t (.int .i64), .t (.int .i64), .t (.int .i64), .oslc 20154], .row 3 (.int .i64)]⟩
noncomputable def shB : StSh := ⟨⟨[3, 5], [100003], [⟨.cell 100003 4, 200304, 3, .int .i64⟩]⟩, [.ptr 100003 0, .t .str], [.blk 30 [.t (.int .i64), .t (.int .i64), .t (.int .i64), .t (.int .i64), .oslc 200304], .row 3 (.int .i64)]⟩
noncomputable def shO : StSh := ⟨⟨[0], [], []⟩, [.t (.st 30)], []⟩
noncomputable def kF : Kit := Kit.withModes kk (modesOf ms2)
end Lift.D2.F

/- found's code: what its parts compute. -/
namespace Lift.D2.F
open Go Go.RowKit Go.Proofs Lift Lift.Fn

noncomputable def encP : List (TV U) → Option ((List UInt8) × Bool × Int × Int × Int × Int × (List Int))
  | [⟨.str, s⟩, ⟨.bool, b⟩, ⟨.int .i64, k⟩, ⟨.int .i64, t⟩, ⟨.int .i64, o⟩, ⟨.int .i64, w⟩, ⟨.slc (.int .i64), l⟩] => some (s, b, k, t, o, w, l)
  | _ => none

noncomputable def kP (e : Xit) (σ : St U) : Option ((List UInt8) × Bool × Int × Int × Int × Int × (List Int)) := match e with
  | .normal => (enter kF.u shP (look σ.tm) (look σ.st)).bind encP
  | _ => none

theorem preE (a0 : List (List UInt8)) : kF.exec Tryd.f30.ntmps (fun _ => none) preC (StSh.fill sh0 [⟨.slc .str, a0⟩]) kP = found_pre a0 := by kernel_rfl

noncomputable def encB : List (TV U) → Option (Int × Int × Int × Int × (List Int))
  | [⟨.str, _⟩, ⟨.int .i64, k⟩, ⟨.int .i64, t⟩, ⟨.int .i64, o⟩, ⟨.int .i64, w⟩, ⟨.slc (.int .i64), l⟩] => some (k, t, o, w, l)
  | _ => none

noncomputable def kB (e : Xit) (σ : St U) : Option (Int × Int × Int × Int × (List Int)) := match e with
  | .normal => (enter kF.u shB (look σ.tm) (look σ.st)).bind encB
  | _ => none

theorem bodyE (x : List UInt8) (k t o w : Int) (l : List Int) : kF.exec Tryd.f30.ntmps (fun _ => none) rfB (StSh.fill shB [⟨.str, x⟩, ⟨.int .i64, k⟩, ⟨.int .i64, t⟩, ⟨.int .i64, o⟩, ⟨.int .i64, w⟩, ⟨.slc (.int .i64), l⟩]) kB =
    Option.bind (report_digit x) fun y0 =>
    bif decide ((List.length l + List.length [y0]) * (8 : Nat) ≤ (140737488355328 : Nat) ∧ List.length l + List.length [y0] ≤ (9223372036854775807 : Nat)) then some (k, t, o, w, l ++ [y0]) else none := by kernel_rfl

noncomputable def encZ (j : Nat) : List (TV U) → Option Finding
  | [⟨.st 30, f⟩] => match j with
    | 0 => some f
    | _ => none
  | _ => none

noncomputable def kZ (e : Xit) (σ : St U) : Option Finding := match e with
  | .ret => (kF.fin σ Tryd.f30.results.toList).bind fun rps => outFn kF.u rps σ.st encZ 0 [shO]
  | _ => none

theorem zE (k t o w : Int) (l : List Int) : kF.exec Tryd.f30.ntmps (fun _ => none) cZ (StSh.fill shZ [⟨.int .i64, k⟩, ⟨.int .i64, t⟩, ⟨.int .i64, o⟩, ⟨.int .i64, w⟩, ⟨.slc (.int .i64), l⟩]) kZ = some (Finding.mk k t o w l) := by kernel_rfl

theorem bodyCalm : calm rfB = true := by kernel_rfl
theorem kFok : KitOk kF env0 := kitOk_of eqOk mixed known2
theorem codeE : Tryd.f30.body = some (.seq r0 (.seq r1 (.seq rX (.seq (.seq r18 (.seq r19 (.cond (.tmp 55) (.seq r20 (.block 2 (.rangeFunc (.tmp 57) #[58] rfA rfB))) .skip))) cZ)))) := by kernel_rfl
end Lift.D2.F

/- found: the boxes ahead of the loop. -/
namespace Lift.D2.F
open Go Go.RowKit Go.Proofs Lift Lift.Fn

/-- The box of the result, the box of f, and f's schedule. -/
structure Boxes (b2 b3 : Nat) (c2 : List Value) (k t o wh : Int) (v : Value) (l : List Int) (W : World) : Prop where
  h2 : W.heap[b2]? = some (.cells c2.toArray 30 (0, 0))
  h3 : W.heap[b3]? = some (.cells #[.int .i64 k, .int .i64 t, .int .i64 o, .int .i64 wh, v] 30 (0, 0))
  own : W.ownsZ 0 3 1 v l.length (l.map (Value.int .i64))
  ne : b2 ≠ b3
  n2 : v.ownBlock ≠ some b2
  n3 : v.ownBlock ≠ some b3
  one : ∀ x ∈ c2, x.oneCell' = true
  five : c2.length = 5

abbrev lsP (s : List UInt8) (b : Bool) (k t o wh : Int) (l : List Int) : List (TV U) := [⟨.str, s⟩, ⟨.bool, b⟩, ⟨.int .i64, k⟩, ⟨.int .i64, t⟩, ⟨.int .i64, o⟩, ⟨.int .i64, wh⟩, ⟨.slc (.int .i64), l⟩]
abbrev stP (k t o wh : Int) (l : List Int) : List (Nat × Ob U) := [(2, .blk 30 [.junk, .junk, .junk, .junk, .junk]), (3, .blk 30 [.t ⟨.int .i64, k⟩, .t ⟨.int .i64, t⟩, .t ⟨.int .i64, o⟩, .t ⟨.int .i64, wh⟩, .oslc 20154 0]), (20154, .row 3 0 (.int .i64) l)]

theorem open_rel {B : Base} {nt : Nat} {s : List UInt8} {b : Bool} {k t o wh : Int} {l : List Int} {a : Act} {w : World} (h : Rel kF env0 B nt (shP.fill (lsP s b k t o wh l)) a w) :
    ∃ G β b2 b3 c2 v, Inv kF env0 B G (look (stP k t o wh l)) β w ∧ a.tmps[2]? = some (.pointer (some ⟨b2, 0, none⟩)) ∧ a.tmps[3]? = some (.pointer (some ⟨b3, 0, none⟩)) ∧ a.tmps[4]? = some (.string ⟨s.toArray⟩) ∧ a.tmps[55]? = some (.bool b) ∧
      a.tmps.size = nt ∧ a.defers = B.ds ∧ Boxes b2 b3 c2 k t o wh v l w ∧
      (∀ d, (d = b2 ∨ d = b3 ∨ v.ownBlock = some d) → G d = none ∧ (B.w0.heap.size ≤ d ∨ B.H d)) := by
  obtain ⟨G, β, hI, hT, hs, hd⟩ := h
  change Inv kF env0 B G (look (stP k t o wh l)) β w at hI
  have hT' : ∀ n p, look [(2, PV.ptr 2 0), (3, PV.ptr 3 0), (4, PV.t ⟨.str, s⟩), (55, PV.t ⟨.bool, b⟩)] n = some p → ∃ v, a.tmps[n]? = some v ∧ PRel kF G (look (stP k t o wh l)) β p v := hT
  obtain ⟨b2, c2, e2, g2, j2, o2⟩ := hI.obs 2 _ rfl
  obtain ⟨b3, c3, e3, g3, j3, o3⟩ := hI.obs 3 _ rfl
  obtain ⟨vals, hv, hown⟩ := hI.obs 20154 _ rfl
  obtain ⟨x1, r1, rfl, p1, x2, r2, rfl, p2, x3, r3, rfl, p3, x4, r4, rfl, p4, x5, r5, rfl, p5, rfl⟩ := j3
  simp only [PRel] at p1 p2 p3 p4 p5
  have i1 := p1.int_inv
  have i2 := p2.int_inv
  have i3 := p3.int_inv
  have i4 := p4.int_inv
  subst i1 i2 i3 i4
  obtain ⟨_, ob, q1, _, q2⟩ := p5
  cases (show some (Ob.row 3 0 (.int .i64) l) = some ob from q1)
  have hx5 := q2 _ now_row
  subst hx5
  have hf := ints_flat hv
  rw [hf] at hown
  have hbl : blkOf (β 20154) = (β 20154).ownBlock := blkOf_row hown
  obtain ⟨v2, a2, w2⟩ := hT' 2 _ rfl
  obtain ⟨v3, a3, w3⟩ := hT' 3 _ rfl
  obtain ⟨v4, a4, w4⟩ := hT' 4 _ rfl
  obtain ⟨v5, a5, w5⟩ := hT' 55 _ rfl
  simp only [PRel] at w2 w3 w4 w5
  obtain ⟨_, ob2, y1, y2⟩ := w2
  cases (show some (Ob.blk 30 [.junk, .junk, .junk, .junk, .junk]) = some ob2 from y1)
  obtain ⟨_, ob3, z1, z2⟩ := w3
  cases (show some (Ob.blk 30 [.t ⟨.int .i64, k⟩, .t ⟨.int .i64, t⟩, .t ⟨.int .i64, o⟩, .t ⟨.int .i64, wh⟩, .oslc 20154 0]) = some ob3 from z1)
  have y3 := y2 rfl
  have z3 := z2 rfl
  rw [e2] at y3
  rw [e3] at z3
  simp only [shiftP, Nat.add_zero] at y3 z3
  subst y3 z3
  have bb2 : blkOf (β 2) = some b2 := by rw [e2]; rfl
  have bb3 : blkOf (β 3) = some b3 := by rw [e3]; rfl
  obtain ⟨t1, u1, rfl, _, t2, u2, rfl, _, t3, u3, rfl, _, t4, u4, rfl, _, t5, u5, rfl, _, rfl⟩ := j2
  refine ⟨G, β, b2, b3, _, β 20154, hI, a2, a3, ?_, ?_, hs, hd, ⟨g2, g3, ?_, ?_, ?_, ?_, o2, rfl⟩, ?_⟩
  · rw [a4, w4.str_inv]
  · rw [a5, w5.bool_inv]
  · exact hown
  · intro e
    subst e
    have := hI.inj 2 3 _ _ b2 rfl rfl rfl rfl bb2 bb3
    omega
  · intro e
    have := hI.inj 20154 2 _ _ b2 rfl rfl rfl rfl (hbl.trans e) bb2
    omega
  · intro e
    have := hI.inj 20154 3 _ _ b3 rfl rfl rfl rfl (hbl.trans e) bb3
    omega
  · rintro d (rfl | rfl | e)
    · exact hI.own 2 _ d rfl rfl bb2
    · exact hI.own 3 _ d rfl rfl bb3
    · exact hI.own 20154 _ d rfl rfl (hbl.trans e)
end Lift.D2.F

/- found: one round. -/
namespace Lift.D2.F
open Go Go.RowKit Go.Proofs Lift Lift.Fn

abbrev lsB (x : List UInt8) (k t o wh : Int) (l : List Int) : List (TV U) := [⟨.str, x⟩, ⟨.int .i64, k⟩, ⟨.int .i64, t⟩, ⟨.int .i64, o⟩, ⟨.int .i64, wh⟩, ⟨.slc (.int .i64), l⟩]
abbrev stB (k t o wh : Int) (l : List Int) : List (Nat × Ob U) := [(100003, .blk 30 [.t ⟨.int .i64, k⟩, .t ⟨.int .i64, t⟩, .t ⟨.int .i64, o⟩, .t ⟨.int .i64, wh⟩, .oslc 200304 0]), (200304, .row 3 0 (.int .i64) l)]

/-- What a round leaves as it was. -/
structure Kept (b3 : Nat) (v : Value) (W W' : World) : Prop where
  same : ∀ j, j < W.heap.size → j ≠ b3 → v.ownBlock ≠ some j → W'.heap[j]? = W.heap[j]?
  os : W'.os = W.os
  tape : W'.tape = W.tape
  output : W'.output = W.output
  size : W.heap.size ≤ W'.heap.size
  env : env0.E W'

theorem ints_rel {u : Uni} {G : Nat → Option Obj} : ∀ l : List Int, TsRel u G (l.map (TV.mk (.int .i64))) (l.map (Value.int .i64))
  | [] => .nil
  | n :: l => .cons _ _ _ _ (.int _ _) (ints_rel l)

theorem ints_flat2 (l : List Int) : ((l.map (Value.int .i64)).flatMap fun x => x.cells.toList) = l.map (Value.int .i64) := by
  induction l with
  | nil => rfl
  | cons n l ih => rw [List.map_cons, List.flatMap_cons, ih]; rfl

theorem oneCell_of_ownsZ {W : World} {T : TypeId} {n m : Nat} {v : Value} {xs : List Value} (h : W.ownsZ 0 T n v m xs) : v.oneCell' = true := by
  rcases h.2 with ⟨rfl, _⟩ | ⟨_, _, _, _, rfl, _⟩ <;> rfl

theorem mem2 {α : Type} {i j : Nat} {x y : α} {id : Nat} {ob : α} (h : look [(i, x), (j, y)] id = some ob) : (id = i ∧ ob = x) ∨ (id = j ∧ ob = y) := by
  have hm := look_mem h
  simpa using hm

noncomputable def base2 (b3 : Nat) (v : Value) (W : World) : Base :=
  ⟨W, fun j => if j = b3 ∨ v.ownBlock = some j then none else W.heap[j]?, fun j => j = b3 ∨ v.ownBlock = some j, fun _ => .pointer (some ⟨b3, 0, none⟩), []⟩

theorem round_rel {b2 b3 : Nat} {c2 : List Value} {k t o wh : Int} {v : Value} {l : List Int} {W : World} (hB : Boxes b2 b3 c2 k t o wh v l W) (hE : env0.E W) {x : List UInt8} {a : Act} {nt : Nat}
    (h3 : a.tmps[3]? = some (.pointer (some ⟨b3, 0, none⟩))) (h5 : a.tmps[5]? = some (.string ⟨x.toArray⟩)) (hs : a.tmps.size = nt) (hd : a.defers = []) :
    Rel kF env0 (base2 b3 v W) nt (shB.fill (lsB x k t o wh l)) a W := by
  have hone := oneCell_of_ownsZ hB.own
  have hbl : blkOf v = v.ownBlock := blkOf_row hB.own
  have hlt3 : b3 < W.heap.size := (Array.getElem?_eq_some_iff.1 hB.h3).1
  refine ⟨(base2 b3 v W).G0, fun i => if i = 100003 then .pointer (some ⟨b3, 0, none⟩) else v, ?_, ?_, hs, hd⟩
  · show Inv kF env0 (base2 b3 v W) (base2 b3 v W).G0 (look (stB k t o wh l)) _ W
    refine ⟨?_, ?_, ?_, ?_, rfl, rfl, rfl, Nat.le_refl _, fun _ _ _ => rfl, fun _ _ _ => rfl, hE, Nat.zero_le _, fun _ _ => Nat.zero_le _, ?_⟩
    · intro j ob hj
      unfold base2 at hj
      simp only at hj
      split at hj
      · cases hj
      · exact hj
    · intro id ob h
      rcases mem2 (α := Ob U) (i := 100003) (j := 200304) h with ⟨rfl, rfl⟩ | ⟨rfl, rfl⟩
      · refine ⟨b3, [.int .i64 k, .int .i64 t, .int .i64 o, .int .i64 wh, v], rfl, hB.h3, ?_, ?_⟩
        · refine ⟨_, _, rfl, ?_, _, _, rfl, ?_, _, _, rfl, ?_, _, _, rfl, ?_, _, _, rfl, ?_, rfl⟩
          · simp only [PRel]; exact .int _ _
          · simp only [PRel]; exact .int _ _
          · simp only [PRel]; exact .int _ _
          · simp only [PRel]; exact .int _ _
          · simp only [PRel]
            exact ⟨hone, .row 3 0 (.int .i64) l, rfl, Nat.le_refl _, fun _ _ => rfl⟩
        · intro y hy
          simp only [List.mem_cons, List.not_mem_nil, or_false] at hy
          rcases hy with rfl | rfl | rfl | rfl | rfl
          · rfl
          · rfl
          · rfl
          · rfl
          · exact hone
      · refine ⟨l.map (Value.int .i64), ints_rel l, ?_⟩
        rw [ints_flat2]
        exact hB.own
    · intro id ob b h hl hb
      rcases mem2 (α := Ob U) (i := 100003) (j := 200304) h with ⟨rfl, rfl⟩ | ⟨rfl, rfl⟩
      · have hb' : some b3 = some b := hb
        cases hb'
        refine ⟨?_, .inr (.inl rfl)⟩
        unfold base2
        simp
      · have hb' : blkOf v = some b := hb
        rw [hbl] at hb'
        refine ⟨?_, .inr (.inr hb')⟩
        unfold base2
        simp [hb']
    · intro id id' ob ob' b h h' _ _ hb hb'
      rcases mem2 (α := Ob U) (i := 100003) (j := 200304) h with ⟨rfl, rfl⟩ | ⟨rfl, rfl⟩ <;> rcases mem2 (α := Ob U) (i := 100003) (j := 200304) h' with ⟨rfl, rfl⟩ | ⟨rfl, rfl⟩
      · rfl
      · have e1 : some b3 = some b := hb
        have e2 : blkOf v = some b := hb'
        cases e1
        rw [hbl] at e2
        exact absurd e2 hB.n3
      · have e1 : some b3 = some b := hb'
        have e2 : blkOf v = some b := hb
        cases e1
        rw [hbl] at e2
        exact absurd e2 hB.n3
      · rfl
    · intro id ob hp h hi
      rcases mem2 (α := Ob U) (i := 100003) (j := 200304) h with ⟨rfl, rfl⟩ | ⟨rfl, rfl⟩
      · rfl
      · cases hi
  · intro n p hp
    rcases mem2 (α := PV U) (i := 3) (j := 5) hp with ⟨rfl, rfl⟩ | ⟨rfl, rfl⟩
    · have : PRel kF (base2 b3 v W).G0 (look (stB k t o wh l)) (fun i => if i = 100003 then .pointer (some ⟨b3, 0, none⟩) else v) (PV.ptr 100003 0) (.pointer (some ⟨b3, 0, none⟩)) := by
        simp only [PRel]
        exact ⟨rfl, .blk 30 [.t ⟨.int .i64, k⟩, .t ⟨.int .i64, t⟩, .t ⟨.int .i64, o⟩, .t ⟨.int .i64, wh⟩, .oslc 200304 0], rfl, fun _ => rfl⟩
      exact ⟨_, h3, this⟩
    · have : PRel kF (base2 b3 v W).G0 (look (stB k t o wh l)) (fun i => if i = 100003 then .pointer (some ⟨b3, 0, none⟩) else v) (PV.t ⟨.str, x⟩) (.string ⟨x.toArray⟩) := by
        simp only [PRel]
        exact .str _
      exact ⟨_, h5, this⟩
end Lift.D2.F

/- found: behind a round. -/
namespace Lift.D2.F
open Go Go.RowKit Go.Proofs Lift Lift.Fn

theorem round_back {b2 b3 : Nat} {c2 : List Value} {k t o wh : Int} {v : Value} {l : List Int} {W : World} (hB : Boxes b2 b3 c2 k t o wh v l W) {x : List UInt8} {l1 : List Int} {a : Act} {nt : Nat} {W' : World}
    (h : Rel kF env0 (base2 b3 v W) nt (shB.fill (lsB x k t o wh l1)) a W') :
    ∃ v', Boxes b2 b3 c2 k t o wh v' l1 W' ∧ Kept b3 v W W' ∧ ∀ rb, v'.ownBlock = some rb → v.ownBlock = some rb ∨ W.heap.size ≤ rb := by
  obtain ⟨G, β, hI, hT, hs, hd⟩ := h
  change Inv kF env0 (base2 b3 v W) G (look (stB k t o wh l1)) β W' at hI
  have hlt2 : b2 < W.heap.size := (Array.getElem?_eq_some_iff.1 hB.h2).1
  obtain ⟨d3, c3, e3, g3, j3, o3⟩ := hI.obs 100003 _ rfl
  obtain ⟨vals, hv, hown⟩ := hI.obs 200304 _ rfl
  have hp : β 100003 = .pointer (some ⟨b3, 0, none⟩) := hI.pin 100003 _ (by decide) rfl rfl
  rw [e3] at hp
  cases hp
  obtain ⟨x1, r1, rfl, p1, x2, r2, rfl, p2, x3, r3, rfl, p3, x4, r4, rfl, p4, x5, r5, rfl, p5, rfl⟩ := j3
  simp only [PRel] at p1 p2 p3 p4 p5
  have i1 := p1.int_inv
  have i2 := p2.int_inv
  have i3 := p3.int_inv
  have i4 := p4.int_inv
  subst i1 i2 i3 i4
  obtain ⟨_, ob, q1, _, q2⟩ := p5
  cases (show some (Ob.row 3 0 (.int .i64) l1) = some ob from q1)
  have hx5 := q2 _ now_row
  subst hx5
  have hf := ints_flat hv
  rw [hf] at hown
  have hbl : blkOf (β 200304) = (β 200304).ownBlock := blkOf_row hown
  have bb3 : blkOf (β 100003) = some b3 := by rw [e3]; rfl
  have hn3 : (β 200304).ownBlock ≠ some b3 := fun e => by
    have := hI.inj 200304 100003 _ _ b3 rfl rfl rfl rfl (hbl.trans e) bb3
    omega
  have hrow : ∀ rb, (β 200304).ownBlock = some rb → v.ownBlock = some rb ∨ W.heap.size ≤ rb := fun rb e => by
    rcases (hI.own 200304 _ rb rfl rfl (hbl.trans e)).2 with h | h
    · exact .inr h
    · rcases h with h | h
      · rw [h] at e; exact absurd e hn3
      · exact .inl h
  have hsame : ∀ j, j < W.heap.size → j ≠ b3 → v.ownBlock ≠ some j → W'.heap[j]? = W.heap[j]? := fun j hj h1 h2 => hI.low j hj (fun h => h.elim h1 h2)
  refine ⟨β 200304, ⟨?_, g3, hown, hB.ne, ?_, hn3, hB.one, hB.five⟩, ⟨hsame, hI.os, hI.tape, hI.output, hI.size, hI.env⟩, hrow⟩
  · rw [hsame b2 hlt2 hB.ne hB.n2]
    exact hB.h2
  · intro e
    rcases hrow b2 e with h | h
    · exact hB.n2 h
    · omega

theorem encB_inv {ls : List (TV U)} {k t o w : Int} {l : List Int} (h : encB ls = some (k, t, o, w, l)) : ∃ x, ls = lsB x k t o w l := by
  unfold encB at h
  split at h
  · cases h; exact ⟨_, rfl⟩
  · cases h

/-- A round's code, at a round's state. -/
theorem round_wp {l₀ n : Nat} {b2 b3 : Nat} {c2 : List Value} {k t o wh : Int} {v : Value} {l l1 : List Int} {W : World} (hB : Boxes b2 b3 c2 k t o wh v l W) (hE : env0.E W) {x : List UInt8} (hx : found_step x l = some l1) {a : Act}
    (h3 : a.tmps[3]? = some (.pointer (some ⟨b3, 0, none⟩))) (h5 : a.tmps[5]? = some (.string ⟨x.toArray⟩)) (hs : a.tmps.size = Tryd.f30.ntmps) (hd : a.defers = []) {Q : Exit → Act → World → Prop} (hQ : ¬ LetsOut Q)
    (hk : ∀ a' W' v', Boxes b2 b3 c2 k t o wh v' l1 W' → Kept b3 v W W' → (∀ rb, v'.ownBlock = some rb → v.ownBlock = some rb ∨ W.heap.size ≤ rb) → Q .normal a' W') :
    rfB.wpIn (Fence.wide.inRound l₀) n Tryd.prog Q a W := by
  have hE2 : kF.exec Tryd.f30.ntmps (fun _ => none) rfB (StSh.fill shB (lsB x k t o wh l)) kB = some (k, t, o, wh, l1) := by
    refine (bodyE x k t o wh l).trans ?_
    unfold found_step at hx
    simp only [Option.bind_eq_some_iff] at hx ⊢
    obtain ⟨y, hy, hx⟩ := hx
    refine ⟨y, hy, ?_⟩
    cases hc : decide ((List.length l + List.length [y]) * (8 : Nat) ≤ (140737488355328 : Nat) ∧ List.length l + List.length [y] ≤ (9223372036854775807 : Nat)) with
    | false => rw [hc] at hx; cases hx
    | true => rw [hc] at hx; cases hx; rfl
  refine exec_in kFok bodyCalm hE2 (round_rel hB hE h3 h5 hs hd) hQ (fun e σ' a' W' he hr => ?_)
  unfold kB at he
  split at he
  · obtain ⟨ls, h6, h7⟩ := Option.bind_eq_some_iff.1 he
    have hr' := enter_rel h6 hr
    obtain ⟨x', rfl⟩ := encB_inv h7
    obtain ⟨v', i1, i2, i3⟩ := round_back hB hr'
    exact hk a' W' v' i1 i2 i3
  · cases he
end Lift.D2.F

/- found: the end. -/
namespace Lift.D2.F
open Go Go.RowKit Go.Proofs Lift Lift.Fn

noncomputable def shW : StSh := ⟨⟨[2, 3], [100002, 100003], [⟨.cell 100003 4, 200304, 3, .int .i64⟩]⟩, [.ptr 100002 0, .ptr 100003 0],
  [.blk 30 [.junk, .junk, .junk, .junk, .junk], .blk 30 [.t (.int .i64), .t (.int .i64), .t (.int .i64), .t (.int .i64), .oslc 200304], .row 3 (.int .i64)]⟩
noncomputable def shE : StSh := ⟨⟨[2], [100002], [⟨.cell 100002 4, 200204, 3, .int .i64⟩]⟩, [.ptr 100002 0], [.blk 30 [.t (.int .i64), .t (.int .i64), .t (.int .i64), .t (.int .i64), .oslc 200204], .row 3 (.int .i64)]⟩

abbrev lsW (k t o wh : Int) (l : List Int) : List (TV U) := [⟨.int .i64, k⟩, ⟨.int .i64, t⟩, ⟨.int .i64, o⟩, ⟨.int .i64, wh⟩, ⟨.slc (.int .i64), l⟩]
abbrev stW (k t o wh : Int) (l : List Int) : List (Nat × Ob U) := [(100002, .blk 30 [.junk, .junk, .junk, .junk, .junk]), (100003, .blk 30 [.t ⟨.int .i64, k⟩, .t ⟨.int .i64, t⟩, .t ⟨.int .i64, o⟩, .t ⟨.int .i64, wh⟩, .oslc 200304 0]), (200304, .row 3 0 (.int .i64) l)]
abbrev stE (k t o wh : Int) (l : List Int) : List (Nat × Ob U) := [(100002, .blk 30 [.t ⟨.int .i64, k⟩, .t ⟨.int .i64, t⟩, .t ⟨.int .i64, o⟩, .t ⟨.int .i64, wh⟩, .oslc 200204 0]), (200204, .row 3 0 (.int .i64) l)]

noncomputable def encW : List (TV U) → Option (Int × Int × Int × Int × (List Int))
  | [⟨.int .i64, k⟩, ⟨.int .i64, t⟩, ⟨.int .i64, o⟩, ⟨.int .i64, w⟩, ⟨.slc (.int .i64), l⟩] => some (k, t, o, w, l)
  | _ => none

theorem encW_inv {ls : List (TV U)} {k t o w : Int} {l : List Int} (h : encW ls = some (k, t, o, w, l)) : ls = lsW k t o w l := by
  unfold encW at h
  split at h
  · cases h; rfl
  · cases h

noncomputable def kW (e : Xit) (σ : St U) : Option (Int × Int × Int × Int × (List Int)) := match e with
  | .ret => (enter kF.u shE (look σ.tm) (look σ.st)).bind encW
  | _ => none

theorem wE (k t o w : Int) (l : List Int) : kF.exec Tryd.f30.ntmps (fun _ => none) cZ (StSh.fill shW (lsW k t o w l)) kW = some (k, t, o, w, l) := by kernel_rfl

theorem mem3 {α : Type} {i j m : Nat} {x y z : α} {id : Nat} {ob : α} (h : look [(i, x), (j, y), (m, z)] id = some ob) : (id = i ∧ ob = x) ∨ (id = j ∧ ob = y) ∨ (id = m ∧ ob = z) := by
  have hm := look_mem h
  simpa using hm

noncomputable def base3 (b2 b3 : Nat) (v : Value) (W : World) (G0 : Nat → Option Obj) (ds : List Deferred) : Base :=
  ⟨W, G0, fun j => j = b2 ∨ j = b3 ∨ v.ownBlock = some j, fun i => if i = 100002 then .pointer (some ⟨b2, 0, none⟩) else .pointer (some ⟨b3, 0, none⟩), ds⟩

theorem end_rel {b2 b3 : Nat} {c2 : List Value} {k t o wh : Int} {v : Value} {l : List Int} {W : World} {G0 : Nat → Option Obj} {ds : List Deferred} (hB : Boxes b2 b3 c2 k t o wh v l W) (hE : env0.E W) {a : Act} {nt : Nat}
    (hG : ∀ j ob, G0 j = some ob → W.heap[j]? = some ob) (hG2 : ∀ j, (j = b2 ∨ j = b3 ∨ v.ownBlock = some j) → G0 j = none)
    (h2 : a.tmps[2]? = some (.pointer (some ⟨b2, 0, none⟩))) (h3 : a.tmps[3]? = some (.pointer (some ⟨b3, 0, none⟩))) (hs : a.tmps.size = nt) (hd : a.defers = ds) :
    Rel kF env0 (base3 b2 b3 v W G0 ds) nt (shW.fill (lsW k t o wh l)) a W := by
  have hone := oneCell_of_ownsZ hB.own
  have hbl : blkOf v = v.ownBlock := blkOf_row hB.own
  obtain ⟨β, hβ⟩ : ∃ β : Nat → Value, β = fun i => if i = 100002 then .pointer (some ⟨b2, 0, none⟩) else if i = 100003 then .pointer (some ⟨b3, 0, none⟩) else v := ⟨_, rfl⟩
  have e2 : β 100002 = .pointer (some ⟨b2, 0, none⟩) := by rw [hβ]; rfl
  have e3 : β 100003 = .pointer (some ⟨b3, 0, none⟩) := by rw [hβ]; rfl
  have e4 : β 200304 = v := by rw [hβ]; rfl
  have bl : ∀ id ob b, look (stW k t o wh l) id = some ob → blkOf (β id) = some b → (id = 100002 ∧ b = b2) ∨ (id = 100003 ∧ b = b3) ∨ (id = 200304 ∧ v.ownBlock = some b) := by
    intro id ob b h hb
    rcases mem3 (α := Ob U) (i := 100002) (j := 100003) (m := 200304) h with ⟨rfl, rfl⟩ | ⟨rfl, rfl⟩ | ⟨rfl, rfl⟩
    · rw [e2] at hb; cases hb; exact .inl ⟨rfl, rfl⟩
    · rw [e3] at hb; cases hb; exact .inr (.inl ⟨rfl, rfl⟩)
    · rw [e4, hbl] at hb; exact .inr (.inr ⟨rfl, hb⟩)
  refine ⟨G0, β, ?_, ?_, hs, hd⟩
  · show Inv kF env0 (base3 b2 b3 v W G0 ds) G0 (look (stW k t o wh l)) β W
    refine ⟨hG, ?_, ?_, ?_, rfl, rfl, rfl, Nat.le_refl _, fun _ _ _ => rfl, fun _ _ _ => rfl, hE, Nat.zero_le _, fun _ _ => Nat.zero_le _, ?_⟩
    · intro id ob h
      rcases mem3 (α := Ob U) (i := 100002) (j := 100003) (m := 200304) h with ⟨rfl, rfl⟩ | ⟨rfl, rfl⟩ | ⟨rfl, rfl⟩
      · have hfive := hB.five
        refine ⟨b2, c2, e2, hB.h2, ?_, hB.one⟩
        obtain ⟨y1, y2, y3, y4, y5, rfl⟩ : ∃ y1 y2 y3 y4 y5, c2 = [y1, y2, y3, y4, y5] := by
          match c2, hfive with
          | [y1, y2, y3, y4, y5], _ => exact ⟨y1, y2, y3, y4, y5, rfl⟩
        refine ⟨_, _, rfl, ?_, _, _, rfl, ?_, _, _, rfl, ?_, _, _, rfl, ?_, _, _, rfl, ?_, rfl⟩ <;> simp only [PRel]
      · refine ⟨b3, [.int .i64 k, .int .i64 t, .int .i64 o, .int .i64 wh, v], e3, hB.h3, ?_, ?_⟩
        · refine ⟨_, _, rfl, ?_, _, _, rfl, ?_, _, _, rfl, ?_, _, _, rfl, ?_, _, _, rfl, ?_, rfl⟩
          · simp only [PRel]; exact .int _ _
          · simp only [PRel]; exact .int _ _
          · simp only [PRel]; exact .int _ _
          · simp only [PRel]; exact .int _ _
          · simp only [PRel]
            exact ⟨hone, .row 3 0 (.int .i64) l, rfl, Nat.le_refl _, fun _ _ => e4.symm⟩
        · intro y hy
          simp only [List.mem_cons, List.not_mem_nil, or_false] at hy
          rcases hy with rfl | rfl | rfl | rfl | rfl
          · rfl
          · rfl
          · rfl
          · rfl
          · exact hone
      · refine ⟨l.map (Value.int .i64), ints_rel l, ?_⟩
        rw [ints_flat2, e4]
        exact hB.own
    · intro id ob b h hl hb
      rcases bl id ob b h hb with ⟨_, rfl⟩ | ⟨_, rfl⟩ | ⟨_, h'⟩
      · exact ⟨hG2 _ (.inl rfl), .inr (.inl rfl)⟩
      · exact ⟨hG2 _ (.inr (.inl rfl)), .inr (.inr (.inl rfl))⟩
      · exact ⟨hG2 _ (.inr (.inr h')), .inr (.inr (.inr h'))⟩
    · intro id id' ob ob' b h h' _ _ hb hb'
      have hne := hB.ne
      have n2 := hB.n2
      have n3 := hB.n3
      rcases bl id ob b h hb with ⟨r1, q1⟩ | ⟨r1, q1⟩ | ⟨r1, q1⟩ <;> rcases bl id' ob' b h' hb' with ⟨r2, q2⟩ | ⟨r2, q2⟩ | ⟨r2, q2⟩
      · rw [r1, r2]
      · exact absurd (q1.symm.trans q2) hne
      · rw [q1] at q2; exact absurd q2 n2
      · exact absurd (q2.symm.trans q1) hne
      · rw [r1, r2]
      · rw [q1] at q2; exact absurd q2 n3
      · rw [q2] at q1; exact absurd q1 n2
      · rw [q2] at q1; exact absurd q1 n3
      · rw [r1, r2]
    · intro id ob hp h hi
      rcases mem3 (α := Ob U) (i := 100002) (j := 100003) (m := 200304) h with ⟨rfl, rfl⟩ | ⟨rfl, rfl⟩ | ⟨rfl, rfl⟩
      · rw [e2]; rfl
      · rw [e3]; rfl
      · cases hi
  · intro n p hp
    rcases mem2 (α := PV U) (i := 2) (j := 3) hp with ⟨rfl, rfl⟩ | ⟨rfl, rfl⟩
    · have : PRel kF G0 (look (stW k t o wh l)) β (PV.ptr 100002 0) (.pointer (some ⟨b2, 0, none⟩)) := by
        simp only [PRel]
        exact ⟨rfl, .blk 30 [.junk, .junk, .junk, .junk, .junk], rfl, fun _ => by rw [e2]; rfl⟩
      exact ⟨_, h2, this⟩
    · have : PRel kF G0 (look (stW k t o wh l)) β (PV.ptr 100003 0) (.pointer (some ⟨b3, 0, none⟩)) := by
        simp only [PRel]
        exact ⟨rfl, .blk 30 [.t ⟨.int .i64, k⟩, .t ⟨.int .i64, t⟩, .t ⟨.int .i64, o⟩, .t ⟨.int .i64, wh⟩, .oslc 200304 0], rfl, fun _ => by rw [e3]; rfl⟩
      exact ⟨_, h3, this⟩

/-- What the end leaves. -/
theorem end_wp {b2 b3 : Nat} {c2 : List Value} {k t o wh : Int} {v : Value} {l : List Int} {W : World} {G0 : Nat → Option Obj} {ds : List Deferred} (hB : Boxes b2 b3 c2 k t o wh v l W) (hE : env0.E W) {a : Act}
    (hG : ∀ j ob, G0 j = some ob → W.heap[j]? = some ob) (hG2 : ∀ j, (j = b2 ∨ j = b3 ∨ v.ownBlock = some j) → G0 j = none)
    (h2 : a.tmps[2]? = some (.pointer (some ⟨b2, 0, none⟩))) (h3 : a.tmps[3]? = some (.pointer (some ⟨b3, 0, none⟩))) (hs : a.tmps.size = Tryd.f30.ntmps) (hd : a.defers = ds) {Q : Exit → Act → World → Prop}
    (hk : ∀ a' W' G' y, Inv kF env0 (base3 b2 b3 v W G0 ds) G' (look ([] : List (Nat × Ob U))) (fun _ => .nilFunc) W' → a'.tmps[2]? = some (.pointer (some ⟨b2, 0, none⟩)) → a'.defers = ds →
      W'.heap[b2]? = some (.cells #[.int .i64 k, .int .i64 t, .int .i64 o, .int .i64 wh, y] 30 (0, 0)) → TRel kF.u G' ⟨.slc (.int .i64), l⟩ y → G' b2 = none → Q .ret a' W') :
    cZ.wp Tryd.prog Q a W := by
  refine exec_sound kFok (L := fun _ => none) (fun b _ lp h => by cases h) (wE k t o wh l) (end_rel hB hE hG hG2 h2 h3 hs hd) (fun e σ' a' W' he hr => ?_)
  unfold kW at he
  split at he
  · obtain ⟨ls, h6, h7⟩ := Option.bind_eq_some_iff.1 he
    have hr' := enter_rel h6 hr
    obtain rfl := encW_inv h7
    obtain ⟨G, β, hI, hT, hs', hd'⟩ := hr'
    change Inv kF env0 (base3 b2 b3 v W G0 ds) G (look (stE k t o wh l)) β W' at hI
    obtain ⟨d2, c3, e3, g3, j3, o3⟩ := hI.obs 100002 _ rfl
    have hp : β 100002 = .pointer (some ⟨b2, 0, none⟩) := hI.pin 100002 _ (by decide) rfl rfl
    rw [e3] at hp
    cases hp
    obtain ⟨x1, r1, rfl, p1, x2, r2, rfl, p2, x3, r3, rfl, p3, x4, r4, rfl, p4, x5, r5, rfl, p5, rfl⟩ := j3
    simp only [PRel] at p1 p2 p3 p4 p5
    have i1 := p1.int_inv
    have i2 := p2.int_inv
    have i3 := p3.int_inv
    have i4 := p4.int_inv
    subst i1 i2 i3 i4
    have hT' : ∀ n p, look [((2 : Nat), (PV.ptr 100002 0 : PV U))] n = some p → ∃ v, a'.tmps[n]? = some v ∧ PRel kF G (look (stE k t o wh l)) β p v := hT
    obtain ⟨v2, a2, w2⟩ := hT' 2 _ rfl
    simp only [PRel] at w2
    obtain ⟨_, ob2, y1, y2⟩ := w2
    cases (show some (Ob.blk 30 [.t ⟨.int .i64, k⟩, .t ⟨.int .i64, t⟩, .t ⟨.int .i64, o⟩, .t ⟨.int .i64, wh⟩, .oslc 200204 0]) = some ob2 from y1)
    have y3 := y2 rfl
    rw [e3] at y3
    simp only [shiftP, Nat.add_zero] at y3
    subst y3
    have bb2 : blkOf (β 100002) = some b2 := by rw [e3]; rfl
    obtain ⟨_, ob, q1, _, q2⟩ := p5
    cases (show some (Ob.row 3 0 (.int .i64) l) = some ob from q1)
    have hx5 := q2 _ now_row
    subst hx5
    have hrow := hI.obs 200204 _ rfl
    have hbl : blkOf (β 200204) = (β 200204).ownBlock := blkOf_row hrow.choose_spec.2
    have hn2 : blkOf (β 200204) ≠ some b2 := fun e => by
      have := hI.inj 200204 100002 _ _ b2 rfl rfl rfl rfl e bb2
      omega
    obtain ⟨Gn, hGn⟩ : ∃ Gn : Nat → Option Obj, Gn = fun j => if blkOf (β 200204) = some j then W'.heap[j]? else G j := ⟨_, rfl⟩
    have gy : ∀ j, blkOf (β 200204) = some j → Gn j = W'.heap[j]? := fun j h => by rw [hGn]; exact if_pos h
    have gn : ∀ j, ¬ blkOf (β 200204) = some j → Gn j = G j := fun j h => by rw [hGn]; exact if_neg h
    refine hk a' W' Gn (β 200204) ?_ a2 hd' g3 ?_ ?_
    · refine ⟨?_, fun _ _ h => (by cases h), fun _ _ _ h => (by cases h), fun _ _ _ _ _ h => (by cases h), hI.os, hI.tape, hI.output, hI.size, hI.low, ?_, hI.env, hI.n0, hI.hh, fun _ _ _ h => (by cases h)⟩
      · intro j ob hj
        by_cases e : blkOf (β 200204) = some j
        · rw [gy j e] at hj; exact hj
        · rw [gn j e] at hj; exact hI.gok j ob hj
      · intro j hj hH
        by_cases e : blkOf (β 200204) = some j
        · rcases (hI.own 200204 _ j rfl rfl e).2 with h | h
          · exact absurd (Nat.lt_of_lt_of_le hj h) (Nat.lt_irrefl _)
          · exact absurd h hH
        · rw [gn j e]; exact hI.gl j hj hH
    · refine row_settled hrow (fun j ob hj => ?_) (fun b hb => gy b hb)
      by_cases e : blkOf (β 200204) = some j
      · rw [gy j e]; exact hI.gok j ob hj
      · rw [gn j e]; exact hj
    · rw [gn b2 hn2]
      exact (hI.own 100002 _ b2 rfl rfl bb2).1
  · cases he
end Lift.D2.F

/- found: the call of SplitSeq, and the loop. -/
namespace Lift.D2.F
open Go Go.RowKit Go.Proofs Lift Lift.Fn

theorem exec_seq {K : Kit} {nt : Nat} {R : Type} {x y : Code} {L : Nat → Option (Loop K.u.U)} {σ : St K.u.U} {k : Xit → St K.u.U → Option R} :
    K.exec nt L (.seq x y) σ k = K.exec nt L x σ (fun e σ' => match e with | .normal => K.exec nt L y σ' k | e => k e σ') := by
  simp only [Kit.exec]
  congr 1
  funext e σ'
  cases e <;> rfl

theorem wpOps_wp {P : Program} {ops : Array Oper} {Q : Exit → Act → World → Prop} {i : Nat} {rest : List Nat} {a : Act} {w : World} (o : Oper) (ho : ops[i]? = some o) (hg : o.guard = none) (h : o.wp P a w (wpOps P ops Q rest) Q) : wpOps P ops Q (i :: rest) a w := by
  simp only [wpOps, ho]
  have hw : Region.wanted o (yielded ops a.tmps) = true := by simp [Region.wanted, hg]
  rw [if_pos hw]
  exact .inl h

theorem wp_seq_exec {K : Kit} {V : Env} {B : Base} {nt : Nat} {R : Type} (hK : KitOk K V) {x y rest : Code} {σ : St K.u.U} {k : Xit → St K.u.U → Option R} {r : R} (h : K.exec nt (fun _ => none) (.seq x y) σ k = some r)
    (hkn : ∀ e σ, e ≠ .normal → k e σ ≠ some r) {a : Act} {w : World} (hr : Rel K V B nt σ a w) {Q : Exit → Act → World → Prop}
    (hn : ∀ σ' a' w', K.exec nt (fun _ => none) y σ' k = some r → Rel K V B nt σ' a' w' → rest.wp K.P Q a' w') : (Code.seq x rest).wp K.P Q a w := by
  rw [exec_seq] at h
  refine wp_seq (exec_sound hK (fun b _ lp h => by cases h) h hr (fun e σ' a' w' he hr' => ?_))
  cases e with
  | normal => exact hn σ' a' w' he hr'
  | exit id => exact absurd he (hkn _ _ (by simp))
  | ret => exact absurd he (hkn _ _ (by simp))

theorem kP_norm (e : Xit) (σ : St U) (r) (h : e ≠ .normal) : kP e σ ≠ some r := by
  cases e with
  | normal => exact absurd rfl h
  | exit id => simp [kP]
  | ret => simp [kP]

abbrev op56 : Oper := { dst := some 56, op := Op.move (Operand.tmp 4), type := 9, pos := "report.go:131", after := #[], guard := none }
abbrev op57 : Oper := { dst := some 57, op := Op.call { callee := Callee.value (Operand.func 49), args := #[Operand.tmp 56, Operand.const (Value.string { data := #[44] })], argTypes := #[9, 9] }, type := 77, pos := "report.go:131", after := #[{ on := 0, ground := Ground.data }], guard := none }
abbrev op5 : Oper := { dst := some 5, op := Op.assign (Operand.tmp 58), type := 9, pos := "report.go:131", after := #[], guard := none }
def ops20 : Array Oper := #[op56, op57]
def opsA : Array Oper := #[op5]

theorem r20E : r20 = .region 20 ops20 false := by kernel_rfl
theorem rfAE : rfA = .region 21 opsA false := by kernel_rfl

theorem eval_tmp {a : Act} {n : Nat} {v : Value} (h : a.tmps[n]? = some v) : a.eval (.tmp n) = v := by
  simp [Act.eval, Array.getD_eq_getD_getElem?, h]

noncomputable def iter (w : World) : Value := .func (.func 72) #[] #[.pointer (some ⟨w.heap.size + 1, 0, none⟩), .pointer (some ⟨w.heap.size, 0, none⟩), .pointer (some ⟨w.heap.size + 2, 0, none⟩)]

theorem r20_wp {a : Act} {w : World} {s : ByteArray} {Q : Exit → Act → World → Prop} (h4 : a.tmps[4]? = some (.string s)) (hs : a.tmps.size = Tryd.f30.ntmps)
    (hk : Q .normal { a with tmps := (a.tmps.setIfInBounds 56 (.string s)).setIfInBounds 57 (iter w) } (seqWorld w s ⟨#[44]⟩)) : r20.wp Tryd.prog Q a w := by
  have hsz : a.tmps.size = 67 := hs
  rw [r20E]
  refine wp_region ?_
  show wpOps Tryd.prog ops20 Q [0, 1] a w
  refine wpOps_wp op56 rfl rfl (wp_value (v := .string s) (w' := w) ?_ ?_)
  · simp [execOp, eval_tmp h4]
  refine wpOps_wp op57 rfl rfl ?_
  unfold Oper.wp
  have e56 : (a.put (some 56) (.string s)).eval (.tmp 56) = .string s := eval_tmp (by simp [Act.put, hsz])
  have hrun : (execOp (a.put (some 56) (.string s)).eval op57).run Tryd.prog w = .ok (.enter 49 #[.string s, .string ⟨#[44]⟩]) w := by
    have hc : callable Tryd.prog 49 = true := by kernel_rfl
    simp [execOp, resolve, Act.eval, Deferred.ofValue, invoke, run_callFunc hc]
    simpa [Act.eval] using e56
  rw [hrun, Oper.upon_enter]
  refine (callsIn_wide.1 (Tryd.SplitSeq_in 0 s ⟨#[44]⟩ w)).mono ?_
  rintro e w' ⟨rfl, rfl⟩
  simp only [wpOps]
  exact hk

theorem rfA_wp {l n : Nat} {a : Act} {W : World} {x : Value} {K : Act → World → Prop} (h : a.tmps[58]? = some x) (hk : K { a with tmps := a.tmps.setIfInBounds 5 x } W) :
    rfA.wpIn (Fence.wide.inRound l) n Tryd.prog (Exit.then K (fun _ _ _ => False)) a W := by
  rw [rfAE]
  refine wpIn_region (wpOps_in (by decide) (by rintro ⟨_, _, h⟩; exact h) _ _ _ ?_)
  show wpOps Tryd.prog opsA _ [0] a W
  refine wpOps_wp op5 rfl rfl (wp_value (v := x) (w' := W) ?_ ?_)
  · simp [execOp, eval_tmp h]
  · simp only [wpOps]
    exact hk
end Lift.D2.F

/- found: what it leaves. -/
namespace Lift.D2.F
open Go Go.RowKit Go.Proofs Lift Lift.Fn

theorem f30_results {tmps : Array Value} {W : World} {b2 : Nat} {x1 x2 x3 x4 x5 : Value} (h : tmps[2]? = some (.pointer (some ⟨b2, 0, none⟩))) (hb : W.heap[b2]? = some (.cells #[x1, x2, x3, x4, x5] 30 (0, 0))) :
    (results Tryd.f30 tmps).run Tryd.prog W = .ok (.agg #[x1, x2, x3, x4, x5]) W := by
  have hr : Tryd.f30.results = #[.cell 2 30] := rfl
  have hl := run_loadVar_agg (P := Tryd.prog) (w := W) (T := 30) (b := b2) (o := 0) (vs := [x1, x2, x3, x4, x5]) (by kernel_rfl) (by kernel_rfl) (fun j v hj => by
    rw [Nat.zero_add, cell_at hb]
    simpa using hj)
  have ht : tmps.getD 2 undef = .pointer (some ⟨b2, 0, none⟩) := by simp [Array.getD_eq_getD_getElem?, h]
  rw [results_eq, hr]
  simp [resOne, ht, asAddr, hl]

/-- Behind the function: what the caller is told. -/
theorem inv_fin {B : Base} {G5 : Nat → Option Obj} {k t o wh : Int} {l5 : List Int} {β5 : Nat → Value} {w5 W W' : World} {b2 b3 : Nat} {v5 v : Value} {ds : List Deferred} {G' : Nat → Option Obj} {ds0 : List Deferred}
    (hI5 : Inv kF env0 { B with ds := ds0 } G5 (look (stP k t o wh l5)) β5 w5) (hown : ∀ d, (d = b2 ∨ d = b3 ∨ v5.ownBlock = some d) → G5 d = none ∧ (B.w0.heap.size ≤ d ∨ B.H d))
    (hv : ∀ rb, v.ownBlock = some rb → v5.ownBlock = some rb ∨ w5.heap.size ≤ rb)
    (hW : ∀ j, j < w5.heap.size → j ≠ b2 → j ≠ b3 → v5.ownBlock ≠ some j → W.heap[j]? = w5.heap[j]?) (hsz : w5.heap.size ≤ W.heap.size) (ho : W.os = w5.os) (ht : W.tape = w5.tape) (hu : W.output = w5.output)
    (hI : Inv kF env0 (base3 b2 b3 v W G5 ds) G' (look ([] : List (Nat × Ob U))) (fun _ => .nilFunc) W') :
    Inv kF env0 B G' (look ([] : List (Nat × Ob U))) (fun _ => .nilFunc) W' := by
  have key : ∀ j, j < B.w0.heap.size → ¬ B.H j → (j < w5.heap.size ∧ j ≠ b2 ∧ j ≠ b3 ∧ v5.ownBlock ≠ some j) ∧ j < W.heap.size ∧ ¬ (j = b2 ∨ j = b3 ∨ v.ownBlock = some j) := by
    intro j hj hH
    have h1 : j < w5.heap.size := Nat.lt_of_lt_of_le hj hI5.size
    have hno : ∀ d, (d = b2 ∨ d = b3 ∨ v5.ownBlock = some d) → j ≠ d := fun d hd e => by
      subst e
      rcases (hown j hd).2 with h | h
      · omega
      · exact hH h
    have n2 := hno b2 (.inl rfl)
    have n3 := hno b3 (.inr (.inl rfl))
    have n5 : v5.ownBlock ≠ some j := fun e => hno j (.inr (.inr e)) rfl
    refine ⟨⟨h1, n2, n3, n5⟩, Nat.lt_of_lt_of_le h1 hsz, ?_⟩
    rintro (h | h | h)
    · exact n2 h
    · exact n3 h
    · rcases hv j h with h | h
      · exact n5 h
      · omega
  refine ⟨hI.gok, fun _ _ h => (by cases h), fun _ _ _ h => (by cases h), fun _ _ _ _ _ h => (by cases h), (hI.os.trans ho).trans hI5.os, (hI.tape.trans ht).trans hI5.tape, (hI.output.trans hu).trans hI5.output,
    Nat.le_trans hI5.size (Nat.le_trans hsz hI.size), ?_, ?_, hI.env, hI5.n0, hI5.hh, fun _ _ _ h => (by cases h)⟩
  · intro j hj hH
    obtain ⟨⟨h1, n2, n3, n5⟩, h2, h3⟩ := key j hj hH
    exact ((hI.low j h2 h3).trans (hW j h1 n2 n3 n5)).trans (hI5.low j hj hH)
  · intro j hj hH
    obtain ⟨⟨h1, n2, n3, n5⟩, h2, h3⟩ := key j hj hH
    exact (hI.gl j h2 h3).trans (hI5.gl j hj hH)

/-- A block that nobody names is turned. -/
theorem inv_put {B : Base} {G' : Nat → Option Obj} {W' : World} {D : Nat} {ob : Obj} (hI : Inv kF env0 B G' (look ([] : List (Nat × Ob U))) (fun _ => .nilFunc) W') (hD : B.w0.heap.size ≤ D) (hG : G' D = none) :
    Inv kF env0 B G' (look ([] : List (Nat × Ob U))) (fun _ => .nilFunc) (W'.putObj D ob) := by
  have hg := grownBy_putObj' W' D ob
  refine ⟨?_, fun _ _ h => (by cases h), fun _ _ _ h => (by cases h), fun _ _ _ _ _ h => (by cases h), hg.os.trans hI.os, hg.tape.trans hI.tape, hg.output.trans hI.output, Nat.le_trans hI.size hg.size, ?_, hI.gl, ?_, hI.n0, hI.hh, fun _ _ _ h => (by cases h)⟩
  · intro j o hj
    have : j ≠ D := fun e => by rw [e, hG] at hj; cases hj
    rw [World.putObj_heap_other this]
    exact hI.gok j o hj
  · intro j hj hH
    rw [World.putObj_heap_other (by omega)]
    exact hI.low j hj hH
  · exact env0.stays W' _ hI.env (fun j hj => World.putObj_heap_other (by have := hI.n0; omega)) hg.size hg.tape hg.os
end Lift.D2.F

/- found: its contract. -/
namespace Lift.D2.F
open Go Go.RowKit Go.Proofs Lift Lift.Fn

/-- What the caller wants of f30's end. -/
def R30 (B : Base) (F : Finding) (e : Ending) (w' : World) : Prop :=
  ∃ G' β' v, e = .returned v ∧ Inv kF env0 B G' (look ([] : List (Nat × Ob U))) β' w' ∧ TRel kF.u G' ⟨.st 30, F⟩ v

/-- The function's last part, behind a loop or without one. -/
theorem tail_wp {B : Base} {G5 : Nat → Option Obj} {k t o wh : Int} {l5 l : List Int} {β5 : Nat → Value} {w5 W : World} {b2 b3 : Nat} {v5 v : Value} {c2 : List Value} {ds0 : List Deferred}
    (hI5 : Inv kF env0 { B with ds := ds0 } G5 (look (stP k t o wh l5)) β5 w5) (hown : ∀ d, (d = b2 ∨ d = b3 ∨ v5.ownBlock = some d) → G5 d = none ∧ (B.w0.heap.size ≤ d ∨ B.H d))
    (hv : ∀ rb, v.ownBlock = some rb → v5.ownBlock = some rb ∨ w5.heap.size ≤ rb)
    (hW : ∀ j, j < w5.heap.size → j ≠ b2 → j ≠ b3 → v5.ownBlock ≠ some j → W.heap[j]? = w5.heap[j]?) (hsz : w5.heap.size ≤ W.heap.size) (ho : W.os = w5.os) (ht : W.tape = w5.tape) (hu : W.output = w5.output)
    (hB : Boxes b2 b3 c2 k t o wh v l W) (hE : env0.E W) {a : Act} (h2 : a.tmps[2]? = some (.pointer (some ⟨b2, 0, none⟩))) (h3 : a.tmps[3]? = some (.pointer (some ⟨b3, 0, none⟩))) (hs : a.tmps.size = Tryd.f30.ntmps)
    (hd : a.defers = [] ∨ ∃ D, w5.heap.size ≤ D ∧ W.heap[D]? = some (.deferred (some [])) ∧ a.defers = [{ target := .collected D, args := #[] }]) :
    cZ.wp Tryd.prog (bodyPostM Fence.wide 0 Tryd.prog Tryd.f30 (R30 B ⟨k, t, o, wh, l⟩)) a W := by
  have hG : ∀ j ob, G5 j = some ob → W.heap[j]? = some ob := fun j ob hj => by
    have h5 := hI5.gok j ob hj
    have hlt := (Array.getElem?_eq_some_iff.1 h5).1
    have no : ∀ d, (d = b2 ∨ d = b3 ∨ v5.ownBlock = some d) → j ≠ d := fun d hd e => by
      subst e
      rw [(hown j hd).1] at hj
      cases hj
    rw [hW j hlt (no b2 (.inl rfl)) (no b3 (.inr (.inl rfl))) (fun e => no j (.inr (.inr e)) rfl)]
    exact h5
  have hG2 : ∀ j, (j = b2 ∨ j = b3 ∨ v.ownBlock = some j) → G5 j = none := by
    rintro j (h | h | h)
    · exact (hown j (.inl h)).1
    · exact (hown j (.inr (.inl h))).1
    · rcases hv j h with h | h
      · exact (hown j (.inr (.inr h))).1
      · exact hI5.none_of_ge h
  refine end_wp hB hE hG hG2 h2 h3 hs rfl (fun a' W' G' y hI ha hd' hb hy hGb => ?_)
  have hT : ∀ {W'' : World}, TRel kF.u G' ⟨.st 30, (⟨k, t, o, wh, l⟩ : Finding)⟩ (.agg #[.int .i64 k, .int .i64 t, .int .i64 o, .int .i64 wh, y]) := by
    intro _
    have hc : TsRel kF.u G' (kF.u.cells 30 (⟨k, t, o, wh, l⟩ : Finding)) [.int .i64 k, .int .i64 t, .int .i64 o, .int .i64 wh, y] :=
      .cons _ _ _ _ (.int _ _) (.cons _ _ _ _ (.int _ _) (.cons _ _ _ _ (.int _ _) (.cons _ _ _ _ (.int _ _) (.cons _ _ _ _ hy .nil))))
    exact TRel.st (u := kF.u) 30 _ _ hc
  have hF := inv_fin (B := B) hI5 hown hv hW hsz ho ht hu hI
  show LeavesInM Fence.wide 0 Tryd.prog Tryd.f30 a'.tmps (R30 B ⟨k, t, o, wh, l⟩) a'.defers .returning W'
  rcases hd with hd | ⟨D, hD, hDW, hd⟩
  · rw [hd', hd]
    exact ⟨_, f30_results ha hb, G', _, _, rfl, hF, hT (W'' := W')⟩
  · rw [hd', hd]
    have hDlt : D < W.heap.size := (Array.getElem?_eq_some_iff.1 hDW).1
    have nD : ¬ (D = b2 ∨ D = b3 ∨ v.ownBlock = some D) := by
      rintro (h | h | h)
      · rw [h, hB.h2] at hDW; cases hDW
      · rw [h, hB.h3] at hDW; cases hDW
      · rcases hB.own.2 with ⟨h', _⟩ | ⟨g, cap, cur, fz, h', _, hg, _⟩
        · rw [h'] at h; cases h
        · rw [h'] at h; cases h
          rw [hg] at hDW; cases hDW
    have hDW' : W'.heap[D]? = some (.deferred (some [])) := (hI.low D hDlt nD).trans hDW
    have hGD : G' D = none := (hI.gl D hDlt nD).trans (hI5.none_of_ge hD)
    refine ⟨by simp, .inl ⟨_, _, rfl, run_takeDeferred hDW', ?_⟩⟩
    have hne : b2 ≠ D := fun e => nD (.inl e.symm)
    have hb' : (W'.putObj D (.deferred none)).heap[b2]? = some (.cells #[.int .i64 k, .int .i64 t, .int .i64 o, .int .i64 wh, y] 30 (0, 0)) := (World.putObj_heap_other hne).trans hb
    have hle : B.w0.heap.size ≤ D := Nat.le_trans hI5.size hD
    exact ⟨_, f30_results ha hb', G', _, _, rfl, inv_put hF hle hGD, hT (W'' := W')⟩
end Lift.D2.F

/- found: the loop. -/
namespace Lift.D2.F
open Go Go.RowKit Go.Proofs Lift Lift.Fn

theorem steps_append : ∀ (p q : List (List UInt8)) (l : List Int), found_steps (p ++ q) l = (found_steps p l).bind (found_steps q)
  | [], q, l => rfl
  | x :: p, q, l => by
    show (found_step x l).bind (found_steps (p ++ q)) = ((found_step x l).bind (found_steps p)).bind (found_steps q)
    cases found_step x l with
    | none => rfl
    | some l1 => exact steps_append p q l1

theorem seq_old {w : World} {s sep : ByteArray} {j : Nat} (hj : j < w.heap.size) : (seqWorld w s sep).heap[j]? = w.heap[j]? := by
  unfold seqWorld
  rw [heap_alloc_old _ _ (by simp; omega), heap_alloc_old _ _ (by simp; omega), heap_alloc_old _ _ hj]
theorem seq_size {w : World} {s sep : ByteArray} : (seqWorld w s sep).heap.size = w.heap.size + 3 := by
  unfold seqWorld
  simp
theorem seq_0 {w : World} {s sep : ByteArray} : (seqWorld w s sep).heap[w.heap.size]? = some (.cells #[.string s] 9 (0, 0)) := by
  unfold seqWorld
  rw [heap_alloc_old _ _ (by simp; omega), heap_alloc_old _ _ (by simp), heap_alloc_new]
theorem seq_1 {w : World} {s sep : ByteArray} : (seqWorld w s sep).heap[w.heap.size + 1]? = some (.cells #[.string sep] 9 (0, 0)) := by
  unfold seqWorld
  rw [heap_alloc_old _ _ (by simp)]
  have := heap_alloc_new (w.alloc (.cells #[.string s] 9)) (.cells #[.string sep] 9)
  simpa using this
theorem seq_2 {w : World} {s sep : ByteArray} : (seqWorld w s sep).heap[w.heap.size + 2]? = some (.cells #[.int .i64 0] 3 (0, 0)) := by
  unfold seqWorld
  have := heap_alloc_new ((w.alloc (.cells #[.string s] 9)).alloc (.cells #[.string sep] 9)) (.cells #[.int .i64 0] 3)
  simpa using this
theorem seq_grown {w : World} {s sep : ByteArray} {row : Option Nat} : w.grownBy (seqWorld w s sep) row :=
  ⟨rfl, rfl, rfl, by rw [seq_size]; omega, fun _ hk _ => seq_old hk⟩

theorem Boxes.over {b2 b3 : Nat} {c2 : List Value} {k t o wh : Int} {v : Value} {l : List Int} {W W' : World} {row : Option Nat} (h : Boxes b2 b3 c2 k t o wh v l W) (hg : W.grownBy W' row)
    (hne : ∀ r, row = some r → r ≠ b2 ∧ r ≠ b3 ∧ v.ownBlock ≠ some r) : Boxes b2 b3 c2 k t o wh v l W' := by
  refine ⟨?_, ?_, h.own.kept hg ?_, h.ne, h.n2, h.n3, h.one, h.five⟩
  · rw [hg.block b2 (Array.getElem?_eq_some_iff.1 h.h2).1 (fun e => (hne b2 e.symm).1 rfl)]; exact h.h2
  · rw [hg.block b3 (Array.getElem?_eq_some_iff.1 h.h3).1 (fun e => (hne b3 e.symm).2.1 rfl)]; exact h.h3
  · cases hv : v.ownBlock with
    | none => exact .inl rfl
    | some r =>
      right
      intro e
      exact (hne r e.symm).2.2 hv

theorem Boxes.cells_row {b2 b3 : Nat} {c2 : List Value} {k t o wh : Int} {v : Value} {l : List Int} {W : World} (h : Boxes b2 b3 c2 k t o wh v l W) {r : Nat} (hr : v.ownBlock = some r) : ∃ cur fz, W.heap[r]? = some (.cells cur 3 fz) := by
  rcases h.own.2 with ⟨h', _⟩ | ⟨g, cap, cur, fz, h', _, hg, _⟩
  · rw [h'] at hr; cases hr
  · rw [h'] at hr; cases hr
    exact ⟨cur, fz, hg⟩

theorem loop_wp {B : Base} {G5 : Nat → Option Obj} {k t o wh : Int} {l5 l' : List Int} {β5 : Nat → Value} {w5 : World} {b2 b3 : Nat} {v5 : Value} {c2 : List Value} {s : List UInt8}
    (hI5 : Inv kF env0 { B with ds := [] } G5 (look (stP k t o wh l5)) β5 w5) (hown : ∀ d, (d = b2 ∨ d = b3 ∨ v5.ownBlock = some d) → G5 d = none ∧ (B.w0.heap.size ≤ d ∨ B.H d))
    (hB5 : Boxes b2 b3 c2 k t o wh v5 l5 w5) (hlen : s.length ≤ 1000000000000) (hst : found_steps (pieces 44 s) l5 = some l')
    {a : Act} (h2 : a.tmps[2]? = some (.pointer (some ⟨b2, 0, none⟩))) (h3 : a.tmps[3]? = some (.pointer (some ⟨b3, 0, none⟩))) (h4 : a.tmps[4]? = some (.string ⟨s.toArray⟩)) (hs : a.tmps.size = Tryd.f30.ntmps) (hd : a.defers = []) :
    (Code.seq r20 (.block 2 (.rangeFunc (.tmp 57) #[58] rfA rfB))).wp Tryd.prog (Exit.then (cZ.wp Tryd.prog (bodyPostM Fence.wide 0 Tryd.prog Tryd.f30 (R30 B ⟨k, t, o, wh, l'⟩))) (bodyPostM Fence.wide 0 Tryd.prog Tryd.f30 (R30 B ⟨k, t, o, wh, l'⟩))) a w5 := by
  have hsz : a.tmps.size = 67 := hs
  have hlt2 : b2 < w5.heap.size := (Array.getElem?_eq_some_iff.1 hB5.h2).1
  have hlt3 : b3 < w5.heap.size := (Array.getElem?_eq_some_iff.1 hB5.h3).1
  have hltv : ∀ r, v5.ownBlock = some r → r < w5.heap.size := fun r hr => by
    obtain ⟨_, _, hg⟩ := hB5.cells_row hr
    exact (Array.getElem?_eq_some_iff.1 hg).1
  have hN : env0.N0 ≤ w5.heap.size := Nat.le_trans hI5.n0 hI5.size
  refine wp_seq (r20_wp h4 hs ?_)
  refine wp_block ?_
  obtain ⟨a6, ha6⟩ : ∃ a6 : Act, a6 = { a with tmps := (a.tmps.setIfInBounds 56 (.string ⟨s.toArray⟩)).setIfInBounds 57 (iter w5) } := ⟨_, rfl⟩
  rw [← ha6]
  have s6 : a6.tmps.size = 67 := by rw [ha6]; simp [hsz]
  have t2 : a6.tmps[2]? = some (.pointer (some ⟨b2, 0, none⟩)) := by rw [ha6]; simpa using h2
  have t3 : a6.tmps[3]? = some (.pointer (some ⟨b3, 0, none⟩)) := by rw [ha6]; simpa using h3
  have t57 : a6.tmps[57]? = some (iter w5) := by rw [ha6]; simp [hsz]
  have d6 : a6.defers = [] := by rw [ha6]; exact hd
  refine range_seq (gf := 72) (lb := #[.pointer (some ⟨w5.heap.size + 1, 0, none⟩), .pointer (some ⟨w5.heap.size, 0, none⟩), .pointer (some ⟨w5.heap.size + 2, 0, none⟩)]) (b2 := w5.heap.size) (keep := [w5.heap.size + 1, w5.heap.size, w5.heap.size + 2]) (xs := pieces 44 s)
    (eval_tmp t57) (enters_of Tryd.func72 (by kernel_rfl) rfl) (Tryd.seqZ s 44 hlen _ _ seq_0 seq_1 seq_2) (by rw [seq_size]; omega) (fun b hb => by rw [seq_size]; simp at hb; omega) rfl
    (fun pre W => ∃ v l1, found_steps pre l5 = some l1 ∧ Boxes b2 b3 c2 k t o wh v l1 W ∧ (∀ rb, v.ownBlock = some rb → v5.ownBlock = some rb ∨ w5.heap.size + 3 ≤ rb) ∧
      (∀ j, j < w5.heap.size → j ≠ b2 → j ≠ b3 → v5.ownBlock ≠ some j → W.heap[j]? = w5.heap[j]?) ∧ W.os = w5.os ∧ W.tape = w5.tape ∧ W.output = w5.output ∧ w5.heap.size + 3 ≤ W.heap.size ∧ env0.E W)
    (fun _ _ => False) ?_ (fun _ _ _ _ h _ _ => h) ?_
    (fun x => { tmps := (a6.tmps.setIfInBounds 58 (.string ⟨x.toArray⟩)).setIfInBounds 5 (.string ⟨x.toArray⟩), defers := [] }) ?_ ?_ ?_ (fun _ _ _ _ _ h _ => h.elim)
  · -- what a round may rely on stays
    rintro pre W W' row ⟨v, l1, q1, q2, q3, q4, q5, q6, q7, q8, q9⟩ hg hr
    rw [seq_size] at hr
    have hne : ∀ r, row = some r → w5.heap.size ≤ r := fun r e => by
      rcases hr r e with h | ⟨h, _⟩ <;> omega
    refine ⟨v, l1, q1, q2.over hg (fun r e => ?_), q3, fun j hj n2 n3 n5 => (hg.block j (by omega) (fun e => by have := hne j e.symm; omega)).trans (q4 j hj n2 n3 n5), hg.os.trans q5, hg.tape.trans q6, hg.output.trans q7, Nat.le_trans q8 hg.size,
      env0.stays W W' q9 (fun j hj => hg.block j (by omega) (fun e => by have := hne j e.symm; omega)) hg.size hg.tape hg.os⟩
    refine ⟨by have := hne r e; omega, by have := hne r e; omega, fun hv => ?_⟩
    obtain ⟨cur, fz, hcell⟩ := q2.cells_row hv
    rcases hr r e with h | ⟨_, ob, hob, hc⟩
    · rcases q3 r hv with h' | h'
      · have := hltv r h'; omega
      · omega
    · rw [hcell] at hob
      cases hob
      cases hc
  · -- at the start
    refine ⟨v5, l5, rfl, hB5.over (row := none) seq_grown (fun r e => by cases e), fun rb h => .inl h, fun j hj _ _ _ => seq_old hj, rfl, rfl, rfl, by rw [seq_size]; exact Nat.le_refl _, ?_⟩
    exact env0.stays w5 _ hI5.env (fun j hj => seq_old (by omega)) (by rw [seq_size]; omega) rfl rfl
  · -- the assignment
    intro l x W K hK
    exact rfA_wp (x := .string ⟨x.toArray⟩) (by simp [s6]) (by simpa using hK)
  · -- a round
    rintro l pre x W ⟨v, l1, q1, q2, q3, q4, q5, q6, q7, q8, q9⟩ hpx
    obtain ⟨rest, hrest⟩ := hpx
    obtain ⟨l2, hl2⟩ : ∃ l2, found_step x l1 = some l2 := by
      rw [← hrest, steps_append, steps_append, q1] at hst
      simp only [Option.bind_some] at hst
      cases hx : found_step x l1 with
      | none =>
        have : found_steps [x] l1 = none := by show (found_step x l1).bind _ = none; rw [hx]; rfl
        rw [this] at hst; cases hst
      | some l2 => exact ⟨l2, rfl⟩
    refine round_wp q2 q9 hl2 (by simpa using t3) (by simp [s6]) (by simpa using s6) rfl postZ_shut (fun a' W' v' hB' hK hrow => ?_)
    have hcell3 := q2.h3
    refine ⟨⟨hK.size, fun j ob hj hob hc => ?_⟩, fun b hb => ?_, ?_⟩
    · refine (hK.same j (Array.getElem?_eq_some_iff.1 hob).1 (fun e => ?_) (fun e => ?_)).trans hob
      · rw [e, hcell3] at hob; cases hob; cases hc
      · obtain ⟨cur, fz, hcell⟩ := q2.cells_row e
        rw [hcell] at hob; cases hob; cases hc
    · have hb' : w5.heap.size ≤ b ∧ b < w5.heap.size + 3 := by simp at hb; omega
      refine hK.same b (by omega) (by omega) (fun e => ?_)
      rcases q3 b e with h' | h'
      · have := hltv b h'; omega
      · omega
    · refine ⟨v', l2, ?_, hB', fun rb h => ?_, fun j hj n2 n3 n5 => ?_, hK.os.trans q5, hK.tape.trans q6, hK.output.trans q7, Nat.le_trans q8 hK.size, hK.env⟩
      · rw [steps_append, q1, Option.bind_some]
        show (found_step x l1).bind _ = _
        rw [hl2]; rfl
      · rcases hrow rb h with h | h
        · exact q3 rb h
        · right; omega
      · refine (hK.same j (by omega) n3 (fun e => ?_)).trans (q4 j hj n2 n3 n5)
        rcases q3 j e with h' | h'
        · exact n5 h'
        · omega
  · -- behind the loop
    rintro D W hD ⟨v, l1, q1, q2, q3, q4, q5, q6, q7, q8, q9⟩ hDW
    rw [hst] at q1
    cases q1
    rw [seq_size] at hD
    show cZ.wp Tryd.prog _ _ W
    refine tail_wp hI5 hown (fun rb h => ?_) q4 (by omega) q5 q6 q7 q2 q9 (by simpa using t2) (by simpa using t3) (by simpa using s6) (.inr ⟨D, by omega, hDW, by rw [d6]⟩)
    rcases q3 rb h with h | h
    · exact .inl h
    · right; omega
end Lift.D2.F

/- found: its contract, as a mode's. -/
namespace Lift.D2.F
open Go Go.RowKit Go.Proofs Lift Lift.Fn

theorem kP_inv {e : Xit} {σ : St U} {y} (h : kP e σ = some y) : ∃ ls, e = .normal ∧ enter kF.u shP (look σ.tm) (look σ.st) = some ls ∧ encP ls = some y := by
  unfold kP at h
  split at h
  · obtain ⟨ls, h6, h7⟩ := Option.bind_eq_some_iff.1 h
    exact ⟨ls, rfl, h6, h7⟩
  · cases h

theorem encP_inv {ls : List (TV U)} {s : List UInt8} {b : Bool} {k t o w : Int} {l : List Int} (h : encP ls = some (s, b, k, t, o, w, l)) : ls = lsP s b k t o w l := by
  unfold encP at h
  split at h
  · cases h; rfl
  · cases h

theorem mem1 {α : Type} {i : Nat} {x : α} {id : Nat} {ob : α} (h : look [(i, x)] id = some ob) : id = i ∧ ob = x := by
  have hm := look_mem h
  simpa using hm

theorem found_calls {B : Base} {G : Nat → Option Obj} {β : Nat → Value} {w : World} {a0 : List (List UInt8)} {v0 : Value} {F : Finding} (hI : Inv kF env0 B G (look ([] : List (Nat × Ob U))) β w) (hw : B.w0 = w)
    (hv : TRel kF.u G ⟨.slc .str, a0⟩ v0) (h : report_found_f a0 = some F) : Calls Tryd.prog 30 #[v0] w (R30 B F) := by
  refine callsIn_wide.1 (callsIn_of_wp_marks (F := Fence.wide) (n := 0) Tryd.func30 codeE trivial (wpIn_wide.2 ?_) rfl)
  have hrel : Rel kF env0 { B with ds := [] } Tryd.f30.ntmps (sh0.fill [⟨.slc .str, a0⟩]) { tmps := #[v0] ++ Array.replicate (Tryd.f30.ntmps - (#[v0] : Array Value).size) undef, defers := [] } w := by
    refine ⟨G, β, hI.ds [], ?_, by simp [show Tryd.f30.ntmps = 67 from rfl], rfl⟩
    intro n p hp
    obtain ⟨rfl, rfl⟩ := mem1 (α := PV U) (i := 0) hp
    have : PRel kF G (look ([] : List (Nat × Ob U))) β (PV.t ⟨.slc .str, a0⟩) v0 := by simp only [PRel]; exact hv
    exact ⟨v0, by simp [Array.getElem?_append], this⟩
  unfold report_found_f at h
  simp only [Option.bind_eq_some_iff] at h
  obtain ⟨⟨s, b, k, t, o, wh, l⟩, hpre, h⟩ := h
  simp only at h
  have hp := (preE a0).trans hpre
  unfold preC at hp
  have hkn : ∀ e (σ : St U), e ≠ Xit.normal → kP e σ ≠ some (s, b, k, t, o, wh, l) := fun e σ he => kP_norm e σ _ he
  refine wp_seq_exec kFok hp hkn hrel (fun σ1 a1 w1 h1 hr1 => ?_)
  refine wp_seq_exec kFok h1 hkn hr1 (fun σ2 a2 w2 h2 hr2 => ?_)
  refine wp_seq_exec kFok h2 hkn hr2 (fun σ3 a3 w3 h3 hr3 => ?_)
  refine wp_seq ?_
  refine wp_seq_exec kFok h3 hkn hr3 (fun σ4 a4 w4 h4 hr4 => ?_)
  refine wp_seq (exec_sound kFok (L := fun _ => none) (fun b _ lp h => by cases h) h4 hr4 (fun e σ5 a5 w5 h5 hr5 => ?_))
  obtain ⟨ls, rfl, h6, h7⟩ := kP_inv h5
  obtain rfl := encP_inv h7
  have hr6 := enter_rel h6 hr5
  obtain ⟨G5, β5, b2, b3, c2, v5, hI5, t2, t3, t4, t55, hs5, hd5, hB5, hown⟩ := open_rel hr6
  show (Code.cond (.tmp 55) (.seq r20 (.block 2 (.rangeFunc (.tmp 57) #[58] rfA rfB))) .skip).wp Tryd.prog _ a5 w5
  cases b with
  | false =>
    rw [cond_false] at h
    cases h
    refine wp_cond_false (eval_tmp t55) (wp_skip ?_)
    show cZ.wp Tryd.prog _ a5 w5
    exact tail_wp hI5 hown (fun rb h => .inl h) (fun _ _ _ _ _ => rfl) (Nat.le_refl _) rfl rfl rfl hB5 hI5.env t2 t3 hs5 (.inl hd5)
  | true =>
    rw [cond_true] at h
    cases hc : decide (s.length ≤ 1000000000000) with
    | false => rw [hc] at h; cases h
    | true =>
      rw [hc, cond_true, Option.bind_eq_some_iff] at h
      obtain ⟨l', hst, h⟩ := h
      cases h
      exact wp_cond_true (eval_tmp t55) (loop_wp hI5 hown hB5 (of_decide_eq_true hc) hst t2 t3 t4 hs5 hd5)

theorem found_post : ∀ (a0 : List (List UInt8)) (F : Finding), report_found_f a0 = some F → FnPost kF env0 30 ⟨⟨[0], [], []⟩, [.t (.slc .str)], []⟩ [⟨⟨[0], [], []⟩, [.t (.st 30)], []⟩] [⟨.slc .str, a0⟩] 0 [⟨.st 30, F⟩] := by
  intro a0 F h B G β w args o ho hw hI hp
  cases ho
  obtain ⟨v0, r, rfl, hv, hr⟩ := hp
  cases hr
  change PRel kF G (look ([] : List (Nat × Ob U))) β (PV.t ⟨.slc .str, a0⟩) v0 at hv
  simp only [PRel] at hv
  refine (found_calls (a0 := a0) hI hw hv h).mono ?_
  rintro e w' ⟨G', β', v, rfl, hI', hT⟩
  refine ⟨G', β', v, rfl, hI', ?_⟩
  have : PRel kF G' (look ([] : List (Nat × Ob U))) β' (PV.t ⟨.st 30, F⟩) v := by simp only [PRel]; exact hT
  exact this
end Lift.D2.F

/- found: its contract, whatever else is kept of the world. -/
namespace Lift.D2.F
open Go Go.RowKit Go.Proofs Lift Lift.Fn

theorem anyV {V : Env} {f : FuncId} {sh : StSh} {outs : List StSh} {ls : List (TV kk.u.U)} {j : Nat} {rs : List (TV kk.u.U)} (h : FnPost kk env0 f sh outs ls j rs) : FnPost kk V f sh outs ls j rs := by
  intro B G β w args o ho hw hI hp
  have hI' : Inv kk env0 B G (look (sh.fill ls).st) β w := ⟨hI.gok, hI.obs, hI.own, hI.inj, hI.os, hI.tape, hI.output, hI.size, hI.low, hI.gl, trivial, Nat.zero_le _, fun _ _ => Nat.zero_le _, hI.pin⟩
  refine (h B G β w args o ho hw hI' hp).mono ?_
  rintro e w' ⟨G', β', v, he, k, hr⟩
  refine ⟨G', β', v, he, ⟨k.gok, k.obs, k.own, k.inj, k.os, k.tape, k.output, k.size, k.low, k.gl, ?_, hI.n0, hI.hh, k.pin⟩, hr⟩
  subst hw
  refine V.stays B.w0 w' hI.env (fun i hi => k.low i (Nat.lt_of_lt_of_le hi hI.n0) (fun hH => ?_)) k.size k.tape k.os
  have := hI.hh i hH
  omega

theorem found_any {V : Env} (a0 : List (List UInt8)) (F : Finding) (h : report_found_f a0 = some F) : FnPost kk V 30 ⟨⟨[0], [], []⟩, [.t (.slc .str)], []⟩ [⟨⟨[0], [], []⟩, [.t (.st 30)], []⟩] [⟨.slc .str, a0⟩] 0 [⟨.st 30, F⟩] :=
  anyV (FnPost.modes.1 (found_post a0 F h))
end Lift.D2.F

