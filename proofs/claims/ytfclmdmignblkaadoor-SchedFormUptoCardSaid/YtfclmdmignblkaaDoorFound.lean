/-
  DERIVED. A loop over a library's iterator; the library's modes hold. Conditions: as each theorem says.
-/
import Derived.Test.YtfclmdmignblkaaDoorDefs
import Derived.Test.YtfclmdmignblkaaDoorProg
import Derived.WalkKit
import Derived.OwnWalkIn
import Derived.TacticsInMore
import Derived.LoopNIn
import Derived.LoopIn
import Derived.Shelf.Abstract
import Derived.Below
import Derived.RegionIn
import Derived.Laws.CopyRow
import Derived.Laws.BitsLemmas
import Derived.RangeFuncKeeps
import Derived.RangeFuncLeaves
import Derived.Shelf.RegionOpen
import Derived.Shelf.Strings.Search3
set_option linter.unusedVariables false
set_option linter.unusedSimpArgs false
set_option linter.unusedSectionVars false
/- slices.Repeat of one number: the walk. -/
namespace Go.Proofs
open Go.RowKit Go.Shelf
attribute [local go_sem] Oper.semAt_some

theorem copy_fill {P : Program} {w : World} {g o n dCap m sCap K : Nat} {a : Addr} {v : Value} {cur : Array Value} (hu : P.underlying 22 = some (.slice 3)) (hs : (P.info? 3).map (·.size) = some 1)
    (hg : w.heap[g]? = some (.cells cur 3 (0, 0))) (hc : cur.size = K) (ho : o ≤ K) (hn : n = K - o) (hsrc : ∀ j, j < m → w.cell? (a.add j) = some v) (h1 : v.oneCell' = true) (hf : ∀ j, j < o → cur[j]? = some v) :
    ∃ cur', (Builtin.copy_ #[22, 22] 3 #[.slice (some ⟨g, o, none⟩) n dCap, .slice (some a) m sCap]).run P w = .ok (goInt ((min m n : Nat) : Int)) (w.setRow g cur') ∧ cur'.size = K ∧ ∀ j, j < o + min m n → cur'[j]? = some v := by
  have hl : (List.replicate (min m n) v).length = min m n := List.length_replicate
  have hr := Lift.run_copy_rowN (P := P) w 22 22 3 3 g o n dCap a m sCap cur 3 (List.replicate (min m n) v) 1 (min m n) (0, 0) hu hs hg (okFz_zero _) rfl (by rw [hl]; omega)
    (fun j u hj => by
      rw [List.getElem?_replicate] at hj
      split at hj
      · cases hj; exact hsrc j (by omega)
      · cases hj) (by rw [hl]; omega) (fun u hu => by rw [List.eq_of_mem_replicate hu]; exact h1)
  refine ⟨_, hr, ?_, ?_⟩
  · simp only [List.size_toArray, List.length_append, List.length_take, List.length_drop, Array.length_toList, hl]
    omega
  · intro j hj
    rw [List.getElem?_toArray, hl]
    by_cases c : j < o
    · rw [List.append_assoc, List.getElem?_append_left (by rw [List.length_take, Array.length_toList]; omega), List.getElem?_take, if_pos c, Array.getElem?_toList]
      exact hf j c
    · rw [List.append_assoc, List.getElem?_append_right (by rw [List.length_take, Array.length_toList]; omega), List.length_take, Array.length_toList, List.getElem?_append_left (by rw [hl]; omega), List.getElem?_replicate, if_pos (by omega)]

set_option maxRecDepth 100000 in
set_option maxHeartbeats 1000000 in
theorem Tryd.Repeat_in (n : Nat) (v k : Int) (h0 : 0 ≤ k) (h1 : k ≤ 1000000) (b off cap : Nat) (w : World) (hx : w.cell? ⟨b, off, none⟩ = some (.int .i64 v))
    (hM : ∀ w', CallsIn Fence.wide (n - 1) Tryd.prog 46 #[.int .u64 1, .int .u64 k] w' fun e w1 => e = .returned (.tuple #[.int .u64 0, .int .u64 k]) ∧ w1 = w') :
    CallsIn Fence.wide n Tryd.prog 33 #[.slice (some ⟨b, off, none⟩) 1 cap, .int .i64 k] w fun e w' => e = .returned (.slice (some ⟨w.heap.size, 0, none⟩) k.toNat k.toNat) ∧
      w'.heap[w.heap.size]? = some (.cells (Array.replicate k.toNat (.int .i64 v)) 3 (0, 0)) ∧ Below w.heap.size w w' := by
  refine callsIn_of_wp Tryd.func33 rfl trivial ?_ rfl
  simp only [Tryd.ntmps33, List.size_toArray, List.length_cons, List.length_nil, Nat.reduceAdd, Nat.reduceSub, Array.replicate_succ, Array.replicate_zero, List.push_toArray, List.append_toArray, List.nil_append, List.cons_append]
  have hk0 : ¬ k < 0 := by omega
  have hw : IntKind.wrap .u64 k = k := Go.IntWalk.u64_in _ (by omega)
  have hw2 : IntKind.wrap .i64 k = k := Go.IntWalk.i64_in _ (by omega)
  have hk9 : ¬ k > 9223372036854775807 := by omega
  gi_wp2
  refine ⟨trivial, fun h => (by cases h), (hM _).mono ?_⟩
  rintro e w' ⟨rfl, rfl⟩
  simp only
  have hK : ((k.toNat : Nat) : Int) = k := Int.toNat_of_nonneg h0
  obtain ⟨i, hi, hi1, hi2, hi3⟩ : ∃ i : TypeInfo, Tryd.prog.info? 3 = some i ∧ i.zero = some (.int .i64 0) ∧ i.size = 1 ∧ i.bytes = 8 := ⟨_, rfl, rfl, rfl, rfl⟩
  obtain ⟨K, hKK⟩ : ∃ K, k.toNat = K := ⟨_, rfl⟩
  have hmk := run_makeSlice (P := Tryd.prog) w' 22 3 i (.int .i64 0) rfl hi hi1 .i64 .i64 k k h0 (Int.le_refl _) (by rw [hi2, hKK]; omega) (by rw [hi3]; omega) (by omega)
  rw [hKK] at hmk
  obtain ⟨W1, hW1⟩ : ∃ W1, w'.alloc (.cells (madeCells #[.int .i64 0] K) 3) = W1 := ⟨_, rfl⟩
  have hmk : (Instr.makeSlice 22 (.int .i64 k) (.int .i64 k)).run Tryd.prog w' = .ok (.slice (some ⟨w'.heap.size, 0, none⟩) K K) W1 := by rw [hmk, ← hW1, hi2, Nat.mul_one]; rfl
  obtain ⟨g, hg⟩ : ∃ g, w'.heap.size = g := ⟨_, rfl⟩
  rw [hg] at hmk
  have hW1g : W1.heap[g]? = some (.cells (madeCells #[.int .i64 0] K) 3 (0, 0)) := by rw [← hW1, ← hg]; exact heap_alloc_new _ _
  have hb1 : Below g w' W1 := by rw [← hW1, ← hg]; exact (Below.refl _ _).alloc (Nat.le_refl _) _
  have hbg : b < g := by
    unfold World.cell? at hx
    cases hc : w'.heap[b]? with
    | none => simp [hc] at hx
    | some o => have := (Array.getElem?_eq_some_iff.1 hc).1; omega
  have hx1 : W1.cell? ⟨b, off, none⟩ = some (.int .i64 v) := (hb1.cell (p := ⟨b, off, none⟩) hbg).trans hx
  obtain ⟨cur1, hc1, hc2, hc3⟩ := copy_fill (P := Tryd.prog) (w := W1) (g := g) (o := 0) (n := K) (dCap := K) (m := 1) (sCap := cap) (K := K) (a := ⟨b, off, none⟩) (v := .int .i64 v) rfl rfl hW1g (by simp [madeCells]) (Nat.zero_le _) (by omega)
    (fun j hj => by obtain rfl : j = 0 := by omega
                    simpa [Addr.add] using hx1) rfl (fun j hj => by omega)
  obtain ⟨m1, hm1⟩ : ∃ m1, min 1 K = m1 := ⟨_, rfl⟩
  rw [hm1] at hc1
  have hc1 : (Builtin.copy_ #[22, 22] 3 #[.slice (some ⟨g, 0, none⟩) K K, .slice (some ⟨b, off, none⟩) 1 cap]).run Tryd.prog W1 = .ok (.int .i64 m1) (W1.setRow g cur1) := hc1
  gi_wp2
  have hcs1 : (W1.setRow g cur1).heap[g]? = some (.cells cur1 3 (0, 0)) := setRow_heap W1 g _ cur1 3 (0, 0) hW1g
  have hbs1 : Below g w' (W1.setRow g cur1) := hb1.grown (row := some g) Lift.setRow_grown (by rw [← hW1, ← hg]; simp) (fun r e => by cases e; exact Nat.le_refl _)
  gi_loopw [8] (fun s8 wr => ∃ (m : Nat) (cur : Array Value), s8 = .int .i64 m ∧ m ≤ K ∧ (m = 0 → K = 0) ∧ wr.heap[g]? = some (.cells cur 3 (0, 0)) ∧ cur.size = K ∧ (∀ j, j < m → cur[j]? = some (.int .i64 v)) ∧ Below g w' wr)
    (fun s8 wr => K - (intOf s8).toNat)
  case atStart =>
    exact ⟨m1, cur1, rfl, by omega, by omega, hcs1, hc2, fun j hj => hc3 j (by omega), hbs1⟩
  case round =>
    obtain ⟨m, cur, hs8, hmK, hm0, hgr, hsz, hfl, hbr⟩ := hrel
    subst hs8
    by_cases hlt : m < K
    · obtain ⟨cur2, hd1, hd2, hd3⟩ := copy_fill (P := Tryd.prog) (w := wr.drew) (g := g) (o := m) (n := K - m) (dCap := K - m) (m := m) (sCap := K) (K := K) (a := ⟨g, 0, none⟩) (v := .int .i64 v) rfl rfl hgr hsz hmK rfl
        (fun j hj => by rw [Lift.addr_add, Nat.zero_add, cell_of_row wr.drew g j cur 3 (0, 0) hgr]; exact hfl j hj) rfl hfl
      obtain ⟨m2, hm2⟩ : ∃ m2, min m (K - m) = m2 := ⟨_, rfl⟩
      rw [hm2] at hd1 hd3
      have hd1 : (Builtin.copy_ #[22, 22] 3 #[.slice (some ⟨g, m, none⟩) (K - m) (K - m), .slice (some ⟨g, 0, none⟩) m K]).run Tryd.prog wr.drew = .ok (.int .i64 m2) (wr.drew.setRow g cur2) := hd1
      have hlt2 : (m : Int) < (K : Int) := by omega
      have hb1' : (Instr.sliceBounds true K K (some (.int .i64 m)) none none).run Tryd.prog wr = .ok (m, K, K) wr := by
        simp [Instr.sliceBounds, Instr.sliceBound, asIntOf]; omega
      gi_wp2
      have hw3 : IntKind.wrap .i64 ((m : Int) + (m2 : Int)) = ((m + m2 : Nat) : Int) := by rw [Go.IntWalk.i64_in _ (by omega)]; omega
      gi_region
      gi_wp2
      refine ⟨⟨m + m2, cur2, by congr 1, by omega, by omega, setRow_heap wr.drew g cur cur2 3 (0, 0) hgr, hd2, hd3, hbr.drew.grown (row := some g) Lift.setRow_grown ?_ (fun r e => by cases e; exact Nat.le_refl _)⟩, ?_⟩
      · have := hbr.size
        show g ≤ wr.heap.size
        omega
      · show K - ((m : Int) + (m2 : Int)).toNat < K - ((m : Int)).toNat
        omega
    · have hlt2 : ¬ (m : Int) < (K : Int) := by omega
      gi_wp2
      go_ret
      have hmK' : m = K := by omega
      have hcur : cur = Array.replicate K (.int .i64 v) := by
        apply Array.ext_getElem?
        intro j
        by_cases hj : j < K
        · rw [hfl j (by omega), Array.getElem?_replicate, if_pos hj]
        · rw [Array.getElem?_eq_none (by omega), Array.getElem?_eq_none (by simp; omega)]
      exact ⟨rfl, by rw [← hcur]; exact hgr, hbr⟩
end Go.Proofs

/- math/bits.Mul of one and a small number. -/
namespace Go.Proofs
open Go.RowKit Go.Shelf
attribute [local go_sem] Oper.semAt_some

theorem mask32 {k : Int} (h0 : 0 ≤ k) (h1 : k ≤ 1000000) : bits BinOp.and .u64 k 4294967295 = k := by
  have h := bits_mask .u64 64 (by decide) (fun n h0 h1 => Go.IntWalk.u64_in _ (by omega)) 32 (by decide) k h0 (by omega)
  have e : k % 4294967296 = k := by omega
  exact h.trans e

set_option maxRecDepth 100000 in
set_option maxHeartbeats 1000000 in
theorem Tryd.Mul64_in (n : Nat) (k : Int) (h0 : 0 ≤ k) (h1 : k ≤ 1000000) (w : World) :
    CallsIn Fence.wide n Tryd.prog 57 #[.int .u64 1, .int .u64 k] w fun e w1 => e = .returned (.tuple #[.int .u64 0, .int .u64 k]) ∧ w1 = w := by
  refine callsIn_of_wp Tryd.func57 rfl trivial ?_ rfl
  simp only [Tryd.ntmps57, List.size_toArray, List.length_cons, List.length_nil, Nat.reduceAdd, Nat.reduceSub, Array.replicate_succ, Array.replicate_zero, List.push_toArray, List.append_toArray, List.nil_append, List.cons_append]
  have hb : bits BinOp.and .u64 k 4294967295 = k := mask32 h0 h1
  have hb1 : bits BinOp.and .u64 1 4294967295 = 1 := by decide +kernel
  have hb0 : bits BinOp.and .u64 0 4294967295 = 0 := by decide +kernel
  have hw : IntKind.wrap .u64 k = k := Go.IntWalk.u64_in _ (by omega)
  have hd : k / 4294967296 = 0 := by omega
  gi_wp2
  refine bodyPost_ret (results_tmp2 rfl _ _ _) rfl ?_
  exact ⟨rfl, rfl⟩

set_option maxRecDepth 100000 in
set_option maxHeartbeats 1000000 in
theorem Tryd.Mul_in (n : Nat) (k : Int) (h0 : 0 ≤ k) (h1 : k ≤ 1000000) (w : World) :
    CallsIn Fence.wide n Tryd.prog 46 #[.int .u64 1, .int .u64 k] w fun e w1 => e = .returned (.tuple #[.int .u64 0, .int .u64 k]) ∧ w1 = w := by
  refine callsIn_of_wp Tryd.func46 rfl trivial ?_ rfl
  simp only [Tryd.ntmps46, List.size_toArray, List.length_cons, List.length_nil, Nat.reduceAdd, Nat.reduceSub, Array.replicate_succ, Array.replicate_zero, List.push_toArray, List.append_toArray, List.nil_append, List.cons_append]
  have hw : IntKind.wrap .u64 k = k := Go.IntWalk.u64_in _ (by omega)
  gi_wp2
  refine ⟨trivial, fun h => (by cases h), (Tryd.Mul64_in (n - 1) k h0 h1 w).mono ?_⟩
  rintro e w' ⟨rfl, rfl⟩
  simp only
  gi_wp2
  refine bodyPost_ret (results_tmp2 rfl _ _ _) rfl ?_
  exact ⟨rfl, rfl⟩
end Go.Proofs

/- slices.Repeat of one number: its contract. -/
namespace Lift.E2
open Go Go.RowKit Go.Proofs Lift Lift.Fn

theorem ints_rel {u : Uni} {G : Nat → Option Obj} : ∀ l : List Int, TsRel u G (l.map (TV.mk (.int .i64))) (l.map (Value.int .i64))
  | [] => .nil
  | n :: l => .cons _ _ _ _ (.int _ _) (ints_rel l)

theorem repeat_any (V : Env) (a : List Int) (k : Int) {r : List Int} (hr : slices_Repeat_int_int_f a k = some r) :
    FnPost kk V 33 ⟨⟨[0, 1], [], []⟩, [.t (.slc (.int .i64)), .t (.int .i64)], []⟩ [⟨⟨[0], [], []⟩, [.t (.slc (.int .i64))], []⟩] [⟨.slc (.int .i64), a⟩, ⟨.int .i64, k⟩] 0 [⟨.slc (.int .i64), r⟩] := by
  unfold slices_Repeat_int_int_f at hr
  split at hr
  · rename_i v
    cases hc : decide (0 ≤ k ∧ k ≤ 1000000) with
    | false => rw [hc] at hr; cases hr
    | true =>
      rw [hc] at hr
      cases hr
      obtain ⟨h0, h1⟩ := of_decide_eq_true hc
      refine post_plain rfl rfl rfl rfl rfl ?_
      intro G w args _ _ hG hA
      match args, hA with
      | _, .cons _ _ v1 _ p1 (.cons _ _ v2 _ p2 .nil) =>
        rw [p2.int_inv]
        rcases p1.slc_inv with ⟨hn, _⟩ | ⟨b, off, cap, cur, TT, fz, vals, rfl, hcap, hGb, hT, hL⟩
        · cases hn
        · have hT' : TsRel uni G [⟨.int .i64, v⟩] vals := hT
          match vals, hT' with
          | _, .cons _ _ x _ q .nil =>
            have hx := q.int_inv
            subst hx
            obtain ⟨_, a2⟩ := hL 0 (.int .i64 v) rfl
            have hcell : w.cell? ⟨b, off, none⟩ = some (.int .i64 v) := by
              have := a2 0 (.int .i64 v) rfl
              have hh := hG b _ hGb
              rw [cell_of_row w b off cur TT fz hh]
              simpa using this
            refine (callsIn_wide.1 (Go.Proofs.Tryd.Repeat_in 0 v k h0 h1 b off cap w hcell (fun w' => Go.Proofs.Tryd.Mul_in _ k h0 h1 w'))).mono ?_
            rintro e w' ⟨rfl, hh, hb⟩
            refine ⟨_, rfl, hb, ?_⟩
            show TRel uni _ ⟨.slc (.int .i64), List.replicate k.toNat v⟩ _
            have hl : (List.replicate k.toNat v).length = k.toNat := List.length_replicate
            have := TRel.slc (u := uni) (G := grow w.heap.size G w') (.int .i64) (List.replicate k.toNat v) w.heap.size 0 k.toNat (Array.replicate k.toNat (.int .i64 v)) 3 (0, 0) ((List.replicate k.toNat v).map (Value.int .i64)) (by rw [hl]; exact Nat.le_refl _)
              (by unfold grow; rw [if_neg (Nat.lt_irrefl _)]; exact hh) (ints_rel _) (fun i x hx => by
                rw [List.map_replicate, List.getElem?_replicate] at hx
                split at hx
                · rename_i hi
                  cases hx
                  refine ⟨rfl, fun j c hc => ?_⟩
                  have hj : j = 0 := by
                    have := (Array.getElem?_eq_some_iff.1 hc).1
                    simpa [Value.cells] using this
                  subst hj
                  have hc' : Value.int .i64 v = c := by simpa [Value.cells] using hc
                  subst hc'
                  simp [Uni.size, hi]
                · cases hx)
            rw [hl] at this
            exact this
  · cases hr
end Lift.E2

/- The library's modes hold of this program. -/
namespace Go.Proofs
open Go.Shelf Go.RowKit
def Tryd.laysJoin_ren : Go.Shelf.Ren := ⟨fun | 156 => 26 | 165 => 39 | 166 => 40 | 169 => 41 | 240 => 48 | 241 => 49 | 276 => 62 | 277 => 63 | n => n, fun | 31 => 51 | 9 => 9 | 3 => 3 | 4 => 4 | 0 => 0 | 20 => 20 | 72 => 74 | 76 => 78 | 70 => 72 | 37 => 30 | 75 => 77 | 127 => 90 | 164 => 105 | 5 => 5 | 80 => 80 | n => n, fun | n => n⟩
theorem Tryd.laysJoin : Go.Proofs.Lays.n156 Tryd.prog Tryd.laysJoin_ren where
  mixed := by kernel_rfl
  f156 := Tryd.func26.trans (congrArg some (by kernel_rfl))
  f165 := Tryd.func39.trans (congrArg some (by kernel_rfl))
  f166 := Tryd.func40.trans (congrArg some (by kernel_rfl))
  f169 := Tryd.func41.trans (congrArg some (by kernel_rfl))
  f240 := Tryd.func48.trans (congrArg some (by kernel_rfl))
  f241 := Tryd.func49.trans (congrArg some (by kernel_rfl))
  f276 := Tryd.func62.trans (congrArg some (by kernel_rfl))
  f277 := Tryd.func63.trans (congrArg some (by kernel_rfl))
  t0 := Tryd.underlying0
  a0 := Tryd.isAgg0
  z0 := Tryd.sizeOf0
  v0 := Tryd.zeroValue0
  t3 := Tryd.underlying3
  a3 := Tryd.isAgg3
  z3 := Tryd.sizeOf3
  v3 := Tryd.zeroValue3
  t4 := Tryd.underlying4
  a4 := Tryd.isAgg4
  z4 := Tryd.sizeOf4
  v4 := Tryd.zeroValue4
  t9 := Tryd.underlying9
  a9 := Tryd.isAgg9
  z9 := Tryd.sizeOf9
  v9 := Tryd.zeroValue9
  t20 := Tryd.underlying20
  a20 := Tryd.isAgg20
  z20 := Tryd.sizeOf20
  v20 := Tryd.zeroValue20
  t31 := Tryd.underlying51
  a31 := Tryd.isAgg51
  z31 := Tryd.sizeOf51
  v31 := Tryd.zeroValue51
  t37 := Tryd.underlying30
  a37 := Tryd.isAgg30
  z37 := Tryd.sizeOf30
  v37 := Tryd.zeroValue30
  t70 := Tryd.underlying72
  a70 := Tryd.isAgg72
  z70 := Tryd.sizeOf72
  v70 := Tryd.zeroValue72
  t72 := Tryd.underlying74
  a72 := Tryd.isAgg74
  z72 := Tryd.sizeOf74
  v72 := Tryd.zeroValue74
  t75 := Tryd.underlying77
  a75 := Tryd.isAgg77
  z75 := Tryd.sizeOf77
  v75 := Tryd.zeroValue77
  t76 := Tryd.underlying78
  a76 := Tryd.isAgg78
  z76 := Tryd.sizeOf78
  v76 := Tryd.zeroValue78
  t127 := Tryd.underlying90
  a127 := Tryd.isAgg90
  z127 := Tryd.sizeOf90
  v127 := Tryd.zeroValue90
  t164 := Tryd.underlying105
  a164 := Tryd.isAgg105
  z164 := Tryd.sizeOf105
  v164 := Tryd.zeroValue105

def Tryd.laysItoa_ren : Go.Shelf.Ren := ⟨fun | 171 => 25 | 243 => 38 | 246 => 47 | 283 => 58 | 284 => 59 | 285 => 60 | 286 => 61 | 129 => 69 | 317 => 68 | 318 => 70 | 319 => 71 | 320 => 72 | 337 => 82 | 338 => 83 | n => n, fun | 3 => 3 | 9 => 9 | 2 => 2 | 4 => 4 | 171 => 100 | 0 => 0 | 53 => 71 | 37 => 30 | 5 => 5 | 173 => 103 | 212 => 110 | 51 => 95 | 20 => 20 | 213 => 111 | 46 => 81 | 232 => 133 | 233 => 134 | n => n, fun | 17 => 0 | 18 => 6 | 19 => 7 | n => n⟩
theorem Tryd.laysItoa : Go.Proofs.LaysM.n171 Tryd.prog Tryd.laysItoa_ren where
  mixed := by kernel_rfl
  f129 := Tryd.func69.trans (congrArg some (by kernel_rfl))
  f171 := Tryd.func25.trans (congrArg some (by kernel_rfl))
  f243 := Tryd.func38.trans (congrArg some (by kernel_rfl))
  f246 := Tryd.func47.trans (congrArg some (by kernel_rfl))
  f283 := Tryd.func58.trans (congrArg some (by kernel_rfl))
  f284 := Tryd.func59.trans (congrArg some (by kernel_rfl))
  f285 := Tryd.func60.trans (congrArg some (by kernel_rfl))
  f286 := Tryd.func61.trans (congrArg some (by kernel_rfl))
  f317 := Tryd.func68.trans (congrArg some (by kernel_rfl))
  f318 := Tryd.func70.trans (congrArg some (by kernel_rfl))
  f319 := Tryd.func71.trans (congrArg some (by kernel_rfl))
  f320 := Tryd.func72.trans (congrArg some (by kernel_rfl))
  f337 := Tryd.func82.trans (congrArg some (by kernel_rfl))
  f338 := Tryd.func83.trans (congrArg some (by kernel_rfl))
  t0 := Tryd.underlying0
  a0 := Tryd.isAgg0
  z0 := Tryd.sizeOf0
  v0 := Tryd.zeroValue0
  t2 := Tryd.underlying2
  a2 := Tryd.isAgg2
  z2 := Tryd.sizeOf2
  v2 := Tryd.zeroValue2
  t3 := Tryd.underlying3
  a3 := Tryd.isAgg3
  z3 := Tryd.sizeOf3
  v3 := Tryd.zeroValue3
  t4 := Tryd.underlying4
  a4 := Tryd.isAgg4
  z4 := Tryd.sizeOf4
  v4 := Tryd.zeroValue4
  t5 := Tryd.underlying5
  a5 := Tryd.isAgg5
  z5 := Tryd.sizeOf5
  v5 := Tryd.zeroValue5
  t9 := Tryd.underlying9
  a9 := Tryd.isAgg9
  z9 := Tryd.sizeOf9
  v9 := Tryd.zeroValue9
  t20 := Tryd.underlying20
  a20 := Tryd.isAgg20
  z20 := Tryd.sizeOf20
  v20 := Tryd.zeroValue20
  t37 := Tryd.underlying30
  a37 := Tryd.isAgg30
  z37 := Tryd.sizeOf30
  v37 := Tryd.zeroValue30
  t46 := Tryd.underlying81
  a46 := Tryd.isAgg81
  z46 := Tryd.sizeOf81
  v46 := Tryd.zeroValue81
  t51 := Tryd.underlying95
  a51 := Tryd.isAgg95
  z51 := Tryd.sizeOf95
  v51 := Tryd.zeroValue95
  t53 := Tryd.underlying71
  a53 := Tryd.isAgg71
  z53 := Tryd.sizeOf71
  v53 := Tryd.zeroValue71
  t171 := Tryd.underlying100
  a171 := Tryd.isAgg100
  z171 := Tryd.sizeOf100
  v171 := Tryd.zeroValue100
  t173 := Tryd.underlying103
  a173 := Tryd.isAgg103
  z173 := Tryd.sizeOf103
  v173 := Tryd.zeroValue103
  t212 := Tryd.underlying110
  a212 := Tryd.isAgg110
  z212 := Tryd.sizeOf110
  v212 := Tryd.zeroValue110
  t213 := Tryd.underlying111
  a213 := Tryd.isAgg111
  z213 := Tryd.sizeOf111
  t232 := Tryd.underlying133
  a232 := Tryd.isAgg133
  z232 := Tryd.sizeOf133
  v232 := Tryd.zeroValue133
  t233 := Tryd.underlying134
  a233 := Tryd.isAgg134
  z233 := Tryd.sizeOf134
  v233 := Tryd.zeroValue134
  g17 := by kernel_rfl
  g18 := by kernel_rfl
  g19 := by kernel_rfl
  i0 := by kernel_rfl
  i2 := by kernel_rfl
  i3 := by kernel_rfl
  i4 := by kernel_rfl
  i5 := by kernel_rfl
  i9 := by kernel_rfl
  i20 := by kernel_rfl
  i37 := by kernel_rfl
  i46 := by kernel_rfl
  i51 := by kernel_rfl
  i53 := by kernel_rfl
  i171 := by kernel_rfl
  i173 := by kernel_rfl
  i212 := by kernel_rfl
  i232 := by kernel_rfl
  i233 := by kernel_rfl
  m17 := by kernel_rfl
  m18 := by kernel_rfl
  m19 := by kernel_rfl

def Tryd.laysCut_ren : Go.Shelf.Ren := ⟨fun | 145 => 44 | 220 => 54 | 219 => 65 | 217 => 73 | 225 => 74 | 224 => 75 | 267 => 76 | 266 => 84 | 314 => 85 | n => n, fun | 9 => 9 | 4 => 4 | 59 => 85 | 3 => 3 | 5 => 5 | 46 => 81 | 146 => 96 | 51 => 95 | n => n, fun | 1 => 1 | n => n⟩
theorem Tryd.laysCut : Go.Proofs.LaysM.n145 Tryd.prog Tryd.laysCut_ren where
  mixed := by kernel_rfl
  f145 := Tryd.func44.trans (congrArg some (by kernel_rfl))
  f217 := Tryd.func73.trans (congrArg some (by kernel_rfl))
  f219 := Tryd.func65.trans (congrArg some (by kernel_rfl))
  f220 := Tryd.func54.trans (congrArg some (by kernel_rfl))
  f224 := Tryd.func75.trans (congrArg some (by kernel_rfl))
  f225 := Tryd.func74.trans (congrArg some (by kernel_rfl))
  f266 := Tryd.func84.trans (congrArg some (by kernel_rfl))
  f267 := Tryd.func76.trans (congrArg some (by kernel_rfl))
  f314 := Tryd.func85.trans (congrArg some (by kernel_rfl))
  t3 := Tryd.underlying3
  a3 := Tryd.isAgg3
  z3 := Tryd.sizeOf3
  v3 := Tryd.zeroValue3
  t4 := Tryd.underlying4
  a4 := Tryd.isAgg4
  z4 := Tryd.sizeOf4
  v4 := Tryd.zeroValue4
  t5 := Tryd.underlying5
  a5 := Tryd.isAgg5
  z5 := Tryd.sizeOf5
  v5 := Tryd.zeroValue5
  t9 := Tryd.underlying9
  a9 := Tryd.isAgg9
  z9 := Tryd.sizeOf9
  v9 := Tryd.zeroValue9
  t46 := Tryd.underlying81
  a46 := Tryd.isAgg81
  z46 := Tryd.sizeOf81
  v46 := Tryd.zeroValue81
  t51 := Tryd.underlying95
  a51 := Tryd.isAgg95
  z51 := Tryd.sizeOf95
  v51 := Tryd.zeroValue95
  t59 := Tryd.underlying85
  a59 := Tryd.isAgg85
  z59 := Tryd.sizeOf85
  v59 := Tryd.zeroValue85
  t146 := Tryd.underlying96
  a146 := Tryd.isAgg96
  z146 := Tryd.sizeOf96
  v146 := Tryd.zeroValue96
  g1 := by kernel_rfl
  i3 := by kernel_rfl
  i4 := by kernel_rfl
  i5 := by kernel_rfl
  i9 := by kernel_rfl
  i46 := by kernel_rfl
  i51 := by kernel_rfl
  i59 := by kernel_rfl
  i146 := by kernel_rfl
  m1 := by kernel_rfl
  s1_3 := fun w h => Go.Proofs.cell_of_shapedOpen_int (zero := #[.int .i64 0]) (t := 3) h (of_decide_eq_true (by kernel_rfl)) (by kernel_rfl) rfl (by kernel_rfl) (by kernel_rfl) Tryd.underlying3

def Tryd.laysAtoi_ren : Go.Shelf.Ren := ⟨fun | 172 => 55 | 244 => 66 | 245 => 67 | 247 => 77 | 279 => 78 | 280 => 79 | 281 => 80 | 282 => 81 | 287 => 86 | 316 => 87 | 171 => 25 | 205 => 88 | 321 => 89 | 322 => 90 | 243 => 38 | 246 => 47 | 283 => 58 | 284 => 59 | 285 => 60 | 286 => 61 | 129 => 69 | 317 => 68 | 318 => 70 | 319 => 71 | 320 => 72 | 337 => 82 | 338 => 83 | n => n, fun | 9 => 9 | 3 => 3 | 75 => 77 | 76 => 78 | 4 => 4 | 5 => 5 | 167 => 119 | 37 => 30 | 0 => 0 | 85 => 120 | 2 => 2 | 168 => 122 | 53 => 71 | 175 => 127 | 46 => 81 | 210 => 131 | 127 => 90 | 145 => 138 | 143 => 136 | 21 => 21 | 171 => 100 | 173 => 103 | 212 => 110 | 51 => 95 | 20 => 20 | 213 => 111 | 232 => 133 | 233 => 134 | 80 => 80 | n => n, fun | 15 => 4 | 16 => 5 | 17 => 0 | 18 => 6 | 19 => 7 | n => n⟩
theorem Tryd.laysAtoi : Go.Proofs.LaysC.n172 Tryd.prog Tryd.laysAtoi_ren where
  mixed := by kernel_rfl
  f129 := Tryd.func69.trans (congrArg some (by kernel_rfl))
  f171 := Tryd.func25.trans (congrArg some (by kernel_rfl))
  f172 := Tryd.func55.trans (congrArg some (by kernel_rfl))
  f205 := Tryd.func88.trans (congrArg some (by kernel_rfl))
  f243 := Tryd.func38.trans (congrArg some (by kernel_rfl))
  f244 := Tryd.func66.trans (congrArg some (by kernel_rfl))
  f245 := Tryd.func67.trans (congrArg some (by kernel_rfl))
  f246 := Tryd.func47.trans (congrArg some (by kernel_rfl))
  f247 := Tryd.func77.trans (congrArg some (by kernel_rfl))
  f279 := Tryd.func78.trans (congrArg some (by kernel_rfl))
  f280 := Tryd.func79.trans (congrArg some (by kernel_rfl))
  f281 := Tryd.func80.trans (congrArg some (by kernel_rfl))
  f282 := Tryd.func81.trans (congrArg some (by kernel_rfl))
  f283 := Tryd.func58.trans (congrArg some (by kernel_rfl))
  f284 := Tryd.func59.trans (congrArg some (by kernel_rfl))
  f285 := Tryd.func60.trans (congrArg some (by kernel_rfl))
  f286 := Tryd.func61.trans (congrArg some (by kernel_rfl))
  f287 := Tryd.func86.trans (congrArg some (by kernel_rfl))
  f316 := Tryd.func87.trans (congrArg some (by kernel_rfl))
  f317 := Tryd.func68.trans (congrArg some (by kernel_rfl))
  f318 := Tryd.func70.trans (congrArg some (by kernel_rfl))
  f319 := Tryd.func71.trans (congrArg some (by kernel_rfl))
  f320 := Tryd.func72.trans (congrArg some (by kernel_rfl))
  f321 := Tryd.func89.trans (congrArg some (by kernel_rfl))
  f322 := Tryd.func90.trans (congrArg some (by kernel_rfl))
  f337 := Tryd.func82.trans (congrArg some (by kernel_rfl))
  f338 := Tryd.func83.trans (congrArg some (by kernel_rfl))
  t0 := Tryd.underlying0
  a0 := Tryd.isAgg0
  z0 := Tryd.sizeOf0
  v0 := Tryd.zeroValue0
  t2 := Tryd.underlying2
  a2 := Tryd.isAgg2
  z2 := Tryd.sizeOf2
  v2 := Tryd.zeroValue2
  t3 := Tryd.underlying3
  a3 := Tryd.isAgg3
  z3 := Tryd.sizeOf3
  v3 := Tryd.zeroValue3
  t4 := Tryd.underlying4
  a4 := Tryd.isAgg4
  z4 := Tryd.sizeOf4
  v4 := Tryd.zeroValue4
  t5 := Tryd.underlying5
  a5 := Tryd.isAgg5
  z5 := Tryd.sizeOf5
  v5 := Tryd.zeroValue5
  t9 := Tryd.underlying9
  a9 := Tryd.isAgg9
  z9 := Tryd.sizeOf9
  v9 := Tryd.zeroValue9
  t20 := Tryd.underlying20
  a20 := Tryd.isAgg20
  z20 := Tryd.sizeOf20
  v20 := Tryd.zeroValue20
  t21 := Tryd.underlying21
  a21 := Tryd.isAgg21
  z21 := Tryd.sizeOf21
  v21 := Tryd.zeroValue21
  t37 := Tryd.underlying30
  a37 := Tryd.isAgg30
  z37 := Tryd.sizeOf30
  v37 := Tryd.zeroValue30
  t46 := Tryd.underlying81
  a46 := Tryd.isAgg81
  z46 := Tryd.sizeOf81
  v46 := Tryd.zeroValue81
  t51 := Tryd.underlying95
  a51 := Tryd.isAgg95
  z51 := Tryd.sizeOf95
  v51 := Tryd.zeroValue95
  t53 := Tryd.underlying71
  a53 := Tryd.isAgg71
  z53 := Tryd.sizeOf71
  v53 := Tryd.zeroValue71
  t75 := Tryd.underlying77
  a75 := Tryd.isAgg77
  z75 := Tryd.sizeOf77
  v75 := Tryd.zeroValue77
  t76 := Tryd.underlying78
  a76 := Tryd.isAgg78
  z76 := Tryd.sizeOf78
  v76 := Tryd.zeroValue78
  t85 := Tryd.underlying120
  a85 := Tryd.isAgg120
  z85 := Tryd.sizeOf120
  v85 := Tryd.zeroValue120
  t127 := Tryd.underlying90
  a127 := Tryd.isAgg90
  z127 := Tryd.sizeOf90
  v127 := Tryd.zeroValue90
  t143 := Tryd.underlying136
  a143 := Tryd.isAgg136
  z143 := Tryd.sizeOf136
  v143 := Tryd.zeroValue136
  t145 := Tryd.underlying138
  a145 := Tryd.isAgg138
  z145 := Tryd.sizeOf138
  v145 := Tryd.zeroValue138
  t167 := Tryd.underlying119
  a167 := Tryd.isAgg119
  z167 := Tryd.sizeOf119
  v167 := Tryd.zeroValue119
  t168 := Tryd.underlying122
  a168 := Tryd.isAgg122
  z168 := Tryd.sizeOf122
  v168 := Tryd.zeroValue122
  t171 := Tryd.underlying100
  a171 := Tryd.isAgg100
  z171 := Tryd.sizeOf100
  v171 := Tryd.zeroValue100
  t173 := Tryd.underlying103
  a173 := Tryd.isAgg103
  z173 := Tryd.sizeOf103
  v173 := Tryd.zeroValue103
  t175 := Tryd.underlying127
  a175 := Tryd.isAgg127
  z175 := Tryd.sizeOf127
  v175 := Tryd.zeroValue127
  t210 := Tryd.underlying131
  a210 := Tryd.isAgg131
  z210 := Tryd.sizeOf131
  v210 := Tryd.zeroValue131
  t212 := Tryd.underlying110
  a212 := Tryd.isAgg110
  z212 := Tryd.sizeOf110
  v212 := Tryd.zeroValue110
  t213 := Tryd.underlying111
  a213 := Tryd.isAgg111
  z213 := Tryd.sizeOf111
  t232 := Tryd.underlying133
  a232 := Tryd.isAgg133
  z232 := Tryd.sizeOf133
  v232 := Tryd.zeroValue133
  t233 := Tryd.underlying134
  a233 := Tryd.isAgg134
  z233 := Tryd.sizeOf134
  v233 := Tryd.zeroValue134
  g15 := by kernel_rfl
  g16 := by kernel_rfl
  g17 := by kernel_rfl
  g18 := by kernel_rfl
  g19 := by kernel_rfl
  t80 := Tryd.underlying80
  a80 := Tryd.isAgg80
  z80 := Tryd.sizeOf80
  v80 := Tryd.zeroValue80
  i0 := by kernel_rfl
  i2 := by kernel_rfl
  i3 := by kernel_rfl
  i4 := by kernel_rfl
  i5 := by kernel_rfl
  i9 := by kernel_rfl
  i20 := by kernel_rfl
  i21 := by kernel_rfl
  i37 := by kernel_rfl
  i46 := by kernel_rfl
  i51 := by kernel_rfl
  i53 := by kernel_rfl
  i75 := by kernel_rfl
  i76 := by kernel_rfl
  i80 := by kernel_rfl
  i85 := by kernel_rfl
  i127 := by kernel_rfl
  i143 := by kernel_rfl
  i145 := by kernel_rfl
  i167 := by kernel_rfl
  i168 := by kernel_rfl
  i171 := by kernel_rfl
  i173 := by kernel_rfl
  i175 := by kernel_rfl
  i210 := by kernel_rfl
  i212 := by kernel_rfl
  i232 := by kernel_rfl
  i233 := by kernel_rfl
  m15 := by kernel_rfl
  m16 := by kernel_rfl
  m17 := by kernel_rfl
  m18 := by kernel_rfl
  m19 := by kernel_rfl
  c0 := by kernel_rfl
  c2 := by kernel_rfl
  c3 := by kernel_rfl
  c4 := by kernel_rfl
  c5 := by kernel_rfl
  c9 := by kernel_rfl
  c20 := by kernel_rfl
  c21 := by kernel_rfl
  c37 := by kernel_rfl
  c46 := by kernel_rfl
  c51 := by kernel_rfl
  c53 := by kernel_rfl
  c75 := by kernel_rfl
  c76 := by kernel_rfl
  c80 := by kernel_rfl
  c85 := by kernel_rfl
  c127 := by kernel_rfl
  c143 := by kernel_rfl
  c145 := by kernel_rfl
  c167 := by kernel_rfl
  c168 := by kernel_rfl
  c171 := by kernel_rfl
  c173 := by kernel_rfl
  c175 := by kernel_rfl
  c210 := by kernel_rfl
  c212 := by kernel_rfl
  c213 := by kernel_rfl
  c232 := by kernel_rfl
  c233 := by kernel_rfl

theorem Tryd.extra : Builder.Extra Tryd.prog Tryd.laysJoin_ren where
  sizeBuilder := by kernel_rfl
  liesBuilder := by kernel_rfl
  t5 := Tryd.underlying5
  a5 := Tryd.isAgg5
  z5 := Tryd.sizeOf5
  v5 := Tryd.zeroValue5
  infoByte := by kernel_rfl
  cellsByte := by kernel_rfl
  sizeByte := by kernel_rfl
  neB5 := by decide
end Go.Proofs
namespace Lift.E2
open Go Go.RowKit Go.Proofs Lift Lift.Fn

theorem cell_same {w w' : World} {n : Nat} (h : ∀ k, k < n → w'.heap[k]? = w.heap[k]?) {b o : Nat} (hb : b < n) : w'.cell? ⟨b, o, none⟩ = w.cell? ⟨b, o, none⟩ := by
  unfold World.cell?
  rw [h b hb]

def isErr (v : Value) : Prop := v = .nilIface ∨ ∃ te pe, v = .iface te pe

/-- What the library's functions read of the package variables. -/
def globs (w : World) : Prop := (∃ m, w.cell? ⟨1, 0, none⟩ = some (.int .i64 m)) ∧ (∃ a b, (w.cell? ⟨4, 0, none⟩ = some a ∧ isErr a) ∧ (w.cell? ⟨5, 0, none⟩ = some b ∧ isErr b)) ∧ Go.Lib.TabIs Tryd.prog w "internal/strconv.uint64pow10" .u64 Go.Lib.pow10Tab ∧ True

theorem globs_stays (w w' : World) (h : globs w) (hs : ∀ k, k < 6 → w'.heap[k]? = w.heap[k]?) : globs w' := by
  refine ⟨?_, ?_, ?_, trivial⟩
  · obtain ⟨m, h3⟩ := h.1
    exact ⟨m, by rw [cell_same hs (by omega)]; exact h3⟩
  · obtain ⟨a, b, ⟨h4, h5⟩, h6, h7⟩ := h.2.1
    exact ⟨a, b, ⟨by rw [cell_same hs (by omega)]; exact h4, h5⟩, by rw [cell_same hs (by omega)]; exact h6, h7⟩
  · exact tab_same (g := 0) (by kernel_rfl) (by omega) hs (h.2.2.1)

@[reducible] def env0 : Env := ⟨globs, 6, fun w w' h hs _ _ _ => globs_stays w w' h hs⟩

theorem known0 : Known kk env0 (modesOf ms0) := known_nil

theorem strings_Join_post : ∀ ls j rs, (strings_Join_md.sum ls).val = some (j, rs) → FnPost kk env0 26 strings_Join_md.sh strings_Join_md.outs ls j rs := by
  intro ls j rs h
  simp only [strings_Join_md] at h
  split at h
  · obtain ⟨r, hr, h⟩ := Tr.get_val h
    rw [strings_Join, sealF_eq, strings_Join_f, cond_eq_ite, Option.ite_none_right_eq_some, decide_eq_true_eq] at hr
    obtain ⟨hc, hr⟩ := hr
    cases hr
    cases h
    exact join_post (K := kk) (ρ := Tryd.laysJoin_ren) Tryd.laysJoin Tryd.extra _ _ hc.1 hc.2
  · cases h
theorem known1 : Known kk env0 (modesOf ms1) := known_cons (by kernel_rfl) strings_Join_post known0

theorem strconv_ItoaW_post : ∀ ls j rs, (strconv_ItoaW_md.sum ls).val = some (j, rs) → FnPost kk env0 25 strconv_ItoaW_md.sh strconv_ItoaW_md.outs ls j rs := by
  intro ls j rs h
  simp only [strconv_ItoaW_md] at h
  split at h
  · obtain ⟨r, hr, h⟩ := Tr.get_val h
    rw [strconv_ItoaW, sealF_eq, strconv_ItoaW_f, cond_eq_ite, Option.ite_none_right_eq_some, decide_eq_true_eq] at hr
    obtain ⟨hc, hr⟩ := hr
    cases hr
    cases h
    exact itoaW_post (K := kk) (V := env0) (ρ := Tryd.laysItoa_ren) ({ Tryd.laysItoa with }) (fun w h => h.2.2.1) _ hc
  · cases h
theorem known2 : Known kk env0 (modesOf ms2) := known_cons (by kernel_rfl) strconv_ItoaW_post known1

theorem strings_Cut_post : ∀ ls j rs, (strings_Cut_md.sum ls).val = some (j, rs) → FnPost kk env0 44 strings_Cut_md.sh strings_Cut_md.outs ls j rs := by
  intro ls j rs h
  simp only [strings_Cut_md] at h
  split at h
  · obtain ⟨r, hr, h⟩ := Tr.get_val h
    rw [strings_Cut, sealF_eq, strings_Cut_f, cond_eq_ite, Option.ite_none_right_eq_some, decide_eq_true_eq] at hr
    obtain ⟨hc, hr⟩ := hr
    cases hr
    cases h
    exact cut_post (K := kk) (V := env0) (ρ := Tryd.laysCut_ren) ({ Tryd.laysCut with }) (fun w h => h.1) _ _ hc
  · cases h
theorem known3 : Known kk env0 (modesOf ms3) := known_cons (by kernel_rfl) strings_Cut_post known2

theorem strconv_Atoi_post : ∀ ls j rs, (strconv_Atoi_md.sum ls).val = some (j, rs) → FnPost kk env0 55 strconv_Atoi_md.sh strconv_Atoi_md.outs ls j rs := by
  intro ls j rs h
  simp only [strconv_Atoi_md] at h
  split at h
  · obtain ⟨r, hr, h⟩ := Tr.get_val h
    rw [strconv_Atoi, sealF_eq, strconv_Atoi_f, cond_eq_ite, Option.ite_none_right_eq_some, decide_eq_true_eq] at hr
    obtain ⟨hc, hr⟩ := hr
    cases hr
    cases h
    exact atoi_post (K := kk) (V := env0) (ρ := Tryd.laysAtoi_ren) Tryd.laysAtoi (fun w h => h.2.1) _ hc
  · cases h
theorem known4 : Known kk env0 (modesOf ms4) := known_cons (by kernel_rfl) strconv_Atoi_post known3

theorem slices_Repeat_int_int_post : ∀ ls j rs, (slices_Repeat_int_int_md.sum ls).val = some (j, rs) → FnPost kk env0 33 slices_Repeat_int_int_md.sh slices_Repeat_int_int_md.outs ls j rs := by
  intro ls j rs h
  simp only [slices_Repeat_int_int_md] at h
  split at h
  · obtain ⟨r, hr, h⟩ := Tr.get_val h
    rw [slices_Repeat_int_int, sealF_eq] at hr
    cases h
    exact repeat_any _ _ _ hr
  · cases h
theorem known5 : Known kk env0 (modesOf ms5) := known_cons (by kernel_rfl) slices_Repeat_int_int_post known4
end Lift.E2

/- strings.SplitSeq's iterator. -/
set_option linter.unusedVariables false
namespace Go.Proofs
open Go.RowKit Go.Shelf
def Tryd.laysIndex_ren : Go.Shelf.Ren := ⟨fun | 143 => 53 | 219 => 65 | 217 => 73 | 225 => 74 | 224 => 75 | 267 => 76 | 266 => 84 | 314 => 85 | n => n, fun | 9 => 9 | 3 => 3 | 4 => 4 | 5 => 5 | 46 => 81 | 146 => 96 | 51 => 95 | n => n, fun | 1 => 1 | n => n⟩
theorem Tryd.laysIndex : Go.Proofs.LaysM.n143 Tryd.prog Tryd.laysIndex_ren where
  mixed := by kernel_rfl
  f143 := Tryd.func53.trans (congrArg some (by kernel_rfl))
  f217 := Tryd.func73.trans (congrArg some (by kernel_rfl))
  f219 := Tryd.func65.trans (congrArg some (by kernel_rfl))
  f224 := Tryd.func75.trans (congrArg some (by kernel_rfl))
  f225 := Tryd.func74.trans (congrArg some (by kernel_rfl))
  f266 := Tryd.func84.trans (congrArg some (by kernel_rfl))
  f267 := Tryd.func76.trans (congrArg some (by kernel_rfl))
  f314 := Tryd.func85.trans (congrArg some (by kernel_rfl))
  t3 := Tryd.underlying3
  a3 := Tryd.isAgg3
  z3 := Tryd.sizeOf3
  v3 := Tryd.zeroValue3
  t4 := Tryd.underlying4
  a4 := Tryd.isAgg4
  z4 := Tryd.sizeOf4
  v4 := Tryd.zeroValue4
  t5 := Tryd.underlying5
  a5 := Tryd.isAgg5
  z5 := Tryd.sizeOf5
  v5 := Tryd.zeroValue5
  t9 := Tryd.underlying9
  a9 := Tryd.isAgg9
  z9 := Tryd.sizeOf9
  v9 := Tryd.zeroValue9
  t46 := Tryd.underlying81
  a46 := Tryd.isAgg81
  z46 := Tryd.sizeOf81
  v46 := Tryd.zeroValue81
  t51 := Tryd.underlying95
  a51 := Tryd.isAgg95
  z51 := Tryd.sizeOf95
  v51 := Tryd.zeroValue95
  t146 := Tryd.underlying96
  a146 := Tryd.isAgg96
  z146 := Tryd.sizeOf96
  v146 := Tryd.zeroValue96
  g1 := by kernel_rfl
  i3 := by kernel_rfl
  i4 := by kernel_rfl
  i5 := by kernel_rfl
  i9 := by kernel_rfl
  i46 := by kernel_rfl
  i51 := by kernel_rfl
  i146 := by kernel_rfl
  m1 := by kernel_rfl
  s1_3 := fun w h => Go.Proofs.cell_of_shapedOpen_int (zero := #[.int .i64 0]) (t := 3) h (of_decide_eq_true (by kernel_rfl)) (by kernel_rfl) rfl (by kernel_rfl) (by kernel_rfl) Tryd.underlying3
attribute [local go_sem] Oper.semAt_some

open Lift (pieces)

/-- How much is still to come. -/
def leftOf (b : Nat) (W : World) : Nat := match W.cell? ⟨b, 0, none⟩ with
  | some (.string s) => s.size
  | _ => 0

theorem pieces_ne (c : UInt8) (s : List UInt8) : pieces c s ≠ [] := by
  cases s with
  | nil => simp [Lift.pieces]
  | cons x s =>
    unfold Lift.pieces
    cases x == c with
    | true => simp
    | false =>
      simp only [cond_false]
      split <;> simp

theorem pieces_at (c : UInt8) : ∀ r : List UInt8, (Lib.indexByte r c = -1 ∧ pieces c r = [r]) ∨ ∃ k : Nat, k < r.length ∧ Lib.indexByte r c = (k : Int) ∧ pieces c r = r.take k :: pieces c (r.drop (k + 1))
  | [] => .inl ⟨rfl, rfl⟩
  | x :: r => by
    have ih := pieces_at c r
    have e : pieces c (x :: r) = bif x == c then [] :: pieces c r else match pieces c r with
      | p :: ps => (x :: p) :: ps
      | [] => [[x]] := rfl
    rw [e]
    unfold Lib.indexByte
    cases hx : x == c with
    | true =>
      right
      refine ⟨0, by simp, ?_, by simp⟩
      simp [hx]
    | false =>
      rcases ih with ⟨h1, h2⟩ | ⟨k, h1, h2, h3⟩
      · left
        refine ⟨?_, ?_⟩
        · simp [hx, h1]
        · rw [h2]; rfl
      · right
        refine ⟨k + 1, by simp; omega, ?_, ?_⟩
        · simp [hx, h2]
        · rw [h3]; simp

set_option maxRecDepth 100000 in
set_option maxHeartbeats 1000000 in
theorem Tryd.seq_in (n l b1 b2 b3 : Nat) (c : UInt8) (s : List UInt8) (h12 : b1 ≠ b2) (h32 : b3 ≠ b2) (J Jx : List (List UInt8) → World → Prop)
    (hJ : ∀ pre W W', J pre W → W.grownBy W' (some b2) → J pre W')
    (hY : ∀ pre x W, J pre W → pre ++ [x] <+: pieces c s → YieldAt Fence.wide (n - 1) Tryd.prog l #[.string ⟨(x : List UInt8).toArray⟩] W fun e W' =>
      (e = .returned (.bool true) ∧ J (pre ++ [x]) W' ∧ ∀ b, (b = b1 ∨ b = b2 ∨ b = b3) → W'.heap[b]? = W.heap[b]?) ∨ (e = .returned (.bool false) ∧ Jx (pre ++ [x]) W'))
    (W : World) (H1 : W.heap[b1]? = some (.cells #[.string ⟨#[c]⟩] 9 (0, 0))) (H2 : W.heap[b2]? = some (.cells #[.string ⟨s.toArray⟩] 9 (0, 0))) (H3 : W.heap[b3]? = some (.cells #[.int .i64 0] 3 (0, 0)))
    (hs : s.length ≤ 1000000000000) (h0 : J [] W) :
    CallsIn Fence.wide n Tryd.prog 51 #[.func (.yield l) #[] #[], .pointer (some ⟨b1, 0, none⟩), .pointer (some ⟨b2, 0, none⟩), .pointer (some ⟨b3, 0, none⟩)] W fun e W' => (∃ v, e = .returned v) ∧
      (J (pieces c s) W' ∨ ∃ pre, pre <+: pieces c s ∧ Jx pre W') := by
  refine callsIn_of_wp Tryd.func51 rfl trivial ?_ rfl
  simp only [Tryd.ntmps51, List.size_toArray, List.length_cons, List.length_nil, Nat.reduceAdd, Nat.reduceSub, Array.replicate_succ, Array.replicate_zero, List.push_toArray, List.append_toArray, List.nil_append, List.cons_append]
  have c1 : W.cell? ⟨b1, 0, none⟩ = some (.string ⟨#[c]⟩) := by rw [Lib.cell_of_heap H1]; rfl
  gi_wp2
  gi_loopw [] (fun wr => ∃ (pre : List (List UInt8)) (r : List UInt8), pieces c s = pre ++ pieces c r ∧ r.length ≤ s.length ∧ wr.heap[b1]? = some (.cells #[.string ⟨#[c]⟩] 9 (0, 0)) ∧ wr.heap[b2]? = some (.cells #[.string ⟨r.toArray⟩] 9 (0, 0)) ∧ wr.heap[b3]? = some (.cells #[.int .i64 0] 3 (0, 0)) ∧ J pre wr)
    (fun wr => leftOf b2 wr)
  case atStart =>
    exact ⟨[], s, rfl, Nat.le_refl _, H1, H2, H3, h0⟩
  case round =>
    obtain ⟨pre, r, hx, hl, G1, G2, G3, hJs⟩ := hrel
    have c1 : wr.cell? ⟨b1, 0, none⟩ = some (.string ⟨#[c]⟩) := by rw [Lib.cell_of_heap G1]; rfl
    have c2 : wr.cell? ⟨b2, 0, none⟩ = some (.string ⟨r.toArray⟩) := by rw [Lib.cell_of_heap G2]; rfl
    have c3 : wr.cell? ⟨b3, 0, none⟩ = some (.int .i64 0) := by rw [Lib.cell_of_heap G3]; rfl
    gi_wp2
    refine ⟨trivial, fun h => (by cases h), (callsIn_wide.2 (Any.strings_Index_one (ρ := Tryd.laysIndex_ren) { Tryd.laysIndex with } ⟨r.toArray⟩ c wr)).mono ?_⟩
    rintro e w' ⟨rfl, rfl⟩
    simp only
    rcases pieces_at c r with ⟨hi, hp⟩ | ⟨k, hk, hi, hp⟩
    · rw [hi]
      obtain ⟨fn, tmps, assign, body, hy, hR⟩ := hY pre r w' hJs (by rw [hx, hp]; exact List.prefix_refl _)
      gi_wp2
      refine ⟨fun h => (by cases h), hR.mono ?_⟩
      rintro e W3 (⟨rfl, hJ3, hk3⟩ | ⟨rfl, hJx3⟩)
      · gi_wp2
        go_end0
        exact ⟨⟨_, rfl⟩, .inl (by rw [hx, hp]; exact hJ3)⟩
      · gi_wp2
        go_end0
        exact ⟨⟨_, rfl⟩, .inr ⟨pre ++ [r], by rw [hx, hp]; exact List.prefix_refl _, hJx3⟩⟩
    · rw [hi]
      obtain ⟨fn, tmps, assign, body, hy, hR⟩ := hY pre (r.take k) w' hJs (by rw [hx, hp]; exact ⟨pieces c (r.drop (k + 1)), by simp⟩)
      have hk0 : ¬ (k : Int) < 0 := by omega
      have he : (⟨(r.take k).toArray⟩ : ByteArray) = (⟨r.toArray⟩ : ByteArray).extract 0 k := by
        apply ByteArray.ext
        simp [ByteArray.data_extract]
      rw [he] at hy
      gi_wp2
      refine ⟨fun h => (by cases h), hR.mono ?_⟩
      rintro e W3 (⟨rfl, hJ3, hk3⟩ | ⟨rfl, hJx3⟩)
      · have d1 : W3.cell? ⟨b1, 0, none⟩ = some (.string ⟨#[c]⟩) := by rw [Lib.cell_of_heap ((hk3 b1 (.inl rfl)).trans G1)]; rfl
        have d2 : W3.cell? ⟨b2, 0, none⟩ = some (.string ⟨r.toArray⟩) := by rw [Lib.cell_of_heap ((hk3 b2 (.inr (.inl rfl))).trans G2)]; rfl
        have d3 : W3.cell? ⟨b3, 0, none⟩ = some (.int .i64 0) := by rw [Lib.cell_of_heap ((hk3 b3 (.inr (.inr rfl))).trans G3)]; rfl
        have f2 : W3.frozen? ⟨b2, 0, none⟩ = false := by
          unfold World.frozen?
          rw [(hk3 b2 (.inr (.inl rfl))).trans G2]
          rfl
        gi_wp2
        have he2 : (⟨r.toArray⟩ : ByteArray).extract (k + 1) r.length = ⟨(r.drop (k + 1)).toArray⟩ := by
          apply ByteArray.ext
          rw [ByteArray.data_extract]
          apply Array.ext'
          simp only [Array.toList_extract, List.extract_eq_take_drop]
          rw [List.take_of_length_le (by simp)]
        have g2 : W3.heap[b2]? = some (.cells #[.string ⟨r.toArray⟩] 9 (0, 0)) := (hk3 b2 (.inr (.inl rfl))).trans G2
        have hset : W3.setCell ⟨b2, 0, none⟩ (.string ((⟨r.toArray⟩ : ByteArray).extract (k + 1) r.length)) = W3.setRow b2 #[.string ⟨(r.drop (k + 1)).toArray⟩] := by
          rw [he2, setCell_eq_setRow W3 b2 0 _ _ _ _ g2]; rfl
        rw [hset]
        have o2 := setRow_heap W3 b2 _ #[.string ⟨(r.drop (k + 1)).toArray⟩] 9 (0, 0) g2
        have hlt : (r.drop (k + 1)).length < r.length := by rw [List.length_drop]; omega
        refine ⟨⟨pre ++ [r.take k], r.drop (k + 1), by rw [hx, hp]; simp, by omega, ?_, o2, ?_, hJ _ _ _ hJ3 Lift.setRow_grown⟩, ?_⟩
        · rw [setRow_other W3 b2 b1 _ h12, hk3 b1 (.inl rfl)]; exact G1
        · rw [setRow_other W3 b2 b3 _ h32, hk3 b3 (.inr (.inr rfl))]; exact G3
        · unfold leftOf
          rw [Lib.cell_of_heap o2, Lib.cell_of_heap G2]
          simp [ByteArray.size]
          omega
      · gi_wp2
        refine bodyPost_ret (results_none rfl _ _ _) rfl ?_
        exact ⟨⟨_, rfl⟩, .inr ⟨pre ++ [r.take k], by rw [hx, hp]; exact ⟨pieces c (r.drop (k + 1)), by simp⟩, hJx3⟩⟩
end Go.Proofs

/- strings.SplitSeq. -/
set_option linter.unusedVariables false
namespace Go.Proofs
open Go.RowKit Go.Shelf Lift

/-- The world behind SplitSeq. -/
def seqWorld (w : World) (s sep : ByteArray) : World := ((w.alloc (.cells #[.string s] 9)).alloc (.cells #[.string sep] 9)).alloc (.cells #[.int .i64 0] 3)

set_option maxRecDepth 100000 in
set_option maxHeartbeats 1000000 in
theorem Tryd.splitSeq_in (n : Nat) (s sep : ByteArray) (w : World) :
    CallsIn Fence.wide n Tryd.prog 43 #[.string s, .string sep, .int .i64 0] w fun e w' => e = .returned (.func (.func 51) #[] #[.pointer (some ⟨w.heap.size + 1, 0, none⟩), .pointer (some ⟨w.heap.size, 0, none⟩), .pointer (some ⟨w.heap.size + 2, 0, none⟩)]) ∧ w' = seqWorld w s sep := by
  refine callsIn_of_wp Tryd.func43 rfl trivial ?_ rfl
  simp only [Tryd.ntmps43, List.size_toArray, List.length_cons, List.length_nil, Nat.reduceAdd, Nat.reduceSub, Array.replicate_succ, Array.replicate_zero, List.push_toArray, List.append_toArray, List.nil_append, List.cons_append]
  gi_wp2
  go_ret
  exact ⟨rfl, rfl⟩

set_option maxRecDepth 100000 in
set_option maxHeartbeats 1000000 in
theorem Tryd.SplitSeq_in (n : Nat) (s sep : ByteArray) (w : World) :
    CallsIn Fence.wide n Tryd.prog 31 #[.string s, .string sep] w fun e w' => e = .returned (.func (.func 51) #[] #[.pointer (some ⟨w.heap.size + 1, 0, none⟩), .pointer (some ⟨w.heap.size, 0, none⟩), .pointer (some ⟨w.heap.size + 2, 0, none⟩)]) ∧ w' = seqWorld w s sep := by
  refine callsIn_of_wp Tryd.func31 rfl trivial ?_ rfl
  simp only [Tryd.ntmps31, List.size_toArray, List.length_cons, List.length_nil, Nat.reduceAdd, Nat.reduceSub, Array.replicate_succ, Array.replicate_zero, List.push_toArray, List.append_toArray, List.nil_append, List.cons_append]
  gi_wp2
  refine ⟨trivial, fun h => (by cases h), (Tryd.splitSeq_in (n - 1) s sep w).mono ?_⟩
  rintro e w' ⟨rfl, rfl⟩
  gi_wp2
  go_ret
  exact ⟨rfl, rfl⟩

/-- What SplitSeq hands back is an iterator over the pieces. -/
theorem Tryd.seqZ (s : List UInt8) (c : UInt8) (hs : s.length ≤ 1000000000000) (w : World) (b : Nat) (h0 : w.heap[b]? = some (.cells #[.string ⟨s.toArray⟩] 9 (0, 0))) (h1 : w.heap[b + 1]? = some (.cells #[.string ⟨#[c]⟩] 9 (0, 0))) (h2 : w.heap[b + 2]? = some (.cells #[.int .i64 0] 3 (0, 0))) :
    SeqZ Tryd.prog 51 #[.pointer (some ⟨b + 1, 0, none⟩), .pointer (some ⟨b, 0, none⟩), .pointer (some ⟨b + 2, 0, none⟩)] b [b + 1, b, b + 2] (pieces c s) w := by
  intro n l J Jx W hJ hY hk hJ0
  refine Tryd.seq_in n l (b + 1) b (b + 2) c s (by omega) (by omega) J Jx hJ (fun pre x W1 h hp => ?_) W ((hk _ (by simp)).trans h1) ((hk _ (by simp)).trans h0) ((hk _ (by simp)).trans h2) hs hJ0
  obtain ⟨fn, tmps, assign, body, hy, hR⟩ := hY pre x W1 h hp
  refine ⟨fn, tmps, assign, body, hy, hR.mono ?_⟩
  rintro e W' (⟨he, hj, hk'⟩ | h)
  · exact .inl ⟨he, hj, fun d hd => hk' d (by rcases hd with rfl | rfl | rfl <;> simp)⟩
  · exact .inr h
end Go.Proofs

namespace Lift.E2
open Go Go.RowKit Go.Proofs Lift Lift.Fn

noncomputable def sched_number_sh : StSh := ⟨⟨[0, 1], [], []⟩, [.t .str, .t (.int .i64)], []⟩

noncomputable def sched_number_os : List StSh := [⟨⟨[0, 1], [], []⟩, [.t (.int .i64), .t .bool], []⟩]

noncomputable def sched_number_L : Nat → Option (Lift.Loop U) := fun n => none

noncomputable def sched_number_enc : Nat → List (TV U) → Option (Int × Bool)
  | 0, [⟨(.int .i64), a0⟩, ⟨.bool, a1⟩] => some (a0, a1)
  | _, _ => none

noncomputable def sched_number_dec : Int × Bool → Nat × List (TV U) := fun x => (0, [⟨(.int .i64), x.1⟩, ⟨.bool, x.2⟩])

noncomputable def sched_number_tr : Int × Bool → Tr (Nat × List (TV U)) := fun r => (fun x => .ret (0, [⟨(.int .i64), x.1⟩, ⟨.bool, x.2⟩])) r

noncomputable def sched_number_md : Mode U := ⟨sched_number_sh, [], sched_number_os, fun ls => match ls with | [⟨.str, a0⟩, ⟨(.int .i64), a1⟩] => .get (sched_number a0 a1) sched_number_tr | _ => .fail⟩

theorem sched_number_E (a0 : List UInt8) (a1 : Int) : (Kit.withModes kk (modesOf ms5)).fnEval sched_number_L Tryd.f45 sched_number_sh sched_number_os [⟨.str, a0⟩, ⟨(.int .i64), a1⟩] sched_number_enc = sched_number_f a0 a1 := by kernel_rfl

theorem sched_number_post : ∀ ls j rs, (sched_number_md.sum ls).val = some (j, rs) → FnPost kk env0 45 sched_number_sh sched_number_os ls j rs := by
  have inner : LoopsOk (Kit.withModes kk (modesOf ms5)) env0 Tryd.f45.ntmps sched_number_L (bodyOf Tryd.f45) := by
    exact loopsOk_of (bs := []) (by kernel_rfl) trivial
  intro ls j rs h
  simp only [sched_number_md] at h
  split at h
  · obtain ⟨r, hr, h⟩ := Tr.get_val h
    rw [sched_number, sealF_eq] at hr
    have hd : sched_number_dec r = (j, rs) := by
      exact Option.some.inj h
    refine FnPost.modes.1 (fn_sound (kitOk_of eqOk mixed known5) (by kernel_rfl) inner ((sched_number_E _ _).trans hr) ?_)
    intro i qs he
    unfold sched_number_enc at he
    split at he <;> cases he <;> (cases hd; exact ⟨rfl, rfl⟩)
  · cases h

noncomputable def ms6 : List (FuncId × Mode U) := (45, sched_number_md) :: ms5

theorem known6 : Known kk env0 (modesOf ms6) := known_cons (by kernel_rfl) sched_number_post known5

noncomputable def sched_field_sh : StSh := ⟨⟨[0], [], []⟩, [.t .str], []⟩

noncomputable def sched_field_os : List StSh := [⟨⟨[0, 1], [], []⟩, [.t (.st 53), .t .bool], []⟩]

noncomputable def sched_field_L : Nat → Option (Lift.Loop U) := fun n => none

noncomputable def sched_field_enc : Nat → List (TV U) → Option (Run × Bool)
  | 0, [⟨(.st 53), a0⟩, ⟨.bool, a1⟩] => some (a0, a1)
  | _, _ => none

noncomputable def sched_field_dec : Run × Bool → Nat × List (TV U) := fun x => (0, [⟨(.st 53), x.1⟩, ⟨.bool, x.2⟩])

noncomputable def sched_field_tr : Run × Bool → Tr (Nat × List (TV U)) := fun r => (fun x => .ret (0, [⟨(.st 53), x.1⟩, ⟨.bool, x.2⟩])) r

noncomputable def sched_field_md : Mode U := ⟨sched_field_sh, [], sched_field_os, fun ls => match ls with | [⟨.str, a0⟩] => .get (sched_field a0) sched_field_tr | _ => .fail⟩

theorem sched_field_E (a0 : List UInt8) : (Kit.withModes kk (modesOf ms6)).fnEval sched_field_L Tryd.f32 sched_field_sh sched_field_os [⟨.str, a0⟩] sched_field_enc = sched_field_f a0 := by kernel_rfl

theorem sched_field_post : ∀ ls j rs, (sched_field_md.sum ls).val = some (j, rs) → FnPost kk env0 32 sched_field_sh sched_field_os ls j rs := by
  have inner : LoopsOk (Kit.withModes kk (modesOf ms6)) env0 Tryd.f32.ntmps sched_field_L (bodyOf Tryd.f32) := by
    exact loopsOk_of (bs := []) (by kernel_rfl) trivial
  intro ls j rs h
  simp only [sched_field_md] at h
  split at h
  · obtain ⟨r, hr, h⟩ := Tr.get_val h
    rw [sched_field, sealF_eq] at hr
    have hd : sched_field_dec r = (j, rs) := by
      exact Option.some.inj h
    refine FnPost.modes.1 (fn_sound (kitOk_of eqOk mixed known6) (by kernel_rfl) inner ((sched_field_E _).trans hr) ?_)
    intro i qs he
    unfold sched_field_enc at he
    split at he <;> cases he <;> (cases hd; exact ⟨rfl, rfl⟩)
  · cases h

noncomputable def ms7 : List (FuncId × Mode U) := (32, sched_field_md) :: ms6

theorem known7 : Known kk env0 (modesOf ms7) := known_cons (by kernel_rfl) sched_field_post known6

noncomputable def sched_take_sh3 : StSh := ⟨⟨[0, 5, 8, 9, 10], [], []⟩, [.t (.slc (.int .u8)), .t (.int .i64), .t (.slc (.int .u8)), .t (.int .i64), .t (.int .i64)], []⟩

noncomputable def sched_take_o3 : List Out := [⟨.exit 0, ⟨⟨[], [], []⟩, [], []⟩⟩, ⟨.ret, ⟨⟨[2, 3, 4], [], []⟩, [.t (.int .i64), .t (.slc (.int .u8)), .t .bool], []⟩⟩]

noncomputable def sched_take_b3 : Code := (nthLoop (bodyOf Tryd.f37) 0)

noncomputable def sched_take_L3 : Nat → Option (Lift.Loop U) := fun n => none

noncomputable def sched_take_rec3 (rec : List (Int) → Int → List (Int) → Int → Int → Option ((Unit) ⊕ (Int × (List (Int)) × Bool))) : List (TV U) → Option ((Unit) ⊕ (Int × (List (Int)) × Bool))
  | [⟨(.slc (.int .u8)), a0⟩, ⟨(.int .i64), a1⟩, ⟨(.slc (.int .u8)), a2⟩, ⟨(.int .i64), a3⟩, ⟨(.int .i64), a4⟩] => rec a0 a1 a2 a3 a4
  | _ => none

noncomputable def sched_take_enc3 : Nat → List (TV U) → Option ((Unit) ⊕ (Int × (List (Int)) × Bool))
  | 0, [] => some (.inl ())
  | 1, [⟨(.int .i64), a0⟩, ⟨(.slc (.int .u8)), a1⟩, ⟨.bool, a2⟩] => some (.inr (a0, a1, a2))
  | _, _ => none

noncomputable def sched_take_dec3 : (Unit) ⊕ (Int × (List (Int)) × Bool) → Nat × List (TV U) := fun r => match r with | (.inl x) => (0, []) | (.inr x) => (1, [⟨(.int .i64), x.1⟩, ⟨(.slc (.int .u8)), x.2.1⟩, ⟨.bool, x.2.2⟩])

noncomputable def sched_take_tr3 : (Unit) ⊕ (Int × (List (Int)) × Bool) → Tr (Nat × List (TV U)) := fun r => .alt r (fun x => .ret (0, [])) (fun y => (fun x => .ret (1, [⟨(.int .i64), x.1⟩, ⟨(.slc (.int .u8)), x.2.1⟩, ⟨.bool, x.2.2⟩])) y)

noncomputable def sched_take_lp3 : Lift.Loop U := ⟨sched_take_sh3, sched_take_o3, fun ls => match ls with | [⟨(.slc (.int .u8)), a0⟩, ⟨(.int .i64), a1⟩, ⟨(.slc (.int .u8)), a2⟩, ⟨(.int .i64), a3⟩, ⟨(.int .i64), a4⟩] => .get (sched_take_l3 a0 a1 a2 a3 a4) sched_take_tr3 | _ => .fail⟩

theorem sched_take_E3 (rec : List (Int) → Int → List (Int) → Int → Int → Option ((Unit) ⊕ (Int × (List (Int)) × Bool))) (a0 : List (Int)) (a1 : Int) (a2 : List (Int)) (a3 : Int) (a4 : Int) : (Kit.withModes kk (modesOf ms7)).turn Tryd.f37.ntmps sched_take_L3 sched_take_sh3 sched_take_o3 sched_take_b3 [⟨(.slc (.int .u8)), a0⟩, ⟨(.int .i64), a1⟩, ⟨(.slc (.int .u8)), a2⟩, ⟨(.int .i64), a3⟩, ⟨(.int .i64), a4⟩] (sched_take_rec3 rec) sched_take_enc3 = sched_take_t3 rec a0 a1 a2 a3 a4 := by kernel_rfl

theorem sched_take_ok3 : ∀ ls j rs, (sched_take_lp3.sum ls).val = some (j, rs) → RoundPost kk env0 Tryd.f37.ntmps sched_take_b3 sched_take_lp3.sh sched_take_lp3.outs ls j rs := by
  have inner : LoopsOk (Kit.withModes kk (modesOf ms7)) env0 Tryd.f37.ntmps sched_take_L3 sched_take_b3 := by
    exact loopsOk_of (bs := []) (by kernel_rfl) trivial
  have key : ∀ n a0 a1 a2 a3 a4 r j rs, sched_take_i3 n a0 a1 a2 a3 a4 = some r → sched_take_dec3 r = (j, rs) → RoundPost kk env0 Tryd.f37.ntmps sched_take_b3 sched_take_sh3 sched_take_o3 [⟨(.slc (.int .u8)), a0⟩, ⟨(.int .i64), a1⟩, ⟨(.slc (.int .u8)), a2⟩, ⟨(.int .i64), a3⟩, ⟨(.int .i64), a4⟩] j rs := by
    intro n
    induction n with
    | zero => intro a0 a1 a2 a3 a4 r j rs h; cases h
    | succ n ih =>
      intro a0 a1 a2 a3 a4 r j rs h hd
      refine RoundPost.modes.1 (turn_sound (kitOk_of eqOk mixed known7) inner ((sched_take_E3 (sched_take_i3 n) a0 a1 a2 a3 a4).trans h) (fun q hq => RoundPost.modes.2 ?_) ?_)
      · unfold sched_take_rec3 at hq
        split at hq
        · exact ih _ _ _ _ _ r j rs hq hd
        · cases hq
      · intro i qs he
        unfold sched_take_enc3 at he
        split at he <;> cases he <;> (cases hd; exact ⟨rfl, rfl⟩)
  intro ls j rs h
  simp only [sched_take_lp3] at h
  split at h
  · obtain ⟨r, hr, h⟩ := Tr.get_val h
    rw [sched_take_l3, sealF_eq] at hr
    refine key fuel _ _ _ _ _ r j rs hr ?_
    rcases r with r | r <;> exact Option.some.inj h
  · cases h

noncomputable def sched_take_sh : StSh := ⟨⟨[0], [], []⟩, [.t (.slc (.int .u8))], []⟩

noncomputable def sched_take_os : List StSh := [⟨⟨[0, 1, 2], [], []⟩, [.t (.int .i64), .t (.slc (.int .u8)), .t .bool], []⟩]

noncomputable def sched_take_L : Nat → Option (Lift.Loop U) := fun n => bif Nat.beq n 3 then some sched_take_lp3 else none

noncomputable def sched_take_enc : Nat → List (TV U) → Option (Int × (List (Int)) × Bool)
  | 0, [⟨(.int .i64), a0⟩, ⟨(.slc (.int .u8)), a1⟩, ⟨.bool, a2⟩] => some (a0, a1, a2)
  | _, _ => none

noncomputable def sched_take_dec : Int × (List (Int)) × Bool → Nat × List (TV U) := fun x => (0, [⟨(.int .i64), x.1⟩, ⟨(.slc (.int .u8)), x.2.1⟩, ⟨.bool, x.2.2⟩])

noncomputable def sched_take_tr : Int × (List (Int)) × Bool → Tr (Nat × List (TV U)) := fun r => (fun x => .ret (0, [⟨(.int .i64), x.1⟩, ⟨(.slc (.int .u8)), x.2.1⟩, ⟨.bool, x.2.2⟩])) r

noncomputable def sched_take_md : Mode U := ⟨sched_take_sh, [], sched_take_os, fun ls => match ls with | [⟨(.slc (.int .u8)), a0⟩] => .get (sched_take a0) sched_take_tr | _ => .fail⟩

theorem sched_take_E (a0 : List (Int)) : (Kit.withModes kk (modesOf ms7)).fnEval sched_take_L Tryd.f37 sched_take_sh sched_take_os [⟨(.slc (.int .u8)), a0⟩] sched_take_enc = sched_take_f a0 := by kernel_rfl

theorem sched_take_post : ∀ ls j rs, (sched_take_md.sum ls).val = some (j, rs) → FnPost kk env0 37 sched_take_sh sched_take_os ls j rs := by
  have inner : LoopsOk (Kit.withModes kk (modesOf ms7)) env0 Tryd.f37.ntmps sched_take_L (bodyOf Tryd.f37) := by
    exact loopsOk_of (bs := [sched_take_b3]) (by kernel_rfl) ⟨.inr ⟨_, by kernel_rfl, LoopOk.of_round sched_take_ok3⟩, trivial⟩
  intro ls j rs h
  simp only [sched_take_md] at h
  split at h
  · obtain ⟨r, hr, h⟩ := Tr.get_val h
    rw [sched_take, sealF_eq] at hr
    have hd : sched_take_dec r = (j, rs) := by
      exact Option.some.inj h
    refine FnPost.modes.1 (fn_sound (kitOk_of eqOk mixed known7) (by kernel_rfl) inner ((sched_take_E _).trans hr) ?_)
    intro i qs he
    unfold sched_take_enc at he
    split at he <;> cases he <;> (cases hd; exact ⟨rfl, rfl⟩)
  · cases h

noncomputable def ms8 : List (FuncId × Mode U) := (37, sched_take_md) :: ms7

theorem known8 : Known kk env0 (modesOf ms8) := known_cons (by kernel_rfl) sched_take_post known7

noncomputable def slices_Clip_int_int_sh : StSh := ⟨⟨[0], [], [⟨.slot 0, 0, 3, (.int .i64)⟩]⟩, [.oslc 0], [.row 3 (.int .i64)]⟩

noncomputable def slices_Clip_int_int_os : List StSh := [⟨⟨[0], [], [⟨.slot 0, 100000, 3, (.int .i64)⟩]⟩, [.oslc 100000], [.row 3 (.int .i64)]⟩]

noncomputable def slices_Clip_int_int_L : Nat → Option (Lift.Loop U) := fun n => none

noncomputable def slices_Clip_int_int_enc : Nat → List (TV U) → Option ((List (Int)))
  | 0, [⟨(.slc (.int .i64)), a0⟩] => some a0
  | _, _ => none

noncomputable def slices_Clip_int_int_dec : (List (Int)) → Nat × List (TV U) := fun x => (0, [⟨(.slc (.int .i64)), x⟩])

noncomputable def slices_Clip_int_int_tr : (List (Int)) → Tr (Nat × List (TV U)) := fun r => (fun x => .ret (0, [⟨(.slc (.int .i64)), x⟩])) r

noncomputable def slices_Clip_int_int_md : Mode U := ⟨slices_Clip_int_int_sh, [], slices_Clip_int_int_os, fun ls => match ls with | [⟨(.slc (.int .i64)), a0⟩] => .get (slices_Clip_int_int a0) slices_Clip_int_int_tr | _ => .fail⟩

theorem slices_Clip_int_int_E (a0 : List (Int)) : (Kit.withModes kk (modesOf ms8)).fnEval slices_Clip_int_int_L Tryd.f34 slices_Clip_int_int_sh slices_Clip_int_int_os [⟨(.slc (.int .i64)), a0⟩] slices_Clip_int_int_enc = slices_Clip_int_int_f a0 := by kernel_rfl

theorem slices_Clip_int_int_post : ∀ ls j rs, (slices_Clip_int_int_md.sum ls).val = some (j, rs) → FnPost kk env0 34 slices_Clip_int_int_sh slices_Clip_int_int_os ls j rs := by
  have inner : LoopsOk (Kit.withModes kk (modesOf ms8)) env0 Tryd.f34.ntmps slices_Clip_int_int_L (bodyOf Tryd.f34) := by
    exact loopsOk_of (bs := []) (by kernel_rfl) trivial
  intro ls j rs h
  simp only [slices_Clip_int_int_md] at h
  split at h
  · obtain ⟨r, hr, h⟩ := Tr.get_val h
    rw [slices_Clip_int_int, sealF_eq] at hr
    have hd : slices_Clip_int_int_dec r = (j, rs) := by
      exact Option.some.inj h
    refine FnPost.modes.1 (fn_sound (kitOk_of eqOk mixed known8) (by kernel_rfl) inner ((slices_Clip_int_int_E _).trans hr) ?_)
    intro i qs he
    unfold slices_Clip_int_int_enc at he
    split at he <;> cases he <;> (cases hd; exact ⟨rfl, rfl⟩)
  · cases h

noncomputable def ms9 : List (FuncId × Mode U) := (34, slices_Clip_int_int_md) :: ms8

theorem known9 : Known kk env0 (modesOf ms9) := known_cons (by kernel_rfl) slices_Clip_int_int_post known8

noncomputable def sched_Load_sh4 : StSh := ⟨⟨[0, 5, 6, 16, 17], [], [⟨.slot 6, 6, 3, (.int .i64)⟩]⟩, [.t (.slc (.int .u8)), .t .bool, .oslc 6, .t (.int .i64), .t (.int .i64)], [.row 3 (.int .i64)]⟩

noncomputable def sched_Load_o4 : List Out := [⟨.exit 0, ⟨⟨[0, 5, 6], [], [⟨.slot 6, 6, 3, (.int .i64)⟩]⟩, [.t (.slc (.int .u8)), .t .bool, .oslc 6], [.row 3 (.int .i64)]⟩⟩]

noncomputable def sched_Load_b4 : Code := (nthLoop (bodyOf Tryd.f20) 0)

noncomputable def sched_Load_L4 : Nat → Option (Lift.Loop U) := fun n => none

noncomputable def sched_Load_rec4 (rec : List (Int) → Bool → Int → Int → List (Int) → Option ((List (Int)) × Bool × (List (Int)))) : List (TV U) → Option ((List (Int)) × Bool × (List (Int)))
  | [⟨(.slc (.int .u8)), a0⟩, ⟨.bool, a1⟩, ⟨(.int .i64), a2⟩, ⟨(.int .i64), a3⟩, ⟨(.slc (.int .i64)), a4⟩] => rec a0 a1 a2 a3 a4
  | _ => none

noncomputable def sched_Load_enc4 : Nat → List (TV U) → Option ((List (Int)) × Bool × (List (Int)))
  | 0, [⟨(.slc (.int .u8)), a0⟩, ⟨.bool, a1⟩, ⟨(.slc (.int .i64)), a2⟩] => some (a0, a1, a2)
  | _, _ => none

noncomputable def sched_Load_dec4 : (List (Int)) × Bool × (List (Int)) → Nat × List (TV U) := fun x => (0, [⟨(.slc (.int .u8)), x.1⟩, ⟨.bool, x.2.1⟩, ⟨(.slc (.int .i64)), x.2.2⟩])

noncomputable def sched_Load_tr4 : (List (Int)) × Bool × (List (Int)) → Tr (Nat × List (TV U)) := fun r => (fun x => .ret (0, [⟨(.slc (.int .u8)), x.1⟩, ⟨.bool, x.2.1⟩, ⟨(.slc (.int .i64)), x.2.2⟩])) r

noncomputable def sched_Load_lp4 : Lift.Loop U := ⟨sched_Load_sh4, sched_Load_o4, fun ls => match ls with | [⟨(.slc (.int .u8)), a0⟩, ⟨.bool, a1⟩, ⟨(.int .i64), a2⟩, ⟨(.int .i64), a3⟩, ⟨(.slc (.int .i64)), a4⟩] => .get (sched_Load_l4 a0 a1 a2 a3 a4) sched_Load_tr4 | _ => .fail⟩

theorem sched_Load_E4 (rec : List (Int) → Bool → Int → Int → List (Int) → Option ((List (Int)) × Bool × (List (Int)))) (a0 : List (Int)) (a1 : Bool) (a2 : Int) (a3 : Int) (a4 : List (Int)) : (Kit.withModes kk (modesOf ms9)).turn Tryd.f20.ntmps sched_Load_L4 sched_Load_sh4 sched_Load_o4 sched_Load_b4 [⟨(.slc (.int .u8)), a0⟩, ⟨.bool, a1⟩, ⟨(.int .i64), a2⟩, ⟨(.int .i64), a3⟩, ⟨(.slc (.int .i64)), a4⟩] (sched_Load_rec4 rec) sched_Load_enc4 = sched_Load_t4 rec a0 a1 a2 a3 a4 := by kernel_rfl

theorem sched_Load_ok4 : ∀ ls j rs, (sched_Load_lp4.sum ls).val = some (j, rs) → RoundPost kk env0 Tryd.f20.ntmps sched_Load_b4 sched_Load_lp4.sh sched_Load_lp4.outs ls j rs := by
  have inner : LoopsOk (Kit.withModes kk (modesOf ms9)) env0 Tryd.f20.ntmps sched_Load_L4 sched_Load_b4 := by
    exact loopsOk_of (bs := []) (by kernel_rfl) trivial
  have key : ∀ n a0 a1 a2 a3 a4 r j rs, sched_Load_i4 n a0 a1 a2 a3 a4 = some r → sched_Load_dec4 r = (j, rs) → RoundPost kk env0 Tryd.f20.ntmps sched_Load_b4 sched_Load_sh4 sched_Load_o4 [⟨(.slc (.int .u8)), a0⟩, ⟨.bool, a1⟩, ⟨(.int .i64), a2⟩, ⟨(.int .i64), a3⟩, ⟨(.slc (.int .i64)), a4⟩] j rs := by
    intro n
    induction n with
    | zero => intro a0 a1 a2 a3 a4 r j rs h; cases h
    | succ n ih =>
      intro a0 a1 a2 a3 a4 r j rs h hd
      refine RoundPost.modes.1 (turn_sound (kitOk_of eqOk mixed known9) inner ((sched_Load_E4 (sched_Load_i4 n) a0 a1 a2 a3 a4).trans h) (fun q hq => RoundPost.modes.2 ?_) ?_)
      · unfold sched_Load_rec4 at hq
        split at hq
        · exact ih _ _ _ _ _ r j rs hq hd
        · cases hq
      · intro i qs he
        unfold sched_Load_enc4 at he
        split at he <;> cases he <;> (cases hd; exact ⟨rfl, rfl⟩)
  intro ls j rs h
  simp only [sched_Load_lp4] at h
  split at h
  · obtain ⟨r, hr, h⟩ := Tr.get_val h
    rw [sched_Load_l4, sealF_eq] at hr
    refine key fuel _ _ _ _ _ r j rs hr ?_
    exact Option.some.inj h
  · cases h

noncomputable def sched_Load_sh : StSh := ⟨⟨[0], [], []⟩, [.t (.slc (.int .u8))], []⟩

noncomputable def sched_Load_os : List StSh := [⟨⟨[0, 1], [], [⟨.slot 0, 100000, 3, (.int .i64)⟩]⟩, [.oslc 100000, .t (.int .i64)], [.row 3 (.int .i64)]⟩]

noncomputable def sched_Load_L : Nat → Option (Lift.Loop U) := fun n => bif Nat.beq n 4 then some sched_Load_lp4 else none

noncomputable def sched_Load_enc : Nat → List (TV U) → Option (Int × (List (Int)))
  | 0, [⟨(.int .i64), a0⟩, ⟨(.slc (.int .i64)), a1⟩] => some (a0, a1)
  | _, _ => none

noncomputable def sched_Load_dec : Int × (List (Int)) → Nat × List (TV U) := fun x => (0, [⟨(.int .i64), x.1⟩, ⟨(.slc (.int .i64)), x.2⟩])

noncomputable def sched_Load_tr : Int × (List (Int)) → Tr (Nat × List (TV U)) := fun r => (fun x => .ret (0, [⟨(.int .i64), x.1⟩, ⟨(.slc (.int .i64)), x.2⟩])) r

noncomputable def sched_Load_md : Mode U := ⟨sched_Load_sh, [], sched_Load_os, fun ls => match ls with | [⟨(.slc (.int .u8)), a0⟩] => .get (sched_Load a0) sched_Load_tr | _ => .fail⟩

theorem sched_Load_E (a0 : List (Int)) : (Kit.withModes kk (modesOf ms9)).fnEval sched_Load_L Tryd.f20 sched_Load_sh sched_Load_os [⟨(.slc (.int .u8)), a0⟩] sched_Load_enc = sched_Load_f a0 := by kernel_rfl

theorem sched_Load_post : ∀ ls j rs, (sched_Load_md.sum ls).val = some (j, rs) → FnPost kk env0 20 sched_Load_sh sched_Load_os ls j rs := by
  have inner : LoopsOk (Kit.withModes kk (modesOf ms9)) env0 Tryd.f20.ntmps sched_Load_L (bodyOf Tryd.f20) := by
    exact loopsOk_of (bs := [sched_Load_b4]) (by kernel_rfl) ⟨.inr ⟨_, by kernel_rfl, LoopOk.of_round sched_Load_ok4⟩, trivial⟩
  intro ls j rs h
  simp only [sched_Load_md] at h
  split at h
  · obtain ⟨r, hr, h⟩ := Tr.get_val h
    rw [sched_Load, sealF_eq] at hr
    have hd : sched_Load_dec r = (j, rs) := by
      exact Option.some.inj h
    refine FnPost.modes.1 (fn_sound (kitOk_of eqOk mixed known9) (by kernel_rfl) inner ((sched_Load_E _).trans hr) ?_)
    intro i qs he
    unfold sched_Load_enc at he
    split at he <;> cases he <;> (cases hd; exact ⟨rfl, rfl⟩)
  · cases h

noncomputable def ms10 : List (FuncId × Mode U) := (20, sched_Load_md) :: ms9

theorem known10 : Known kk env0 (modesOf ms10) := known_cons (by kernel_rfl) sched_Load_post known9

noncomputable def sched_runs_sh5 : StSh := ⟨⟨[4, 11, 12, 13], [], [⟨.slot 4, 4, 53, (.st 53)⟩]⟩, [.oslc 4, .t (.slc (.int .i64)), .t (.int .i64), .t (.int .i64)], [.row 53 (.st 53)]⟩

noncomputable def sched_runs_o5 : List Out := [⟨.ret, ⟨⟨[2, 3], [], []⟩, [.nil, .t (.int .i64)], []⟩⟩, ⟨.exit 0, ⟨⟨[4], [], [⟨.slot 4, 4, 53, (.st 53)⟩]⟩, [.oslc 4], [.row 53 (.st 53)]⟩⟩]

noncomputable def sched_runs_b5 : Code := (nthLoop (bodyOf Tryd.f24) 0)

noncomputable def sched_runs_L5 : Nat → Option (Lift.Loop U) := fun n => none

noncomputable def sched_runs_rec5 (rec : List (Int) → Int → Int → List (Run) → Option ((Int) ⊕ ((List (Run))))) : List (TV U) → Option ((Int) ⊕ ((List (Run))))
  | [⟨(.slc (.int .i64)), a0⟩, ⟨(.int .i64), a1⟩, ⟨(.int .i64), a2⟩, ⟨(.slc (.st 53)), a3⟩] => rec a0 a1 a2 a3
  | _ => none

noncomputable def sched_runs_enc5 : Nat → List (TV U) → Option ((Int) ⊕ ((List (Run))))
  | 0, [⟨(.int .i64), a0⟩] => some (.inl a0)
  | 1, [⟨(.slc (.st 53)), a0⟩] => some (.inr a0)
  | _, _ => none

noncomputable def sched_runs_dec5 : (Int) ⊕ ((List (Run))) → Nat × List (TV U) := fun r => match r with | (.inl x) => (0, [⟨(.int .i64), x⟩]) | (.inr x) => (1, [⟨(.slc (.st 53)), x⟩])

noncomputable def sched_runs_tr5 : (Int) ⊕ ((List (Run))) → Tr (Nat × List (TV U)) := fun r => .alt r (fun x => .ret (0, [⟨(.int .i64), x⟩])) (fun y => (fun x => .ret (1, [⟨(.slc (.st 53)), x⟩])) y)

noncomputable def sched_runs_lp5 : Lift.Loop U := ⟨sched_runs_sh5, sched_runs_o5, fun ls => match ls with | [⟨(.slc (.int .i64)), a0⟩, ⟨(.int .i64), a1⟩, ⟨(.int .i64), a2⟩, ⟨(.slc (.st 53)), a3⟩] => .get (sched_runs_l5 a0 a1 a2 a3) sched_runs_tr5 | _ => .fail⟩

theorem sched_runs_E5 (rec : List (Int) → Int → Int → List (Run) → Option ((Int) ⊕ ((List (Run))))) (a0 : List (Int)) (a1 : Int) (a2 : Int) (a3 : List (Run)) : (Kit.withModes kk (modesOf ms10)).turn Tryd.f24.ntmps sched_runs_L5 sched_runs_sh5 sched_runs_o5 sched_runs_b5 [⟨(.slc (.int .i64)), a0⟩, ⟨(.int .i64), a1⟩, ⟨(.int .i64), a2⟩, ⟨(.slc (.st 53)), a3⟩] (sched_runs_rec5 rec) sched_runs_enc5 = sched_runs_t5 rec a0 a1 a2 a3 := by kernel_rfl

theorem sched_runs_ok5 : ∀ ls j rs, (sched_runs_lp5.sum ls).val = some (j, rs) → RoundPost kk env0 Tryd.f24.ntmps sched_runs_b5 sched_runs_lp5.sh sched_runs_lp5.outs ls j rs := by
  have inner : LoopsOk (Kit.withModes kk (modesOf ms10)) env0 Tryd.f24.ntmps sched_runs_L5 sched_runs_b5 := by
    exact loopsOk_of (bs := []) (by kernel_rfl) trivial
  have key : ∀ n a0 a1 a2 a3 r j rs, sched_runs_i5 n a0 a1 a2 a3 = some r → sched_runs_dec5 r = (j, rs) → RoundPost kk env0 Tryd.f24.ntmps sched_runs_b5 sched_runs_sh5 sched_runs_o5 [⟨(.slc (.int .i64)), a0⟩, ⟨(.int .i64), a1⟩, ⟨(.int .i64), a2⟩, ⟨(.slc (.st 53)), a3⟩] j rs := by
    intro n
    induction n with
    | zero => intro a0 a1 a2 a3 r j rs h; cases h
    | succ n ih =>
      intro a0 a1 a2 a3 r j rs h hd
      refine RoundPost.modes.1 (turn_sound (kitOk_of eqOk mixed known10) inner ((sched_runs_E5 (sched_runs_i5 n) a0 a1 a2 a3).trans h) (fun q hq => RoundPost.modes.2 ?_) ?_)
      · unfold sched_runs_rec5 at hq
        split at hq
        · exact ih _ _ _ _ r j rs hq hd
        · cases hq
      · intro i qs he
        unfold sched_runs_enc5 at he
        split at he <;> cases he <;> (cases hd; exact ⟨rfl, rfl⟩)
  intro ls j rs h
  simp only [sched_runs_lp5] at h
  split at h
  · obtain ⟨r, hr, h⟩ := Tr.get_val h
    rw [sched_runs_l5, sealF_eq] at hr
    refine key fuel _ _ _ _ r j rs hr ?_
    rcases r with r | r <;> exact Option.some.inj h
  · cases h

noncomputable def sched_runs_sh : StSh := ⟨⟨[0], [], []⟩, [.t (.slc (.int .i64))], []⟩

noncomputable def sched_runs_os : List StSh := [⟨⟨[0, 1], [], [⟨.slot 0, 100000, 53, (.st 53)⟩]⟩, [.oslc 100000, .t (.int .i64)], [.row 53 (.st 53)]⟩]

noncomputable def sched_runs_L : Nat → Option (Lift.Loop U) := fun n => bif Nat.beq n 5 then some sched_runs_lp5 else none

noncomputable def sched_runs_enc : Nat → List (TV U) → Option (Int × (List (Run)))
  | 0, [⟨(.int .i64), a0⟩, ⟨(.slc (.st 53)), a1⟩] => some (a0, a1)
  | _, _ => none

noncomputable def sched_runs_dec : Int × (List (Run)) → Nat × List (TV U) := fun x => (0, [⟨(.int .i64), x.1⟩, ⟨(.slc (.st 53)), x.2⟩])

noncomputable def sched_runs_tr : Int × (List (Run)) → Tr (Nat × List (TV U)) := fun r => (fun x => .ret (0, [⟨(.int .i64), x.1⟩, ⟨(.slc (.st 53)), x.2⟩])) r

noncomputable def sched_runs_md : Mode U := ⟨sched_runs_sh, [], sched_runs_os, fun ls => match ls with | [⟨(.slc (.int .i64)), a0⟩] => .get (sched_runs a0) sched_runs_tr | _ => .fail⟩

theorem sched_runs_E (a0 : List (Int)) : (Kit.withModes kk (modesOf ms10)).fnEval sched_runs_L Tryd.f24 sched_runs_sh sched_runs_os [⟨(.slc (.int .i64)), a0⟩] sched_runs_enc = sched_runs_f a0 := by kernel_rfl

theorem sched_runs_post : ∀ ls j rs, (sched_runs_md.sum ls).val = some (j, rs) → FnPost kk env0 24 sched_runs_sh sched_runs_os ls j rs := by
  have inner : LoopsOk (Kit.withModes kk (modesOf ms10)) env0 Tryd.f24.ntmps sched_runs_L (bodyOf Tryd.f24) := by
    exact loopsOk_of (bs := [sched_runs_b5]) (by kernel_rfl) ⟨.inr ⟨_, by kernel_rfl, LoopOk.of_round sched_runs_ok5⟩, trivial⟩
  intro ls j rs h
  simp only [sched_runs_md] at h
  split at h
  · obtain ⟨r, hr, h⟩ := Tr.get_val h
    rw [sched_runs, sealF_eq] at hr
    have hd : sched_runs_dec r = (j, rs) := by
      exact Option.some.inj h
    refine FnPost.modes.1 (fn_sound (kitOk_of eqOk mixed known10) (by kernel_rfl) inner ((sched_runs_E _).trans hr) ?_)
    intro i qs he
    unfold sched_runs_enc at he
    split at he <;> cases he <;> (cases hd; exact ⟨rfl, rfl⟩)
  · cases h

noncomputable def ms11 : List (FuncId × Mode U) := (24, sched_runs_md) :: ms10

theorem known11 : Known kk env0 (modesOf ms11) := known_cons (by kernel_rfl) sched_runs_post known10

noncomputable def sched_put_sh1 : StSh := ⟨⟨[0, 1], [], [⟨.slot 0, 0, 5, (.int .u8)⟩]⟩, [.oslc 0, .t (.int .i64)], [.row 5 (.int .u8)]⟩

noncomputable def sched_put_o1 : List Out := [⟨.exit 0, ⟨⟨[0, 1], [], [⟨.slot 0, 0, 5, (.int .u8)⟩]⟩, [.oslc 0, .t (.int .i64)], [.row 5 (.int .u8)]⟩⟩]

noncomputable def sched_put_b1 : Code := (nthLoop (bodyOf Tryd.f28) 0)

noncomputable def sched_put_L1 : Nat → Option (Lift.Loop U) := fun n => none

noncomputable def sched_put_rec1 (rec : Int → List (Int) → Option (Int × (List (Int)))) : List (TV U) → Option (Int × (List (Int)))
  | [⟨(.int .i64), a0⟩, ⟨(.slc (.int .u8)), a1⟩] => rec a0 a1
  | _ => none

noncomputable def sched_put_enc1 : Nat → List (TV U) → Option (Int × (List (Int)))
  | 0, [⟨(.int .i64), a0⟩, ⟨(.slc (.int .u8)), a1⟩] => some (a0, a1)
  | _, _ => none

noncomputable def sched_put_dec1 : Int × (List (Int)) → Nat × List (TV U) := fun x => (0, [⟨(.int .i64), x.1⟩, ⟨(.slc (.int .u8)), x.2⟩])

noncomputable def sched_put_tr1 : Int × (List (Int)) → Tr (Nat × List (TV U)) := fun r => (fun x => .ret (0, [⟨(.int .i64), x.1⟩, ⟨(.slc (.int .u8)), x.2⟩])) r

noncomputable def sched_put_lp1 : Lift.Loop U := ⟨sched_put_sh1, sched_put_o1, fun ls => match ls with | [⟨(.int .i64), a0⟩, ⟨(.slc (.int .u8)), a1⟩] => .get (sched_put_l1 a0 a1) sched_put_tr1 | _ => .fail⟩

theorem sched_put_E1 (rec : Int → List (Int) → Option (Int × (List (Int)))) (a0 : Int) (a1 : List (Int)) : (Kit.withModes kk (modesOf ms11)).turn Tryd.f28.ntmps sched_put_L1 sched_put_sh1 sched_put_o1 sched_put_b1 [⟨(.int .i64), a0⟩, ⟨(.slc (.int .u8)), a1⟩] (sched_put_rec1 rec) sched_put_enc1 = sched_put_t1 rec a0 a1 := by kernel_rfl

theorem sched_put_ok1 : ∀ ls j rs, (sched_put_lp1.sum ls).val = some (j, rs) → RoundPost kk env0 Tryd.f28.ntmps sched_put_b1 sched_put_lp1.sh sched_put_lp1.outs ls j rs := by
  have inner : LoopsOk (Kit.withModes kk (modesOf ms11)) env0 Tryd.f28.ntmps sched_put_L1 sched_put_b1 := by
    exact loopsOk_of (bs := []) (by kernel_rfl) trivial
  have key : ∀ n a0 a1 r j rs, sched_put_i1 n a0 a1 = some r → sched_put_dec1 r = (j, rs) → RoundPost kk env0 Tryd.f28.ntmps sched_put_b1 sched_put_sh1 sched_put_o1 [⟨(.int .i64), a0⟩, ⟨(.slc (.int .u8)), a1⟩] j rs := by
    intro n
    induction n with
    | zero => intro a0 a1 r j rs h; cases h
    | succ n ih =>
      intro a0 a1 r j rs h hd
      refine RoundPost.modes.1 (turn_sound (kitOk_of eqOk mixed known11) inner ((sched_put_E1 (sched_put_i1 n) a0 a1).trans h) (fun q hq => RoundPost.modes.2 ?_) ?_)
      · unfold sched_put_rec1 at hq
        split at hq
        · exact ih _ _ r j rs hq hd
        · cases hq
      · intro i qs he
        unfold sched_put_enc1 at he
        split at he <;> cases he <;> (cases hd; exact ⟨rfl, rfl⟩)
  intro ls j rs h
  simp only [sched_put_lp1] at h
  split at h
  · obtain ⟨r, hr, h⟩ := Tr.get_val h
    rw [sched_put_l1, sealF_eq] at hr
    refine key fuel _ _ r j rs hr ?_
    exact Option.some.inj h
  · cases h

noncomputable def sched_put_sh : StSh := ⟨⟨[0, 1], [], [⟨.slot 0, 0, 5, (.int .u8)⟩]⟩, [.oslc 0, .t (.int .i64)], [.row 5 (.int .u8)]⟩

noncomputable def sched_put_os : List StSh := [⟨⟨[0], [], [⟨.slot 0, 100000, 5, (.int .u8)⟩]⟩, [.oslc 100000], [.row 5 (.int .u8)]⟩]

noncomputable def sched_put_L : Nat → Option (Lift.Loop U) := fun n => bif Nat.beq n 1 then some sched_put_lp1 else none

noncomputable def sched_put_enc : Nat → List (TV U) → Option ((List (Int)))
  | 0, [⟨(.slc (.int .u8)), a0⟩] => some a0
  | _, _ => none

noncomputable def sched_put_dec : (List (Int)) → Nat × List (TV U) := fun x => (0, [⟨(.slc (.int .u8)), x⟩])

noncomputable def sched_put_tr : (List (Int)) → Tr (Nat × List (TV U)) := fun r => (fun x => .ret (0, [⟨(.slc (.int .u8)), x⟩])) r

noncomputable def sched_put_md : Mode U := ⟨sched_put_sh, [], sched_put_os, fun ls => match ls with | [⟨(.int .i64), a0⟩, ⟨(.slc (.int .u8)), a1⟩] => .get (sched_put a0 a1) sched_put_tr | _ => .fail⟩

theorem sched_put_E (a0 : Int) (a1 : List (Int)) : (Kit.withModes kk (modesOf ms11)).fnEval sched_put_L Tryd.f28 sched_put_sh sched_put_os [⟨(.int .i64), a0⟩, ⟨(.slc (.int .u8)), a1⟩] sched_put_enc = sched_put_f a0 a1 := by kernel_rfl

theorem sched_put_post : ∀ ls j rs, (sched_put_md.sum ls).val = some (j, rs) → FnPost kk env0 28 sched_put_sh sched_put_os ls j rs := by
  have inner : LoopsOk (Kit.withModes kk (modesOf ms11)) env0 Tryd.f28.ntmps sched_put_L (bodyOf Tryd.f28) := by
    exact loopsOk_of (bs := [sched_put_b1]) (by kernel_rfl) ⟨.inr ⟨_, by kernel_rfl, LoopOk.of_round sched_put_ok1⟩, trivial⟩
  intro ls j rs h
  simp only [sched_put_md] at h
  split at h
  · obtain ⟨r, hr, h⟩ := Tr.get_val h
    rw [sched_put, sealF_eq] at hr
    have hd : sched_put_dec r = (j, rs) := by
      exact Option.some.inj h
    refine FnPost.modes.1 (fn_sound (kitOk_of eqOk mixed known11) (by kernel_rfl) inner ((sched_put_E _ _).trans hr) ?_)
    intro i qs he
    unfold sched_put_enc at he
    split at he <;> cases he <;> (cases hd; exact ⟨rfl, rfl⟩)
  · cases h

noncomputable def ms12 : List (FuncId × Mode U) := (28, sched_put_md) :: ms11

theorem known12 : Known kk env0 (modesOf ms12) := known_cons (by kernel_rfl) sched_put_post known11

noncomputable def slices_Clip_byte_byte_sh : StSh := ⟨⟨[0], [], [⟨.slot 0, 0, 5, (.int .u8)⟩]⟩, [.oslc 0], [.row 5 (.int .u8)]⟩

noncomputable def slices_Clip_byte_byte_os : List StSh := [⟨⟨[0], [], [⟨.slot 0, 100000, 5, (.int .u8)⟩]⟩, [.oslc 100000], [.row 5 (.int .u8)]⟩]

noncomputable def slices_Clip_byte_byte_L : Nat → Option (Lift.Loop U) := fun n => none

noncomputable def slices_Clip_byte_byte_enc : Nat → List (TV U) → Option ((List (Int)))
  | 0, [⟨(.slc (.int .u8)), a0⟩] => some a0
  | _, _ => none

noncomputable def slices_Clip_byte_byte_dec : (List (Int)) → Nat × List (TV U) := fun x => (0, [⟨(.slc (.int .u8)), x⟩])

noncomputable def slices_Clip_byte_byte_tr : (List (Int)) → Tr (Nat × List (TV U)) := fun r => (fun x => .ret (0, [⟨(.slc (.int .u8)), x⟩])) r

noncomputable def slices_Clip_byte_byte_md : Mode U := ⟨slices_Clip_byte_byte_sh, [], slices_Clip_byte_byte_os, fun ls => match ls with | [⟨(.slc (.int .u8)), a0⟩] => .get (slices_Clip_byte_byte a0) slices_Clip_byte_byte_tr | _ => .fail⟩

theorem slices_Clip_byte_byte_E (a0 : List (Int)) : (Kit.withModes kk (modesOf ms12)).fnEval slices_Clip_byte_byte_L Tryd.f29 slices_Clip_byte_byte_sh slices_Clip_byte_byte_os [⟨(.slc (.int .u8)), a0⟩] slices_Clip_byte_byte_enc = slices_Clip_byte_byte_f a0 := by kernel_rfl

theorem slices_Clip_byte_byte_post : ∀ ls j rs, (slices_Clip_byte_byte_md.sum ls).val = some (j, rs) → FnPost kk env0 29 slices_Clip_byte_byte_sh slices_Clip_byte_byte_os ls j rs := by
  have inner : LoopsOk (Kit.withModes kk (modesOf ms12)) env0 Tryd.f29.ntmps slices_Clip_byte_byte_L (bodyOf Tryd.f29) := by
    exact loopsOk_of (bs := []) (by kernel_rfl) trivial
  intro ls j rs h
  simp only [slices_Clip_byte_byte_md] at h
  split at h
  · obtain ⟨r, hr, h⟩ := Tr.get_val h
    rw [slices_Clip_byte_byte, sealF_eq] at hr
    have hd : slices_Clip_byte_byte_dec r = (j, rs) := by
      exact Option.some.inj h
    refine FnPost.modes.1 (fn_sound (kitOk_of eqOk mixed known12) (by kernel_rfl) inner ((slices_Clip_byte_byte_E _).trans hr) ?_)
    intro i qs he
    unfold slices_Clip_byte_byte_enc at he
    split at he <;> cases he <;> (cases hd; exact ⟨rfl, rfl⟩)
  · cases h

noncomputable def ms13 : List (FuncId × Mode U) := (29, slices_Clip_byte_byte_md) :: ms12

theorem known13 : Known kk env0 (modesOf ms13) := known_cons (by kernel_rfl) slices_Clip_byte_byte_post known12

noncomputable def sched_Bytes_sh6 : StSh := ⟨⟨[6, 20, 21, 22], [], [⟨.slot 6, 6, 5, (.int .u8)⟩, ⟨.slot 20, 20, 53, (.st 53)⟩]⟩, [.oslc 6, .oslc 20, .t (.int .i64), .t (.int .i64)], [.row 5 (.int .u8), .row 53 (.st 53)]⟩

noncomputable def sched_Bytes_o6 : List Out := [⟨.exit 0, ⟨⟨[6], [], [⟨.slot 6, 6, 5, (.int .u8)⟩]⟩, [.oslc 6], [.row 5 (.int .u8)]⟩⟩]

noncomputable def sched_Bytes_b6 : Code := (nthLoop (bodyOf Tryd.f15) 0)

noncomputable def sched_Bytes_L6 : Nat → Option (Lift.Loop U) := fun n => none

noncomputable def sched_Bytes_rec6 (rec : Int → Int → List (Int) → List (Run) → Option ((List (Int)))) : List (TV U) → Option ((List (Int)))
  | [⟨(.int .i64), a0⟩, ⟨(.int .i64), a1⟩, ⟨(.slc (.int .u8)), a2⟩, ⟨(.slc (.st 53)), a3⟩] => rec a0 a1 a2 a3
  | _ => none

noncomputable def sched_Bytes_enc6 : Nat → List (TV U) → Option ((List (Int)))
  | 0, [⟨(.slc (.int .u8)), a0⟩] => some a0
  | _, _ => none

noncomputable def sched_Bytes_dec6 : (List (Int)) → Nat × List (TV U) := fun x => (0, [⟨(.slc (.int .u8)), x⟩])

noncomputable def sched_Bytes_tr6 : (List (Int)) → Tr (Nat × List (TV U)) := fun r => (fun x => .ret (0, [⟨(.slc (.int .u8)), x⟩])) r

noncomputable def sched_Bytes_lp6 : Lift.Loop U := ⟨sched_Bytes_sh6, sched_Bytes_o6, fun ls => match ls with | [⟨(.int .i64), a0⟩, ⟨(.int .i64), a1⟩, ⟨(.slc (.int .u8)), a2⟩, ⟨(.slc (.st 53)), a3⟩] => .get (sched_Bytes_l6 a0 a1 a2 a3) sched_Bytes_tr6 | _ => .fail⟩

theorem sched_Bytes_E6 (rec : Int → Int → List (Int) → List (Run) → Option ((List (Int)))) (a0 : Int) (a1 : Int) (a2 : List (Int)) (a3 : List (Run)) : (Kit.withModes kk (modesOf ms13)).turn Tryd.f15.ntmps sched_Bytes_L6 sched_Bytes_sh6 sched_Bytes_o6 sched_Bytes_b6 [⟨(.int .i64), a0⟩, ⟨(.int .i64), a1⟩, ⟨(.slc (.int .u8)), a2⟩, ⟨(.slc (.st 53)), a3⟩] (sched_Bytes_rec6 rec) sched_Bytes_enc6 = sched_Bytes_t6 rec a0 a1 a2 a3 := by kernel_rfl

theorem sched_Bytes_ok6 : ∀ ls j rs, (sched_Bytes_lp6.sum ls).val = some (j, rs) → RoundPost kk env0 Tryd.f15.ntmps sched_Bytes_b6 sched_Bytes_lp6.sh sched_Bytes_lp6.outs ls j rs := by
  have inner : LoopsOk (Kit.withModes kk (modesOf ms13)) env0 Tryd.f15.ntmps sched_Bytes_L6 sched_Bytes_b6 := by
    exact loopsOk_of (bs := []) (by kernel_rfl) trivial
  have key : ∀ n a0 a1 a2 a3 r j rs, sched_Bytes_i6 n a0 a1 a2 a3 = some r → sched_Bytes_dec6 r = (j, rs) → RoundPost kk env0 Tryd.f15.ntmps sched_Bytes_b6 sched_Bytes_sh6 sched_Bytes_o6 [⟨(.int .i64), a0⟩, ⟨(.int .i64), a1⟩, ⟨(.slc (.int .u8)), a2⟩, ⟨(.slc (.st 53)), a3⟩] j rs := by
    intro n
    induction n with
    | zero => intro a0 a1 a2 a3 r j rs h; cases h
    | succ n ih =>
      intro a0 a1 a2 a3 r j rs h hd
      refine RoundPost.modes.1 (turn_sound (kitOk_of eqOk mixed known13) inner ((sched_Bytes_E6 (sched_Bytes_i6 n) a0 a1 a2 a3).trans h) (fun q hq => RoundPost.modes.2 ?_) ?_)
      · unfold sched_Bytes_rec6 at hq
        split at hq
        · exact ih _ _ _ _ r j rs hq hd
        · cases hq
      · intro i qs he
        unfold sched_Bytes_enc6 at he
        split at he <;> cases he <;> (cases hd; exact ⟨rfl, rfl⟩)
  intro ls j rs h
  simp only [sched_Bytes_lp6] at h
  split at h
  · obtain ⟨r, hr, h⟩ := Tr.get_val h
    rw [sched_Bytes_l6, sealF_eq] at hr
    refine key fuel _ _ _ _ r j rs hr ?_
    exact Option.some.inj h
  · cases h

noncomputable def sched_Bytes_sh : StSh := ⟨⟨[0], [], []⟩, [.t (.slc (.int .i64))], []⟩

noncomputable def sched_Bytes_os : List StSh := [⟨⟨[0, 1], [], [⟨.slot 0, 100000, 5, (.int .u8)⟩]⟩, [.oslc 100000, .t (.int .i64)], [.row 5 (.int .u8)]⟩]

noncomputable def sched_Bytes_L : Nat → Option (Lift.Loop U) := fun n => bif Nat.beq n 6 then some sched_Bytes_lp6 else none

noncomputable def sched_Bytes_enc : Nat → List (TV U) → Option (Int × (List (Int)))
  | 0, [⟨(.int .i64), a0⟩, ⟨(.slc (.int .u8)), a1⟩] => some (a0, a1)
  | _, _ => none

noncomputable def sched_Bytes_dec : Int × (List (Int)) → Nat × List (TV U) := fun x => (0, [⟨(.int .i64), x.1⟩, ⟨(.slc (.int .u8)), x.2⟩])

noncomputable def sched_Bytes_tr : Int × (List (Int)) → Tr (Nat × List (TV U)) := fun r => (fun x => .ret (0, [⟨(.int .i64), x.1⟩, ⟨(.slc (.int .u8)), x.2⟩])) r

noncomputable def sched_Bytes_md : Mode U := ⟨sched_Bytes_sh, [], sched_Bytes_os, fun ls => match ls with | [⟨(.slc (.int .i64)), a0⟩] => .get (sched_Bytes a0) sched_Bytes_tr | _ => .fail⟩

theorem sched_Bytes_E (a0 : List (Int)) : (Kit.withModes kk (modesOf ms13)).fnEval sched_Bytes_L Tryd.f15 sched_Bytes_sh sched_Bytes_os [⟨(.slc (.int .i64)), a0⟩] sched_Bytes_enc = sched_Bytes_f a0 := by kernel_rfl

theorem sched_Bytes_post : ∀ ls j rs, (sched_Bytes_md.sum ls).val = some (j, rs) → FnPost kk env0 15 sched_Bytes_sh sched_Bytes_os ls j rs := by
  have inner : LoopsOk (Kit.withModes kk (modesOf ms13)) env0 Tryd.f15.ntmps sched_Bytes_L (bodyOf Tryd.f15) := by
    exact loopsOk_of (bs := [sched_Bytes_b6]) (by kernel_rfl) ⟨.inr ⟨_, by kernel_rfl, LoopOk.of_round sched_Bytes_ok6⟩, trivial⟩
  intro ls j rs h
  simp only [sched_Bytes_md] at h
  split at h
  · obtain ⟨r, hr, h⟩ := Tr.get_val h
    rw [sched_Bytes, sealF_eq] at hr
    have hd : sched_Bytes_dec r = (j, rs) := by
      exact Option.some.inj h
    refine FnPost.modes.1 (fn_sound (kitOk_of eqOk mixed known13) (by kernel_rfl) inner ((sched_Bytes_E _).trans hr) ?_)
    intro i qs he
    unfold sched_Bytes_enc at he
    split at he <;> cases he <;> (cases hd; exact ⟨rfl, rfl⟩)
  · cases h

noncomputable def ms14 : List (FuncId × Mode U) := (15, sched_Bytes_md) :: ms13

theorem known14 : Known kk env0 (modesOf ms14) := known_cons (by kernel_rfl) sched_Bytes_post known13

end Lift.E2

