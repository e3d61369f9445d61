/-
  DERIVED. The comparison of two findings; the library's modes hold. Conditions: as each theorem says.
-/
import Derived.Test.YtjllbkgpjcomcaaDoorFound
import Derived.Test.YtjllbkgpjcomcaaDoorProg
import Derived.WalkKit
import Derived.OwnWalkIn
import Derived.TacticsInMore
import Derived.LoopNIn
import Derived.LoopIn
import Derived.Shelf.Abstract
import Derived.Below
import Derived.RegionIn
set_option linter.unusedVariables false
set_option linter.unusedSimpArgs false
set_option linter.unusedSectionVars false
/- racetreeref21.Compare. -/
namespace Go.Proofs
open Go.RowKit Go.Shelf Lift.Fn
attribute [local go_sem] Oper.semAt_some

set_option maxRecDepth 100000 in
set_option maxHeartbeats 4000000 in
theorem Tryd.Compare_in (n : Nat) (x0 x1 x2 x3 y0 y1 y2 y3 : Int) (vx vy : Value) (w : World) :
    CallsIn Fence.wide n Tryd.prog 53 #[.agg #[.int .i64 x0, .int .i64 x1, .int .i64 x2, .int .i64 x3, vx], .agg #[.int .i64 y0, .int .i64 y1, .int .i64 y2, .int .i64 y3, vy]] w fun e w' => e = .returned (.int .i64 (cmp4 x0 x1 x2 x3 y0 y1 y2 y3)) ∧ Below w.heap.size w w' := by
  refine callsIn_of_wp Tryd.func53 rfl trivial ?_ rfl
  simp only [Tryd.ntmps53, List.size_toArray, List.length_cons, List.length_nil, Nat.reduceAdd, Nat.reduceSub, Array.replicate_succ, Array.replicate_zero, List.push_toArray, List.append_toArray, List.nil_append, List.cons_append]
  gi_wp2
  refine wpIn_loop_rounds 5 ?_
  rw [roundsIn_succ]
  gi_wp2
  gi_region
  gi_wp2
  · go_ret
    refine ⟨congrArg (fun r => Ending.returned (Value.int .i64 r)) (?_ : (-1 : Int) = _), ?_⟩
    · unfold cmp4; (repeat' split) <;> omega
    · repeat (first | exact Below.refl _ _ | refine Below.drew ?_ | refine Below.alloc ?_ (by first | exact Nat.le_refl _ | (simp; done) | (simp; omega)) _)
  · gi_region
    gi_wp2
    · go_ret
      refine ⟨congrArg (fun r => Ending.returned (Value.int .i64 r)) (?_ : (1 : Int) = _), ?_⟩
      · unfold cmp4; (repeat' split) <;> omega
      · repeat (first | exact Below.refl _ _ | refine Below.drew ?_ | refine Below.alloc ?_ (by first | exact Nat.le_refl _ | (simp; done) | (simp; omega)) _)
    · skip
      rw [roundsIn_succ]
      gi_wp2
      gi_region
      gi_wp2
      · go_ret
        refine ⟨congrArg (fun r => Ending.returned (Value.int .i64 r)) (?_ : (-1 : Int) = _), ?_⟩
        · unfold cmp4; (repeat' split) <;> omega
        · repeat (first | exact Below.refl _ _ | refine Below.drew ?_ | refine Below.alloc ?_ (by first | exact Nat.le_refl _ | (simp; done) | (simp; omega)) _)
      · gi_region
        gi_wp2
        · go_ret
          refine ⟨congrArg (fun r => Ending.returned (Value.int .i64 r)) (?_ : (1 : Int) = _), ?_⟩
          · unfold cmp4; (repeat' split) <;> omega
          · repeat (first | exact Below.refl _ _ | refine Below.drew ?_ | refine Below.alloc ?_ (by first | exact Nat.le_refl _ | (simp; done) | (simp; omega)) _)
        · skip
          rw [roundsIn_succ]
          gi_wp2
          gi_region
          gi_wp2
          · go_ret
            refine ⟨congrArg (fun r => Ending.returned (Value.int .i64 r)) (?_ : (-1 : Int) = _), ?_⟩
            · unfold cmp4; (repeat' split) <;> omega
            · repeat (first | exact Below.refl _ _ | refine Below.drew ?_ | refine Below.alloc ?_ (by first | exact Nat.le_refl _ | (simp; done) | (simp; omega)) _)
          · gi_region
            gi_wp2
            · go_ret
              refine ⟨congrArg (fun r => Ending.returned (Value.int .i64 r)) (?_ : (1 : Int) = _), ?_⟩
              · unfold cmp4; (repeat' split) <;> omega
              · repeat (first | exact Below.refl _ _ | refine Below.drew ?_ | refine Below.alloc ?_ (by first | exact Nat.le_refl _ | (simp; done) | (simp; omega)) _)
            · skip
              rw [roundsIn_succ]
              gi_wp2
              gi_region
              gi_wp2
              · go_ret
                refine ⟨congrArg (fun r => Ending.returned (Value.int .i64 r)) (?_ : (-1 : Int) = _), ?_⟩
                · unfold cmp4; (repeat' split) <;> omega
                · repeat (first | exact Below.refl _ _ | refine Below.drew ?_ | refine Below.alloc ?_ (by first | exact Nat.le_refl _ | (simp; done) | (simp; omega)) _)
              · gi_region
                gi_wp2
                · go_ret
                  refine ⟨congrArg (fun r => Ending.returned (Value.int .i64 r)) (?_ : (1 : Int) = _), ?_⟩
                  · unfold cmp4; (repeat' split) <;> omega
                  · repeat (first | exact Below.refl _ _ | refine Below.drew ?_ | refine Below.alloc ?_ (by first | exact Nat.le_refl _ | (simp; done) | (simp; omega)) _)
                · skip
                  rw [roundsIn_succ]
                  gi_wp2
                  go_ret
                  refine ⟨congrArg (fun r => Ending.returned (Value.int .i64 r)) (?_ : (0 : Int) = _), ?_⟩
                  · unfold cmp4; (repeat' split) <;> omega
                  · repeat (first | exact Below.refl _ _ | refine Below.drew ?_ | refine Below.alloc ?_ (by first | exact Nat.le_refl _ | (simp; done) | (simp; omega)) _)
end Go.Proofs

/- racetreeref21.Compare: its contract. -/
namespace Lift.D2
open Go Go.RowKit Go.Proofs Lift Lift.Fn

theorem finding_value {G : Nat → Option Obj} {x : Finding} {v : Value} (h : TRel uni G ⟨.st 30, x⟩ v) : ∃ r, v = .agg #[.int .i64 x.kind, .int .i64 x.thread, .int .i64 x.other, .int .i64 x.what, r] := by
  obtain ⟨vs, rfl, h2⟩ := h.st_inv
  have h3 : TsRel uni G [⟨.int .i64, x.kind⟩, ⟨.int .i64, x.thread⟩, ⟨.int .i64, x.other⟩, ⟨.int .i64, x.what⟩, ⟨.slc (.int .i64), x.schedule⟩] vs := h2
  match vs, h3 with
  | _, .cons _ _ v1 _ p1 (.cons _ _ v2 _ p2 (.cons _ _ v3 _ p3 (.cons _ _ v4 _ p4 (.cons _ _ v5 _ p5 .nil)))) =>
    rw [p1.int_inv, p2.int_inv, p3.int_inv, p4.int_inv]
    exact ⟨v5, rfl⟩

theorem compare_any (V : Env) (a b : Finding) {r : Int} (hr : racetreeref21_Compare_f a b = some r) :
    FnPost kk V 53 ⟨⟨[0, 1], [], []⟩, [.t (.st 30), .t (.st 30)], []⟩ [⟨⟨[0], [], []⟩, [.t (.int .i64)], []⟩] [⟨.st 30, a⟩, ⟨.st 30, b⟩] 0 [⟨.int .i64, r⟩] := by
  cases hr
  refine post_plain rfl rfl rfl rfl rfl ?_
  intro G w args _ _ _ hA
  cases hA with
  | cons _ _ v1 r1 p1 hA =>
  cases hA with
  | cons _ _ v2 r2 p2 hA =>
  cases hA
  obtain ⟨x, rfl⟩ := finding_value p1
  obtain ⟨y, rfl⟩ := finding_value p2
  refine (callsIn_wide.1 (Go.Proofs.Tryd.Compare_in 0 _ _ _ _ _ _ _ _ x y w)).mono ?_
  rintro e w' ⟨rfl, hb⟩
  exact ⟨_, rfl, hb, .int _ _⟩
end Lift.D2

/- The library's modes hold of this program. -/
namespace Go.Proofs
open Go.Shelf Go.RowKit
def Tryd.laysCut_ren : Go.Shelf.Ren := ⟨fun | 145 => 28 | 220 => 46 | 219 => 58 | 217 => 65 | 225 => 66 | 224 => 67 | 267 => 68 | 266 => 78 | 314 => 79 | n => n, fun | 9 => 9 | 4 => 4 | 59 => 59 | 3 => 3 | 5 => 5 | 46 => 93 | 146 => 104 | 51 => 103 | n => n, fun | 1 => 0 | n => n⟩
theorem Tryd.laysCut : Go.Proofs.LaysM.n145 Tryd.prog Tryd.laysCut_ren where
  mixed := by kernel_rfl
  f145 := Tryd.func28.trans (congrArg some (by kernel_rfl))
  f217 := Tryd.func65.trans (congrArg some (by kernel_rfl))
  f219 := Tryd.func58.trans (congrArg some (by kernel_rfl))
  f220 := Tryd.func46.trans (congrArg some (by kernel_rfl))
  f224 := Tryd.func67.trans (congrArg some (by kernel_rfl))
  f225 := Tryd.func66.trans (congrArg some (by kernel_rfl))
  f266 := Tryd.func78.trans (congrArg some (by kernel_rfl))
  f267 := Tryd.func68.trans (congrArg some (by kernel_rfl))
  f314 := Tryd.func79.trans (congrArg some (by kernel_rfl))
  t3 := Tryd.underlying3
  a3 := Tryd.isAgg3
  z3 := Tryd.sizeOf3
  v3 := Tryd.zeroValue3
  t4 := Tryd.underlying4
  a4 := Tryd.isAgg4
  z4 := Tryd.sizeOf4
  v4 := Tryd.zeroValue4
  t5 := Tryd.underlying5
  a5 := Tryd.isAgg5
  z5 := Tryd.sizeOf5
  v5 := Tryd.zeroValue5
  t9 := Tryd.underlying9
  a9 := Tryd.isAgg9
  z9 := Tryd.sizeOf9
  v9 := Tryd.zeroValue9
  t46 := Tryd.underlying93
  a46 := Tryd.isAgg93
  z46 := Tryd.sizeOf93
  v46 := Tryd.zeroValue93
  t51 := Tryd.underlying103
  a51 := Tryd.isAgg103
  z51 := Tryd.sizeOf103
  v51 := Tryd.zeroValue103
  t59 := Tryd.underlying59
  a59 := Tryd.isAgg59
  z59 := Tryd.sizeOf59
  v59 := Tryd.zeroValue59
  t146 := Tryd.underlying104
  a146 := Tryd.isAgg104
  z146 := Tryd.sizeOf104
  v146 := Tryd.zeroValue104
  g1 := by kernel_rfl
  i3 := by kernel_rfl
  i4 := by kernel_rfl
  i5 := by kernel_rfl
  i9 := by kernel_rfl
  i46 := by kernel_rfl
  i51 := by kernel_rfl
  i59 := by kernel_rfl
  i146 := by kernel_rfl
  m1 := by kernel_rfl
  s1_3 := fun w h => Go.Proofs.cell_of_shapedOpen_int (zero := #[.int .i64 0]) (t := 3) h (of_decide_eq_true (by kernel_rfl)) (by kernel_rfl) rfl (by kernel_rfl) (by kernel_rfl) Tryd.underlying3

def Tryd.laysSplit_ren : Go.Shelf.Ren := ⟨fun | 146 => 29 | 221 => 47 | 268 => 59 | 138 => 60 | 143 => 61 | 195 => 69 | 197 => 70 | 218 => 71 | 219 => 58 | 260 => 80 | 217 => 65 | 225 => 66 | 224 => 67 | 267 => 68 | 266 => 78 | 314 => 79 | n => n, fun | 9 => 9 | 31 => 31 | 3 => 3 | 4 => 4 | 0 => 0 | 105 => 94 | 21 => 21 | 5 => 5 | 46 => 93 | 119 => 110 | 139 => 113 | 138 => 112 | 146 => 104 | 51 => 103 | n => n, fun | 1 => 0 | 3 => 2 | 4 => 3 | n => n⟩
theorem Tryd.laysSplit : Go.Proofs.LaysM.n146 Tryd.prog Tryd.laysSplit_ren where
  mixed := by kernel_rfl
  f138 := Tryd.func60.trans (congrArg some (by kernel_rfl))
  f143 := Tryd.func61.trans (congrArg some (by kernel_rfl))
  f146 := Tryd.func29.trans (congrArg some (by kernel_rfl))
  f195 := Tryd.func69.trans (congrArg some (by kernel_rfl))
  f197 := Tryd.func70.trans (congrArg some (by kernel_rfl))
  f217 := Tryd.func65.trans (congrArg some (by kernel_rfl))
  f218 := Tryd.func71.trans (congrArg some (by kernel_rfl))
  f219 := Tryd.func58.trans (congrArg some (by kernel_rfl))
  f221 := Tryd.func47.trans (congrArg some (by kernel_rfl))
  f224 := Tryd.func67.trans (congrArg some (by kernel_rfl))
  f225 := Tryd.func66.trans (congrArg some (by kernel_rfl))
  f260 := Tryd.func80.trans (congrArg some (by kernel_rfl))
  f266 := Tryd.func78.trans (congrArg some (by kernel_rfl))
  f267 := Tryd.func68.trans (congrArg some (by kernel_rfl))
  f268 := Tryd.func59.trans (congrArg some (by kernel_rfl))
  f314 := Tryd.func79.trans (congrArg some (by kernel_rfl))
  t0 := Tryd.underlying0
  a0 := Tryd.isAgg0
  z0 := Tryd.sizeOf0
  v0 := Tryd.zeroValue0
  t3 := Tryd.underlying3
  a3 := Tryd.isAgg3
  z3 := Tryd.sizeOf3
  v3 := Tryd.zeroValue3
  t4 := Tryd.underlying4
  a4 := Tryd.isAgg4
  z4 := Tryd.sizeOf4
  v4 := Tryd.zeroValue4
  t5 := Tryd.underlying5
  a5 := Tryd.isAgg5
  z5 := Tryd.sizeOf5
  v5 := Tryd.zeroValue5
  t9 := Tryd.underlying9
  a9 := Tryd.isAgg9
  z9 := Tryd.sizeOf9
  v9 := Tryd.zeroValue9
  t21 := Tryd.underlying21
  a21 := Tryd.isAgg21
  z21 := Tryd.sizeOf21
  v21 := Tryd.zeroValue21
  t31 := Tryd.underlying31
  a31 := Tryd.isAgg31
  z31 := Tryd.sizeOf31
  v31 := Tryd.zeroValue31
  t46 := Tryd.underlying93
  a46 := Tryd.isAgg93
  z46 := Tryd.sizeOf93
  v46 := Tryd.zeroValue93
  t51 := Tryd.underlying103
  a51 := Tryd.isAgg103
  z51 := Tryd.sizeOf103
  v51 := Tryd.zeroValue103
  t105 := Tryd.underlying94
  a105 := Tryd.isAgg94
  z105 := Tryd.sizeOf94
  v105 := Tryd.zeroValue94
  t119 := Tryd.underlying110
  a119 := Tryd.isAgg110
  z119 := Tryd.sizeOf110
  t138 := Tryd.underlying112
  a138 := Tryd.isAgg112
  z138 := Tryd.sizeOf112
  v138 := Tryd.zeroValue112
  t139 := Tryd.underlying113
  a139 := Tryd.isAgg113
  z139 := Tryd.sizeOf113
  v139 := Tryd.zeroValue113
  t146 := Tryd.underlying104
  a146 := Tryd.isAgg104
  z146 := Tryd.sizeOf104
  v146 := Tryd.zeroValue104
  g1 := by kernel_rfl
  g3 := by kernel_rfl
  g4 := by kernel_rfl
  i0 := by kernel_rfl
  i3 := by kernel_rfl
  i4 := by kernel_rfl
  i5 := by kernel_rfl
  i9 := by kernel_rfl
  i21 := by kernel_rfl
  i31 := by kernel_rfl
  i46 := by kernel_rfl
  i51 := by kernel_rfl
  i105 := by kernel_rfl
  i138 := by kernel_rfl
  i139 := by kernel_rfl
  i146 := by kernel_rfl
  m1 := by kernel_rfl
  s1_3 := fun w h => Go.Proofs.cell_of_shapedOpen_int (zero := #[.int .i64 0]) (t := 3) h (of_decide_eq_true (by kernel_rfl)) (by kernel_rfl) rfl (by kernel_rfl) (by kernel_rfl) Tryd.underlying3
  m3 := by kernel_rfl
  m4 := by kernel_rfl

end Go.Proofs
namespace Lift.D3
open Go Go.RowKit Go.Proofs Lift Lift.Fn
open Lift.D2 (U kk uni cells ctys make tyOf eqOk mixed strings_Join_md strconv_Itoa_md strings_Builder_copyCheck_md strings_Builder_String_md)

theorem cell_same {w w' : World} {n : Nat} (h : ∀ k, k < n → w'.heap[k]? = w.heap[k]?) {b o : Nat} (hb : b < n) : w'.cell? ⟨b, o, none⟩ = w.cell? ⟨b, o, none⟩ := by
  unfold World.cell?
  rw [h b hb]

def isErr (v : Value) : Prop := v = .nilIface ∨ ∃ te pe, v = .iface te pe

/-- What the library's functions read of the package variables. -/
def globs (w : World) : Prop := (∃ m, w.cell? ⟨0, 0, none⟩ = some (.int .i64 m)) ∧ True

theorem globs_stays (w w' : World) (h : globs w) (hs : ∀ k, k < 1 → w'.heap[k]? = w.heap[k]?) : globs w' := by
  refine ⟨?_, trivial⟩
  · obtain ⟨m, h3⟩ := h.1
    exact ⟨m, by rw [cell_same hs (by omega)]; exact h3⟩

@[reducible] def env0 : Env := ⟨globs, 1, fun w w' h hs _ _ _ => globs_stays w w' h hs⟩

theorem known0 : Known kk env0 (modesOf ms0) := known_nil

theorem strings_Cut_post : ∀ ls j rs, (strings_Cut_md.sum ls).val = some (j, rs) → FnPost kk env0 28 strings_Cut_md.sh strings_Cut_md.outs ls j rs := by
  intro ls j rs h
  simp only [strings_Cut_md] at h
  split at h
  · obtain ⟨r, hr, h⟩ := Tr.get_val h
    rw [strings_Cut, sealF_eq, strings_Cut_f, cond_eq_ite, Option.ite_none_right_eq_some, decide_eq_true_eq] at hr
    obtain ⟨hc, hr⟩ := hr
    cases hr
    cases h
    exact cut_post (K := kk) (V := env0) (ρ := Tryd.laysCut_ren) ({ Tryd.laysCut with }) (fun w h => h.1) _ _ hc
  · cases h
theorem known1 : Known kk env0 (modesOf ms1) := known_cons (by kernel_rfl) strings_Cut_post known0

theorem strings_Split_post : ∀ ls j rs, (strings_Split_md.sum ls).val = some (j, rs) → FnPost kk env0 29 strings_Split_md.sh strings_Split_md.outs ls j rs := by
  intro ls j rs h
  simp only [strings_Split_md] at h
  split at h
  · obtain ⟨r, hr, h⟩ := Tr.get_val h
    rw [strings_Split, sealF_eq, strings_Split_f, cond_eq_ite, Option.ite_none_right_eq_some, decide_eq_true_eq] at hr
    obtain ⟨hc, hr⟩ := hr
    cases hr
    cases h
    exact split_post (K := kk) (V := env0) (ρ := Tryd.laysSplit_ren) ({ Tryd.laysSplit with }) (by kernel_rfl) (fun w h => h.1) _ _ hc.1 hc.2
  · cases h
theorem known2 : Known kk env0 (modesOf ms2) := known_cons (by kernel_rfl) strings_Split_post known1

theorem known3 : Known kk env0 (modesOf ms3) := known_cons (by kernel_rfl) (fun ls j rs h => Lift.D2.F.anyV (Lift.D2.strings_Join_post ls j rs h)) known2
theorem known4 : Known kk env0 (modesOf ms4) := known_cons (by kernel_rfl) (fun ls j rs h => Lift.D2.F.anyV (Lift.D2.strconv_Itoa_post ls j rs h)) known3
theorem report_found_post : ∀ ls j rs, (report_found_md.sum ls).val = some (j, rs) → FnPost kk env0 30 report_found_md.sh report_found_md.outs ls j rs := by
  intro ls j rs h
  simp only [report_found_md] at h
  split at h
  · obtain ⟨r, hr, h⟩ := Tr.get_val h
    rw [report_found, sealF_eq] at hr
    cases h
    exact Lift.D2.F.found_any _ _ hr
  · cases h
theorem known5 : Known kk env0 (modesOf ms5) := known_cons (by kernel_rfl) report_found_post known4
theorem racetreeref21_Compare_post : ∀ ls j rs, (racetreeref21_Compare_md.sum ls).val = some (j, rs) → FnPost kk env0 53 racetreeref21_Compare_md.sh racetreeref21_Compare_md.outs ls j rs := by
  intro ls j rs h
  simp only [racetreeref21_Compare_md] at h
  split at h
  · obtain ⟨r, hr, h⟩ := Tr.get_val h
    rw [racetreeref21_Compare, sealF_eq] at hr
    cases h
    exact Lift.D2.compare_any _ _ _ hr
  · cases h
theorem known6 : Known kk env0 (modesOf ms6) := known_cons (by kernel_rfl) racetreeref21_Compare_post known5
theorem known7 : Known kk env0 (modesOf ms7) := known_cons (by kernel_rfl) (fun ls j rs h => Lift.D2.F.anyV (Lift.D2.strings_Builder_copyCheck_post ls j rs h)) known6
theorem known8 : Known kk env0 (modesOf ms8) := known_cons (by kernel_rfl) (fun ls j rs h => Lift.D2.F.anyV (Lift.D2.strings_Builder_String_post ls j rs h)) known7
end Lift.D3

