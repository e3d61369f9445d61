/-
  DERIVED. A function's code, evaluated: the values, what they are in memory, the operations' laws. Conditions: none.
-/
import Derived.Test.YthbhphfmnlchoaaGreatDoorLiftAA
set_option linter.unusedVariables false
set_option linter.unusedSimpArgs false
set_option linter.unusedSectionVars false
namespace Lift
open Go Go.RowKit
theorem fold_splice (off : Nat) (l : List Value) (cs : Array Value) (h : off + l.length ≤ cs.size) :
    ((l.zipIdx 0).foldl (fun cs (x : Value × Nat) => cs.setIfInBounds (off + x.2) x.1) cs).toList = cs.toList.take off ++ l ++ cs.toList.drop (off + l.length) := by
  obtain ⟨g1, g2⟩ := Go.Great.foldl_set off l 0 cs
  apply List.ext_getElem?
  intro k
  have := g2 k
  simp only [Nat.add_zero] at this
  rw [Array.getElem?_toList, this]
  simp only [List.getElem?_append, List.getElem?_take, List.length_append, List.length_take, Array.length_toList, List.getElem?_drop, Array.getElem?_toList]
  by_cases c1 : k < off
  · simp (disch := omega) only [if_pos, if_neg]
  · by_cases c2 : k < off + l.length
    · simp (disch := omega) only [if_pos, if_neg]
      congr 1
      omega
    · simp (disch := omega) only [if_neg]
      congr 1
      omega
theorem places_get {P : Program} : ∀ (fs : List Field), (fs.all fun f => (szT P f.type).isSome) = true → ∃ places, fs.mapM (fun f => (P.info? f.type).map fun i => (f.offset, i.size)) = some places ∧
    ∀ (i : Nat) (f : Field) (n : Nat), fs[i]? = some f → szT P f.type = some n → places[i]? = some (f.offset, n)
  | [], _ => ⟨[], by simp, by simp⟩
  | f :: fs, h => by
    simp only [List.all_cons, Bool.and_eq_true] at h
    obtain ⟨h1, h2⟩ := h
    obtain ⟨pl, h3, h4⟩ := places_get fs h2
    obtain ⟨n0, hn0⟩ := Option.isSome_iff_exists.1 h1
    obtain ⟨ti, hi, hsz⟩ := szT_some hn0
    refine ⟨(f.offset, ti.size) :: pl, by simp [List.mapM_cons, hi, h3], fun i g n hg hn => ?_⟩
    cases i with
    | zero => simp at hg; subst hg; rw [hn0] at hn; cases hn; simp [hsz]
    | succ i => simp at hg; simpa using h4 i g n hg hn
section
variable {K : Kit} {V : Env} {B : Base} {R : Type}
variable {G G' : Nat → Option Obj} {S : Nat → Option (Ob K.u.U)} {st : List (Nat × Ob K.u.U)} {β : Nat → Gh} {w w' : World} {c : PV K.u.U → Ups K.u.U → Option R} {r : R} {N : Value → World → Prop}
theorem zipEv_sound {tm : Nat → Option (PV K.u.U)} {a : Act} (ht : TmOk K G S β tm a) : ∀ {l : List (Nat × Operand)} {qs : List (Nat × PV K.u.U)}, zipEv K tm l = some qs →
    qs.map (·.1) = l.map (·.1) ∧ PsRel K G S β (qs.map (·.2)) ((l.map fun x => (x.1, a.eval x.2)).map (·.2)) ∧ (l.map fun x => (x.1, a.eval x.2)).map (·.1) = l.map (·.1)
  | [], qs, h => by simp [zipEv] at h; subst h; simp [PsRel]
  | (i, x) :: l, qs, h => by
    simp only [zipEv, Option.bind_eq_some_iff] at h
    obtain ⟨p, h1, ps, h2, h3⟩ := h
    simp at h3
    subst h3
    obtain ⟨i1, i2, i3⟩ := zipEv_sound ht h2
    refine ⟨by simp [i1], ?_, by simp⟩
    simp only [List.map_cons, PsRel]
    exact ⟨_, _, rfl, ev_sound ht h1, i2⟩
theorem fill_parts {fs : Array Field} {places : List (Nat × Nat)} (hpl : ∀ (i : Nat) (f : Field) (n : Nat), fs[i]? = some f → szT K.P f.type = some n → places[i]? = some (f.offset, n)) :
    ∀ (qs : List (Nat × PV K.u.U)) (vs : List (Nat × Value)) (cells : List (PV K.u.U)) (cs : Array Value) {out : List (PV K.u.U)}, vs.map (·.1) = qs.map (·.1) → PsRel K G S β (qs.map (·.2)) (vs.map (·.2)) →
      PsRel K G S β cells cs.toList → (∀ x ∈ cs.toList, x.oneCell' = true) → K.parts fs cells qs = some out →
      ∃ r : Array Value, Instr.fill (places.toArray[·]?) cs vs = some r ∧ PsRel K G S β out r.toList ∧ ∀ x ∈ r.toList, x.oneCell' = true
  | [], [], cells, cs, out, _, _, hc, h1, h => by simp [Kit.parts] at h; subst h; exact ⟨cs, rfl, hc, h1⟩
  | [], _ :: _, _, _, _, hm, _, _, _, _ => by simp at hm
  | _ :: _, [], _, _, _, hm, _, _, _, _ => by simp at hm
  | (i, p) :: qs, (j, v) :: vs, cells, cs, out, hm, hp, hc, h1, h => by
    simp only [List.map_cons, List.cons.injEq] at hm
    obtain ⟨rfl, hm⟩ := hm
    simp only [List.map_cons, PsRel] at hp
    obtain ⟨u, rr, hur, hpu, hpr⟩ := hp
    simp only [List.cons.injEq] at hur
    obtain ⟨rfl, rfl⟩ := hur
    simp only [Kit.parts, Option.bind_eq_some_iff] at h
    obtain ⟨f, hf, n, hn, ps, hps, h⟩ := h
    split at h
    · rename_i hl
      simp only [Option.bind_eq_some_iff] at h
      obtain ⟨cells', hsp, h⟩ := h
      obtain ⟨hsl, rfl⟩ := splice_some hsp
      obtain ⟨hpc, hp1⟩ := hpu.cellsOf hps
      have l1 := hpc.length
      have l2 := hc.length
      simp only [Array.length_toList] at l1 l2
      have hfold := fold_splice f.offset v.cells.toList cs (by simp; omega)
      obtain ⟨r, hr1, hr2, hr3⟩ := fill_parts hpl qs vs _ ((v.cells.toList.zipIdx 0).foldl (fun cs (x : Value × Nat) => cs.setIfInBounds (f.offset + x.2) x.1) cs) hm hpr
        (by rw [hfold, ← hpc.length]; exact ((hc.take f.offset).append hpc).append (hc.drop _))
        (by
          rw [hfold]
          intro x hx
          simp only [List.mem_append] at hx
          rcases hx with (hx | hx) | hx
          · exact h1 x (List.mem_of_mem_take hx)
          · exact hp1 x hx
          · exact h1 x (List.mem_of_mem_drop hx)) h
      refine ⟨r, ?_, hr2, hr3⟩
      unfold Instr.fill
      have hpl' : places.toArray[j]? = some (f.offset, n) := by simpa using hpl j f n hf hn
      simp only [hpl']
      rw [if_neg (by simp; omega), ← hr1]
      congr 1
      rw [← Array.foldl_toList, Array.toList_zipIdx]
    · cases h
theorem build_sound (hN : Next K V B G st β c r N) (hI : Inv K V B G (look st) β w) {tm : Nat → Option (PV K.u.U)} {a : Act} (ht : TmOk K G (look st) β tm a) {T : TypeId} {ps : Array (Nat × Operand)} {fs : Array Field}
    (hu : K.P.underlying T = some (.struct fs)) (hall : (fs.toList.all fun f => (szT K.P f.type).isSome) = true) {qs : List (Nat × PV K.u.U)} {vs : List Value} {zs cs : List (PV K.u.U)}
    (hq : zipEv K tm ps.toList = some qs) (hz : zeroT K.P T = some vs) (hzs : ofVals vs = some zs) (hcs : K.parts fs zs qs = some cs) (h : c (K.packB T cs) [] = some r) :
    ∃ y, (Instr.build T (ps.map fun (i, x) => (i, a.eval x))).run K.P w = .ok y w ∧ N y w := by
  obtain ⟨i1, i2, i3⟩ := zipEv_sound ht hq
  obtain ⟨ti, z, hi, hz1, hz2⟩ := zeroT_some hz
  obtain ⟨hzr, hz1c⟩ := ofVals_sound (K := K) (G := G) (S := look st) (β := β) hzs
  rw [← hz2] at hzr hz1c
  obtain ⟨places, hp1, hp2⟩ := places_get (P := K.P) fs.toList hall
  obtain ⟨rr, hr1, hr2, hr3⟩ := fill_parts (K := K) (G := G) (S := look st) (β := β) (fs := fs) (places := places) (fun i f n hf hn => hp2 i f n (by simpa using hf) hn) qs (ps.toList.map fun x => (x.1, a.eval x.2)) zs z.cells (i3.trans i1.symm) i2 hzr hz1c hcs
  have hb : K.P.built T (ps.map fun (i, x) => (i, a.eval x)).toList = some rr := by
    unfold Program.built
    simp only [hi, hu, hz1, hp1]
    rw [Array.toList_map]
    exact hr1
  refine ⟨_, run_build w T _ rr hb, hN.plain hI h ?_⟩
  have := packB_sound (K := K) (T := T) hr2 hr3
  simpa using this
theorem unTV_some {U : Nat → Type} {e : Ty} : ∀ {vs : List (TV U)} {l : List (e.den U)}, unTV e vs = some l → vs = l.map (TV.mk e)
  | [], l, h => by simp [unTV] at h; subst h; rfl
  | v :: vs, l, h => by
    simp only [unTV, Option.bind_eq_some_iff] at h
    obtain ⟨x, h1, xs, h2, h3⟩ := h
    simp at h3
    subst h3
    rw [asT_some h1, unTV_some h2]
    rfl
theorem made_rowH (hN : Next K V B G st β c r N) (hI : Inv K V B G (look st) β w) {d : Nat} {E : TypeId} {e : Ty} {l : List (e.den K.u.U)} {vals : List Value} {cs : Array Value} {ids F : List Nat} (hd : look st d = none)
    (h : c (.oslc d 0) ((d, .row E 0 e l) :: deads K.u.U ids) = some r) (hT : HsRel K.u G (fun k => w.heap[k]?) F (l.map (TV.mk e)) vals) (hF : ∀ b ∈ F, OwnedBy st β ids b) (hcs : cs.toList = vals.flatMap fun x => x.cells.toList) (hm : l.length ≤ maxLen) :
    N (.slice (some ⟨w.heap.size, 0, none⟩) l.length l.length) (w.alloc (.cells cs E)) := by
  have hl : l.length = vals.length := by simpa using hT.length
  have hfl := flat_len vals hT.sizes
  have hFl : ∀ b ∈ F, b < w.heap.size := fun b hb => by
    obtain ⟨o, ho⟩ := hT.lies b hb
    have ho : w.heap[b]? = some o := ho
    exact (Array.getElem?_eq_some_iff.1 ho).1
  have hc : Comp K G G (look st) β (look ((d, .row E 0 e l) :: (deads K.u.U ids ++ st))) (upd β d ⟨.slice (some ⟨w.heap.size, 0, none⟩) l.length l.length, F⟩) := Comp.consD (fun _ _ h => h) (fun ob0 h0 => by rw [hd] at h0; cases h0)
  have eu : upd β d ⟨.slice (some ⟨w.heap.size, 0, none⟩) l.length l.length, F⟩ d = ⟨.slice (some ⟨w.heap.size, 0, none⟩) l.length l.length, F⟩ := by simp [upd]
  refine hN _ ((d, _) :: deads K.u.U ids) _ _ G _ h (hI.oneD (alloc_grown (row := none)) (fun k hk => by cases hk) (fun _ b hb => ?_) hc (fun hp => by cases hp) ?_) hc ?_
  · rcases hb with hb | ⟨_, hb⟩
    · exact .inr (by simp [blkOf] at hb; omega)
    · obtain ⟨j, ob, j1, j2⟩ := hF b hb
      exact .inl ⟨j, ob, .inr j1, j2⟩
  · show ∃ vals, _
    rw [eu]
    refine ⟨vals, hT.over (fun _ _ h => h) (fun b hb => heap_alloc_old w _ (hFl b hb)), ⟨by rw [hfl, hl], .inr ⟨w.heap.size, l.length, cs, _, rfl, okFz_zero _, heap_alloc_new _ _, Nat.le_refl _, hm, ?_, ?_⟩⟩, fun b hb hbv => ?_⟩
    · rw [← Array.length_toList, hcs, hfl, hl]; exact Nat.le_refl _
    · rw [hcs, hl, ← hfl, List.take_length]
    · simp [blkOf] at hbv
      have := hFl b hb
      omega
  · simp only [PRel]
    exact ⟨rfl, _, look_here, Nat.le_refl _, fun _ _ => by simp [upd]⟩
theorem made_row (hN : Next K V B G st β c r N) (hI : Inv K V B G (look st) β w) {d : Nat} {E : TypeId} {e : Ty} {l : List (e.den K.u.U)} {vals : List Value} {cs : Array Value} (hd : look st d = none)
    (h : c (.oslc d 0) [(d, .row E 0 e l)] = some r) (hT : TsRel K.u G (l.map (TV.mk e)) vals) (hcs : cs.toList = vals.flatMap fun x => x.cells.toList) (hm : l.length ≤ maxLen) :
    N (.slice (some ⟨w.heap.size, 0, none⟩) l.length l.length) (w.alloc (.cells cs E)) :=
  made_rowH (ids := []) hN hI hd h (.ofTsL hT) (fun b hb => by cases hb) hcs hm
theorem zip_range {α β : Type} : ∀ (l : List (Nat × α)) (f : α → β) (k : Nat), l.map (·.1) = List.range' k l.length → (l.map fun x => (x.1, f x.2)) = ((l.map fun x => f x.2).zipIdx k).map fun x => (x.2, x.1)
  | [], _, _, _ => rfl
  | (i, x) :: l, f, k, h => by
    simp only [List.map_cons, List.length_cons, List.range'_succ, List.cons.injEq] at h
    obtain ⟨rfl, h⟩ := h
    simp only [List.map_cons, List.zipIdx_cons]
    rw [zip_range l f (i + 1) h]
theorem buildSlice_run {a : Act} {T E : TypeId} {i : TypeInfo} {n : Nat} {ps : Array (Nat × Operand)} (hu : K.P.underlying T = some (.slice E)) (hi : K.P.info? E = some i)
    (hs2 : 0 < i.size) (hs3 : i.zero.isSome = true) (hs4 : n * i.size ≤ 16777216) (hs5 : ps.toList.map (·.1) = List.range n) (hsz : ∀ v ∈ (ps.toList.map (·.2)).map a.eval, v.cells.size = i.size) :
    (Instr.buildSlice T n (ps.map fun (i, x) => (i, a.eval x))).run K.P w = .ok (.slice (some ⟨w.heap.size, 0, none⟩) n n) (w.alloc (.cells (((ps.toList.map (·.2)).map a.eval).flatMap fun v => v.cells.toList).toArray E)) := by
  obtain ⟨z, hz⟩ := Option.isSome_iff_exists.1 hs3
  have hvl : ((ps.toList.map (·.2)).map a.eval).length = n := by
    have h1 := congrArg List.length hs5
    simp at h1 ⊢
    exact h1
  have hfill : Instr.fill (fun j => some (j * i.size, i.size)) ((Array.range (n * i.size)).map (z.cells[· % z.cells.size]!)) (ps.map fun (i, x) => (i, a.eval x)).toList =
      some (((ps.toList.map (·.2)).map a.eval).flatMap fun v => v.cells.toList).toArray := by
    have e1 : (ps.map fun (i, x) => (i, a.eval x)).toList = (((ps.toList.map (·.2)).map a.eval).zipIdx 0).map fun x => (x.2, x.1) := by
      rw [Array.toList_map]
      have := zip_range ps.toList a.eval 0 (by rw [hs5, List.range_eq_range']; congr 1; have h1 := congrArg List.length hs5; simp at h1; simp [h1])
      rw [List.map_map]
      exact this
    rw [e1]
    exact Go.Great.fill_whole hs2 _ _ hsz (by rw [hvl]; simp)
  by_cases hn : n = 0
  · subst hn
    have hp1 : ps = #[] := by
      have h1 := congrArg List.length hs5
      simpa using h1
    subst hp1
    have e0 : (Array.map (fun x => (default : Value)) (Array.range 0)) = #[] := by simp
    simp [Instr.buildSlice, run_underlying hu, Go.sizeOf, typeInfo, hi, Instr.fill, newRow, e0]
  · exact run_buildSlice w T E n _ _ i z hu hi hz (by omega) (by have := Nat.mul_pos (Nat.pos_of_ne_zero hn) hs2; omega) hfill
theorem buildSlice_sound (hN : Next K V B G st β c r N) (hI : Inv K V B G (look st) β w) {tm : Nat → Option (PV K.u.U)} {a : Act} (ht : TmOk K G (look st) β tm a) {T E : TypeId} {e : Ty} {i : TypeInfo} {n d : Nat} {ps : Array (Nat × Operand)}
    (hd : look st d = none) (hu : K.P.underlying T = some (.slice E)) (hi : K.P.info? E = some i) (hs : K.u.plainTy e = true ∧ i.size = K.u.size e ∧ 0 < i.size ∧ i.zero.isSome = true ∧ n * i.size ≤ 16777216 ∧ ps.toList.map (·.1) = List.range n)
    {qs : List (PV K.u.U)} (hq : evs K tm (ps.toList.map (·.2)) = some qs)
    (h : (match K.deeps (look st) E i.size n qs with
      | some ⟨e', l, ids⟩ => c (.oslc d 0) ((d, .row E 0 e' l) :: deads K.u.U ids)
      | none => (asList (PV.asVal K.u (look st)) (List.replicate n e) qs).bind fun vs => (unTV e vs).bind fun l => c (.oslc d 0) ((d, .row E 0 e l) :: frzs K.u (look st) (owned qs))) = some r) :
    ∃ y w', (Instr.buildSlice T n (ps.map fun (i, x) => (i, a.eval x))).run K.P w = .ok y w' ∧ N y w' := by
  obtain ⟨_, hs1, hs2, hs3, hs4, hs5⟩ := hs
  have hqr := evs_sound ht hq
  have hnm : n ≤ maxLen := by simp [maxLen]; have : n ≤ n * i.size := Nat.le_mul_of_pos_right n hs2; omega
  split at h
  · rename_i e' l ids hdp
    unfold Kit.deeps at hdp
    split at hdp
    · cases hdp
    · rename_i e1 _
      split at hdp
      · rename_i hh
        obtain ⟨hse, hqn⟩ := hh
        simp only [Option.bind_eq_some_iff] at hdp
        obtain ⟨⟨vs, ids'⟩, h1, hdp⟩ := hdp
        split at hdp
        · rename_i hdist
          simp only [Option.bind_eq_some_iff] at hdp
          obtain ⟨l', h2, h3⟩ := hdp
          simp only [Option.some.injEq, Sigma.mk.injEq] at h3
          obtain ⟨rfl, h3⟩ := h3
          have h3 := eq_of_heq h3
          cases h3
          obtain ⟨F, a1, a2, a3, a4⟩ := deepVals_sound hI h1 (distinct_nodup hdist) hqr
          rw [unTV_some h2] at a1
          have hlen : l'.length = n := by
            have h1 := a1.length
            have h2 := hqr.length
            simp at h1 h2
            omega
          have hrun := buildSlice_run (K := K) (w := w) (a := a) hu hi hs2 hs3 hs4 hs5 (fun v hv => by rw [hse]; exact a1.sizes v hv)
          refine ⟨_, _, hrun, ?_⟩
          have := made_rowH hN hI (E := E) hd h a1 a3 (cs := (((ps.toList.map (·.2)).map a.eval).flatMap fun v => v.cells.toList).toArray) (by simp) (by rw [hlen]; exact hnm)
          rw [hlen] at this
          exact this
        · cases hdp
      · cases hdp
  simp only [Option.bind_eq_some_iff] at h
  obtain ⟨vs, hvs, l, hl, h⟩ := h
  obtain ⟨hI', hc'⟩ := hI.settle (owned qs)
  obtain ⟨hT, _⟩ := asList_mem (K := K) (G := G) (G' := Lift.settle K G (look st) β w (owned qs)) (S := look st) (β := β) (I := fun q => ∀ id ∈ owned [q], id ∈ owned qs)
    (fun t p c v hi => asVal_sound hc'.g (hI.rowsSettled (owned qs)) hi) (fun q hq id hid => owned_mem hq hid) hvs hqr
  rw [unTV_some hl] at hT
  have hlen : l.length = n := by
    have h1 := congrArg List.length hs5
    have h2 := hT.length
    simp at h1 h2
    omega
  have hsz := hT.sizes
  have hdn : look (frzs K.u (look st) (owned qs) ++ st) d = none := by
    rw [look_frzs rfl, hd]
    split <;> rfl
  have hrun := buildSlice_run (K := K) (w := w) (a := a) hu hi hs2 hs3 hs4 hs5 (fun v hv => by rw [hs1]; exact hsz v hv)
  refine ⟨_, _, hrun, ?_⟩
  have hN' : Next K V B (Lift.settle K G (look st) β w (owned qs)) (frzs K.u (look st) (owned qs) ++ st) β (fun p up => c p (up ++ frzs K.u (look st) (owned qs))) r N := by
    intro p up v w2 G2 β2 h1 h2 h3 h4
    refine hN p _ v w2 G2 β2 h1 ?_ ?_ ?_
    · simpa using h2
    · have := hc'.trans h3
      simpa using this
    · simpa using h4
  have := made_row hN' hI' (E := E) hdn (by simpa using h) hT (cs := (((ps.toList.map (·.2)).map a.eval).flatMap fun v => v.cells.toList).toArray) (by simp) (by rw [hlen]; exact hnm)
  rw [hlen] at this
  exact this
end
end Lift
