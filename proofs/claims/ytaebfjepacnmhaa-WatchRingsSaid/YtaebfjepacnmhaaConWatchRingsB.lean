/- Contracts: the reference's marks. By an AI agent; nothing here is trusted. -/
import Derived.Test.YtaebfjepacnmhaaConWatchRingsA
set_option linter.defProp false
set_option linter.unusedSimpArgs false
set_option linter.unusedVariables false
namespace Go.Proofs.Ytaebfjepacnmhaa
open Go.Av

def mkP (r : Ring) (al : List Int) (i x : Nat) : Prop := (∃ a ∈ al, a < (i : Int) ∧ r.lo a ≤ x ∧ (x : Int) ≤ a) ∨ (x < i ∧ ∃ a ∈ al, a ≤ (x : Int) ∧ (x : Int) ≤ a + r.after)
instance (r : Ring) (al : List Int) (i x : Nat) : Decidable (mkP r al i x) := by unfold mkP; exact inferInstance
def untilOk (r : Ring) (al : List Int) (i : Nat) (U : Int) : Prop := ∀ x : Nat, i ≤ x → ((x : Int) ≤ U ↔ ∃ a ∈ al, a < (i : Int) ∧ (x : Int) ≤ a + r.after)
theorem mkP_in {r : Ring} (hr : r.ok) {al : List Int} {i : Nat} (hi : (i : Int) ∈ al) (x : Nat) : mkP r al (i + 1) x ↔ ((mkP r al i x ∨ (r.lo i ≤ x ∧ x ≤ i)) ∨ x = i) := by
  obtain ⟨hr1, hr2, hr3⟩ := hr
  have hlo : r.lo i ≤ i := by unfold Ring.lo; omega
  unfold mkP
  constructor
  · rintro (⟨a, ha, h1, h2, h3⟩ | ⟨h1, a, ha, h2, h3⟩)
    · by_cases e : a = i
      · subst e; exact .inl (.inr ⟨h2, by omega⟩)
      · exact .inl (.inl (.inl ⟨a, ha, by omega, h2, h3⟩))
    · by_cases e : x = i
      · exact .inr e
      · exact .inl (.inl (.inr ⟨by omega, a, ha, h2, h3⟩))
  · rintro (((⟨a, ha, h1, h2, h3⟩ | ⟨h1, a, ha, h2, h3⟩) | ⟨h1, h2⟩) | e)
    · exact .inl ⟨a, ha, by omega, h2, h3⟩
    · exact .inr ⟨by omega, a, ha, h2, h3⟩
    · exact .inl ⟨i, hi, by omega, h1, by omega⟩
    · subst e; exact .inl ⟨x, hi, by omega, hlo, Int.le_refl _⟩
theorem mkP_out {r : Ring} {al : List Int} {i : Nat} {U : Int} (hi : (i : Int) ∉ al) (hU : untilOk r al i U) (x : Nat) : mkP r al (i + 1) x ↔ (mkP r al i x ∨ (x = i ∧ (i : Int) ≤ U)) := by
  have hne : ∀ a ∈ al, a ≠ (i : Int) := fun a ha e => hi (e ▸ ha)
  have h0 := hU i (Nat.le_refl _)
  unfold mkP
  constructor
  · rintro (⟨a, ha, h1, h2, h3⟩ | ⟨h1, a, ha, h2, h3⟩)
    · exact .inl (.inl ⟨a, ha, by have := hne a ha; omega, h2, h3⟩)
    · by_cases e : x = i
      · subst e; exact .inr ⟨rfl, h0.2 ⟨a, ha, by have := hne a ha; omega, h3⟩⟩
      · exact .inl (.inr ⟨by omega, a, ha, h2, h3⟩)
  · rintro ((⟨a, ha, h1, h2, h3⟩ | ⟨h1, a, ha, h2, h3⟩) | ⟨e, h⟩)
    · exact .inl ⟨a, ha, by omega, h2, h3⟩
    · exact .inr ⟨by omega, a, ha, h2, h3⟩
    · subst e
      obtain ⟨a, ha, h2, h3⟩ := h0.1 h
      exact .inr ⟨by omega, a, ha, by omega, h3⟩
theorem until_in {r : Ring} {al : List Int} {i : Nat} (hi : (i : Int) ∈ al) : untilOk r al (i + 1) (i + r.after) := by
  intro x hx
  constructor
  · intro h; exact ⟨i, hi, by omega, h⟩
  · rintro ⟨a, ha, h1, h2⟩; omega
theorem until_out {r : Ring} {al : List Int} {i : Nat} {U : Int} (hi : (i : Int) ∉ al) (hU : untilOk r al i U) : untilOk r al (i + 1) U := by
  have hne : ∀ a ∈ al, a ≠ (i : Int) := fun a ha e => hi (e ▸ ha)
  intro x hx
  rw [hU x (by omega)]
  constructor
  · rintro ⟨a, ha, h1, h2⟩; exact ⟨a, ha, by omega, h2⟩
  · rintro ⟨a, ha, h1, h2⟩; exact ⟨a, ha, by have := hne a ha; omega, h2⟩
theorem mkP_all {r : Ring} (hr : r.ok) {al : List Int} {n x : Nat} (hal : alOk n al) (hx : x < n) : mkP r al n x ↔ keptP r n al x := by
  obtain ⟨hr1, hr2, hr3⟩ := hr
  unfold mkP keptP
  constructor
  · rintro (⟨a, ha, h1, h2, h3⟩ | ⟨h1, a, ha, h2, h3⟩)
    · exact ⟨a, ha, h2, by unfold Ring.hi; omega⟩
    · have := hal.1 a ha
      exact ⟨a, ha, by unfold Ring.lo; omega, by unfold Ring.hi; omega⟩
  · rintro ⟨a, ha, h1, h2⟩
    have := hal.1 a ha
    unfold Ring.hi at h2
    by_cases h : (x : Int) ≤ a
    · exact .inl ⟨a, ha, by omega, h1, h⟩
    · exact .inr ⟨hx, a, ha, by omega, by omega⟩
def mkF (r : Ring) (al : List Int) (i : Nat) : Nat → Bool := fun x => decide (mkP r al i x)
theorem mkF_zero (r : Ring) (al : List Int) (h : ∀ a ∈ al, 0 ≤ a) : mkF r al 0 = fun _ => false := by
  funext x
  unfold mkF
  rw [decide_eq_false]
  rintro (⟨a, ha, h1, h2, h3⟩ | ⟨h1, _⟩)
  · have := h a ha; omega
  · omega
theorem mkF_in {r : Ring} (hr : r.ok) {al : List Int} {i A : Nat} (hi : (i : Int) ∈ al) (hA : r.lo i = (A : Int)) (hAi : A ≤ i) (n : Nat) : (bmap (fillF (mkF r al i) A (i + 1 - A)) n).set i (.bool true) = bmap (mkF r al (i + 1)) n := by
  rw [bmap_set]
  apply bmap_congr
  intro x _
  simp only [fillF, mkF]
  rw [Bool.eq_iff_iff]
  simp only [Bool.or_eq_true, decide_eq_true_eq]
  rw [mkP_in hr hi, hA]
  constructor
  · rintro ((h | h) | h)
    · exact .inl (.inl h)
    · exact .inl (.inr ⟨by omega, by omega⟩)
    · exact .inr h
  · rintro ((h | h) | h)
    · exact .inl (.inl h)
    · exact .inl (.inr ⟨by omega, by omega⟩)
    · exact .inr h
theorem mkF_yes {r : Ring} {al : List Int} {i : Nat} {U : Int} (hi : (i : Int) ∉ al) (hU : untilOk r al i U) (h : (i : Int) ≤ U) (n : Nat) : (bmap (mkF r al i) n).set i (.bool true) = bmap (mkF r al (i + 1)) n := by
  rw [bmap_set]
  apply bmap_congr
  intro x _
  simp only [mkF]
  rw [Bool.eq_iff_iff]
  simp only [Bool.or_eq_true, decide_eq_true_eq]
  rw [mkP_out hi hU]
  constructor
  · rintro (q | q)
    · exact .inl q
    · exact .inr ⟨q, h⟩
  · rintro (q | ⟨q, _⟩)
    · exact .inl q
    · exact .inr q
theorem mkF_no {r : Ring} {al : List Int} {i : Nat} {U : Int} (hi : (i : Int) ∉ al) (hU : untilOk r al i U) (h : ¬ (i : Int) ≤ U) : mkF r al i = mkF r al (i + 1) := by
  funext x
  simp only [mkF]
  rw [decide_eq_decide, mkP_out hi hU]
  constructor
  · exact .inl
  · rintro (q | ⟨_, q⟩)
    · exact q
    · exact absurd q h

set_option maxHeartbeats 8000000 in
theorem marks_s (r : Ring) (hr : r.ok) (n : Nat) (hn : n ≤ 60) (al : List Int) (hal : alOk n al) (ha60 : al.length ≤ 60) : Sound Try.prog 104 [r.av, .int .i64 n, .sl (ints al)] (.sl (bmap (fun x => decide (keptP r n al x)) n)) := by
  refine sound_W f_ref08_marks (Nat.le_of_ble_eq_true rfl) ?_
  obtain ⟨hr1, hr2, hr3⟩ := id hr
  have hbz := bmap_zero n
  have hz := mkF_zero r al (fun a h => (hal.1 a h).1)
  have hU0 : untilOk r al 0 (-1) := by
    intro x _
    constructor
    · intro h; omega
    · rintro ⟨a, ha, h1, h2⟩; have := (hal.1 a ha).1; omega
  simp only [c_ref08_marks, Ring.av, vcV, vcD, Int.reduceEq, Int.reduceNe, Int.reduceLT, Int.reduceLE, Nat.reduceEqDiff, Nat.reduceAdd, reduceIte, reduceCtorEq, Nat.reduceLT, Nat.reduceLeDiff, eq_self, Option.bind_some, Option.map_some, List.map_cons, List.map_nil, List.length_cons, List.length_nil, Option.getD_some, Option.getD_none, List.all_cons, List.all_nil, List.set_cons_zero, List.set_cons_succ, List.replicate_succ, List.replicate_zero, List.getElem?_cons_zero, List.getElem?_cons_succ, List.drop_succ_cons, List.drop_zero, List.take_succ_cons, List.take_zero, List.map_append, List.nil_append, List.cons_append, Nat.reduceShiftRight, Nat.reduceMod]
  (repeat (with_reducible refine And.intro ?_ ?_; focus (first | omega | (unfold I64; omega))))
  refine ⟨mkOk_false _, ?_⟩
  rw [hbz, ← hz]
  refine W_loop (t := .mk) (α := PSigma fun p : Nat × Int => p.1 ≤ n ∧ untilOk r al p.1 p.2 ∧ -1 ≤ p.2 ∧ p.2 ≤ 1000) (fun x => (envOf [(1, .int .i64 n), (2, .sl (ints al)), (3, .ptr 3 0 0), (7, .buf 100 n), (8, .int .i64 x.1.2), (9, .int .i64 x.1.1)], stOf [(3, ⟨59, 3, [.agg [.int .i64 r.cap, .int .i64 r.before, .int .i64 r.after]]⟩), (100, ⟨4, 1, bmap (mkF r al x.1.1) n⟩)])) (fun x => n - x.1.1) ⟨(0, -1), Nat.zero_le _, hU0, by omega, by omega⟩ ?_ (fun ⟨⟨i, U⟩, hi, hU, hU1, hU2⟩ => ?_)
  · refine weakX [(100, some 12)] (of_decide_eq_true rfl) (of_decide_eq_true rfl) ?_
    (simp only [vcW, vcV, vcD, Int.reduceEq, Int.reduceNe, Int.reduceLT, Int.reduceLE, Nat.reduceEqDiff, Nat.reduceAdd, reduceIte, reduceCtorEq, Nat.reduceLT, Nat.reduceLeDiff, eq_self, Option.bind_some, Option.map_some, List.map_cons, List.map_nil, List.length_cons, List.length_nil, Option.getD_some, Option.getD_none, List.all_cons, List.all_nil, List.set_cons_zero, List.set_cons_succ, List.replicate_succ, List.replicate_zero, List.getElem?_cons_zero, List.getElem?_cons_succ, List.drop_succ_cons, List.drop_zero, List.take_succ_cons, List.take_zero, List.map_append, List.nil_append, List.cons_append, Nat.reduceShiftRight, Nat.reduceMod])
    (repeat' first | exact trivial | (with_reducible exact RnB.fxB (ints_fxB _)) | (with_reducible rfl) | (with_reducible refine And.intro ?_ ?_) | (with_reducible refine RnB.bb ?_; simp only [vcW, vcV, vcD, Int.reduceEq, Int.reduceNe, Int.reduceLT, Int.reduceLE, Nat.reduceEqDiff, Nat.reduceAdd, reduceIte, reduceCtorEq, Nat.reduceLT, Nat.reduceLeDiff, eq_self, Option.bind_some, Option.map_some, List.map_cons, List.map_nil, List.length_cons, List.length_nil, Option.getD_some, Option.getD_none, List.all_cons, List.all_nil, List.set_cons_zero, List.set_cons_succ, List.replicate_succ, List.replicate_zero, List.getElem?_cons_zero, List.getElem?_cons_succ, List.drop_succ_cons, List.drop_zero, List.take_succ_cons, List.take_zero, List.map_append, List.nil_append, List.cons_append, Nat.reduceShiftRight, Nat.reduceMod]) | (with_reducible refine RnB.nb ?_; simp only [vcW, vcV, vcD, Int.reduceEq, Int.reduceNe, Int.reduceLT, Int.reduceLE, Nat.reduceEqDiff, Nat.reduceAdd, reduceIte, reduceCtorEq, Nat.reduceLT, Nat.reduceLeDiff, eq_self, Option.bind_some, Option.map_some, List.map_cons, List.map_nil, List.length_cons, List.length_nil, Option.getD_some, Option.getD_none, List.all_cons, List.all_nil, List.set_cons_zero, List.set_cons_succ, List.replicate_succ, List.replicate_zero, List.getElem?_cons_zero, List.getElem?_cons_succ, List.drop_succ_cons, List.drop_zero, List.take_succ_cons, List.take_zero, List.map_append, List.nil_append, List.cons_append, Nat.reduceShiftRight, Nat.reduceMod]) | (with_reducible refine RnB.ii ?_) | (with_reducible refine RnB.app ?_) | (with_reducible refine RnB.fxB ?_; simp only [vcW, vcV, vcD, Int.reduceEq, Int.reduceNe, Int.reduceLT, Int.reduceLE, Nat.reduceEqDiff, Nat.reduceAdd, reduceIte, reduceCtorEq, Nat.reduceLT, Nat.reduceLeDiff, eq_self, Option.bind_some, Option.map_some, List.map_cons, List.map_nil, List.length_cons, List.length_nil, Option.getD_some, Option.getD_none, List.all_cons, List.all_nil, List.set_cons_zero, List.set_cons_succ, List.replicate_succ, List.replicate_zero, List.getElem?_cons_zero, List.getElem?_cons_succ, List.drop_succ_cons, List.drop_zero, List.take_succ_cons, List.take_zero, List.map_append, List.nil_append, List.cons_append, Nat.reduceShiftRight, Nat.reduceMod]) | omega)
    all_goals exact RnB.fxB (bmap_fxB _ _)
  · simp only at hi hU hU1 hU2
    simp only [vcV, vcD, Int.reduceEq, Int.reduceNe, Int.reduceLT, Int.reduceLE, Nat.reduceEqDiff, Nat.reduceAdd, reduceIte, reduceCtorEq, Nat.reduceLT, Nat.reduceLeDiff, eq_self, Option.bind_some, Option.map_some, List.map_cons, List.map_nil, List.length_cons, List.length_nil, Option.getD_some, Option.getD_none, List.all_cons, List.all_nil, List.set_cons_zero, List.set_cons_succ, List.replicate_succ, List.replicate_zero, List.getElem?_cons_zero, List.getElem?_cons_succ, List.drop_succ_cons, List.drop_zero, List.take_succ_cons, List.take_zero, List.map_append, List.nil_append, List.cons_append, Nat.reduceShiftRight, Nat.reduceMod]
    refine brB_split (fun h => ?_) (fun h => ?_)
    · have h' : i < n := by (simp only [decide_eq_true_eq, decide_eq_false_iff_not, Bool.not_true, I64, Bool.not_eq_true', Bool.not_eq_false', bne_iff_ne, beq_iff_eq, ne_eq] at *; omega)
      clear h
      have hHas := Has_s al i (by omega)
      have hlo : r.lo i = max (max 0 ((i : Int) - r.before)) ((i : Int) - r.cap + 1) := rfl
      by_cases hin : (i : Int) ∈ al
      · rw [decide_eq_true hin] at hHas
        obtain ⟨A, hA⟩ : ∃ A : Nat, r.lo i = (A : Int) := ⟨(r.lo i).toNat, by omega⟩
        have hAi : A ≤ i := by omega
        have hset := mkF_in hr hin hA hAi n
        have hUi := until_in (r := r) hin
        have hA' : max (max 0 ((i : Int) - r.before)) ((i : Int) - r.cap + 1) = (A : Int) := by rw [← hlo]; exact hA
        have hf0 := fillF_zero (mkF r al i) A
        have hfs := fun j => fillF_succ (mkF r al i) A j n
        simp only [vcV, vcD, Int.reduceEq, Int.reduceNe, Int.reduceLT, Int.reduceLE, Nat.reduceEqDiff, Nat.reduceAdd, reduceIte, reduceCtorEq, Nat.reduceLT, Nat.reduceLeDiff, eq_self, Option.bind_some, Option.map_some, List.map_cons, List.map_nil, List.length_cons, List.length_nil, Option.getD_some, Option.getD_none, List.all_cons, List.all_nil, List.set_cons_zero, List.set_cons_succ, List.replicate_succ, List.replicate_zero, List.getElem?_cons_zero, List.getElem?_cons_succ, List.drop_succ_cons, List.drop_zero, List.take_succ_cons, List.take_zero, List.map_append, List.nil_append, List.cons_append, Nat.reduceShiftRight, Nat.reduceMod]
        refine callS_of hHas ?_
        simp only [hA', vcV, vcD, Int.reduceEq, Int.reduceNe, Int.reduceLT, Int.reduceLE, Nat.reduceEqDiff, Nat.reduceAdd, reduceIte, reduceCtorEq, Nat.reduceLT, Nat.reduceLeDiff, eq_self, Option.bind_some, Option.map_some, List.map_cons, List.map_nil, List.length_cons, List.length_nil, Option.getD_some, Option.getD_none, List.all_cons, List.all_nil, List.set_cons_zero, List.set_cons_succ, List.replicate_succ, List.replicate_zero, List.getElem?_cons_zero, List.getElem?_cons_succ, List.drop_succ_cons, List.drop_zero, List.take_succ_cons, List.take_zero, List.map_append, List.nil_append, List.cons_append, Nat.reduceShiftRight, Nat.reduceMod]
        (repeat (with_reducible refine And.intro ?_ ?_; focus (first | omega | (unfold I64; omega))))
        rw [← hf0]
        refine W_loop (t := .mk) (α := PSigma fun j : Nat => j ≤ i + 1 - A ∧ True) (fun ⟨j, _⟩ => (envOf [(1, .int .i64 n), (2, .sl (ints al)), (3, .ptr 3 0 0), (7, .buf 100 n), (9, .int .i64 i), (10, .int .i64 ((A + j : Nat) : Int))], stOf [(3, ⟨59, 3, [.agg [.int .i64 r.cap, .int .i64 r.before, .int .i64 r.after]]⟩), (100, ⟨4, 1, bmap (fillF (mkF r al i) A j) n⟩)])) (fun j => i + 1 - A - j.1) ⟨0, Nat.zero_le _, trivial⟩ ?_ (fun ⟨j, hj, _⟩ => ?_)
        · refine weakX [(100, some 100)] (of_decide_eq_true rfl) (of_decide_eq_true rfl) ?_
          (simp only [Nat.add_zero, vcW, vcV, vcD, Int.reduceEq, Int.reduceNe, Int.reduceLT, Int.reduceLE, Nat.reduceEqDiff, Nat.reduceAdd, reduceIte, reduceCtorEq, Nat.reduceLT, Nat.reduceLeDiff, eq_self, Option.bind_some, Option.map_some, List.map_cons, List.map_nil, List.length_cons, List.length_nil, Option.getD_some, Option.getD_none, List.all_cons, List.all_nil, List.set_cons_zero, List.set_cons_succ, List.replicate_succ, List.replicate_zero, List.getElem?_cons_zero, List.getElem?_cons_succ, List.drop_succ_cons, List.drop_zero, List.take_succ_cons, List.take_zero, List.map_append, List.nil_append, List.cons_append, Nat.reduceShiftRight, Nat.reduceMod])
          (repeat' first | exact trivial | (with_reducible exact RnB.fxB (ints_fxB _)) | (with_reducible rfl) | (with_reducible refine And.intro ?_ ?_) | (with_reducible refine RnB.bb ?_; simp only [vcW, vcV, vcD, Int.reduceEq, Int.reduceNe, Int.reduceLT, Int.reduceLE, Nat.reduceEqDiff, Nat.reduceAdd, reduceIte, reduceCtorEq, Nat.reduceLT, Nat.reduceLeDiff, eq_self, Option.bind_some, Option.map_some, List.map_cons, List.map_nil, List.length_cons, List.length_nil, Option.getD_some, Option.getD_none, List.all_cons, List.all_nil, List.set_cons_zero, List.set_cons_succ, List.replicate_succ, List.replicate_zero, List.getElem?_cons_zero, List.getElem?_cons_succ, List.drop_succ_cons, List.drop_zero, List.take_succ_cons, List.take_zero, List.map_append, List.nil_append, List.cons_append, Nat.reduceShiftRight, Nat.reduceMod]) | (with_reducible refine RnB.nb ?_; simp only [vcW, vcV, vcD, Int.reduceEq, Int.reduceNe, Int.reduceLT, Int.reduceLE, Nat.reduceEqDiff, Nat.reduceAdd, reduceIte, reduceCtorEq, Nat.reduceLT, Nat.reduceLeDiff, eq_self, Option.bind_some, Option.map_some, List.map_cons, List.map_nil, List.length_cons, List.length_nil, Option.getD_some, Option.getD_none, List.all_cons, List.all_nil, List.set_cons_zero, List.set_cons_succ, List.replicate_succ, List.replicate_zero, List.getElem?_cons_zero, List.getElem?_cons_succ, List.drop_succ_cons, List.drop_zero, List.take_succ_cons, List.take_zero, List.map_append, List.nil_append, List.cons_append, Nat.reduceShiftRight, Nat.reduceMod]) | (with_reducible refine RnB.ii ?_) | (with_reducible refine RnB.app ?_) | (with_reducible refine RnB.fxB ?_; simp only [vcW, vcV, vcD, Int.reduceEq, Int.reduceNe, Int.reduceLT, Int.reduceLE, Nat.reduceEqDiff, Nat.reduceAdd, reduceIte, reduceCtorEq, Nat.reduceLT, Nat.reduceLeDiff, eq_self, Option.bind_some, Option.map_some, List.map_cons, List.map_nil, List.length_cons, List.length_nil, Option.getD_some, Option.getD_none, List.all_cons, List.all_nil, List.set_cons_zero, List.set_cons_succ, List.replicate_succ, List.replicate_zero, List.getElem?_cons_zero, List.getElem?_cons_succ, List.drop_succ_cons, List.drop_zero, List.take_succ_cons, List.take_zero, List.map_append, List.nil_append, List.cons_append, Nat.reduceShiftRight, Nat.reduceMod]) | omega)
          all_goals exact RnB.fxB (bmap_fxB _ _)
        · simp only [vcV, vcD, Int.reduceEq, Int.reduceNe, Int.reduceLT, Int.reduceLE, Nat.reduceEqDiff, Nat.reduceAdd, reduceIte, reduceCtorEq, Nat.reduceLT, Nat.reduceLeDiff, eq_self, Option.bind_some, Option.map_some, List.map_cons, List.map_nil, List.length_cons, List.length_nil, Option.getD_some, Option.getD_none, List.all_cons, List.all_nil, List.set_cons_zero, List.set_cons_succ, List.replicate_succ, List.replicate_zero, List.getElem?_cons_zero, List.getElem?_cons_succ, List.drop_succ_cons, List.drop_zero, List.take_succ_cons, List.take_zero, List.map_append, List.nil_append, List.cons_append, Nat.reduceShiftRight, Nat.reduceMod]
          by_cases hc : ((A + j : Nat) : Int) ≤ (i : Int)
          · have hd' : A + j < n := by omega
            have g1 := bmap_get (fillF (mkF r al i) A j) n (A + j) hd'
            have hst := hfs j
            simp only [hc, g1, bmap_length, vcV, vcD, Int.reduceEq, Int.reduceNe, Int.reduceLT, Int.reduceLE, Nat.reduceEqDiff, Nat.reduceAdd, reduceIte, reduceCtorEq, Nat.reduceLT, Nat.reduceLeDiff, eq_self, Option.bind_some, Option.map_some, List.map_cons, List.map_nil, List.length_cons, List.length_nil, Option.getD_some, Option.getD_none, List.all_cons, List.all_nil, List.set_cons_zero, List.set_cons_succ, List.replicate_succ, List.replicate_zero, List.getElem?_cons_zero, List.getElem?_cons_succ, List.drop_succ_cons, List.drop_zero, List.take_succ_cons, List.take_zero, List.map_append, List.nil_append, List.cons_append, Nat.reduceShiftRight, Nat.reduceMod]
            (repeat (with_reducible refine And.intro ?_ ?_; focus (first | omega | (unfold I64; omega))))
            refine ⟨⟨j + 1, by omega, trivial⟩, by simp only; omega, ?_⟩
            refine weakX [(100, some 100)] (of_decide_eq_true rfl) (of_decide_eq_true rfl) ?_
            (simp only [← Nat.add_assoc, vcW, vcV, vcD, Int.reduceEq, Int.reduceNe, Int.reduceLT, Int.reduceLE, Nat.reduceEqDiff, Nat.reduceAdd, reduceIte, reduceCtorEq, Nat.reduceLT, Nat.reduceLeDiff, eq_self, Option.bind_some, Option.map_some, List.map_cons, List.map_nil, List.length_cons, List.length_nil, Option.getD_some, Option.getD_none, List.all_cons, List.all_nil, List.set_cons_zero, List.set_cons_succ, List.replicate_succ, List.replicate_zero, List.getElem?_cons_zero, List.getElem?_cons_succ, List.drop_succ_cons, List.drop_zero, List.take_succ_cons, List.take_zero, List.map_append, List.nil_append, List.cons_append, Nat.reduceShiftRight, Nat.reduceMod])
            (repeat' first | exact trivial | (with_reducible exact RnB.fxB (ints_fxB _)) | (with_reducible rfl) | (with_reducible refine And.intro ?_ ?_) | (with_reducible refine RnB.bb ?_; simp only [vcW, vcV, vcD, Int.reduceEq, Int.reduceNe, Int.reduceLT, Int.reduceLE, Nat.reduceEqDiff, Nat.reduceAdd, reduceIte, reduceCtorEq, Nat.reduceLT, Nat.reduceLeDiff, eq_self, Option.bind_some, Option.map_some, List.map_cons, List.map_nil, List.length_cons, List.length_nil, Option.getD_some, Option.getD_none, List.all_cons, List.all_nil, List.set_cons_zero, List.set_cons_succ, List.replicate_succ, List.replicate_zero, List.getElem?_cons_zero, List.getElem?_cons_succ, List.drop_succ_cons, List.drop_zero, List.take_succ_cons, List.take_zero, List.map_append, List.nil_append, List.cons_append, Nat.reduceShiftRight, Nat.reduceMod]) | (with_reducible refine RnB.nb ?_; simp only [vcW, vcV, vcD, Int.reduceEq, Int.reduceNe, Int.reduceLT, Int.reduceLE, Nat.reduceEqDiff, Nat.reduceAdd, reduceIte, reduceCtorEq, Nat.reduceLT, Nat.reduceLeDiff, eq_self, Option.bind_some, Option.map_some, List.map_cons, List.map_nil, List.length_cons, List.length_nil, Option.getD_some, Option.getD_none, List.all_cons, List.all_nil, List.set_cons_zero, List.set_cons_succ, List.replicate_succ, List.replicate_zero, List.getElem?_cons_zero, List.getElem?_cons_succ, List.drop_succ_cons, List.drop_zero, List.take_succ_cons, List.take_zero, List.map_append, List.nil_append, List.cons_append, Nat.reduceShiftRight, Nat.reduceMod]) | (with_reducible refine RnB.ii ?_) | (with_reducible refine RnB.app ?_) | (with_reducible refine RnB.fxB ?_; simp only [vcW, vcV, vcD, Int.reduceEq, Int.reduceNe, Int.reduceLT, Int.reduceLE, Nat.reduceEqDiff, Nat.reduceAdd, reduceIte, reduceCtorEq, Nat.reduceLT, Nat.reduceLeDiff, eq_self, Option.bind_some, Option.map_some, List.map_cons, List.map_nil, List.length_cons, List.length_nil, Option.getD_some, Option.getD_none, List.all_cons, List.all_nil, List.set_cons_zero, List.set_cons_succ, List.replicate_succ, List.replicate_zero, List.getElem?_cons_zero, List.getElem?_cons_succ, List.drop_succ_cons, List.drop_zero, List.take_succ_cons, List.take_zero, List.map_append, List.nil_append, List.cons_append, Nat.reduceShiftRight, Nat.reduceMod]) | omega)
            exact RnB.eq hst (by rw [hst]; exact bmap_fxB _ _)
          · obtain rfl : j = i + 1 - A := by omega
            have g1 := bmap_get (fillF (mkF r al i) A (i + 1 - A)) n i h'
            have hle : (i : Int) ≤ (i : Int) + r.after := by omega
            simp only [hc, g1, bmap_length, hle, vcV, vcD, Int.reduceEq, Int.reduceNe, Int.reduceLT, Int.reduceLE, Nat.reduceEqDiff, Nat.reduceAdd, reduceIte, reduceCtorEq, Nat.reduceLT, Nat.reduceLeDiff, eq_self, Option.bind_some, Option.map_some, List.map_cons, List.map_nil, List.length_cons, List.length_nil, Option.getD_some, Option.getD_none, List.all_cons, List.all_nil, List.set_cons_zero, List.set_cons_succ, List.replicate_succ, List.replicate_zero, List.getElem?_cons_zero, List.getElem?_cons_succ, List.drop_succ_cons, List.drop_zero, List.take_succ_cons, List.take_zero, List.map_append, List.nil_append, List.cons_append, Nat.reduceShiftRight, Nat.reduceMod]
            (repeat (with_reducible refine And.intro ?_ ?_; focus (first | omega | (unfold I64; omega))))
            refine ⟨⟨(i + 1, i + r.after), h', hUi, by simp only; omega, by simp only; omega⟩, by simp only; omega, ?_⟩
            refine weakX [(100, some 100)] (of_decide_eq_true rfl) (of_decide_eq_true rfl) ?_
            (simp only [vcW, vcV, vcD, Int.reduceEq, Int.reduceNe, Int.reduceLT, Int.reduceLE, Nat.reduceEqDiff, Nat.reduceAdd, reduceIte, reduceCtorEq, Nat.reduceLT, Nat.reduceLeDiff, eq_self, Option.bind_some, Option.map_some, List.map_cons, List.map_nil, List.length_cons, List.length_nil, Option.getD_some, Option.getD_none, List.all_cons, List.all_nil, List.set_cons_zero, List.set_cons_succ, List.replicate_succ, List.replicate_zero, List.getElem?_cons_zero, List.getElem?_cons_succ, List.drop_succ_cons, List.drop_zero, List.take_succ_cons, List.take_zero, List.map_append, List.nil_append, List.cons_append, Nat.reduceShiftRight, Nat.reduceMod])
            (repeat' first | exact trivial | (with_reducible exact RnB.fxB (ints_fxB _)) | (with_reducible rfl) | (with_reducible refine And.intro ?_ ?_) | (with_reducible refine RnB.bb ?_; simp only [vcW, vcV, vcD, Int.reduceEq, Int.reduceNe, Int.reduceLT, Int.reduceLE, Nat.reduceEqDiff, Nat.reduceAdd, reduceIte, reduceCtorEq, Nat.reduceLT, Nat.reduceLeDiff, eq_self, Option.bind_some, Option.map_some, List.map_cons, List.map_nil, List.length_cons, List.length_nil, Option.getD_some, Option.getD_none, List.all_cons, List.all_nil, List.set_cons_zero, List.set_cons_succ, List.replicate_succ, List.replicate_zero, List.getElem?_cons_zero, List.getElem?_cons_succ, List.drop_succ_cons, List.drop_zero, List.take_succ_cons, List.take_zero, List.map_append, List.nil_append, List.cons_append, Nat.reduceShiftRight, Nat.reduceMod]) | (with_reducible refine RnB.nb ?_; simp only [vcW, vcV, vcD, Int.reduceEq, Int.reduceNe, Int.reduceLT, Int.reduceLE, Nat.reduceEqDiff, Nat.reduceAdd, reduceIte, reduceCtorEq, Nat.reduceLT, Nat.reduceLeDiff, eq_self, Option.bind_some, Option.map_some, List.map_cons, List.map_nil, List.length_cons, List.length_nil, Option.getD_some, Option.getD_none, List.all_cons, List.all_nil, List.set_cons_zero, List.set_cons_succ, List.replicate_succ, List.replicate_zero, List.getElem?_cons_zero, List.getElem?_cons_succ, List.drop_succ_cons, List.drop_zero, List.take_succ_cons, List.take_zero, List.map_append, List.nil_append, List.cons_append, Nat.reduceShiftRight, Nat.reduceMod]) | (with_reducible refine RnB.ii ?_) | (with_reducible refine RnB.app ?_) | (with_reducible refine RnB.fxB ?_; simp only [vcW, vcV, vcD, Int.reduceEq, Int.reduceNe, Int.reduceLT, Int.reduceLE, Nat.reduceEqDiff, Nat.reduceAdd, reduceIte, reduceCtorEq, Nat.reduceLT, Nat.reduceLeDiff, eq_self, Option.bind_some, Option.map_some, List.map_cons, List.map_nil, List.length_cons, List.length_nil, Option.getD_some, Option.getD_none, List.all_cons, List.all_nil, List.set_cons_zero, List.set_cons_succ, List.replicate_succ, List.replicate_zero, List.getElem?_cons_zero, List.getElem?_cons_succ, List.drop_succ_cons, List.drop_zero, List.take_succ_cons, List.take_zero, List.map_append, List.nil_append, List.cons_append, Nat.reduceShiftRight, Nat.reduceMod]) | omega)
            exact RnB.eq hset (by rw [hset]; exact bmap_fxB _ _)
      · rw [decide_eq_false hin] at hHas
        have hUi := until_out hin hU
        have g1 := bmap_get (mkF r al i) n i h'
        simp only [vcV, vcD, Int.reduceEq, Int.reduceNe, Int.reduceLT, Int.reduceLE, Nat.reduceEqDiff, Nat.reduceAdd, reduceIte, reduceCtorEq, Nat.reduceLT, Nat.reduceLeDiff, eq_self, Option.bind_some, Option.map_some, List.map_cons, List.map_nil, List.length_cons, List.length_nil, Option.getD_some, Option.getD_none, List.all_cons, List.all_nil, List.set_cons_zero, List.set_cons_succ, List.replicate_succ, List.replicate_zero, List.getElem?_cons_zero, List.getElem?_cons_succ, List.drop_succ_cons, List.drop_zero, List.take_succ_cons, List.take_zero, List.map_append, List.nil_append, List.cons_append, Nat.reduceShiftRight, Nat.reduceMod]
        refine callS_of hHas ?_
        by_cases hle : (i : Int) ≤ U
        · have hset := mkF_yes hin hU hle n
          simp only [g1, bmap_length, hle, vcV, vcD, Int.reduceEq, Int.reduceNe, Int.reduceLT, Int.reduceLE, Nat.reduceEqDiff, Nat.reduceAdd, reduceIte, reduceCtorEq, Nat.reduceLT, Nat.reduceLeDiff, eq_self, Option.bind_some, Option.map_some, List.map_cons, List.map_nil, List.length_cons, List.length_nil, Option.getD_some, Option.getD_none, List.all_cons, List.all_nil, List.set_cons_zero, List.set_cons_succ, List.replicate_succ, List.replicate_zero, List.getElem?_cons_zero, List.getElem?_cons_succ, List.drop_succ_cons, List.drop_zero, List.take_succ_cons, List.take_zero, List.map_append, List.nil_append, List.cons_append, Nat.reduceShiftRight, Nat.reduceMod]
          (repeat (with_reducible refine And.intro ?_ ?_; focus (first | omega | (unfold I64; omega))))
          refine ⟨⟨(i + 1, U), h', hUi, hU1, hU2⟩, by simp only; omega, ?_⟩
          refine weakX [(100, some 100)] (of_decide_eq_true rfl) (of_decide_eq_true rfl) ?_
          (simp only [vcW, vcV, vcD, Int.reduceEq, Int.reduceNe, Int.reduceLT, Int.reduceLE, Nat.reduceEqDiff, Nat.reduceAdd, reduceIte, reduceCtorEq, Nat.reduceLT, Nat.reduceLeDiff, eq_self, Option.bind_some, Option.map_some, List.map_cons, List.map_nil, List.length_cons, List.length_nil, Option.getD_some, Option.getD_none, List.all_cons, List.all_nil, List.set_cons_zero, List.set_cons_succ, List.replicate_succ, List.replicate_zero, List.getElem?_cons_zero, List.getElem?_cons_succ, List.drop_succ_cons, List.drop_zero, List.take_succ_cons, List.take_zero, List.map_append, List.nil_append, List.cons_append, Nat.reduceShiftRight, Nat.reduceMod])
          (repeat' first | exact trivial | (with_reducible exact RnB.fxB (ints_fxB _)) | (with_reducible rfl) | (with_reducible refine And.intro ?_ ?_) | (with_reducible refine RnB.bb ?_; simp only [vcW, vcV, vcD, Int.reduceEq, Int.reduceNe, Int.reduceLT, Int.reduceLE, Nat.reduceEqDiff, Nat.reduceAdd, reduceIte, reduceCtorEq, Nat.reduceLT, Nat.reduceLeDiff, eq_self, Option.bind_some, Option.map_some, List.map_cons, List.map_nil, List.length_cons, List.length_nil, Option.getD_some, Option.getD_none, List.all_cons, List.all_nil, List.set_cons_zero, List.set_cons_succ, List.replicate_succ, List.replicate_zero, List.getElem?_cons_zero, List.getElem?_cons_succ, List.drop_succ_cons, List.drop_zero, List.take_succ_cons, List.take_zero, List.map_append, List.nil_append, List.cons_append, Nat.reduceShiftRight, Nat.reduceMod]) | (with_reducible refine RnB.nb ?_; simp only [vcW, vcV, vcD, Int.reduceEq, Int.reduceNe, Int.reduceLT, Int.reduceLE, Nat.reduceEqDiff, Nat.reduceAdd, reduceIte, reduceCtorEq, Nat.reduceLT, Nat.reduceLeDiff, eq_self, Option.bind_some, Option.map_some, List.map_cons, List.map_nil, List.length_cons, List.length_nil, Option.getD_some, Option.getD_none, List.all_cons, List.all_nil, List.set_cons_zero, List.set_cons_succ, List.replicate_succ, List.replicate_zero, List.getElem?_cons_zero, List.getElem?_cons_succ, List.drop_succ_cons, List.drop_zero, List.take_succ_cons, List.take_zero, List.map_append, List.nil_append, List.cons_append, Nat.reduceShiftRight, Nat.reduceMod]) | (with_reducible refine RnB.ii ?_) | (with_reducible refine RnB.app ?_) | (with_reducible refine RnB.fxB ?_; simp only [vcW, vcV, vcD, Int.reduceEq, Int.reduceNe, Int.reduceLT, Int.reduceLE, Nat.reduceEqDiff, Nat.reduceAdd, reduceIte, reduceCtorEq, Nat.reduceLT, Nat.reduceLeDiff, eq_self, Option.bind_some, Option.map_some, List.map_cons, List.map_nil, List.length_cons, List.length_nil, Option.getD_some, Option.getD_none, List.all_cons, List.all_nil, List.set_cons_zero, List.set_cons_succ, List.replicate_succ, List.replicate_zero, List.getElem?_cons_zero, List.getElem?_cons_succ, List.drop_succ_cons, List.drop_zero, List.take_succ_cons, List.take_zero, List.map_append, List.nil_append, List.cons_append, Nat.reduceShiftRight, Nat.reduceMod]) | omega)
          exact RnB.eq hset (by rw [hset]; exact bmap_fxB _ _)
        · have hno := mkF_no hin hU hle
          simp only [g1, bmap_length, hle, vcV, vcD, Int.reduceEq, Int.reduceNe, Int.reduceLT, Int.reduceLE, Nat.reduceEqDiff, Nat.reduceAdd, reduceIte, reduceCtorEq, Nat.reduceLT, Nat.reduceLeDiff, eq_self, Option.bind_some, Option.map_some, List.map_cons, List.map_nil, List.length_cons, List.length_nil, Option.getD_some, Option.getD_none, List.all_cons, List.all_nil, List.set_cons_zero, List.set_cons_succ, List.replicate_succ, List.replicate_zero, List.getElem?_cons_zero, List.getElem?_cons_succ, List.drop_succ_cons, List.drop_zero, List.take_succ_cons, List.take_zero, List.map_append, List.nil_append, List.cons_append, Nat.reduceShiftRight, Nat.reduceMod]
          (repeat (with_reducible refine And.intro ?_ ?_; focus (first | omega | (unfold I64; omega))))
          refine ⟨⟨(i + 1, U), h', hUi, hU1, hU2⟩, by simp only; omega, ?_⟩
          refine weakX [(100, some 100)] (of_decide_eq_true rfl) (of_decide_eq_true rfl) ?_
          (simp only [hno, vcW, vcV, vcD, Int.reduceEq, Int.reduceNe, Int.reduceLT, Int.reduceLE, Nat.reduceEqDiff, Nat.reduceAdd, reduceIte, reduceCtorEq, Nat.reduceLT, Nat.reduceLeDiff, eq_self, Option.bind_some, Option.map_some, List.map_cons, List.map_nil, List.length_cons, List.length_nil, Option.getD_some, Option.getD_none, List.all_cons, List.all_nil, List.set_cons_zero, List.set_cons_succ, List.replicate_succ, List.replicate_zero, List.getElem?_cons_zero, List.getElem?_cons_succ, List.drop_succ_cons, List.drop_zero, List.take_succ_cons, List.take_zero, List.map_append, List.nil_append, List.cons_append, Nat.reduceShiftRight, Nat.reduceMod])
          (repeat' first | exact trivial | (with_reducible exact RnB.fxB (ints_fxB _)) | (with_reducible rfl) | (with_reducible refine And.intro ?_ ?_) | (with_reducible refine RnB.bb ?_; simp only [vcW, vcV, vcD, Int.reduceEq, Int.reduceNe, Int.reduceLT, Int.reduceLE, Nat.reduceEqDiff, Nat.reduceAdd, reduceIte, reduceCtorEq, Nat.reduceLT, Nat.reduceLeDiff, eq_self, Option.bind_some, Option.map_some, List.map_cons, List.map_nil, List.length_cons, List.length_nil, Option.getD_some, Option.getD_none, List.all_cons, List.all_nil, List.set_cons_zero, List.set_cons_succ, List.replicate_succ, List.replicate_zero, List.getElem?_cons_zero, List.getElem?_cons_succ, List.drop_succ_cons, List.drop_zero, List.take_succ_cons, List.take_zero, List.map_append, List.nil_append, List.cons_append, Nat.reduceShiftRight, Nat.reduceMod]) | (with_reducible refine RnB.nb ?_; simp only [vcW, vcV, vcD, Int.reduceEq, Int.reduceNe, Int.reduceLT, Int.reduceLE, Nat.reduceEqDiff, Nat.reduceAdd, reduceIte, reduceCtorEq, Nat.reduceLT, Nat.reduceLeDiff, eq_self, Option.bind_some, Option.map_some, List.map_cons, List.map_nil, List.length_cons, List.length_nil, Option.getD_some, Option.getD_none, List.all_cons, List.all_nil, List.set_cons_zero, List.set_cons_succ, List.replicate_succ, List.replicate_zero, List.getElem?_cons_zero, List.getElem?_cons_succ, List.drop_succ_cons, List.drop_zero, List.take_succ_cons, List.take_zero, List.map_append, List.nil_append, List.cons_append, Nat.reduceShiftRight, Nat.reduceMod]) | (with_reducible refine RnB.ii ?_) | (with_reducible refine RnB.app ?_) | (with_reducible refine RnB.fxB ?_; simp only [vcW, vcV, vcD, Int.reduceEq, Int.reduceNe, Int.reduceLT, Int.reduceLE, Nat.reduceEqDiff, Nat.reduceAdd, reduceIte, reduceCtorEq, Nat.reduceLT, Nat.reduceLeDiff, eq_self, Option.bind_some, Option.map_some, List.map_cons, List.map_nil, List.length_cons, List.length_nil, Option.getD_some, Option.getD_none, List.all_cons, List.all_nil, List.set_cons_zero, List.set_cons_succ, List.replicate_succ, List.replicate_zero, List.getElem?_cons_zero, List.getElem?_cons_succ, List.drop_succ_cons, List.drop_zero, List.take_succ_cons, List.take_zero, List.map_append, List.nil_append, List.cons_append, Nat.reduceShiftRight, Nat.reduceMod]) | omega)
          all_goals exact RnB.fxB (bmap_fxB _ _)
    · have hin : i = n := by (simp only [decide_eq_true_eq, decide_eq_false_iff_not, Bool.not_true, I64, Bool.not_eq_true', Bool.not_eq_false', bne_iff_ne, beq_iff_eq, ne_eq] at *; omega)
      cases hin
      have hall : bmap (mkF r al n) n = bmap (fun x => decide (keptP r n al x)) n := bmap_congr fun x hx => by
        simp only [mkF]
        rw [decide_eq_decide]
        exact mkP_all hr hal hx
      rw [hall]
      simp only [vcV, vcD, Int.reduceEq, Int.reduceNe, Int.reduceLT, Int.reduceLE, Nat.reduceEqDiff, Nat.reduceAdd, reduceIte, reduceCtorEq, Nat.reduceLT, Nat.reduceLeDiff, eq_self, Option.bind_some, Option.map_some, List.map_cons, List.map_nil, List.length_cons, List.length_nil, Option.getD_some, Option.getD_none, List.all_cons, List.all_nil, List.set_cons_zero, List.set_cons_succ, List.replicate_succ, List.replicate_zero, List.getElem?_cons_zero, List.getElem?_cons_succ, List.drop_succ_cons, List.drop_zero, List.take_succ_cons, List.take_zero, List.map_append, List.nil_append, List.cons_append, Nat.reduceShiftRight, Nat.reduceMod]
      rw [borB_good _ _ _ _ _ (by rw [bmap_length]) (List.all_eq_true.1 (bmap_fxB _ _))]
end Go.Proofs.Ytaebfjepacnmhaa

/- Contracts: what the reference keeps. By an AI agent; nothing here is trusted. -/
namespace Go.Proofs.Ytaebfjepacnmhaa
open Go.Av

/-- Runs of kept bins, the last one first. -/
def runR (kf : Nat → Bool) : Nat → List (Int × Int)
  | 0 => []
  | i + 1 => if kf i then (if i = 0 ∨ kf (i - 1) = false then ((i : Int), (i : Int)) :: runR kf i else match runR kf i with
    | [] => []
    | p :: rest => (p.1, (i : Int)) :: rest) else runR kf i
theorem runR_no {kf : Nat → Bool} {i : Nat} (h : kf i = false) : runR kf (i + 1) = runR kf i := by rw [runR, if_neg (by simp [h])]
theorem runR_new {kf : Nat → Bool} {i : Nat} (h : kf i = true) (h2 : i = 0 ∨ kf (i - 1) = false) : runR kf (i + 1) = ((i : Int), (i : Int)) :: runR kf i := by rw [runR, if_pos h, if_pos h2]
theorem runR_on {kf : Nat → Bool} {i : Nat} (h : kf i = true) (h2 : ¬ (i = 0 ∨ kf (i - 1) = false)) {p : Int × Int} {rest : List (Int × Int)} (hR : runR kf i = p :: rest) : runR kf (i + 1) = (p.1, (i : Int)) :: rest := by
  rw [runR, if_pos h, if_neg h2, hR]
theorem runR_ok (kf : Nat → Bool) : ∀ (i : Nat), (runR kf i).length ≤ i ∧ (∀ p ∈ runR kf i, 0 ≤ p.1 ∧ p.1 ≤ p.2 ∧ p.2 < i) ∧ (0 < i → kf (i - 1) = true → ∃ p rest, runR kf i = p :: rest ∧ p.2 = i - 1)
  | 0 => by simp [runR]
  | i + 1 => by
    obtain ⟨h1, h2, h3⟩ := runR_ok kf i
    by_cases hk : kf i = true
    · by_cases hn : i = 0 ∨ kf (i - 1) = false
      · rw [runR_new hk hn]
        refine ⟨by simp; omega, fun p hp => ?_, fun _ _ => ⟨_, _, rfl, by simp only; omega⟩⟩
        rcases List.mem_cons.1 hp with e | e
        · rw [e]; simp only; omega
        · have := h2 p e; omega
      · obtain ⟨p, rest, hR, hp⟩ := h3 (by omega) (by cases hq : kf (i - 1) with | true => rfl | false => exact absurd (.inr hq) hn)
        rw [runR_on hk hn hR]
        rw [hR] at h1 h2
        refine ⟨by simp at h1 ⊢; omega, fun q hq => ?_, fun _ _ => ⟨_, _, rfl, by simp only; omega⟩⟩
        rcases List.mem_cons.1 hq with e | e
        · have := h2 p List.mem_cons_self; rw [e]; simp only; omega
        · have := h2 q (List.mem_cons_of_mem _ e); omega
    · have hk' : kf i = false := by simpa using hk
      rw [runR_no hk']
      refine ⟨by omega, fun p hp => by have := h2 p hp; omega, fun _ h => ?_⟩
      rw [Nat.add_sub_cancel, hk'] at h; cases h

/-- The buffer while it is filled: the last one's counts lie in a buffer of their own. -/
def esR (l : List Int) : List (Int × Int) → List AV
  | [] => []
  | p :: rest => frzsA l rest.reverse ++ [.agg [.int .i64 p.1, .int .i64 p.2, .buf 101 (cutL l p).length]]
def lastC (l : List Int) : List (Int × Int) → List Int
  | [] => []
  | p :: _ => cutL l p
theorem esR_length (l : List Int) (R : List (Int × Int)) : (esR l R).length = R.length := by
  cases R with
  | nil => rfl
  | cons p rest => simp [esR, frzsA_length]
theorem snoc_get {α : Type} (l : List α) (x : α) (k : Nat) (h : l.length = k) : (l ++ [x])[k]? = some x := by subst h; simp
theorem snoc_set {α : Type} (l : List α) (x y : α) (k : Nat) (h : l.length = k) : (l ++ [x]).set k y = l ++ [y] := by subst h; simp
theorem cutL_one {l : List Int} {i : Nat} (h : i < l.length) : cutL l ((i : Int), (i : Int)) = [l[i]] := by
  unfold cutL
  rw [show ((i : Int) + 1).toNat = i + 1 by omega, show (i : Int).toNat = i from rfl, List.take_succ_eq_append_getElem h, List.drop_append_of_le_length (by rw [List.length_take]; omega)]
  simp
theorem cutL_on {l : List Int} {i : Nat} (h : i < l.length) {p : Int × Int} (h1 : 0 ≤ p.1) (h2 : p.1 ≤ p.2) (h3 : p.2 = i - 1) : cutL l (p.1, (i : Int)) = cutL l p ++ [l[i]] := by
  unfold cutL
  rw [show ((i : Int) + 1).toNat = i + 1 by omega, show (p.2 + 1).toNat = i by omega, List.take_succ_eq_append_getElem h, List.drop_append_of_le_length (by rw [List.length_take]; omega)]

section
variable {s s' : Store} {f : Nat → Option Nat} {ty sz : Nat}
theorem RnB.snoc {a a' : List AV} {x x' : AV} (h1 : RnB s s' f ⟨ty, sz, a⟩ ⟨ty, sz, a'⟩) (h2 : (cellsOf x').length = (cellsOf x).length ∧ cellsOk x' ∧ ∀ (o : Nat) (c c' : AV), (cellsOf x)[o]? = some c → (cellsOf x')[o]? = some c' → Rn s s' f c c') :
    RnB s s' f ⟨ty, sz, a ++ [x]⟩ ⟨ty, sz, a' ++ [x']⟩ := by
  obtain ⟨_, _, g3, g4⟩ := h1
  simp only at g3 g4
  refine ⟨rfl, rfl, by simp [g3], fun i y y' k1 k2 => ?_⟩
  simp only at k1 k2
  by_cases hi : i < a.length
  · rw [List.getElem?_append_left hi] at k1
    rw [List.getElem?_append_left (by omega)] at k2
    exact g4 i y y' k1 k2
  · have hi' : i = a.length := by
      have := (List.getElem?_eq_some_iff.1 k1).1
      simp at this; omega
    rw [snoc_get a x i hi'.symm] at k1
    rw [snoc_get a' x' i (by omega)] at k2
    cases k1; cases k2
    exact h2
theorem cells3 {a b : Int} {c c' : AV} (hc : cell c' = true) (h : Rn s s' f c c') : (cellsOf (.agg [.int .i64 a, .int .i64 b, c'])).length = (cellsOf (.agg [.int .i64 a, .int .i64 b, c])).length ∧ cellsOk (.agg [.int .i64 a, .int .i64 b, c']) ∧ ∀ (o : Nat) (d d' : AV), (cellsOf (.agg [.int .i64 a, .int .i64 b, c]))[o]? = some d → (cellsOf (.agg [.int .i64 a, .int .i64 b, c']))[o]? = some d' → Rn s s' f d d' := by
  refine ⟨rfl, fun d hd => ?_, fun o d d' k1 k2 => ?_⟩
  · simp only [cellsOf, List.mem_cons, List.not_mem_nil, or_false] at hd
    rcases hd with rfl | rfl | rfl
    · rfl
    · rfl
    · exact hc
  · match o with
    | 0 => simp [cellsOf] at k1 k2; subst k1; subst k2; exact .imm _ rfl
    | 1 => simp [cellsOf] at k1 k2; subst k1; subst k2; exact .imm _ rfl
    | 2 => simp [cellsOf] at k1 k2; subst k1; subst k2; exact h
    | o + 3 => simp [cellsOf] at k1
theorem borB_last {len : Nat} {pre : List AV} {a b : Int} {k m ty' sz' : Nat} {cs : List Int} (hpre : pre.all fx = true) (hl : len = pre.length + 1) (hk : s k = some (some ⟨ty', sz', ints cs⟩)) (hm : m = cs.length) :
    borB s 4 len (some (some ⟨ty, sz, pre ++ [.agg [.int .i64 a, .int .i64 b, .buf k m]]⟩)) = .sl (pre ++ [.agg [.int .i64 a, .int .i64 b, .sl (ints cs)]]) := by
  have h1 : pre.map (bor s 4) = pre := by
    conv => rhs; rw [← List.map_id pre]
    exact List.map_congr_left fun x hx => (fx_spec (List.all_eq_true.1 hpre x hx)).2 s 4
  have h2 : bor s 4 (.agg [.int .i64 a, .int .i64 b, .buf k m]) = .agg [.int .i64 a, .int .i64 b, .sl (ints cs)] := by
    rw [bor_agg]
    simp only [List.map_cons, List.map_nil, bor_buf, hk]
    rw [borB_good _ _ _ _ _ (by rw [ints_length]; exact hm) (ints_fx _)]
    rfl
  have hmap : (pre ++ [AV.agg [.int .i64 a, .int .i64 b, .buf k m]]).map (bor s 4) = pre ++ [.agg [.int .i64 a, .int .i64 b, .sl (ints cs)]] := by
    rw [List.map_append, h1, List.map_cons, List.map_nil, h2]
  unfold borB
  simp only
  rw [List.take_of_length_le (by simp; omega), hmap, if_pos]
  simp only [Bool.and_eq_true, decide_eq_true_eq]
  refine ⟨by simp; omega, List.all_eq_true.2 fun x hx => ?_⟩
  rcases List.mem_append.1 hx with e | e
  · exact (fx_spec (List.all_eq_true.1 hpre x e)).1
  · rw [List.mem_singleton.1 e]; rfl
end
theorem esR_self {s s' : Store} {f : Nat → Option Nat} {ty sz : Nat} (l : List Int) (R : List (Int × Int)) (hf : f 101 = some 101) : RnB s s' f ⟨ty, sz, esR l R⟩ ⟨ty, sz, esR l R⟩ := by
  cases R with
  | nil => exact RnB.fxB rfl
  | cons p rest => exact RnB.snoc (RnB.fxB (frzsA_fxB _ _)) (cells3 rfl (.buf _ _ _ hf))
theorem frzsA_rev (l : List Int) (p : Int × Int) (rest : List (Int × Int)) : frzsA l (p :: rest).reverse = frzsA l rest.reverse ++ [frzA l p] := by simp [frzsA]
theorem esR_freeze {s s' : Store} {f : Nat → Option Nat} {ty sz t1 : Nat} (l : List Int) (R : List (Int × Int)) (hs : s 101 = some (some ⟨t1, 1, ints (lastC l R)⟩)) (hf : ∀ k', f k' ≠ some 101) : RnB s s' f ⟨ty, sz, esR l R⟩ ⟨ty, sz, frzsA l R.reverse⟩ := by
  cases R with
  | nil => exact RnB.fxB rfl
  | cons p rest =>
    rw [frzsA_rev]
    refine RnB.snoc (RnB.fxB (frzsA_fxB _ _)) (cells3 rfl ?_)
    have h := Rn.fz (s' := s') (f := f) 101 (cutL l p).length _ hs (by simp [lastC, ints_length]) (fun x hx => (fx_spec (ints_fx _ x hx)).1) hf
    have e : (ints (lastC l (p :: rest))).take (cutL l p).length = ints (cutL l p) := by
      rw [List.take_of_length_le (by simp [lastC, ints_length])]; rfl
    simp only [e] at h
    exact h
theorem frzsA_nil (l : List Int) : frzsA l (List.reverse []) = [] := rfl
theorem key2_ne {k a b x y z : Nat} (h1 : x ≠ z) (h2 : y ≠ z) (h : (if k = a then some x else if k = b then some y else none) = some z) : False := by
  by_cases e1 : k = a
  · rw [if_pos e1] at h; exact h1 (by injection h)
  · rw [if_neg e1] at h
    by_cases e2 : k = b
    · rw [if_pos e2] at h; exact h2 (by injection h)
    · rw [if_neg e2] at h; cases h
attribute [local irreducible] cutL frzsA
set_option maxHeartbeats 8000000 in
theorem Kept_s (r : Ring) (hr : r.ok) (l : List Int) (hl : l.length ≤ 60) (al : List Int) (hal : alOk l.length al) (ha60 : al.length ≤ 60) :
    Sound Try.prog 41 [r.av, .sl (ints l), .sl (ints al)] (.sl (frzsA l (runR (fun x => decide (keptP r l.length al x)) l.length).reverse)) := by
  refine sound_W f_ref08_Kept (Nat.le_of_ble_eq_true rfl) ?_
  have hM := marks_s r hr l.length hl al hal ha60
  obtain ⟨kf, hkf⟩ : ∃ kf : Nat → Bool, kf = fun x : Nat => decide (keptP r l.length al x) := ⟨_, rfl⟩
  rw [← hkf] at hM ⊢
  have hmax := maxLen_big
  simp only [c_ref08_Kept, Ring.av, vcV, vcD, Int.reduceEq, Int.reduceNe, Int.reduceLT, Int.reduceLE, Nat.reduceEqDiff, Nat.reduceAdd, reduceIte, reduceCtorEq, Nat.reduceLT, Nat.reduceLeDiff, eq_self, Option.bind_some, Option.map_some, List.map_cons, List.map_nil, List.length_cons, List.length_nil, Option.getD_some, Option.getD_none, List.all_cons, List.all_nil, List.set_cons_zero, List.set_cons_succ, List.replicate_succ, List.replicate_zero, List.getElem?_cons_zero, List.getElem?_cons_succ, List.drop_succ_cons, List.drop_zero, List.take_succ_cons, List.take_zero, List.map_append, List.nil_append, List.cons_append, Nat.reduceShiftRight, Nat.reduceMod]
  refine callS_of hM ?_
  clear hM hkf
  have hz1 : esR l (runR kf 0) = [] := rfl
  have hz2 : ints (lastC l (runR kf 0)) = [] := rfl
  have hz3 : (runR kf 0).length = 0 := rfl
  simp only [vcV, vcD, Int.reduceEq, Int.reduceNe, Int.reduceLT, Int.reduceLE, Nat.reduceEqDiff, Nat.reduceAdd, reduceIte, reduceCtorEq, Nat.reduceLT, Nat.reduceLeDiff, eq_self, Option.bind_some, Option.map_some, List.map_cons, List.map_nil, List.length_cons, List.length_nil, Option.getD_some, Option.getD_none, List.all_cons, List.all_nil, List.set_cons_zero, List.set_cons_succ, List.replicate_succ, List.replicate_zero, List.getElem?_cons_zero, List.getElem?_cons_succ, List.drop_succ_cons, List.drop_zero, List.take_succ_cons, List.take_zero, List.map_append, List.nil_append, List.cons_append, Nat.reduceShiftRight, Nat.reduceMod]
  refine W_loop (t := .mk) (α := PSigma fun i : Nat => i ≤ l.length ∧ True) (fun ⟨i, _⟩ => (envOf [(1, .sl (ints l)), (7, .buf 100 (runR kf i).length), (8, .sl (bmap kf l.length)), (9, .int .i64 i)], stOf [(100, ⟨74, 3, esR l (runR kf i)⟩), (101, ⟨3, 1, ints (lastC l (runR kf i))⟩)])) (fun i => l.length - i.1) ⟨0, Nat.zero_le _, trivial⟩ ?_ (fun ⟨i, hi, _⟩ => ?_)
  · refine weakX [(100, none), (101, none)] (of_decide_eq_true rfl) (of_decide_eq_true rfl) ?_
    (simp only [hz1, hz2, hz3, vcW, vcV, vcD, Int.reduceEq, Int.reduceNe, Int.reduceLT, Int.reduceLE, Nat.reduceEqDiff, Nat.reduceAdd, reduceIte, reduceCtorEq, Nat.reduceLT, Nat.reduceLeDiff, eq_self, Option.bind_some, Option.map_some, List.map_cons, List.map_nil, List.length_cons, List.length_nil, Option.getD_some, Option.getD_none, List.all_cons, List.all_nil, List.set_cons_zero, List.set_cons_succ, List.replicate_succ, List.replicate_zero, List.getElem?_cons_zero, List.getElem?_cons_succ, List.drop_succ_cons, List.drop_zero, List.take_succ_cons, List.take_zero, List.map_append, List.nil_append, List.cons_append, Nat.reduceShiftRight, Nat.reduceMod])
    (repeat' first | exact trivial | (with_reducible exact RnB.fxB (ints_fxB _)) | (with_reducible rfl) | (with_reducible refine And.intro ?_ ?_) | (with_reducible refine RnB.bb ?_; simp only [vcW, vcV, vcD, Int.reduceEq, Int.reduceNe, Int.reduceLT, Int.reduceLE, Nat.reduceEqDiff, Nat.reduceAdd, reduceIte, reduceCtorEq, Nat.reduceLT, Nat.reduceLeDiff, eq_self, Option.bind_some, Option.map_some, List.map_cons, List.map_nil, List.length_cons, List.length_nil, Option.getD_some, Option.getD_none, List.all_cons, List.all_nil, List.set_cons_zero, List.set_cons_succ, List.replicate_succ, List.replicate_zero, List.getElem?_cons_zero, List.getElem?_cons_succ, List.drop_succ_cons, List.drop_zero, List.take_succ_cons, List.take_zero, List.map_append, List.nil_append, List.cons_append, Nat.reduceShiftRight, Nat.reduceMod]) | (with_reducible refine RnB.nb ?_; simp only [vcW, vcV, vcD, Int.reduceEq, Int.reduceNe, Int.reduceLT, Int.reduceLE, Nat.reduceEqDiff, Nat.reduceAdd, reduceIte, reduceCtorEq, Nat.reduceLT, Nat.reduceLeDiff, eq_self, Option.bind_some, Option.map_some, List.map_cons, List.map_nil, List.length_cons, List.length_nil, Option.getD_some, Option.getD_none, List.all_cons, List.all_nil, List.set_cons_zero, List.set_cons_succ, List.replicate_succ, List.replicate_zero, List.getElem?_cons_zero, List.getElem?_cons_succ, List.drop_succ_cons, List.drop_zero, List.take_succ_cons, List.take_zero, List.map_append, List.nil_append, List.cons_append, Nat.reduceShiftRight, Nat.reduceMod]) | (with_reducible refine RnB.ii ?_) | (with_reducible refine RnB.app ?_) | (with_reducible refine RnB.fxB ?_; simp only [vcW, vcV, vcD, Int.reduceEq, Int.reduceNe, Int.reduceLT, Int.reduceLE, Nat.reduceEqDiff, Nat.reduceAdd, reduceIte, reduceCtorEq, Nat.reduceLT, Nat.reduceLeDiff, eq_self, Option.bind_some, Option.map_some, List.map_cons, List.map_nil, List.length_cons, List.length_nil, Option.getD_some, Option.getD_none, List.all_cons, List.all_nil, List.set_cons_zero, List.set_cons_succ, List.replicate_succ, List.replicate_zero, List.getElem?_cons_zero, List.getElem?_cons_succ, List.drop_succ_cons, List.drop_zero, List.take_succ_cons, List.take_zero, List.map_append, List.nil_append, List.cons_append, Nat.reduceShiftRight, Nat.reduceMod]) | omega)
  · simp only [vcV, vcD, Int.reduceEq, Int.reduceNe, Int.reduceLT, Int.reduceLE, Nat.reduceEqDiff, Nat.reduceAdd, reduceIte, reduceCtorEq, Nat.reduceLT, Nat.reduceLeDiff, eq_self, Option.bind_some, Option.map_some, List.map_cons, List.map_nil, List.length_cons, List.length_nil, Option.getD_some, Option.getD_none, List.all_cons, List.all_nil, List.set_cons_zero, List.set_cons_succ, List.replicate_succ, List.replicate_zero, List.getElem?_cons_zero, List.getElem?_cons_succ, List.drop_succ_cons, List.drop_zero, List.take_succ_cons, List.take_zero, List.map_append, List.nil_append, List.cons_append, Nat.reduceShiftRight, Nat.reduceMod]
    refine brB_split (fun h => ?_) (fun h => ?_)
    · have h' : i < l.length := by (simp only [decide_eq_true_eq, decide_eq_false_iff_not, Bool.not_true, I64, Bool.not_eq_true', Bool.not_eq_false', bne_iff_ne, beq_iff_eq, ne_eq] at *; omega)
      clear h
      obtain ⟨o1, o2, o3⟩ := runR_ok kf i
      have gk := bmap_get kf l.length i h'
      have gl := ints_get l i h'
      have hlen := esR_length l (runR kf i)
      by_cases hk : kf i = true
      · rw [hk] at gk
        by_cases hn : i = 0 ∨ kf (i - 1) = false
        · have hs := runR_new hk hn
          have hco := cutL_one h'
          generalize hRe : runR kf i = R at *
          obtain ⟨es, hes⟩ : ∃ es, es = esR l R := ⟨_, rfl⟩
          rw [← hes] at hlen ⊢
          have hgl : ∀ x : AV, (es ++ [x])[R.length]? = some x := fun x => snoc_get es x _ hlen
          have hsl : ∀ x y : AV, (es ++ [x]).set R.length y = es ++ [y] := fun x y => snoc_set es x y _ hlen
          have hll : ∀ x : AV, (es ++ [x]).length = R.length + 1 := fun x => by rw [List.length_append, hlen]; rfl
          have hco1 : lastC l (((i : Int), (i : Int)) :: R) = [l[i]] := hco
          have hco2 : esR l (((i : Int), (i : Int)) :: R) = frzsA l R.reverse ++ [.agg [.int .i64 i, .int .i64 i, .buf 101 1]] := by
            have : (cutL l ((i : Int), (i : Int))).length = 1 := by rw [hco]; rfl
            simp only [esR, this]
          have hlp : (R.length : Int) + 1 - 1 = (R.length : Int) := by omega
          have hlp2 : ((R.length + 1 : Nat) : Int) - 1 = (R.length : Int) := by omega
          rcases Nat.eq_zero_or_pos i with h0 | h0
          all_goals first
            | (have hI0 : ((i : Int) = 0) = True := eq_true (by omega)
               simp only [gk, bmap_length, hI0, vcV, vcD, Int.reduceEq, Int.reduceNe, Int.reduceLT, Int.reduceLE, Nat.reduceEqDiff, Nat.reduceAdd, reduceIte, reduceCtorEq, Nat.reduceLT, Nat.reduceLeDiff, eq_self, Option.bind_some, Option.map_some, List.map_cons, List.map_nil, List.length_cons, List.length_nil, Option.getD_some, Option.getD_none, List.all_cons, List.all_nil, List.set_cons_zero, List.set_cons_succ, List.replicate_succ, List.replicate_zero, List.getElem?_cons_zero, List.getElem?_cons_succ, List.drop_succ_cons, List.drop_zero, List.take_succ_cons, List.take_zero, List.map_append, List.nil_append, List.cons_append, Nat.reduceShiftRight, Nat.reduceMod])
            | (obtain ⟨q, hq⟩ : ∃ q, i = q + 1 := ⟨i - 1, by omega⟩
               have hI0 : ((i : Int) = 0) = False := eq_false (by omega)
               have hI1 : (i : Int) - 1 = (q : Int) := by omega
               have gq := bmap_get kf l.length q (by omega)
               rw [show kf q = false by rcases hn with e | e; omega; rw [hq] at e; exact e] at gq
               simp only [gk, bmap_length, hI0, hI1, gq, vcV, vcD, Int.reduceEq, Int.reduceNe, Int.reduceLT, Int.reduceLE, Nat.reduceEqDiff, Nat.reduceAdd, reduceIte, reduceCtorEq, Nat.reduceLT, Nat.reduceLeDiff, eq_self, Option.bind_some, Option.map_some, List.map_cons, List.map_nil, List.length_cons, List.length_nil, Option.getD_some, Option.getD_none, List.all_cons, List.all_nil, List.set_cons_zero, List.set_cons_succ, List.replicate_succ, List.replicate_zero, List.getElem?_cons_zero, List.getElem?_cons_succ, List.drop_succ_cons, List.drop_zero, List.take_succ_cons, List.take_zero, List.map_append, List.nil_append, List.cons_append, Nat.reduceShiftRight, Nat.reduceMod])
          all_goals
            (repeat (with_reducible refine And.intro ?_ ?_; focus (first | omega | (unfold I64; omega))))
            simp only [hgl, hsl, hlp, hlp2, gl, hll, vcV, vcD, Int.reduceEq, Int.reduceNe, Int.reduceLT, Int.reduceLE, Nat.reduceEqDiff, Nat.reduceAdd, reduceIte, reduceCtorEq, Nat.reduceLT, Nat.reduceLeDiff, eq_self, Option.bind_some, Option.map_some, List.map_cons, List.map_nil, List.length_cons, List.length_nil, Option.getD_some, Option.getD_none, List.all_cons, List.all_nil, List.set_cons_zero, List.set_cons_succ, List.replicate_succ, List.replicate_zero, List.getElem?_cons_zero, List.getElem?_cons_succ, List.drop_succ_cons, List.drop_zero, List.take_succ_cons, List.take_zero, List.map_append, List.nil_append, List.cons_append, Nat.reduceShiftRight, Nat.reduceMod]
            (repeat (with_reducible refine And.intro ?_ ?_; focus (first | omega | (unfold I64; omega))))
            refine ⟨⟨i + 1, h', trivial⟩, by simp only; omega, ?_⟩
            refine weakX [(100, some 42), (101, some 60)] (of_decide_eq_true rfl) (of_decide_eq_true rfl) ?_
            (simp only [hs, hco1, hco2, vcW, vcV, vcD, Int.reduceEq, Int.reduceNe, Int.reduceLT, Int.reduceLE, Nat.reduceEqDiff, Nat.reduceAdd, reduceIte, reduceCtorEq, Nat.reduceLT, Nat.reduceLeDiff, eq_self, Option.bind_some, Option.map_some, List.map_cons, List.map_nil, List.length_cons, List.length_nil, Option.getD_some, Option.getD_none, List.all_cons, List.all_nil, List.set_cons_zero, List.set_cons_succ, List.replicate_succ, List.replicate_zero, List.getElem?_cons_zero, List.getElem?_cons_succ, List.drop_succ_cons, List.drop_zero, List.take_succ_cons, List.take_zero, List.map_append, List.nil_append, List.cons_append, Nat.reduceShiftRight, Nat.reduceMod])
            (repeat' first | exact trivial | (with_reducible exact RnB.fxB (ints_fxB _)) | (with_reducible rfl) | (with_reducible refine And.intro ?_ ?_) | (with_reducible refine RnB.bb ?_; simp only [vcW, vcV, vcD, Int.reduceEq, Int.reduceNe, Int.reduceLT, Int.reduceLE, Nat.reduceEqDiff, Nat.reduceAdd, reduceIte, reduceCtorEq, Nat.reduceLT, Nat.reduceLeDiff, eq_self, Option.bind_some, Option.map_some, List.map_cons, List.map_nil, List.length_cons, List.length_nil, Option.getD_some, Option.getD_none, List.all_cons, List.all_nil, List.set_cons_zero, List.set_cons_succ, List.replicate_succ, List.replicate_zero, List.getElem?_cons_zero, List.getElem?_cons_succ, List.drop_succ_cons, List.drop_zero, List.take_succ_cons, List.take_zero, List.map_append, List.nil_append, List.cons_append, Nat.reduceShiftRight, Nat.reduceMod]) | (with_reducible refine RnB.nb ?_; simp only [vcW, vcV, vcD, Int.reduceEq, Int.reduceNe, Int.reduceLT, Int.reduceLE, Nat.reduceEqDiff, Nat.reduceAdd, reduceIte, reduceCtorEq, Nat.reduceLT, Nat.reduceLeDiff, eq_self, Option.bind_some, Option.map_some, List.map_cons, List.map_nil, List.length_cons, List.length_nil, Option.getD_some, Option.getD_none, List.all_cons, List.all_nil, List.set_cons_zero, List.set_cons_succ, List.replicate_succ, List.replicate_zero, List.getElem?_cons_zero, List.getElem?_cons_succ, List.drop_succ_cons, List.drop_zero, List.take_succ_cons, List.take_zero, List.map_append, List.nil_append, List.cons_append, Nat.reduceShiftRight, Nat.reduceMod]) | (with_reducible refine RnB.ii ?_) | (with_reducible refine RnB.app ?_) | (with_reducible refine RnB.fxB ?_; simp only [vcW, vcV, vcD, Int.reduceEq, Int.reduceNe, Int.reduceLT, Int.reduceLE, Nat.reduceEqDiff, Nat.reduceAdd, reduceIte, reduceCtorEq, Nat.reduceLT, Nat.reduceLeDiff, eq_self, Option.bind_some, Option.map_some, List.map_cons, List.map_nil, List.length_cons, List.length_nil, Option.getD_some, Option.getD_none, List.all_cons, List.all_nil, List.set_cons_zero, List.set_cons_succ, List.replicate_succ, List.replicate_zero, List.getElem?_cons_zero, List.getElem?_cons_succ, List.drop_succ_cons, List.drop_zero, List.take_succ_cons, List.take_zero, List.map_append, List.nil_append, List.cons_append, Nat.reduceShiftRight, Nat.reduceMod]) | omega)
            · rw [hes]
              refine RnB.snoc (esR_freeze (t1 := 3) l R ?_ ?_) (cells3 rfl (.buf 60 101 1 rfl))
              · simp only [upd_app, Nat.reduceEqDiff, reduceIte, stOf]
              · intro k' hk'
                simp only [Av.keyOf_cons] at hk'
                exact key2_ne (by decide) (by decide) hk'
            · exact RnB.fxB rfl
        · obtain ⟨p, rest, hR, hp⟩ := o3 (by omega) (by cases hq : kf (i - 1) with | true => rfl | false => exact absurd (.inr hq) hn)
          have hs := runR_on hk hn hR
          rw [hR] at o1 o2 hlen ⊢
          have hrl : rest.length ≤ 60 := by simp at o1; omega
          have hpm := o2 p List.mem_cons_self
          have hcut := cutL_on h' hpm.1 hpm.2.1 hp
          have hi0 : 0 < i := by omega
          have hco1 : lastC l ((p.1, (i : Int)) :: rest) = cutL l p ++ [l[i]] := hcut
          have hco3 : lastC l (p :: rest) = cutL l p := rfl
          have hes : esR l (p :: rest) = frzsA l rest.reverse ++ [.agg [.int .i64 p.1, .int .i64 p.2, .buf 101 (cutL l p).length]] := rfl
          have hco2 : esR l ((p.1, (i : Int)) :: rest) = frzsA l rest.reverse ++ [.agg [.int .i64 p.1, .int .i64 i, .buf 101 ((cutL l p).length + 1)]] := by
            have : (cutL l (p.1, (i : Int))).length = (cutL l p).length + 1 := by rw [hcut, List.length_append]; rfl
            simp only [esR, this]
          have hpl : (frzsA l rest.reverse).length = rest.length := by rw [frzsA_length, List.length_reverse]
          have hpf := frzsA_fxB l rest.reverse
          have hcl : (cutL l p).length ≤ 60 := by unfold cutL; rw [List.length_drop, List.length_take]; omega
          generalize cutL l p = cs at *
          generalize frzsA l rest.reverse = pre at *
          rw [hes, hco3]
          have hRl : (p :: rest).length = rest.length + 1 := rfl
          rw [hRl]
          have hgl : ∀ x : AV, (pre ++ [x])[rest.length]? = some x := fun x => snoc_get pre x _ hpl
          have hsl : ∀ x y : AV, (pre ++ [x]).set rest.length y = pre ++ [y] := fun x y => snoc_set pre x y _ hpl
          have hll : ∀ x : AV, (pre ++ [x]).length = rest.length + 1 := fun x => by rw [List.length_append, hpl]; rfl
          have hlp : ((rest.length + 1 : Nat) : Int) - 1 = (rest.length : Int) := by omega
          obtain ⟨q, hq⟩ : ∃ q, i = q + 1 := ⟨i - 1, by omega⟩
          have hI0 : ((i : Int) = 0) = False := eq_false (by omega)
          have hI1 : (i : Int) - 1 = (q : Int) := by omega
          have gq := bmap_get kf l.length q (by omega)
          rw [show kf q = true by cases hz : kf q with | true => rfl | false => exact absurd (.inr (by rw [hq]; exact hz)) hn] at gq
          simp only [gk, bmap_length, hI0, hI1, gq, vcV, vcD, Int.reduceEq, Int.reduceNe, Int.reduceLT, Int.reduceLE, Nat.reduceEqDiff, Nat.reduceAdd, reduceIte, reduceCtorEq, Nat.reduceLT, Nat.reduceLeDiff, eq_self, Option.bind_some, Option.map_some, List.map_cons, List.map_nil, List.length_cons, List.length_nil, Option.getD_some, Option.getD_none, List.all_cons, List.all_nil, List.set_cons_zero, List.set_cons_succ, List.replicate_succ, List.replicate_zero, List.getElem?_cons_zero, List.getElem?_cons_succ, List.drop_succ_cons, List.drop_zero, List.take_succ_cons, List.take_zero, List.map_append, List.nil_append, List.cons_append, Nat.reduceShiftRight, Nat.reduceMod]
          (repeat (with_reducible refine And.intro ?_ ?_; focus (first | omega | (unfold I64; omega))))
          simp only [hgl, hsl, hlp, gl, hll, vcV, vcD, Int.reduceEq, Int.reduceNe, Int.reduceLT, Int.reduceLE, Nat.reduceEqDiff, Nat.reduceAdd, reduceIte, reduceCtorEq, Nat.reduceLT, Nat.reduceLeDiff, eq_self, Option.bind_some, Option.map_some, List.map_cons, List.map_nil, List.length_cons, List.length_nil, Option.getD_some, Option.getD_none, List.all_cons, List.all_nil, List.set_cons_zero, List.set_cons_succ, List.replicate_succ, List.replicate_zero, List.getElem?_cons_zero, List.getElem?_cons_succ, List.drop_succ_cons, List.drop_zero, List.take_succ_cons, List.take_zero, List.map_append, List.nil_append, List.cons_append, Nat.reduceShiftRight, Nat.reduceMod]
          (repeat (with_reducible refine And.intro ?_ ?_; focus (first | omega | (unfold I64; omega))))
          refine ⟨⟨i + 1, h', trivial⟩, by simp only; omega, ?_⟩
          refine weakX [(100, some 100), (101, some 60)] (of_decide_eq_true rfl) (of_decide_eq_true rfl) ?_
          (simp only [hs, hco1, hco2, vcW, vcV, vcD, Int.reduceEq, Int.reduceNe, Int.reduceLT, Int.reduceLE, Nat.reduceEqDiff, Nat.reduceAdd, reduceIte, reduceCtorEq, Nat.reduceLT, Nat.reduceLeDiff, eq_self, Option.bind_some, Option.map_some, List.map_cons, List.map_nil, List.length_cons, List.length_nil, Option.getD_some, Option.getD_none, List.all_cons, List.all_nil, List.set_cons_zero, List.set_cons_succ, List.replicate_succ, List.replicate_zero, List.getElem?_cons_zero, List.getElem?_cons_succ, List.drop_succ_cons, List.drop_zero, List.take_succ_cons, List.take_zero, List.map_append, List.nil_append, List.cons_append, Nat.reduceShiftRight, Nat.reduceMod])
          (repeat' first | exact trivial | (with_reducible exact RnB.fxB (ints_fxB _)) | (with_reducible rfl) | (with_reducible refine And.intro ?_ ?_) | (with_reducible refine RnB.bb ?_; simp only [vcW, vcV, vcD, Int.reduceEq, Int.reduceNe, Int.reduceLT, Int.reduceLE, Nat.reduceEqDiff, Nat.reduceAdd, reduceIte, reduceCtorEq, Nat.reduceLT, Nat.reduceLeDiff, eq_self, Option.bind_some, Option.map_some, List.map_cons, List.map_nil, List.length_cons, List.length_nil, Option.getD_some, Option.getD_none, List.all_cons, List.all_nil, List.set_cons_zero, List.set_cons_succ, List.replicate_succ, List.replicate_zero, List.getElem?_cons_zero, List.getElem?_cons_succ, List.drop_succ_cons, List.drop_zero, List.take_succ_cons, List.take_zero, List.map_append, List.nil_append, List.cons_append, Nat.reduceShiftRight, Nat.reduceMod]) | (with_reducible refine RnB.nb ?_; simp only [vcW, vcV, vcD, Int.reduceEq, Int.reduceNe, Int.reduceLT, Int.reduceLE, Nat.reduceEqDiff, Nat.reduceAdd, reduceIte, reduceCtorEq, Nat.reduceLT, Nat.reduceLeDiff, eq_self, Option.bind_some, Option.map_some, List.map_cons, List.map_nil, List.length_cons, List.length_nil, Option.getD_some, Option.getD_none, List.all_cons, List.all_nil, List.set_cons_zero, List.set_cons_succ, List.replicate_succ, List.replicate_zero, List.getElem?_cons_zero, List.getElem?_cons_succ, List.drop_succ_cons, List.drop_zero, List.take_succ_cons, List.take_zero, List.map_append, List.nil_append, List.cons_append, Nat.reduceShiftRight, Nat.reduceMod]) | (with_reducible refine RnB.ii ?_) | (with_reducible refine RnB.app ?_) | (with_reducible refine RnB.fxB ?_; simp only [vcW, vcV, vcD, Int.reduceEq, Int.reduceNe, Int.reduceLT, Int.reduceLE, Nat.reduceEqDiff, Nat.reduceAdd, reduceIte, reduceCtorEq, Nat.reduceLT, Nat.reduceLeDiff, eq_self, Option.bind_some, Option.map_some, List.map_cons, List.map_nil, List.length_cons, List.length_nil, Option.getD_some, Option.getD_none, List.all_cons, List.all_nil, List.set_cons_zero, List.set_cons_succ, List.replicate_succ, List.replicate_zero, List.getElem?_cons_zero, List.getElem?_cons_succ, List.drop_succ_cons, List.drop_zero, List.take_succ_cons, List.take_zero, List.map_append, List.nil_append, List.cons_append, Nat.reduceShiftRight, Nat.reduceMod]) | omega)
          exact RnB.snoc (RnB.fxB hpf) (cells3 rfl (.buf 60 101 _ rfl))
      · have hk' : kf i = false := by simpa using hk
        rw [hk'] at gk
        have hs := runR_no hk'
        simp only [gk, bmap_length, vcV, vcD, Int.reduceEq, Int.reduceNe, Int.reduceLT, Int.reduceLE, Nat.reduceEqDiff, Nat.reduceAdd, reduceIte, reduceCtorEq, Nat.reduceLT, Nat.reduceLeDiff, eq_self, Option.bind_some, Option.map_some, List.map_cons, List.map_nil, List.length_cons, List.length_nil, Option.getD_some, Option.getD_none, List.all_cons, List.all_nil, List.set_cons_zero, List.set_cons_succ, List.replicate_succ, List.replicate_zero, List.getElem?_cons_zero, List.getElem?_cons_succ, List.drop_succ_cons, List.drop_zero, List.take_succ_cons, List.take_zero, List.map_append, List.nil_append, List.cons_append, Nat.reduceShiftRight, Nat.reduceMod]
        (repeat (with_reducible refine And.intro ?_ ?_; focus (first | omega | (unfold I64; omega))))
        refine ⟨⟨i + 1, h', trivial⟩, by simp only; omega, ?_⟩
        refine weakX [(100, some 100), (101, some 101)] (of_decide_eq_true rfl) (of_decide_eq_true rfl) ?_
        (simp only [hs, vcW, vcV, vcD, Int.reduceEq, Int.reduceNe, Int.reduceLT, Int.reduceLE, Nat.reduceEqDiff, Nat.reduceAdd, reduceIte, reduceCtorEq, Nat.reduceLT, Nat.reduceLeDiff, eq_self, Option.bind_some, Option.map_some, List.map_cons, List.map_nil, List.length_cons, List.length_nil, Option.getD_some, Option.getD_none, List.all_cons, List.all_nil, List.set_cons_zero, List.set_cons_succ, List.replicate_succ, List.replicate_zero, List.getElem?_cons_zero, List.getElem?_cons_succ, List.drop_succ_cons, List.drop_zero, List.take_succ_cons, List.take_zero, List.map_append, List.nil_append, List.cons_append, Nat.reduceShiftRight, Nat.reduceMod])
        (repeat' first | exact trivial | (with_reducible exact RnB.fxB (ints_fxB _)) | (with_reducible rfl) | (with_reducible refine And.intro ?_ ?_) | (with_reducible refine RnB.bb ?_; simp only [vcW, vcV, vcD, Int.reduceEq, Int.reduceNe, Int.reduceLT, Int.reduceLE, Nat.reduceEqDiff, Nat.reduceAdd, reduceIte, reduceCtorEq, Nat.reduceLT, Nat.reduceLeDiff, eq_self, Option.bind_some, Option.map_some, List.map_cons, List.map_nil, List.length_cons, List.length_nil, Option.getD_some, Option.getD_none, List.all_cons, List.all_nil, List.set_cons_zero, List.set_cons_succ, List.replicate_succ, List.replicate_zero, List.getElem?_cons_zero, List.getElem?_cons_succ, List.drop_succ_cons, List.drop_zero, List.take_succ_cons, List.take_zero, List.map_append, List.nil_append, List.cons_append, Nat.reduceShiftRight, Nat.reduceMod]) | (with_reducible refine RnB.nb ?_; simp only [vcW, vcV, vcD, Int.reduceEq, Int.reduceNe, Int.reduceLT, Int.reduceLE, Nat.reduceEqDiff, Nat.reduceAdd, reduceIte, reduceCtorEq, Nat.reduceLT, Nat.reduceLeDiff, eq_self, Option.bind_some, Option.map_some, List.map_cons, List.map_nil, List.length_cons, List.length_nil, Option.getD_some, Option.getD_none, List.all_cons, List.all_nil, List.set_cons_zero, List.set_cons_succ, List.replicate_succ, List.replicate_zero, List.getElem?_cons_zero, List.getElem?_cons_succ, List.drop_succ_cons, List.drop_zero, List.take_succ_cons, List.take_zero, List.map_append, List.nil_append, List.cons_append, Nat.reduceShiftRight, Nat.reduceMod]) | (with_reducible refine RnB.ii ?_) | (with_reducible refine RnB.app ?_) | (with_reducible refine RnB.fxB ?_; simp only [vcW, vcV, vcD, Int.reduceEq, Int.reduceNe, Int.reduceLT, Int.reduceLE, Nat.reduceEqDiff, Nat.reduceAdd, reduceIte, reduceCtorEq, Nat.reduceLT, Nat.reduceLeDiff, eq_self, Option.bind_some, Option.map_some, List.map_cons, List.map_nil, List.length_cons, List.length_nil, Option.getD_some, Option.getD_none, List.all_cons, List.all_nil, List.set_cons_zero, List.set_cons_succ, List.replicate_succ, List.replicate_zero, List.getElem?_cons_zero, List.getElem?_cons_succ, List.drop_succ_cons, List.drop_zero, List.take_succ_cons, List.take_zero, List.map_append, List.nil_append, List.cons_append, Nat.reduceShiftRight, Nat.reduceMod]) | omega)
        exact esR_self l _ rfl
    · have hin : i = l.length := by (simp only [decide_eq_true_eq, decide_eq_false_iff_not, Bool.not_true, I64, Bool.not_eq_true', Bool.not_eq_false', bne_iff_ne, beq_iff_eq, ne_eq] at *; omega)
      cases hin
      cases hR : runR kf l.length with
      | nil =>
        have he : esR l [] = [] := rfl
        simp only [he, vcV, vcD, Int.reduceEq, Int.reduceNe, Int.reduceLT, Int.reduceLE, Nat.reduceEqDiff, Nat.reduceAdd, reduceIte, reduceCtorEq, Nat.reduceLT, Nat.reduceLeDiff, eq_self, Option.bind_some, Option.map_some, List.map_cons, List.map_nil, List.length_cons, List.length_nil, Option.getD_some, Option.getD_none, List.all_cons, List.all_nil, List.set_cons_zero, List.set_cons_succ, List.replicate_succ, List.replicate_zero, List.getElem?_cons_zero, List.getElem?_cons_succ, List.drop_succ_cons, List.drop_zero, List.take_succ_cons, List.take_zero, List.map_append, List.nil_append, List.cons_append, Nat.reduceShiftRight, Nat.reduceMod]
        rw [frzsA_nil]
        exact borB_good 4 0 _ _ [] rfl (fun x hx => by cases hx)
      | cons p rest =>
        have hes : esR l (p :: rest) = frzsA l rest.reverse ++ [.agg [.int .i64 p.1, .int .i64 p.2, .buf 101 (cutL l p).length]] := rfl
        have hco3 : lastC l (p :: rest) = cutL l p := rfl
        have hrev := frzsA_rev l p rest
        have hfa : frzA l p = .agg [.int .i64 p.1, .int .i64 p.2, .sl (ints (cutL l p))] := rfl
        have hpl : (frzsA l rest.reverse).length = rest.length := by rw [frzsA_length, List.length_reverse]
        rw [hes, hco3]
        simp only [vcV, vcD, Int.reduceEq, Int.reduceNe, Int.reduceLT, Int.reduceLE, Nat.reduceEqDiff, Nat.reduceAdd, reduceIte, reduceCtorEq, Nat.reduceLT, Nat.reduceLeDiff, eq_self, Option.bind_some, Option.map_some, List.map_cons, List.map_nil, List.length_cons, List.length_nil, Option.getD_some, Option.getD_none, List.all_cons, List.all_nil, List.set_cons_zero, List.set_cons_succ, List.replicate_succ, List.replicate_zero, List.getElem?_cons_zero, List.getElem?_cons_succ, List.drop_succ_cons, List.drop_zero, List.take_succ_cons, List.take_zero, List.map_append, List.nil_append, List.cons_append, Nat.reduceShiftRight, Nat.reduceMod]
        rw [borB_last (frzsA_fxB _ _) (by rw [hpl]) (cs := cutL l p) (ty' := 3) (sz' := 1) rfl rfl]
        rw [hrev, hfa]
end Go.Proofs.Ytaebfjepacnmhaa

/- Contracts: what the reference loses; freezes held against each other; both ways. By an AI agent; nothing here is trusted. -/
namespace Go.Proofs.Ytaebfjepacnmhaa
open Go.Av

def lostK (r : Ring) (al : List Int) (kf : Nat → Bool) : Nat → List Int
  | 0 => []
  | i + 1 => lostK r al kf i ++ (if asked r al i && !kf i then [(i : Int)] else [])
theorem lostK_le (r : Ring) (al : List Int) (kf : Nat → Bool) : ∀ i, (lostK r al kf i).length ≤ i
  | 0 => Nat.le_refl _
  | i + 1 => by
    have := lostK_le r al kf i
    rw [lostK, List.length_append]
    split <;> simp <;> omega
theorem lostK_eq (r : Ring) (al : List Int) (fs : List (Int × Int)) (kf : Nat → Bool) : ∀ (i : Nat), (∀ x : Nat, x < i → kf x = hasF fs x) → lostK r al kf i = lostTo r al fs i
  | 0, _ => rfl
  | i + 1, h => by rw [lostK, lostTo, lostK_eq r al fs kf i (fun x hx => h x (by omega)), h i (by omega)]
def askTo (r : Ring) (al : List Int) (b : Int) (j : Nat) : Bool := (al.take j).any fun a => decide (a - r.before ≤ b ∧ b ≤ a)
theorem askTo_succ (r : Ring) (al : List Int) (b : Int) (j : Nat) (h : j < al.length) : askTo r al b (j + 1) = (askTo r al b j || decide (al[j] - r.before ≤ b ∧ b ≤ al[j])) := by
  unfold askTo
  rw [List.take_succ_eq_append_getElem h, List.any_append]; simp
theorem askTo_all (r : Ring) (al : List Int) (b : Int) : askTo r al b al.length = asked r al b := by unfold askTo asked; rw [List.take_length]

set_option maxHeartbeats 8000000 in
theorem refLost_s (r : Ring) (hr : r.ok) (l : List Int) (hl : l.length ≤ 60) (al : List Int) (hal : alOk l.length al) (ha60 : al.length ≤ 60) :
    Sound Try.prog 43 [r.av, .sl (ints l), .sl (ints al)] (.sl (ints (lostK r al (fun x => decide (keptP r l.length al x)) l.length))) := by
  refine sound_W f_ref08_Lost (Nat.le_of_ble_eq_true rfl) ?_
  have hM := marks_s r hr l.length hl al hal ha60
  obtain ⟨kf, hkf⟩ : ∃ kf : Nat → Bool, kf = fun x : Nat => decide (keptP r l.length al x) := ⟨_, rfl⟩
  rw [← hkf] at hM ⊢
  obtain ⟨hr1, hr2, hr3⟩ := id hr
  have hmax := maxLen_big
  simp only [c_ref08_Lost, Ring.av, vcV, vcD, Int.reduceEq, Int.reduceNe, Int.reduceLT, Int.reduceLE, Nat.reduceEqDiff, Nat.reduceAdd, reduceIte, reduceCtorEq, Nat.reduceLT, Nat.reduceLeDiff, eq_self, Option.bind_some, Option.map_some, List.map_cons, List.map_nil, List.length_cons, List.length_nil, Option.getD_some, Option.getD_none, List.all_cons, List.all_nil, List.set_cons_zero, List.set_cons_succ, List.replicate_succ, List.replicate_zero, List.getElem?_cons_zero, List.getElem?_cons_succ, List.drop_succ_cons, List.drop_zero, List.take_succ_cons, List.take_zero, List.map_append, List.nil_append, List.cons_append, Nat.reduceShiftRight, Nat.reduceMod]
  refine callS_of hM ?_
  clear hM hkf
  simp only [vcV, vcD, Int.reduceEq, Int.reduceNe, Int.reduceLT, Int.reduceLE, Nat.reduceEqDiff, Nat.reduceAdd, reduceIte, reduceCtorEq, Nat.reduceLT, Nat.reduceLeDiff, eq_self, Option.bind_some, Option.map_some, List.map_cons, List.map_nil, List.length_cons, List.length_nil, Option.getD_some, Option.getD_none, List.all_cons, List.all_nil, List.set_cons_zero, List.set_cons_succ, List.replicate_succ, List.replicate_zero, List.getElem?_cons_zero, List.getElem?_cons_succ, List.drop_succ_cons, List.drop_zero, List.take_succ_cons, List.take_zero, List.map_append, List.nil_append, List.cons_append, Nat.reduceShiftRight, Nat.reduceMod]
  refine W_loop (t := .mk) (α := PSigma fun i : Nat => i ≤ l.length ∧ (True)) (fun ⟨i, _⟩ => ((envOf [(1, .sl (ints l)), (2, .sl (ints al)), (3, .ptr 3 0 0), (7, .buf 100 (lostK r al kf i).length), (8, .sl (bmap kf l.length)), (9, .int .i64 i)], stOf [(3, ⟨59, 3, [.agg [.int .i64 r.cap, .int .i64 r.before, .int .i64 r.after]]⟩), (100, ⟨3, 1, ints (lostK r al kf i)⟩)]))) (fun i => l.length - i.1) ⟨0, Nat.zero_le _, ?_⟩ ?_ (fun ⟨i, hi, hn⟩ => ?_)
  · trivial
  · have hz : lostK r al kf 0 = [] := rfl
    have hz2 : ints [] = [] := rfl
    refine weakX [(100, none)] (of_decide_eq_true rfl) (of_decide_eq_true rfl) ?_
    (simp only [hz, hz2, vcW, vcV, vcD, Int.reduceEq, Int.reduceNe, Int.reduceLT, Int.reduceLE, Nat.reduceEqDiff, Nat.reduceAdd, reduceIte, reduceCtorEq, Nat.reduceLT, Nat.reduceLeDiff, eq_self, Option.bind_some, Option.map_some, List.map_cons, List.map_nil, List.length_cons, List.length_nil, Option.getD_some, Option.getD_none, List.all_cons, List.all_nil, List.set_cons_zero, List.set_cons_succ, List.replicate_succ, List.replicate_zero, List.getElem?_cons_zero, List.getElem?_cons_succ, List.drop_succ_cons, List.drop_zero, List.take_succ_cons, List.take_zero, List.map_append, List.nil_append, List.cons_append, Nat.reduceShiftRight, Nat.reduceMod])
    (repeat' first | exact trivial | (with_reducible exact RnB.fxB (ints_fxB _)) | (with_reducible rfl) | (with_reducible refine And.intro ?_ ?_) | (with_reducible refine RnB.bb ?_; simp only [vcW, vcV, vcD, Int.reduceEq, Int.reduceNe, Int.reduceLT, Int.reduceLE, Nat.reduceEqDiff, Nat.reduceAdd, reduceIte, reduceCtorEq, Nat.reduceLT, Nat.reduceLeDiff, eq_self, Option.bind_some, Option.map_some, List.map_cons, List.map_nil, List.length_cons, List.length_nil, Option.getD_some, Option.getD_none, List.all_cons, List.all_nil, List.set_cons_zero, List.set_cons_succ, List.replicate_succ, List.replicate_zero, List.getElem?_cons_zero, List.getElem?_cons_succ, List.drop_succ_cons, List.drop_zero, List.take_succ_cons, List.take_zero, List.map_append, List.nil_append, List.cons_append, Nat.reduceShiftRight, Nat.reduceMod]) | (with_reducible refine RnB.nb ?_; simp only [vcW, vcV, vcD, Int.reduceEq, Int.reduceNe, Int.reduceLT, Int.reduceLE, Nat.reduceEqDiff, Nat.reduceAdd, reduceIte, reduceCtorEq, Nat.reduceLT, Nat.reduceLeDiff, eq_self, Option.bind_some, Option.map_some, List.map_cons, List.map_nil, List.length_cons, List.length_nil, Option.getD_some, Option.getD_none, List.all_cons, List.all_nil, List.set_cons_zero, List.set_cons_succ, List.replicate_succ, List.replicate_zero, List.getElem?_cons_zero, List.getElem?_cons_succ, List.drop_succ_cons, List.drop_zero, List.take_succ_cons, List.take_zero, List.map_append, List.nil_append, List.cons_append, Nat.reduceShiftRight, Nat.reduceMod]) | (with_reducible refine RnB.ii ?_) | (with_reducible refine RnB.app ?_) | (with_reducible refine RnB.fxB ?_; simp only [vcW, vcV, vcD, Int.reduceEq, Int.reduceNe, Int.reduceLT, Int.reduceLE, Nat.reduceEqDiff, Nat.reduceAdd, reduceIte, reduceCtorEq, Nat.reduceLT, Nat.reduceLeDiff, eq_self, Option.bind_some, Option.map_some, List.map_cons, List.map_nil, List.length_cons, List.length_nil, Option.getD_some, Option.getD_none, List.all_cons, List.all_nil, List.set_cons_zero, List.set_cons_succ, List.replicate_succ, List.replicate_zero, List.getElem?_cons_zero, List.getElem?_cons_succ, List.drop_succ_cons, List.drop_zero, List.take_succ_cons, List.take_zero, List.map_append, List.nil_append, List.cons_append, Nat.reduceShiftRight, Nat.reduceMod]) | omega)
  · simp only [vcV, vcD, Int.reduceEq, Int.reduceNe, Int.reduceLT, Int.reduceLE, Nat.reduceEqDiff, Nat.reduceAdd, reduceIte, reduceCtorEq, Nat.reduceLT, Nat.reduceLeDiff, eq_self, Option.bind_some, Option.map_some, List.map_cons, List.map_nil, List.length_cons, List.length_nil, Option.getD_some, Option.getD_none, List.all_cons, List.all_nil, List.set_cons_zero, List.set_cons_succ, List.replicate_succ, List.replicate_zero, List.getElem?_cons_zero, List.getElem?_cons_succ, List.drop_succ_cons, List.drop_zero, List.take_succ_cons, List.take_zero, List.map_append, List.nil_append, List.cons_append, Nat.reduceShiftRight, Nat.reduceMod]
    refine brB_split (fun h => ?_) (fun h => ?_)
    · have h' : i < l.length := by (simp only [decide_eq_true_eq, decide_eq_false_iff_not, Bool.not_true, I64, Bool.not_eq_true', Bool.not_eq_false', bne_iff_ne, beq_iff_eq, ne_eq] at *; omega)
      clear h
      have gk := bmap_get kf l.length i h'
      have hle := lostK_le r al kf i
      have hs : lostK r al kf (i + 1) = lostK r al kf i ++ (if asked r al i && !kf i then [(i : Int)] else []) := rfl
      have hall := askTo_all r al i
      have hz : askTo r al i 0 = false := rfl
      simp only [vcV, vcD, Int.reduceEq, Int.reduceNe, Int.reduceLT, Int.reduceLE, Nat.reduceEqDiff, Nat.reduceAdd, reduceIte, reduceCtorEq, Nat.reduceLT, Nat.reduceLeDiff, eq_self, Option.bind_some, Option.map_some, List.map_cons, List.map_nil, List.length_cons, List.length_nil, Option.getD_some, Option.getD_none, List.all_cons, List.all_nil, List.set_cons_zero, List.set_cons_succ, List.replicate_succ, List.replicate_zero, List.getElem?_cons_zero, List.getElem?_cons_succ, List.drop_succ_cons, List.drop_zero, List.take_succ_cons, List.take_zero, List.map_append, List.nil_append, List.cons_append, Nat.reduceShiftRight, Nat.reduceMod]
      refine W_loop (t := .mk) (α := PSigma fun j : Nat => j ≤ al.length ∧ True) (fun ⟨j, _⟩ => (envOf [(1, .sl (ints l)), (2, .sl (ints al)), (3, .ptr 3 0 0), (7, .buf 100 (lostK r al kf i).length), (8, .sl (bmap kf l.length)), (9, .int .i64 i), (10, .bool (askTo r al i j)), (11, .int .i64 j)], stOf [(3, ⟨59, 3, [.agg [.int .i64 r.cap, .int .i64 r.before, .int .i64 r.after]]⟩), (100, ⟨3, 1, ints (lostK r al kf i)⟩)])) (fun j => al.length - j.1) ⟨0, Nat.zero_le _, trivial⟩ ?_ (fun ⟨j, hj, _⟩ => ?_)
      · refine weakX [(100, some 100)] (of_decide_eq_true rfl) (of_decide_eq_true rfl) ?_
        (simp only [hz, vcW, vcV, vcD, Int.reduceEq, Int.reduceNe, Int.reduceLT, Int.reduceLE, Nat.reduceEqDiff, Nat.reduceAdd, reduceIte, reduceCtorEq, Nat.reduceLT, Nat.reduceLeDiff, eq_self, Option.bind_some, Option.map_some, List.map_cons, List.map_nil, List.length_cons, List.length_nil, Option.getD_some, Option.getD_none, List.all_cons, List.all_nil, List.set_cons_zero, List.set_cons_succ, List.replicate_succ, List.replicate_zero, List.getElem?_cons_zero, List.getElem?_cons_succ, List.drop_succ_cons, List.drop_zero, List.take_succ_cons, List.take_zero, List.map_append, List.nil_append, List.cons_append, Nat.reduceShiftRight, Nat.reduceMod])
        (repeat' first | exact trivial | (with_reducible exact RnB.fxB (ints_fxB _)) | (with_reducible rfl) | (with_reducible refine And.intro ?_ ?_) | (with_reducible refine RnB.bb ?_; simp only [vcW, vcV, vcD, Int.reduceEq, Int.reduceNe, Int.reduceLT, Int.reduceLE, Nat.reduceEqDiff, Nat.reduceAdd, reduceIte, reduceCtorEq, Nat.reduceLT, Nat.reduceLeDiff, eq_self, Option.bind_some, Option.map_some, List.map_cons, List.map_nil, List.length_cons, List.length_nil, Option.getD_some, Option.getD_none, List.all_cons, List.all_nil, List.set_cons_zero, List.set_cons_succ, List.replicate_succ, List.replicate_zero, List.getElem?_cons_zero, List.getElem?_cons_succ, List.drop_succ_cons, List.drop_zero, List.take_succ_cons, List.take_zero, List.map_append, List.nil_append, List.cons_append, Nat.reduceShiftRight, Nat.reduceMod]) | (with_reducible refine RnB.nb ?_; simp only [vcW, vcV, vcD, Int.reduceEq, Int.reduceNe, Int.reduceLT, Int.reduceLE, Nat.reduceEqDiff, Nat.reduceAdd, reduceIte, reduceCtorEq, Nat.reduceLT, Nat.reduceLeDiff, eq_self, Option.bind_some, Option.map_some, List.map_cons, List.map_nil, List.length_cons, List.length_nil, Option.getD_some, Option.getD_none, List.all_cons, List.all_nil, List.set_cons_zero, List.set_cons_succ, List.replicate_succ, List.replicate_zero, List.getElem?_cons_zero, List.getElem?_cons_succ, List.drop_succ_cons, List.drop_zero, List.take_succ_cons, List.take_zero, List.map_append, List.nil_append, List.cons_append, Nat.reduceShiftRight, Nat.reduceMod]) | (with_reducible refine RnB.ii ?_) | (with_reducible refine RnB.app ?_) | (with_reducible refine RnB.fxB ?_; simp only [vcW, vcV, vcD, Int.reduceEq, Int.reduceNe, Int.reduceLT, Int.reduceLE, Nat.reduceEqDiff, Nat.reduceAdd, reduceIte, reduceCtorEq, Nat.reduceLT, Nat.reduceLeDiff, eq_self, Option.bind_some, Option.map_some, List.map_cons, List.map_nil, List.length_cons, List.length_nil, Option.getD_some, Option.getD_none, List.all_cons, List.all_nil, List.set_cons_zero, List.set_cons_succ, List.replicate_succ, List.replicate_zero, List.getElem?_cons_zero, List.getElem?_cons_succ, List.drop_succ_cons, List.drop_zero, List.take_succ_cons, List.take_zero, List.map_append, List.nil_append, List.cons_append, Nat.reduceShiftRight, Nat.reduceMod]) | omega)
      · simp only [vcV, vcD, Int.reduceEq, Int.reduceNe, Int.reduceLT, Int.reduceLE, Nat.reduceEqDiff, Nat.reduceAdd, reduceIte, reduceCtorEq, Nat.reduceLT, Nat.reduceLeDiff, eq_self, Option.bind_some, Option.map_some, List.map_cons, List.map_nil, List.length_cons, List.length_nil, Option.getD_some, Option.getD_none, List.all_cons, List.all_nil, List.set_cons_zero, List.set_cons_succ, List.replicate_succ, List.replicate_zero, List.getElem?_cons_zero, List.getElem?_cons_succ, List.drop_succ_cons, List.drop_zero, List.take_succ_cons, List.take_zero, List.map_append, List.nil_append, List.cons_append, Nat.reduceShiftRight, Nat.reduceMod]
        refine brB_split (fun h => ?_) (fun h => ?_)
        · have hj' : j < al.length := by (simp only [decide_eq_true_eq, decide_eq_false_iff_not, Bool.not_true, I64, Bool.not_eq_true', Bool.not_eq_false', bne_iff_ne, beq_iff_eq, ne_eq] at *; omega)
          clear h
          have hg := ints_get al j hj'
          have hb := hal.1 _ (List.getElem_mem hj')
          have hsu := askTo_succ r al i j hj'
          generalize al[j] = a at *
          cases hA : askTo r al i j with
          | true =>
            rw [hA, Bool.true_or] at hsu
            simp only [vcV, vcD, Int.reduceEq, Int.reduceNe, Int.reduceLT, Int.reduceLE, Nat.reduceEqDiff, Nat.reduceAdd, reduceIte, reduceCtorEq, Nat.reduceLT, Nat.reduceLeDiff, eq_self, Option.bind_some, Option.map_some, List.map_cons, List.map_nil, List.length_cons, List.length_nil, Option.getD_some, Option.getD_none, List.all_cons, List.all_nil, List.set_cons_zero, List.set_cons_succ, List.replicate_succ, List.replicate_zero, List.getElem?_cons_zero, List.getElem?_cons_succ, List.drop_succ_cons, List.drop_zero, List.take_succ_cons, List.take_zero, List.map_append, List.nil_append, List.cons_append, Nat.reduceShiftRight, Nat.reduceMod]
            (repeat (with_reducible refine And.intro ?_ ?_; focus (first | omega | (unfold I64; omega))))
            refine ⟨⟨j + 1, hj', trivial⟩, by simp only; omega, ?_⟩
            refine weakX [(100, some 100)] (of_decide_eq_true rfl) (of_decide_eq_true rfl) ?_
            (simp only [hsu, vcW, vcV, vcD, Int.reduceEq, Int.reduceNe, Int.reduceLT, Int.reduceLE, Nat.reduceEqDiff, Nat.reduceAdd, reduceIte, reduceCtorEq, Nat.reduceLT, Nat.reduceLeDiff, eq_self, Option.bind_some, Option.map_some, List.map_cons, List.map_nil, List.length_cons, List.length_nil, Option.getD_some, Option.getD_none, List.all_cons, List.all_nil, List.set_cons_zero, List.set_cons_succ, List.replicate_succ, List.replicate_zero, List.getElem?_cons_zero, List.getElem?_cons_succ, List.drop_succ_cons, List.drop_zero, List.take_succ_cons, List.take_zero, List.map_append, List.nil_append, List.cons_append, Nat.reduceShiftRight, Nat.reduceMod])
            (repeat' first | exact trivial | (with_reducible exact RnB.fxB (ints_fxB _)) | (with_reducible rfl) | (with_reducible refine And.intro ?_ ?_) | (with_reducible refine RnB.bb ?_; simp only [vcW, vcV, vcD, Int.reduceEq, Int.reduceNe, Int.reduceLT, Int.reduceLE, Nat.reduceEqDiff, Nat.reduceAdd, reduceIte, reduceCtorEq, Nat.reduceLT, Nat.reduceLeDiff, eq_self, Option.bind_some, Option.map_some, List.map_cons, List.map_nil, List.length_cons, List.length_nil, Option.getD_some, Option.getD_none, List.all_cons, List.all_nil, List.set_cons_zero, List.set_cons_succ, List.replicate_succ, List.replicate_zero, List.getElem?_cons_zero, List.getElem?_cons_succ, List.drop_succ_cons, List.drop_zero, List.take_succ_cons, List.take_zero, List.map_append, List.nil_append, List.cons_append, Nat.reduceShiftRight, Nat.reduceMod]) | (with_reducible refine RnB.nb ?_; simp only [vcW, vcV, vcD, Int.reduceEq, Int.reduceNe, Int.reduceLT, Int.reduceLE, Nat.reduceEqDiff, Nat.reduceAdd, reduceIte, reduceCtorEq, Nat.reduceLT, Nat.reduceLeDiff, eq_self, Option.bind_some, Option.map_some, List.map_cons, List.map_nil, List.length_cons, List.length_nil, Option.getD_some, Option.getD_none, List.all_cons, List.all_nil, List.set_cons_zero, List.set_cons_succ, List.replicate_succ, List.replicate_zero, List.getElem?_cons_zero, List.getElem?_cons_succ, List.drop_succ_cons, List.drop_zero, List.take_succ_cons, List.take_zero, List.map_append, List.nil_append, List.cons_append, Nat.reduceShiftRight, Nat.reduceMod]) | (with_reducible refine RnB.ii ?_) | (with_reducible refine RnB.app ?_) | (with_reducible refine RnB.fxB ?_; simp only [vcW, vcV, vcD, Int.reduceEq, Int.reduceNe, Int.reduceLT, Int.reduceLE, Nat.reduceEqDiff, Nat.reduceAdd, reduceIte, reduceCtorEq, Nat.reduceLT, Nat.reduceLeDiff, eq_self, Option.bind_some, Option.map_some, List.map_cons, List.map_nil, List.length_cons, List.length_nil, Option.getD_some, Option.getD_none, List.all_cons, List.all_nil, List.set_cons_zero, List.set_cons_succ, List.replicate_succ, List.replicate_zero, List.getElem?_cons_zero, List.getElem?_cons_succ, List.drop_succ_cons, List.drop_zero, List.take_succ_cons, List.take_zero, List.map_append, List.nil_append, List.cons_append, Nat.reduceShiftRight, Nat.reduceMod]) | omega)
          | false =>
            rw [hA, Bool.false_or] at hsu
            simp only [hg, vcV, vcD, Int.reduceEq, Int.reduceNe, Int.reduceLT, Int.reduceLE, Nat.reduceEqDiff, Nat.reduceAdd, reduceIte, reduceCtorEq, Nat.reduceLT, Nat.reduceLeDiff, eq_self, Option.bind_some, Option.map_some, List.map_cons, List.map_nil, List.length_cons, List.length_nil, Option.getD_some, Option.getD_none, List.all_cons, List.all_nil, List.set_cons_zero, List.set_cons_succ, List.replicate_succ, List.replicate_zero, List.getElem?_cons_zero, List.getElem?_cons_succ, List.drop_succ_cons, List.drop_zero, List.take_succ_cons, List.take_zero, List.map_append, List.nil_append, List.cons_append, Nat.reduceShiftRight, Nat.reduceMod]
            (repeat (with_reducible refine And.intro ?_ ?_; focus (first | omega | (unfold I64; omega))))
            refine callS_of (Within_s _ _ _) ?_
            simp only [vcV, vcD, Int.reduceEq, Int.reduceNe, Int.reduceLT, Int.reduceLE, Nat.reduceEqDiff, Nat.reduceAdd, reduceIte, reduceCtorEq, Nat.reduceLT, Nat.reduceLeDiff, eq_self, Option.bind_some, Option.map_some, List.map_cons, List.map_nil, List.length_cons, List.length_nil, Option.getD_some, Option.getD_none, List.all_cons, List.all_nil, List.set_cons_zero, List.set_cons_succ, List.replicate_succ, List.replicate_zero, List.getElem?_cons_zero, List.getElem?_cons_succ, List.drop_succ_cons, List.drop_zero, List.take_succ_cons, List.take_zero, List.map_append, List.nil_append, List.cons_append, Nat.reduceShiftRight, Nat.reduceMod]
            (repeat (with_reducible refine And.intro ?_ ?_; focus (first | omega | (unfold I64; omega))))
            refine ⟨⟨j + 1, hj', trivial⟩, by simp only; omega, ?_⟩
            refine weakX [(100, some 100)] (of_decide_eq_true rfl) (of_decide_eq_true rfl) ?_
            (simp only [hsu, vcW, vcV, vcD, Int.reduceEq, Int.reduceNe, Int.reduceLT, Int.reduceLE, Nat.reduceEqDiff, Nat.reduceAdd, reduceIte, reduceCtorEq, Nat.reduceLT, Nat.reduceLeDiff, eq_self, Option.bind_some, Option.map_some, List.map_cons, List.map_nil, List.length_cons, List.length_nil, Option.getD_some, Option.getD_none, List.all_cons, List.all_nil, List.set_cons_zero, List.set_cons_succ, List.replicate_succ, List.replicate_zero, List.getElem?_cons_zero, List.getElem?_cons_succ, List.drop_succ_cons, List.drop_zero, List.take_succ_cons, List.take_zero, List.map_append, List.nil_append, List.cons_append, Nat.reduceShiftRight, Nat.reduceMod])
            (repeat' first | exact trivial | (with_reducible exact RnB.fxB (ints_fxB _)) | (with_reducible rfl) | (with_reducible refine And.intro ?_ ?_) | (with_reducible refine RnB.bb ?_; simp only [vcW, vcV, vcD, Int.reduceEq, Int.reduceNe, Int.reduceLT, Int.reduceLE, Nat.reduceEqDiff, Nat.reduceAdd, reduceIte, reduceCtorEq, Nat.reduceLT, Nat.reduceLeDiff, eq_self, Option.bind_some, Option.map_some, List.map_cons, List.map_nil, List.length_cons, List.length_nil, Option.getD_some, Option.getD_none, List.all_cons, List.all_nil, List.set_cons_zero, List.set_cons_succ, List.replicate_succ, List.replicate_zero, List.getElem?_cons_zero, List.getElem?_cons_succ, List.drop_succ_cons, List.drop_zero, List.take_succ_cons, List.take_zero, List.map_append, List.nil_append, List.cons_append, Nat.reduceShiftRight, Nat.reduceMod]) | (with_reducible refine RnB.nb ?_; simp only [vcW, vcV, vcD, Int.reduceEq, Int.reduceNe, Int.reduceLT, Int.reduceLE, Nat.reduceEqDiff, Nat.reduceAdd, reduceIte, reduceCtorEq, Nat.reduceLT, Nat.reduceLeDiff, eq_self, Option.bind_some, Option.map_some, List.map_cons, List.map_nil, List.length_cons, List.length_nil, Option.getD_some, Option.getD_none, List.all_cons, List.all_nil, List.set_cons_zero, List.set_cons_succ, List.replicate_succ, List.replicate_zero, List.getElem?_cons_zero, List.getElem?_cons_succ, List.drop_succ_cons, List.drop_zero, List.take_succ_cons, List.take_zero, List.map_append, List.nil_append, List.cons_append, Nat.reduceShiftRight, Nat.reduceMod]) | (with_reducible refine RnB.ii ?_) | (with_reducible refine RnB.app ?_) | (with_reducible refine RnB.fxB ?_; simp only [vcW, vcV, vcD, Int.reduceEq, Int.reduceNe, Int.reduceLT, Int.reduceLE, Nat.reduceEqDiff, Nat.reduceAdd, reduceIte, reduceCtorEq, Nat.reduceLT, Nat.reduceLeDiff, eq_self, Option.bind_some, Option.map_some, List.map_cons, List.map_nil, List.length_cons, List.length_nil, Option.getD_some, Option.getD_none, List.all_cons, List.all_nil, List.set_cons_zero, List.set_cons_succ, List.replicate_succ, List.replicate_zero, List.getElem?_cons_zero, List.getElem?_cons_succ, List.drop_succ_cons, List.drop_zero, List.take_succ_cons, List.take_zero, List.map_append, List.nil_append, List.cons_append, Nat.reduceShiftRight, Nat.reduceMod]) | omega)
        · have hjl : j = al.length := by (simp only [decide_eq_true_eq, decide_eq_false_iff_not, Bool.not_true, I64, Bool.not_eq_true', Bool.not_eq_false', bne_iff_ne, beq_iff_eq, ne_eq] at *; omega)
          cases hjl
          rw [hall]
          generalize hout : lostK r al kf i = out at *
          generalize asked r al i = A at *
          generalize kf i = K at *
          by_cases hAK : (A && !K) = true
          · obtain ⟨rfl, rfl⟩ : A = true ∧ K = false := by cases A <;> cases K <;> simp at hAK ⊢
            rw [if_pos hAK] at hs
            have hia : ints (out ++ [(i : Int)]) = ints out ++ [.int .i64 i] := ints_append _ _
            simp only [gk, ints_length, bmap_length, vcV, vcD, Int.reduceEq, Int.reduceNe, Int.reduceLT, Int.reduceLE, Nat.reduceEqDiff, Nat.reduceAdd, reduceIte, reduceCtorEq, Nat.reduceLT, Nat.reduceLeDiff, eq_self, Option.bind_some, Option.map_some, List.map_cons, List.map_nil, List.length_cons, List.length_nil, Option.getD_some, Option.getD_none, List.all_cons, List.all_nil, List.set_cons_zero, List.set_cons_succ, List.replicate_succ, List.replicate_zero, List.getElem?_cons_zero, List.getElem?_cons_succ, List.drop_succ_cons, List.drop_zero, List.take_succ_cons, List.take_zero, List.map_append, List.nil_append, List.cons_append, Nat.reduceShiftRight, Nat.reduceMod]
            (repeat (with_reducible refine And.intro ?_ ?_; focus (first | omega | (unfold I64; omega))))
            refine ⟨⟨i + 1, h', trivial⟩, by simp only; omega, ?_⟩
            refine weakX [(100, some 56)] (of_decide_eq_true rfl) (of_decide_eq_true rfl) ?_
            (simp only [hs, hia, vcW, vcV, vcD, Int.reduceEq, Int.reduceNe, Int.reduceLT, Int.reduceLE, Nat.reduceEqDiff, Nat.reduceAdd, reduceIte, reduceCtorEq, Nat.reduceLT, Nat.reduceLeDiff, eq_self, Option.bind_some, Option.map_some, List.map_cons, List.map_nil, List.length_cons, List.length_nil, Option.getD_some, Option.getD_none, List.all_cons, List.all_nil, List.set_cons_zero, List.set_cons_succ, List.replicate_succ, List.replicate_zero, List.getElem?_cons_zero, List.getElem?_cons_succ, List.drop_succ_cons, List.drop_zero, List.take_succ_cons, List.take_zero, List.map_append, List.nil_append, List.cons_append, Nat.reduceShiftRight, Nat.reduceMod])
            (repeat' first | exact trivial | (with_reducible exact RnB.fxB (ints_fxB _)) | (with_reducible rfl) | (with_reducible refine And.intro ?_ ?_) | (with_reducible refine RnB.bb ?_; simp only [vcW, vcV, vcD, Int.reduceEq, Int.reduceNe, Int.reduceLT, Int.reduceLE, Nat.reduceEqDiff, Nat.reduceAdd, reduceIte, reduceCtorEq, Nat.reduceLT, Nat.reduceLeDiff, eq_self, Option.bind_some, Option.map_some, List.map_cons, List.map_nil, List.length_cons, List.length_nil, Option.getD_some, Option.getD_none, List.all_cons, List.all_nil, List.set_cons_zero, List.set_cons_succ, List.replicate_succ, List.replicate_zero, List.getElem?_cons_zero, List.getElem?_cons_succ, List.drop_succ_cons, List.drop_zero, List.take_succ_cons, List.take_zero, List.map_append, List.nil_append, List.cons_append, Nat.reduceShiftRight, Nat.reduceMod]) | (with_reducible refine RnB.nb ?_; simp only [vcW, vcV, vcD, Int.reduceEq, Int.reduceNe, Int.reduceLT, Int.reduceLE, Nat.reduceEqDiff, Nat.reduceAdd, reduceIte, reduceCtorEq, Nat.reduceLT, Nat.reduceLeDiff, eq_self, Option.bind_some, Option.map_some, List.map_cons, List.map_nil, List.length_cons, List.length_nil, Option.getD_some, Option.getD_none, List.all_cons, List.all_nil, List.set_cons_zero, List.set_cons_succ, List.replicate_succ, List.replicate_zero, List.getElem?_cons_zero, List.getElem?_cons_succ, List.drop_succ_cons, List.drop_zero, List.take_succ_cons, List.take_zero, List.map_append, List.nil_append, List.cons_append, Nat.reduceShiftRight, Nat.reduceMod]) | (with_reducible refine RnB.ii ?_) | (with_reducible refine RnB.app ?_) | (with_reducible refine RnB.fxB ?_; simp only [vcW, vcV, vcD, Int.reduceEq, Int.reduceNe, Int.reduceLT, Int.reduceLE, Nat.reduceEqDiff, Nat.reduceAdd, reduceIte, reduceCtorEq, Nat.reduceLT, Nat.reduceLeDiff, eq_self, Option.bind_some, Option.map_some, List.map_cons, List.map_nil, List.length_cons, List.length_nil, Option.getD_some, Option.getD_none, List.all_cons, List.all_nil, List.set_cons_zero, List.set_cons_succ, List.replicate_succ, List.replicate_zero, List.getElem?_cons_zero, List.getElem?_cons_succ, List.drop_succ_cons, List.drop_zero, List.take_succ_cons, List.take_zero, List.map_append, List.nil_append, List.cons_append, Nat.reduceShiftRight, Nat.reduceMod]) | omega)
            · simp
            · exact hia.symm
          · rw [if_neg hAK, List.append_nil] at hs
            cases A
            · simp only [vcV, vcD, Int.reduceEq, Int.reduceNe, Int.reduceLT, Int.reduceLE, Nat.reduceEqDiff, Nat.reduceAdd, reduceIte, reduceCtorEq, Nat.reduceLT, Nat.reduceLeDiff, eq_self, Option.bind_some, Option.map_some, List.map_cons, List.map_nil, List.length_cons, List.length_nil, Option.getD_some, Option.getD_none, List.all_cons, List.all_nil, List.set_cons_zero, List.set_cons_succ, List.replicate_succ, List.replicate_zero, List.getElem?_cons_zero, List.getElem?_cons_succ, List.drop_succ_cons, List.drop_zero, List.take_succ_cons, List.take_zero, List.map_append, List.nil_append, List.cons_append, Nat.reduceShiftRight, Nat.reduceMod]
              (repeat (with_reducible refine And.intro ?_ ?_; focus (first | omega | (unfold I64; omega))))
              refine ⟨⟨i + 1, h', trivial⟩, by simp only; omega, ?_⟩
              refine weakX [(100, some 100)] (of_decide_eq_true rfl) (of_decide_eq_true rfl) ?_
              (simp only [hs, vcW, vcV, vcD, Int.reduceEq, Int.reduceNe, Int.reduceLT, Int.reduceLE, Nat.reduceEqDiff, Nat.reduceAdd, reduceIte, reduceCtorEq, Nat.reduceLT, Nat.reduceLeDiff, eq_self, Option.bind_some, Option.map_some, List.map_cons, List.map_nil, List.length_cons, List.length_nil, Option.getD_some, Option.getD_none, List.all_cons, List.all_nil, List.set_cons_zero, List.set_cons_succ, List.replicate_succ, List.replicate_zero, List.getElem?_cons_zero, List.getElem?_cons_succ, List.drop_succ_cons, List.drop_zero, List.take_succ_cons, List.take_zero, List.map_append, List.nil_append, List.cons_append, Nat.reduceShiftRight, Nat.reduceMod])
              (repeat' first | exact trivial | (with_reducible exact RnB.fxB (ints_fxB _)) | (with_reducible rfl) | (with_reducible refine And.intro ?_ ?_) | (with_reducible refine RnB.bb ?_; simp only [vcW, vcV, vcD, Int.reduceEq, Int.reduceNe, Int.reduceLT, Int.reduceLE, Nat.reduceEqDiff, Nat.reduceAdd, reduceIte, reduceCtorEq, Nat.reduceLT, Nat.reduceLeDiff, eq_self, Option.bind_some, Option.map_some, List.map_cons, List.map_nil, List.length_cons, List.length_nil, Option.getD_some, Option.getD_none, List.all_cons, List.all_nil, List.set_cons_zero, List.set_cons_succ, List.replicate_succ, List.replicate_zero, List.getElem?_cons_zero, List.getElem?_cons_succ, List.drop_succ_cons, List.drop_zero, List.take_succ_cons, List.take_zero, List.map_append, List.nil_append, List.cons_append, Nat.reduceShiftRight, Nat.reduceMod]) | (with_reducible refine RnB.nb ?_; simp only [vcW, vcV, vcD, Int.reduceEq, Int.reduceNe, Int.reduceLT, Int.reduceLE, Nat.reduceEqDiff, Nat.reduceAdd, reduceIte, reduceCtorEq, Nat.reduceLT, Nat.reduceLeDiff, eq_self, Option.bind_some, Option.map_some, List.map_cons, List.map_nil, List.length_cons, List.length_nil, Option.getD_some, Option.getD_none, List.all_cons, List.all_nil, List.set_cons_zero, List.set_cons_succ, List.replicate_succ, List.replicate_zero, List.getElem?_cons_zero, List.getElem?_cons_succ, List.drop_succ_cons, List.drop_zero, List.take_succ_cons, List.take_zero, List.map_append, List.nil_append, List.cons_append, Nat.reduceShiftRight, Nat.reduceMod]) | (with_reducible refine RnB.ii ?_) | (with_reducible refine RnB.app ?_) | (with_reducible refine RnB.fxB ?_; simp only [vcW, vcV, vcD, Int.reduceEq, Int.reduceNe, Int.reduceLT, Int.reduceLE, Nat.reduceEqDiff, Nat.reduceAdd, reduceIte, reduceCtorEq, Nat.reduceLT, Nat.reduceLeDiff, eq_self, Option.bind_some, Option.map_some, List.map_cons, List.map_nil, List.length_cons, List.length_nil, Option.getD_some, Option.getD_none, List.all_cons, List.all_nil, List.set_cons_zero, List.set_cons_succ, List.replicate_succ, List.replicate_zero, List.getElem?_cons_zero, List.getElem?_cons_succ, List.drop_succ_cons, List.drop_zero, List.take_succ_cons, List.take_zero, List.map_append, List.nil_append, List.cons_append, Nat.reduceShiftRight, Nat.reduceMod]) | omega)
            · obtain rfl : K = true := by cases K <;> simp at hAK ⊢
              simp only [gk, bmap_length, vcV, vcD, Int.reduceEq, Int.reduceNe, Int.reduceLT, Int.reduceLE, Nat.reduceEqDiff, Nat.reduceAdd, reduceIte, reduceCtorEq, Nat.reduceLT, Nat.reduceLeDiff, eq_self, Option.bind_some, Option.map_some, List.map_cons, List.map_nil, List.length_cons, List.length_nil, Option.getD_some, Option.getD_none, List.all_cons, List.all_nil, List.set_cons_zero, List.set_cons_succ, List.replicate_succ, List.replicate_zero, List.getElem?_cons_zero, List.getElem?_cons_succ, List.drop_succ_cons, List.drop_zero, List.take_succ_cons, List.take_zero, List.map_append, List.nil_append, List.cons_append, Nat.reduceShiftRight, Nat.reduceMod]
              (repeat (with_reducible refine And.intro ?_ ?_; focus (first | omega | (unfold I64; omega))))
              refine ⟨⟨i + 1, h', trivial⟩, by simp only; omega, ?_⟩
              refine weakX [(100, some 100)] (of_decide_eq_true rfl) (of_decide_eq_true rfl) ?_
              (simp only [hs, vcW, vcV, vcD, Int.reduceEq, Int.reduceNe, Int.reduceLT, Int.reduceLE, Nat.reduceEqDiff, Nat.reduceAdd, reduceIte, reduceCtorEq, Nat.reduceLT, Nat.reduceLeDiff, eq_self, Option.bind_some, Option.map_some, List.map_cons, List.map_nil, List.length_cons, List.length_nil, Option.getD_some, Option.getD_none, List.all_cons, List.all_nil, List.set_cons_zero, List.set_cons_succ, List.replicate_succ, List.replicate_zero, List.getElem?_cons_zero, List.getElem?_cons_succ, List.drop_succ_cons, List.drop_zero, List.take_succ_cons, List.take_zero, List.map_append, List.nil_append, List.cons_append, Nat.reduceShiftRight, Nat.reduceMod])
              (repeat' first | exact trivial | (with_reducible exact RnB.fxB (ints_fxB _)) | (with_reducible rfl) | (with_reducible refine And.intro ?_ ?_) | (with_reducible refine RnB.bb ?_; simp only [vcW, vcV, vcD, Int.reduceEq, Int.reduceNe, Int.reduceLT, Int.reduceLE, Nat.reduceEqDiff, Nat.reduceAdd, reduceIte, reduceCtorEq, Nat.reduceLT, Nat.reduceLeDiff, eq_self, Option.bind_some, Option.map_some, List.map_cons, List.map_nil, List.length_cons, List.length_nil, Option.getD_some, Option.getD_none, List.all_cons, List.all_nil, List.set_cons_zero, List.set_cons_succ, List.replicate_succ, List.replicate_zero, List.getElem?_cons_zero, List.getElem?_cons_succ, List.drop_succ_cons, List.drop_zero, List.take_succ_cons, List.take_zero, List.map_append, List.nil_append, List.cons_append, Nat.reduceShiftRight, Nat.reduceMod]) | (with_reducible refine RnB.nb ?_; simp only [vcW, vcV, vcD, Int.reduceEq, Int.reduceNe, Int.reduceLT, Int.reduceLE, Nat.reduceEqDiff, Nat.reduceAdd, reduceIte, reduceCtorEq, Nat.reduceLT, Nat.reduceLeDiff, eq_self, Option.bind_some, Option.map_some, List.map_cons, List.map_nil, List.length_cons, List.length_nil, Option.getD_some, Option.getD_none, List.all_cons, List.all_nil, List.set_cons_zero, List.set_cons_succ, List.replicate_succ, List.replicate_zero, List.getElem?_cons_zero, List.getElem?_cons_succ, List.drop_succ_cons, List.drop_zero, List.take_succ_cons, List.take_zero, List.map_append, List.nil_append, List.cons_append, Nat.reduceShiftRight, Nat.reduceMod]) | (with_reducible refine RnB.ii ?_) | (with_reducible refine RnB.app ?_) | (with_reducible refine RnB.fxB ?_; simp only [vcW, vcV, vcD, Int.reduceEq, Int.reduceNe, Int.reduceLT, Int.reduceLE, Nat.reduceEqDiff, Nat.reduceAdd, reduceIte, reduceCtorEq, Nat.reduceLT, Nat.reduceLeDiff, eq_self, Option.bind_some, Option.map_some, List.map_cons, List.map_nil, List.length_cons, List.length_nil, Option.getD_some, Option.getD_none, List.all_cons, List.all_nil, List.set_cons_zero, List.set_cons_succ, List.replicate_succ, List.replicate_zero, List.getElem?_cons_zero, List.getElem?_cons_succ, List.drop_succ_cons, List.drop_zero, List.take_succ_cons, List.take_zero, List.map_append, List.nil_append, List.cons_append, Nat.reduceShiftRight, Nat.reduceMod]) | omega)
    · have hin : i = l.length := by (simp only [decide_eq_true_eq, decide_eq_false_iff_not, Bool.not_true, I64, Bool.not_eq_true', Bool.not_eq_false', bne_iff_ne, beq_iff_eq, ne_eq] at *; omega)
      cases hin
      simp only [vcV, vcD, Int.reduceEq, Int.reduceNe, Int.reduceLT, Int.reduceLE, Nat.reduceEqDiff, Nat.reduceAdd, reduceIte, reduceCtorEq, Nat.reduceLT, Nat.reduceLeDiff, eq_self, Option.bind_some, Option.map_some, List.map_cons, List.map_nil, List.length_cons, List.length_nil, Option.getD_some, Option.getD_none, List.all_cons, List.all_nil, List.set_cons_zero, List.set_cons_succ, List.replicate_succ, List.replicate_zero, List.getElem?_cons_zero, List.getElem?_cons_succ, List.drop_succ_cons, List.drop_zero, List.take_succ_cons, List.take_zero, List.map_append, List.nil_append, List.cons_append, Nat.reduceShiftRight, Nat.reduceMod]
      rw [borB_good _ _ _ _ _ (by simp [ints]) (ints_fx _)]

theorem SameFreezes_s (l : List Int) (fs : List (Int × Int)) (hf : fs.length ≤ 60) (hl : l.length ≤ 60) :
    Sound Try.prog 40 [.sl (frzsA l fs), .sl (frzsA l fs)] (.bool true) := by
  refine sound_W f_ref08_SameFreezes (Nat.le_of_ble_eq_true rfl) ?_
  simp only [c_ref08_SameFreezes, frzsA_length, vcV, vcD, Int.reduceEq, Int.reduceNe, Int.reduceLT, Int.reduceLE, Nat.reduceEqDiff, Nat.reduceAdd, reduceIte, reduceCtorEq, Nat.reduceLT, Nat.reduceLeDiff, eq_self, Option.bind_some, Option.map_some, List.map_cons, List.map_nil, List.length_cons, List.length_nil, Option.getD_some, Option.getD_none, List.all_cons, List.all_nil, List.set_cons_zero, List.set_cons_succ, List.replicate_succ, List.replicate_zero, List.getElem?_cons_zero, List.getElem?_cons_succ, List.drop_succ_cons, List.drop_zero, List.take_succ_cons, List.take_zero, List.map_append, List.nil_append, List.cons_append, Nat.reduceShiftRight, Nat.reduceMod]
  refine W_loop (t := .mk) (α := PSigma fun i : Nat => i ≤ fs.length ∧ (True)) (fun ⟨i, _⟩ => ((envOf [(0, .sl (frzsA l fs)), (1, .sl (frzsA l fs)), (5, .int .i64 i)], stOf []))) (fun i => fs.length - i.1) ⟨0, Nat.zero_le _, ?_⟩ ?_ (fun ⟨i, hi, hn⟩ => ?_)
  · trivial
  · refine weakX [] (of_decide_eq_true rfl) (of_decide_eq_true rfl) ?_
    (simp only [vcW, vcV, vcD, Int.reduceEq, Int.reduceNe, Int.reduceLT, Int.reduceLE, Nat.reduceEqDiff, Nat.reduceAdd, reduceIte, reduceCtorEq, Nat.reduceLT, Nat.reduceLeDiff, eq_self, Option.bind_some, Option.map_some, List.map_cons, List.map_nil, List.length_cons, List.length_nil, Option.getD_some, Option.getD_none, List.all_cons, List.all_nil, List.set_cons_zero, List.set_cons_succ, List.replicate_succ, List.replicate_zero, List.getElem?_cons_zero, List.getElem?_cons_succ, List.drop_succ_cons, List.drop_zero, List.take_succ_cons, List.take_zero, List.map_append, List.nil_append, List.cons_append, Nat.reduceShiftRight, Nat.reduceMod])
    (repeat' first | exact trivial | (with_reducible exact RnB.fxB (ints_fxB _)) | (with_reducible rfl) | (with_reducible refine And.intro ?_ ?_) | (with_reducible refine RnB.bb ?_; simp only [vcW, vcV, vcD, Int.reduceEq, Int.reduceNe, Int.reduceLT, Int.reduceLE, Nat.reduceEqDiff, Nat.reduceAdd, reduceIte, reduceCtorEq, Nat.reduceLT, Nat.reduceLeDiff, eq_self, Option.bind_some, Option.map_some, List.map_cons, List.map_nil, List.length_cons, List.length_nil, Option.getD_some, Option.getD_none, List.all_cons, List.all_nil, List.set_cons_zero, List.set_cons_succ, List.replicate_succ, List.replicate_zero, List.getElem?_cons_zero, List.getElem?_cons_succ, List.drop_succ_cons, List.drop_zero, List.take_succ_cons, List.take_zero, List.map_append, List.nil_append, List.cons_append, Nat.reduceShiftRight, Nat.reduceMod]) | (with_reducible refine RnB.nb ?_; simp only [vcW, vcV, vcD, Int.reduceEq, Int.reduceNe, Int.reduceLT, Int.reduceLE, Nat.reduceEqDiff, Nat.reduceAdd, reduceIte, reduceCtorEq, Nat.reduceLT, Nat.reduceLeDiff, eq_self, Option.bind_some, Option.map_some, List.map_cons, List.map_nil, List.length_cons, List.length_nil, Option.getD_some, Option.getD_none, List.all_cons, List.all_nil, List.set_cons_zero, List.set_cons_succ, List.replicate_succ, List.replicate_zero, List.getElem?_cons_zero, List.getElem?_cons_succ, List.drop_succ_cons, List.drop_zero, List.take_succ_cons, List.take_zero, List.map_append, List.nil_append, List.cons_append, Nat.reduceShiftRight, Nat.reduceMod]) | (with_reducible refine RnB.ii ?_) | (with_reducible refine RnB.app ?_) | (with_reducible refine RnB.fxB ?_; simp only [vcW, vcV, vcD, Int.reduceEq, Int.reduceNe, Int.reduceLT, Int.reduceLE, Nat.reduceEqDiff, Nat.reduceAdd, reduceIte, reduceCtorEq, Nat.reduceLT, Nat.reduceLeDiff, eq_self, Option.bind_some, Option.map_some, List.map_cons, List.map_nil, List.length_cons, List.length_nil, Option.getD_some, Option.getD_none, List.all_cons, List.all_nil, List.set_cons_zero, List.set_cons_succ, List.replicate_succ, List.replicate_zero, List.getElem?_cons_zero, List.getElem?_cons_succ, List.drop_succ_cons, List.drop_zero, List.take_succ_cons, List.take_zero, List.map_append, List.nil_append, List.cons_append, Nat.reduceShiftRight, Nat.reduceMod]) | omega)
  · simp only [frzsA_length, vcV, vcD, Int.reduceEq, Int.reduceNe, Int.reduceLT, Int.reduceLE, Nat.reduceEqDiff, Nat.reduceAdd, reduceIte, reduceCtorEq, Nat.reduceLT, Nat.reduceLeDiff, eq_self, Option.bind_some, Option.map_some, List.map_cons, List.map_nil, List.length_cons, List.length_nil, Option.getD_some, Option.getD_none, List.all_cons, List.all_nil, List.set_cons_zero, List.set_cons_succ, List.replicate_succ, List.replicate_zero, List.getElem?_cons_zero, List.getElem?_cons_succ, List.drop_succ_cons, List.drop_zero, List.take_succ_cons, List.take_zero, List.map_append, List.nil_append, List.cons_append, Nat.reduceShiftRight, Nat.reduceMod]
    refine brB_split (fun h => ?_) (fun h => ?_)
    · have h' : i < fs.length := by (simp only [decide_eq_true_eq, decide_eq_false_iff_not, Bool.not_true, I64, Bool.not_eq_true', Bool.not_eq_false', bne_iff_ne, beq_iff_eq, ne_eq] at *; omega)
      clear h
      have hg := frzsA_get l fs i h'
      have hfa : frzA l fs[i] = .agg [.int .i64 fs[i].1, .int .i64 fs[i].2, .sl (ints (cutL l fs[i]))] := rfl
      have hcl : (cutL l fs[i]).length ≤ 1000000000 := by unfold cutL; rw [List.length_drop, List.length_take]; omega
      have hInt : Sound Try.prog 42 [.sl (ints (cutL l fs[i])), .sl (ints (cutL l fs[i]))] (.bool true) := by
        have := Ints_s (cutL l fs[i]) (cutL l fs[i]) hcl
        simpa using this
      rw [hfa] at hg
      generalize cutL l fs[i] = cs at *
      generalize fs[i] = p at *
      simp only [hg, vcV, vcD, Int.reduceEq, Int.reduceNe, Int.reduceLT, Int.reduceLE, Nat.reduceEqDiff, Nat.reduceAdd, reduceIte, reduceCtorEq, Nat.reduceLT, Nat.reduceLeDiff, eq_self, Option.bind_some, Option.map_some, List.map_cons, List.map_nil, List.length_cons, List.length_nil, Option.getD_some, Option.getD_none, List.all_cons, List.all_nil, List.set_cons_zero, List.set_cons_succ, List.replicate_succ, List.replicate_zero, List.getElem?_cons_zero, List.getElem?_cons_succ, List.drop_succ_cons, List.drop_zero, List.take_succ_cons, List.take_zero, List.map_append, List.nil_append, List.cons_append, Nat.reduceShiftRight, Nat.reduceMod]
      (repeat (with_reducible refine And.intro ?_ ?_; focus (first | omega | (unfold I64; omega))))
      refine callS_of hInt ?_
      simp only [vcV, vcD, Int.reduceEq, Int.reduceNe, Int.reduceLT, Int.reduceLE, Nat.reduceEqDiff, Nat.reduceAdd, reduceIte, reduceCtorEq, Nat.reduceLT, Nat.reduceLeDiff, eq_self, Option.bind_some, Option.map_some, List.map_cons, List.map_nil, List.length_cons, List.length_nil, Option.getD_some, Option.getD_none, List.all_cons, List.all_nil, List.set_cons_zero, List.set_cons_succ, List.replicate_succ, List.replicate_zero, List.getElem?_cons_zero, List.getElem?_cons_succ, List.drop_succ_cons, List.drop_zero, List.take_succ_cons, List.take_zero, List.map_append, List.nil_append, List.cons_append, Nat.reduceShiftRight, Nat.reduceMod]
      (repeat (with_reducible refine And.intro ?_ ?_; focus (first | omega | (unfold I64; omega))))
      refine ⟨⟨i + 1, h', trivial⟩, by simp only; omega, ?_⟩
      refine weakX [] (of_decide_eq_true rfl) (of_decide_eq_true rfl) ?_
      (simp only [vcW, vcV, vcD, Int.reduceEq, Int.reduceNe, Int.reduceLT, Int.reduceLE, Nat.reduceEqDiff, Nat.reduceAdd, reduceIte, reduceCtorEq, Nat.reduceLT, Nat.reduceLeDiff, eq_self, Option.bind_some, Option.map_some, List.map_cons, List.map_nil, List.length_cons, List.length_nil, Option.getD_some, Option.getD_none, List.all_cons, List.all_nil, List.set_cons_zero, List.set_cons_succ, List.replicate_succ, List.replicate_zero, List.getElem?_cons_zero, List.getElem?_cons_succ, List.drop_succ_cons, List.drop_zero, List.take_succ_cons, List.take_zero, List.map_append, List.nil_append, List.cons_append, Nat.reduceShiftRight, Nat.reduceMod])
      (repeat' first | exact trivial | (with_reducible exact RnB.fxB (ints_fxB _)) | (with_reducible rfl) | (with_reducible refine And.intro ?_ ?_) | (with_reducible refine RnB.bb ?_; simp only [vcW, vcV, vcD, Int.reduceEq, Int.reduceNe, Int.reduceLT, Int.reduceLE, Nat.reduceEqDiff, Nat.reduceAdd, reduceIte, reduceCtorEq, Nat.reduceLT, Nat.reduceLeDiff, eq_self, Option.bind_some, Option.map_some, List.map_cons, List.map_nil, List.length_cons, List.length_nil, Option.getD_some, Option.getD_none, List.all_cons, List.all_nil, List.set_cons_zero, List.set_cons_succ, List.replicate_succ, List.replicate_zero, List.getElem?_cons_zero, List.getElem?_cons_succ, List.drop_succ_cons, List.drop_zero, List.take_succ_cons, List.take_zero, List.map_append, List.nil_append, List.cons_append, Nat.reduceShiftRight, Nat.reduceMod]) | (with_reducible refine RnB.nb ?_; simp only [vcW, vcV, vcD, Int.reduceEq, Int.reduceNe, Int.reduceLT, Int.reduceLE, Nat.reduceEqDiff, Nat.reduceAdd, reduceIte, reduceCtorEq, Nat.reduceLT, Nat.reduceLeDiff, eq_self, Option.bind_some, Option.map_some, List.map_cons, List.map_nil, List.length_cons, List.length_nil, Option.getD_some, Option.getD_none, List.all_cons, List.all_nil, List.set_cons_zero, List.set_cons_succ, List.replicate_succ, List.replicate_zero, List.getElem?_cons_zero, List.getElem?_cons_succ, List.drop_succ_cons, List.drop_zero, List.take_succ_cons, List.take_zero, List.map_append, List.nil_append, List.cons_append, Nat.reduceShiftRight, Nat.reduceMod]) | (with_reducible refine RnB.ii ?_) | (with_reducible refine RnB.app ?_) | (with_reducible refine RnB.fxB ?_; simp only [vcW, vcV, vcD, Int.reduceEq, Int.reduceNe, Int.reduceLT, Int.reduceLE, Nat.reduceEqDiff, Nat.reduceAdd, reduceIte, reduceCtorEq, Nat.reduceLT, Nat.reduceLeDiff, eq_self, Option.bind_some, Option.map_some, List.map_cons, List.map_nil, List.length_cons, List.length_nil, Option.getD_some, Option.getD_none, List.all_cons, List.all_nil, List.set_cons_zero, List.set_cons_succ, List.replicate_succ, List.replicate_zero, List.getElem?_cons_zero, List.getElem?_cons_succ, List.drop_succ_cons, List.drop_zero, List.take_succ_cons, List.take_zero, List.map_append, List.nil_append, List.cons_append, Nat.reduceShiftRight, Nat.reduceMod]) | omega)
    · simp only [vcV, vcD, Int.reduceEq, Int.reduceNe, Int.reduceLT, Int.reduceLE, Nat.reduceEqDiff, Nat.reduceAdd, reduceIte, reduceCtorEq, Nat.reduceLT, Nat.reduceLeDiff, eq_self, Option.bind_some, Option.map_some, List.map_cons, List.map_nil, List.length_cons, List.length_nil, Option.getD_some, Option.getD_none, List.all_cons, List.all_nil, List.set_cons_zero, List.set_cons_succ, List.replicate_succ, List.replicate_zero, List.getElem?_cons_zero, List.getElem?_cons_succ, List.drop_succ_cons, List.drop_zero, List.take_succ_cons, List.take_zero, List.map_append, List.nil_append, List.cons_append, Nat.reduceShiftRight, Nat.reduceMod]

end Go.Proofs.Ytaebfjepacnmhaa

/- The law WatchRings: it answers true. By an AI agent; nothing here is trusted. -/
namespace Go.Proofs.Ytaebfjepacnmhaa
open Go.Av

theorem inF_cons (p : Int × Int) (l : List (Int × Int)) (x : Int) : inF (p :: l) x ↔ (p.1 ≤ x ∧ x ≤ p.2) ∨ inF l x := by
  unfold inF
  constructor
  · rintro ⟨q, hq, h⟩
    rcases List.mem_cons.1 hq with e | e
    · subst e; exact .inl h
    · exact .inr ⟨q, e, h⟩
  · rintro (h | ⟨q, hq, h⟩)
    · exact ⟨p, List.mem_cons_self, h⟩
    · exact ⟨q, List.mem_cons_of_mem _ hq, h⟩
theorem runs_uniq : ∀ (A B : List (Int × Int)), (∀ p ∈ A, p.1 ≤ p.2) → (∀ p ∈ B, p.1 ≤ p.2) → (A.Pairwise fun p q => p.2 + 1 < q.1) → (B.Pairwise fun p q => p.2 + 1 < q.1) → (∀ x, inF A x ↔ inF B x) → A = B
  | [], [], _, _, _, _, _ => rfl
  | [], b :: B, _, hb, _, _, h => by
    have := (h b.1).2 ⟨b, List.mem_cons_self, Int.le_refl _, hb b List.mem_cons_self⟩
    obtain ⟨q, hq, _⟩ := this; cases hq
  | a :: A, [], ha, _, _, _, h => by
    have := (h a.1).1 ⟨a, List.mem_cons_self, Int.le_refl _, ha a List.mem_cons_self⟩
    obtain ⟨q, hq, _⟩ := this; cases hq
  | a :: A, b :: B, ha, hb, sa, sb, h => by
    obtain ⟨sa1, sa2⟩ := List.pairwise_cons.1 sa
    obtain ⟨sb1, sb2⟩ := List.pairwise_cons.1 sb
    have la := ha a List.mem_cons_self
    have lb := hb b List.mem_cons_self
    have la' : ∀ q ∈ A, a.2 + 1 < q.1 ∧ q.1 ≤ q.2 := fun q hq => ⟨sa1 q hq, ha q (List.mem_cons_of_mem _ hq)⟩
    have lb' : ∀ q ∈ B, b.2 + 1 < q.1 ∧ q.1 ≤ q.2 := fun q hq => ⟨sb1 q hq, hb q (List.mem_cons_of_mem _ hq)⟩
    have e1 : a.1 = b.1 := by
      have h1 := (h a.1).1 ⟨a, List.mem_cons_self, Int.le_refl _, la⟩
      have h2 := (h b.1).2 ⟨b, List.mem_cons_self, Int.le_refl _, lb⟩
      rw [inF_cons] at h1 h2
      have g1 : b.1 ≤ a.1 := by
        rcases h1 with h1 | ⟨q, hq, h1⟩
        · omega
        · have := lb' q hq; omega
      have g2 : a.1 ≤ b.1 := by
        rcases h2 with h2 | ⟨q, hq, h2⟩
        · omega
        · have := la' q hq; omega
      omega
    have e2 : a.2 = b.2 := by
      have g1 : ¬ a.2 < b.2 := by
        intro hlt
        have h1 := (h (a.2 + 1)).2 ⟨b, List.mem_cons_self, by omega, by omega⟩
        rw [inF_cons] at h1
        rcases h1 with h1 | ⟨q, hq, h1⟩
        · omega
        · have := la' q hq; omega
      have g2 : ¬ b.2 < a.2 := by
        intro hlt
        have h1 := (h (b.2 + 1)).1 ⟨a, List.mem_cons_self, by omega, by omega⟩
        rw [inF_cons] at h1
        rcases h1 with h1 | ⟨q, hq, h1⟩
        · omega
        · have := lb' q hq; omega
      omega
    have e : a = b := Prod.ext e1 e2
    subst e
    congr 1
    refine runs_uniq A B (fun p hp => ha p (List.mem_cons_of_mem _ hp)) (fun p hp => hb p (List.mem_cons_of_mem _ hp)) sa2 sb2 fun x => ?_
    have hx := h x
    rw [inF_cons, inF_cons] at hx
    constructor
    · rintro ⟨q, hq, h1⟩
      have := la' q hq
      rcases hx.1 (.inr ⟨q, hq, h1⟩) with h2 | h2
      · omega
      · exact h2
    · rintro ⟨q, hq, h1⟩
      have := lb' q hq
      rcases hx.2 (.inr ⟨q, hq, h1⟩) with h2 | h2
      · omega
      · exact h2
theorem runR_cov (kf : Nat → Bool) : ∀ (i : Nat), (∀ x : Int, inF (runR kf i) x ↔ ∃ y : Nat, x = y ∧ y < i ∧ kf y = true) ∧ (runR kf i).Pairwise fun p q => q.2 + 1 < p.1
  | 0 => ⟨fun x => by simp [runR, inF], by simp [runR]⟩
  | i + 1 => by
    obtain ⟨h1, h2⟩ := runR_cov kf i
    obtain ⟨o1, o2, o3⟩ := runR_ok kf i
    by_cases hk : kf i = true
    · have hsp : ∀ x : Int, (∃ y : Nat, x = y ∧ y < i + 1 ∧ kf y = true) ↔ ((∃ y : Nat, x = y ∧ y < i ∧ kf y = true) ∨ x = i) := by
        intro x
        constructor
        · rintro ⟨y, e, hy, ky⟩
          by_cases q : y = i
          · exact .inr (by omega)
          · exact .inl ⟨y, e, by omega, ky⟩
        · rintro (⟨y, e, hy, ky⟩ | e)
          · exact ⟨y, e, by omega, ky⟩
          · exact ⟨i, e, by omega, hk⟩
      by_cases hn : i = 0 ∨ kf (i - 1) = false
      · rw [runR_new hk hn]
        refine ⟨fun x => ?_, List.pairwise_cons.2 ⟨fun q hq => ?_, h2⟩⟩
        · rw [inF_cons, hsp, h1]
          constructor
          · rintro (h | h)
            · exact .inr (by simp only at h; omega)
            · exact .inl h
          · rintro (h | h)
            · exact .inr h
            · exact .inl (by simp only; omega)
        · have hq2 := o2 q hq
          rcases hn with e | e
          · omega
          · by_cases e2 : q.2 = i - 1
            · obtain ⟨y, e3, e4, e5⟩ := (h1 q.2).1 ⟨q, hq, hq2.2.1, Int.le_refl _⟩
              rw [show i - 1 = y by omega, e5] at e; cases e
            · simp only; omega
      · obtain ⟨p, rest, hR, hp⟩ := o3 (by omega) (by cases hq : kf (i - 1) with | true => rfl | false => exact absurd (.inr hq) hn)
        rw [runR_on hk hn hR]
        rw [hR] at h1 h2 o2
        have hpm := o2 p List.mem_cons_self
        obtain ⟨s1, s2⟩ := List.pairwise_cons.1 h2
        refine ⟨fun x => ?_, List.pairwise_cons.2 ⟨fun q hq => s1 q hq, s2⟩⟩
        rw [inF_cons, hsp, ← h1, inF_cons]
        constructor
        · rintro (h | h)
          · simp only at h
            by_cases e : x = i
            · exact .inr e
            · exact .inl (.inl (by omega))
          · exact .inl (.inr h)
        · rintro ((h | h) | h)
          · exact .inl (by simp only; omega)
          · exact .inr h
          · exact .inl (by simp only; omega)
    · have hk' : kf i = false := by simpa using hk
      rw [runR_no hk']
      refine ⟨fun x => ?_, h2⟩
      rw [h1]
      constructor
      · rintro ⟨y, e, hy, ky⟩; exact ⟨y, e, by omega, ky⟩
      · rintro ⟨y, e, hy, ky⟩
        have : y ≠ i := fun q => by rw [q, hk'] at ky; cases ky
        exact ⟨y, e, by omega, ky⟩
theorem runs_frz {r : Ring} (hr : r.ok) {n : Nat} (hn : n ≤ 60) {al : List Int} (hal : alOk n al) : (runR (fun x : Nat => decide (keptP r n al x)) n).reverse = frz r n al := by
  have hn' : 0 ≤ (n : Int) ∧ (n : Int) ≤ 60 := by omega
  obtain ⟨h1, h2⟩ := runR_cov (fun x : Nat => decide (keptP r n al x)) n
  obtain ⟨o1, o2, o3⟩ := runR_ok (fun x : Nat => decide (keptP r n al x)) n
  have hm := frz_mem hr hn' hal
  refine runs_uniq _ _ (fun p hp => (o2 p (List.mem_reverse.1 hp)).2.1) (fun p hp => (hm p hp).2.1) (by rw [List.pairwise_reverse]; exact h2) (frz_sep hr hn' hal) fun x => ?_
  have e1 : inF (runR (fun x : Nat => decide (keptP r n al x)) n).reverse x ↔ inF (runR (fun x : Nat => decide (keptP r n al x)) n) x := by
    unfold inF
    constructor
    · rintro ⟨p, hp, h⟩; exact ⟨p, List.mem_reverse.1 hp, h⟩
    · rintro ⟨p, hp, h⟩; exact ⟨p, List.mem_reverse.2 hp, h⟩
  rw [e1, h1]
  have hc := frz_cov hr hn' hal x
  constructor
  · rintro ⟨y, e, hy, ky⟩
    subst e
    exact hc.2 (by simpa using ky)
  · rintro ⟨p, hp, h⟩
    have hpm := hm p hp
    refine ⟨x.toNat, by omega, by omega, ?_⟩
    have : keptP r n al x := hc.1 ⟨p, hp, h⟩
    simp only [decide_eq_true_eq]
    rw [show ((x.toNat : Nat) : Int) = x by omega]; exact this
theorem lost_eq {r : Ring} (hr : r.ok) {n : Nat} (hn : n ≤ 60) {al : List Int} (hal : alOk n al) : lostK r al (fun x : Nat => decide (keptP r n al x)) n = lostL r n al := by
  have hn' : 0 ≤ (n : Int) ∧ (n : Int) ≤ 60 := by omega
  unfold lostL
  refine lostK_eq r al _ _ n fun x hx => ?_
  rw [Bool.eq_iff_iff, hasF_iff, frz_cov hr hn' hal x]
  simp

def cl_law08_WatchRings : ML := (.seq (.reg 14 [⟨none, (some 3), (.box 59 3 (.t 0))⟩, ⟨none, (some 6), (.mv (.c (.bool false)))⟩] false []) (.seq (.seq (.reg 8206 [⟨none, (some 12), (.call 14 [])⟩, ⟨none, (some 13), (.un .not (.t 12))⟩] false []) (.cond (.t 13) (.seq (.reg 64 [⟨none, (some 6), (.mv (.c (.bool false)))⟩] false []) .ret) .skip)) (.seq (.seq (.reg 2097166 [⟨none, (some 14), (.mv (.t 1))⟩, ⟨none, (some 15), (.call 28 [(.t 14)])⟩, ⟨none, (some 16), (.un .not (.t 15))⟩, ⟨none, (some 17), (.mv (.t 16))⟩, ⟨(some (17, false)), (some 18), (.mv (.t 2))⟩, ⟨(some (17, false)), (some 19), (.call 28 [(.t 18)])⟩, ⟨(some (17, false)), (some 20), (.un .not (.t 19))⟩, ⟨none, (some 21), (.pick (.t 17) (.c (.bool true)) (.t 20))⟩] false []) (.cond (.t 21) (.seq (.reg 64 [⟨none, (some 6), (.mv (.c (.bool true)))⟩] false []) .ret) .skip)) (.seq (.reg 398 [⟨none, (some 23), (.load (some 3) (.t 3))⟩, ⟨none, (some 24), (.mv (.t 1))⟩, ⟨none, (some 25), (.call 32 [(.t 24)])⟩, ⟨none, (some 26), (.mv (.t 2))⟩, ⟨none, (some 27), (.call 32 [(.t 26)])⟩, ⟨none, (some 28), (.call 35 [(.t 23), (.t 25), (.t 27)])⟩, ⟨none, (some 22), (.mv (.t 28))⟩, ⟨none, (some 29), (.extract (.t 22) 0)⟩, ⟨none, (some 30), (.extract (.t 22) 1)⟩, ⟨none, (some 7), (.mv (.t 29))⟩, ⟨none, (some 8), (.mv (.t 30))⟩] true []) (.seq (.reg 1934 [⟨none, (some 32), (.load (some 3) (.t 3))⟩, ⟨none, (some 33), (.mv (.t 1))⟩, ⟨none, (some 34), (.call 32 [(.t 33)])⟩, ⟨none, (some 35), (.mv (.t 2))⟩, ⟨none, (some 36), (.call 32 [(.t 35)])⟩, ⟨none, (some 37), (.call 36 [(.t 32), (.t 34), (.t 36)])⟩, ⟨none, (some 31), (.mv (.t 37))⟩, ⟨none, (some 38), (.extract (.t 31) 0)⟩, ⟨none, (some 39), (.extract (.t 31) 1)⟩, ⟨none, (some 9), (.mv (.t 38))⟩, ⟨none, (some 10), (.mv (.t 39))⟩] true []) (.seq (.reg 3982 [⟨none, (some 40), (.load (some 3) (.t 3))⟩, ⟨none, (some 41), (.call 37 [(.t 40)])⟩, ⟨none, (some 11), (.mv (.t 41))⟩] false []) (.seq (.seq (.reg 35184372092814 [⟨none, (some 42), (.load (some 3) (.t 3))⟩, ⟨none, (some 43), (.call 38 [(.t 42)])⟩, ⟨none, (some 44), (.mv (.t 11))⟩, ⟨none, (some 45), (.bin .neq (.t 43) (.t 44))⟩] false []) (.cond (.t 45) (.seq (.reg 64 [⟨none, (some 6), (.mv (.c (.bool false)))⟩] false []) .ret) .skip)) (.seq (.seq (.reg 140737488359310 [⟨none, (some 46), (.mv (.t 11))⟩, ⟨none, (some 47), (.bin .eql (.t 46) (.c (.int .i64 0)))⟩] false []) (.cond (.t 47) (.reg 3982 [⟨none, (some 48), (.mv (.t 1))⟩, ⟨none, (some 49), (.call 30 [(.t 48)])⟩, ⟨none, (some 11), (.mv (.t 49))⟩] false []) .skip)) (.seq (.seq (.reg 2251799813689230 [⟨none, (some 50), (.mv (.t 11))⟩, ⟨none, (some 51), (.bin .eql (.t 50) (.c (.int .i64 0)))⟩] false []) (.cond (.t 51) (.reg 3982 [⟨none, (some 52), (.mv (.t 1))⟩, ⟨none, (some 53), (.len false (.t 52))⟩, ⟨none, (some 54), (.mv (.t 2))⟩, ⟨none, (some 55), (.call 39 [(.t 53), (.t 54)])⟩, ⟨none, (some 11), (.mv (.t 55))⟩] false []) .skip)) (.seq (.seq (.reg 144115188075859854 [⟨none, (some 56), (.mv (.t 11))⟩, ⟨none, (some 57), (.bin .neq (.t 56) (.c (.int .i64 0)))⟩] false []) (.cond (.t 57) (.seq (.reg 64 [⟨none, (some 58), (.mv (.t 8))⟩, ⟨none, (some 59), (.mv (.t 11))⟩, ⟨none, (some 60), (.bin .eql (.t 58) (.t 59))⟩, ⟨none, (some 61), (.mv (.t 60))⟩, ⟨(some (61, true)), (some 62), (.mv (.t 10))⟩, ⟨(some (61, true)), (some 63), (.mv (.t 11))⟩, ⟨(some (61, true)), (some 64), (.bin .eql (.t 62) (.t 63))⟩, ⟨none, (some 65), (.pick (.t 61) (.t 64) (.c (.bool false)))⟩, ⟨none, (some 66), (.mv (.t 65))⟩, ⟨(some (66, true)), (some 67), (.mv (.t 7))⟩, ⟨(some (66, true)), (some 68), (.len false (.t 67))⟩, ⟨(some (66, true)), (some 69), (.mv (.t 9))⟩, ⟨(some (66, true)), (some 70), (.len false (.t 69))⟩, ⟨(some (66, true)), (some 71), (.bin .add (.t 68) (.t 70))⟩, ⟨(some (66, true)), (some 72), (.bin .eql (.t 71) (.c (.int .i64 0)))⟩, ⟨none, (some 73), (.pick (.t 66) (.t 72) (.c (.bool false)))⟩, ⟨none, (some 6), (.mv (.t 73))⟩] false []) .ret) .skip)) (.seq (.reg 64 [⟨none, (some 74), (.mv (.t 8))⟩, ⟨none, (some 75), (.bin .eql (.t 74) (.c (.int .i64 0)))⟩, ⟨none, (some 76), (.mv (.t 75))⟩, ⟨(some (76, true)), (some 77), (.mv (.t 7))⟩, ⟨(some (76, true)), (some 78), (.load (some 3) (.t 3))⟩, ⟨(some (76, true)), (some 79), (.mv (.t 1))⟩, ⟨(some (76, true)), (some 80), (.mv (.t 2))⟩, ⟨(some (76, true)), (some 81), (.call 41 [(.t 78), (.t 79), (.t 80)])⟩, ⟨(some (76, true)), (some 82), (.call 40 [(.t 77), (.t 81)])⟩, ⟨none, (some 83), (.pick (.t 76) (.t 82) (.c (.bool false)))⟩, ⟨none, (some 84), (.mv (.t 83))⟩, ⟨(some (84, true)), (some 85), (.mv (.t 10))⟩, ⟨(some (84, true)), (some 86), (.bin .eql (.t 85) (.c (.int .i64 0)))⟩, ⟨none, (some 87), (.pick (.t 84) (.t 86) (.c (.bool false)))⟩, ⟨none, (some 88), (.mv (.t 87))⟩, ⟨(some (88, true)), (some 89), (.mv (.t 9))⟩, ⟨(some (88, true)), (some 90), (.load (some 3) (.t 3))⟩, ⟨(some (88, true)), (some 91), (.mv (.t 1))⟩, ⟨(some (88, true)), (some 92), (.mv (.t 2))⟩, ⟨(some (88, true)), (some 93), (.call 43 [(.t 90), (.t 91), (.t 92)])⟩, ⟨(some (88, true)), (some 94), (.call 42 [(.t 89), (.t 93)])⟩, ⟨none, (some 95), (.pick (.t 88) (.t 94) (.c (.bool false)))⟩, ⟨none, (some 6), (.mv (.t 95))⟩] false []) .ret)))))))))))
theorem e_law08_WatchRings : cl_law08_WatchRings.er = c_law08_WatchRings := rfl
set_option maxRecDepth 20000 in
set_option maxHeartbeats 16000000 in
theorem WatchRings_s (r : Ring) (l al : List Int) (hlen : l.length ≤ maxLen) (hlen2 : al.length ≤ maxLen) : Sound Try.prog 6 [r.av, .sl (ints l), .sl (ints al)] (.bool true) := by
  refine sound_WL f_law08_WatchRings e_law08_WatchRings (Nat.le_of_ble_eq_true rfl) ?_
  simp only [cl_law08_WatchRings, Ring.av, vcV, vcD, Int.reduceEq, Int.reduceNe, Int.reduceLT, Int.reduceLE, Nat.reduceEqDiff, Nat.reduceAdd, reduceIte, reduceCtorEq, Nat.reduceLT, Nat.reduceLeDiff, eq_self, Option.bind_some, Option.map_some, List.map_cons, List.map_nil, List.length_cons, List.length_nil, Option.getD_some, Option.getD_none, List.all_cons, List.all_nil, List.set_cons_zero, List.set_cons_succ, List.replicate_succ, List.replicate_zero, List.getElem?_cons_zero, List.getElem?_cons_succ, List.drop_succ_cons, List.drop_zero, List.take_succ_cons, List.take_zero, List.map_append, List.nil_append, List.cons_append, Nat.reduceShiftRight, Nat.reduceMod]
  refine callS_of awake_s ?_
  simp only [vcV, vcD, Int.reduceEq, Int.reduceNe, Int.reduceLT, Int.reduceLE, Nat.reduceEqDiff, Nat.reduceAdd, reduceIte, reduceCtorEq, Nat.reduceLT, Nat.reduceLeDiff, eq_self, Option.bind_some, Option.map_some, List.map_cons, List.map_nil, List.length_cons, List.length_nil, Option.getD_some, Option.getD_none, List.all_cons, List.all_nil, List.set_cons_zero, List.set_cons_succ, List.replicate_succ, List.replicate_zero, List.getElem?_cons_zero, List.getElem?_cons_succ, List.drop_succ_cons, List.drop_zero, List.take_succ_cons, List.take_zero, List.map_append, List.nil_append, List.cons_append, Nat.reduceShiftRight, Nat.reduceMod]
  refine callS_of (few_s l) ?_
  by_cases hl : (l.length : Int) ≤ 62
  case neg => simp only [hl, vcV, vcD, Int.reduceEq, Int.reduceNe, Int.reduceLT, Int.reduceLE, Nat.reduceEqDiff, Nat.reduceAdd, reduceIte, reduceCtorEq, Nat.reduceLT, Nat.reduceLeDiff, eq_self, Option.bind_some, Option.map_some, List.map_cons, List.map_nil, List.length_cons, List.length_nil, Option.getD_some, Option.getD_none, List.all_cons, List.all_nil, List.set_cons_zero, List.set_cons_succ, List.replicate_succ, List.replicate_zero, List.getElem?_cons_zero, List.getElem?_cons_succ, List.drop_succ_cons, List.drop_zero, List.take_succ_cons, List.take_zero, List.map_append, List.nil_append, List.cons_append, Nat.reduceShiftRight, Nat.reduceMod]
  simp only [hl, vcV, vcD, Int.reduceEq, Int.reduceNe, Int.reduceLT, Int.reduceLE, Nat.reduceEqDiff, Nat.reduceAdd, reduceIte, reduceCtorEq, Nat.reduceLT, Nat.reduceLeDiff, eq_self, Option.bind_some, Option.map_some, List.map_cons, List.map_nil, List.length_cons, List.length_nil, Option.getD_some, Option.getD_none, List.all_cons, List.all_nil, List.set_cons_zero, List.set_cons_succ, List.replicate_succ, List.replicate_zero, List.getElem?_cons_zero, List.getElem?_cons_succ, List.drop_succ_cons, List.drop_zero, List.take_succ_cons, List.take_zero, List.map_append, List.nil_append, List.cons_append, Nat.reduceShiftRight, Nat.reduceMod]
  refine callS_of (few_s al) ?_
  by_cases ha : (al.length : Int) ≤ 62
  case neg => simp only [ha, vcV, vcD, Int.reduceEq, Int.reduceNe, Int.reduceLT, Int.reduceLE, Nat.reduceEqDiff, Nat.reduceAdd, reduceIte, reduceCtorEq, Nat.reduceLT, Nat.reduceLeDiff, eq_self, Option.bind_some, Option.map_some, List.map_cons, List.map_nil, List.length_cons, List.length_nil, Option.getD_some, Option.getD_none, List.all_cons, List.all_nil, List.set_cons_zero, List.set_cons_succ, List.replicate_succ, List.replicate_zero, List.getElem?_cons_zero, List.getElem?_cons_succ, List.drop_succ_cons, List.drop_zero, List.take_succ_cons, List.take_zero, List.map_append, List.nil_append, List.cons_append, Nat.reduceShiftRight, Nat.reduceMod]
  have hl1 : l.length ≤ 1000000000 := by omega
  have ha1 : al.length ≤ 1000000000 := by omega
  have hCl := CopyInts_s l hl1
  have hCa := CopyInts_s al ha1
  have hK := KeptBy_s r l al hl1 ha1
  have hL := LostBy_s r l al hl1 ha1
  have hmax := maxLen_big
  by_cases hE : allE r l al = 0
  case neg =>
    have hd : allE r l al = if ringE r = 0 then (if countsE l = 0 then alarmsE l.length al else countsE l) else ringE r := by
      unfold allE rcE
      by_cases h1 : ringE r = 0
      · by_cases h2 : countsE l = 0
        · simp [h1, h2]
        · simp [h1, h2]
      · simp [h1]
    rw [if_neg hE] at hK hL
    generalize allE r l al = E at *
    simp only [ha, vcV, vcD, Int.reduceEq, Int.reduceNe, Int.reduceLT, Int.reduceLE, Nat.reduceEqDiff, Nat.reduceAdd, reduceIte, reduceCtorEq, Nat.reduceLT, Nat.reduceLeDiff, eq_self, Option.bind_some, Option.map_some, List.map_cons, List.map_nil, List.length_cons, List.length_nil, Option.getD_some, Option.getD_none, List.all_cons, List.all_nil, List.set_cons_zero, List.set_cons_succ, List.replicate_succ, List.replicate_zero, List.getElem?_cons_zero, List.getElem?_cons_succ, List.drop_succ_cons, List.drop_zero, List.take_succ_cons, List.take_zero, List.map_append, List.nil_append, List.cons_append, Nat.reduceShiftRight, Nat.reduceMod]
    refine callS_of hCl ?_
    simp only [vcV, vcD, Int.reduceEq, Int.reduceNe, Int.reduceLT, Int.reduceLE, Nat.reduceEqDiff, Nat.reduceAdd, reduceIte, reduceCtorEq, Nat.reduceLT, Nat.reduceLeDiff, eq_self, Option.bind_some, Option.map_some, List.map_cons, List.map_nil, List.length_cons, List.length_nil, Option.getD_some, Option.getD_none, List.all_cons, List.all_nil, List.set_cons_zero, List.set_cons_succ, List.replicate_succ, List.replicate_zero, List.getElem?_cons_zero, List.getElem?_cons_succ, List.drop_succ_cons, List.drop_zero, List.take_succ_cons, List.take_zero, List.map_append, List.nil_append, List.cons_append, Nat.reduceShiftRight, Nat.reduceMod]
    refine callS_of hCa ?_
    simp only [vcV, vcD, Int.reduceEq, Int.reduceNe, Int.reduceLT, Int.reduceLE, Nat.reduceEqDiff, Nat.reduceAdd, reduceIte, reduceCtorEq, Nat.reduceLT, Nat.reduceLeDiff, eq_self, Option.bind_some, Option.map_some, List.map_cons, List.map_nil, List.length_cons, List.length_nil, Option.getD_some, Option.getD_none, List.all_cons, List.all_nil, List.set_cons_zero, List.set_cons_succ, List.replicate_succ, List.replicate_zero, List.getElem?_cons_zero, List.getElem?_cons_succ, List.drop_succ_cons, List.drop_zero, List.take_succ_cons, List.take_zero, List.map_append, List.nil_append, List.cons_append, Nat.reduceShiftRight, Nat.reduceMod]
    refine callS_of hK ?_
    simp only [vcV, vcD, Int.reduceEq, Int.reduceNe, Int.reduceLT, Int.reduceLE, Nat.reduceEqDiff, Nat.reduceAdd, reduceIte, reduceCtorEq, Nat.reduceLT, Nat.reduceLeDiff, eq_self, Option.bind_some, Option.map_some, List.map_cons, List.map_nil, List.length_cons, List.length_nil, Option.getD_some, Option.getD_none, List.all_cons, List.all_nil, List.set_cons_zero, List.set_cons_succ, List.replicate_succ, List.replicate_zero, List.getElem?_cons_zero, List.getElem?_cons_succ, List.drop_succ_cons, List.drop_zero, List.take_succ_cons, List.take_zero, List.map_append, List.nil_append, List.cons_append, Nat.reduceShiftRight, Nat.reduceMod]
    refine callS_of hCl ?_
    simp only [vcV, vcD, Int.reduceEq, Int.reduceNe, Int.reduceLT, Int.reduceLE, Nat.reduceEqDiff, Nat.reduceAdd, reduceIte, reduceCtorEq, Nat.reduceLT, Nat.reduceLeDiff, eq_self, Option.bind_some, Option.map_some, List.map_cons, List.map_nil, List.length_cons, List.length_nil, Option.getD_some, Option.getD_none, List.all_cons, List.all_nil, List.set_cons_zero, List.set_cons_succ, List.replicate_succ, List.replicate_zero, List.getElem?_cons_zero, List.getElem?_cons_succ, List.drop_succ_cons, List.drop_zero, List.take_succ_cons, List.take_zero, List.map_append, List.nil_append, List.cons_append, Nat.reduceShiftRight, Nat.reduceMod]
    refine callS_of hCa ?_
    simp only [vcV, vcD, Int.reduceEq, Int.reduceNe, Int.reduceLT, Int.reduceLE, Nat.reduceEqDiff, Nat.reduceAdd, reduceIte, reduceCtorEq, Nat.reduceLT, Nat.reduceLeDiff, eq_self, Option.bind_some, Option.map_some, List.map_cons, List.map_nil, List.length_cons, List.length_nil, Option.getD_some, Option.getD_none, List.all_cons, List.all_nil, List.set_cons_zero, List.set_cons_succ, List.replicate_succ, List.replicate_zero, List.getElem?_cons_zero, List.getElem?_cons_succ, List.drop_succ_cons, List.drop_zero, List.take_succ_cons, List.take_zero, List.map_append, List.nil_append, List.cons_append, Nat.reduceShiftRight, Nat.reduceMod]
    refine callS_of hL ?_
    simp only [vcV, vcD, Int.reduceEq, Int.reduceNe, Int.reduceLT, Int.reduceLE, Nat.reduceEqDiff, Nat.reduceAdd, reduceIte, reduceCtorEq, Nat.reduceLT, Nat.reduceLeDiff, eq_self, Option.bind_some, Option.map_some, List.map_cons, List.map_nil, List.length_cons, List.length_nil, Option.getD_some, Option.getD_none, List.all_cons, List.all_nil, List.set_cons_zero, List.set_cons_succ, List.replicate_succ, List.replicate_zero, List.getElem?_cons_zero, List.getElem?_cons_succ, List.drop_succ_cons, List.drop_zero, List.take_succ_cons, List.take_zero, List.map_append, List.nil_append, List.cons_append, Nat.reduceShiftRight, Nat.reduceMod]
    refine callS_of (RingErr_s r) ?_
    simp only [vcV, vcD, Int.reduceEq, Int.reduceNe, Int.reduceLT, Int.reduceLE, Nat.reduceEqDiff, Nat.reduceAdd, reduceIte, reduceCtorEq, Nat.reduceLT, Nat.reduceLeDiff, eq_self, Option.bind_some, Option.map_some, List.map_cons, List.map_nil, List.length_cons, List.length_nil, Option.getD_some, Option.getD_none, List.all_cons, List.all_nil, List.set_cons_zero, List.set_cons_succ, List.replicate_succ, List.replicate_zero, List.getElem?_cons_zero, List.getElem?_cons_succ, List.drop_succ_cons, List.drop_zero, List.take_succ_cons, List.take_zero, List.map_append, List.nil_append, List.cons_append, Nat.reduceShiftRight, Nat.reduceMod]
    refine callS_of (CheckRing_s r) ?_
    by_cases hR : ringE r = 0
    · rw [if_pos hR] at hd
      simp only [hR, vcV, vcD, Int.reduceEq, Int.reduceNe, Int.reduceLT, Int.reduceLE, Nat.reduceEqDiff, Nat.reduceAdd, reduceIte, reduceCtorEq, Nat.reduceLT, Nat.reduceLeDiff, eq_self, Option.bind_some, Option.map_some, List.map_cons, List.map_nil, List.length_cons, List.length_nil, Option.getD_some, Option.getD_none, List.all_cons, List.all_nil, List.set_cons_zero, List.set_cons_succ, List.replicate_succ, List.replicate_zero, List.getElem?_cons_zero, List.getElem?_cons_succ, List.drop_succ_cons, List.drop_zero, List.take_succ_cons, List.take_zero, List.map_append, List.nil_append, List.cons_append, Nat.reduceShiftRight, Nat.reduceMod]
      refine callS_of (CountsErr_s l hl1) ?_
      by_cases hC : countsE l = 0
      · rw [if_pos hC] at hd
        simp only [hC, vcV, vcD, Int.reduceEq, Int.reduceNe, Int.reduceLT, Int.reduceLE, Nat.reduceEqDiff, Nat.reduceAdd, reduceIte, reduceCtorEq, Nat.reduceLT, Nat.reduceLeDiff, eq_self, Option.bind_some, Option.map_some, List.map_cons, List.map_nil, List.length_cons, List.length_nil, Option.getD_some, Option.getD_none, List.all_cons, List.all_nil, List.set_cons_zero, List.set_cons_succ, List.replicate_succ, List.replicate_zero, List.getElem?_cons_zero, List.getElem?_cons_succ, List.drop_succ_cons, List.drop_zero, List.take_succ_cons, List.take_zero, List.map_append, List.nil_append, List.cons_append, Nat.reduceShiftRight, Nat.reduceMod]
        refine callS_of (AlarmsErr_s l.length al (by omega) ha1) ?_
        rw [← hd]
        simp only [hE, ints_length, List.length_nil, vcV, vcD, Int.reduceEq, Int.reduceNe, Int.reduceLT, Int.reduceLE, Nat.reduceEqDiff, Nat.reduceAdd, reduceIte, reduceCtorEq, Nat.reduceLT, Nat.reduceLeDiff, eq_self, Option.bind_some, Option.map_some, List.map_cons, List.map_nil, List.length_cons, List.length_nil, Option.getD_some, Option.getD_none, List.all_cons, List.all_nil, List.set_cons_zero, List.set_cons_succ, List.replicate_succ, List.replicate_zero, List.getElem?_cons_zero, List.getElem?_cons_succ, List.drop_succ_cons, List.drop_zero, List.take_succ_cons, List.take_zero, List.map_append, List.nil_append, List.cons_append, Nat.reduceShiftRight, Nat.reduceMod]
        try (repeat (with_reducible refine And.intro ?_ ?_; focus (first | omega | (unfold I64; omega))))
        try simp only [Int.add_zero, Int.natCast_zero, Int.ofNat_eq_natCast, List.length_nil, Int.cast_ofNat_Int, vcV, vcD, Int.reduceEq, Int.reduceNe, Int.reduceLT, Int.reduceLE, Nat.reduceEqDiff, Nat.reduceAdd, reduceIte, reduceCtorEq, Nat.reduceLT, Nat.reduceLeDiff, eq_self, Option.bind_some, Option.map_some, List.map_cons, List.map_nil, List.length_cons, List.length_nil, Option.getD_some, Option.getD_none, List.all_cons, List.all_nil, List.set_cons_zero, List.set_cons_succ, List.replicate_succ, List.replicate_zero, List.getElem?_cons_zero, List.getElem?_cons_succ, List.drop_succ_cons, List.drop_zero, List.take_succ_cons, List.take_zero, List.map_append, List.nil_append, List.cons_append, Nat.reduceShiftRight, Nat.reduceMod]
      · rw [if_neg hC] at hd
        rw [← hd]
        simp only [hE, ints_length, List.length_nil, vcV, vcD, Int.reduceEq, Int.reduceNe, Int.reduceLT, Int.reduceLE, Nat.reduceEqDiff, Nat.reduceAdd, reduceIte, reduceCtorEq, Nat.reduceLT, Nat.reduceLeDiff, eq_self, Option.bind_some, Option.map_some, List.map_cons, List.map_nil, List.length_cons, List.length_nil, Option.getD_some, Option.getD_none, List.all_cons, List.all_nil, List.set_cons_zero, List.set_cons_succ, List.replicate_succ, List.replicate_zero, List.getElem?_cons_zero, List.getElem?_cons_succ, List.drop_succ_cons, List.drop_zero, List.take_succ_cons, List.take_zero, List.map_append, List.nil_append, List.cons_append, Nat.reduceShiftRight, Nat.reduceMod]
        try (repeat (with_reducible refine And.intro ?_ ?_; focus (first | omega | (unfold I64; omega))))
        try simp only [Int.add_zero, Int.natCast_zero, Int.ofNat_eq_natCast, List.length_nil, Int.cast_ofNat_Int, vcV, vcD, Int.reduceEq, Int.reduceNe, Int.reduceLT, Int.reduceLE, Nat.reduceEqDiff, Nat.reduceAdd, reduceIte, reduceCtorEq, Nat.reduceLT, Nat.reduceLeDiff, eq_self, Option.bind_some, Option.map_some, List.map_cons, List.map_nil, List.length_cons, List.length_nil, Option.getD_some, Option.getD_none, List.all_cons, List.all_nil, List.set_cons_zero, List.set_cons_succ, List.replicate_succ, List.replicate_zero, List.getElem?_cons_zero, List.getElem?_cons_succ, List.drop_succ_cons, List.drop_zero, List.take_succ_cons, List.take_zero, List.map_append, List.nil_append, List.cons_append, Nat.reduceShiftRight, Nat.reduceMod]
    · rw [if_neg hR] at hd
      rw [← hd]
      simp only [hE, ints_length, List.length_nil, vcV, vcD, Int.reduceEq, Int.reduceNe, Int.reduceLT, Int.reduceLE, Nat.reduceEqDiff, Nat.reduceAdd, reduceIte, reduceCtorEq, Nat.reduceLT, Nat.reduceLeDiff, eq_self, Option.bind_some, Option.map_some, List.map_cons, List.map_nil, List.length_cons, List.length_nil, Option.getD_some, Option.getD_none, List.all_cons, List.all_nil, List.set_cons_zero, List.set_cons_succ, List.replicate_succ, List.replicate_zero, List.getElem?_cons_zero, List.getElem?_cons_succ, List.drop_succ_cons, List.drop_zero, List.take_succ_cons, List.take_zero, List.map_append, List.nil_append, List.cons_append, Nat.reduceShiftRight, Nat.reduceMod]
      try (repeat (with_reducible refine And.intro ?_ ?_; focus (first | omega | (unfold I64; omega))))
      try simp only [Int.add_zero, Int.natCast_zero, Int.ofNat_eq_natCast, List.length_nil, Int.cast_ofNat_Int, vcV, vcD, Int.reduceEq, Int.reduceNe, Int.reduceLT, Int.reduceLE, Nat.reduceEqDiff, Nat.reduceAdd, reduceIte, reduceCtorEq, Nat.reduceLT, Nat.reduceLeDiff, eq_self, Option.bind_some, Option.map_some, List.map_cons, List.map_nil, List.length_cons, List.length_nil, Option.getD_some, Option.getD_none, List.all_cons, List.all_nil, List.set_cons_zero, List.set_cons_succ, List.replicate_succ, List.replicate_zero, List.getElem?_cons_zero, List.getElem?_cons_succ, List.drop_succ_cons, List.drop_zero, List.take_succ_cons, List.take_zero, List.map_append, List.nil_append, List.cons_append, Nat.reduceShiftRight, Nat.reduceMod]
  obtain ⟨hr, hc, hao⟩ := allE_ok hE
  have hl60 := (countsE_ok hc).1
  have hn : 0 ≤ (l.length : Int) ∧ (l.length : Int) ≤ 60 := by omega
  have hal := alOk_len hao hn.1
  have hR : ringE r = 0 := if_pos hr
  have hA : alarmsE l.length al = 0 := by
    unfold allE rcE at hE
    simpa [hR, hc] using hE
  have hrK := Kept_s r hr l hl60 al hao (by omega)
  have hrL := refLost_s r hr l hl60 al hao (by omega)
  rw [runs_frz hr hl60 hao] at hrK
  rw [lost_eq hr hl60 hao] at hrL
  rw [if_pos hE, hE] at hK hL
  have hfl := frz_len (r := r) (n := l.length) (al := al)
  have hln := lostTo_le r al (frz r l.length al) l.length
  have hln2 : (lostL r l.length al).length ≤ l.length := hln
  have hSF := SameFreezes_s l (frz r l.length al) (by omega) hl60
  have hIn : Sound Try.prog 42 [.sl (ints (lostL r l.length al)), .sl (ints (lostL r l.length al))] (.bool true) := by
    have := Ints_s (lostL r l.length al) (lostL r l.length al) (by omega)
    simpa using this
  generalize frzsA l (frz r l.length al) = fs at *
  generalize lostL r l.length al = lo at *
  simp only [ha, vcV, vcD, Int.reduceEq, Int.reduceNe, Int.reduceLT, Int.reduceLE, Nat.reduceEqDiff, Nat.reduceAdd, reduceIte, reduceCtorEq, Nat.reduceLT, Nat.reduceLeDiff, eq_self, Option.bind_some, Option.map_some, List.map_cons, List.map_nil, List.length_cons, List.length_nil, Option.getD_some, Option.getD_none, List.all_cons, List.all_nil, List.set_cons_zero, List.set_cons_succ, List.replicate_succ, List.replicate_zero, List.getElem?_cons_zero, List.getElem?_cons_succ, List.drop_succ_cons, List.drop_zero, List.take_succ_cons, List.take_zero, List.map_append, List.nil_append, List.cons_append, Nat.reduceShiftRight, Nat.reduceMod]
  refine callS_of hCl ?_
  simp only [vcV, vcD, Int.reduceEq, Int.reduceNe, Int.reduceLT, Int.reduceLE, Nat.reduceEqDiff, Nat.reduceAdd, reduceIte, reduceCtorEq, Nat.reduceLT, Nat.reduceLeDiff, eq_self, Option.bind_some, Option.map_some, List.map_cons, List.map_nil, List.length_cons, List.length_nil, Option.getD_some, Option.getD_none, List.all_cons, List.all_nil, List.set_cons_zero, List.set_cons_succ, List.replicate_succ, List.replicate_zero, List.getElem?_cons_zero, List.getElem?_cons_succ, List.drop_succ_cons, List.drop_zero, List.take_succ_cons, List.take_zero, List.map_append, List.nil_append, List.cons_append, Nat.reduceShiftRight, Nat.reduceMod]
  refine callS_of hCa ?_
  simp only [vcV, vcD, Int.reduceEq, Int.reduceNe, Int.reduceLT, Int.reduceLE, Nat.reduceEqDiff, Nat.reduceAdd, reduceIte, reduceCtorEq, Nat.reduceLT, Nat.reduceLeDiff, eq_self, Option.bind_some, Option.map_some, List.map_cons, List.map_nil, List.length_cons, List.length_nil, Option.getD_some, Option.getD_none, List.all_cons, List.all_nil, List.set_cons_zero, List.set_cons_succ, List.replicate_succ, List.replicate_zero, List.getElem?_cons_zero, List.getElem?_cons_succ, List.drop_succ_cons, List.drop_zero, List.take_succ_cons, List.take_zero, List.map_append, List.nil_append, List.cons_append, Nat.reduceShiftRight, Nat.reduceMod]
  refine callS_of hK ?_
  simp only [vcV, vcD, Int.reduceEq, Int.reduceNe, Int.reduceLT, Int.reduceLE, Nat.reduceEqDiff, Nat.reduceAdd, reduceIte, reduceCtorEq, Nat.reduceLT, Nat.reduceLeDiff, eq_self, Option.bind_some, Option.map_some, List.map_cons, List.map_nil, List.length_cons, List.length_nil, Option.getD_some, Option.getD_none, List.all_cons, List.all_nil, List.set_cons_zero, List.set_cons_succ, List.replicate_succ, List.replicate_zero, List.getElem?_cons_zero, List.getElem?_cons_succ, List.drop_succ_cons, List.drop_zero, List.take_succ_cons, List.take_zero, List.map_append, List.nil_append, List.cons_append, Nat.reduceShiftRight, Nat.reduceMod]
  refine callS_of hCl ?_
  simp only [vcV, vcD, Int.reduceEq, Int.reduceNe, Int.reduceLT, Int.reduceLE, Nat.reduceEqDiff, Nat.reduceAdd, reduceIte, reduceCtorEq, Nat.reduceLT, Nat.reduceLeDiff, eq_self, Option.bind_some, Option.map_some, List.map_cons, List.map_nil, List.length_cons, List.length_nil, Option.getD_some, Option.getD_none, List.all_cons, List.all_nil, List.set_cons_zero, List.set_cons_succ, List.replicate_succ, List.replicate_zero, List.getElem?_cons_zero, List.getElem?_cons_succ, List.drop_succ_cons, List.drop_zero, List.take_succ_cons, List.take_zero, List.map_append, List.nil_append, List.cons_append, Nat.reduceShiftRight, Nat.reduceMod]
  refine callS_of hCa ?_
  simp only [vcV, vcD, Int.reduceEq, Int.reduceNe, Int.reduceLT, Int.reduceLE, Nat.reduceEqDiff, Nat.reduceAdd, reduceIte, reduceCtorEq, Nat.reduceLT, Nat.reduceLeDiff, eq_self, Option.bind_some, Option.map_some, List.map_cons, List.map_nil, List.length_cons, List.length_nil, Option.getD_some, Option.getD_none, List.all_cons, List.all_nil, List.set_cons_zero, List.set_cons_succ, List.replicate_succ, List.replicate_zero, List.getElem?_cons_zero, List.getElem?_cons_succ, List.drop_succ_cons, List.drop_zero, List.take_succ_cons, List.take_zero, List.map_append, List.nil_append, List.cons_append, Nat.reduceShiftRight, Nat.reduceMod]
  refine callS_of hL ?_
  simp only [vcV, vcD, Int.reduceEq, Int.reduceNe, Int.reduceLT, Int.reduceLE, Nat.reduceEqDiff, Nat.reduceAdd, reduceIte, reduceCtorEq, Nat.reduceLT, Nat.reduceLeDiff, eq_self, Option.bind_some, Option.map_some, List.map_cons, List.map_nil, List.length_cons, List.length_nil, Option.getD_some, Option.getD_none, List.all_cons, List.all_nil, List.set_cons_zero, List.set_cons_succ, List.replicate_succ, List.replicate_zero, List.getElem?_cons_zero, List.getElem?_cons_succ, List.drop_succ_cons, List.drop_zero, List.take_succ_cons, List.take_zero, List.map_append, List.nil_append, List.cons_append, Nat.reduceShiftRight, Nat.reduceMod]
  refine callS_of (RingErr_s r) ?_
  simp only [vcV, vcD, Int.reduceEq, Int.reduceNe, Int.reduceLT, Int.reduceLE, Nat.reduceEqDiff, Nat.reduceAdd, reduceIte, reduceCtorEq, Nat.reduceLT, Nat.reduceLeDiff, eq_self, Option.bind_some, Option.map_some, List.map_cons, List.map_nil, List.length_cons, List.length_nil, Option.getD_some, Option.getD_none, List.all_cons, List.all_nil, List.set_cons_zero, List.set_cons_succ, List.replicate_succ, List.replicate_zero, List.getElem?_cons_zero, List.getElem?_cons_succ, List.drop_succ_cons, List.drop_zero, List.take_succ_cons, List.take_zero, List.map_append, List.nil_append, List.cons_append, Nat.reduceShiftRight, Nat.reduceMod]
  refine callS_of (CheckRing_s r) ?_
  simp only [hR, vcV, vcD, Int.reduceEq, Int.reduceNe, Int.reduceLT, Int.reduceLE, Nat.reduceEqDiff, Nat.reduceAdd, reduceIte, reduceCtorEq, Nat.reduceLT, Nat.reduceLeDiff, eq_self, Option.bind_some, Option.map_some, List.map_cons, List.map_nil, List.length_cons, List.length_nil, Option.getD_some, Option.getD_none, List.all_cons, List.all_nil, List.set_cons_zero, List.set_cons_succ, List.replicate_succ, List.replicate_zero, List.getElem?_cons_zero, List.getElem?_cons_succ, List.drop_succ_cons, List.drop_zero, List.take_succ_cons, List.take_zero, List.map_append, List.nil_append, List.cons_append, Nat.reduceShiftRight, Nat.reduceMod]
  refine callS_of (CountsErr_s l hl1) ?_
  simp only [hc, vcV, vcD, Int.reduceEq, Int.reduceNe, Int.reduceLT, Int.reduceLE, Nat.reduceEqDiff, Nat.reduceAdd, reduceIte, reduceCtorEq, Nat.reduceLT, Nat.reduceLeDiff, eq_self, Option.bind_some, Option.map_some, List.map_cons, List.map_nil, List.length_cons, List.length_nil, Option.getD_some, Option.getD_none, List.all_cons, List.all_nil, List.set_cons_zero, List.set_cons_succ, List.replicate_succ, List.replicate_zero, List.getElem?_cons_zero, List.getElem?_cons_succ, List.drop_succ_cons, List.drop_zero, List.take_succ_cons, List.take_zero, List.map_append, List.nil_append, List.cons_append, Nat.reduceShiftRight, Nat.reduceMod]
  refine callS_of (AlarmsErr_s l.length al (by omega) ha1) ?_
  simp only [hA, vcV, vcD, Int.reduceEq, Int.reduceNe, Int.reduceLT, Int.reduceLE, Nat.reduceEqDiff, Nat.reduceAdd, reduceIte, reduceCtorEq, Nat.reduceLT, Nat.reduceLeDiff, eq_self, Option.bind_some, Option.map_some, List.map_cons, List.map_nil, List.length_cons, List.length_nil, Option.getD_some, Option.getD_none, List.all_cons, List.all_nil, List.set_cons_zero, List.set_cons_succ, List.replicate_succ, List.replicate_zero, List.getElem?_cons_zero, List.getElem?_cons_succ, List.drop_succ_cons, List.drop_zero, List.take_succ_cons, List.take_zero, List.map_append, List.nil_append, List.cons_append, Nat.reduceShiftRight, Nat.reduceMod]
  refine callS_of hrK ?_
  simp only [vcV, vcD, Int.reduceEq, Int.reduceNe, Int.reduceLT, Int.reduceLE, Nat.reduceEqDiff, Nat.reduceAdd, reduceIte, reduceCtorEq, Nat.reduceLT, Nat.reduceLeDiff, eq_self, Option.bind_some, Option.map_some, List.map_cons, List.map_nil, List.length_cons, List.length_nil, Option.getD_some, Option.getD_none, List.all_cons, List.all_nil, List.set_cons_zero, List.set_cons_succ, List.replicate_succ, List.replicate_zero, List.getElem?_cons_zero, List.getElem?_cons_succ, List.drop_succ_cons, List.drop_zero, List.take_succ_cons, List.take_zero, List.map_append, List.nil_append, List.cons_append, Nat.reduceShiftRight, Nat.reduceMod]
  refine callS_of hSF ?_
  simp only [vcV, vcD, Int.reduceEq, Int.reduceNe, Int.reduceLT, Int.reduceLE, Nat.reduceEqDiff, Nat.reduceAdd, reduceIte, reduceCtorEq, Nat.reduceLT, Nat.reduceLeDiff, eq_self, Option.bind_some, Option.map_some, List.map_cons, List.map_nil, List.length_cons, List.length_nil, Option.getD_some, Option.getD_none, List.all_cons, List.all_nil, List.set_cons_zero, List.set_cons_succ, List.replicate_succ, List.replicate_zero, List.getElem?_cons_zero, List.getElem?_cons_succ, List.drop_succ_cons, List.drop_zero, List.take_succ_cons, List.take_zero, List.map_append, List.nil_append, List.cons_append, Nat.reduceShiftRight, Nat.reduceMod]
  refine callS_of hrL ?_
  simp only [vcV, vcD, Int.reduceEq, Int.reduceNe, Int.reduceLT, Int.reduceLE, Nat.reduceEqDiff, Nat.reduceAdd, reduceIte, reduceCtorEq, Nat.reduceLT, Nat.reduceLeDiff, eq_self, Option.bind_some, Option.map_some, List.map_cons, List.map_nil, List.length_cons, List.length_nil, Option.getD_some, Option.getD_none, List.all_cons, List.all_nil, List.set_cons_zero, List.set_cons_succ, List.replicate_succ, List.replicate_zero, List.getElem?_cons_zero, List.getElem?_cons_succ, List.drop_succ_cons, List.drop_zero, List.take_succ_cons, List.take_zero, List.map_append, List.nil_append, List.cons_append, Nat.reduceShiftRight, Nat.reduceMod]
  refine callS_of hIn ?_
  simp only [vcV, vcD, Int.reduceEq, Int.reduceNe, Int.reduceLT, Int.reduceLE, Nat.reduceEqDiff, Nat.reduceAdd, reduceIte, reduceCtorEq, Nat.reduceLT, Nat.reduceLeDiff, eq_self, Option.bind_some, Option.map_some, List.map_cons, List.map_nil, List.length_cons, List.length_nil, Option.getD_some, Option.getD_none, List.all_cons, List.all_nil, List.set_cons_zero, List.set_cons_succ, List.replicate_succ, List.replicate_zero, List.getElem?_cons_zero, List.getElem?_cons_succ, List.drop_succ_cons, List.drop_zero, List.take_succ_cons, List.take_zero, List.map_append, List.nil_append, List.cons_append, Nat.reduceShiftRight, Nat.reduceMod]
end Go.Proofs.Ytaebfjepacnmhaa

