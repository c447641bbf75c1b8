/- Contracts of small functions. By an AI agent; nothing here is trusted. -/
import Derived.Test.YtaebfjepacnmhaaLayC
import Derived.Test.YtaebfjepacnmhaaKode
import Derived.Shelf.Slices.Clone
set_option linter.defProp false
set_option linter.unusedSimpArgs false
set_option linter.unusedVariables false
namespace Go.Proofs.Ytaebfjepacnmhaa
open Go.Av

abbrev i64 (n : Int) : AV := .int .i64 n
theorem within_s (n lo hi : Int) : Sound Try.prog 92 [.int .i64 n, .int .i64 lo, .int .i64 hi] (.bool (decide (lo ≤ n ∧ n ≤ hi))) := by
  refine sound_W f_watch_within (Nat.le_of_ble_eq_true rfl) ?_
  simp only [c_watch_within, vcC, Int.reduceEq, Int.reduceNe, Int.reduceLT, Int.reduceLE, Nat.reduceEqDiff, Nat.reduceAdd, reduceIte, reduceCtorEq, Nat.reduceLT, Nat.reduceLeDiff, eq_self, Option.bind_some, Option.map_some, List.map_cons, List.map_nil, List.length_cons, List.length_nil, Option.getD_some, Option.getD_none, List.all_cons, List.all_nil, List.set_cons_zero, List.set_cons_succ, List.replicate_succ, List.replicate_zero, List.getElem?_cons_zero, List.getElem?_cons_succ, List.drop_succ_cons, List.drop_zero, List.take_succ_cons, List.take_zero]
  refine brB_split (fun h => ?_) (fun h => ?_) <;> simp only [h, vcC, Int.reduceEq, Int.reduceNe, Int.reduceLT, Int.reduceLE, Nat.reduceEqDiff, Nat.reduceAdd, reduceIte, reduceCtorEq, Nat.reduceLT, Nat.reduceLeDiff, eq_self, Option.bind_some, Option.map_some, List.map_cons, List.map_nil, List.length_cons, List.length_nil, Option.getD_some, Option.getD_none, List.all_cons, List.all_nil, List.set_cons_zero, List.set_cons_succ, List.replicate_succ, List.replicate_zero, List.getElem?_cons_zero, List.getElem?_cons_succ, List.drop_succ_cons, List.drop_zero, List.take_succ_cons, List.take_zero]
  · exact bool_eq (by simp at h; simp [h])
  · simp at h; simp; omega

theorem unless_s (ok : Bool) (e : Int) : Sound Try.prog 91 [.bool ok, .int .i64 e] (.int .i64 (if ok then 0 else e)) := by
  refine sound_W f_watch_unless (Nat.le_of_ble_eq_true rfl) ?_
  simp only [c_watch_unless, vcC, Int.reduceEq, Int.reduceNe, Int.reduceLT, Int.reduceLE, Nat.reduceEqDiff, Nat.reduceAdd, reduceIte, reduceCtorEq, Nat.reduceLT, Nat.reduceLeDiff, eq_self, Option.bind_some, Option.map_some, List.map_cons, List.map_nil, List.length_cons, List.length_nil, Option.getD_some, Option.getD_none, List.all_cons, List.all_nil, List.set_cons_zero, List.set_cons_succ, List.replicate_succ, List.replicate_zero, List.getElem?_cons_zero, List.getElem?_cons_succ, List.drop_succ_cons, List.drop_zero, List.take_succ_cons, List.take_zero]
  refine brB_split (fun h => ?_) (fun h => ?_) <;> subst h <;> simp only [vcC, Int.reduceEq, Int.reduceNe, Int.reduceLT, Int.reduceLE, Nat.reduceEqDiff, Nat.reduceAdd, reduceIte, reduceCtorEq, Nat.reduceLT, Nat.reduceLeDiff, eq_self, Option.bind_some, Option.map_some, List.map_cons, List.map_nil, List.length_cons, List.length_nil, Option.getD_some, Option.getD_none, List.all_cons, List.all_nil, List.set_cons_zero, List.set_cons_succ, List.replicate_succ, List.replicate_zero, List.getElem?_cons_zero, List.getElem?_cons_succ, List.drop_succ_cons, List.drop_zero, List.take_succ_cons, List.take_zero]

def firstErr (l : List Int) : Int := (l.find? (· ≠ 0)).getD 0

theorem first_s (l : List Int) (hl : l.length < 4000000000000000000) : Sound Try.prog 89 [.sl (ints l)] (.int .i64 (firstErr l)) := by
  refine sound_W f_watch_first (Nat.le_of_ble_eq_true rfl) ?_
  simp only [c_watch_first, vcC, Int.reduceEq, Int.reduceNe, Int.reduceLT, Int.reduceLE, Nat.reduceEqDiff, Nat.reduceAdd, reduceIte, reduceCtorEq, Nat.reduceLT, Nat.reduceLeDiff, eq_self, Option.bind_some, Option.map_some, List.map_cons, List.map_nil, List.length_cons, List.length_nil, Option.getD_some, Option.getD_none, List.all_cons, List.all_nil, List.set_cons_zero, List.set_cons_succ, List.replicate_succ, List.replicate_zero, List.getElem?_cons_zero, List.getElem?_cons_succ, List.drop_succ_cons, List.drop_zero, List.take_succ_cons, List.take_zero]
  refine W_loop (α := PSigma fun i : Nat => i ≤ l.length ∧ ∀ x ∈ l.take i, x = 0) (fun i => (envOf [(5, .sl (ints l)), (6, .int .i64 l.length), (7, .int .i64 i.1)], noStore)) (fun i => l.length - i.1) ⟨0, by simp⟩ (weakE _ ?_) (fun ⟨i, hi, hn⟩ => ?_)
  · simp only [vcC, Int.reduceEq, Int.reduceNe, Int.reduceLT, Int.reduceLE, Nat.reduceEqDiff, Nat.reduceAdd, reduceIte, reduceCtorEq, Nat.reduceLT, Nat.reduceLeDiff, eq_self, Option.bind_some, Option.map_some, List.map_cons, List.map_nil, List.length_cons, List.length_nil, Option.getD_some, Option.getD_none, List.all_cons, List.all_nil, List.set_cons_zero, List.set_cons_succ, List.replicate_succ, List.replicate_zero, List.getElem?_cons_zero, List.getElem?_cons_succ, List.drop_succ_cons, List.drop_zero, List.take_succ_cons, List.take_zero]; rfl
  · simp only [vcC, Int.reduceEq, Int.reduceNe, Int.reduceLT, Int.reduceLE, Nat.reduceEqDiff, Nat.reduceAdd, reduceIte, reduceCtorEq, Nat.reduceLT, Nat.reduceLeDiff, eq_self, Option.bind_some, Option.map_some, List.map_cons, List.map_nil, List.length_cons, List.length_nil, Option.getD_some, Option.getD_none, List.all_cons, List.all_nil, List.set_cons_zero, List.set_cons_succ, List.replicate_succ, List.replicate_zero, List.getElem?_cons_zero, List.getElem?_cons_succ, List.drop_succ_cons, List.drop_zero, List.take_succ_cons, List.take_zero]
    refine brB_split (fun h => ?_) (fun h => ?_)
    · have h' : i < l.length := by (simp only [decide_eq_true_eq, decide_eq_false_iff_not, Bool.not_true, I64, Bool.not_eq_true', Bool.not_eq_false', bne_iff_ne, beq_iff_eq, ne_eq] at *; omega)
      simp only [ints_get l i h', vcC, Int.reduceEq, Int.reduceNe, Int.reduceLT, Int.reduceLE, Nat.reduceEqDiff, Nat.reduceAdd, reduceIte, reduceCtorEq, Nat.reduceLT, Nat.reduceLeDiff, eq_self, Option.bind_some, Option.map_some, List.map_cons, List.map_nil, List.length_cons, List.length_nil, Option.getD_some, Option.getD_none, List.all_cons, List.all_nil, List.set_cons_zero, List.set_cons_succ, List.replicate_succ, List.replicate_zero, List.getElem?_cons_zero, List.getElem?_cons_succ, List.drop_succ_cons, List.drop_zero, List.take_succ_cons, List.take_zero]
      refine ⟨by omega, ?_⟩
      refine brB_split (fun h => ?_) (fun h => ?_)
      · simp only [vcC, Int.reduceEq, Int.reduceNe, Int.reduceLT, Int.reduceLE, Nat.reduceEqDiff, Nat.reduceAdd, reduceIte, reduceCtorEq, Nat.reduceLT, Nat.reduceLeDiff, eq_self, Option.bind_some, Option.map_some, List.map_cons, List.map_nil, List.length_cons, List.length_nil, Option.getD_some, Option.getD_none, List.all_cons, List.all_nil, List.set_cons_zero, List.set_cons_succ, List.replicate_succ, List.replicate_zero, List.getElem?_cons_zero, List.getElem?_cons_succ, List.drop_succ_cons, List.drop_zero, List.take_succ_cons, List.take_zero]
        have h0 : l[i] ≠ 0 := by simpa using h
        have hs : l.find? (· ≠ 0) = some l[i] := by
          rw [List.find?_eq_some_iff_getElem]
          exact ⟨by simpa using h0, i, h', rfl, fun j hj => by simp [hn l[j] (by rw [List.mem_take_iff_getElem]; exact ⟨j, by omega, rfl⟩)]⟩
        unfold firstErr
        rw [hs]; rfl
      · simp only [vcC, Int.reduceEq, Int.reduceNe, Int.reduceLT, Int.reduceLE, Nat.reduceEqDiff, Nat.reduceAdd, reduceIte, reduceCtorEq, Nat.reduceLT, Nat.reduceLeDiff, eq_self, Option.bind_some, Option.map_some, List.map_cons, List.map_nil, List.length_cons, List.length_nil, Option.getD_some, Option.getD_none, List.all_cons, List.all_nil, List.set_cons_zero, List.set_cons_succ, List.replicate_succ, List.replicate_zero, List.getElem?_cons_zero, List.getElem?_cons_succ, List.drop_succ_cons, List.drop_zero, List.take_succ_cons, List.take_zero]
        refine ⟨by (simp only [decide_eq_true_eq, decide_eq_false_iff_not, Bool.not_true, I64, Bool.not_eq_true', Bool.not_eq_false', bne_iff_ne, beq_iff_eq, ne_eq] at *; omega), ⟨i + 1, by omega, ?_⟩, by simp only; omega, weakE _ ?_⟩
        · rw [List.take_succ_eq_append_getElem h']
          intro x hx
          rcases List.mem_append.1 hx with hx | hx
          · exact hn x hx
          · simp at hx h; rw [hx, h]
        · simp only [vcC, Int.reduceEq, Int.reduceNe, Int.reduceLT, Int.reduceLE, Nat.reduceEqDiff, Nat.reduceAdd, reduceIte, reduceCtorEq, Nat.reduceLT, Nat.reduceLeDiff, eq_self, Option.bind_some, Option.map_some, List.map_cons, List.map_nil, List.length_cons, List.length_nil, Option.getD_some, Option.getD_none, List.all_cons, List.all_nil, List.set_cons_zero, List.set_cons_succ, List.replicate_succ, List.replicate_zero, List.getElem?_cons_zero, List.getElem?_cons_succ, List.drop_succ_cons, List.drop_zero, List.take_succ_cons, List.take_zero]; simp
    · simp only [vcC, Int.reduceEq, Int.reduceNe, Int.reduceLT, Int.reduceLE, Nat.reduceEqDiff, Nat.reduceAdd, reduceIte, reduceCtorEq, Nat.reduceLT, Nat.reduceLeDiff, eq_self, Option.bind_some, Option.map_some, List.map_cons, List.map_nil, List.length_cons, List.length_nil, Option.getD_some, Option.getD_none, List.all_cons, List.all_nil, List.set_cons_zero, List.set_cons_succ, List.replicate_succ, List.replicate_zero, List.getElem?_cons_zero, List.getElem?_cons_succ, List.drop_succ_cons, List.drop_zero, List.take_succ_cons, List.take_zero]
      have : i = l.length := by (simp only [decide_eq_true_eq, decide_eq_false_iff_not, Bool.not_true, I64, Bool.not_eq_true', Bool.not_eq_false', bne_iff_ne, beq_iff_eq, ne_eq] at *; omega)
      subst this
      unfold firstErr
      rw [List.take_length] at hn
      rw [List.find?_eq_none.2 (fun x hx => by simp [hn x hx])]
      rfl

theorem odd_1_s (n most : Int) : Sound Try.prog 131 [.int .i64 n, .eptr (.int .i64 most) 0] (.bool (decide (¬ (0 ≤ n ∧ n ≤ most)))) := by
  refine sound_W f_watch_odd_1 (Nat.le_of_ble_eq_true rfl) ?_
  simp only [c_watch_odd_1, vcC, Int.reduceEq, Int.reduceNe, Int.reduceLT, Int.reduceLE, Nat.reduceEqDiff, Nat.reduceAdd, reduceIte, reduceCtorEq, Nat.reduceLT, Nat.reduceLeDiff, eq_self, Option.bind_some, Option.map_some, List.map_cons, List.map_nil, List.length_cons, List.length_nil, Option.getD_some, Option.getD_none, List.all_cons, List.all_nil, List.set_cons_zero, List.set_cons_succ, List.replicate_succ, List.replicate_zero, List.getElem?_cons_zero, List.getElem?_cons_succ, List.drop_succ_cons, List.drop_zero, List.take_succ_cons, List.take_zero]
  refine callS_of (within_s _ _ _) ?_
  simp only [vcC, Int.reduceEq, Int.reduceNe, Int.reduceLT, Int.reduceLE, Nat.reduceEqDiff, Nat.reduceAdd, reduceIte, reduceCtorEq, Nat.reduceLT, Nat.reduceLeDiff, eq_self, Option.bind_some, Option.map_some, List.map_cons, List.map_nil, List.length_cons, List.length_nil, Option.getD_some, Option.getD_none, List.all_cons, List.all_nil, List.set_cons_zero, List.set_cons_succ, List.replicate_succ, List.replicate_zero, List.getElem?_cons_zero, List.getElem?_cons_succ, List.drop_succ_cons, List.drop_zero, List.take_succ_cons, List.take_zero]
  simp only [decide_not]

/-- The first index where it holds, or -1. -/
def idxOf {α : Type} (l : List α) (p : α → Bool) : Int := match l.findIdx? p with
  | some i => i
  | none => -1

theorem map_fx1 {caps : List AV} (h : ∀ c ∈ caps, fx1 c = true) (s : Store) (n : Nat) : caps.map (bor s n) = caps := by
  conv => rhs; rw [← List.map_id caps]
  exact List.map_congr_left fun c hc => (fx1_spec (h c hc)).2 s n

theorem idxFunc_int_s (l : List Int) (f : FuncId) (caps : List AV) (p : Int → Bool) (hl : l.length < 4000000000000000000) (hc : ∀ c ∈ caps, fx1 c = true)
    (hp : ∀ x ∈ l, Sound Try.prog f (.int .i64 x :: caps) (.bool (p x))) : Sound Try.prog 129 [.sl (ints l), .fn f caps] (.int .i64 (idxOf l p)) := by
  refine sound_W f_slices_IndexFunc_int_int (Nat.le_of_ble_eq_true rfl) ?_
  simp only [c_slices_IndexFunc_int_int, vcC, Int.reduceEq, Int.reduceNe, Int.reduceLT, Int.reduceLE, Nat.reduceEqDiff, Nat.reduceAdd, reduceIte, reduceCtorEq, Nat.reduceLT, Nat.reduceLeDiff, eq_self, Option.bind_some, Option.map_some, List.map_cons, List.map_nil, List.length_cons, List.length_nil, Option.getD_some, Option.getD_none, List.all_cons, List.all_nil, List.set_cons_zero, List.set_cons_succ, List.replicate_succ, List.replicate_zero, List.getElem?_cons_zero, List.getElem?_cons_succ, List.drop_succ_cons, List.drop_zero, List.take_succ_cons, List.take_zero]
  refine W_loop (α := PSigma fun i : Nat => i ≤ l.length ∧ ∀ x ∈ l.take i, p x = false) (fun i => (envOf [(0, .sl (ints l)), (1, .fn f caps), (6, .sl (ints l)), (7, .int .i64 l.length), (8, .int .i64 i.1)], noStore)) (fun i => l.length - i.1) ⟨0, by simp⟩ (weakE _ ?_) (fun ⟨i, hi, hn⟩ => ?_)
  · simp only [vcC, Int.reduceEq, Int.reduceNe, Int.reduceLT, Int.reduceLE, Nat.reduceEqDiff, Nat.reduceAdd, reduceIte, reduceCtorEq, Nat.reduceLT, Nat.reduceLeDiff, eq_self, Option.bind_some, Option.map_some, List.map_cons, List.map_nil, List.length_cons, List.length_nil, Option.getD_some, Option.getD_none, List.all_cons, List.all_nil, List.set_cons_zero, List.set_cons_succ, List.replicate_succ, List.replicate_zero, List.getElem?_cons_zero, List.getElem?_cons_succ, List.drop_succ_cons, List.drop_zero, List.take_succ_cons, List.take_zero]; rfl
  · simp only [vcC, Int.reduceEq, Int.reduceNe, Int.reduceLT, Int.reduceLE, Nat.reduceEqDiff, Nat.reduceAdd, reduceIte, reduceCtorEq, Nat.reduceLT, Nat.reduceLeDiff, eq_self, Option.bind_some, Option.map_some, List.map_cons, List.map_nil, List.length_cons, List.length_nil, Option.getD_some, Option.getD_none, List.all_cons, List.all_nil, List.set_cons_zero, List.set_cons_succ, List.replicate_succ, List.replicate_zero, List.getElem?_cons_zero, List.getElem?_cons_succ, List.drop_succ_cons, List.drop_zero, List.take_succ_cons, List.take_zero]
    refine brB_split (fun h => ?_) (fun h => ?_)
    · have h' : i < l.length := by (simp only [decide_eq_true_eq, decide_eq_false_iff_not, Bool.not_true, I64, Bool.not_eq_true', Bool.not_eq_false', bne_iff_ne, beq_iff_eq, ne_eq] at *; omega)
      simp only [ints_get l i h', vcC, Int.reduceEq, Int.reduceNe, Int.reduceLT, Int.reduceLE, Nat.reduceEqDiff, Nat.reduceAdd, reduceIte, reduceCtorEq, Nat.reduceLT, Nat.reduceLeDiff, eq_self, Option.bind_some, Option.map_some, List.map_cons, List.map_nil, List.length_cons, List.length_nil, Option.getD_some, Option.getD_none, List.all_cons, List.all_nil, List.set_cons_zero, List.set_cons_succ, List.replicate_succ, List.replicate_zero, List.getElem?_cons_zero, List.getElem?_cons_succ, List.drop_succ_cons, List.drop_zero, List.take_succ_cons, List.take_zero]
      refine ⟨by omega, ?_⟩
      simp only [List.map_append, List.cons_append, List.nil_append, map_fx1 hc, vcC, Int.reduceEq, Int.reduceNe, Int.reduceLT, Int.reduceLE, Nat.reduceEqDiff, Nat.reduceAdd, reduceIte, reduceCtorEq, Nat.reduceLT, Nat.reduceLeDiff, eq_self, Option.bind_some, Option.map_some, List.map_cons, List.map_nil, List.length_cons, List.length_nil, Option.getD_some, Option.getD_none, List.all_cons, List.all_nil, List.set_cons_zero, List.set_cons_succ, List.replicate_succ, List.replicate_zero, List.getElem?_cons_zero, List.getElem?_cons_succ, List.drop_succ_cons, List.drop_zero, List.take_succ_cons, List.take_zero]
      refine callS_of (hp _ (List.getElem_mem h')) ?_
      simp only [vcC, Int.reduceEq, Int.reduceNe, Int.reduceLT, Int.reduceLE, Nat.reduceEqDiff, Nat.reduceAdd, reduceIte, reduceCtorEq, Nat.reduceLT, Nat.reduceLeDiff, eq_self, Option.bind_some, Option.map_some, List.map_cons, List.map_nil, List.length_cons, List.length_nil, Option.getD_some, Option.getD_none, List.all_cons, List.all_nil, List.set_cons_zero, List.set_cons_succ, List.replicate_succ, List.replicate_zero, List.getElem?_cons_zero, List.getElem?_cons_succ, List.drop_succ_cons, List.drop_zero, List.take_succ_cons, List.take_zero]
      refine brB_split (fun h => ?_) (fun h => ?_)
      · simp only [vcC, Int.reduceEq, Int.reduceNe, Int.reduceLT, Int.reduceLE, Nat.reduceEqDiff, Nat.reduceAdd, reduceIte, reduceCtorEq, Nat.reduceLT, Nat.reduceLeDiff, eq_self, Option.bind_some, Option.map_some, List.map_cons, List.map_nil, List.length_cons, List.length_nil, Option.getD_some, Option.getD_none, List.all_cons, List.all_nil, List.set_cons_zero, List.set_cons_succ, List.replicate_succ, List.replicate_zero, List.getElem?_cons_zero, List.getElem?_cons_succ, List.drop_succ_cons, List.drop_zero, List.take_succ_cons, List.take_zero]
        have hs : l.findIdx? p = some i := by
          rw [List.findIdx?_eq_some_iff_getElem]
          refine ⟨h', h, fun j hj => ?_⟩
          have := hn l[j] (by rw [List.mem_take_iff_getElem]; exact ⟨j, by omega, rfl⟩)
          simp [this]
        simp [idxOf, hs]
      · simp only [vcC, Int.reduceEq, Int.reduceNe, Int.reduceLT, Int.reduceLE, Nat.reduceEqDiff, Nat.reduceAdd, reduceIte, reduceCtorEq, Nat.reduceLT, Nat.reduceLeDiff, eq_self, Option.bind_some, Option.map_some, List.map_cons, List.map_nil, List.length_cons, List.length_nil, Option.getD_some, Option.getD_none, List.all_cons, List.all_nil, List.set_cons_zero, List.set_cons_succ, List.replicate_succ, List.replicate_zero, List.getElem?_cons_zero, List.getElem?_cons_succ, List.drop_succ_cons, List.drop_zero, List.take_succ_cons, List.take_zero]
        refine ⟨by (simp only [decide_eq_true_eq, decide_eq_false_iff_not, Bool.not_true, I64, Bool.not_eq_true', Bool.not_eq_false', bne_iff_ne, beq_iff_eq, ne_eq] at *; omega), ⟨i + 1, by omega, ?_⟩, by simp only; omega, weakE _ ?_⟩
        · rw [List.take_succ_eq_append_getElem h']
          intro x hx
          rcases List.mem_append.1 hx with hx | hx
          · exact hn x hx
          · simp at hx; rw [hx]; exact h
        · simp only [vcC, Int.reduceEq, Int.reduceNe, Int.reduceLT, Int.reduceLE, Nat.reduceEqDiff, Nat.reduceAdd, reduceIte, reduceCtorEq, Nat.reduceLT, Nat.reduceLeDiff, eq_self, Option.bind_some, Option.map_some, List.map_cons, List.map_nil, List.length_cons, List.length_nil, Option.getD_some, Option.getD_none, List.all_cons, List.all_nil, List.set_cons_zero, List.set_cons_succ, List.replicate_succ, List.replicate_zero, List.getElem?_cons_zero, List.getElem?_cons_succ, List.drop_succ_cons, List.drop_zero, List.take_succ_cons, List.take_zero]; simp
    · simp only [vcC, Int.reduceEq, Int.reduceNe, Int.reduceLT, Int.reduceLE, Nat.reduceEqDiff, Nat.reduceAdd, reduceIte, reduceCtorEq, Nat.reduceLT, Nat.reduceLeDiff, eq_self, Option.bind_some, Option.map_some, List.map_cons, List.map_nil, List.length_cons, List.length_nil, Option.getD_some, Option.getD_none, List.all_cons, List.all_nil, List.set_cons_zero, List.set_cons_succ, List.replicate_succ, List.replicate_zero, List.getElem?_cons_zero, List.getElem?_cons_succ, List.drop_succ_cons, List.drop_zero, List.take_succ_cons, List.take_zero]
      have : i = l.length := by (simp only [decide_eq_true_eq, decide_eq_false_iff_not, Bool.not_true, I64, Bool.not_eq_true', Bool.not_eq_false', bne_iff_ne, beq_iff_eq, ne_eq] at *; omega)
      subst this
      rw [List.take_length] at hn
      have hs : l.findIdx? p = none := List.findIdx?_eq_none_iff.2 hn
      simp [idxOf, hs]

theorem idxOf_any {α : Type} (l : List α) (p : α → Bool) : (decide (0 ≤ idxOf l p)) = l.any p := by
  unfold idxOf
  cases h : l.findIdx? p with
  | none =>
    rw [List.findIdx?_eq_none_iff] at h
    have : l.any p = false := by simpa using h
    rw [this]; rfl
  | some i =>
    rw [List.findIdx?_eq_some_iff_getElem] at h
    obtain ⟨hi, hp, _⟩ := h
    have : l.any p = true := List.any_eq_true.2 ⟨_, List.getElem_mem hi, hp⟩
    rw [this]; simp

theorem contFunc_int_s (l : List Int) (f : FuncId) (caps : List AV) (p : Int → Bool) (hl : l.length < 4000000000000000000) (hc : ∀ c ∈ caps, fx1 c = true)
    (hp : ∀ x ∈ l, Sound Try.prog f (.int .i64 x :: caps) (.bool (p x))) : Sound Try.prog 100 [.sl (ints l), .fn f caps] (.bool (l.any p)) := by
  refine sound_W f_slices_ContainsFunc_int_int (Nat.le_of_ble_eq_true rfl) ?_
  simp only [c_slices_ContainsFunc_int_int, map_fx1 hc, vcC, Int.reduceEq, Int.reduceNe, Int.reduceLT, Int.reduceLE, Nat.reduceEqDiff, Nat.reduceAdd, reduceIte, reduceCtorEq, Nat.reduceLT, Nat.reduceLeDiff, eq_self, Option.bind_some, Option.map_some, List.map_cons, List.map_nil, List.length_cons, List.length_nil, Option.getD_some, Option.getD_none, List.all_cons, List.all_nil, List.set_cons_zero, List.set_cons_succ, List.replicate_succ, List.replicate_zero, List.getElem?_cons_zero, List.getElem?_cons_succ, List.drop_succ_cons, List.drop_zero, List.take_succ_cons, List.take_zero]
  refine callS_of (idxFunc_int_s l f caps p hl hc hp) ?_
  simp only [vcC, Int.reduceEq, Int.reduceNe, Int.reduceLT, Int.reduceLE, Nat.reduceEqDiff, Nat.reduceAdd, reduceIte, reduceCtorEq, Nat.reduceLT, Nat.reduceLeDiff, eq_self, Option.bind_some, Option.map_some, List.map_cons, List.map_nil, List.length_cons, List.length_nil, Option.getD_some, Option.getD_none, List.all_cons, List.all_nil, List.set_cons_zero, List.set_cons_succ, List.replicate_succ, List.replicate_zero, List.getElem?_cons_zero, List.getElem?_cons_succ, List.drop_succ_cons, List.drop_zero, List.take_succ_cons, List.take_zero]
  rw [idxOf_any]

theorem odd_s (l : List Int) (most : Int) (hl : l.length < 4000000000000000000) : Sound Try.prog 105 [.sl (ints l), .int .i64 most] (.bool (!l.all fun n => decide (0 ≤ n ∧ n ≤ most))) := by
  refine sound_W f_watch_odd (Nat.le_of_ble_eq_true rfl) ?_
  simp only [c_watch_odd, vcC, Int.reduceEq, Int.reduceNe, Int.reduceLT, Int.reduceLE, Nat.reduceEqDiff, Nat.reduceAdd, reduceIte, reduceCtorEq, Nat.reduceLT, Nat.reduceLeDiff, eq_self, Option.bind_some, Option.map_some, List.map_cons, List.map_nil, List.length_cons, List.length_nil, Option.getD_some, Option.getD_none, List.all_cons, List.all_nil, List.set_cons_zero, List.set_cons_succ, List.replicate_succ, List.replicate_zero, List.getElem?_cons_zero, List.getElem?_cons_succ, List.drop_succ_cons, List.drop_zero, List.take_succ_cons, List.take_zero]
  refine callS_of (contFunc_int_s l _ _ (fun n => decide (¬ (0 ≤ n ∧ n ≤ most))) hl (by simp [fx1]) (fun x _ => odd_1_s x most)) ?_
  simp only [vcC, Int.reduceEq, Int.reduceNe, Int.reduceLT, Int.reduceLE, Nat.reduceEqDiff, Nat.reduceAdd, reduceIte, reduceCtorEq, Nat.reduceLT, Nat.reduceLeDiff, eq_self, Option.bind_some, Option.map_some, List.map_cons, List.map_nil, List.length_cons, List.length_nil, Option.getD_some, Option.getD_none, List.all_cons, List.all_nil, List.set_cons_zero, List.set_cons_succ, List.replicate_succ, List.replicate_zero, List.getElem?_cons_zero, List.getElem?_cons_succ, List.drop_succ_cons, List.drop_zero, List.take_succ_cons, List.take_zero]
  congr 1
  rw [List.not_all_eq_any_not]
  simp only [decide_not]

theorem first2_s (a b : Int) : Sound Try.prog 89 [.sl [.int .i64 a, .int .i64 b]] (.int .i64 (if a ≠ 0 then a else b)) := by
  have h := first_s [a, b] (by simp)
  have e : firstErr [a, b] = if a ≠ 0 then a else b := by
    unfold firstErr
    by_cases ha : a = 0 <;> by_cases hb : b = 0 <;> simp [ha, hb]
  rw [e] at h
  exact h
theorem first3_s (a b c : Int) : Sound Try.prog 89 [.sl [.int .i64 a, .int .i64 b, .int .i64 c]] (.int .i64 (if a ≠ 0 then a else if b ≠ 0 then b else c)) := by
  have h := first_s [a, b, c] (by simp)
  have e : firstErr [a, b, c] = if a ≠ 0 then a else if b ≠ 0 then b else c := by
    unfold firstErr
    by_cases ha : a = 0 <;> by_cases hb : b = 0 <;> by_cases hc : c = 0 <;> simp [ha, hb, hc]
  rw [e] at h
  exact h

def countsE (l : List Int) : Int := if 60 < l.length then 8 else if l.all (fun n => decide (0 ≤ n ∧ n ≤ 1000000)) then 0 else 2
theorem countsErr_s (l : List Int) (hl : l.length < 4000000000000000000) : Sound Try.prog 128 [.sl (ints l)] (.int .i64 (countsE l)) := by
  refine sound_W f_watch_countsErr (Nat.le_of_ble_eq_true rfl) ?_
  simp only [c_watch_countsErr, vcC, Int.reduceEq, Int.reduceNe, Int.reduceLT, Int.reduceLE, Nat.reduceEqDiff, Nat.reduceAdd, reduceIte, reduceCtorEq, Nat.reduceLT, Nat.reduceLeDiff, eq_self, Option.bind_some, Option.map_some, List.map_cons, List.map_nil, List.length_cons, List.length_nil, Option.getD_some, Option.getD_none, List.all_cons, List.all_nil, List.set_cons_zero, List.set_cons_succ, List.replicate_succ, List.replicate_zero, List.getElem?_cons_zero, List.getElem?_cons_succ, List.drop_succ_cons, List.drop_zero, List.take_succ_cons, List.take_zero]
  refine callS_of (unless_s _ _) ?_
  simp only [vcC, Int.reduceEq, Int.reduceNe, Int.reduceLT, Int.reduceLE, Nat.reduceEqDiff, Nat.reduceAdd, reduceIte, reduceCtorEq, Nat.reduceLT, Nat.reduceLeDiff, eq_self, Option.bind_some, Option.map_some, List.map_cons, List.map_nil, List.length_cons, List.length_nil, Option.getD_some, Option.getD_none, List.all_cons, List.all_nil, List.set_cons_zero, List.set_cons_succ, List.replicate_succ, List.replicate_zero, List.getElem?_cons_zero, List.getElem?_cons_succ, List.drop_succ_cons, List.drop_zero, List.take_succ_cons, List.take_zero]
  refine callS_of (odd_s _ _ hl) ?_
  simp only [vcC, Int.reduceEq, Int.reduceNe, Int.reduceLT, Int.reduceLE, Nat.reduceEqDiff, Nat.reduceAdd, reduceIte, reduceCtorEq, Nat.reduceLT, Nat.reduceLeDiff, eq_self, Option.bind_some, Option.map_some, List.map_cons, List.map_nil, List.length_cons, List.length_nil, Option.getD_some, Option.getD_none, List.all_cons, List.all_nil, List.set_cons_zero, List.set_cons_succ, List.replicate_succ, List.replicate_zero, List.getElem?_cons_zero, List.getElem?_cons_succ, List.drop_succ_cons, List.drop_zero, List.take_succ_cons, List.take_zero]
  refine callS_of (unless_s _ _) ?_
  simp only [vcC, Int.reduceEq, Int.reduceNe, Int.reduceLT, Int.reduceLE, Nat.reduceEqDiff, Nat.reduceAdd, reduceIte, reduceCtorEq, Nat.reduceLT, Nat.reduceLeDiff, eq_self, Option.bind_some, Option.map_some, List.map_cons, List.map_nil, List.length_cons, List.length_nil, Option.getD_some, Option.getD_none, List.all_cons, List.all_nil, List.set_cons_zero, List.set_cons_succ, List.replicate_succ, List.replicate_zero, List.getElem?_cons_zero, List.getElem?_cons_succ, List.drop_succ_cons, List.drop_zero, List.take_succ_cons, List.take_zero]
  refine callS_of (first2_s _ _) ?_
  simp only [vcC, Int.reduceEq, Int.reduceNe, Int.reduceLT, Int.reduceLE, Nat.reduceEqDiff, Nat.reduceAdd, reduceIte, reduceCtorEq, Nat.reduceLT, Nat.reduceLeDiff, eq_self, Option.bind_some, Option.map_some, List.map_cons, List.map_nil, List.length_cons, List.length_nil, Option.getD_some, Option.getD_none, List.all_cons, List.all_nil, List.set_cons_zero, List.set_cons_succ, List.replicate_succ, List.replicate_zero, List.getElem?_cons_zero, List.getElem?_cons_succ, List.drop_succ_cons, List.drop_zero, List.take_succ_cons, List.take_zero]
  unfold countsE
  congr 1
  by_cases h : l.length ≤ 60
  · have : ¬ 60 < l.length := by omega
    have h2 : (l.length : Int) ≤ 60 := by omega
    simp only [h2, this, decide_true, if_true, if_false, ne_eq, not_true_eq_false, Bool.not_not]
  · have : 60 < l.length := by omega
    have h2 : ¬ (l.length : Int) ≤ 60 := by omega
    simp [this, h2]
end Go.Proofs.Ytaebfjepacnmhaa

/- Contracts of the small functions of the base. By an AI agent; nothing here is trusted. -/
namespace Go.Proofs.Ytaebfjepacnmhaa
open Go.Av

theorem Within_s (n lo hi : Int) : Sound Try.prog 19 [.int .i64 n, .int .i64 lo, .int .i64 hi] (.bool (decide (lo ≤ n ∧ n ≤ hi))) := by
  refine sound_W f_base_Within (Nat.le_of_ble_eq_true rfl) ?_
  simp only [c_base_Within, vcC, Int.reduceEq, Int.reduceNe, Int.reduceLT, Int.reduceLE, Nat.reduceEqDiff, Nat.reduceAdd, reduceIte, reduceCtorEq, Nat.reduceLT, Nat.reduceLeDiff, eq_self, Option.bind_some, Option.map_some, List.map_cons, List.map_nil, List.length_cons, List.length_nil, Option.getD_some, Option.getD_none, List.all_cons, List.all_nil, List.set_cons_zero, List.set_cons_succ, List.replicate_succ, List.replicate_zero, List.getElem?_cons_zero, List.getElem?_cons_succ, List.drop_succ_cons, List.drop_zero, List.take_succ_cons, List.take_zero]
  refine brB_split (fun h => ?_) (fun h => ?_) <;> simp only [h, vcC, Int.reduceEq, Int.reduceNe, Int.reduceLT, Int.reduceLE, Nat.reduceEqDiff, Nat.reduceAdd, reduceIte, reduceCtorEq, Nat.reduceLT, Nat.reduceLeDiff, eq_self, Option.bind_some, Option.map_some, List.map_cons, List.map_nil, List.length_cons, List.length_nil, Option.getD_some, Option.getD_none, List.all_cons, List.all_nil, List.set_cons_zero, List.set_cons_succ, List.replicate_succ, List.replicate_zero, List.getElem?_cons_zero, List.getElem?_cons_succ, List.drop_succ_cons, List.drop_zero, List.take_succ_cons, List.take_zero]
  · exact bool_eq (by simp at h; simp [h])
  · simp at h; simp; omega

end Go.Proofs.Ytaebfjepacnmhaa

/- Contracts of the base: copies, comparisons, fractions. By an AI agent; nothing here is trusted. -/
namespace Go.Proofs.Ytaebfjepacnmhaa
open Go.Av

theorem newsOk_ints (l : List Int) : newsOk 1 (ints l) := by
  intro x hx
  obtain ⟨n, _, rfl⟩ := List.mem_map.1 hx
  exact ⟨rfl, rfl⟩
theorem maxLen_big : 4000000000000 ≤ maxLen := by decide

theorem CopyInts_s (l : List Int) (hl : l.length ≤ 1000000000) : Sound Try.prog 32 [.sl (ints l)] (.sl (ints l)) := by
  refine sound_W f_base_CopyInts (Nat.le_of_ble_eq_true rfl) ?_
  have hm := maxLen_big
  simp only [c_base_CopyInts, vcV, vcD, Int.reduceEq, Int.reduceNe, Int.reduceLT, Int.reduceLE, Nat.reduceEqDiff, Nat.reduceAdd, reduceIte, reduceCtorEq, Nat.reduceLT, Nat.reduceLeDiff, eq_self, Option.bind_some, Option.map_some, List.map_cons, List.map_nil, List.length_cons, List.length_nil, Option.getD_some, Option.getD_none, List.all_cons, List.all_nil, List.set_cons_zero, List.set_cons_succ, List.replicate_succ, List.replicate_zero, List.getElem?_cons_zero, List.getElem?_cons_succ, List.drop_succ_cons, List.drop_zero, List.take_succ_cons, List.take_zero, List.map_append, List.nil_append, List.cons_append, Nat.reduceShiftRight, Nat.reduceMod]
  refine ⟨newsOk_ints l, ⟨by omega, by omega⟩, ?_⟩
  rw [borB_good _ _ _ _ _ (by simp [ints]) (ints_fx _)]

theorem Has_s (l : List Int) (n : Int) (hl : l.length ≤ 1000000000) : Sound Try.prog 34 [.sl (ints l), .int .i64 n] (.bool (decide (n ∈ l))) := by
  refine sound_W f_base_Has (Nat.le_of_ble_eq_true rfl) ?_
  simp only [c_base_Has, vcV, vcD, Int.reduceEq, Int.reduceNe, Int.reduceLT, Int.reduceLE, Nat.reduceEqDiff, Nat.reduceAdd, reduceIte, reduceCtorEq, Nat.reduceLT, Nat.reduceLeDiff, eq_self, Option.bind_some, Option.map_some, List.map_cons, List.map_nil, List.length_cons, List.length_nil, Option.getD_some, Option.getD_none, List.all_cons, List.all_nil, List.set_cons_zero, List.set_cons_succ, List.replicate_succ, List.replicate_zero, List.getElem?_cons_zero, List.getElem?_cons_succ, List.drop_succ_cons, List.drop_zero, List.take_succ_cons, List.take_zero, List.map_append, List.nil_append, List.cons_append, Nat.reduceShiftRight, Nat.reduceMod]
  refine W_loop (α := PSigma fun i : Nat => i ≤ l.length ∧ ∀ x ∈ l.take i, x ≠ n) (fun i => (envOf [(0, .sl (ints l)), (1, .int .i64 n), (5, .int .i64 i.1)], noStore)) (fun i => l.length - i.1) ⟨0, by simp⟩ (weakE _ ?_) (fun ⟨i, hi, hn⟩ => ?_)
  · simp only [vcV, vcD, Int.reduceEq, Int.reduceNe, Int.reduceLT, Int.reduceLE, Nat.reduceEqDiff, Nat.reduceAdd, reduceIte, reduceCtorEq, Nat.reduceLT, Nat.reduceLeDiff, eq_self, Option.bind_some, Option.map_some, List.map_cons, List.map_nil, List.length_cons, List.length_nil, Option.getD_some, Option.getD_none, List.all_cons, List.all_nil, List.set_cons_zero, List.set_cons_succ, List.replicate_succ, List.replicate_zero, List.getElem?_cons_zero, List.getElem?_cons_succ, List.drop_succ_cons, List.drop_zero, List.take_succ_cons, List.take_zero, List.map_append, List.nil_append, List.cons_append, Nat.reduceShiftRight, Nat.reduceMod]; rfl
  · simp only [vcV, vcD, Int.reduceEq, Int.reduceNe, Int.reduceLT, Int.reduceLE, Nat.reduceEqDiff, Nat.reduceAdd, reduceIte, reduceCtorEq, Nat.reduceLT, Nat.reduceLeDiff, eq_self, Option.bind_some, Option.map_some, List.map_cons, List.map_nil, List.length_cons, List.length_nil, Option.getD_some, Option.getD_none, List.all_cons, List.all_nil, List.set_cons_zero, List.set_cons_succ, List.replicate_succ, List.replicate_zero, List.getElem?_cons_zero, List.getElem?_cons_succ, List.drop_succ_cons, List.drop_zero, List.take_succ_cons, List.take_zero, List.map_append, List.nil_append, List.cons_append, Nat.reduceShiftRight, Nat.reduceMod]
    refine brB_split (fun h => ?_) (fun h => ?_)
    · have h' : i < l.length := by (simp only [decide_eq_true_eq, decide_eq_false_iff_not, Bool.not_true, I64, Bool.not_eq_true', Bool.not_eq_false', bne_iff_ne, beq_iff_eq, ne_eq] at *; omega)
      simp only [ints_get l i h', vcV, vcD, Int.reduceEq, Int.reduceNe, Int.reduceLT, Int.reduceLE, Nat.reduceEqDiff, Nat.reduceAdd, reduceIte, reduceCtorEq, Nat.reduceLT, Nat.reduceLeDiff, eq_self, Option.bind_some, Option.map_some, List.map_cons, List.map_nil, List.length_cons, List.length_nil, Option.getD_some, Option.getD_none, List.all_cons, List.all_nil, List.set_cons_zero, List.set_cons_succ, List.replicate_succ, List.replicate_zero, List.getElem?_cons_zero, List.getElem?_cons_succ, List.drop_succ_cons, List.drop_zero, List.take_succ_cons, List.take_zero, List.map_append, List.nil_append, List.cons_append, Nat.reduceShiftRight, Nat.reduceMod]
      refine ⟨by omega, ?_⟩
      refine brB_split (fun h => ?_) (fun h => ?_)
      · simp only [vcV, vcD, Int.reduceEq, Int.reduceNe, Int.reduceLT, Int.reduceLE, Nat.reduceEqDiff, Nat.reduceAdd, reduceIte, reduceCtorEq, Nat.reduceLT, Nat.reduceLeDiff, eq_self, Option.bind_some, Option.map_some, List.map_cons, List.map_nil, List.length_cons, List.length_nil, Option.getD_some, Option.getD_none, List.all_cons, List.all_nil, List.set_cons_zero, List.set_cons_succ, List.replicate_succ, List.replicate_zero, List.getElem?_cons_zero, List.getElem?_cons_succ, List.drop_succ_cons, List.drop_zero, List.take_succ_cons, List.take_zero, List.map_append, List.nil_append, List.cons_append, Nat.reduceShiftRight, Nat.reduceMod]
        simp only [decide_eq_true_eq] at h
        have : n ∈ l := h ▸ List.getElem_mem h'
        simp [this]
      · simp only [vcV, vcD, Int.reduceEq, Int.reduceNe, Int.reduceLT, Int.reduceLE, Nat.reduceEqDiff, Nat.reduceAdd, reduceIte, reduceCtorEq, Nat.reduceLT, Nat.reduceLeDiff, eq_self, Option.bind_some, Option.map_some, List.map_cons, List.map_nil, List.length_cons, List.length_nil, Option.getD_some, Option.getD_none, List.all_cons, List.all_nil, List.set_cons_zero, List.set_cons_succ, List.replicate_succ, List.replicate_zero, List.getElem?_cons_zero, List.getElem?_cons_succ, List.drop_succ_cons, List.drop_zero, List.take_succ_cons, List.take_zero, List.map_append, List.nil_append, List.cons_append, Nat.reduceShiftRight, Nat.reduceMod]
        refine ⟨by (simp only [decide_eq_true_eq, decide_eq_false_iff_not, Bool.not_true, I64, Bool.not_eq_true', Bool.not_eq_false', bne_iff_ne, beq_iff_eq, ne_eq] at *; omega), ⟨i + 1, by omega, ?_⟩, by simp only; omega, weakE _ ?_⟩
        · rw [List.take_succ_eq_append_getElem h']
          intro x hx
          rcases List.mem_append.1 hx with hx | hx
          · exact hn x hx
          · simp at hx h; rw [hx]; exact h
        · simp only [vcV, vcD, Int.reduceEq, Int.reduceNe, Int.reduceLT, Int.reduceLE, Nat.reduceEqDiff, Nat.reduceAdd, reduceIte, reduceCtorEq, Nat.reduceLT, Nat.reduceLeDiff, eq_self, Option.bind_some, Option.map_some, List.map_cons, List.map_nil, List.length_cons, List.length_nil, Option.getD_some, Option.getD_none, List.all_cons, List.all_nil, List.set_cons_zero, List.set_cons_succ, List.replicate_succ, List.replicate_zero, List.getElem?_cons_zero, List.getElem?_cons_succ, List.drop_succ_cons, List.drop_zero, List.take_succ_cons, List.take_zero, List.map_append, List.nil_append, List.cons_append, Nat.reduceShiftRight, Nat.reduceMod]; simp
    · simp only [vcV, vcD, Int.reduceEq, Int.reduceNe, Int.reduceLT, Int.reduceLE, Nat.reduceEqDiff, Nat.reduceAdd, reduceIte, reduceCtorEq, Nat.reduceLT, Nat.reduceLeDiff, eq_self, Option.bind_some, Option.map_some, List.map_cons, List.map_nil, List.length_cons, List.length_nil, Option.getD_some, Option.getD_none, List.all_cons, List.all_nil, List.set_cons_zero, List.set_cons_succ, List.replicate_succ, List.replicate_zero, List.getElem?_cons_zero, List.getElem?_cons_succ, List.drop_succ_cons, List.drop_zero, List.take_succ_cons, List.take_zero, List.map_append, List.nil_append, List.cons_append, Nat.reduceShiftRight, Nat.reduceMod]
      have : i = l.length := by (simp only [decide_eq_true_eq, decide_eq_false_iff_not, Bool.not_true, I64, Bool.not_eq_true', Bool.not_eq_false', bne_iff_ne, beq_iff_eq, ne_eq] at *; omega)
      subst this
      rw [List.take_length] at hn
      have : n ∉ l := fun hm => hn n hm rfl
      simp [this]

theorem Ints_s (a b : List Int) (ha : a.length ≤ 1000000000) : Sound Try.prog 42 [.sl (ints a), .sl (ints b)] (.bool (decide (a = b))) := by
  refine sound_W f_base_Ints (Nat.le_of_ble_eq_true rfl) ?_
  simp only [c_base_Ints, vcV, vcD, Int.reduceEq, Int.reduceNe, Int.reduceLT, Int.reduceLE, Nat.reduceEqDiff, Nat.reduceAdd, reduceIte, reduceCtorEq, Nat.reduceLT, Nat.reduceLeDiff, eq_self, Option.bind_some, Option.map_some, List.map_cons, List.map_nil, List.length_cons, List.length_nil, Option.getD_some, Option.getD_none, List.all_cons, List.all_nil, List.set_cons_zero, List.set_cons_succ, List.replicate_succ, List.replicate_zero, List.getElem?_cons_zero, List.getElem?_cons_succ, List.drop_succ_cons, List.drop_zero, List.take_succ_cons, List.take_zero, List.map_append, List.nil_append, List.cons_append, Nat.reduceShiftRight, Nat.reduceMod]
  refine brB_split (fun h => ?_) (fun h => ?_)
  · simp only [vcV, vcD, Int.reduceEq, Int.reduceNe, Int.reduceLT, Int.reduceLE, Nat.reduceEqDiff, Nat.reduceAdd, reduceIte, reduceCtorEq, Nat.reduceLT, Nat.reduceLeDiff, eq_self, Option.bind_some, Option.map_some, List.map_cons, List.map_nil, List.length_cons, List.length_nil, Option.getD_some, Option.getD_none, List.all_cons, List.all_nil, List.set_cons_zero, List.set_cons_succ, List.replicate_succ, List.replicate_zero, List.getElem?_cons_zero, List.getElem?_cons_succ, List.drop_succ_cons, List.drop_zero, List.take_succ_cons, List.take_zero, List.map_append, List.nil_append, List.cons_append, Nat.reduceShiftRight, Nat.reduceMod]
    have : a ≠ b := fun hab => by subst hab; simp at h
    simp [this]
  · have hlen : a.length = b.length := by (simp only [decide_eq_true_eq, decide_eq_false_iff_not, Bool.not_true, I64, Bool.not_eq_true', Bool.not_eq_false', bne_iff_ne, beq_iff_eq, ne_eq] at *; omega)
    simp only [vcV, vcD, Int.reduceEq, Int.reduceNe, Int.reduceLT, Int.reduceLE, Nat.reduceEqDiff, Nat.reduceAdd, reduceIte, reduceCtorEq, Nat.reduceLT, Nat.reduceLeDiff, eq_self, Option.bind_some, Option.map_some, List.map_cons, List.map_nil, List.length_cons, List.length_nil, Option.getD_some, Option.getD_none, List.all_cons, List.all_nil, List.set_cons_zero, List.set_cons_succ, List.replicate_succ, List.replicate_zero, List.getElem?_cons_zero, List.getElem?_cons_succ, List.drop_succ_cons, List.drop_zero, List.take_succ_cons, List.take_zero, List.map_append, List.nil_append, List.cons_append, Nat.reduceShiftRight, Nat.reduceMod]
    refine W_loop (α := PSigma fun i : Nat => i ≤ a.length ∧ a.take i = b.take i) (fun i => (envOf [(0, .sl (ints a)), (1, .sl (ints b)), (5, .int .i64 i.1)], noStore)) (fun i => a.length - i.1) ⟨0, by simp⟩ (weakE _ ?_) (fun ⟨i, hi, hn⟩ => ?_)
    · simp only [vcV, vcD, Int.reduceEq, Int.reduceNe, Int.reduceLT, Int.reduceLE, Nat.reduceEqDiff, Nat.reduceAdd, reduceIte, reduceCtorEq, Nat.reduceLT, Nat.reduceLeDiff, eq_self, Option.bind_some, Option.map_some, List.map_cons, List.map_nil, List.length_cons, List.length_nil, Option.getD_some, Option.getD_none, List.all_cons, List.all_nil, List.set_cons_zero, List.set_cons_succ, List.replicate_succ, List.replicate_zero, List.getElem?_cons_zero, List.getElem?_cons_succ, List.drop_succ_cons, List.drop_zero, List.take_succ_cons, List.take_zero, List.map_append, List.nil_append, List.cons_append, Nat.reduceShiftRight, Nat.reduceMod]; rfl
    · simp only [vcV, vcD, Int.reduceEq, Int.reduceNe, Int.reduceLT, Int.reduceLE, Nat.reduceEqDiff, Nat.reduceAdd, reduceIte, reduceCtorEq, Nat.reduceLT, Nat.reduceLeDiff, eq_self, Option.bind_some, Option.map_some, List.map_cons, List.map_nil, List.length_cons, List.length_nil, Option.getD_some, Option.getD_none, List.all_cons, List.all_nil, List.set_cons_zero, List.set_cons_succ, List.replicate_succ, List.replicate_zero, List.getElem?_cons_zero, List.getElem?_cons_succ, List.drop_succ_cons, List.drop_zero, List.take_succ_cons, List.take_zero, List.map_append, List.nil_append, List.cons_append, Nat.reduceShiftRight, Nat.reduceMod]
      refine brB_split (fun h => ?_) (fun h => ?_)
      · have h' : i < a.length := by (simp only [decide_eq_true_eq, decide_eq_false_iff_not, Bool.not_true, I64, Bool.not_eq_true', Bool.not_eq_false', bne_iff_ne, beq_iff_eq, ne_eq] at *; omega)
        have h2 : i < b.length := by omega
        simp only [ints_get a i h', ints_get b i h2, vcV, vcD, Int.reduceEq, Int.reduceNe, Int.reduceLT, Int.reduceLE, Nat.reduceEqDiff, Nat.reduceAdd, reduceIte, reduceCtorEq, Nat.reduceLT, Nat.reduceLeDiff, eq_self, Option.bind_some, Option.map_some, List.map_cons, List.map_nil, List.length_cons, List.length_nil, Option.getD_some, Option.getD_none, List.all_cons, List.all_nil, List.set_cons_zero, List.set_cons_succ, List.replicate_succ, List.replicate_zero, List.getElem?_cons_zero, List.getElem?_cons_succ, List.drop_succ_cons, List.drop_zero, List.take_succ_cons, List.take_zero, List.map_append, List.nil_append, List.cons_append, Nat.reduceShiftRight, Nat.reduceMod]
        refine ⟨by omega, by omega, ?_⟩
        refine brB_split (fun h => ?_) (fun h => ?_)
        · simp only [vcV, vcD, Int.reduceEq, Int.reduceNe, Int.reduceLT, Int.reduceLE, Nat.reduceEqDiff, Nat.reduceAdd, reduceIte, reduceCtorEq, Nat.reduceLT, Nat.reduceLeDiff, eq_self, Option.bind_some, Option.map_some, List.map_cons, List.map_nil, List.length_cons, List.length_nil, Option.getD_some, Option.getD_none, List.all_cons, List.all_nil, List.set_cons_zero, List.set_cons_succ, List.replicate_succ, List.replicate_zero, List.getElem?_cons_zero, List.getElem?_cons_succ, List.drop_succ_cons, List.drop_zero, List.take_succ_cons, List.take_zero, List.map_append, List.nil_append, List.cons_append, Nat.reduceShiftRight, Nat.reduceMod]
          have : a ≠ b := fun hab => by subst hab; simp at h
          simp [this]
        · simp only [vcV, vcD, Int.reduceEq, Int.reduceNe, Int.reduceLT, Int.reduceLE, Nat.reduceEqDiff, Nat.reduceAdd, reduceIte, reduceCtorEq, Nat.reduceLT, Nat.reduceLeDiff, eq_self, Option.bind_some, Option.map_some, List.map_cons, List.map_nil, List.length_cons, List.length_nil, Option.getD_some, Option.getD_none, List.all_cons, List.all_nil, List.set_cons_zero, List.set_cons_succ, List.replicate_succ, List.replicate_zero, List.getElem?_cons_zero, List.getElem?_cons_succ, List.drop_succ_cons, List.drop_zero, List.take_succ_cons, List.take_zero, List.map_append, List.nil_append, List.cons_append, Nat.reduceShiftRight, Nat.reduceMod]
          refine ⟨by (simp only [decide_eq_true_eq, decide_eq_false_iff_not, Bool.not_true, I64, Bool.not_eq_true', Bool.not_eq_false', bne_iff_ne, beq_iff_eq, ne_eq] at *; omega), ⟨i + 1, by omega, ?_⟩, by simp only; omega, weakE _ ?_⟩
          · rw [List.take_succ_eq_append_getElem h', List.take_succ_eq_append_getElem h2, hn]
            simp at h; rw [h]
          · simp only [vcV, vcD, Int.reduceEq, Int.reduceNe, Int.reduceLT, Int.reduceLE, Nat.reduceEqDiff, Nat.reduceAdd, reduceIte, reduceCtorEq, Nat.reduceLT, Nat.reduceLeDiff, eq_self, Option.bind_some, Option.map_some, List.map_cons, List.map_nil, List.length_cons, List.length_nil, Option.getD_some, Option.getD_none, List.all_cons, List.all_nil, List.set_cons_zero, List.set_cons_succ, List.replicate_succ, List.replicate_zero, List.getElem?_cons_zero, List.getElem?_cons_succ, List.drop_succ_cons, List.drop_zero, List.take_succ_cons, List.take_zero, List.map_append, List.nil_append, List.cons_append, Nat.reduceShiftRight, Nat.reduceMod]; simp
      · simp only [vcV, vcD, Int.reduceEq, Int.reduceNe, Int.reduceLT, Int.reduceLE, Nat.reduceEqDiff, Nat.reduceAdd, reduceIte, reduceCtorEq, Nat.reduceLT, Nat.reduceLeDiff, eq_self, Option.bind_some, Option.map_some, List.map_cons, List.map_nil, List.length_cons, List.length_nil, Option.getD_some, Option.getD_none, List.all_cons, List.all_nil, List.set_cons_zero, List.set_cons_succ, List.replicate_succ, List.replicate_zero, List.getElem?_cons_zero, List.getElem?_cons_succ, List.drop_succ_cons, List.drop_zero, List.take_succ_cons, List.take_zero, List.map_append, List.nil_append, List.cons_append, Nat.reduceShiftRight, Nat.reduceMod]
        have : i = a.length := by (simp only [decide_eq_true_eq, decide_eq_false_iff_not, Bool.not_true, I64, Bool.not_eq_true', Bool.not_eq_false', bne_iff_ne, beq_iff_eq, ne_eq] at *; omega)
        subst this
        have hb : a = b := by
          have := hn
          rw [List.take_length, hlen, List.take_length] at this
          exact this
        simp [hb]

end Go.Proofs.Ytaebfjepacnmhaa

/- Contracts: rules, windows, alarms. By an AI agent; nothing here is trusted. -/
namespace Go.Proofs.Ytaebfjepacnmhaa
open Go.Av

structure Rule where
  mean : Int
  spread : Int
  window : Int
  limit : Int
def Rule.av (r : Rule) : AV := .agg [.int .i64 r.mean, .int .i64 r.spread, .int .i64 r.window, .int .i64 r.limit]
def Rule.ok (r : Rule) : Prop := (0 ≤ r.mean ∧ r.mean ≤ 1000000) ∧ (1 ≤ r.spread ∧ r.spread ≤ 1000000) ∧ (1 ≤ r.window ∧ r.window ≤ 60) ∧ (0 ≤ r.limit ∧ r.limit ≤ 1000)
instance (r : Rule) : Decidable r.ok := by unfold Rule.ok; exact inferInstance
end Go.Proofs.Ytaebfjepacnmhaa

/- Contracts: windows. By an AI agent; nothing here is trusted. -/

namespace Go.Proofs.Ytaebfjepacnmhaa
open Go.Av

/-- Counts less the mean, of the first k bins. -/
def preSum (mean : Int) (l : List Int) (k : Nat) : Int := (l.take k).sum - k * mean
def excess (r : Rule) (l : List Int) (b : Nat) : Int := preSum r.mean l (b + 1) - preSum r.mean l (b + 1 - r.window.toNat)
def winsTo (r : Rule) (l : List Int) (n : Nat) : List (Nat × Int) := ((List.range n).filter fun b => decide (r.window.toNat ≤ b + 1)).map fun b => (b, excess r l b)
def wins (r : Rule) (l : List Int) : List (Nat × Int) := winsTo r l l.length
def winA (p : Nat × Int) : List AV := [.int .i64 p.1, .int .i64 p.2]

theorem preSum_succ (mean : Int) (l : List Int) (k : Nat) (h : k < l.length) : preSum mean l (k + 1) = preSum mean l k + (l[k] - mean) := by
  unfold preSum
  rw [List.take_succ_eq_append_getElem h, List.sum_append]
  simp
  rw [Int.add_mul]
  omega

theorem countsE_ok {l : List Int} (h : countsE l = 0) : l.length ≤ 60 ∧ ∀ x ∈ l, 0 ≤ x ∧ x ≤ 1000000 := by
  unfold countsE at h
  split at h
  · cases h
  · split at h
    · rename_i h1 h2
      exact ⟨by omega, fun x hx => by simpa using List.all_eq_true.1 h2 x hx⟩
    · cases h
theorem preSum_bound {mean : Int} {l : List Int} (hm : 0 ≤ mean ∧ mean ≤ 1000000) (hl : ∀ x ∈ l, 0 ≤ x ∧ x ≤ 1000000) : ∀ k, k ≤ l.length → -(1000000 * (k : Int)) ≤ preSum mean l k ∧ preSum mean l k ≤ 1000000 * (k : Int)
  | 0, _ => by simp [preSum]
  | k + 1, h => by
    have ih := preSum_bound hm hl k (by omega)
    have hx := hl l[k] (List.getElem_mem (by omega))
    rw [preSum_succ mean l k (by omega)]
    omega

theorem winsTo_succ (r : Rule) (l : List Int) (i : Nat) : winsTo r l (i + 1) = if r.window.toNat ≤ i + 1 then winsTo r l i ++ [(i, excess r l i)] else winsTo r l i := by
  unfold winsTo
  rw [List.range_succ, List.filter_append, List.map_append]
  by_cases h : r.window.toNat ≤ i + 1
  · rw [if_pos h, List.filter_cons_of_pos (by simpa using h)]; rfl
  · rw [if_neg h, List.filter_cons_of_neg (by simpa using h)]; simp
theorem winsTo_le (r : Rule) (l : List Int) (i n : Nat) (h : i ≤ n) : ∃ rest, winsTo r l n = winsTo r l i ++ rest := by
  obtain ⟨k, rfl⟩ := Nat.exists_eq_add_of_le h
  induction k with
  | zero => exact ⟨[], by simp⟩
  | succ k ih =>
    obtain ⟨rest, hr⟩ := ih (by omega)
    rw [← Nat.add_assoc, winsTo_succ]
    split
    · exact ⟨rest ++ [(i + k, excess r l (i + k))], by rw [hr, List.append_assoc]⟩
    · exact ⟨rest, hr⟩

theorem deadAll_no : deadAll noStore = noStore := rfl

theorem windows_1_s (r : Rule) (hr : r.ok) (l : List Int) (hl : countsE l = 0) : SeqA Try.prog 135 [.eptr (.sl (ints l)) 0, .eptr r.av 0] ((wins r l).map winA) := by
  refine seq_W f_watch_windows_1 (Nat.le_of_ble_eq_true rfl) fun y => ?_
  obtain ⟨hlen, hel⟩ := countsE_ok hl
  obtain ⟨hm, _, hw, _⟩ := hr
  have hb := preSum_bound (mean := r.mean) hm hel
  simp only [c_watch_windows_1, Rule.av, vcC, Int.reduceEq, Int.reduceNe, Int.reduceLT, Int.reduceLE, Nat.reduceEqDiff, Nat.reduceAdd, reduceIte, reduceCtorEq, Nat.reduceLT, Nat.reduceLeDiff, eq_self, Option.bind_some, Option.map_some, List.map_cons, List.map_nil, List.length_cons, List.length_nil, Option.getD_some, Option.getD_none, List.all_cons, List.all_nil, List.set_cons_zero, List.set_cons_succ, List.replicate_succ, List.replicate_zero, List.getElem?_cons_zero, List.getElem?_cons_succ, List.drop_succ_cons, List.drop_zero, List.take_succ_cons, List.take_zero, WY_skip, WY_reg, WY_regY, WY_seq, WY_cond, WY_block, WY_exit, WY_ret, VY_nil, VY_yld, VY_yldg, VY_ps, seqY_n, seqY_r, seqY_x, blockY_n, blockY_r, blockY_x, isCallvs, isCallv, isY, List.any_cons, List.any_nil, Bool.or_false, Bool.or_true, Bool.false_or, Bool.and_false, Bool.false_and]
  refine WY_loop (α := PSigma fun i : Nat => i ≤ l.length) (fun i => ((envOf [(0, .yld y), (1, .eptr (.sl (ints l)) 0), (2, .eptr r.av 0), (4, .int .i64 (preSum r.mean l i.1 - preSum r.mean l (i.1 - r.window.toNat))), (7, .sl (ints l)), (8, .int .i64 l.length), (9, .int .i64 i.1)], noStore), some ((winsTo r l i.1).map winA)))
    (fun i => l.length - i.1) ⟨0, by simp⟩ (weakE _ ?_) ?_ (fun ⟨i, hi⟩ => ?_)
  · simp only [Rule.av, vcC, Int.reduceEq, Int.reduceNe, Int.reduceLT, Int.reduceLE, Nat.reduceEqDiff, Nat.reduceAdd, reduceIte, reduceCtorEq, Nat.reduceLT, Nat.reduceLeDiff, eq_self, Option.bind_some, Option.map_some, List.map_cons, List.map_nil, List.length_cons, List.length_nil, Option.getD_some, Option.getD_none, List.all_cons, List.all_nil, List.set_cons_zero, List.set_cons_succ, List.replicate_succ, List.replicate_zero, List.getElem?_cons_zero, List.getElem?_cons_succ, List.drop_succ_cons, List.drop_zero, List.take_succ_cons, List.take_zero, WY_skip, WY_reg, WY_regY, WY_seq, WY_cond, WY_block, WY_exit, WY_ret, VY_nil, VY_yld, VY_yldg, VY_ps, seqY_n, seqY_r, seqY_x, blockY_n, blockY_r, blockY_x, isCallvs, isCallv, isY, List.any_cons, List.any_nil, Bool.or_false, Bool.or_true, Bool.false_or, Bool.and_false, Bool.false_and]; simp [preSum]
  · simp [winsTo]
  · simp only [Rule.av, vcC, Int.reduceEq, Int.reduceNe, Int.reduceLT, Int.reduceLE, Nat.reduceEqDiff, Nat.reduceAdd, reduceIte, reduceCtorEq, Nat.reduceLT, Nat.reduceLeDiff, eq_self, Option.bind_some, Option.map_some, List.map_cons, List.map_nil, List.length_cons, List.length_nil, Option.getD_some, Option.getD_none, List.all_cons, List.all_nil, List.set_cons_zero, List.set_cons_succ, List.replicate_succ, List.replicate_zero, List.getElem?_cons_zero, List.getElem?_cons_succ, List.drop_succ_cons, List.drop_zero, List.take_succ_cons, List.take_zero, WY_skip, WY_reg, WY_regY, WY_seq, WY_cond, WY_block, WY_exit, WY_ret, VY_nil, VY_yld, VY_yldg, VY_ps, seqY_n, seqY_r, seqY_x, blockY_n, blockY_r, blockY_x, isCallvs, isCallv, isY, List.any_cons, List.any_nil, Bool.or_false, Bool.or_true, Bool.false_or, Bool.and_false, Bool.false_and]
    refine brB_split (fun h => ?_) (fun h => ?_)
    · have h' : i < l.length := by (simp only [decide_eq_true_eq, decide_eq_false_iff_not, Bool.not_true, I64, Bool.not_eq_true', Bool.not_eq_false', bne_iff_ne, beq_iff_eq, ne_eq] at *; omega)
      simp only [ints_get l i h', vcC, Int.reduceEq, Int.reduceNe, Int.reduceLT, Int.reduceLE, Nat.reduceEqDiff, Nat.reduceAdd, reduceIte, reduceCtorEq, Nat.reduceLT, Nat.reduceLeDiff, eq_self, Option.bind_some, Option.map_some, List.map_cons, List.map_nil, List.length_cons, List.length_nil, Option.getD_some, Option.getD_none, List.all_cons, List.all_nil, List.set_cons_zero, List.set_cons_succ, List.replicate_succ, List.replicate_zero, List.getElem?_cons_zero, List.getElem?_cons_succ, List.drop_succ_cons, List.drop_zero, List.take_succ_cons, List.take_zero, WY_skip, WY_reg, WY_regY, WY_seq, WY_cond, WY_block, WY_exit, WY_ret, VY_nil, VY_yld, VY_yldg, VY_ps, seqY_n, seqY_r, seqY_x, blockY_n, blockY_r, blockY_x, isCallvs, isCallv, isY, List.any_cons, List.any_nil, Bool.or_false, Bool.or_true, Bool.false_or, Bool.and_false, Bool.false_and]
      have hx := hel l[i] (List.getElem_mem h')
      have hs1 := preSum_succ r.mean l i h'
      have b1 := hb i hi
      have b2 := hb (i - r.window.toNat) (by omega)
      have b3 := hb (i + 1) h'
      refine ⟨by omega, by (simp only [decide_eq_true_eq, decide_eq_false_iff_not, Bool.not_true, I64, Bool.not_eq_true', Bool.not_eq_false', bne_iff_ne, beq_iff_eq, ne_eq] at *; omega), by (simp only [decide_eq_true_eq, decide_eq_false_iff_not, Bool.not_true, I64, Bool.not_eq_true', Bool.not_eq_false', bne_iff_ne, beq_iff_eq, ne_eq] at *; omega), ?_⟩
      refine brB_split (fun h => ?_) (fun h => ?_)
      · simp only [vcC, Int.reduceEq, Int.reduceNe, Int.reduceLT, Int.reduceLE, Nat.reduceEqDiff, Nat.reduceAdd, reduceIte, reduceCtorEq, Nat.reduceLT, Nat.reduceLeDiff, eq_self, Option.bind_some, Option.map_some, List.map_cons, List.map_nil, List.length_cons, List.length_nil, Option.getD_some, Option.getD_none, List.all_cons, List.all_nil, List.set_cons_zero, List.set_cons_succ, List.replicate_succ, List.replicate_zero, List.getElem?_cons_zero, List.getElem?_cons_succ, List.drop_succ_cons, List.drop_zero, List.take_succ_cons, List.take_zero, WY_skip, WY_reg, WY_regY, WY_seq, WY_cond, WY_block, WY_exit, WY_ret, VY_nil, VY_yld, VY_yldg, VY_ps, seqY_n, seqY_r, seqY_x, blockY_n, blockY_r, blockY_x, isCallvs, isCallv, isY, List.any_cons, List.any_nil, Bool.or_false, Bool.or_true, Bool.false_or, Bool.and_false, Bool.false_and]
        have hw2 : r.window.toNat ≤ i := by (simp only [decide_eq_true_eq, decide_eq_false_iff_not, Bool.not_true, I64, Bool.not_eq_true', Bool.not_eq_false', bne_iff_ne, beq_iff_eq, ne_eq] at *; omega)
        have hgi : ((i : Int) - r.window).toNat = i - r.window.toNat := by omega
        have hget := ints_get l (i - r.window.toNat) (by omega)
        simp only [hgi, hget, vcC, Int.reduceEq, Int.reduceNe, Int.reduceLT, Int.reduceLE, Nat.reduceEqDiff, Nat.reduceAdd, reduceIte, reduceCtorEq, Nat.reduceLT, Nat.reduceLeDiff, eq_self, Option.bind_some, Option.map_some, List.map_cons, List.map_nil, List.length_cons, List.length_nil, Option.getD_some, Option.getD_none, List.all_cons, List.all_nil, List.set_cons_zero, List.set_cons_succ, List.replicate_succ, List.replicate_zero, List.getElem?_cons_zero, List.getElem?_cons_succ, List.drop_succ_cons, List.drop_zero, List.take_succ_cons, List.take_zero, WY_skip, WY_reg, WY_regY, WY_seq, WY_cond, WY_block, WY_exit, WY_ret, VY_nil, VY_yld, VY_yldg, VY_ps, seqY_n, seqY_r, seqY_x, blockY_n, blockY_r, blockY_x, isCallvs, isCallv, isY, List.any_cons, List.any_nil, Bool.or_false, Bool.or_true, Bool.false_or, Bool.and_false, Bool.false_and]
        have hy := hel (l[i - r.window.toNat]'(by omega)) (List.getElem_mem _)
        have hs2 := preSum_succ r.mean l (i - r.window.toNat) (by omega)
        have hii : i - r.window.toNat + 1 = i + 1 - r.window.toNat := by omega
        rw [hii] at hs2
        have b4 := hb (i + 1 - r.window.toNat) (by omega)
        have hs : preSum r.mean l i - preSum r.mean l (i - r.window.toNat) + (l[i] - r.mean) - ((l[i - r.window.toNat]'(by omega)) - r.mean) = preSum r.mean l (i + 1) - preSum r.mean l (i + 1 - r.window.toNat) := by omega
        rw [hs]
        refine ⟨by (simp only [decide_eq_true_eq, decide_eq_false_iff_not, Bool.not_true, I64, Bool.not_eq_true', Bool.not_eq_false', bne_iff_ne, beq_iff_eq, ne_eq] at *; omega), by (simp only [decide_eq_true_eq, decide_eq_false_iff_not, Bool.not_true, I64, Bool.not_eq_true', Bool.not_eq_false', bne_iff_ne, beq_iff_eq, ne_eq] at *; omega), by (simp only [decide_eq_true_eq, decide_eq_false_iff_not, Bool.not_true, I64, Bool.not_eq_true', Bool.not_eq_false', bne_iff_ne, beq_iff_eq, ne_eq] at *; omega), by (simp only [decide_eq_true_eq, decide_eq_false_iff_not, Bool.not_true, I64, Bool.not_eq_true', Bool.not_eq_false', bne_iff_ne, beq_iff_eq, ne_eq] at *; omega), by (simp only [decide_eq_true_eq, decide_eq_false_iff_not, Bool.not_true, I64, Bool.not_eq_true', Bool.not_eq_false', bne_iff_ne, beq_iff_eq, ne_eq] at *; omega), ?_⟩
        refine brB_split (fun h2 => ?_) (fun h2 => ?_)
        · have hwi : r.window.toNat ≤ i + 1 := by (simp only [decide_eq_true_eq, decide_eq_false_iff_not, Bool.not_true, I64, Bool.not_eq_true', Bool.not_eq_false', bne_iff_ne, beq_iff_eq, ne_eq] at *; omega)
          simp only [h2, vcC, Int.reduceEq, Int.reduceNe, Int.reduceLT, Int.reduceLE, Nat.reduceEqDiff, Nat.reduceAdd, reduceIte, reduceCtorEq, Nat.reduceLT, Nat.reduceLeDiff, eq_self, Option.bind_some, Option.map_some, List.map_cons, List.map_nil, List.length_cons, List.length_nil, Option.getD_some, Option.getD_none, List.all_cons, List.all_nil, List.set_cons_zero, List.set_cons_succ, List.replicate_succ, List.replicate_zero, List.getElem?_cons_zero, List.getElem?_cons_succ, List.drop_succ_cons, List.drop_zero, List.take_succ_cons, List.take_zero, WY_skip, WY_reg, WY_regY, WY_seq, WY_cond, WY_block, WY_exit, WY_ret, VY_nil, VY_yld, VY_yldg, VY_ps, seqY_n, seqY_r, seqY_x, blockY_n, blockY_r, blockY_x, isCallvs, isCallv, isY, List.any_cons, List.any_nil, Bool.or_false, Bool.or_true, Bool.false_or, Bool.and_false, Bool.false_and]
          obtain ⟨rest, hrest⟩ := winsTo_le r l (i + 1) l.length (by omega)
          have hx := winsTo_succ r l i
          rw [if_pos hwi] at hx
          rw [hx] at hrest
          have hex : excess r l i = preSum r.mean l (i + 1) - preSum r.mean l (i + 1 - r.window.toNat) := rfl
          rw [← hex]
          refine yS_of ((winsTo r l i).map winA) (rest.map winA) rfl ?_ ?_ ?_
          · unfold wins; rw [hrest]; simp [winA]
          · simp only [deadAll_no, vcC, Int.reduceEq, Int.reduceNe, Int.reduceLT, Int.reduceLE, Nat.reduceEqDiff, Nat.reduceAdd, reduceIte, reduceCtorEq, Nat.reduceLT, Nat.reduceLeDiff, eq_self, Option.bind_some, Option.map_some, List.map_cons, List.map_nil, List.length_cons, List.length_nil, Option.getD_some, Option.getD_none, List.all_cons, List.all_nil, List.set_cons_zero, List.set_cons_succ, List.replicate_succ, List.replicate_zero, List.getElem?_cons_zero, List.getElem?_cons_succ, List.drop_succ_cons, List.drop_zero, List.take_succ_cons, List.take_zero, WY_skip, WY_reg, WY_regY, WY_seq, WY_cond, WY_block, WY_exit, WY_ret, VY_nil, VY_yld, VY_yldg, VY_ps, seqY_n, seqY_r, seqY_x, blockY_n, blockY_r, blockY_x, isCallvs, isCallv, isY, List.any_cons, List.any_nil, Bool.or_false, Bool.or_true, Bool.false_or, Bool.and_false, Bool.false_and]
            refine ⟨by (simp only [decide_eq_true_eq, decide_eq_false_iff_not, Bool.not_true, I64, Bool.not_eq_true', Bool.not_eq_false', bne_iff_ne, beq_iff_eq, ne_eq] at *; omega), ⟨i + 1, by omega⟩, by simp only; omega, weakE _ ?_, ?_⟩
            · simp only [Rule.av, vcC, Int.reduceEq, Int.reduceNe, Int.reduceLT, Int.reduceLE, Nat.reduceEqDiff, Nat.reduceAdd, reduceIte, reduceCtorEq, Nat.reduceLT, Nat.reduceLeDiff, eq_self, Option.bind_some, Option.map_some, List.map_cons, List.map_nil, List.length_cons, List.length_nil, Option.getD_some, Option.getD_none, List.all_cons, List.all_nil, List.set_cons_zero, List.set_cons_succ, List.replicate_succ, List.replicate_zero, List.getElem?_cons_zero, List.getElem?_cons_succ, List.drop_succ_cons, List.drop_zero, List.take_succ_cons, List.take_zero, WY_skip, WY_reg, WY_regY, WY_seq, WY_cond, WY_block, WY_exit, WY_ret, VY_nil, VY_yld, VY_yldg, VY_ps, seqY_n, seqY_r, seqY_x, blockY_n, blockY_r, blockY_x, isCallvs, isCallv, isY, List.any_cons, List.any_nil, Bool.or_false, Bool.or_true, Bool.false_or, Bool.and_false, Bool.false_and]; simp [hex]
            · simp only [hx]; simp [winA]
          · simp only [deadAll_no, vcC, Int.reduceEq, Int.reduceNe, Int.reduceLT, Int.reduceLE, Nat.reduceEqDiff, Nat.reduceAdd, reduceIte, reduceCtorEq, Nat.reduceLT, Nat.reduceLeDiff, eq_self, Option.bind_some, Option.map_some, List.map_cons, List.map_nil, List.length_cons, List.length_nil, Option.getD_some, Option.getD_none, List.all_cons, List.all_nil, List.set_cons_zero, List.set_cons_succ, List.replicate_succ, List.replicate_zero, List.getElem?_cons_zero, List.getElem?_cons_succ, List.drop_succ_cons, List.drop_zero, List.take_succ_cons, List.take_zero, WY_skip, WY_reg, WY_regY, WY_seq, WY_cond, WY_block, WY_exit, WY_ret, VY_nil, VY_yld, VY_yldg, VY_ps, seqY_n, seqY_r, seqY_x, blockY_n, blockY_r, blockY_x, isCallvs, isCallv, isY, List.any_cons, List.any_nil, Bool.or_false, Bool.or_true, Bool.false_or, Bool.and_false, Bool.false_and]; simp
        · have hwi : ¬ r.window.toNat ≤ i + 1 := by (simp only [decide_eq_true_eq, decide_eq_false_iff_not, Bool.not_true, I64, Bool.not_eq_true', Bool.not_eq_false', bne_iff_ne, beq_iff_eq, ne_eq] at *; omega)
          simp only [h2, vcC, Int.reduceEq, Int.reduceNe, Int.reduceLT, Int.reduceLE, Nat.reduceEqDiff, Nat.reduceAdd, reduceIte, reduceCtorEq, Nat.reduceLT, Nat.reduceLeDiff, eq_self, Option.bind_some, Option.map_some, List.map_cons, List.map_nil, List.length_cons, List.length_nil, Option.getD_some, Option.getD_none, List.all_cons, List.all_nil, List.set_cons_zero, List.set_cons_succ, List.replicate_succ, List.replicate_zero, List.getElem?_cons_zero, List.getElem?_cons_succ, List.drop_succ_cons, List.drop_zero, List.take_succ_cons, List.take_zero, WY_skip, WY_reg, WY_regY, WY_seq, WY_cond, WY_block, WY_exit, WY_ret, VY_nil, VY_yld, VY_yldg, VY_ps, seqY_n, seqY_r, seqY_x, blockY_n, blockY_r, blockY_x, isCallvs, isCallv, isY, List.any_cons, List.any_nil, Bool.or_false, Bool.or_true, Bool.false_or, Bool.and_false, Bool.false_and]
          refine ⟨by (simp only [decide_eq_true_eq, decide_eq_false_iff_not, Bool.not_true, I64, Bool.not_eq_true', Bool.not_eq_false', bne_iff_ne, beq_iff_eq, ne_eq] at *; omega), ⟨i + 1, by omega⟩, by simp only; omega, weakE _ ?_, ?_⟩
          · simp only [Rule.av, vcC, Int.reduceEq, Int.reduceNe, Int.reduceLT, Int.reduceLE, Nat.reduceEqDiff, Nat.reduceAdd, reduceIte, reduceCtorEq, Nat.reduceLT, Nat.reduceLeDiff, eq_self, Option.bind_some, Option.map_some, List.map_cons, List.map_nil, List.length_cons, List.length_nil, Option.getD_some, Option.getD_none, List.all_cons, List.all_nil, List.set_cons_zero, List.set_cons_succ, List.replicate_succ, List.replicate_zero, List.getElem?_cons_zero, List.getElem?_cons_succ, List.drop_succ_cons, List.drop_zero, List.take_succ_cons, List.take_zero, WY_skip, WY_reg, WY_regY, WY_seq, WY_cond, WY_block, WY_exit, WY_ret, VY_nil, VY_yld, VY_yldg, VY_ps, seqY_n, seqY_r, seqY_x, blockY_n, blockY_r, blockY_x, isCallvs, isCallv, isY, List.any_cons, List.any_nil, Bool.or_false, Bool.or_true, Bool.false_or, Bool.and_false, Bool.false_and]; simp
          · rw [winsTo_succ, if_neg hwi]
      · simp only [vcC, Int.reduceEq, Int.reduceNe, Int.reduceLT, Int.reduceLE, Nat.reduceEqDiff, Nat.reduceAdd, reduceIte, reduceCtorEq, Nat.reduceLT, Nat.reduceLeDiff, eq_self, Option.bind_some, Option.map_some, List.map_cons, List.map_nil, List.length_cons, List.length_nil, Option.getD_some, Option.getD_none, List.all_cons, List.all_nil, List.set_cons_zero, List.set_cons_succ, List.replicate_succ, List.replicate_zero, List.getElem?_cons_zero, List.getElem?_cons_succ, List.drop_succ_cons, List.drop_zero, List.take_succ_cons, List.take_zero, WY_skip, WY_reg, WY_regY, WY_seq, WY_cond, WY_block, WY_exit, WY_ret, VY_nil, VY_yld, VY_yldg, VY_ps, seqY_n, seqY_r, seqY_x, blockY_n, blockY_r, blockY_x, isCallvs, isCallv, isY, List.any_cons, List.any_nil, Bool.or_false, Bool.or_true, Bool.false_or, Bool.and_false, Bool.false_and]
        have hw2 : ¬ r.window.toNat ≤ i := by (simp only [decide_eq_true_eq, decide_eq_false_iff_not, Bool.not_true, I64, Bool.not_eq_true', Bool.not_eq_false', bne_iff_ne, beq_iff_eq, ne_eq] at *; omega)
        have hz : i - r.window.toNat = 0 := by omega
        have hz2 : i + 1 - r.window.toNat = 0 := by omega
        have hs : preSum r.mean l i - preSum r.mean l (i - r.window.toNat) + (l[i] - r.mean) = preSum r.mean l (i + 1) - preSum r.mean l (i + 1 - r.window.toNat) := by rw [hz, hz2]; omega
        rw [hs]
        refine ⟨by (simp only [decide_eq_true_eq, decide_eq_false_iff_not, Bool.not_true, I64, Bool.not_eq_true', Bool.not_eq_false', bne_iff_ne, beq_iff_eq, ne_eq] at *; omega), ?_⟩
        refine brB_split (fun h2 => ?_) (fun h2 => ?_)
        · have hwi : r.window.toNat ≤ i + 1 := by (simp only [decide_eq_true_eq, decide_eq_false_iff_not, Bool.not_true, I64, Bool.not_eq_true', Bool.not_eq_false', bne_iff_ne, beq_iff_eq, ne_eq] at *; omega)
          simp only [h2, vcC, Int.reduceEq, Int.reduceNe, Int.reduceLT, Int.reduceLE, Nat.reduceEqDiff, Nat.reduceAdd, reduceIte, reduceCtorEq, Nat.reduceLT, Nat.reduceLeDiff, eq_self, Option.bind_some, Option.map_some, List.map_cons, List.map_nil, List.length_cons, List.length_nil, Option.getD_some, Option.getD_none, List.all_cons, List.all_nil, List.set_cons_zero, List.set_cons_succ, List.replicate_succ, List.replicate_zero, List.getElem?_cons_zero, List.getElem?_cons_succ, List.drop_succ_cons, List.drop_zero, List.take_succ_cons, List.take_zero, WY_skip, WY_reg, WY_regY, WY_seq, WY_cond, WY_block, WY_exit, WY_ret, VY_nil, VY_yld, VY_yldg, VY_ps, seqY_n, seqY_r, seqY_x, blockY_n, blockY_r, blockY_x, isCallvs, isCallv, isY, List.any_cons, List.any_nil, Bool.or_false, Bool.or_true, Bool.false_or, Bool.and_false, Bool.false_and]
          obtain ⟨rest, hrest⟩ := winsTo_le r l (i + 1) l.length (by omega)
          have hx := winsTo_succ r l i
          rw [if_pos hwi] at hx
          rw [hx] at hrest
          have hex : excess r l i = preSum r.mean l (i + 1) - preSum r.mean l (i + 1 - r.window.toNat) := rfl
          rw [← hex]
          refine yS_of ((winsTo r l i).map winA) (rest.map winA) rfl ?_ ?_ ?_
          · unfold wins; rw [hrest]; simp [winA]
          · simp only [deadAll_no, vcC, Int.reduceEq, Int.reduceNe, Int.reduceLT, Int.reduceLE, Nat.reduceEqDiff, Nat.reduceAdd, reduceIte, reduceCtorEq, Nat.reduceLT, Nat.reduceLeDiff, eq_self, Option.bind_some, Option.map_some, List.map_cons, List.map_nil, List.length_cons, List.length_nil, Option.getD_some, Option.getD_none, List.all_cons, List.all_nil, List.set_cons_zero, List.set_cons_succ, List.replicate_succ, List.replicate_zero, List.getElem?_cons_zero, List.getElem?_cons_succ, List.drop_succ_cons, List.drop_zero, List.take_succ_cons, List.take_zero, WY_skip, WY_reg, WY_regY, WY_seq, WY_cond, WY_block, WY_exit, WY_ret, VY_nil, VY_yld, VY_yldg, VY_ps, seqY_n, seqY_r, seqY_x, blockY_n, blockY_r, blockY_x, isCallvs, isCallv, isY, List.any_cons, List.any_nil, Bool.or_false, Bool.or_true, Bool.false_or, Bool.and_false, Bool.false_and]
            refine ⟨by (simp only [decide_eq_true_eq, decide_eq_false_iff_not, Bool.not_true, I64, Bool.not_eq_true', Bool.not_eq_false', bne_iff_ne, beq_iff_eq, ne_eq] at *; omega), ⟨i + 1, by omega⟩, by simp only; omega, weakE _ ?_, ?_⟩
            · simp only [Rule.av, vcC, Int.reduceEq, Int.reduceNe, Int.reduceLT, Int.reduceLE, Nat.reduceEqDiff, Nat.reduceAdd, reduceIte, reduceCtorEq, Nat.reduceLT, Nat.reduceLeDiff, eq_self, Option.bind_some, Option.map_some, List.map_cons, List.map_nil, List.length_cons, List.length_nil, Option.getD_some, Option.getD_none, List.all_cons, List.all_nil, List.set_cons_zero, List.set_cons_succ, List.replicate_succ, List.replicate_zero, List.getElem?_cons_zero, List.getElem?_cons_succ, List.drop_succ_cons, List.drop_zero, List.take_succ_cons, List.take_zero, WY_skip, WY_reg, WY_regY, WY_seq, WY_cond, WY_block, WY_exit, WY_ret, VY_nil, VY_yld, VY_yldg, VY_ps, seqY_n, seqY_r, seqY_x, blockY_n, blockY_r, blockY_x, isCallvs, isCallv, isY, List.any_cons, List.any_nil, Bool.or_false, Bool.or_true, Bool.false_or, Bool.and_false, Bool.false_and]; simp [hex]
            · simp only [hx]; simp [winA]
          · simp only [deadAll_no, vcC, Int.reduceEq, Int.reduceNe, Int.reduceLT, Int.reduceLE, Nat.reduceEqDiff, Nat.reduceAdd, reduceIte, reduceCtorEq, Nat.reduceLT, Nat.reduceLeDiff, eq_self, Option.bind_some, Option.map_some, List.map_cons, List.map_nil, List.length_cons, List.length_nil, Option.getD_some, Option.getD_none, List.all_cons, List.all_nil, List.set_cons_zero, List.set_cons_succ, List.replicate_succ, List.replicate_zero, List.getElem?_cons_zero, List.getElem?_cons_succ, List.drop_succ_cons, List.drop_zero, List.take_succ_cons, List.take_zero, WY_skip, WY_reg, WY_regY, WY_seq, WY_cond, WY_block, WY_exit, WY_ret, VY_nil, VY_yld, VY_yldg, VY_ps, seqY_n, seqY_r, seqY_x, blockY_n, blockY_r, blockY_x, isCallvs, isCallv, isY, List.any_cons, List.any_nil, Bool.or_false, Bool.or_true, Bool.false_or, Bool.and_false, Bool.false_and]; simp
        · have hwi : ¬ r.window.toNat ≤ i + 1 := by (simp only [decide_eq_true_eq, decide_eq_false_iff_not, Bool.not_true, I64, Bool.not_eq_true', Bool.not_eq_false', bne_iff_ne, beq_iff_eq, ne_eq] at *; omega)
          simp only [h2, vcC, Int.reduceEq, Int.reduceNe, Int.reduceLT, Int.reduceLE, Nat.reduceEqDiff, Nat.reduceAdd, reduceIte, reduceCtorEq, Nat.reduceLT, Nat.reduceLeDiff, eq_self, Option.bind_some, Option.map_some, List.map_cons, List.map_nil, List.length_cons, List.length_nil, Option.getD_some, Option.getD_none, List.all_cons, List.all_nil, List.set_cons_zero, List.set_cons_succ, List.replicate_succ, List.replicate_zero, List.getElem?_cons_zero, List.getElem?_cons_succ, List.drop_succ_cons, List.drop_zero, List.take_succ_cons, List.take_zero, WY_skip, WY_reg, WY_regY, WY_seq, WY_cond, WY_block, WY_exit, WY_ret, VY_nil, VY_yld, VY_yldg, VY_ps, seqY_n, seqY_r, seqY_x, blockY_n, blockY_r, blockY_x, isCallvs, isCallv, isY, List.any_cons, List.any_nil, Bool.or_false, Bool.or_true, Bool.false_or, Bool.and_false, Bool.false_and]
          refine ⟨by (simp only [decide_eq_true_eq, decide_eq_false_iff_not, Bool.not_true, I64, Bool.not_eq_true', Bool.not_eq_false', bne_iff_ne, beq_iff_eq, ne_eq] at *; omega), ⟨i + 1, by omega⟩, by simp only; omega, weakE _ ?_, ?_⟩
          · simp only [Rule.av, vcC, Int.reduceEq, Int.reduceNe, Int.reduceLT, Int.reduceLE, Nat.reduceEqDiff, Nat.reduceAdd, reduceIte, reduceCtorEq, Nat.reduceLT, Nat.reduceLeDiff, eq_self, Option.bind_some, Option.map_some, List.map_cons, List.map_nil, List.length_cons, List.length_nil, Option.getD_some, Option.getD_none, List.all_cons, List.all_nil, List.set_cons_zero, List.set_cons_succ, List.replicate_succ, List.replicate_zero, List.getElem?_cons_zero, List.getElem?_cons_succ, List.drop_succ_cons, List.drop_zero, List.take_succ_cons, List.take_zero, WY_skip, WY_reg, WY_regY, WY_seq, WY_cond, WY_block, WY_exit, WY_ret, VY_nil, VY_yld, VY_yldg, VY_ps, seqY_n, seqY_r, seqY_x, blockY_n, blockY_r, blockY_x, isCallvs, isCallv, isY, List.any_cons, List.any_nil, Bool.or_false, Bool.or_true, Bool.false_or, Bool.and_false, Bool.false_and]; simp
          · rw [winsTo_succ, if_neg hwi]
    · simp only [vcC, Int.reduceEq, Int.reduceNe, Int.reduceLT, Int.reduceLE, Nat.reduceEqDiff, Nat.reduceAdd, reduceIte, reduceCtorEq, Nat.reduceLT, Nat.reduceLeDiff, eq_self, Option.bind_some, Option.map_some, List.map_cons, List.map_nil, List.length_cons, List.length_nil, Option.getD_some, Option.getD_none, List.all_cons, List.all_nil, List.set_cons_zero, List.set_cons_succ, List.replicate_succ, List.replicate_zero, List.getElem?_cons_zero, List.getElem?_cons_succ, List.drop_succ_cons, List.drop_zero, List.take_succ_cons, List.take_zero, WY_skip, WY_reg, WY_regY, WY_seq, WY_cond, WY_block, WY_exit, WY_ret, VY_nil, VY_yld, VY_yldg, VY_ps, seqY_n, seqY_r, seqY_x, blockY_n, blockY_r, blockY_x, isCallvs, isCallv, isY, List.any_cons, List.any_nil, Bool.or_false, Bool.or_true, Bool.false_or, Bool.and_false, Bool.false_and]
      have : i = l.length := by (simp only [decide_eq_true_eq, decide_eq_false_iff_not, Bool.not_true, I64, Bool.not_eq_true', Bool.not_eq_false', bne_iff_ne, beq_iff_eq, ne_eq] at *; omega)
      subst this
      simp [wins]
end Go.Proofs.Ytaebfjepacnmhaa

/- Contracts: alarms. By an AI agent; nothing here is trusted. -/
namespace Go.Proofs.Ytaebfjepacnmhaa
open Go.Av

def isAlarm (r : Rule) (x : Int) : Prop := 0 < x ∧ r.limit * r.limit * r.window * r.spread < 100 * x * x
instance (r : Rule) (x : Int) : Decidable (isAlarm r x) := by unfold isAlarm; exact inferInstance
end Go.Proofs.Ytaebfjepacnmhaa

/- The examples of the chapter, by running the abstract code. By an AI agent; nothing here is trusted. -/
namespace Go.Proofs.Ytaebfjepacnmhaa
open Go.Av

def unint : AV → Option Int
  | .int .i64 n => some n
  | _ => none
def unints : List AV → Option (List Int)
  | [] => some []
  | x :: l => match unint x, unints l with
    | some n, some m => some (n :: m)
    | _, _ => none
theorem unints_some : ∀ {l : List AV} {m : List Int}, unints l = some m → l = ints m
  | [], m, h => by cases h; rfl
  | x :: l, m, h => by
    simp only [unints] at h
    split at h
    · rename_i n k h1 h2
      cases h
      rw [unints_some h2]
      unfold unint at h1
      split at h1
      · cases h1; rfl
      · cases h1
    · cases h

/-- The iterators that the examples come to. -/
def itW : IterT := fun g caps => if g = 135 then (match caps with
  | [.eptr (.sl es) 0, .eptr (.agg [.int .i64 a, .int .i64 b, .int .i64 c, .int .i64 d]) 0] => (match unints es with
    | some l => if Rule.ok ⟨a, b, c, d⟩ ∧ countsE l = 0 then some ((wins ⟨a, b, c, d⟩ l).map winA) else none
    | none => none)
  | _ => none) else none
theorem itW_ok : ∀ g caps xs, itW g caps = some xs → SeqA Try.prog g caps xs := by
  intro g caps xs h
  unfold itW at h
  split at h
  · rename_i hg
    subst hg
    split at h
    · rename_i es a b c d
      split at h
      · rename_i l hl
        split at h
        · rename_i hc
          cases h
          rw [unints_some hl]
          exact windows_1_s ⟨a, b, c, d⟩ hc.1 l hc.2
        · cases h
      · cases h
    · cases h
  · cases h

def tabW : List (Nat × Nat × Nat × MC × List (Nat × Option (Option Nat))) := [(14, 82, 0, c_law08_awake, [(0, none)]), (22, 24, 3, c_watch_WaysOf, [(6, none), (7, none)]), (23, 56, 3, c_watch_ThresholdFor, [(6, none), (7, none)]), (31, 16, 2, c_watch_AlarmsIn, [(4, none), (5, none)]), (36, 48, 3, c_watch_LostBy, [(6, none), (7, none)]), (38, 19, 1, c_watch_CheckRing, [(2, none)]), (42, 26, 2, c_base_Ints, [(4, none)]), (44, 50, 1, c_watch_CheckSky, [(2, none), (3, none)]), (50, 20, 2, c_base_Lowest, [(4, (some (some 2)))]), (65, 24, 1, c_watch_CheckRule, [(2, none)]), (74, 7, 1, c_base_Size, [(2, none)]), (75, 22, 1, c_watch_FitOf, [(2, (some (some 4))), (3, none)]), (83, 2, 0, c_law08_Rule, [(0, (some (some 4)))]), (84, 5, 0, c_law08_Sky, [(0, (some (some 1)))]), (85, 5, 0, c_law08_Pairs, [(0, none)]), (86, 18, 2, c_watch_binsErr, [(4, none)]), (87, 21, 2, c_watch_from, [(4, none)]), (88, 58, 2, c_watch_sums, [(4, none)]), (89, 15, 1, c_watch_first, [(2, none)]), (90, 6, 1, c_watch_thresholdErr, [(2, none)]), (91, 7, 2, c_watch_unless, [(4, none)]), (92, 15, 3, c_watch_within, [(6, none)]), (95, 11, 2, c_watch_bothErr, [(4, none)]), (96, 38, 2, c_watch_alarms, [(4, none)]), (97, 39, 3, c_watch_ringErr, [(6, none)]), (98, 65, 3, c_watch_freezes, [(6, none)]), (100, 9, 2, c_slices_ContainsFunc_int_int, [(4, none)]), (101, 12, 3, c_watch_LostBy_1, [(4, none)]), (102, 9, 2, c_slices_ContainsFunc_api_Range_api_Range, [(4, none)]), (103, 10, 2, c_watch_LostBy_2, [(3, none)]), (105, 8, 2, c_watch_odd, [(4, none)]), (107, 16, 2, c_watch_lowest, [(4, (some (some 2)))]), (109, 13, 2, c_base_Gcd, [(4, none)]), (111, 6, 2, c_watch_windows, [(4, none)]), (113, 19, 1, c_watch_pairsErr, [(2, none)]), (114, 71, 1, c_watch_line, [(2, (some (some 4))), (3, none)]), (127, 25, 1, c_slices_Max_int_int, [(2, none)]), (128, 13, 1, c_watch_countsErr, [(2, none)]), (129, 19, 2, c_slices_IndexFunc_int_int, [(4, none)]), (130, 19, 2, c_slices_IndexFunc_api_Range_api_Range, [(4, none)]), (131, 8, 2, c_watch_odd_1, [(3, none)]), (133, 15, 2, c_watch_divisor, [(4, none)]), (135, 49, 3, c_watch_windows_1, []), (136, 9, 2, c_slices_ContainsFunc_api_WatchPair_api_WatchPair, [(4, none)]), (137, 9, 1, c_watch_pairsErr_1, [(2, none)]), (149, 19, 2, c_slices_IndexFunc_api_WatchPair_api_WatchPair, [(4, none)])]
theorem tabW_ok : ∀ f c, lookC tabW f = some c → cFun Try.prog f = some c := by
  refine lookC_ok ?_
  unfold tabW
  simp only [List.forall_mem_cons]
  exact ⟨f_law08_awake, f_watch_WaysOf, f_watch_ThresholdFor, f_watch_AlarmsIn, f_watch_LostBy, f_watch_CheckRing, f_base_Ints, f_watch_CheckSky, f_base_Lowest, f_watch_CheckRule, f_base_Size, f_watch_FitOf, f_law08_Rule, f_law08_Sky, f_law08_Pairs, f_watch_binsErr, f_watch_from, f_watch_sums, f_watch_first, f_watch_thresholdErr, f_watch_unless, f_watch_within, f_watch_bothErr, f_watch_alarms, f_watch_ringErr, f_watch_freezes, f_slices_ContainsFunc_int_int, f_watch_LostBy_1, f_slices_ContainsFunc_api_Range_api_Range, f_watch_LostBy_2, f_watch_odd, f_watch_lowest, f_base_Gcd, f_watch_windows, f_watch_pairsErr, f_watch_line, f_slices_Max_int_int, f_watch_countsErr, f_slices_IndexFunc_int_int, f_slices_IndexFunc_api_Range_api_Range, f_watch_odd_1, f_watch_divisor, f_watch_windows_1, f_slices_ContainsFunc_api_WatchPair_api_WatchPair, f_watch_pairsErr_1, f_slices_IndexFunc_api_WatchPair_api_WatchPair, fun p hp => by cases hp⟩
theorem awake_run : callN noExt itW (lookC tabW) 100 30 14 [] = some (.bool true) := by kernel_rfl
theorem awake_s : Sound Try.prog 14 [] (.bool true) := callN_sound noExt_ok itW_ok tabW_ok 30 _ _ _ awake_run
end Go.Proofs.Ytaebfjepacnmhaa

/- Contracts of the reference: rules, excesses, alarms. By an AI agent; nothing here is trusted. -/
namespace Go.Proofs.Ytaebfjepacnmhaa
open Go.Av

theorem few_s (l : List Int) : Sound Try.prog 28 [.sl (ints l)] (.bool (decide ((l.length : Int) ≤ 62))) := by
  refine sound_W f_law08_few (Nat.le_of_ble_eq_true rfl) ?_
  simp only [c_law08_few, vcV, vcD, Int.reduceEq, Int.reduceNe, Int.reduceLT, Int.reduceLE, Nat.reduceEqDiff, Nat.reduceAdd, reduceIte, reduceCtorEq, Nat.reduceLT, Nat.reduceLeDiff, eq_self, Option.bind_some, Option.map_some, List.map_cons, List.map_nil, List.length_cons, List.length_nil, Option.getD_some, Option.getD_none, List.all_cons, List.all_nil, List.set_cons_zero, List.set_cons_succ, List.replicate_succ, List.replicate_zero, List.getElem?_cons_zero, List.getElem?_cons_succ, List.drop_succ_cons, List.drop_zero, List.take_succ_cons, List.take_zero, List.map_append, List.nil_append, List.cons_append, Nat.reduceShiftRight, Nat.reduceMod]

theorem take_succ_all {l : List Int} {p : Int → Prop} {i : Nat} (h' : i < l.length) (hn : ∀ x ∈ l.take i, p x) (hx : p l[i]) : ∀ x ∈ l.take (i + 1), p x := by
  rw [List.take_succ_eq_append_getElem h']
  intro x h
  rcases List.mem_append.1 h with h | h
  · exact hn x h
  · simp at h; rw [h]; exact hx

theorem CountsErr_s (l : List Int) (hl : l.length ≤ 1000000000) : Sound Try.prog 30 [.sl (ints l)] (.int .i64 (countsE l)) := by
  refine sound_W f_ref08_CountsErr (Nat.le_of_ble_eq_true rfl) ?_
  unfold countsE
  simp only [c_ref08_CountsErr, vcV, vcD, Int.reduceEq, Int.reduceNe, Int.reduceLT, Int.reduceLE, Nat.reduceEqDiff, Nat.reduceAdd, reduceIte, reduceCtorEq, Nat.reduceLT, Nat.reduceLeDiff, eq_self, Option.bind_some, Option.map_some, List.map_cons, List.map_nil, List.length_cons, List.length_nil, Option.getD_some, Option.getD_none, List.all_cons, List.all_nil, List.set_cons_zero, List.set_cons_succ, List.replicate_succ, List.replicate_zero, List.getElem?_cons_zero, List.getElem?_cons_succ, List.drop_succ_cons, List.drop_zero, List.take_succ_cons, List.take_zero, List.map_append, List.nil_append, List.cons_append, Nat.reduceShiftRight, Nat.reduceMod]
  refine brB_split (fun h => ?_) (fun h => ?_)
  · simp only [vcV, vcD, Int.reduceEq, Int.reduceNe, Int.reduceLT, Int.reduceLE, Nat.reduceEqDiff, Nat.reduceAdd, reduceIte, reduceCtorEq, Nat.reduceLT, Nat.reduceLeDiff, eq_self, Option.bind_some, Option.map_some, List.map_cons, List.map_nil, List.length_cons, List.length_nil, Option.getD_some, Option.getD_none, List.all_cons, List.all_nil, List.set_cons_zero, List.set_cons_succ, List.replicate_succ, List.replicate_zero, List.getElem?_cons_zero, List.getElem?_cons_succ, List.drop_succ_cons, List.drop_zero, List.take_succ_cons, List.take_zero, List.map_append, List.nil_append, List.cons_append, Nat.reduceShiftRight, Nat.reduceMod]
    rw [if_pos (by (simp only [decide_eq_true_eq, decide_eq_false_iff_not, Bool.not_true, I64, Bool.not_eq_true', Bool.not_eq_false', bne_iff_ne, beq_iff_eq, ne_eq] at *; omega))]
  · rw [if_neg (by (simp only [decide_eq_true_eq, decide_eq_false_iff_not, Bool.not_true, I64, Bool.not_eq_true', Bool.not_eq_false', bne_iff_ne, beq_iff_eq, ne_eq] at *; omega))]
    simp only [vcV, vcD, Int.reduceEq, Int.reduceNe, Int.reduceLT, Int.reduceLE, Nat.reduceEqDiff, Nat.reduceAdd, reduceIte, reduceCtorEq, Nat.reduceLT, Nat.reduceLeDiff, eq_self, Option.bind_some, Option.map_some, List.map_cons, List.map_nil, List.length_cons, List.length_nil, Option.getD_some, Option.getD_none, List.all_cons, List.all_nil, List.set_cons_zero, List.set_cons_succ, List.replicate_succ, List.replicate_zero, List.getElem?_cons_zero, List.getElem?_cons_succ, List.drop_succ_cons, List.drop_zero, List.take_succ_cons, List.take_zero, List.map_append, List.nil_append, List.cons_append, Nat.reduceShiftRight, Nat.reduceMod]
    refine W_loop (t := .mk) (α := PSigma fun i : Nat => i ≤ l.length ∧ (∀ x ∈ l.take i, 0 ≤ x ∧ x ≤ 1000000)) (fun ⟨i, _⟩ => ((envOf [(0, .sl (ints l)), (3, .int .i64 i)], noStore))) (fun i => l.length - i.1) ⟨0, Nat.zero_le _, ?_⟩ ?_ (fun ⟨i, hi, hn⟩ => ?_)
    · simp
    · refine weakE _ ?_
      simp only [vcV, vcD, Int.reduceEq, Int.reduceNe, Int.reduceLT, Int.reduceLE, Nat.reduceEqDiff, Nat.reduceAdd, reduceIte, reduceCtorEq, Nat.reduceLT, Nat.reduceLeDiff, eq_self, Option.bind_some, Option.map_some, List.map_cons, List.map_nil, List.length_cons, List.length_nil, Option.getD_some, Option.getD_none, List.all_cons, List.all_nil, List.set_cons_zero, List.set_cons_succ, List.replicate_succ, List.replicate_zero, List.getElem?_cons_zero, List.getElem?_cons_succ, List.drop_succ_cons, List.drop_zero, List.take_succ_cons, List.take_zero, List.map_append, List.nil_append, List.cons_append, Nat.reduceShiftRight, Nat.reduceMod]; rfl
    · simp only [vcV, vcD, Int.reduceEq, Int.reduceNe, Int.reduceLT, Int.reduceLE, Nat.reduceEqDiff, Nat.reduceAdd, reduceIte, reduceCtorEq, Nat.reduceLT, Nat.reduceLeDiff, eq_self, Option.bind_some, Option.map_some, List.map_cons, List.map_nil, List.length_cons, List.length_nil, Option.getD_some, Option.getD_none, List.all_cons, List.all_nil, List.set_cons_zero, List.set_cons_succ, List.replicate_succ, List.replicate_zero, List.getElem?_cons_zero, List.getElem?_cons_succ, List.drop_succ_cons, List.drop_zero, List.take_succ_cons, List.take_zero, List.map_append, List.nil_append, List.cons_append, Nat.reduceShiftRight, Nat.reduceMod]
      refine brB_split (fun h => ?_) (fun h => ?_)
      · have h' : i < l.length := by (simp only [decide_eq_true_eq, decide_eq_false_iff_not, Bool.not_true, I64, Bool.not_eq_true', Bool.not_eq_false', bne_iff_ne, beq_iff_eq, ne_eq] at *; omega)
        simp only [ints_get l i h', vcV, vcD, Int.reduceEq, Int.reduceNe, Int.reduceLT, Int.reduceLE, Nat.reduceEqDiff, Nat.reduceAdd, reduceIte, reduceCtorEq, Nat.reduceLT, Nat.reduceLeDiff, eq_self, Option.bind_some, Option.map_some, List.map_cons, List.map_nil, List.length_cons, List.length_nil, Option.getD_some, Option.getD_none, List.all_cons, List.all_nil, List.set_cons_zero, List.set_cons_succ, List.replicate_succ, List.replicate_zero, List.getElem?_cons_zero, List.getElem?_cons_succ, List.drop_succ_cons, List.drop_zero, List.take_succ_cons, List.take_zero, List.map_append, List.nil_append, List.cons_append, Nat.reduceShiftRight, Nat.reduceMod]
        refine ⟨by omega, ?_⟩
        refine callS_of (Within_s _ _ _) ?_
        simp only [vcV, vcD, Int.reduceEq, Int.reduceNe, Int.reduceLT, Int.reduceLE, Nat.reduceEqDiff, Nat.reduceAdd, reduceIte, reduceCtorEq, Nat.reduceLT, Nat.reduceLeDiff, eq_self, Option.bind_some, Option.map_some, List.map_cons, List.map_nil, List.length_cons, List.length_nil, Option.getD_some, Option.getD_none, List.all_cons, List.all_nil, List.set_cons_zero, List.set_cons_succ, List.replicate_succ, List.replicate_zero, List.getElem?_cons_zero, List.getElem?_cons_succ, List.drop_succ_cons, List.drop_zero, List.take_succ_cons, List.take_zero, List.map_append, List.nil_append, List.cons_append, Nat.reduceShiftRight, Nat.reduceMod]
        refine brB_split (fun h => ?_) (fun h => ?_)
        · simp only [vcV, vcD, Int.reduceEq, Int.reduceNe, Int.reduceLT, Int.reduceLE, Nat.reduceEqDiff, Nat.reduceAdd, reduceIte, reduceCtorEq, Nat.reduceLT, Nat.reduceLeDiff, eq_self, Option.bind_some, Option.map_some, List.map_cons, List.map_nil, List.length_cons, List.length_nil, Option.getD_some, Option.getD_none, List.all_cons, List.all_nil, List.set_cons_zero, List.set_cons_succ, List.replicate_succ, List.replicate_zero, List.getElem?_cons_zero, List.getElem?_cons_succ, List.drop_succ_cons, List.drop_zero, List.take_succ_cons, List.take_zero, List.map_append, List.nil_append, List.cons_append, Nat.reduceShiftRight, Nat.reduceMod]
          rw [if_neg]
          intro hall
          have := List.all_eq_true.1 hall l[i] (List.getElem_mem h')
          simp at this h
          omega
        · simp only [vcV, vcD, Int.reduceEq, Int.reduceNe, Int.reduceLT, Int.reduceLE, Nat.reduceEqDiff, Nat.reduceAdd, reduceIte, reduceCtorEq, Nat.reduceLT, Nat.reduceLeDiff, eq_self, Option.bind_some, Option.map_some, List.map_cons, List.map_nil, List.length_cons, List.length_nil, Option.getD_some, Option.getD_none, List.all_cons, List.all_nil, List.set_cons_zero, List.set_cons_succ, List.replicate_succ, List.replicate_zero, List.getElem?_cons_zero, List.getElem?_cons_succ, List.drop_succ_cons, List.drop_zero, List.take_succ_cons, List.take_zero, List.map_append, List.nil_append, List.cons_append, Nat.reduceShiftRight, Nat.reduceMod]
          refine ⟨by (simp only [decide_eq_true_eq, decide_eq_false_iff_not, Bool.not_true, I64, Bool.not_eq_true', Bool.not_eq_false', bne_iff_ne, beq_iff_eq, ne_eq] at *; omega), ⟨⟨i + 1, by (simp only [decide_eq_true_eq, decide_eq_false_iff_not, Bool.not_true, I64, Bool.not_eq_true', Bool.not_eq_false', bne_iff_ne, beq_iff_eq, ne_eq] at *; omega), ?_⟩, by simp only; (try simp only [decide_eq_true_eq] at *); omega, ?_⟩⟩
          · exact take_succ_all h' hn (by simpa using h)
          · refine weakE _ ?_
            simp only [vcV, vcD, Int.reduceEq, Int.reduceNe, Int.reduceLT, Int.reduceLE, Nat.reduceEqDiff, Nat.reduceAdd, reduceIte, reduceCtorEq, Nat.reduceLT, Nat.reduceLeDiff, eq_self, Option.bind_some, Option.map_some, List.map_cons, List.map_nil, List.length_cons, List.length_nil, Option.getD_some, Option.getD_none, List.all_cons, List.all_nil, List.set_cons_zero, List.set_cons_succ, List.replicate_succ, List.replicate_zero, List.getElem?_cons_zero, List.getElem?_cons_succ, List.drop_succ_cons, List.drop_zero, List.take_succ_cons, List.take_zero, List.map_append, List.nil_append, List.cons_append, Nat.reduceShiftRight, Nat.reduceMod]; simp
      · simp only [vcV, vcD, Int.reduceEq, Int.reduceNe, Int.reduceLT, Int.reduceLE, Nat.reduceEqDiff, Nat.reduceAdd, reduceIte, reduceCtorEq, Nat.reduceLT, Nat.reduceLeDiff, eq_self, Option.bind_some, Option.map_some, List.map_cons, List.map_nil, List.length_cons, List.length_nil, Option.getD_some, Option.getD_none, List.all_cons, List.all_nil, List.set_cons_zero, List.set_cons_succ, List.replicate_succ, List.replicate_zero, List.getElem?_cons_zero, List.getElem?_cons_succ, List.drop_succ_cons, List.drop_zero, List.take_succ_cons, List.take_zero, List.map_append, List.nil_append, List.cons_append, Nat.reduceShiftRight, Nat.reduceMod]
        have : i = l.length := by (simp only [decide_eq_true_eq, decide_eq_false_iff_not, Bool.not_true, I64, Bool.not_eq_true', Bool.not_eq_false', bne_iff_ne, beq_iff_eq, ne_eq] at *; omega)
        subst this
        rw [List.take_length] at hn
        rw [if_pos (List.all_eq_true.2 fun x hx => by simpa using hn x hx)]

end Go.Proofs.Ytaebfjepacnmhaa

/- Contracts: rings, what is frozen. By an AI agent; nothing here is trusted. -/
namespace Go.Proofs.Ytaebfjepacnmhaa
open Go.Av

structure Ring where
  cap : Int
  before : Int
  after : Int
def Ring.av (r : Ring) : AV := .agg [.int .i64 r.cap, .int .i64 r.before, .int .i64 r.after]
def Ring.ok (r : Ring) : Prop := (1 ≤ r.cap ∧ r.cap ≤ 60) ∧ (0 ≤ r.before ∧ r.before ≤ 60) ∧ (0 ≤ r.after ∧ r.after ≤ 60)
instance (r : Ring) : Decidable r.ok := by unfold Ring.ok; exact inferInstance
def ringE (r : Ring) : Int := if r.ok then 0 else 2
theorem ringE_ok {r : Ring} (h : ringE r = 0) : r.ok := by
  unfold ringE at h
  by_cases hr : r.ok
  · exact hr
  · rw [if_neg hr] at h; omega

theorem RingErr_s (r : Ring) : Sound Try.prog 37 [r.av] (.int .i64 (ringE r)) := by
  refine sound_W f_ref08_RingErr (Nat.le_of_ble_eq_true rfl) ?_
  simp only [c_ref08_RingErr, Ring.av, vcV, vcD, Int.reduceEq, Int.reduceNe, Int.reduceLT, Int.reduceLE, Nat.reduceEqDiff, Nat.reduceAdd, reduceIte, reduceCtorEq, Nat.reduceLT, Nat.reduceLeDiff, eq_self, Option.bind_some, Option.map_some, List.map_cons, List.map_nil, List.length_cons, List.length_nil, Option.getD_some, Option.getD_none, List.all_cons, List.all_nil, List.set_cons_zero, List.set_cons_succ, List.replicate_succ, List.replicate_zero, List.getElem?_cons_zero, List.getElem?_cons_succ, List.drop_succ_cons, List.drop_zero, List.take_succ_cons, List.take_zero, List.map_append, List.nil_append, List.cons_append, Nat.reduceShiftRight, Nat.reduceMod]
  refine callS_of (Within_s _ _ _) ?_
  by_cases h1 : 1 ≤ r.cap ∧ r.cap ≤ 60
  case neg =>
    have : ringE r = 2 := if_neg fun h => h1 h.1
    simp only [h1, this, vcV, vcD, Int.reduceEq, Int.reduceNe, Int.reduceLT, Int.reduceLE, Nat.reduceEqDiff, Nat.reduceAdd, reduceIte, reduceCtorEq, Nat.reduceLT, Nat.reduceLeDiff, eq_self, Option.bind_some, Option.map_some, List.map_cons, List.map_nil, List.length_cons, List.length_nil, Option.getD_some, Option.getD_none, List.all_cons, List.all_nil, List.set_cons_zero, List.set_cons_succ, List.replicate_succ, List.replicate_zero, List.getElem?_cons_zero, List.getElem?_cons_succ, List.drop_succ_cons, List.drop_zero, List.take_succ_cons, List.take_zero, List.map_append, List.nil_append, List.cons_append, Nat.reduceShiftRight, Nat.reduceMod]
  simp only [h1, vcV, vcD, Int.reduceEq, Int.reduceNe, Int.reduceLT, Int.reduceLE, Nat.reduceEqDiff, Nat.reduceAdd, reduceIte, reduceCtorEq, Nat.reduceLT, Nat.reduceLeDiff, eq_self, Option.bind_some, Option.map_some, List.map_cons, List.map_nil, List.length_cons, List.length_nil, Option.getD_some, Option.getD_none, List.all_cons, List.all_nil, List.set_cons_zero, List.set_cons_succ, List.replicate_succ, List.replicate_zero, List.getElem?_cons_zero, List.getElem?_cons_succ, List.drop_succ_cons, List.drop_zero, List.take_succ_cons, List.take_zero, List.map_append, List.nil_append, List.cons_append, Nat.reduceShiftRight, Nat.reduceMod]
  refine callS_of (Within_s _ _ _) ?_
  by_cases h2 : 0 ≤ r.before ∧ r.before ≤ 60
  case neg =>
    have : ringE r = 2 := if_neg fun h => h2 h.2.1
    simp only [h2, this, vcV, vcD, Int.reduceEq, Int.reduceNe, Int.reduceLT, Int.reduceLE, Nat.reduceEqDiff, Nat.reduceAdd, reduceIte, reduceCtorEq, Nat.reduceLT, Nat.reduceLeDiff, eq_self, Option.bind_some, Option.map_some, List.map_cons, List.map_nil, List.length_cons, List.length_nil, Option.getD_some, Option.getD_none, List.all_cons, List.all_nil, List.set_cons_zero, List.set_cons_succ, List.replicate_succ, List.replicate_zero, List.getElem?_cons_zero, List.getElem?_cons_succ, List.drop_succ_cons, List.drop_zero, List.take_succ_cons, List.take_zero, List.map_append, List.nil_append, List.cons_append, Nat.reduceShiftRight, Nat.reduceMod]
  simp only [h2, vcV, vcD, Int.reduceEq, Int.reduceNe, Int.reduceLT, Int.reduceLE, Nat.reduceEqDiff, Nat.reduceAdd, reduceIte, reduceCtorEq, Nat.reduceLT, Nat.reduceLeDiff, eq_self, Option.bind_some, Option.map_some, List.map_cons, List.map_nil, List.length_cons, List.length_nil, Option.getD_some, Option.getD_none, List.all_cons, List.all_nil, List.set_cons_zero, List.set_cons_succ, List.replicate_succ, List.replicate_zero, List.getElem?_cons_zero, List.getElem?_cons_succ, List.drop_succ_cons, List.drop_zero, List.take_succ_cons, List.take_zero, List.map_append, List.nil_append, List.cons_append, Nat.reduceShiftRight, Nat.reduceMod]
  refine callS_of (Within_s _ _ _) ?_
  by_cases h3 : 0 ≤ r.after ∧ r.after ≤ 60
  case neg =>
    have : ringE r = 2 := if_neg fun h => h3 h.2.2
    simp only [h3, this, vcV, vcD, Int.reduceEq, Int.reduceNe, Int.reduceLT, Int.reduceLE, Nat.reduceEqDiff, Nat.reduceAdd, reduceIte, reduceCtorEq, Nat.reduceLT, Nat.reduceLeDiff, eq_self, Option.bind_some, Option.map_some, List.map_cons, List.map_nil, List.length_cons, List.length_nil, Option.getD_some, Option.getD_none, List.all_cons, List.all_nil, List.set_cons_zero, List.set_cons_succ, List.replicate_succ, List.replicate_zero, List.getElem?_cons_zero, List.getElem?_cons_succ, List.drop_succ_cons, List.drop_zero, List.take_succ_cons, List.take_zero, List.map_append, List.nil_append, List.cons_append, Nat.reduceShiftRight, Nat.reduceMod]
  have : ringE r = 0 := if_pos ⟨h1, h2, h3⟩
  simp only [h3, this, vcV, vcD, Int.reduceEq, Int.reduceNe, Int.reduceLT, Int.reduceLE, Nat.reduceEqDiff, Nat.reduceAdd, reduceIte, reduceCtorEq, Nat.reduceLT, Nat.reduceLeDiff, eq_self, Option.bind_some, Option.map_some, List.map_cons, List.map_nil, List.length_cons, List.length_nil, Option.getD_some, Option.getD_none, List.all_cons, List.all_nil, List.set_cons_zero, List.set_cons_succ, List.replicate_succ, List.replicate_zero, List.getElem?_cons_zero, List.getElem?_cons_succ, List.drop_succ_cons, List.drop_zero, List.take_succ_cons, List.take_zero, List.map_append, List.nil_append, List.cons_append, Nat.reduceShiftRight, Nat.reduceMod]
theorem CheckRing_s (r : Ring) : Sound Try.prog 38 [r.av] (.int .i64 (ringE r)) := by
  refine sound_W f_watch_CheckRing (Nat.le_of_ble_eq_true rfl) ?_
  simp only [c_watch_CheckRing, Ring.av, vcV, vcD, Int.reduceEq, Int.reduceNe, Int.reduceLT, Int.reduceLE, Nat.reduceEqDiff, Nat.reduceAdd, reduceIte, reduceCtorEq, Nat.reduceLT, Nat.reduceLeDiff, eq_self, Option.bind_some, Option.map_some, List.map_cons, List.map_nil, List.length_cons, List.length_nil, Option.getD_some, Option.getD_none, List.all_cons, List.all_nil, List.set_cons_zero, List.set_cons_succ, List.replicate_succ, List.replicate_zero, List.getElem?_cons_zero, List.getElem?_cons_succ, List.drop_succ_cons, List.drop_zero, List.take_succ_cons, List.take_zero, List.map_append, List.nil_append, List.cons_append, Nat.reduceShiftRight, Nat.reduceMod]
  refine callS_of (within_s _ _ _) ?_
  by_cases h1 : 1 ≤ r.cap ∧ r.cap ≤ 60
  case neg =>
    have : ringE r = 2 := if_neg fun h => h1 h.1
    simp only [h1, vcV, vcD, Int.reduceEq, Int.reduceNe, Int.reduceLT, Int.reduceLE, Nat.reduceEqDiff, Nat.reduceAdd, reduceIte, reduceCtorEq, Nat.reduceLT, Nat.reduceLeDiff, eq_self, Option.bind_some, Option.map_some, List.map_cons, List.map_nil, List.length_cons, List.length_nil, Option.getD_some, Option.getD_none, List.all_cons, List.all_nil, List.set_cons_zero, List.set_cons_succ, List.replicate_succ, List.replicate_zero, List.getElem?_cons_zero, List.getElem?_cons_succ, List.drop_succ_cons, List.drop_zero, List.take_succ_cons, List.take_zero, List.map_append, List.nil_append, List.cons_append, Nat.reduceShiftRight, Nat.reduceMod]
    refine callS_of (unless_s _ _) ?_
    simp only [this, vcV, vcD, Int.reduceEq, Int.reduceNe, Int.reduceLT, Int.reduceLE, Nat.reduceEqDiff, Nat.reduceAdd, reduceIte, reduceCtorEq, Nat.reduceLT, Nat.reduceLeDiff, eq_self, Option.bind_some, Option.map_some, List.map_cons, List.map_nil, List.length_cons, List.length_nil, Option.getD_some, Option.getD_none, List.all_cons, List.all_nil, List.set_cons_zero, List.set_cons_succ, List.replicate_succ, List.replicate_zero, List.getElem?_cons_zero, List.getElem?_cons_succ, List.drop_succ_cons, List.drop_zero, List.take_succ_cons, List.take_zero, List.map_append, List.nil_append, List.cons_append, Nat.reduceShiftRight, Nat.reduceMod]
  simp only [h1, vcV, vcD, Int.reduceEq, Int.reduceNe, Int.reduceLT, Int.reduceLE, Nat.reduceEqDiff, Nat.reduceAdd, reduceIte, reduceCtorEq, Nat.reduceLT, Nat.reduceLeDiff, eq_self, Option.bind_some, Option.map_some, List.map_cons, List.map_nil, List.length_cons, List.length_nil, Option.getD_some, Option.getD_none, List.all_cons, List.all_nil, List.set_cons_zero, List.set_cons_succ, List.replicate_succ, List.replicate_zero, List.getElem?_cons_zero, List.getElem?_cons_succ, List.drop_succ_cons, List.drop_zero, List.take_succ_cons, List.take_zero, List.map_append, List.nil_append, List.cons_append, Nat.reduceShiftRight, Nat.reduceMod]
  refine callS_of (within_s _ _ _) ?_
  by_cases h2 : 0 ≤ r.before ∧ r.before ≤ 60
  case neg =>
    have : ringE r = 2 := if_neg fun h => h2 h.2.1
    simp only [h2, vcV, vcD, Int.reduceEq, Int.reduceNe, Int.reduceLT, Int.reduceLE, Nat.reduceEqDiff, Nat.reduceAdd, reduceIte, reduceCtorEq, Nat.reduceLT, Nat.reduceLeDiff, eq_self, Option.bind_some, Option.map_some, List.map_cons, List.map_nil, List.length_cons, List.length_nil, Option.getD_some, Option.getD_none, List.all_cons, List.all_nil, List.set_cons_zero, List.set_cons_succ, List.replicate_succ, List.replicate_zero, List.getElem?_cons_zero, List.getElem?_cons_succ, List.drop_succ_cons, List.drop_zero, List.take_succ_cons, List.take_zero, List.map_append, List.nil_append, List.cons_append, Nat.reduceShiftRight, Nat.reduceMod]
    refine callS_of (unless_s _ _) ?_
    simp only [this, vcV, vcD, Int.reduceEq, Int.reduceNe, Int.reduceLT, Int.reduceLE, Nat.reduceEqDiff, Nat.reduceAdd, reduceIte, reduceCtorEq, Nat.reduceLT, Nat.reduceLeDiff, eq_self, Option.bind_some, Option.map_some, List.map_cons, List.map_nil, List.length_cons, List.length_nil, Option.getD_some, Option.getD_none, List.all_cons, List.all_nil, List.set_cons_zero, List.set_cons_succ, List.replicate_succ, List.replicate_zero, List.getElem?_cons_zero, List.getElem?_cons_succ, List.drop_succ_cons, List.drop_zero, List.take_succ_cons, List.take_zero, List.map_append, List.nil_append, List.cons_append, Nat.reduceShiftRight, Nat.reduceMod]
  simp only [h2, vcV, vcD, Int.reduceEq, Int.reduceNe, Int.reduceLT, Int.reduceLE, Nat.reduceEqDiff, Nat.reduceAdd, reduceIte, reduceCtorEq, Nat.reduceLT, Nat.reduceLeDiff, eq_self, Option.bind_some, Option.map_some, List.map_cons, List.map_nil, List.length_cons, List.length_nil, Option.getD_some, Option.getD_none, List.all_cons, List.all_nil, List.set_cons_zero, List.set_cons_succ, List.replicate_succ, List.replicate_zero, List.getElem?_cons_zero, List.getElem?_cons_succ, List.drop_succ_cons, List.drop_zero, List.take_succ_cons, List.take_zero, List.map_append, List.nil_append, List.cons_append, Nat.reduceShiftRight, Nat.reduceMod]
  refine callS_of (within_s _ _ _) ?_
  by_cases h3 : 0 ≤ r.after ∧ r.after ≤ 60
  case neg =>
    have : ringE r = 2 := if_neg fun h => h3 h.2.2
    simp only [h3, vcV, vcD, Int.reduceEq, Int.reduceNe, Int.reduceLT, Int.reduceLE, Nat.reduceEqDiff, Nat.reduceAdd, reduceIte, reduceCtorEq, Nat.reduceLT, Nat.reduceLeDiff, eq_self, Option.bind_some, Option.map_some, List.map_cons, List.map_nil, List.length_cons, List.length_nil, Option.getD_some, Option.getD_none, List.all_cons, List.all_nil, List.set_cons_zero, List.set_cons_succ, List.replicate_succ, List.replicate_zero, List.getElem?_cons_zero, List.getElem?_cons_succ, List.drop_succ_cons, List.drop_zero, List.take_succ_cons, List.take_zero, List.map_append, List.nil_append, List.cons_append, Nat.reduceShiftRight, Nat.reduceMod]
    refine callS_of (unless_s _ _) ?_
    simp only [this, vcV, vcD, Int.reduceEq, Int.reduceNe, Int.reduceLT, Int.reduceLE, Nat.reduceEqDiff, Nat.reduceAdd, reduceIte, reduceCtorEq, Nat.reduceLT, Nat.reduceLeDiff, eq_self, Option.bind_some, Option.map_some, List.map_cons, List.map_nil, List.length_cons, List.length_nil, Option.getD_some, Option.getD_none, List.all_cons, List.all_nil, List.set_cons_zero, List.set_cons_succ, List.replicate_succ, List.replicate_zero, List.getElem?_cons_zero, List.getElem?_cons_succ, List.drop_succ_cons, List.drop_zero, List.take_succ_cons, List.take_zero, List.map_append, List.nil_append, List.cons_append, Nat.reduceShiftRight, Nat.reduceMod]
  have : ringE r = 0 := if_pos ⟨h1, h2, h3⟩
  simp only [h3, vcV, vcD, Int.reduceEq, Int.reduceNe, Int.reduceLT, Int.reduceLE, Nat.reduceEqDiff, Nat.reduceAdd, reduceIte, reduceCtorEq, Nat.reduceLT, Nat.reduceLeDiff, eq_self, Option.bind_some, Option.map_some, List.map_cons, List.map_nil, List.length_cons, List.length_nil, Option.getD_some, Option.getD_none, List.all_cons, List.all_nil, List.set_cons_zero, List.set_cons_succ, List.replicate_succ, List.replicate_zero, List.getElem?_cons_zero, List.getElem?_cons_succ, List.drop_succ_cons, List.drop_zero, List.take_succ_cons, List.take_zero, List.map_append, List.nil_append, List.cons_append, Nat.reduceShiftRight, Nat.reduceMod]
  refine callS_of (unless_s _ _) ?_
  simp only [this, vcV, vcD, Int.reduceEq, Int.reduceNe, Int.reduceLT, Int.reduceLE, Nat.reduceEqDiff, Nat.reduceAdd, reduceIte, reduceCtorEq, Nat.reduceLT, Nat.reduceLeDiff, eq_self, Option.bind_some, Option.map_some, List.map_cons, List.map_nil, List.length_cons, List.length_nil, Option.getD_some, Option.getD_none, List.all_cons, List.all_nil, List.set_cons_zero, List.set_cons_succ, List.replicate_succ, List.replicate_zero, List.getElem?_cons_zero, List.getElem?_cons_succ, List.drop_succ_cons, List.drop_zero, List.take_succ_cons, List.take_zero, List.map_append, List.nil_append, List.cons_append, Nat.reduceShiftRight, Nat.reduceMod]

/-- The error of alarms, behind one at 'last'. -/
def alE1 (n last a : Int) : Int := if 0 ≤ a ∧ a ≤ n - 1 then if last < a then 0 else 9 else 6
def alE (n : Int) : Int → List Int → Int
  | _, [] => 0
  | last, a :: l => if alE1 n last a ≠ 0 then alE1 n last a else alE n a l
def prevOf (l : List Int) (last : Int) (i : Nat) : Int := match i with
  | 0 => last
  | i + 1 => l.getD i 0
theorem alE_take : ∀ (n last : Int) (l : List Int) (i : Nat) (h : i < l.length), alE n last (l.take (i + 1)) = if alE n last (l.take i) ≠ 0 then alE n last (l.take i) else alE1 n (prevOf l last i) l[i]
  | n, last, a :: l, 0, h => by
    simp only [List.take_succ_cons, List.take_zero, alE, prevOf, List.getElem_cons_zero]
    by_cases h1 : alE1 n last a = 0 <;> simp [h1]
  | n, last, a :: l, i + 1, h => by
    have ih := alE_take n a l i (by simpa using h)
    have hp : prevOf (a :: l) last (i + 1) = prevOf l a i := by cases i <;> rfl
    rw [List.take_succ_cons, List.take_succ_cons, hp]
    simp only [alE, List.getElem_cons_succ]
    by_cases h1 : alE1 n last a = 0
    · simp only [h1, ne_eq, not_true_eq_false, if_false]; exact ih
    · simp only [h1, ne_eq, not_false_eq_true, if_true]
theorem alE_bad : ∀ (n last : Int) (l : List Int) (i : Nat), alE n last (l.take i) ≠ 0 → alE n last l = alE n last (l.take i)
  | n, last, [], i, h => by simp
  | n, last, a :: l, 0, h => by simp [alE] at h
  | n, last, a :: l, i + 1, h => by
    rw [List.take_succ_cons] at h ⊢
    simp only [alE] at h ⊢
    by_cases h1 : alE1 n last a = 0
    · simp only [h1, ne_eq, not_true_eq_false, if_false] at h ⊢; exact alE_bad n a l i h
    · simp only [h1, ne_eq, not_false_eq_true, if_true]
def alarmsE (n : Int) (l : List Int) : Int := alE n (-1) l

theorem AlarmsErr_s (n : Int) (l : List Int) (hn : 0 ≤ n ∧ n ≤ 1000000000) (hl : l.length ≤ 1000000000) : Sound Try.prog 39 [.int .i64 n, .sl (ints l)] (.int .i64 (alarmsE n l)) := by
  refine sound_W f_ref08_AlarmsErr (Nat.le_of_ble_eq_true rfl) ?_
  simp only [c_ref08_AlarmsErr, vcV, vcD, Int.reduceEq, Int.reduceNe, Int.reduceLT, Int.reduceLE, Nat.reduceEqDiff, Nat.reduceAdd, reduceIte, reduceCtorEq, Nat.reduceLT, Nat.reduceLeDiff, eq_self, Option.bind_some, Option.map_some, List.map_cons, List.map_nil, List.length_cons, List.length_nil, Option.getD_some, Option.getD_none, List.all_cons, List.all_nil, List.set_cons_zero, List.set_cons_succ, List.replicate_succ, List.replicate_zero, List.getElem?_cons_zero, List.getElem?_cons_succ, List.drop_succ_cons, List.drop_zero, List.take_succ_cons, List.take_zero, List.map_append, List.nil_append, List.cons_append, Nat.reduceShiftRight, Nat.reduceMod]
  refine W_loop (t := .mk) (α := PSigma fun i : Nat => i ≤ l.length ∧ (alE n (-1) (l.take i) = 0)) (fun ⟨i, _⟩ => ((envOf [(0, .int .i64 n), (1, .sl (ints l)), (5, .int .i64 i)], stOf []))) (fun i => l.length - i.1) ⟨0, Nat.zero_le _, ?_⟩ ?_ (fun ⟨i, hi, hn⟩ => ?_)
  · rfl
  · refine weakX [] (of_decide_eq_true rfl) (of_decide_eq_true rfl) ?_
    (simp only [vcW, vcV, vcD, Int.reduceEq, Int.reduceNe, Int.reduceLT, Int.reduceLE, Nat.reduceEqDiff, Nat.reduceAdd, reduceIte, reduceCtorEq, Nat.reduceLT, Nat.reduceLeDiff, eq_self, Option.bind_some, Option.map_some, List.map_cons, List.map_nil, List.length_cons, List.length_nil, Option.getD_some, Option.getD_none, List.all_cons, List.all_nil, List.set_cons_zero, List.set_cons_succ, List.replicate_succ, List.replicate_zero, List.getElem?_cons_zero, List.getElem?_cons_succ, List.drop_succ_cons, List.drop_zero, List.take_succ_cons, List.take_zero, List.map_append, List.nil_append, List.cons_append, Nat.reduceShiftRight, Nat.reduceMod])
    (repeat' first | exact trivial | (with_reducible exact RnB.fxB (ints_fxB _)) | (with_reducible rfl) | (with_reducible refine And.intro ?_ ?_) | (with_reducible refine RnB.bb ?_; simp only [vcW, vcV, vcD, Int.reduceEq, Int.reduceNe, Int.reduceLT, Int.reduceLE, Nat.reduceEqDiff, Nat.reduceAdd, reduceIte, reduceCtorEq, Nat.reduceLT, Nat.reduceLeDiff, eq_self, Option.bind_some, Option.map_some, List.map_cons, List.map_nil, List.length_cons, List.length_nil, Option.getD_some, Option.getD_none, List.all_cons, List.all_nil, List.set_cons_zero, List.set_cons_succ, List.replicate_succ, List.replicate_zero, List.getElem?_cons_zero, List.getElem?_cons_succ, List.drop_succ_cons, List.drop_zero, List.take_succ_cons, List.take_zero, List.map_append, List.nil_append, List.cons_append, Nat.reduceShiftRight, Nat.reduceMod]) | (with_reducible refine RnB.nb ?_; simp only [vcW, vcV, vcD, Int.reduceEq, Int.reduceNe, Int.reduceLT, Int.reduceLE, Nat.reduceEqDiff, Nat.reduceAdd, reduceIte, reduceCtorEq, Nat.reduceLT, Nat.reduceLeDiff, eq_self, Option.bind_some, Option.map_some, List.map_cons, List.map_nil, List.length_cons, List.length_nil, Option.getD_some, Option.getD_none, List.all_cons, List.all_nil, List.set_cons_zero, List.set_cons_succ, List.replicate_succ, List.replicate_zero, List.getElem?_cons_zero, List.getElem?_cons_succ, List.drop_succ_cons, List.drop_zero, List.take_succ_cons, List.take_zero, List.map_append, List.nil_append, List.cons_append, Nat.reduceShiftRight, Nat.reduceMod]) | (with_reducible refine RnB.ii ?_) | (with_reducible refine RnB.app ?_) | (with_reducible refine RnB.fxB ?_; simp only [vcW, vcV, vcD, Int.reduceEq, Int.reduceNe, Int.reduceLT, Int.reduceLE, Nat.reduceEqDiff, Nat.reduceAdd, reduceIte, reduceCtorEq, Nat.reduceLT, Nat.reduceLeDiff, eq_self, Option.bind_some, Option.map_some, List.map_cons, List.map_nil, List.length_cons, List.length_nil, Option.getD_some, Option.getD_none, List.all_cons, List.all_nil, List.set_cons_zero, List.set_cons_succ, List.replicate_succ, List.replicate_zero, List.getElem?_cons_zero, List.getElem?_cons_succ, List.drop_succ_cons, List.drop_zero, List.take_succ_cons, List.take_zero, List.map_append, List.nil_append, List.cons_append, Nat.reduceShiftRight, Nat.reduceMod]) | omega)
  · simp only [vcV, vcD, Int.reduceEq, Int.reduceNe, Int.reduceLT, Int.reduceLE, Nat.reduceEqDiff, Nat.reduceAdd, reduceIte, reduceCtorEq, Nat.reduceLT, Nat.reduceLeDiff, eq_self, Option.bind_some, Option.map_some, List.map_cons, List.map_nil, List.length_cons, List.length_nil, Option.getD_some, Option.getD_none, List.all_cons, List.all_nil, List.set_cons_zero, List.set_cons_succ, List.replicate_succ, List.replicate_zero, List.getElem?_cons_zero, List.getElem?_cons_succ, List.drop_succ_cons, List.drop_zero, List.take_succ_cons, List.take_zero, List.map_append, List.nil_append, List.cons_append, Nat.reduceShiftRight, Nat.reduceMod]
    refine brB_split (fun h => ?_) (fun h => ?_)
    · have h' : i < l.length := by (simp only [decide_eq_true_eq, decide_eq_false_iff_not, Bool.not_true, I64, Bool.not_eq_true', Bool.not_eq_false', bne_iff_ne, beq_iff_eq, ne_eq] at *; omega)
      clear h
      have ht := alE_take n (-1) l i h'
      rw [hn] at ht
      simp only [ne_eq, not_true_eq_false, if_false] at ht
      have hb := alE_bad n (-1) l (i + 1)
      rw [ht] at hb
      have hsub : I64 (n - 1) := by unfold I64; omega
      simp only [ints_get l i h', vcV, vcD, Int.reduceEq, Int.reduceNe, Int.reduceLT, Int.reduceLE, Nat.reduceEqDiff, Nat.reduceAdd, reduceIte, reduceCtorEq, Nat.reduceLT, Nat.reduceLeDiff, eq_self, Option.bind_some, Option.map_some, List.map_cons, List.map_nil, List.length_cons, List.length_nil, Option.getD_some, Option.getD_none, List.all_cons, List.all_nil, List.set_cons_zero, List.set_cons_succ, List.replicate_succ, List.replicate_zero, List.getElem?_cons_zero, List.getElem?_cons_succ, List.drop_succ_cons, List.drop_zero, List.take_succ_cons, List.take_zero, List.map_append, List.nil_append, List.cons_append, Nat.reduceShiftRight, Nat.reduceMod]
      (repeat (with_reducible refine And.intro ?_ ?_; focus (first | omega | (unfold I64; omega))))
      refine callS_of (Within_s _ _ _) ?_
      by_cases h1 : 0 ≤ l[i] ∧ l[i] ≤ n - 1
      case neg =>
        have e1 : alE1 n (prevOf l (-1) i) l[i] = 6 := if_neg h1
        have e2 : alarmsE n l = 6 := by unfold alarmsE; rw [hb (by rw [e1]; decide), e1]
        simp only [h1, e2, vcV, vcD, Int.reduceEq, Int.reduceNe, Int.reduceLT, Int.reduceLE, Nat.reduceEqDiff, Nat.reduceAdd, reduceIte, reduceCtorEq, Nat.reduceLT, Nat.reduceLeDiff, eq_self, Option.bind_some, Option.map_some, List.map_cons, List.map_nil, List.length_cons, List.length_nil, Option.getD_some, Option.getD_none, List.all_cons, List.all_nil, List.set_cons_zero, List.set_cons_succ, List.replicate_succ, List.replicate_zero, List.getElem?_cons_zero, List.getElem?_cons_succ, List.drop_succ_cons, List.drop_zero, List.take_succ_cons, List.take_zero, List.map_append, List.nil_append, List.cons_append, Nat.reduceShiftRight, Nat.reduceMod]
      have e1 : alE1 n (prevOf l (-1) i) l[i] = if prevOf l (-1) i < l[i] then 0 else 9 := if_pos h1
      cases i with
      | zero =>
        have e2 : prevOf l (-1) 0 < l[0] := by simp only [prevOf]; omega
        have z0 : ¬ (0 : Int) < ((0 : Nat) : Int) := by omega
        rw [e1, if_pos e2] at ht
        simp only [h1, z0, vcV, vcD, Int.reduceEq, Int.reduceNe, Int.reduceLT, Int.reduceLE, Nat.reduceEqDiff, Nat.reduceAdd, reduceIte, reduceCtorEq, Nat.reduceLT, Nat.reduceLeDiff, eq_self, Option.bind_some, Option.map_some, List.map_cons, List.map_nil, List.length_cons, List.length_nil, Option.getD_some, Option.getD_none, List.all_cons, List.all_nil, List.set_cons_zero, List.set_cons_succ, List.replicate_succ, List.replicate_zero, List.getElem?_cons_zero, List.getElem?_cons_succ, List.drop_succ_cons, List.drop_zero, List.take_succ_cons, List.take_zero, List.map_append, List.nil_append, List.cons_append, Nat.reduceShiftRight, Nat.reduceMod]
        (repeat (with_reducible refine And.intro ?_ ?_; focus (first | omega | (unfold I64; omega))))
        refine ⟨⟨1, h', ht⟩, by simp only; omega, ?_⟩
        refine weakX [] (of_decide_eq_true rfl) (of_decide_eq_true rfl) ?_
        (simp only [vcW, vcV, vcD, Int.reduceEq, Int.reduceNe, Int.reduceLT, Int.reduceLE, Nat.reduceEqDiff, Nat.reduceAdd, reduceIte, reduceCtorEq, Nat.reduceLT, Nat.reduceLeDiff, eq_self, Option.bind_some, Option.map_some, List.map_cons, List.map_nil, List.length_cons, List.length_nil, Option.getD_some, Option.getD_none, List.all_cons, List.all_nil, List.set_cons_zero, List.set_cons_succ, List.replicate_succ, List.replicate_zero, List.getElem?_cons_zero, List.getElem?_cons_succ, List.drop_succ_cons, List.drop_zero, List.take_succ_cons, List.take_zero, List.map_append, List.nil_append, List.cons_append, Nat.reduceShiftRight, Nat.reduceMod])
        (repeat' first | exact trivial | (with_reducible exact RnB.fxB (ints_fxB _)) | (with_reducible rfl) | (with_reducible refine And.intro ?_ ?_) | (with_reducible refine RnB.bb ?_; simp only [vcW, vcV, vcD, Int.reduceEq, Int.reduceNe, Int.reduceLT, Int.reduceLE, Nat.reduceEqDiff, Nat.reduceAdd, reduceIte, reduceCtorEq, Nat.reduceLT, Nat.reduceLeDiff, eq_self, Option.bind_some, Option.map_some, List.map_cons, List.map_nil, List.length_cons, List.length_nil, Option.getD_some, Option.getD_none, List.all_cons, List.all_nil, List.set_cons_zero, List.set_cons_succ, List.replicate_succ, List.replicate_zero, List.getElem?_cons_zero, List.getElem?_cons_succ, List.drop_succ_cons, List.drop_zero, List.take_succ_cons, List.take_zero, List.map_append, List.nil_append, List.cons_append, Nat.reduceShiftRight, Nat.reduceMod]) | (with_reducible refine RnB.nb ?_; simp only [vcW, vcV, vcD, Int.reduceEq, Int.reduceNe, Int.reduceLT, Int.reduceLE, Nat.reduceEqDiff, Nat.reduceAdd, reduceIte, reduceCtorEq, Nat.reduceLT, Nat.reduceLeDiff, eq_self, Option.bind_some, Option.map_some, List.map_cons, List.map_nil, List.length_cons, List.length_nil, Option.getD_some, Option.getD_none, List.all_cons, List.all_nil, List.set_cons_zero, List.set_cons_succ, List.replicate_succ, List.replicate_zero, List.getElem?_cons_zero, List.getElem?_cons_succ, List.drop_succ_cons, List.drop_zero, List.take_succ_cons, List.take_zero, List.map_append, List.nil_append, List.cons_append, Nat.reduceShiftRight, Nat.reduceMod]) | (with_reducible refine RnB.ii ?_) | (with_reducible refine RnB.app ?_) | (with_reducible refine RnB.fxB ?_; simp only [vcW, vcV, vcD, Int.reduceEq, Int.reduceNe, Int.reduceLT, Int.reduceLE, Nat.reduceEqDiff, Nat.reduceAdd, reduceIte, reduceCtorEq, Nat.reduceLT, Nat.reduceLeDiff, eq_self, Option.bind_some, Option.map_some, List.map_cons, List.map_nil, List.length_cons, List.length_nil, Option.getD_some, Option.getD_none, List.all_cons, List.all_nil, List.set_cons_zero, List.set_cons_succ, List.replicate_succ, List.replicate_zero, List.getElem?_cons_zero, List.getElem?_cons_succ, List.drop_succ_cons, List.drop_zero, List.take_succ_cons, List.take_zero, List.map_append, List.nil_append, List.cons_append, Nat.reduceShiftRight, Nat.reduceMod]) | omega)
      | succ i =>
        have e3 : prevOf l (-1) (i + 1) = l[i] := by simp only [prevOf]; simp [List.getD, List.getElem?_eq_getElem (show i < l.length by omega)]
        have z0 : (0 : Int) < ((i + 1 : Nat) : Int) := by omega
        have z1 : ((i + 1 : Nat) : Int) - 1 = (i : Int) := by omega
        rw [e3] at e1
        by_cases h2 : l[i] < l[i + 1]
        · have h2' : ¬ l[i + 1] ≤ l[i] := by omega
          rw [e3, e1, if_pos h2] at ht
          simp only [h1, z0, z1, ints_get l i (show i < l.length by omega), ints_get l (i + 1) h', h2', vcV, vcD, Int.reduceEq, Int.reduceNe, Int.reduceLT, Int.reduceLE, Nat.reduceEqDiff, Nat.reduceAdd, reduceIte, reduceCtorEq, Nat.reduceLT, Nat.reduceLeDiff, eq_self, Option.bind_some, Option.map_some, List.map_cons, List.map_nil, List.length_cons, List.length_nil, Option.getD_some, Option.getD_none, List.all_cons, List.all_nil, List.set_cons_zero, List.set_cons_succ, List.replicate_succ, List.replicate_zero, List.getElem?_cons_zero, List.getElem?_cons_succ, List.drop_succ_cons, List.drop_zero, List.take_succ_cons, List.take_zero, List.map_append, List.nil_append, List.cons_append, Nat.reduceShiftRight, Nat.reduceMod]
          (repeat (with_reducible refine And.intro ?_ ?_; focus (first | omega | (unfold I64; omega))))
          refine ⟨⟨i + 1 + 1, h', ht⟩, by simp only; omega, ?_⟩
          refine weakX [] (of_decide_eq_true rfl) (of_decide_eq_true rfl) ?_
          (simp only [vcW, vcV, vcD, Int.reduceEq, Int.reduceNe, Int.reduceLT, Int.reduceLE, Nat.reduceEqDiff, Nat.reduceAdd, reduceIte, reduceCtorEq, Nat.reduceLT, Nat.reduceLeDiff, eq_self, Option.bind_some, Option.map_some, List.map_cons, List.map_nil, List.length_cons, List.length_nil, Option.getD_some, Option.getD_none, List.all_cons, List.all_nil, List.set_cons_zero, List.set_cons_succ, List.replicate_succ, List.replicate_zero, List.getElem?_cons_zero, List.getElem?_cons_succ, List.drop_succ_cons, List.drop_zero, List.take_succ_cons, List.take_zero, List.map_append, List.nil_append, List.cons_append, Nat.reduceShiftRight, Nat.reduceMod])
          (repeat' first | exact trivial | (with_reducible exact RnB.fxB (ints_fxB _)) | (with_reducible rfl) | (with_reducible refine And.intro ?_ ?_) | (with_reducible refine RnB.bb ?_; simp only [vcW, vcV, vcD, Int.reduceEq, Int.reduceNe, Int.reduceLT, Int.reduceLE, Nat.reduceEqDiff, Nat.reduceAdd, reduceIte, reduceCtorEq, Nat.reduceLT, Nat.reduceLeDiff, eq_self, Option.bind_some, Option.map_some, List.map_cons, List.map_nil, List.length_cons, List.length_nil, Option.getD_some, Option.getD_none, List.all_cons, List.all_nil, List.set_cons_zero, List.set_cons_succ, List.replicate_succ, List.replicate_zero, List.getElem?_cons_zero, List.getElem?_cons_succ, List.drop_succ_cons, List.drop_zero, List.take_succ_cons, List.take_zero, List.map_append, List.nil_append, List.cons_append, Nat.reduceShiftRight, Nat.reduceMod]) | (with_reducible refine RnB.nb ?_; simp only [vcW, vcV, vcD, Int.reduceEq, Int.reduceNe, Int.reduceLT, Int.reduceLE, Nat.reduceEqDiff, Nat.reduceAdd, reduceIte, reduceCtorEq, Nat.reduceLT, Nat.reduceLeDiff, eq_self, Option.bind_some, Option.map_some, List.map_cons, List.map_nil, List.length_cons, List.length_nil, Option.getD_some, Option.getD_none, List.all_cons, List.all_nil, List.set_cons_zero, List.set_cons_succ, List.replicate_succ, List.replicate_zero, List.getElem?_cons_zero, List.getElem?_cons_succ, List.drop_succ_cons, List.drop_zero, List.take_succ_cons, List.take_zero, List.map_append, List.nil_append, List.cons_append, Nat.reduceShiftRight, Nat.reduceMod]) | (with_reducible refine RnB.ii ?_) | (with_reducible refine RnB.app ?_) | (with_reducible refine RnB.fxB ?_; simp only [vcW, vcV, vcD, Int.reduceEq, Int.reduceNe, Int.reduceLT, Int.reduceLE, Nat.reduceEqDiff, Nat.reduceAdd, reduceIte, reduceCtorEq, Nat.reduceLT, Nat.reduceLeDiff, eq_self, Option.bind_some, Option.map_some, List.map_cons, List.map_nil, List.length_cons, List.length_nil, Option.getD_some, Option.getD_none, List.all_cons, List.all_nil, List.set_cons_zero, List.set_cons_succ, List.replicate_succ, List.replicate_zero, List.getElem?_cons_zero, List.getElem?_cons_succ, List.drop_succ_cons, List.drop_zero, List.take_succ_cons, List.take_zero, List.map_append, List.nil_append, List.cons_append, Nat.reduceShiftRight, Nat.reduceMod]) | omega)
        · have h2' : l[i + 1] ≤ l[i] := by omega
          rw [e3, e1, if_neg h2] at hb
          have e2 : alarmsE n l = 9 := hb (by decide)
          simp only [h1, z0, z1, ints_get l i (show i < l.length by omega), ints_get l (i + 1) h', h2', e2, vcV, vcD, Int.reduceEq, Int.reduceNe, Int.reduceLT, Int.reduceLE, Nat.reduceEqDiff, Nat.reduceAdd, reduceIte, reduceCtorEq, Nat.reduceLT, Nat.reduceLeDiff, eq_self, Option.bind_some, Option.map_some, List.map_cons, List.map_nil, List.length_cons, List.length_nil, Option.getD_some, Option.getD_none, List.all_cons, List.all_nil, List.set_cons_zero, List.set_cons_succ, List.replicate_succ, List.replicate_zero, List.getElem?_cons_zero, List.getElem?_cons_succ, List.drop_succ_cons, List.drop_zero, List.take_succ_cons, List.take_zero, List.map_append, List.nil_append, List.cons_append, Nat.reduceShiftRight, Nat.reduceMod]
          (repeat (with_reducible refine And.intro ?_ ?_; focus (first | omega | (unfold I64; omega))))
          omega
    · have : i = l.length := by (simp only [decide_eq_true_eq, decide_eq_false_iff_not, Bool.not_true, I64, Bool.not_eq_true', Bool.not_eq_false', bne_iff_ne, beq_iff_eq, ne_eq] at *; omega)
      cases this
      rw [List.take_length] at hn
      simp only [vcV, vcD, Int.reduceEq, Int.reduceNe, Int.reduceLT, Int.reduceLE, Nat.reduceEqDiff, Nat.reduceAdd, reduceIte, reduceCtorEq, Nat.reduceLT, Nat.reduceLeDiff, eq_self, Option.bind_some, Option.map_some, List.map_cons, List.map_nil, List.length_cons, List.length_nil, Option.getD_some, Option.getD_none, List.all_cons, List.all_nil, List.set_cons_zero, List.set_cons_succ, List.replicate_succ, List.replicate_zero, List.getElem?_cons_zero, List.getElem?_cons_succ, List.drop_succ_cons, List.drop_zero, List.take_succ_cons, List.take_zero, List.map_append, List.nil_append, List.cons_append, Nat.reduceShiftRight, Nat.reduceMod]
      unfold alarmsE
      rw [hn]
end Go.Proofs.Ytaebfjepacnmhaa

/- Contracts: the errors of a ring, its freezes. By an AI agent; nothing here is trusted. -/
namespace Go.Proofs.Ytaebfjepacnmhaa
open Go.Av

def rcE (r : Ring) (l : List Int) : Int := if ringE r ≠ 0 then ringE r else countsE l
def allE (r : Ring) (l al : List Int) : Int := if rcE r l ≠ 0 then rcE r l else alarmsE l.length al
def allTo (r : Ring) (l al : List Int) (i : Nat) : Int := if rcE r l ≠ 0 then rcE r l else alE l.length (-1) (al.take i)
theorem prevOf_succ (l : List Int) (i : Nat) (h : i < l.length) : prevOf l (-1) (i + 1) = l[i] := by simp [prevOf, List.getD, List.getElem?_eq_getElem h]
theorem alE1_eq (n last a : Int) : (if (if decide (0 ≤ a ∧ a ≤ n - 1) = true then (0 : Int) else 6) ≠ 0 then (if decide (0 ≤ a ∧ a ≤ n - 1) = true then (0 : Int) else 6) else (if decide (last < a) = true then (0 : Int) else 9)) = alE1 n last a := by
  unfold alE1
  by_cases h1 : 0 ≤ a ∧ a ≤ n - 1
  · by_cases h2 : last < a <;> simp [h1, h2]
  · simp [h1]
theorem ringErr_s (r : Ring) (l al : List Int) (hl : l.length ≤ 1000000000) (ha : al.length ≤ 1000000000) : Sound Try.prog 97 [r.av, .sl (ints l), .sl (ints al)] (.int .i64 (allE r l al)) := by
  refine sound_W f_watch_ringErr (Nat.le_of_ble_eq_true rfl) ?_
  simp only [c_watch_ringErr, Ring.av, vcV, vcD, Int.reduceEq, Int.reduceNe, Int.reduceLT, Int.reduceLE, Nat.reduceEqDiff, Nat.reduceAdd, reduceIte, reduceCtorEq, Nat.reduceLT, Nat.reduceLeDiff, eq_self, Option.bind_some, Option.map_some, List.map_cons, List.map_nil, List.length_cons, List.length_nil, Option.getD_some, Option.getD_none, List.all_cons, List.all_nil, List.set_cons_zero, List.set_cons_succ, List.replicate_succ, List.replicate_zero, List.getElem?_cons_zero, List.getElem?_cons_succ, List.drop_succ_cons, List.drop_zero, List.take_succ_cons, List.take_zero, List.map_append, List.nil_append, List.cons_append, Nat.reduceShiftRight, Nat.reduceMod]
  refine callS_of (CheckRing_s r) ?_
  simp only [vcV, vcD, Int.reduceEq, Int.reduceNe, Int.reduceLT, Int.reduceLE, Nat.reduceEqDiff, Nat.reduceAdd, reduceIte, reduceCtorEq, Nat.reduceLT, Nat.reduceLeDiff, eq_self, Option.bind_some, Option.map_some, List.map_cons, List.map_nil, List.length_cons, List.length_nil, Option.getD_some, Option.getD_none, List.all_cons, List.all_nil, List.set_cons_zero, List.set_cons_succ, List.replicate_succ, List.replicate_zero, List.getElem?_cons_zero, List.getElem?_cons_succ, List.drop_succ_cons, List.drop_zero, List.take_succ_cons, List.take_zero, List.map_append, List.nil_append, List.cons_append, Nat.reduceShiftRight, Nat.reduceMod]
  refine callS_of (countsErr_s l (by omega)) ?_
  simp only [vcV, vcD, Int.reduceEq, Int.reduceNe, Int.reduceLT, Int.reduceLE, Nat.reduceEqDiff, Nat.reduceAdd, reduceIte, reduceCtorEq, Nat.reduceLT, Nat.reduceLeDiff, eq_self, Option.bind_some, Option.map_some, List.map_cons, List.map_nil, List.length_cons, List.length_nil, Option.getD_some, Option.getD_none, List.all_cons, List.all_nil, List.set_cons_zero, List.set_cons_succ, List.replicate_succ, List.replicate_zero, List.getElem?_cons_zero, List.getElem?_cons_succ, List.drop_succ_cons, List.drop_zero, List.take_succ_cons, List.take_zero, List.map_append, List.nil_append, List.cons_append, Nat.reduceShiftRight, Nat.reduceMod]
  refine callS_of (first2_s _ _) ?_
  rw [show (if ringE r ≠ 0 then ringE r else countsE l) = rcE r l from rfl]
  have h0 : allTo r l al 0 = rcE r l := by unfold allTo alE; by_cases h : rcE r l = 0 <;> simp [h]
  simp only [vcV, vcD, Int.reduceEq, Int.reduceNe, Int.reduceLT, Int.reduceLE, Nat.reduceEqDiff, Nat.reduceAdd, reduceIte, reduceCtorEq, Nat.reduceLT, Nat.reduceLeDiff, eq_self, Option.bind_some, Option.map_some, List.map_cons, List.map_nil, List.length_cons, List.length_nil, Option.getD_some, Option.getD_none, List.all_cons, List.all_nil, List.set_cons_zero, List.set_cons_succ, List.replicate_succ, List.replicate_zero, List.getElem?_cons_zero, List.getElem?_cons_succ, List.drop_succ_cons, List.drop_zero, List.take_succ_cons, List.take_zero, List.map_append, List.nil_append, List.cons_append, Nat.reduceShiftRight, Nat.reduceMod]
  refine W_loop (t := .mk) (α := PSigma fun i : Nat => i ≤ al.length ∧ (True)) (fun ⟨i, _⟩ => ((envOf [(1, .sl (ints l)), (7, .int .i64 (allTo r l al i)), (8, .int .i64 (prevOf al (-1) i)), (17, .sl (ints al)), (18, .int .i64 al.length), (19, .int .i64 i)], stOf []))) (fun i => al.length - i.1) ⟨0, Nat.zero_le _, ?_⟩ ?_ (fun ⟨i, hi, hn⟩ => ?_)
  · trivial
  · refine weakX [] (of_decide_eq_true rfl) (of_decide_eq_true rfl) ?_
    (simp only [h0, show prevOf al (-1) 0 = -1 from rfl, vcW, vcV, vcD, Int.reduceEq, Int.reduceNe, Int.reduceLT, Int.reduceLE, Nat.reduceEqDiff, Nat.reduceAdd, reduceIte, reduceCtorEq, Nat.reduceLT, Nat.reduceLeDiff, eq_self, Option.bind_some, Option.map_some, List.map_cons, List.map_nil, List.length_cons, List.length_nil, Option.getD_some, Option.getD_none, List.all_cons, List.all_nil, List.set_cons_zero, List.set_cons_succ, List.replicate_succ, List.replicate_zero, List.getElem?_cons_zero, List.getElem?_cons_succ, List.drop_succ_cons, List.drop_zero, List.take_succ_cons, List.take_zero, List.map_append, List.nil_append, List.cons_append, Nat.reduceShiftRight, Nat.reduceMod])
    (repeat' first | exact trivial | (with_reducible exact RnB.fxB (ints_fxB _)) | (with_reducible rfl) | (with_reducible refine And.intro ?_ ?_) | (with_reducible refine RnB.bb ?_; simp only [vcW, vcV, vcD, Int.reduceEq, Int.reduceNe, Int.reduceLT, Int.reduceLE, Nat.reduceEqDiff, Nat.reduceAdd, reduceIte, reduceCtorEq, Nat.reduceLT, Nat.reduceLeDiff, eq_self, Option.bind_some, Option.map_some, List.map_cons, List.map_nil, List.length_cons, List.length_nil, Option.getD_some, Option.getD_none, List.all_cons, List.all_nil, List.set_cons_zero, List.set_cons_succ, List.replicate_succ, List.replicate_zero, List.getElem?_cons_zero, List.getElem?_cons_succ, List.drop_succ_cons, List.drop_zero, List.take_succ_cons, List.take_zero, List.map_append, List.nil_append, List.cons_append, Nat.reduceShiftRight, Nat.reduceMod]) | (with_reducible refine RnB.nb ?_; simp only [vcW, vcV, vcD, Int.reduceEq, Int.reduceNe, Int.reduceLT, Int.reduceLE, Nat.reduceEqDiff, Nat.reduceAdd, reduceIte, reduceCtorEq, Nat.reduceLT, Nat.reduceLeDiff, eq_self, Option.bind_some, Option.map_some, List.map_cons, List.map_nil, List.length_cons, List.length_nil, Option.getD_some, Option.getD_none, List.all_cons, List.all_nil, List.set_cons_zero, List.set_cons_succ, List.replicate_succ, List.replicate_zero, List.getElem?_cons_zero, List.getElem?_cons_succ, List.drop_succ_cons, List.drop_zero, List.take_succ_cons, List.take_zero, List.map_append, List.nil_append, List.cons_append, Nat.reduceShiftRight, Nat.reduceMod]) | (with_reducible refine RnB.ii ?_) | (with_reducible refine RnB.app ?_) | (with_reducible refine RnB.fxB ?_; simp only [vcW, vcV, vcD, Int.reduceEq, Int.reduceNe, Int.reduceLT, Int.reduceLE, Nat.reduceEqDiff, Nat.reduceAdd, reduceIte, reduceCtorEq, Nat.reduceLT, Nat.reduceLeDiff, eq_self, Option.bind_some, Option.map_some, List.map_cons, List.map_nil, List.length_cons, List.length_nil, Option.getD_some, Option.getD_none, List.all_cons, List.all_nil, List.set_cons_zero, List.set_cons_succ, List.replicate_succ, List.replicate_zero, List.getElem?_cons_zero, List.getElem?_cons_succ, List.drop_succ_cons, List.drop_zero, List.take_succ_cons, List.take_zero, List.map_append, List.nil_append, List.cons_append, Nat.reduceShiftRight, Nat.reduceMod]) | omega)
  · simp only [vcV, vcD, Int.reduceEq, Int.reduceNe, Int.reduceLT, Int.reduceLE, Nat.reduceEqDiff, Nat.reduceAdd, reduceIte, reduceCtorEq, Nat.reduceLT, Nat.reduceLeDiff, eq_self, Option.bind_some, Option.map_some, List.map_cons, List.map_nil, List.length_cons, List.length_nil, Option.getD_some, Option.getD_none, List.all_cons, List.all_nil, List.set_cons_zero, List.set_cons_succ, List.replicate_succ, List.replicate_zero, List.getElem?_cons_zero, List.getElem?_cons_succ, List.drop_succ_cons, List.drop_zero, List.take_succ_cons, List.take_zero, List.map_append, List.nil_append, List.cons_append, Nat.reduceShiftRight, Nat.reduceMod]
    refine brB_split (fun h => ?_) (fun h => ?_)
    · have h' : i < al.length := by (simp only [decide_eq_true_eq, decide_eq_false_iff_not, Bool.not_true, I64, Bool.not_eq_true', Bool.not_eq_false', bne_iff_ne, beq_iff_eq, ne_eq] at *; omega)
      clear h
      have hp := prevOf_succ al i h'
      have hs : allTo r l al (i + 1) = if allTo r l al i ≠ 0 then allTo r l al i else alE1 l.length (prevOf al (-1) i) al[i] := by
        unfold allTo
        by_cases h0 : rcE r l = 0
        · simp only [h0, ne_eq, not_true_eq_false, if_false]; exact alE_take _ _ _ _ h'
        · simp [h0]
      have he := alE1_eq l.length (prevOf al (-1) i) al[i]
      have hg := ints_get al i h'
      have hI : I64 ((l.length : Int) - 1) := by unfold I64; omega
      generalize al[i] = a at *
      generalize prevOf al (-1) i = pv at *
      simp only [hg, vcV, vcD, Int.reduceEq, Int.reduceNe, Int.reduceLT, Int.reduceLE, Nat.reduceEqDiff, Nat.reduceAdd, reduceIte, reduceCtorEq, Nat.reduceLT, Nat.reduceLeDiff, eq_self, Option.bind_some, Option.map_some, List.map_cons, List.map_nil, List.length_cons, List.length_nil, Option.getD_some, Option.getD_none, List.all_cons, List.all_nil, List.set_cons_zero, List.set_cons_succ, List.replicate_succ, List.replicate_zero, List.getElem?_cons_zero, List.getElem?_cons_succ, List.drop_succ_cons, List.drop_zero, List.take_succ_cons, List.take_zero, List.map_append, List.nil_append, List.cons_append, Nat.reduceShiftRight, Nat.reduceMod]
      (repeat (with_reducible refine And.intro ?_ ?_; focus (first | omega | (unfold I64; omega))))
      refine callS_of (within_s _ _ _) ?_
      simp only [vcV, vcD, Int.reduceEq, Int.reduceNe, Int.reduceLT, Int.reduceLE, Nat.reduceEqDiff, Nat.reduceAdd, reduceIte, reduceCtorEq, Nat.reduceLT, Nat.reduceLeDiff, eq_self, Option.bind_some, Option.map_some, List.map_cons, List.map_nil, List.length_cons, List.length_nil, Option.getD_some, Option.getD_none, List.all_cons, List.all_nil, List.set_cons_zero, List.set_cons_succ, List.replicate_succ, List.replicate_zero, List.getElem?_cons_zero, List.getElem?_cons_succ, List.drop_succ_cons, List.drop_zero, List.take_succ_cons, List.take_zero, List.map_append, List.nil_append, List.cons_append, Nat.reduceShiftRight, Nat.reduceMod]
      refine callS_of (unless_s _ _) ?_
      simp only [vcV, vcD, Int.reduceEq, Int.reduceNe, Int.reduceLT, Int.reduceLE, Nat.reduceEqDiff, Nat.reduceAdd, reduceIte, reduceCtorEq, Nat.reduceLT, Nat.reduceLeDiff, eq_self, Option.bind_some, Option.map_some, List.map_cons, List.map_nil, List.length_cons, List.length_nil, Option.getD_some, Option.getD_none, List.all_cons, List.all_nil, List.set_cons_zero, List.set_cons_succ, List.replicate_succ, List.replicate_zero, List.getElem?_cons_zero, List.getElem?_cons_succ, List.drop_succ_cons, List.drop_zero, List.take_succ_cons, List.take_zero, List.map_append, List.nil_append, List.cons_append, Nat.reduceShiftRight, Nat.reduceMod]
      refine callS_of (unless_s _ _) ?_
      simp only [vcV, vcD, Int.reduceEq, Int.reduceNe, Int.reduceLT, Int.reduceLE, Nat.reduceEqDiff, Nat.reduceAdd, reduceIte, reduceCtorEq, Nat.reduceLT, Nat.reduceLeDiff, eq_self, Option.bind_some, Option.map_some, List.map_cons, List.map_nil, List.length_cons, List.length_nil, Option.getD_some, Option.getD_none, List.all_cons, List.all_nil, List.set_cons_zero, List.set_cons_succ, List.replicate_succ, List.replicate_zero, List.getElem?_cons_zero, List.getElem?_cons_succ, List.drop_succ_cons, List.drop_zero, List.take_succ_cons, List.take_zero, List.map_append, List.nil_append, List.cons_append, Nat.reduceShiftRight, Nat.reduceMod]
      refine callS_of (first3_s _ _ _) ?_
      rw [he]
      simp only [vcV, vcD, Int.reduceEq, Int.reduceNe, Int.reduceLT, Int.reduceLE, Nat.reduceEqDiff, Nat.reduceAdd, reduceIte, reduceCtorEq, Nat.reduceLT, Nat.reduceLeDiff, eq_self, Option.bind_some, Option.map_some, List.map_cons, List.map_nil, List.length_cons, List.length_nil, Option.getD_some, Option.getD_none, List.all_cons, List.all_nil, List.set_cons_zero, List.set_cons_succ, List.replicate_succ, List.replicate_zero, List.getElem?_cons_zero, List.getElem?_cons_succ, List.drop_succ_cons, List.drop_zero, List.take_succ_cons, List.take_zero, List.map_append, List.nil_append, List.cons_append, Nat.reduceShiftRight, Nat.reduceMod]
      (repeat (with_reducible refine And.intro ?_ ?_; focus (first | omega | (unfold I64; omega))))
      refine ⟨⟨i + 1, h', trivial⟩, by simp only; omega, ?_⟩
      refine weakX [] (of_decide_eq_true rfl) (of_decide_eq_true rfl) ?_
      (simp only [hs, hp, vcW, vcV, vcD, Int.reduceEq, Int.reduceNe, Int.reduceLT, Int.reduceLE, Nat.reduceEqDiff, Nat.reduceAdd, reduceIte, reduceCtorEq, Nat.reduceLT, Nat.reduceLeDiff, eq_self, Option.bind_some, Option.map_some, List.map_cons, List.map_nil, List.length_cons, List.length_nil, Option.getD_some, Option.getD_none, List.all_cons, List.all_nil, List.set_cons_zero, List.set_cons_succ, List.replicate_succ, List.replicate_zero, List.getElem?_cons_zero, List.getElem?_cons_succ, List.drop_succ_cons, List.drop_zero, List.take_succ_cons, List.take_zero, List.map_append, List.nil_append, List.cons_append, Nat.reduceShiftRight, Nat.reduceMod])
      (repeat' first | exact trivial | (with_reducible exact RnB.fxB (ints_fxB _)) | (with_reducible rfl) | (with_reducible refine And.intro ?_ ?_) | (with_reducible refine RnB.bb ?_; simp only [vcW, vcV, vcD, Int.reduceEq, Int.reduceNe, Int.reduceLT, Int.reduceLE, Nat.reduceEqDiff, Nat.reduceAdd, reduceIte, reduceCtorEq, Nat.reduceLT, Nat.reduceLeDiff, eq_self, Option.bind_some, Option.map_some, List.map_cons, List.map_nil, List.length_cons, List.length_nil, Option.getD_some, Option.getD_none, List.all_cons, List.all_nil, List.set_cons_zero, List.set_cons_succ, List.replicate_succ, List.replicate_zero, List.getElem?_cons_zero, List.getElem?_cons_succ, List.drop_succ_cons, List.drop_zero, List.take_succ_cons, List.take_zero, List.map_append, List.nil_append, List.cons_append, Nat.reduceShiftRight, Nat.reduceMod]) | (with_reducible refine RnB.nb ?_; simp only [vcW, vcV, vcD, Int.reduceEq, Int.reduceNe, Int.reduceLT, Int.reduceLE, Nat.reduceEqDiff, Nat.reduceAdd, reduceIte, reduceCtorEq, Nat.reduceLT, Nat.reduceLeDiff, eq_self, Option.bind_some, Option.map_some, List.map_cons, List.map_nil, List.length_cons, List.length_nil, Option.getD_some, Option.getD_none, List.all_cons, List.all_nil, List.set_cons_zero, List.set_cons_succ, List.replicate_succ, List.replicate_zero, List.getElem?_cons_zero, List.getElem?_cons_succ, List.drop_succ_cons, List.drop_zero, List.take_succ_cons, List.take_zero, List.map_append, List.nil_append, List.cons_append, Nat.reduceShiftRight, Nat.reduceMod]) | (with_reducible refine RnB.ii ?_) | (with_reducible refine RnB.app ?_) | (with_reducible refine RnB.fxB ?_; simp only [vcW, vcV, vcD, Int.reduceEq, Int.reduceNe, Int.reduceLT, Int.reduceLE, Nat.reduceEqDiff, Nat.reduceAdd, reduceIte, reduceCtorEq, Nat.reduceLT, Nat.reduceLeDiff, eq_self, Option.bind_some, Option.map_some, List.map_cons, List.map_nil, List.length_cons, List.length_nil, Option.getD_some, Option.getD_none, List.all_cons, List.all_nil, List.set_cons_zero, List.set_cons_succ, List.replicate_succ, List.replicate_zero, List.getElem?_cons_zero, List.getElem?_cons_succ, List.drop_succ_cons, List.drop_zero, List.take_succ_cons, List.take_zero, List.map_append, List.nil_append, List.cons_append, Nat.reduceShiftRight, Nat.reduceMod]) | omega)
    · have : i = al.length := by (simp only [decide_eq_true_eq, decide_eq_false_iff_not, Bool.not_true, I64, Bool.not_eq_true', Bool.not_eq_false', bne_iff_ne, beq_iff_eq, ne_eq] at *; omega)
      cases this
      simp only [vcV, vcD, Int.reduceEq, Int.reduceNe, Int.reduceLT, Int.reduceLE, Nat.reduceEqDiff, Nat.reduceAdd, reduceIte, reduceCtorEq, Nat.reduceLT, Nat.reduceLeDiff, eq_self, Option.bind_some, Option.map_some, List.map_cons, List.map_nil, List.length_cons, List.length_nil, Option.getD_some, Option.getD_none, List.all_cons, List.all_nil, List.set_cons_zero, List.set_cons_succ, List.replicate_succ, List.replicate_zero, List.getElem?_cons_zero, List.getElem?_cons_succ, List.drop_succ_cons, List.drop_zero, List.take_succ_cons, List.take_zero, List.map_append, List.nil_append, List.cons_append, Nat.reduceShiftRight, Nat.reduceMod]
      unfold allE allTo alarmsE
      rw [List.take_length]

/-- Where the ring still reaches back to behind an alarm, and how far one goes on. -/
def Ring.lo (r : Ring) (a : Int) : Int := max (max 0 (a - r.before)) (a - r.cap + 1)
def Ring.hi (r : Ring) (n a : Int) : Int := min (n - 1) (a + r.after)
def frz1 (r : Ring) (n : Int) (out : List (Int × Int)) (a : Int) : List (Int × Int) :=
  match out with
  | [] => [(r.lo a, r.hi n a)]
  | p :: out => if r.lo a ≤ p.2 + 1 then (p.1, r.hi n a) :: out else (r.lo a, r.hi n a) :: p :: out
def frzTo (r : Ring) (n : Int) (al : List Int) (i : Nat) : List (Int × Int) := (al.take i).foldl (frz1 r n) []
def frz (r : Ring) (n : Int) (al : List Int) : List (Int × Int) := (frzTo r n al al.length).reverse
theorem frzTo_succ (r : Ring) (n : Int) (al : List Int) (i : Nat) (h : i < al.length) : frzTo r n al (i + 1) = frz1 r n (frzTo r n al i) al[i] := by
  unfold frzTo; rw [List.take_succ_eq_append_getElem h, List.foldl_append]; rfl
theorem frz1_le (r : Ring) (n : Int) (out : List (Int × Int)) (a : Int) : (frz1 r n out a).length ≤ out.length + 1 := by
  unfold frz1
  cases out with
  | nil => simp
  | cons p out => simp only; split <;> simp
theorem frzTo_le (r : Ring) (n : Int) (al : List Int) : ∀ (i : Nat), i ≤ al.length → (frzTo r n al i).length ≤ i
  | 0, _ => by simp [frzTo]
  | i + 1, h => by
    rw [frzTo_succ r n al i h]
    have := frz1_le r n (frzTo r n al i) al[i]
    have := frzTo_le r n al i (by omega)
    omega
def rngA2 (p : Int × Int) : AV := .agg [.int .i64 p.1, .int .i64 p.2]
def rngs (fs : List (Int × Int)) : List AV := fs.map rngA2
theorem rngs_length (fs : List (Int × Int)) : (rngs fs).length = fs.length := by simp [rngs]
theorem rngs_rev (p : Int × Int) (out : List (Int × Int)) : rngs (p :: out).reverse = rngs out.reverse ++ [rngA2 p] := by simp [rngs]
theorem rngs_last (p : Int × Int) (out : List (Int × Int)) : (rngs (p :: out).reverse)[out.length]? = some (rngA2 p) := by
  rw [rngs_rev, List.getElem?_append_right (by rw [rngs_length, List.length_reverse]; exact Nat.le_refl _)]
  simp [rngs_length]
theorem rngs_set (p q : Int × Int) (out : List (Int × Int)) : (rngs (p :: out).reverse).set out.length (rngA2 q) = rngs (q :: out).reverse := by
  rw [rngs_rev, rngs_rev, List.set_append_right _ _ (by rw [rngs_length, List.length_reverse]; exact Nat.le_refl _)]
  simp [rngs_length]
theorem rngs_fxB (fs : List (Int × Int)) : (rngs fs).all Go.Av.fx = true := List.all_eq_true.2 fun x hx => by
  obtain ⟨p, _, rfl⟩ := List.mem_map.1 hx
  rfl
theorem rngs_get (fs : List (Int × Int)) (i : Nat) (h : i < fs.length) : (rngs fs)[i]? = some (rngA2 fs[i]) := by simp [rngs, h]

theorem frz_bd {r : Ring} (hr : r.ok) {n : Int} (hn : 0 ≤ n ∧ n ≤ 60) {al : List Int} (ha : ∀ a ∈ al, 0 ≤ a ∧ a ≤ 60) : ∀ (i : Nat), i ≤ al.length → ∀ p ∈ frzTo r n al i, (0 ≤ p.1 ∧ p.1 ≤ 60) ∧ (-1 ≤ p.2 ∧ p.2 ≤ 60)
  | 0, _ => by simp [frzTo]
  | i + 1, h => by
    intro p hp
    have ih := frz_bd hr hn ha i (by omega)
    have hai := ha _ (List.getElem_mem (show i < al.length from h))
    rw [frzTo_succ r n al i h] at hp
    generalize al[i] = a at *
    generalize frzTo r n al i = out at *
    obtain ⟨hr1, hr2, hr3⟩ := hr
    have hlo : r.lo a = max (max 0 (a - r.before)) (a - r.cap + 1) := rfl
    have hhi : r.hi n a = min (n - 1) (a + r.after) := rfl
    have lb : 0 ≤ r.lo a ∧ r.lo a ≤ 60 := by omega
    have hb : -1 ≤ r.hi n a ∧ r.hi n a ≤ 60 := by omega
    unfold frz1 at hp
    cases out with
    | nil =>
      simp only at hp
      rw [List.mem_singleton.1 hp]
      exact ⟨lb, hb⟩
    | cons q out =>
      simp only at hp
      by_cases hc : r.lo a ≤ q.2 + 1
      · rw [if_pos hc] at hp
        rcases List.mem_cons.1 hp with e | e
        · rw [e]; exact ⟨(ih q List.mem_cons_self).1, hb⟩
        · exact ih p (List.mem_cons_of_mem _ e)
      · rw [if_neg hc] at hp
        rcases List.mem_cons.1 hp with e | e
        · rw [e]; exact ⟨lb, hb⟩
        · exact ih p e

set_option maxHeartbeats 4000000 in
theorem freezes_s (r : Ring) (hr : r.ok) (n : Int) (hn : 0 ≤ n ∧ n ≤ 60) (al : List Int) (ha : ∀ a ∈ al, 0 ≤ a ∧ a ≤ 60) (hal : al.length ≤ 1000) : Sound Try.prog 98 [r.av, .int .i64 n, .sl (ints al)] (.sl (rngs (frz r n al))) := by
  refine sound_W f_watch_freezes (Nat.le_of_ble_eq_true rfl) ?_
  have hn0 := hn
  have hn := hn0
  obtain ⟨hr1, hr2, hr3⟩ := id hr
  have hmax := maxLen_big
  simp only [c_watch_freezes, Ring.av, vcV, vcD, Int.reduceEq, Int.reduceNe, Int.reduceLT, Int.reduceLE, Nat.reduceEqDiff, Nat.reduceAdd, reduceIte, reduceCtorEq, Nat.reduceLT, Nat.reduceLeDiff, eq_self, Option.bind_some, Option.map_some, List.map_cons, List.map_nil, List.length_cons, List.length_nil, Option.getD_some, Option.getD_none, List.all_cons, List.all_nil, List.set_cons_zero, List.set_cons_succ, List.replicate_succ, List.replicate_zero, List.getElem?_cons_zero, List.getElem?_cons_succ, List.drop_succ_cons, List.drop_zero, List.take_succ_cons, List.take_zero, List.map_append, List.nil_append, List.cons_append, Nat.reduceShiftRight, Nat.reduceMod]
  refine W_loop (t := .mk) (α := PSigma fun i : Nat => i ≤ al.length ∧ (True)) (fun ⟨i, _⟩ => ((envOf [(1, .int .i64 n), (3, .ptr 3 0 0), (7, .buf 100 (frzTo r n al i).length), (12, .sl (ints al)), (13, .int .i64 al.length), (14, .int .i64 i)], stOf [(3, ⟨59, 3, [r.av]⟩), (100, ⟨42, 2, rngs (frzTo r n al i).reverse⟩)]))) (fun i => al.length - i.1) ⟨0, Nat.zero_le _, ?_⟩ ?_ (fun ⟨i, hi, hn⟩ => ?_)
  · trivial
  · refine weakX [(100, none)] (of_decide_eq_true rfl) (of_decide_eq_true rfl) ?_
    have hz1 : frzTo r n al 0 = [] := rfl
    have hz2 : rngs (List.reverse []) = [] := rfl
    (simp only [hz1, hz2, Ring.av, vcW, vcV, vcD, Int.reduceEq, Int.reduceNe, Int.reduceLT, Int.reduceLE, Nat.reduceEqDiff, Nat.reduceAdd, reduceIte, reduceCtorEq, Nat.reduceLT, Nat.reduceLeDiff, eq_self, Option.bind_some, Option.map_some, List.map_cons, List.map_nil, List.length_cons, List.length_nil, Option.getD_some, Option.getD_none, List.all_cons, List.all_nil, List.set_cons_zero, List.set_cons_succ, List.replicate_succ, List.replicate_zero, List.getElem?_cons_zero, List.getElem?_cons_succ, List.drop_succ_cons, List.drop_zero, List.take_succ_cons, List.take_zero, List.map_append, List.nil_append, List.cons_append, Nat.reduceShiftRight, Nat.reduceMod])
    (repeat' first | exact trivial | (with_reducible exact RnB.fxB (ints_fxB _)) | (with_reducible rfl) | (with_reducible refine And.intro ?_ ?_) | (with_reducible refine RnB.bb ?_; simp only [vcW, vcV, vcD, Int.reduceEq, Int.reduceNe, Int.reduceLT, Int.reduceLE, Nat.reduceEqDiff, Nat.reduceAdd, reduceIte, reduceCtorEq, Nat.reduceLT, Nat.reduceLeDiff, eq_self, Option.bind_some, Option.map_some, List.map_cons, List.map_nil, List.length_cons, List.length_nil, Option.getD_some, Option.getD_none, List.all_cons, List.all_nil, List.set_cons_zero, List.set_cons_succ, List.replicate_succ, List.replicate_zero, List.getElem?_cons_zero, List.getElem?_cons_succ, List.drop_succ_cons, List.drop_zero, List.take_succ_cons, List.take_zero, List.map_append, List.nil_append, List.cons_append, Nat.reduceShiftRight, Nat.reduceMod]) | (with_reducible refine RnB.nb ?_; simp only [vcW, vcV, vcD, Int.reduceEq, Int.reduceNe, Int.reduceLT, Int.reduceLE, Nat.reduceEqDiff, Nat.reduceAdd, reduceIte, reduceCtorEq, Nat.reduceLT, Nat.reduceLeDiff, eq_self, Option.bind_some, Option.map_some, List.map_cons, List.map_nil, List.length_cons, List.length_nil, Option.getD_some, Option.getD_none, List.all_cons, List.all_nil, List.set_cons_zero, List.set_cons_succ, List.replicate_succ, List.replicate_zero, List.getElem?_cons_zero, List.getElem?_cons_succ, List.drop_succ_cons, List.drop_zero, List.take_succ_cons, List.take_zero, List.map_append, List.nil_append, List.cons_append, Nat.reduceShiftRight, Nat.reduceMod]) | (with_reducible refine RnB.ii ?_) | (with_reducible refine RnB.app ?_) | (with_reducible refine RnB.fxB ?_; simp only [vcW, vcV, vcD, Int.reduceEq, Int.reduceNe, Int.reduceLT, Int.reduceLE, Nat.reduceEqDiff, Nat.reduceAdd, reduceIte, reduceCtorEq, Nat.reduceLT, Nat.reduceLeDiff, eq_self, Option.bind_some, Option.map_some, List.map_cons, List.map_nil, List.length_cons, List.length_nil, Option.getD_some, Option.getD_none, List.all_cons, List.all_nil, List.set_cons_zero, List.set_cons_succ, List.replicate_succ, List.replicate_zero, List.getElem?_cons_zero, List.getElem?_cons_succ, List.drop_succ_cons, List.drop_zero, List.take_succ_cons, List.take_zero, List.map_append, List.nil_append, List.cons_append, Nat.reduceShiftRight, Nat.reduceMod]) | omega)
  · simp only [vcV, vcD, Int.reduceEq, Int.reduceNe, Int.reduceLT, Int.reduceLE, Nat.reduceEqDiff, Nat.reduceAdd, reduceIte, reduceCtorEq, Nat.reduceLT, Nat.reduceLeDiff, eq_self, Option.bind_some, Option.map_some, List.map_cons, List.map_nil, List.length_cons, List.length_nil, Option.getD_some, Option.getD_none, List.all_cons, List.all_nil, List.set_cons_zero, List.set_cons_succ, List.replicate_succ, List.replicate_zero, List.getElem?_cons_zero, List.getElem?_cons_succ, List.drop_succ_cons, List.drop_zero, List.take_succ_cons, List.take_zero, List.map_append, List.nil_append, List.cons_append, Nat.reduceShiftRight, Nat.reduceMod]
    refine brB_split (fun h => ?_) (fun h => ?_)
    · have h' : i < al.length := by (simp only [decide_eq_true_eq, decide_eq_false_iff_not, Bool.not_true, I64, Bool.not_eq_true', Bool.not_eq_false', bne_iff_ne, beq_iff_eq, ne_eq] at *; omega)
      clear h
      have hs := frzTo_succ r n al i h'
      have hle := frzTo_le r n al i hi
      have hg := ints_get al i h'
      have hai := ha _ (List.getElem_mem h')
      have hlo : r.lo al[i] = max (max 0 (al[i] - r.before)) (al[i] - r.cap + 1) := rfl
      have hhi : r.hi n al[i] = min (n - 1) (al[i] + r.after) := rfl
      generalize al[i] = a at *
      generalize hout : frzTo r n al i = out at *
      have lb : -1 ≤ r.lo a ∧ r.lo a ≤ 60 := by omega
      have hb : -1 ≤ r.hi n a ∧ r.hi n a ≤ 60 := by omega
      cases out with
      | nil =>
        have hf : frz1 r n [] a = [(r.lo a, r.hi n a)] := rfl
        rw [hf] at hs
        have hrg : rngs [(r.lo a, r.hi n a)].reverse = [.agg [.int .i64 (r.lo a), .int .i64 (r.hi n a)]] := rfl
        have z0 : ¬ (0 : Int) < ((0 : Nat) : Int) := by omega
        have hz2 : rngs (List.reverse []) = [] := rfl
        simp only [hg, Ring.av, z0, hz2, vcV, vcD, Int.reduceEq, Int.reduceNe, Int.reduceLT, Int.reduceLE, Nat.reduceEqDiff, Nat.reduceAdd, reduceIte, reduceCtorEq, Nat.reduceLT, Nat.reduceLeDiff, eq_self, Option.bind_some, Option.map_some, List.map_cons, List.map_nil, List.length_cons, List.length_nil, Option.getD_some, Option.getD_none, List.all_cons, List.all_nil, List.set_cons_zero, List.set_cons_succ, List.replicate_succ, List.replicate_zero, List.getElem?_cons_zero, List.getElem?_cons_succ, List.drop_succ_cons, List.drop_zero, List.take_succ_cons, List.take_zero, List.map_append, List.nil_append, List.cons_append, Nat.reduceShiftRight, Nat.reduceMod]
        (repeat (with_reducible refine And.intro ?_ ?_; focus (first | omega | (unfold I64; omega))))
        refine ⟨⟨i + 1, h', trivial⟩, by simp only; omega, ?_⟩
        refine weakX [(100, some 62)] (of_decide_eq_true rfl) (of_decide_eq_true rfl) ?_
        (simp only [hs, hrg, Ring.av, ← hlo, ← hhi, vcW, vcV, vcD, Int.reduceEq, Int.reduceNe, Int.reduceLT, Int.reduceLE, Nat.reduceEqDiff, Nat.reduceAdd, reduceIte, reduceCtorEq, Nat.reduceLT, Nat.reduceLeDiff, eq_self, Option.bind_some, Option.map_some, List.map_cons, List.map_nil, List.length_cons, List.length_nil, Option.getD_some, Option.getD_none, List.all_cons, List.all_nil, List.set_cons_zero, List.set_cons_succ, List.replicate_succ, List.replicate_zero, List.getElem?_cons_zero, List.getElem?_cons_succ, List.drop_succ_cons, List.drop_zero, List.take_succ_cons, List.take_zero, List.map_append, List.nil_append, List.cons_append, Nat.reduceShiftRight, Nat.reduceMod])
        (repeat' first | exact trivial | (with_reducible exact RnB.fxB (ints_fxB _)) | (with_reducible rfl) | (with_reducible refine And.intro ?_ ?_) | (with_reducible refine RnB.bb ?_; simp only [vcW, vcV, vcD, Int.reduceEq, Int.reduceNe, Int.reduceLT, Int.reduceLE, Nat.reduceEqDiff, Nat.reduceAdd, reduceIte, reduceCtorEq, Nat.reduceLT, Nat.reduceLeDiff, eq_self, Option.bind_some, Option.map_some, List.map_cons, List.map_nil, List.length_cons, List.length_nil, Option.getD_some, Option.getD_none, List.all_cons, List.all_nil, List.set_cons_zero, List.set_cons_succ, List.replicate_succ, List.replicate_zero, List.getElem?_cons_zero, List.getElem?_cons_succ, List.drop_succ_cons, List.drop_zero, List.take_succ_cons, List.take_zero, List.map_append, List.nil_append, List.cons_append, Nat.reduceShiftRight, Nat.reduceMod]) | (with_reducible refine RnB.nb ?_; simp only [vcW, vcV, vcD, Int.reduceEq, Int.reduceNe, Int.reduceLT, Int.reduceLE, Nat.reduceEqDiff, Nat.reduceAdd, reduceIte, reduceCtorEq, Nat.reduceLT, Nat.reduceLeDiff, eq_self, Option.bind_some, Option.map_some, List.map_cons, List.map_nil, List.length_cons, List.length_nil, Option.getD_some, Option.getD_none, List.all_cons, List.all_nil, List.set_cons_zero, List.set_cons_succ, List.replicate_succ, List.replicate_zero, List.getElem?_cons_zero, List.getElem?_cons_succ, List.drop_succ_cons, List.drop_zero, List.take_succ_cons, List.take_zero, List.map_append, List.nil_append, List.cons_append, Nat.reduceShiftRight, Nat.reduceMod]) | (with_reducible refine RnB.ii ?_) | (with_reducible refine RnB.app ?_) | (with_reducible refine RnB.fxB ?_; simp only [vcW, vcV, vcD, Int.reduceEq, Int.reduceNe, Int.reduceLT, Int.reduceLE, Nat.reduceEqDiff, Nat.reduceAdd, reduceIte, reduceCtorEq, Nat.reduceLT, Nat.reduceLeDiff, eq_self, Option.bind_some, Option.map_some, List.map_cons, List.map_nil, List.length_cons, List.length_nil, Option.getD_some, Option.getD_none, List.all_cons, List.all_nil, List.set_cons_zero, List.set_cons_succ, List.replicate_succ, List.replicate_zero, List.getElem?_cons_zero, List.getElem?_cons_succ, List.drop_succ_cons, List.drop_zero, List.take_succ_cons, List.take_zero, List.map_append, List.nil_append, List.cons_append, Nat.reduceShiftRight, Nat.reduceMod]) | omega)
      | cons p out =>
        have z1 : (0 : Int) < ((out.length + 1 : Nat) : Int) := by omega
        have z2 : ((out.length + 1 : Nat) : Int) - 1 = (out.length : Int) := by omega
        have hlast := rngs_last p out
        rw [show rngA2 p = .agg [.int .i64 p.1, .int .i64 p.2] from rfl] at hlast
        have hll : (rngs (p :: out).reverse).length = out.length + 1 := by rw [rngs_length, List.length_reverse]; rfl
        have hp2 := (frz_bd hr hn0 ha i hi p (by rw [hout]; exact List.mem_cons_self)).2
        have hlen : (p :: out).length = out.length + 1 := rfl
        obtain ⟨es, hes⟩ : ∃ es, es = rngs (p :: out).reverse := ⟨_, rfl⟩
        have hset : ∀ q, (rngs (p :: out).reverse).set out.length (.agg [.int .i64 p.1, .int .i64 q]) = rngs ((p.1, q) :: out).reverse := fun q => rngs_set p (p.1, q) out
        by_cases hc : r.lo a ≤ p.2 + 1
        · have hf : frz1 r n (p :: out) a = (p.1, r.hi n a) :: out := if_pos hc
          rw [hf] at hs
          rw [← hes] at hlast hll hset ⊢
          simp only [hg, Ring.av, z1, z2, ← hlo, ← hhi, hlast, hc, vcV, vcD, Int.reduceEq, Int.reduceNe, Int.reduceLT, Int.reduceLE, Nat.reduceEqDiff, Nat.reduceAdd, reduceIte, reduceCtorEq, Nat.reduceLT, Nat.reduceLeDiff, eq_self, Option.bind_some, Option.map_some, List.map_cons, List.map_nil, List.length_cons, List.length_nil, Option.getD_some, Option.getD_none, List.all_cons, List.all_nil, List.set_cons_zero, List.set_cons_succ, List.replicate_succ, List.replicate_zero, List.getElem?_cons_zero, List.getElem?_cons_succ, List.drop_succ_cons, List.drop_zero, List.take_succ_cons, List.take_zero, List.map_append, List.nil_append, List.cons_append, Nat.reduceShiftRight, Nat.reduceMod]
          (repeat (with_reducible refine And.intro ?_ ?_; focus (first | omega | (unfold I64; omega))))
          refine ⟨⟨i + 1, h', trivial⟩, by simp only; omega, ?_⟩
          refine weakX [] (of_decide_eq_true rfl) (of_decide_eq_true rfl) ?_
          (simp only [hs, Ring.av, ← hlo, ← hhi, vcW, vcV, vcD, Int.reduceEq, Int.reduceNe, Int.reduceLT, Int.reduceLE, Nat.reduceEqDiff, Nat.reduceAdd, reduceIte, reduceCtorEq, Nat.reduceLT, Nat.reduceLeDiff, eq_self, Option.bind_some, Option.map_some, List.map_cons, List.map_nil, List.length_cons, List.length_nil, Option.getD_some, Option.getD_none, List.all_cons, List.all_nil, List.set_cons_zero, List.set_cons_succ, List.replicate_succ, List.replicate_zero, List.getElem?_cons_zero, List.getElem?_cons_succ, List.drop_succ_cons, List.drop_zero, List.take_succ_cons, List.take_zero, List.map_append, List.nil_append, List.cons_append, Nat.reduceShiftRight, Nat.reduceMod])
          (repeat' first | exact trivial | (with_reducible exact RnB.fxB (ints_fxB _)) | (with_reducible rfl) | (with_reducible refine And.intro ?_ ?_) | (with_reducible refine RnB.bb ?_; simp only [vcW, vcV, vcD, Int.reduceEq, Int.reduceNe, Int.reduceLT, Int.reduceLE, Nat.reduceEqDiff, Nat.reduceAdd, reduceIte, reduceCtorEq, Nat.reduceLT, Nat.reduceLeDiff, eq_self, Option.bind_some, Option.map_some, List.map_cons, List.map_nil, List.length_cons, List.length_nil, Option.getD_some, Option.getD_none, List.all_cons, List.all_nil, List.set_cons_zero, List.set_cons_succ, List.replicate_succ, List.replicate_zero, List.getElem?_cons_zero, List.getElem?_cons_succ, List.drop_succ_cons, List.drop_zero, List.take_succ_cons, List.take_zero, List.map_append, List.nil_append, List.cons_append, Nat.reduceShiftRight, Nat.reduceMod]) | (with_reducible refine RnB.nb ?_; simp only [vcW, vcV, vcD, Int.reduceEq, Int.reduceNe, Int.reduceLT, Int.reduceLE, Nat.reduceEqDiff, Nat.reduceAdd, reduceIte, reduceCtorEq, Nat.reduceLT, Nat.reduceLeDiff, eq_self, Option.bind_some, Option.map_some, List.map_cons, List.map_nil, List.length_cons, List.length_nil, Option.getD_some, Option.getD_none, List.all_cons, List.all_nil, List.set_cons_zero, List.set_cons_succ, List.replicate_succ, List.replicate_zero, List.getElem?_cons_zero, List.getElem?_cons_succ, List.drop_succ_cons, List.drop_zero, List.take_succ_cons, List.take_zero, List.map_append, List.nil_append, List.cons_append, Nat.reduceShiftRight, Nat.reduceMod]) | (with_reducible refine RnB.ii ?_) | (with_reducible refine RnB.app ?_) | (with_reducible refine RnB.fxB ?_; simp only [vcW, vcV, vcD, Int.reduceEq, Int.reduceNe, Int.reduceLT, Int.reduceLE, Nat.reduceEqDiff, Nat.reduceAdd, reduceIte, reduceCtorEq, Nat.reduceLT, Nat.reduceLeDiff, eq_self, Option.bind_some, Option.map_some, List.map_cons, List.map_nil, List.length_cons, List.length_nil, Option.getD_some, Option.getD_none, List.all_cons, List.all_nil, List.set_cons_zero, List.set_cons_succ, List.replicate_succ, List.replicate_zero, List.getElem?_cons_zero, List.getElem?_cons_succ, List.drop_succ_cons, List.drop_zero, List.take_succ_cons, List.take_zero, List.map_append, List.nil_append, List.cons_append, Nat.reduceShiftRight, Nat.reduceMod]) | omega)
          exact RnB.eq (hset _) (by rw [hset]; exact rngs_fxB _)
        · have hf : frz1 r n (p :: out) a = (r.lo a, r.hi n a) :: p :: out := if_neg hc
          rw [hf] at hs
          have hrg : rngs (List.reverse ((r.lo a, r.hi n a) :: p :: out)) = rngs (p :: out).reverse ++ [AV.agg [AV.int IntKind.i64 (r.lo a), AV.int IntKind.i64 (r.hi n a)]] := rngs_rev _ _
          rw [← hes] at hlast hll hset hrg ⊢
          simp only [hg, Ring.av, z1, z2, ← hlo, ← hhi, hlast, hc, vcV, vcD, Int.reduceEq, Int.reduceNe, Int.reduceLT, Int.reduceLE, Nat.reduceEqDiff, Nat.reduceAdd, reduceIte, reduceCtorEq, Nat.reduceLT, Nat.reduceLeDiff, eq_self, Option.bind_some, Option.map_some, List.map_cons, List.map_nil, List.length_cons, List.length_nil, Option.getD_some, Option.getD_none, List.all_cons, List.all_nil, List.set_cons_zero, List.set_cons_succ, List.replicate_succ, List.replicate_zero, List.getElem?_cons_zero, List.getElem?_cons_succ, List.drop_succ_cons, List.drop_zero, List.take_succ_cons, List.take_zero, List.map_append, List.nil_append, List.cons_append, Nat.reduceShiftRight, Nat.reduceMod]
          (repeat (with_reducible refine And.intro ?_ ?_; focus (first | omega | (unfold I64; omega))))
          refine ⟨⟨i + 1, h', trivial⟩, by simp only; omega, ?_⟩
          refine weakX [(100, some 62)] (of_decide_eq_true rfl) (of_decide_eq_true rfl) ?_
          (simp only [hs, hrg, Ring.av, ← hlo, ← hhi, vcW, vcV, vcD, Int.reduceEq, Int.reduceNe, Int.reduceLT, Int.reduceLE, Nat.reduceEqDiff, Nat.reduceAdd, reduceIte, reduceCtorEq, Nat.reduceLT, Nat.reduceLeDiff, eq_self, Option.bind_some, Option.map_some, List.map_cons, List.map_nil, List.length_cons, List.length_nil, Option.getD_some, Option.getD_none, List.all_cons, List.all_nil, List.set_cons_zero, List.set_cons_succ, List.replicate_succ, List.replicate_zero, List.getElem?_cons_zero, List.getElem?_cons_succ, List.drop_succ_cons, List.drop_zero, List.take_succ_cons, List.take_zero, List.map_append, List.nil_append, List.cons_append, Nat.reduceShiftRight, Nat.reduceMod])
          (repeat' first | exact trivial | (with_reducible exact RnB.fxB (ints_fxB _)) | (with_reducible rfl) | (with_reducible refine And.intro ?_ ?_) | (with_reducible refine RnB.bb ?_; simp only [vcW, vcV, vcD, Int.reduceEq, Int.reduceNe, Int.reduceLT, Int.reduceLE, Nat.reduceEqDiff, Nat.reduceAdd, reduceIte, reduceCtorEq, Nat.reduceLT, Nat.reduceLeDiff, eq_self, Option.bind_some, Option.map_some, List.map_cons, List.map_nil, List.length_cons, List.length_nil, Option.getD_some, Option.getD_none, List.all_cons, List.all_nil, List.set_cons_zero, List.set_cons_succ, List.replicate_succ, List.replicate_zero, List.getElem?_cons_zero, List.getElem?_cons_succ, List.drop_succ_cons, List.drop_zero, List.take_succ_cons, List.take_zero, List.map_append, List.nil_append, List.cons_append, Nat.reduceShiftRight, Nat.reduceMod]) | (with_reducible refine RnB.nb ?_; simp only [vcW, vcV, vcD, Int.reduceEq, Int.reduceNe, Int.reduceLT, Int.reduceLE, Nat.reduceEqDiff, Nat.reduceAdd, reduceIte, reduceCtorEq, Nat.reduceLT, Nat.reduceLeDiff, eq_self, Option.bind_some, Option.map_some, List.map_cons, List.map_nil, List.length_cons, List.length_nil, Option.getD_some, Option.getD_none, List.all_cons, List.all_nil, List.set_cons_zero, List.set_cons_succ, List.replicate_succ, List.replicate_zero, List.getElem?_cons_zero, List.getElem?_cons_succ, List.drop_succ_cons, List.drop_zero, List.take_succ_cons, List.take_zero, List.map_append, List.nil_append, List.cons_append, Nat.reduceShiftRight, Nat.reduceMod]) | (with_reducible refine RnB.ii ?_) | (with_reducible refine RnB.app ?_) | (with_reducible refine RnB.fxB ?_; simp only [vcW, vcV, vcD, Int.reduceEq, Int.reduceNe, Int.reduceLT, Int.reduceLE, Nat.reduceEqDiff, Nat.reduceAdd, reduceIte, reduceCtorEq, Nat.reduceLT, Nat.reduceLeDiff, eq_self, Option.bind_some, Option.map_some, List.map_cons, List.map_nil, List.length_cons, List.length_nil, Option.getD_some, Option.getD_none, List.all_cons, List.all_nil, List.set_cons_zero, List.set_cons_succ, List.replicate_succ, List.replicate_zero, List.getElem?_cons_zero, List.getElem?_cons_succ, List.drop_succ_cons, List.drop_zero, List.take_succ_cons, List.take_zero, List.map_append, List.nil_append, List.cons_append, Nat.reduceShiftRight, Nat.reduceMod]) | omega)
          exact RnB.fxB (by rw [← hrg]; exact rngs_fxB _)
    · have : i = al.length := by (simp only [decide_eq_true_eq, decide_eq_false_iff_not, Bool.not_true, I64, Bool.not_eq_true', Bool.not_eq_false', bne_iff_ne, beq_iff_eq, ne_eq] at *; omega)
      cases this
      simp only [vcV, vcD, Int.reduceEq, Int.reduceNe, Int.reduceLT, Int.reduceLE, Nat.reduceEqDiff, Nat.reduceAdd, reduceIte, reduceCtorEq, Nat.reduceLT, Nat.reduceLeDiff, eq_self, Option.bind_some, Option.map_some, List.map_cons, List.map_nil, List.length_cons, List.length_nil, Option.getD_some, Option.getD_none, List.all_cons, List.all_nil, List.set_cons_zero, List.set_cons_succ, List.replicate_succ, List.replicate_zero, List.getElem?_cons_zero, List.getElem?_cons_succ, List.drop_succ_cons, List.drop_zero, List.take_succ_cons, List.take_zero, List.map_append, List.nil_append, List.cons_append, Nat.reduceShiftRight, Nat.reduceMod]
      unfold frz
      rw [borB_good _ _ _ _ _ (by rw [rngs_length, List.length_reverse]) (List.all_eq_true.1 (rngs_fxB _))]
end Go.Proofs.Ytaebfjepacnmhaa

/- What freezes are, in plain Lean. By an AI agent; nothing here is trusted. -/
namespace Go.Proofs.Ytaebfjepacnmhaa
open Go.Av

theorem alE_ok : ∀ (n last : Int) (l : List Int), alE n last l = 0 → (∀ a ∈ l, (0 ≤ a ∧ a ≤ n - 1) ∧ last < a) ∧ l.Pairwise (· < ·)
  | n, last, [], _ => by simp
  | n, last, a :: l, h => by
    simp only [alE] at h
    by_cases h1 : alE1 n last a = 0
    · simp only [h1, ne_eq, not_true_eq_false, if_false] at h
      obtain ⟨i1, i2⟩ := alE_ok n a l h
      have ha : (0 ≤ a ∧ a ≤ n - 1) ∧ last < a := by
        unfold alE1 at h1
        by_cases q1 : 0 ≤ a ∧ a ≤ n - 1
        · rw [if_pos q1] at h1
          by_cases q2 : last < a
          · exact ⟨q1, q2⟩
          · rw [if_neg q2] at h1; omega
        · rw [if_neg q1] at h1; omega
      refine ⟨fun x hx => ?_, List.pairwise_cons.2 ⟨fun x hx => (i1 x hx).2, i2⟩⟩
      rcases List.mem_cons.1 hx with e | e
      · rw [e]; exact ha
      · exact ⟨(i1 x e).1, by have := (i1 x e).2; omega⟩
    · simp only [h1, ne_eq, not_false_eq_true, if_true] at h
def alOk (n : Int) (al : List Int) : Prop := (∀ a ∈ al, 0 ≤ a ∧ a ≤ n - 1) ∧ al.Pairwise (· < ·)
theorem alarmsE_ok {n : Int} {al : List Int} (h : alarmsE n al = 0) : alOk n al := by
  obtain ⟨h1, h2⟩ := alE_ok n (-1) al h
  exact ⟨fun a ha => (h1 a ha).1, h2⟩
theorem alOk_len {n : Int} : ∀ {al : List Int}, alOk n al → 0 ≤ n → (al.length : Int) ≤ n := by
  intro al h hn
  -- strictly ascending from 0 on: the k-th is at least k
  have key : ∀ (k : Nat) (hk : k < al.length), (k : Int) ≤ al[k] := by
    intro k
    induction k with
    | zero => intro hk; exact (h.1 _ (List.getElem_mem hk)).1
    | succ k ih =>
      intro hk
      have h1 := ih (by omega)
      have h2 := List.pairwise_iff_getElem.1 h.2 k (k + 1) (by omega) hk (by omega)
      omega
  by_cases h0 : al.length = 0
  · omega
  · have h1 := key (al.length - 1) (by omega)
    have h2 := (h.1 _ (List.getElem_mem (show al.length - 1 < al.length by omega))).2
    omega

def inF (out : List (Int × Int)) (x : Int) : Prop := ∃ p ∈ out, p.1 ≤ x ∧ x ≤ p.2
structure FW (r : Ring) (n : Int) (al : List Int) (i : Nat) (out : List (Int × Int)) : Prop where
  mem : ∀ p ∈ out, 0 ≤ p.1 ∧ p.1 ≤ p.2 ∧ p.2 ≤ n - 1
  sep : out.Pairwise fun p q => q.2 + 1 < p.1
  cov : ∀ x, inF out x ↔ ∃ a ∈ al.take i, r.lo a ≤ x ∧ x ≤ r.hi n a
  top : ∀ (j : Nat) (h : j < al.length), i = j + 1 → ∃ p rest, out = p :: rest ∧ p.2 = r.hi n al[j] ∧ p.1 ≤ r.lo al[j]
  emp : i = 0 → out = []
theorem FW_all {r : Ring} (hr : r.ok) {n : Int} (hn : 0 ≤ n ∧ n ≤ 60) {al : List Int} (ha : alOk n al) : ∀ (i : Nat), i ≤ al.length → FW r n al i (frzTo r n al i)
  | 0, _ => ⟨by simp [frzTo], by simp [frzTo], by simp [frzTo, inF], fun j _ h => by omega, fun _ => rfl⟩
  | i + 1, h => by
    have ih := FW_all hr hn ha i (by omega)
    have hi : i < al.length := h
    have hai := ha.1 _ (List.getElem_mem hi)
    have hpv : ∀ (j : Nat) (hj : j < al.length), i = j + 1 → al[j] < al[i] := fun j hj e => List.pairwise_iff_getElem.1 ha.2 j i hj hi (by omega)
    have htop := ih.top
    have hemp := ih.emp
    have hcov := ih.cov
    have htk : ∀ x, (∃ a ∈ al.take (i + 1), r.lo a ≤ x ∧ x ≤ r.hi n a) ↔ ((∃ a ∈ al.take i, r.lo a ≤ x ∧ x ≤ r.hi n a) ∨ (r.lo al[i] ≤ x ∧ x ≤ r.hi n al[i])) := by
      intro x
      rw [List.take_succ_eq_append_getElem hi]
      constructor
      · rintro ⟨a, ha, hx⟩
        rcases List.mem_append.1 ha with e | e
        · exact .inl ⟨a, e, hx⟩
        · rw [List.mem_singleton.1 e] at hx; exact .inr hx
      · rintro (⟨a, ha, hx⟩ | hx)
        · exact ⟨a, List.mem_append_left _ ha, hx⟩
        · exact ⟨_, List.mem_append_right _ (List.mem_singleton.2 rfl), hx⟩
    have mono : ∀ (j : Nat) (hj : j < al.length), i = j + 1 → r.lo al[j] ≤ r.lo al[i] ∧ r.hi n al[j] ≤ r.hi n al[i] := by
      intro j hj e
      have := hpv j hj e
      unfold Ring.lo Ring.hi
      omega
    obtain ⟨hr1, hr2, hr3⟩ := hr
    have hlo : r.lo al[i] = max (max 0 (al[i] - r.before)) (al[i] - r.cap + 1) := rfl
    have hhi : r.hi n al[i] = min (n - 1) (al[i] + r.after) := rfl
    have own : 0 ≤ r.lo al[i] ∧ r.lo al[i] ≤ r.hi n al[i] ∧ r.hi n al[i] ≤ n - 1 := by omega
    have fin : ∀ out', frzTo r n al (i + 1) = out' → (∀ p ∈ out', 0 ≤ p.1 ∧ p.1 ≤ p.2 ∧ p.2 ≤ n - 1) → (out'.Pairwise fun p q => q.2 + 1 < p.1) →
        (∀ x, inF out' x ↔ (inF (frzTo r n al i) x ∨ (r.lo al[i] ≤ x ∧ x ≤ r.hi n al[i]))) → (∃ p rest, out' = p :: rest ∧ p.2 = r.hi n al[i] ∧ p.1 ≤ r.lo al[i]) → FW r n al (i + 1) (frzTo r n al (i + 1)) := by
      intro out' e h1 h2 h3 h4
      rw [e]
      refine ⟨h1, h2, fun x => by rw [h3, hcov, htk], fun j hj e => ?_, fun e => by omega⟩
      obtain rfl : j = i := by omega
      exact h4
    have hs := frzTo_succ r n al i hi
    cases hout : frzTo r n al i with
    | nil =>
      rw [hout] at hs
      refine fin _ hs ?_ ?_ ?_ ?_
      · intro p hp; rw [List.mem_singleton.1 hp]; exact own
      · exact List.pairwise_singleton _ _
      · intro x; rw [hout]; simp [inF, frz1]
      · exact ⟨_, _, rfl, rfl, Int.le_refl _⟩
    | cons p out =>
      rw [hout] at hs
      have ihm := ih.mem
      have ihs := ih.sep
      rw [hout] at ihm ihs htop hemp
      have hpm := ihm p List.mem_cons_self
      have hi0 : i ≠ 0 := fun e => by have := hemp e; simp at this
      obtain ⟨j, hj⟩ : ∃ j, i = j + 1 := ⟨i - 1, by omega⟩
      obtain ⟨p', rest, e, t1, t2⟩ := htop j (by omega) hj
      injection e with e1 e2
      subst e1; subst e2
      obtain ⟨m1, m2⟩ := mono j (by omega) hj
      obtain ⟨s1, s2⟩ := List.pairwise_cons.1 ihs
      by_cases hc : r.lo al[i] ≤ p.2 + 1
      · have hf : frz1 r n (p :: out) al[i] = (p.1, r.hi n al[i]) :: out := if_pos hc
        rw [hf] at hs
        refine fin _ hs ?_ ?_ ?_ ?_
        · intro q hq
          rcases List.mem_cons.1 hq with e | e
          · rw [e]; simp only; omega
          · exact ihm q (List.mem_cons_of_mem _ e)
        · exact List.pairwise_cons.2 ⟨fun q hq => s1 q hq, s2⟩
        · intro x
          rw [hout]
          constructor
          · rintro ⟨q, hq, hx⟩
            rcases List.mem_cons.1 hq with e | e
            · rw [e] at hx
              simp only at hx
              by_cases hx2 : x ≤ p.2
              · exact .inl ⟨p, List.mem_cons_self, hx.1, hx2⟩
              · exact .inr ⟨by omega, hx.2⟩
            · exact .inl ⟨q, List.mem_cons_of_mem _ e, hx⟩
          · rintro (⟨q, hq, hx⟩ | hx)
            · rcases List.mem_cons.1 hq with e | e
              · rw [e] at hx
                exact ⟨_, List.mem_cons_self, hx.1, by simp only; omega⟩
              · exact ⟨q, List.mem_cons_of_mem _ e, hx⟩
            · exact ⟨_, List.mem_cons_self, by simp only; omega, hx.2⟩
        · exact ⟨_, _, rfl, rfl, by simp only; omega⟩
      · have hf : frz1 r n (p :: out) al[i] = (r.lo al[i], r.hi n al[i]) :: p :: out := if_neg hc
        rw [hf] at hs
        refine fin _ hs ?_ ?_ ?_ ?_
        · intro q hq
          rcases List.mem_cons.1 hq with e | e
          · rw [e]; exact own
          · exact ihm q e
        · refine List.pairwise_cons.2 ⟨fun q hq => ?_, ihs⟩
          rcases List.mem_cons.1 hq with e | e
          · rw [e]; simp only; omega
          · have := s1 q e; simp only; omega
        · intro x
          rw [hout]
          constructor
          · rintro ⟨q, hq, hx⟩
            rcases List.mem_cons.1 hq with e | e
            · rw [e] at hx; exact .inr hx
            · exact .inl ⟨q, e, hx⟩
          · rintro (⟨q, hq, hx⟩ | hx)
            · exact ⟨q, List.mem_cons_of_mem _ hq, hx⟩
            · exact ⟨_, List.mem_cons_self, hx⟩
        · exact ⟨_, _, rfl, rfl, Int.le_refl _⟩

/-- What is kept, bin by bin. -/
def keptP (r : Ring) (n : Int) (al : List Int) (x : Int) : Prop := ∃ a ∈ al, r.lo a ≤ x ∧ x ≤ r.hi n a
instance (r : Ring) (n : Int) (al : List Int) (x : Int) : Decidable (keptP r n al x) := by unfold keptP; exact inferInstance
theorem frz_cov {r : Ring} (hr : r.ok) {n : Int} (hn : 0 ≤ n ∧ n ≤ 60) {al : List Int} (ha : alOk n al) (x : Int) : (∃ p ∈ frz r n al, p.1 ≤ x ∧ x ≤ p.2) ↔ keptP r n al x := by
  have h := (FW_all hr hn ha al.length (Nat.le_refl _)).cov x
  rw [List.take_length] at h
  unfold frz
  constructor
  · rintro ⟨p, hp, hx⟩; exact h.1 ⟨p, List.mem_reverse.1 hp, hx⟩
  · intro hx
    obtain ⟨p, hp, hx⟩ := h.2 hx
    exact ⟨p, List.mem_reverse.2 hp, hx⟩
theorem frz_mem {r : Ring} (hr : r.ok) {n : Int} (hn : 0 ≤ n ∧ n ≤ 60) {al : List Int} (ha : alOk n al) : ∀ p ∈ frz r n al, 0 ≤ p.1 ∧ p.1 ≤ p.2 ∧ p.2 ≤ n - 1 :=
  fun p hp => (FW_all hr hn ha al.length (Nat.le_refl _)).mem p (List.mem_reverse.1 hp)
theorem frz_sep {r : Ring} (hr : r.ok) {n : Int} (hn : 0 ≤ n ∧ n ≤ 60) {al : List Int} (ha : alOk n al) : (frz r n al).Pairwise fun p q => p.2 + 1 < q.1 := by
  unfold frz
  rw [List.pairwise_reverse]
  exact (FW_all hr hn ha al.length (Nat.le_refl _)).sep
theorem frz_len {r : Ring} {n : Int} {al : List Int} : (frz r n al).length ≤ al.length := by
  unfold frz
  rw [List.length_reverse]
  exact frzTo_le r n al al.length (Nat.le_refl _)
end Go.Proofs.Ytaebfjepacnmhaa

/- Contracts off the library's shelf: slices.Clone. By an AI agent; nothing here is trusted. -/
namespace Go.Proofs.Ytaebfjepacnmhaa
open Go.Av
open Go.RowKit (Below)

def cloneRen : Go.Shelf.Ren := ⟨fun x => match x with | 15 => 99 | n => n, fun x => match x with | 22 => 36 | 3 => 3 | 4 => 4 | n => n, fun x => x⟩
set_option maxRecDepth 100000 in
theorem cloneFn : Try.prog.funcs[cloneRen.f 15]? = some (Go.Proofs.Body2.n15 cloneRen) := by kernel_rfl
theorem cloneLay : Go.Proofs.Lays2.n15 Try.prog cloneRen :=
  { mixed := by kernel_rfl, f15 := cloneFn,
    t3 := Try.underlying3, a3 := Try.isAgg3, z3 := Try.sizeOf3, v3 := Try.zeroValue3, t4 := Try.underlying4,
    a4 := Try.isAgg4, z4 := Try.sizeOf4, v4 := Try.zeroValue4, t22 := Try.underlying36, a22 := Try.isAgg36,
    z22 := Try.sizeOf36, v22 := Try.zeroValue36, i3 := by kernel_rfl }

theorem ints_at {l : List Int} {i : Nat} {x : AV} (h : (ints l)[i]? = some x) : ∃ hi : i < l.length, x = .int .i64 l[i] := by
  have hi : i < l.length := by
    have := (List.getElem?_eq_some_iff.1 h).1
    rw [ints_length] at this; exact this
  rw [ints_get l i hi] at h
  exact ⟨hi, by injection h with h; exact h.symm⟩
theorem own_sl {w' : World} {B : Nat} {e : TypeId} {v : Value} {l : List Int} {ok : Nat → Prop} (h : w'.ownsRow B e 1 v l.length (l.map (Value.int .i64))) :
    VR w'.heap (fun b => ok b ∨ (B ≤ b ∧ b < w'.heap.size)) noPlace noStore (.sl (ints l)) v := by
  obtain ⟨_, h⟩ := h
  rcases h with ⟨rfl, hn⟩ | ⟨g, cap, cur, rfl, hg, hb, hn, hcap, hcur, hx⟩
  · have : l = [] := List.eq_nil_of_length_eq_zero hn
    subst this
    exact .sl0 none 0
  · have hlen : (ints l).length = l.length := ints_length l
    rw [← hlen] at hn ⊢
    refine .sl (ints l) g 0 1 cap cur e (0, 0) (fun i _ => .int .i64 (l.getD i 0)) (.inr ⟨hg, (Array.getElem?_eq_some_iff.1 hb).1⟩) hn hb ?_ ?_ ?_
    · intro i x hi
      obtain ⟨_, rfl⟩ := ints_at hi
      exact ⟨rfl, fun c hc => by rw [List.mem_singleton.1 hc]; rfl, rfl⟩
    · intro i x o c hi ho
      obtain ⟨hil, rfl⟩ := ints_at hi
      have h0 : o = 0 := by
        cases o with
        | zero => rfl
        | succ o => simp [cellsOf] at ho
      subst h0
      have h1 : (cur.toList.take (l.length * 1))[i]? = (l.map (Value.int .i64))[i]? := by rw [hx]
      rw [List.getElem?_take, if_pos (by omega), Array.getElem?_toList, List.getElem?_map, List.getElem?_eq_getElem hil] at h1
      show cur[0 + i * 1 + 0]? = some (.int .i64 (l.getD i 0))
      rw [show 0 + i * 1 + 0 = i by omega, h1]
      simp [List.getD, List.getElem?_eq_getElem hil]
    · intro i x o c hi ho
      obtain ⟨hil, rfl⟩ := ints_at hi
      cases o with
      | zero =>
        simp [cellsOf] at ho
        subst ho
        show VR _ _ _ _ _ (.int .i64 (l.getD i 0))
        rw [show l.getD i 0 = l[i] by simp [List.getD, List.getElem?_eq_getElem hil]]
        exact .int _ _
      | succ o => simp [cellsOf] at ho

theorem Clone_s (l : List Int) (hl : l.length ≤ 1000000000) : Sound Try.prog 99 [.sl (ints l)] (.sl (ints l)) := by
  intro w ok cargs hok hlen hargs
  have h0 := hargs 0 _ rfl
  have hc1 : cargs = #[cargs.getD 0 undef] := by
    apply Array.ext
    · simpa using hlen
    · intro i h1 h2
      simp at h2
      subst h2
      simp [Array.getD, h1]
  rw [hc1]
  generalize cargs.getD 0 undef = v at h0
  have hin : ∀ v, (callFunc 99 #[v]).run Try.prog w = .ok (.enter 99 #[v]) w := fun v =>
    Go.Av.callFunc_enter Try.func99 (by kernel_rfl) rfl #[v]
  cases l with
  | nil =>
    have h1 : VR w.heap ok noPlace noStore (.sl []) v := h0
    show CallsF _ _ _ _ fun cv w' => Below w.heap.size w w' ∧ VR w'.heap (fun b => ok b ∨ (w.heap.size ≤ b ∧ b < w'.heap.size)) noPlace noStore (.sl (ints [])) cv
    cases h1 with
    | sl0 a cap =>
      cases a with
      | none =>
        refine .inr ⟨hin _, (Any.slices_Clone_int_nil cloneLay 0 cap w).mono fun e w' ⟨he, hw⟩ => ⟨_, he, ?_, ?_⟩⟩
        · rw [hw]; exact Below.refl _ _
        · exact .sl0 none 0
      | some a =>
        refine .inr ⟨hin _, (Any.slices_Clone_int_zero cloneLay a cap w).mono fun e w' ⟨v', he, ho, _, hB⟩ => ⟨v', he, hB, ?_⟩⟩
        exact own_sl (l := []) ho
    | sl _ b off s cap cur ty fr vals hok' hcap hb hs hc hv =>
      refine .inr ⟨hin _, (Any.slices_Clone_int_zero cloneLay ⟨b, off, none⟩ cap w).mono fun e w' ⟨v', he, ho, _, hB⟩ => ⟨v', he, hB, ?_⟩⟩
      exact own_sl (l := []) ho
  | cons x r =>
    have hpos : 0 < (x :: r).length := by simp
    generalize x :: r = l at *
    generalize hes : ints l = es at h0
    cases h0 with
    | sl0 a cap => rw [← ints_length, hes] at hpos; simp at hpos
    | sl _ b off s cap cur ty fr vals hok' hcap hb hs hc hv =>
      subst hes
      have hs1 : s = 1 := (hs 0 _ (ints_get l 0 hpos)).1.symm
      subst hs1
      have hcell : ∀ j, j < l.length → w.cell? ⟨b, off + j, none⟩ = some (.int .i64 (l.getD j 0)) := by
        intro j hj
        have h1 := hc j _ 0 _ (ints_get l j hj) rfl
        have h2 := hv j _ 0 _ (ints_get l j hj) rfl
        generalize vals j 0 = u at h1 h2
        cases h2
        rw [show off + j * 1 + 0 = off + j by omega] at h1
        simp [World.cell?, hb, h1, List.getD, List.getElem?_eq_getElem hj]
      have hlen : (ints l).length = l.length := ints_length l
      rw [hlen]
      refine .inr ⟨hin _, (Any.slices_Clone_int cloneLay b off l.length cap l w (Nat.le_refl _) (by omega) hcell).mono fun e w' ⟨v', he, ho, _, hB⟩ => ⟨v', he, hB, ?_⟩⟩
      rw [List.take_length] at ho
      exact own_sl ho
end Go.Proofs.Ytaebfjepacnmhaa

/- Contracts: what a ring keeps, what it loses. By an AI agent; nothing here is trusted. -/
namespace Go.Proofs.Ytaebfjepacnmhaa
open Go.Av

theorem allE_ok {r : Ring} {l al : List Int} (h : allE r l al = 0) : r.ok ∧ countsE l = 0 ∧ alOk l.length al := by
  unfold allE rcE at h
  by_cases h1 : ringE r = 0
  · by_cases h2 : countsE l = 0
    · simp only [h1, h2, ne_eq, not_true_eq_false, if_false] at h
      exact ⟨ringE_ok h1, h2, alarmsE_ok h⟩
    · simp only [h1, h2, ne_eq, not_true_eq_false, if_false, not_false_eq_true, if_true] at h
  · simp only [h1, ne_eq, not_false_eq_true, if_true] at h
def cutL (l : List Int) (p : Int × Int) : List Int := (l.take (p.2 + 1).toNat).drop p.1.toNat
def frzA (l : List Int) (p : Int × Int) : AV := .agg [.int .i64 p.1, .int .i64 p.2, .sl (ints (cutL l p))]
def frzsA (l : List Int) (fs : List (Int × Int)) : List AV := fs.map (frzA l)
theorem frzsA_length (l : List Int) (fs : List (Int × Int)) : (frzsA l fs).length = fs.length := by simp [frzsA]
theorem frzsA_fxB (l : List Int) (fs : List (Int × Int)) : (frzsA l fs).all Go.Av.fx = true := List.all_eq_true.2 fun x hx => by
  obtain ⟨p, _, rfl⟩ := List.mem_map.1 hx
  rfl
theorem frzsA_succ (l : List Int) (fs : List (Int × Int)) (i : Nat) (h : i < fs.length) : frzsA l (fs.take (i + 1)) = frzsA l (fs.take i) ++ [frzA l fs[i]] := by
  unfold frzsA; rw [List.take_succ_eq_append_getElem h, List.map_append]; rfl
theorem ints_cut (l : List Int) (a b : Nat) : ((ints l).take b).drop a = ints ((l.take b).drop a) := by simp [ints, List.map_take, List.map_drop]
theorem cellsOf_ints {l : List Int} : ∀ x ∈ ints l, (cellsOf x).length = 1 := fun x hx => by
  obtain ⟨n, _, rfl⟩ := List.mem_map.1 hx
  rfl

theorem tk_slice (g : Option (Nat × Bool)) (d : Option Nat) (b : Bool) (sz : Nat) (x lo hi : MX) (e : Env) : tkM ⟨g, d, .slice b sz x (some lo) (some hi)⟩ e = some (refs1 (x.ev e) ++ (refs1 (lo.ev e) ++ refs1 (hi.ev e))) := by simp [tkM, tk, pureOp, xsOf, allocs]
set_option maxHeartbeats 4000000 in
theorem KeptBy_s (r : Ring) (l al : List Int) (hl : l.length ≤ 1000000000) (ha : al.length ≤ 1000000000) : Sound Try.prog 35 [r.av, .sl (ints l), .sl (ints al)]
    (.tup [.sl (if allE r l al = 0 then frzsA l (frz r l.length al) else []), .int .i64 (allE r l al)]) := by
  refine sound_W f_watch_KeptBy (Nat.le_of_ble_eq_true rfl) ?_
  simp only [c_watch_KeptBy, Ring.av, vcV, vcD, Int.reduceEq, Int.reduceNe, Int.reduceLT, Int.reduceLE, Nat.reduceEqDiff, Nat.reduceAdd, reduceIte, reduceCtorEq, Nat.reduceLT, Nat.reduceLeDiff, eq_self, Option.bind_some, Option.map_some, List.map_cons, List.map_nil, List.length_cons, List.length_nil, Option.getD_some, Option.getD_none, List.all_cons, List.all_nil, List.set_cons_zero, List.set_cons_succ, List.replicate_succ, List.replicate_zero, List.getElem?_cons_zero, List.getElem?_cons_succ, List.drop_succ_cons, List.drop_zero, List.take_succ_cons, List.take_zero, List.map_append, List.nil_append, List.cons_append, Nat.reduceShiftRight, Nat.reduceMod]
  refine callS_of (ringErr_s r l al hl ha) ?_
  by_cases hE : allE r l al = 0
  case neg => simp only [hE, vcV, vcD, Int.reduceEq, Int.reduceNe, Int.reduceLT, Int.reduceLE, Nat.reduceEqDiff, Nat.reduceAdd, reduceIte, reduceCtorEq, Nat.reduceLT, Nat.reduceLeDiff, eq_self, Option.bind_some, Option.map_some, List.map_cons, List.map_nil, List.length_cons, List.length_nil, Option.getD_some, Option.getD_none, List.all_cons, List.all_nil, List.set_cons_zero, List.set_cons_succ, List.replicate_succ, List.replicate_zero, List.getElem?_cons_zero, List.getElem?_cons_succ, List.drop_succ_cons, List.drop_zero, List.take_succ_cons, List.take_zero, List.map_append, List.nil_append, List.cons_append, Nat.reduceShiftRight, Nat.reduceMod]
  obtain ⟨hr, hc, hao⟩ := allE_ok hE
  have hl60 := (countsE_ok hc).1
  have hn : 0 ≤ (l.length : Int) ∧ (l.length : Int) ≤ 60 := by omega
  have hal := alOk_len hao hn.1
  have hfz := freezes_s r hr l.length hn al (fun a h => by have := hao.1 a h; omega) (by omega)
  have hfm := frz_mem hr hn hao
  have hfl := frz_len (r := r) (n := l.length) (al := al)
  generalize frz r l.length al = fs at *
  have hmax := maxLen_big
  simp only [hE, vcV, vcD, Int.reduceEq, Int.reduceNe, Int.reduceLT, Int.reduceLE, Nat.reduceEqDiff, Nat.reduceAdd, reduceIte, reduceCtorEq, Nat.reduceLT, Nat.reduceLeDiff, eq_self, Option.bind_some, Option.map_some, List.map_cons, List.map_nil, List.length_cons, List.length_nil, Option.getD_some, Option.getD_none, List.all_cons, List.all_nil, List.set_cons_zero, List.set_cons_succ, List.replicate_succ, List.replicate_zero, List.getElem?_cons_zero, List.getElem?_cons_succ, List.drop_succ_cons, List.drop_zero, List.take_succ_cons, List.take_zero, List.map_append, List.nil_append, List.cons_append, Nat.reduceShiftRight, Nat.reduceMod]
  refine callS_of hfz ?_
  simp only [rngs_length, vcV, vcD, Int.reduceEq, Int.reduceNe, Int.reduceLT, Int.reduceLE, Nat.reduceEqDiff, Nat.reduceAdd, reduceIte, reduceCtorEq, Nat.reduceLT, Nat.reduceLeDiff, eq_self, Option.bind_some, Option.map_some, List.map_cons, List.map_nil, List.length_cons, List.length_nil, Option.getD_some, Option.getD_none, List.all_cons, List.all_nil, List.set_cons_zero, List.set_cons_succ, List.replicate_succ, List.replicate_zero, List.getElem?_cons_zero, List.getElem?_cons_succ, List.drop_succ_cons, List.drop_zero, List.take_succ_cons, List.take_zero, List.map_append, List.nil_append, List.cons_append, Nat.reduceShiftRight, Nat.reduceMod]
  have hz : frzsA l [] = [] := rfl
  refine W_loop (t := .mk) (α := PSigma fun i : Nat => i ≤ fs.length ∧ (True)) (fun ⟨i, _⟩ => ((envOf [(1, .sl (ints l)), (9, .buf 100 i), (23, .sl (rngs fs)), (24, .int .i64 fs.length), (25, .int .i64 i)], stOf [(100, ⟨74, 3, frzsA l (fs.take i)⟩)]))) (fun i => fs.length - i.1) ⟨0, Nat.zero_le _, ?_⟩ ?_ (fun ⟨i, hi, hn⟩ => ?_)
  · trivial
  · refine weakX [(100, none)] (of_decide_eq_true rfl) (of_decide_eq_true rfl) ?_
    (simp only [hz, vcW, vcV, vcD, Int.reduceEq, Int.reduceNe, Int.reduceLT, Int.reduceLE, Nat.reduceEqDiff, Nat.reduceAdd, reduceIte, reduceCtorEq, Nat.reduceLT, Nat.reduceLeDiff, eq_self, Option.bind_some, Option.map_some, List.map_cons, List.map_nil, List.length_cons, List.length_nil, Option.getD_some, Option.getD_none, List.all_cons, List.all_nil, List.set_cons_zero, List.set_cons_succ, List.replicate_succ, List.replicate_zero, List.getElem?_cons_zero, List.getElem?_cons_succ, List.drop_succ_cons, List.drop_zero, List.take_succ_cons, List.take_zero, List.map_append, List.nil_append, List.cons_append, Nat.reduceShiftRight, Nat.reduceMod])
    (repeat' first | exact trivial | (with_reducible exact RnB.fxB (ints_fxB _)) | (with_reducible rfl) | (with_reducible refine And.intro ?_ ?_) | (with_reducible refine RnB.bb ?_; simp only [vcW, vcV, vcD, Int.reduceEq, Int.reduceNe, Int.reduceLT, Int.reduceLE, Nat.reduceEqDiff, Nat.reduceAdd, reduceIte, reduceCtorEq, Nat.reduceLT, Nat.reduceLeDiff, eq_self, Option.bind_some, Option.map_some, List.map_cons, List.map_nil, List.length_cons, List.length_nil, Option.getD_some, Option.getD_none, List.all_cons, List.all_nil, List.set_cons_zero, List.set_cons_succ, List.replicate_succ, List.replicate_zero, List.getElem?_cons_zero, List.getElem?_cons_succ, List.drop_succ_cons, List.drop_zero, List.take_succ_cons, List.take_zero, List.map_append, List.nil_append, List.cons_append, Nat.reduceShiftRight, Nat.reduceMod]) | (with_reducible refine RnB.nb ?_; simp only [vcW, vcV, vcD, Int.reduceEq, Int.reduceNe, Int.reduceLT, Int.reduceLE, Nat.reduceEqDiff, Nat.reduceAdd, reduceIte, reduceCtorEq, Nat.reduceLT, Nat.reduceLeDiff, eq_self, Option.bind_some, Option.map_some, List.map_cons, List.map_nil, List.length_cons, List.length_nil, Option.getD_some, Option.getD_none, List.all_cons, List.all_nil, List.set_cons_zero, List.set_cons_succ, List.replicate_succ, List.replicate_zero, List.getElem?_cons_zero, List.getElem?_cons_succ, List.drop_succ_cons, List.drop_zero, List.take_succ_cons, List.take_zero, List.map_append, List.nil_append, List.cons_append, Nat.reduceShiftRight, Nat.reduceMod]) | (with_reducible refine RnB.ii ?_) | (with_reducible refine RnB.app ?_) | (with_reducible refine RnB.fxB ?_; simp only [vcW, vcV, vcD, Int.reduceEq, Int.reduceNe, Int.reduceLT, Int.reduceLE, Nat.reduceEqDiff, Nat.reduceAdd, reduceIte, reduceCtorEq, Nat.reduceLT, Nat.reduceLeDiff, eq_self, Option.bind_some, Option.map_some, List.map_cons, List.map_nil, List.length_cons, List.length_nil, Option.getD_some, Option.getD_none, List.all_cons, List.all_nil, List.set_cons_zero, List.set_cons_succ, List.replicate_succ, List.replicate_zero, List.getElem?_cons_zero, List.getElem?_cons_succ, List.drop_succ_cons, List.drop_zero, List.take_succ_cons, List.take_zero, List.map_append, List.nil_append, List.cons_append, Nat.reduceShiftRight, Nat.reduceMod]) | omega)
  · simp only [vcV, vcD, Int.reduceEq, Int.reduceNe, Int.reduceLT, Int.reduceLE, Nat.reduceEqDiff, Nat.reduceAdd, reduceIte, reduceCtorEq, Nat.reduceLT, Nat.reduceLeDiff, eq_self, Option.bind_some, Option.map_some, List.map_cons, List.map_nil, List.length_cons, List.length_nil, Option.getD_some, Option.getD_none, List.all_cons, List.all_nil, List.set_cons_zero, List.set_cons_succ, List.replicate_succ, List.replicate_zero, List.getElem?_cons_zero, List.getElem?_cons_succ, List.drop_succ_cons, List.drop_zero, List.take_succ_cons, List.take_zero, List.map_append, List.nil_append, List.cons_append, Nat.reduceShiftRight, Nat.reduceMod]
    refine brB_split (fun h => ?_) (fun h => ?_)
    · have h' : i < fs.length := by (simp only [decide_eq_true_eq, decide_eq_false_iff_not, Bool.not_true, I64, Bool.not_eq_true', Bool.not_eq_false', bne_iff_ne, beq_iff_eq, ne_eq] at *; omega)
      clear h
      have hg := rngs_get fs i h'
      have hm := hfm _ (List.getElem_mem h')
      have hsu := frzsA_succ l fs i h'
      have hll : (frzsA l (fs.take i)).length = i := by rw [frzsA_length, List.length_take]; omega
      have hfa : frzA l fs[i] = .agg [.int .i64 fs[i].1, .int .i64 fs[i].2, .sl (ints (cutL l fs[i]))] := rfl
      have hra : rngA2 fs[i] = .agg [.int .i64 fs[i].1, .int .i64 fs[i].2] := rfl
      have hcut : ((ints l).take (fs[i].2 + 1).toNat).drop fs[i].1.toNat = ints (cutL l fs[i]) := ints_cut l _ _
      have hcl : (cutL l fs[i]).length ≤ 1000000000 := by unfold cutL; rw [List.length_drop, List.length_take]; omega
      have hI : I64 (fs[i].2 + 1) := by unfold I64; omega
      rw [hra] at hg
      rw [hfa] at hsu
      generalize fs[i] = p at *
      generalize cutL l p = cs at *
      generalize frzsA l (fs.take i) = es at *
      simp only [hg, vcV, vcD, Int.reduceEq, Int.reduceNe, Int.reduceLT, Int.reduceLE, Nat.reduceEqDiff, Nat.reduceAdd, reduceIte, reduceCtorEq, Nat.reduceLT, Nat.reduceLeDiff, eq_self, Option.bind_some, Option.map_some, List.map_cons, List.map_nil, List.length_cons, List.length_nil, Option.getD_some, Option.getD_none, List.all_cons, List.all_nil, List.set_cons_zero, List.set_cons_succ, List.replicate_succ, List.replicate_zero, List.getElem?_cons_zero, List.getElem?_cons_succ, List.drop_succ_cons, List.drop_zero, List.take_succ_cons, List.take_zero, List.map_append, List.nil_append, List.cons_append, Nat.reduceShiftRight, Nat.reduceMod]
      (repeat (with_reducible refine And.intro ?_ ?_; focus (first | omega | (unfold I64; omega))))
      refine ⟨⟨by omega, by omega, by omega, cellsOf_ints⟩, ?_⟩
      rw [hcut]
      refine callS_of (Clone_s cs hcl) ?_
      simp only [hll, tk_slice, vcV, vcD, Int.reduceEq, Int.reduceNe, Int.reduceLT, Int.reduceLE, Nat.reduceEqDiff, Nat.reduceAdd, reduceIte, reduceCtorEq, Nat.reduceLT, Nat.reduceLeDiff, eq_self, Option.bind_some, Option.map_some, List.map_cons, List.map_nil, List.length_cons, List.length_nil, Option.getD_some, Option.getD_none, List.all_cons, List.all_nil, List.set_cons_zero, List.set_cons_succ, List.replicate_succ, List.replicate_zero, List.getElem?_cons_zero, List.getElem?_cons_succ, List.drop_succ_cons, List.drop_zero, List.take_succ_cons, List.take_zero, List.map_append, List.nil_append, List.cons_append, Nat.reduceShiftRight, Nat.reduceMod]
      (repeat (with_reducible refine And.intro ?_ ?_; focus (first | omega | (unfold I64; omega))))
      refine ⟨⟨i + 1, h', trivial⟩, by simp only; omega, ?_⟩
      refine weakX [(100, some 41)] (of_decide_eq_true rfl) (of_decide_eq_true rfl) ?_
      (simp only [hsu, vcW, vcV, vcD, Int.reduceEq, Int.reduceNe, Int.reduceLT, Int.reduceLE, Nat.reduceEqDiff, Nat.reduceAdd, reduceIte, reduceCtorEq, Nat.reduceLT, Nat.reduceLeDiff, eq_self, Option.bind_some, Option.map_some, List.map_cons, List.map_nil, List.length_cons, List.length_nil, Option.getD_some, Option.getD_none, List.all_cons, List.all_nil, List.set_cons_zero, List.set_cons_succ, List.replicate_succ, List.replicate_zero, List.getElem?_cons_zero, List.getElem?_cons_succ, List.drop_succ_cons, List.drop_zero, List.take_succ_cons, List.take_zero, List.map_append, List.nil_append, List.cons_append, Nat.reduceShiftRight, Nat.reduceMod])
      (repeat' first | exact trivial | (with_reducible exact RnB.fxB (ints_fxB _)) | (with_reducible rfl) | (with_reducible refine And.intro ?_ ?_) | (with_reducible refine RnB.bb ?_; simp only [vcW, vcV, vcD, Int.reduceEq, Int.reduceNe, Int.reduceLT, Int.reduceLE, Nat.reduceEqDiff, Nat.reduceAdd, reduceIte, reduceCtorEq, Nat.reduceLT, Nat.reduceLeDiff, eq_self, Option.bind_some, Option.map_some, List.map_cons, List.map_nil, List.length_cons, List.length_nil, Option.getD_some, Option.getD_none, List.all_cons, List.all_nil, List.set_cons_zero, List.set_cons_succ, List.replicate_succ, List.replicate_zero, List.getElem?_cons_zero, List.getElem?_cons_succ, List.drop_succ_cons, List.drop_zero, List.take_succ_cons, List.take_zero, List.map_append, List.nil_append, List.cons_append, Nat.reduceShiftRight, Nat.reduceMod]) | (with_reducible refine RnB.nb ?_; simp only [vcW, vcV, vcD, Int.reduceEq, Int.reduceNe, Int.reduceLT, Int.reduceLE, Nat.reduceEqDiff, Nat.reduceAdd, reduceIte, reduceCtorEq, Nat.reduceLT, Nat.reduceLeDiff, eq_self, Option.bind_some, Option.map_some, List.map_cons, List.map_nil, List.length_cons, List.length_nil, Option.getD_some, Option.getD_none, List.all_cons, List.all_nil, List.set_cons_zero, List.set_cons_succ, List.replicate_succ, List.replicate_zero, List.getElem?_cons_zero, List.getElem?_cons_succ, List.drop_succ_cons, List.drop_zero, List.take_succ_cons, List.take_zero, List.map_append, List.nil_append, List.cons_append, Nat.reduceShiftRight, Nat.reduceMod]) | (with_reducible refine RnB.ii ?_) | (with_reducible refine RnB.app ?_) | (with_reducible refine RnB.fxB ?_; simp only [vcW, vcV, vcD, Int.reduceEq, Int.reduceNe, Int.reduceLT, Int.reduceLE, Nat.reduceEqDiff, Nat.reduceAdd, reduceIte, reduceCtorEq, Nat.reduceLT, Nat.reduceLeDiff, eq_self, Option.bind_some, Option.map_some, List.map_cons, List.map_nil, List.length_cons, List.length_nil, Option.getD_some, Option.getD_none, List.all_cons, List.all_nil, List.set_cons_zero, List.set_cons_succ, List.replicate_succ, List.replicate_zero, List.getElem?_cons_zero, List.getElem?_cons_succ, List.drop_succ_cons, List.drop_zero, List.take_succ_cons, List.take_zero, List.map_append, List.nil_append, List.cons_append, Nat.reduceShiftRight, Nat.reduceMod]) | omega)
      exact RnB.fxB (by rw [← hsu]; exact frzsA_fxB _ _)
    · have : i = fs.length := by (simp only [decide_eq_true_eq, decide_eq_false_iff_not, Bool.not_true, I64, Bool.not_eq_true', Bool.not_eq_false', bne_iff_ne, beq_iff_eq, ne_eq] at *; omega)
      cases this
      simp only [hE, vcV, vcD, Int.reduceEq, Int.reduceNe, Int.reduceLT, Int.reduceLE, Nat.reduceEqDiff, Nat.reduceAdd, reduceIte, reduceCtorEq, Nat.reduceLT, Nat.reduceLeDiff, eq_self, Option.bind_some, Option.map_some, List.map_cons, List.map_nil, List.length_cons, List.length_nil, Option.getD_some, Option.getD_none, List.all_cons, List.all_nil, List.set_cons_zero, List.set_cons_succ, List.replicate_succ, List.replicate_zero, List.getElem?_cons_zero, List.getElem?_cons_succ, List.drop_succ_cons, List.drop_zero, List.take_succ_cons, List.take_zero, List.map_append, List.nil_append, List.cons_append, Nat.reduceShiftRight, Nat.reduceMod]
      rw [List.take_length]
      rw [borB_good _ _ _ _ _ (by rw [frzsA_length]) (List.all_eq_true.1 (frzsA_fxB _ _))]

theorem LostBy_1_s (r : Ring) (a b : Int) (h : I64 (a - r.before)) : Sound Try.prog 101 [.int .i64 a, .eptr (.int .i64 b) 0, .eptr r.av 0] (.bool (decide (a - r.before ≤ b ∧ b ≤ a))) := by
  refine sound_W f_watch_LostBy_1 (Nat.le_of_ble_eq_true rfl) ?_
  simp only [c_watch_LostBy_1, Ring.av, vcV, vcD, Int.reduceEq, Int.reduceNe, Int.reduceLT, Int.reduceLE, Nat.reduceEqDiff, Nat.reduceAdd, reduceIte, reduceCtorEq, Nat.reduceLT, Nat.reduceLeDiff, eq_self, Option.bind_some, Option.map_some, List.map_cons, List.map_nil, List.length_cons, List.length_nil, Option.getD_some, Option.getD_none, List.all_cons, List.all_nil, List.set_cons_zero, List.set_cons_succ, List.replicate_succ, List.replicate_zero, List.getElem?_cons_zero, List.getElem?_cons_succ, List.drop_succ_cons, List.drop_zero, List.take_succ_cons, List.take_zero, List.map_append, List.nil_append, List.cons_append, Nat.reduceShiftRight, Nat.reduceMod]
  (repeat (with_reducible refine And.intro ?_ ?_; focus (first | omega | (unfold I64; omega))))
  refine callS_of (within_s _ _ _) ?_
  simp only [vcV, vcD, Int.reduceEq, Int.reduceNe, Int.reduceLT, Int.reduceLE, Nat.reduceEqDiff, Nat.reduceAdd, reduceIte, reduceCtorEq, Nat.reduceLT, Nat.reduceLeDiff, eq_self, Option.bind_some, Option.map_some, List.map_cons, List.map_nil, List.length_cons, List.length_nil, Option.getD_some, Option.getD_none, List.all_cons, List.all_nil, List.set_cons_zero, List.set_cons_succ, List.replicate_succ, List.replicate_zero, List.getElem?_cons_zero, List.getElem?_cons_succ, List.drop_succ_cons, List.drop_zero, List.take_succ_cons, List.take_zero, List.map_append, List.nil_append, List.cons_append, Nat.reduceShiftRight, Nat.reduceMod]
theorem LostBy_2_s (p : Int × Int) (b : Int) : Sound Try.prog 103 [rngA2 p, .eptr (.int .i64 b) 0] (.bool (decide (p.1 ≤ b ∧ b ≤ p.2))) := by
  refine sound_W f_watch_LostBy_2 (Nat.le_of_ble_eq_true rfl) ?_
  simp only [c_watch_LostBy_2, rngA2, vcV, vcD, Int.reduceEq, Int.reduceNe, Int.reduceLT, Int.reduceLE, Nat.reduceEqDiff, Nat.reduceAdd, reduceIte, reduceCtorEq, Nat.reduceLT, Nat.reduceLeDiff, eq_self, Option.bind_some, Option.map_some, List.map_cons, List.map_nil, List.length_cons, List.length_nil, Option.getD_some, Option.getD_none, List.all_cons, List.all_nil, List.set_cons_zero, List.set_cons_succ, List.replicate_succ, List.replicate_zero, List.getElem?_cons_zero, List.getElem?_cons_succ, List.drop_succ_cons, List.drop_zero, List.take_succ_cons, List.take_zero, List.map_append, List.nil_append, List.cons_append, Nat.reduceShiftRight, Nat.reduceMod]
  refine callS_of (within_s _ _ _) ?_
  simp only [vcV, vcD, Int.reduceEq, Int.reduceNe, Int.reduceLT, Int.reduceLE, Nat.reduceEqDiff, Nat.reduceAdd, reduceIte, reduceCtorEq, Nat.reduceLT, Nat.reduceLeDiff, eq_self, Option.bind_some, Option.map_some, List.map_cons, List.map_nil, List.length_cons, List.length_nil, Option.getD_some, Option.getD_none, List.all_cons, List.all_nil, List.set_cons_zero, List.set_cons_succ, List.replicate_succ, List.replicate_zero, List.getElem?_cons_zero, List.getElem?_cons_succ, List.drop_succ_cons, List.drop_zero, List.take_succ_cons, List.take_zero, List.map_append, List.nil_append, List.cons_append, Nat.reduceShiftRight, Nat.reduceMod]

theorem fx1_immL : ∀ {caps : List AV}, (∀ c ∈ caps, fx1 c = true) → immL caps = true
  | [], _ => rfl
  | c :: r, h => by
    have ih := fx1_immL (caps := r) fun x hx => h x (List.mem_cons_of_mem _ hx)
    have h0 := h c List.mem_cons_self
    cases c <;> simp [fx1] at h0 <;> simp [immL, ih]
theorem idxFunc_rng_s (l : List (Int × Int)) (f : FuncId) (caps : List AV) (p : Int × Int → Bool) (hl : l.length < 4000000000000000000) (hc : ∀ c ∈ caps, fx1 c = true)
    (hp : ∀ x ∈ l, Sound Try.prog f (rngA2 x :: caps) (.bool (p x))) : Sound Try.prog 130 [.sl (rngs l), .fn f caps] (.int .i64 (idxOf l p)) := by
  refine sound_W f_slices_IndexFunc_api_Range_api_Range (Nat.le_of_ble_eq_true rfl) ?_
  simp only [c_slices_IndexFunc_api_Range_api_Range, rngs_length, vcV, vcD, Int.reduceEq, Int.reduceNe, Int.reduceLT, Int.reduceLE, Nat.reduceEqDiff, Nat.reduceAdd, reduceIte, reduceCtorEq, Nat.reduceLT, Nat.reduceLeDiff, eq_self, Option.bind_some, Option.map_some, List.map_cons, List.map_nil, List.length_cons, List.length_nil, Option.getD_some, Option.getD_none, List.all_cons, List.all_nil, List.set_cons_zero, List.set_cons_succ, List.replicate_succ, List.replicate_zero, List.getElem?_cons_zero, List.getElem?_cons_succ, List.drop_succ_cons, List.drop_zero, List.take_succ_cons, List.take_zero, List.map_append, List.nil_append, List.cons_append, Nat.reduceShiftRight, Nat.reduceMod]
  refine W_loop (t := .mk) (α := PSigma fun i : Nat => i ≤ l.length ∧ ∀ x ∈ l.take i, p x = false) (fun i => (envOf [(0, .sl (rngs l)), (1, .fn f caps), (6, .sl (rngs l)), (7, .int .i64 l.length), (8, .int .i64 i.1)], stOf [])) (fun i => l.length - i.1) ⟨0, by simp⟩ ?_ (fun ⟨i, hi, hn⟩ => ?_)
  · have himm := fx1_immL hc
    refine weakX [] (of_decide_eq_true rfl) (of_decide_eq_true rfl) ?_
    (simp only [himm, vcW, vcV, vcD, Int.reduceEq, Int.reduceNe, Int.reduceLT, Int.reduceLE, Nat.reduceEqDiff, Nat.reduceAdd, reduceIte, reduceCtorEq, Nat.reduceLT, Nat.reduceLeDiff, eq_self, Option.bind_some, Option.map_some, List.map_cons, List.map_nil, List.length_cons, List.length_nil, Option.getD_some, Option.getD_none, List.all_cons, List.all_nil, List.set_cons_zero, List.set_cons_succ, List.replicate_succ, List.replicate_zero, List.getElem?_cons_zero, List.getElem?_cons_succ, List.drop_succ_cons, List.drop_zero, List.take_succ_cons, List.take_zero, List.map_append, List.nil_append, List.cons_append, Nat.reduceShiftRight, Nat.reduceMod])
    (repeat' first | exact trivial | (with_reducible exact RnB.fxB (ints_fxB _)) | (with_reducible rfl) | (with_reducible refine And.intro ?_ ?_) | (with_reducible refine RnB.bb ?_; simp only [vcW, vcV, vcD, Int.reduceEq, Int.reduceNe, Int.reduceLT, Int.reduceLE, Nat.reduceEqDiff, Nat.reduceAdd, reduceIte, reduceCtorEq, Nat.reduceLT, Nat.reduceLeDiff, eq_self, Option.bind_some, Option.map_some, List.map_cons, List.map_nil, List.length_cons, List.length_nil, Option.getD_some, Option.getD_none, List.all_cons, List.all_nil, List.set_cons_zero, List.set_cons_succ, List.replicate_succ, List.replicate_zero, List.getElem?_cons_zero, List.getElem?_cons_succ, List.drop_succ_cons, List.drop_zero, List.take_succ_cons, List.take_zero, List.map_append, List.nil_append, List.cons_append, Nat.reduceShiftRight, Nat.reduceMod]) | (with_reducible refine RnB.nb ?_; simp only [vcW, vcV, vcD, Int.reduceEq, Int.reduceNe, Int.reduceLT, Int.reduceLE, Nat.reduceEqDiff, Nat.reduceAdd, reduceIte, reduceCtorEq, Nat.reduceLT, Nat.reduceLeDiff, eq_self, Option.bind_some, Option.map_some, List.map_cons, List.map_nil, List.length_cons, List.length_nil, Option.getD_some, Option.getD_none, List.all_cons, List.all_nil, List.set_cons_zero, List.set_cons_succ, List.replicate_succ, List.replicate_zero, List.getElem?_cons_zero, List.getElem?_cons_succ, List.drop_succ_cons, List.drop_zero, List.take_succ_cons, List.take_zero, List.map_append, List.nil_append, List.cons_append, Nat.reduceShiftRight, Nat.reduceMod]) | (with_reducible refine RnB.ii ?_) | (with_reducible refine RnB.app ?_) | (with_reducible refine RnB.fxB ?_; simp only [vcW, vcV, vcD, Int.reduceEq, Int.reduceNe, Int.reduceLT, Int.reduceLE, Nat.reduceEqDiff, Nat.reduceAdd, reduceIte, reduceCtorEq, Nat.reduceLT, Nat.reduceLeDiff, eq_self, Option.bind_some, Option.map_some, List.map_cons, List.map_nil, List.length_cons, List.length_nil, Option.getD_some, Option.getD_none, List.all_cons, List.all_nil, List.set_cons_zero, List.set_cons_succ, List.replicate_succ, List.replicate_zero, List.getElem?_cons_zero, List.getElem?_cons_succ, List.drop_succ_cons, List.drop_zero, List.take_succ_cons, List.take_zero, List.map_append, List.nil_append, List.cons_append, Nat.reduceShiftRight, Nat.reduceMod]) | omega)
  · simp only [vcV, vcD, Int.reduceEq, Int.reduceNe, Int.reduceLT, Int.reduceLE, Nat.reduceEqDiff, Nat.reduceAdd, reduceIte, reduceCtorEq, Nat.reduceLT, Nat.reduceLeDiff, eq_self, Option.bind_some, Option.map_some, List.map_cons, List.map_nil, List.length_cons, List.length_nil, Option.getD_some, Option.getD_none, List.all_cons, List.all_nil, List.set_cons_zero, List.set_cons_succ, List.replicate_succ, List.replicate_zero, List.getElem?_cons_zero, List.getElem?_cons_succ, List.drop_succ_cons, List.drop_zero, List.take_succ_cons, List.take_zero, List.map_append, List.nil_append, List.cons_append, Nat.reduceShiftRight, Nat.reduceMod]
    refine brB_split (fun h => ?_) (fun h => ?_)
    · have h' : i < l.length := by (simp only [decide_eq_true_eq, decide_eq_false_iff_not, Bool.not_true, I64, Bool.not_eq_true', Bool.not_eq_false', bne_iff_ne, beq_iff_eq, ne_eq] at *; omega)
      clear h
      have hg := rngs_get l i h'
      have hpx := hp _ (List.getElem_mem h')
      have hra : rngA2 l[i] = .agg [.int .i64 l[i].1, .int .i64 l[i].2] := rfl
      rw [hra] at hg hpx
      simp only [hg, vcV, vcD, Int.reduceEq, Int.reduceNe, Int.reduceLT, Int.reduceLE, Nat.reduceEqDiff, Nat.reduceAdd, reduceIte, reduceCtorEq, Nat.reduceLT, Nat.reduceLeDiff, eq_self, Option.bind_some, Option.map_some, List.map_cons, List.map_nil, List.length_cons, List.length_nil, Option.getD_some, Option.getD_none, List.all_cons, List.all_nil, List.set_cons_zero, List.set_cons_succ, List.replicate_succ, List.replicate_zero, List.getElem?_cons_zero, List.getElem?_cons_succ, List.drop_succ_cons, List.drop_zero, List.take_succ_cons, List.take_zero, List.map_append, List.nil_append, List.cons_append, Nat.reduceShiftRight, Nat.reduceMod]
      (repeat (with_reducible refine And.intro ?_ ?_; focus (first | omega | (unfold I64; omega))))
      simp only [List.map_append, List.cons_append, List.nil_append, map_fx1 hc, vcV, vcD, Int.reduceEq, Int.reduceNe, Int.reduceLT, Int.reduceLE, Nat.reduceEqDiff, Nat.reduceAdd, reduceIte, reduceCtorEq, Nat.reduceLT, Nat.reduceLeDiff, eq_self, Option.bind_some, Option.map_some, List.map_cons, List.map_nil, List.length_cons, List.length_nil, Option.getD_some, Option.getD_none, List.all_cons, List.all_nil, List.set_cons_zero, List.set_cons_succ, List.replicate_succ, List.replicate_zero, List.getElem?_cons_zero, List.getElem?_cons_succ, List.drop_succ_cons, List.drop_zero, List.take_succ_cons, List.take_zero, List.map_append, List.nil_append, List.cons_append, Nat.reduceShiftRight, Nat.reduceMod]
      refine callS_of hpx ?_
      simp only [vcV, vcD, Int.reduceEq, Int.reduceNe, Int.reduceLT, Int.reduceLE, Nat.reduceEqDiff, Nat.reduceAdd, reduceIte, reduceCtorEq, Nat.reduceLT, Nat.reduceLeDiff, eq_self, Option.bind_some, Option.map_some, List.map_cons, List.map_nil, List.length_cons, List.length_nil, Option.getD_some, Option.getD_none, List.all_cons, List.all_nil, List.set_cons_zero, List.set_cons_succ, List.replicate_succ, List.replicate_zero, List.getElem?_cons_zero, List.getElem?_cons_succ, List.drop_succ_cons, List.drop_zero, List.take_succ_cons, List.take_zero, List.map_append, List.nil_append, List.cons_append, Nat.reduceShiftRight, Nat.reduceMod]
      refine brB_split (fun h => ?_) (fun h => ?_)
      · simp only [vcV, vcD, Int.reduceEq, Int.reduceNe, Int.reduceLT, Int.reduceLE, Nat.reduceEqDiff, Nat.reduceAdd, reduceIte, reduceCtorEq, Nat.reduceLT, Nat.reduceLeDiff, eq_self, Option.bind_some, Option.map_some, List.map_cons, List.map_nil, List.length_cons, List.length_nil, Option.getD_some, Option.getD_none, List.all_cons, List.all_nil, List.set_cons_zero, List.set_cons_succ, List.replicate_succ, List.replicate_zero, List.getElem?_cons_zero, List.getElem?_cons_succ, List.drop_succ_cons, List.drop_zero, List.take_succ_cons, List.take_zero, List.map_append, List.nil_append, List.cons_append, Nat.reduceShiftRight, Nat.reduceMod]
        have hs : l.findIdx? p = some i := by
          rw [List.findIdx?_eq_some_iff_getElem]
          refine ⟨h', h, fun j hj => ?_⟩
          have := hn l[j] (by rw [List.mem_take_iff_getElem]; exact ⟨j, by omega, rfl⟩)
          simp [this]
        simp [idxOf, hs]
      · simp only [vcV, vcD, Int.reduceEq, Int.reduceNe, Int.reduceLT, Int.reduceLE, Nat.reduceEqDiff, Nat.reduceAdd, reduceIte, reduceCtorEq, Nat.reduceLT, Nat.reduceLeDiff, eq_self, Option.bind_some, Option.map_some, List.map_cons, List.map_nil, List.length_cons, List.length_nil, Option.getD_some, Option.getD_none, List.all_cons, List.all_nil, List.set_cons_zero, List.set_cons_succ, List.replicate_succ, List.replicate_zero, List.getElem?_cons_zero, List.getElem?_cons_succ, List.drop_succ_cons, List.drop_zero, List.take_succ_cons, List.take_zero, List.map_append, List.nil_append, List.cons_append, Nat.reduceShiftRight, Nat.reduceMod]
        (repeat (with_reducible refine And.intro ?_ ?_; focus (first | omega | (unfold I64; omega))))
        refine ⟨⟨i + 1, h', ?_⟩, by simp only; omega, ?_⟩
        · rw [List.take_succ_eq_append_getElem h']
          intro x hx
          rcases List.mem_append.1 hx with hx | hx
          · exact hn x hx
          · simp at hx; rw [hx]; exact h
        · have himm := fx1_immL hc
          refine weakX [] (of_decide_eq_true rfl) (of_decide_eq_true rfl) ?_
          (simp only [himm, vcW, vcV, vcD, Int.reduceEq, Int.reduceNe, Int.reduceLT, Int.reduceLE, Nat.reduceEqDiff, Nat.reduceAdd, reduceIte, reduceCtorEq, Nat.reduceLT, Nat.reduceLeDiff, eq_self, Option.bind_some, Option.map_some, List.map_cons, List.map_nil, List.length_cons, List.length_nil, Option.getD_some, Option.getD_none, List.all_cons, List.all_nil, List.set_cons_zero, List.set_cons_succ, List.replicate_succ, List.replicate_zero, List.getElem?_cons_zero, List.getElem?_cons_succ, List.drop_succ_cons, List.drop_zero, List.take_succ_cons, List.take_zero, List.map_append, List.nil_append, List.cons_append, Nat.reduceShiftRight, Nat.reduceMod])
          (repeat' first | exact trivial | (with_reducible exact RnB.fxB (ints_fxB _)) | (with_reducible rfl) | (with_reducible refine And.intro ?_ ?_) | (with_reducible refine RnB.bb ?_; simp only [vcW, vcV, vcD, Int.reduceEq, Int.reduceNe, Int.reduceLT, Int.reduceLE, Nat.reduceEqDiff, Nat.reduceAdd, reduceIte, reduceCtorEq, Nat.reduceLT, Nat.reduceLeDiff, eq_self, Option.bind_some, Option.map_some, List.map_cons, List.map_nil, List.length_cons, List.length_nil, Option.getD_some, Option.getD_none, List.all_cons, List.all_nil, List.set_cons_zero, List.set_cons_succ, List.replicate_succ, List.replicate_zero, List.getElem?_cons_zero, List.getElem?_cons_succ, List.drop_succ_cons, List.drop_zero, List.take_succ_cons, List.take_zero, List.map_append, List.nil_append, List.cons_append, Nat.reduceShiftRight, Nat.reduceMod]) | (with_reducible refine RnB.nb ?_; simp only [vcW, vcV, vcD, Int.reduceEq, Int.reduceNe, Int.reduceLT, Int.reduceLE, Nat.reduceEqDiff, Nat.reduceAdd, reduceIte, reduceCtorEq, Nat.reduceLT, Nat.reduceLeDiff, eq_self, Option.bind_some, Option.map_some, List.map_cons, List.map_nil, List.length_cons, List.length_nil, Option.getD_some, Option.getD_none, List.all_cons, List.all_nil, List.set_cons_zero, List.set_cons_succ, List.replicate_succ, List.replicate_zero, List.getElem?_cons_zero, List.getElem?_cons_succ, List.drop_succ_cons, List.drop_zero, List.take_succ_cons, List.take_zero, List.map_append, List.nil_append, List.cons_append, Nat.reduceShiftRight, Nat.reduceMod]) | (with_reducible refine RnB.ii ?_) | (with_reducible refine RnB.app ?_) | (with_reducible refine RnB.fxB ?_; simp only [vcW, vcV, vcD, Int.reduceEq, Int.reduceNe, Int.reduceLT, Int.reduceLE, Nat.reduceEqDiff, Nat.reduceAdd, reduceIte, reduceCtorEq, Nat.reduceLT, Nat.reduceLeDiff, eq_self, Option.bind_some, Option.map_some, List.map_cons, List.map_nil, List.length_cons, List.length_nil, Option.getD_some, Option.getD_none, List.all_cons, List.all_nil, List.set_cons_zero, List.set_cons_succ, List.replicate_succ, List.replicate_zero, List.getElem?_cons_zero, List.getElem?_cons_succ, List.drop_succ_cons, List.drop_zero, List.take_succ_cons, List.take_zero, List.map_append, List.nil_append, List.cons_append, Nat.reduceShiftRight, Nat.reduceMod]) | omega)
    · simp only [vcV, vcD, Int.reduceEq, Int.reduceNe, Int.reduceLT, Int.reduceLE, Nat.reduceEqDiff, Nat.reduceAdd, reduceIte, reduceCtorEq, Nat.reduceLT, Nat.reduceLeDiff, eq_self, Option.bind_some, Option.map_some, List.map_cons, List.map_nil, List.length_cons, List.length_nil, Option.getD_some, Option.getD_none, List.all_cons, List.all_nil, List.set_cons_zero, List.set_cons_succ, List.replicate_succ, List.replicate_zero, List.getElem?_cons_zero, List.getElem?_cons_succ, List.drop_succ_cons, List.drop_zero, List.take_succ_cons, List.take_zero, List.map_append, List.nil_append, List.cons_append, Nat.reduceShiftRight, Nat.reduceMod]
      have : i = l.length := by (simp only [decide_eq_true_eq, decide_eq_false_iff_not, Bool.not_true, I64, Bool.not_eq_true', Bool.not_eq_false', bne_iff_ne, beq_iff_eq, ne_eq] at *; omega)
      subst this
      rw [List.take_length] at hn
      have hs : l.findIdx? p = none := List.findIdx?_eq_none_iff.2 hn
      simp [idxOf, hs]
theorem contFunc_rng_s (l : List (Int × Int)) (f : FuncId) (caps : List AV) (p : Int × Int → Bool) (hl : l.length < 4000000000000000000) (hc : ∀ c ∈ caps, fx1 c = true)
    (hp : ∀ x ∈ l, Sound Try.prog f (rngA2 x :: caps) (.bool (p x))) : Sound Try.prog 102 [.sl (rngs l), .fn f caps] (.bool (l.any p)) := by
  refine sound_W f_slices_ContainsFunc_api_Range_api_Range (Nat.le_of_ble_eq_true rfl) ?_
  simp only [c_slices_ContainsFunc_api_Range_api_Range, map_fx1 hc, vcC, Int.reduceEq, Int.reduceNe, Int.reduceLT, Int.reduceLE, Nat.reduceEqDiff, Nat.reduceAdd, reduceIte, reduceCtorEq, Nat.reduceLT, Nat.reduceLeDiff, eq_self, Option.bind_some, Option.map_some, List.map_cons, List.map_nil, List.length_cons, List.length_nil, Option.getD_some, Option.getD_none, List.all_cons, List.all_nil, List.set_cons_zero, List.set_cons_succ, List.replicate_succ, List.replicate_zero, List.getElem?_cons_zero, List.getElem?_cons_succ, List.drop_succ_cons, List.drop_zero, List.take_succ_cons, List.take_zero]
  refine callS_of (idxFunc_rng_s l f caps p hl hc hp) ?_
  simp only [vcC, Int.reduceEq, Int.reduceNe, Int.reduceLT, Int.reduceLE, Nat.reduceEqDiff, Nat.reduceAdd, reduceIte, reduceCtorEq, Nat.reduceLT, Nat.reduceLeDiff, eq_self, Option.bind_some, Option.map_some, List.map_cons, List.map_nil, List.length_cons, List.length_nil, Option.getD_some, Option.getD_none, List.all_cons, List.all_nil, List.set_cons_zero, List.set_cons_succ, List.replicate_succ, List.replicate_zero, List.getElem?_cons_zero, List.getElem?_cons_succ, List.drop_succ_cons, List.drop_zero, List.take_succ_cons, List.take_zero]
  rw [idxOf_any]

/-- The bins that are lost, of the first ones. -/
def asked (r : Ring) (al : List Int) (b : Int) : Bool := al.any fun a => decide (a - r.before ≤ b ∧ b ≤ a)
def hasF (fs : List (Int × Int)) (b : Int) : Bool := fs.any fun p => decide (p.1 ≤ b ∧ b ≤ p.2)
def lostTo (r : Ring) (al : List Int) (fs : List (Int × Int)) : Nat → List Int
  | 0 => []
  | i + 1 => lostTo r al fs i ++ (if asked r al i && !hasF fs i then [(i : Int)] else [])
theorem lostTo_le (r : Ring) (al : List Int) (fs : List (Int × Int)) : ∀ i, (lostTo r al fs i).length ≤ i
  | 0 => Nat.le_refl _
  | i + 1 => by
    have := lostTo_le r al fs i
    rw [lostTo, List.length_append]
    split <;> simp <;> omega
def lostL (r : Ring) (n : Nat) (al : List Int) : List Int := lostTo r al (frz r n al) n

set_option maxHeartbeats 4000000 in
theorem LostBy_s (r : Ring) (l al : List Int) (hl : l.length ≤ 1000000000) (ha : al.length ≤ 1000000000) : Sound Try.prog 36 [r.av, .sl (ints l), .sl (ints al)]
    (.tup [.sl (ints (if allE r l al = 0 then lostL r l.length al else [])), .int .i64 (allE r l al)]) := by
  refine sound_W f_watch_LostBy (Nat.le_of_ble_eq_true rfl) ?_
  simp only [c_watch_LostBy, Ring.av, vcV, vcD, Int.reduceEq, Int.reduceNe, Int.reduceLT, Int.reduceLE, Nat.reduceEqDiff, Nat.reduceAdd, reduceIte, reduceCtorEq, Nat.reduceLT, Nat.reduceLeDiff, eq_self, Option.bind_some, Option.map_some, List.map_cons, List.map_nil, List.length_cons, List.length_nil, Option.getD_some, Option.getD_none, List.all_cons, List.all_nil, List.set_cons_zero, List.set_cons_succ, List.replicate_succ, List.replicate_zero, List.getElem?_cons_zero, List.getElem?_cons_succ, List.drop_succ_cons, List.drop_zero, List.take_succ_cons, List.take_zero, List.map_append, List.nil_append, List.cons_append, Nat.reduceShiftRight, Nat.reduceMod]
  refine callS_of (ringErr_s r l al hl ha) ?_
  have hin : ints [] = [] := rfl
  by_cases hE : allE r l al = 0
  case neg => simp only [hE, hin, vcV, vcD, Int.reduceEq, Int.reduceNe, Int.reduceLT, Int.reduceLE, Nat.reduceEqDiff, Nat.reduceAdd, reduceIte, reduceCtorEq, Nat.reduceLT, Nat.reduceLeDiff, eq_self, Option.bind_some, Option.map_some, List.map_cons, List.map_nil, List.length_cons, List.length_nil, Option.getD_some, Option.getD_none, List.all_cons, List.all_nil, List.set_cons_zero, List.set_cons_succ, List.replicate_succ, List.replicate_zero, List.getElem?_cons_zero, List.getElem?_cons_succ, List.drop_succ_cons, List.drop_zero, List.take_succ_cons, List.take_zero, List.map_append, List.nil_append, List.cons_append, Nat.reduceShiftRight, Nat.reduceMod]
  obtain ⟨hr, hc, hao⟩ := allE_ok hE
  have hl60 := (countsE_ok hc).1
  have hn : 0 ≤ (l.length : Int) ∧ (l.length : Int) ≤ 60 := by omega
  have hal := alOk_len hao hn.1
  have hfz := freezes_s r hr l.length hn al (fun a h => by have := hao.1 a h; omega) (by omega)
  have hfl := frz_len (r := r) (n := l.length) (al := al)
  unfold lostL
  generalize frz r l.length al = fs at *
  have hmax := maxLen_big
  have hrb := hr.2.1
  simp only [hE, vcV, vcD, Int.reduceEq, Int.reduceNe, Int.reduceLT, Int.reduceLE, Nat.reduceEqDiff, Nat.reduceAdd, reduceIte, reduceCtorEq, Nat.reduceLT, Nat.reduceLeDiff, eq_self, Option.bind_some, Option.map_some, List.map_cons, List.map_nil, List.length_cons, List.length_nil, Option.getD_some, Option.getD_none, List.all_cons, List.all_nil, List.set_cons_zero, List.set_cons_succ, List.replicate_succ, List.replicate_zero, List.getElem?_cons_zero, List.getElem?_cons_succ, List.drop_succ_cons, List.drop_zero, List.take_succ_cons, List.take_zero, List.map_append, List.nil_append, List.cons_append, Nat.reduceShiftRight, Nat.reduceMod]
  refine callS_of hfz ?_
  simp only [vcV, vcD, Int.reduceEq, Int.reduceNe, Int.reduceLT, Int.reduceLE, Nat.reduceEqDiff, Nat.reduceAdd, reduceIte, reduceCtorEq, Nat.reduceLT, Nat.reduceLeDiff, eq_self, Option.bind_some, Option.map_some, List.map_cons, List.map_nil, List.length_cons, List.length_nil, Option.getD_some, Option.getD_none, List.all_cons, List.all_nil, List.set_cons_zero, List.set_cons_succ, List.replicate_succ, List.replicate_zero, List.getElem?_cons_zero, List.getElem?_cons_succ, List.drop_succ_cons, List.drop_zero, List.take_succ_cons, List.take_zero, List.map_append, List.nil_append, List.cons_append, Nat.reduceShiftRight, Nat.reduceMod]
  refine W_loop (t := .mk) (α := PSigma fun i : Nat => i ≤ l.length ∧ (True)) (fun ⟨i, _⟩ => ((envOf [(2, .sl (ints al)), (3, .ptr 3 0 0), (9, .sl (rngs fs)), (10, .buf 100 (lostTo r al fs i).length), (27, .int .i64 l.length), (28, .int .i64 i)], stOf [(3, ⟨59, 3, [r.av]⟩), (100, ⟨3, 1, ints (lostTo r al fs i)⟩)]))) (fun i => l.length - i.1) ⟨0, Nat.zero_le _, ?_⟩ ?_ (fun ⟨i, hi, hn⟩ => ?_)
  · trivial
  · have hz : lostTo r al fs 0 = [] := rfl
    refine weakX [(100, none)] (of_decide_eq_true rfl) (of_decide_eq_true rfl) ?_
    (simp only [hz, hin, Ring.av, vcW, vcV, vcD, Int.reduceEq, Int.reduceNe, Int.reduceLT, Int.reduceLE, Nat.reduceEqDiff, Nat.reduceAdd, reduceIte, reduceCtorEq, Nat.reduceLT, Nat.reduceLeDiff, eq_self, Option.bind_some, Option.map_some, List.map_cons, List.map_nil, List.length_cons, List.length_nil, Option.getD_some, Option.getD_none, List.all_cons, List.all_nil, List.set_cons_zero, List.set_cons_succ, List.replicate_succ, List.replicate_zero, List.getElem?_cons_zero, List.getElem?_cons_succ, List.drop_succ_cons, List.drop_zero, List.take_succ_cons, List.take_zero, List.map_append, List.nil_append, List.cons_append, Nat.reduceShiftRight, Nat.reduceMod])
    (repeat' first | exact trivial | (with_reducible exact RnB.fxB (ints_fxB _)) | (with_reducible rfl) | (with_reducible refine And.intro ?_ ?_) | (with_reducible refine RnB.bb ?_; simp only [vcW, vcV, vcD, Int.reduceEq, Int.reduceNe, Int.reduceLT, Int.reduceLE, Nat.reduceEqDiff, Nat.reduceAdd, reduceIte, reduceCtorEq, Nat.reduceLT, Nat.reduceLeDiff, eq_self, Option.bind_some, Option.map_some, List.map_cons, List.map_nil, List.length_cons, List.length_nil, Option.getD_some, Option.getD_none, List.all_cons, List.all_nil, List.set_cons_zero, List.set_cons_succ, List.replicate_succ, List.replicate_zero, List.getElem?_cons_zero, List.getElem?_cons_succ, List.drop_succ_cons, List.drop_zero, List.take_succ_cons, List.take_zero, List.map_append, List.nil_append, List.cons_append, Nat.reduceShiftRight, Nat.reduceMod]) | (with_reducible refine RnB.nb ?_; simp only [vcW, vcV, vcD, Int.reduceEq, Int.reduceNe, Int.reduceLT, Int.reduceLE, Nat.reduceEqDiff, Nat.reduceAdd, reduceIte, reduceCtorEq, Nat.reduceLT, Nat.reduceLeDiff, eq_self, Option.bind_some, Option.map_some, List.map_cons, List.map_nil, List.length_cons, List.length_nil, Option.getD_some, Option.getD_none, List.all_cons, List.all_nil, List.set_cons_zero, List.set_cons_succ, List.replicate_succ, List.replicate_zero, List.getElem?_cons_zero, List.getElem?_cons_succ, List.drop_succ_cons, List.drop_zero, List.take_succ_cons, List.take_zero, List.map_append, List.nil_append, List.cons_append, Nat.reduceShiftRight, Nat.reduceMod]) | (with_reducible refine RnB.ii ?_) | (with_reducible refine RnB.app ?_) | (with_reducible refine RnB.fxB ?_; simp only [vcW, vcV, vcD, Int.reduceEq, Int.reduceNe, Int.reduceLT, Int.reduceLE, Nat.reduceEqDiff, Nat.reduceAdd, reduceIte, reduceCtorEq, Nat.reduceLT, Nat.reduceLeDiff, eq_self, Option.bind_some, Option.map_some, List.map_cons, List.map_nil, List.length_cons, List.length_nil, Option.getD_some, Option.getD_none, List.all_cons, List.all_nil, List.set_cons_zero, List.set_cons_succ, List.replicate_succ, List.replicate_zero, List.getElem?_cons_zero, List.getElem?_cons_succ, List.drop_succ_cons, List.drop_zero, List.take_succ_cons, List.take_zero, List.map_append, List.nil_append, List.cons_append, Nat.reduceShiftRight, Nat.reduceMod]) | omega)
  · simp only [vcV, vcD, Int.reduceEq, Int.reduceNe, Int.reduceLT, Int.reduceLE, Nat.reduceEqDiff, Nat.reduceAdd, reduceIte, reduceCtorEq, Nat.reduceLT, Nat.reduceLeDiff, eq_self, Option.bind_some, Option.map_some, List.map_cons, List.map_nil, List.length_cons, List.length_nil, Option.getD_some, Option.getD_none, List.all_cons, List.all_nil, List.set_cons_zero, List.set_cons_succ, List.replicate_succ, List.replicate_zero, List.getElem?_cons_zero, List.getElem?_cons_succ, List.drop_succ_cons, List.drop_zero, List.take_succ_cons, List.take_zero, List.map_append, List.nil_append, List.cons_append, Nat.reduceShiftRight, Nat.reduceMod]
    refine brB_split (fun h => ?_) (fun h => ?_)
    · have h' : i < l.length := by (simp only [decide_eq_true_eq, decide_eq_false_iff_not, Bool.not_true, I64, Bool.not_eq_true', Bool.not_eq_false', bne_iff_ne, beq_iff_eq, ne_eq] at *; omega)
      clear h
      have hle := lostTo_le r al fs i
      have hs : lostTo r al fs (i + 1) = lostTo r al fs i ++ (if asked r al i && !hasF fs i then [(i : Int)] else []) := rfl
      have hA : Sound Try.prog 100 [.sl (ints al), .fn 101 [.eptr (.int .i64 i) 0, .eptr r.av 0]] (.bool (asked r al i)) :=
        contFunc_int_s al _ _ (fun a => decide (a - r.before ≤ (i : Int) ∧ (i : Int) ≤ a)) (by omega) (by simp [fx1, Ring.av]) (fun a ha => LostBy_1_s r a i (by have := hao.1 a ha; unfold I64; omega))
      have hH : Sound Try.prog 102 [.sl (rngs fs), .fn 103 [.eptr (.int .i64 i) 0]] (.bool (hasF fs i)) :=
        contFunc_rng_s fs _ _ (fun p => decide (p.1 ≤ (i : Int) ∧ (i : Int) ≤ p.2)) (by omega) (by simp [fx1]) (fun p _ => LostBy_2_s p i)
      generalize hout : lostTo r al fs i = out at *
      generalize asked r al i = A at *
      generalize hasF fs i = H at *
      simp only [Ring.av, vcV, vcD, Int.reduceEq, Int.reduceNe, Int.reduceLT, Int.reduceLE, Nat.reduceEqDiff, Nat.reduceAdd, reduceIte, reduceCtorEq, Nat.reduceLT, Nat.reduceLeDiff, eq_self, Option.bind_some, Option.map_some, List.map_cons, List.map_nil, List.length_cons, List.length_nil, Option.getD_some, Option.getD_none, List.all_cons, List.all_nil, List.set_cons_zero, List.set_cons_succ, List.replicate_succ, List.replicate_zero, List.getElem?_cons_zero, List.getElem?_cons_succ, List.drop_succ_cons, List.drop_zero, List.take_succ_cons, List.take_zero, List.map_append, List.nil_append, List.cons_append, Nat.reduceShiftRight, Nat.reduceMod]
      refine callS_of hA ?_
      simp only [vcV, vcD, Int.reduceEq, Int.reduceNe, Int.reduceLT, Int.reduceLE, Nat.reduceEqDiff, Nat.reduceAdd, reduceIte, reduceCtorEq, Nat.reduceLT, Nat.reduceLeDiff, eq_self, Option.bind_some, Option.map_some, List.map_cons, List.map_nil, List.length_cons, List.length_nil, Option.getD_some, Option.getD_none, List.all_cons, List.all_nil, List.set_cons_zero, List.set_cons_succ, List.replicate_succ, List.replicate_zero, List.getElem?_cons_zero, List.getElem?_cons_succ, List.drop_succ_cons, List.drop_zero, List.take_succ_cons, List.take_zero, List.map_append, List.nil_append, List.cons_append, Nat.reduceShiftRight, Nat.reduceMod]
      refine callS_of hH ?_
      by_cases hAH : (A && !H) = true
      · obtain ⟨rfl, rfl⟩ : A = true ∧ H = false := by cases A <;> cases H <;> simp at hAH ⊢
        rw [if_pos hAH] at hs
        have hia : ints (out ++ [(i : Int)]) = ints out ++ [.int .i64 i] := ints_append _ _
        simp only [ints_length, vcV, vcD, Int.reduceEq, Int.reduceNe, Int.reduceLT, Int.reduceLE, Nat.reduceEqDiff, Nat.reduceAdd, reduceIte, reduceCtorEq, Nat.reduceLT, Nat.reduceLeDiff, eq_self, Option.bind_some, Option.map_some, List.map_cons, List.map_nil, List.length_cons, List.length_nil, Option.getD_some, Option.getD_none, List.all_cons, List.all_nil, List.set_cons_zero, List.set_cons_succ, List.replicate_succ, List.replicate_zero, List.getElem?_cons_zero, List.getElem?_cons_succ, List.drop_succ_cons, List.drop_zero, List.take_succ_cons, List.take_zero, List.map_append, List.nil_append, List.cons_append, Nat.reduceShiftRight, Nat.reduceMod]
        (repeat (with_reducible refine And.intro ?_ ?_; focus (first | omega | (unfold I64; omega))))
        refine ⟨⟨i + 1, h', trivial⟩, by simp only; omega, ?_⟩
        refine weakX [(100, some 45)] (of_decide_eq_true rfl) (of_decide_eq_true rfl) ?_
        (simp only [hs, Ring.av, hia, vcW, vcV, vcD, Int.reduceEq, Int.reduceNe, Int.reduceLT, Int.reduceLE, Nat.reduceEqDiff, Nat.reduceAdd, reduceIte, reduceCtorEq, Nat.reduceLT, Nat.reduceLeDiff, eq_self, Option.bind_some, Option.map_some, List.map_cons, List.map_nil, List.length_cons, List.length_nil, Option.getD_some, Option.getD_none, List.all_cons, List.all_nil, List.set_cons_zero, List.set_cons_succ, List.replicate_succ, List.replicate_zero, List.getElem?_cons_zero, List.getElem?_cons_succ, List.drop_succ_cons, List.drop_zero, List.take_succ_cons, List.take_zero, List.map_append, List.nil_append, List.cons_append, Nat.reduceShiftRight, Nat.reduceMod])
        (repeat' first | exact trivial | (with_reducible exact RnB.fxB (ints_fxB _)) | (with_reducible rfl) | (with_reducible refine And.intro ?_ ?_) | (with_reducible refine RnB.bb ?_; simp only [vcW, vcV, vcD, Int.reduceEq, Int.reduceNe, Int.reduceLT, Int.reduceLE, Nat.reduceEqDiff, Nat.reduceAdd, reduceIte, reduceCtorEq, Nat.reduceLT, Nat.reduceLeDiff, eq_self, Option.bind_some, Option.map_some, List.map_cons, List.map_nil, List.length_cons, List.length_nil, Option.getD_some, Option.getD_none, List.all_cons, List.all_nil, List.set_cons_zero, List.set_cons_succ, List.replicate_succ, List.replicate_zero, List.getElem?_cons_zero, List.getElem?_cons_succ, List.drop_succ_cons, List.drop_zero, List.take_succ_cons, List.take_zero, List.map_append, List.nil_append, List.cons_append, Nat.reduceShiftRight, Nat.reduceMod]) | (with_reducible refine RnB.nb ?_; simp only [vcW, vcV, vcD, Int.reduceEq, Int.reduceNe, Int.reduceLT, Int.reduceLE, Nat.reduceEqDiff, Nat.reduceAdd, reduceIte, reduceCtorEq, Nat.reduceLT, Nat.reduceLeDiff, eq_self, Option.bind_some, Option.map_some, List.map_cons, List.map_nil, List.length_cons, List.length_nil, Option.getD_some, Option.getD_none, List.all_cons, List.all_nil, List.set_cons_zero, List.set_cons_succ, List.replicate_succ, List.replicate_zero, List.getElem?_cons_zero, List.getElem?_cons_succ, List.drop_succ_cons, List.drop_zero, List.take_succ_cons, List.take_zero, List.map_append, List.nil_append, List.cons_append, Nat.reduceShiftRight, Nat.reduceMod]) | (with_reducible refine RnB.ii ?_) | (with_reducible refine RnB.app ?_) | (with_reducible refine RnB.fxB ?_; simp only [vcW, vcV, vcD, Int.reduceEq, Int.reduceNe, Int.reduceLT, Int.reduceLE, Nat.reduceEqDiff, Nat.reduceAdd, reduceIte, reduceCtorEq, Nat.reduceLT, Nat.reduceLeDiff, eq_self, Option.bind_some, Option.map_some, List.map_cons, List.map_nil, List.length_cons, List.length_nil, Option.getD_some, Option.getD_none, List.all_cons, List.all_nil, List.set_cons_zero, List.set_cons_succ, List.replicate_succ, List.replicate_zero, List.getElem?_cons_zero, List.getElem?_cons_succ, List.drop_succ_cons, List.drop_zero, List.take_succ_cons, List.take_zero, List.map_append, List.nil_append, List.cons_append, Nat.reduceShiftRight, Nat.reduceMod]) | omega)
        · simp
        · exact hia.symm
      · rw [if_neg hAH, List.append_nil] at hs
        cases A
        · simp only [vcV, vcD, Int.reduceEq, Int.reduceNe, Int.reduceLT, Int.reduceLE, Nat.reduceEqDiff, Nat.reduceAdd, reduceIte, reduceCtorEq, Nat.reduceLT, Nat.reduceLeDiff, eq_self, Option.bind_some, Option.map_some, List.map_cons, List.map_nil, List.length_cons, List.length_nil, Option.getD_some, Option.getD_none, List.all_cons, List.all_nil, List.set_cons_zero, List.set_cons_succ, List.replicate_succ, List.replicate_zero, List.getElem?_cons_zero, List.getElem?_cons_succ, List.drop_succ_cons, List.drop_zero, List.take_succ_cons, List.take_zero, List.map_append, List.nil_append, List.cons_append, Nat.reduceShiftRight, Nat.reduceMod]
          (repeat (with_reducible refine And.intro ?_ ?_; focus (first | omega | (unfold I64; omega))))
          refine ⟨⟨i + 1, h', trivial⟩, by simp only; omega, ?_⟩
          refine weakX [] (of_decide_eq_true rfl) (of_decide_eq_true rfl) ?_
          (simp only [hs, Ring.av, vcW, vcV, vcD, Int.reduceEq, Int.reduceNe, Int.reduceLT, Int.reduceLE, Nat.reduceEqDiff, Nat.reduceAdd, reduceIte, reduceCtorEq, Nat.reduceLT, Nat.reduceLeDiff, eq_self, Option.bind_some, Option.map_some, List.map_cons, List.map_nil, List.length_cons, List.length_nil, Option.getD_some, Option.getD_none, List.all_cons, List.all_nil, List.set_cons_zero, List.set_cons_succ, List.replicate_succ, List.replicate_zero, List.getElem?_cons_zero, List.getElem?_cons_succ, List.drop_succ_cons, List.drop_zero, List.take_succ_cons, List.take_zero, List.map_append, List.nil_append, List.cons_append, Nat.reduceShiftRight, Nat.reduceMod])
          (repeat' first | exact trivial | (with_reducible exact RnB.fxB (ints_fxB _)) | (with_reducible rfl) | (with_reducible refine And.intro ?_ ?_) | (with_reducible refine RnB.bb ?_; simp only [vcW, vcV, vcD, Int.reduceEq, Int.reduceNe, Int.reduceLT, Int.reduceLE, Nat.reduceEqDiff, Nat.reduceAdd, reduceIte, reduceCtorEq, Nat.reduceLT, Nat.reduceLeDiff, eq_self, Option.bind_some, Option.map_some, List.map_cons, List.map_nil, List.length_cons, List.length_nil, Option.getD_some, Option.getD_none, List.all_cons, List.all_nil, List.set_cons_zero, List.set_cons_succ, List.replicate_succ, List.replicate_zero, List.getElem?_cons_zero, List.getElem?_cons_succ, List.drop_succ_cons, List.drop_zero, List.take_succ_cons, List.take_zero, List.map_append, List.nil_append, List.cons_append, Nat.reduceShiftRight, Nat.reduceMod]) | (with_reducible refine RnB.nb ?_; simp only [vcW, vcV, vcD, Int.reduceEq, Int.reduceNe, Int.reduceLT, Int.reduceLE, Nat.reduceEqDiff, Nat.reduceAdd, reduceIte, reduceCtorEq, Nat.reduceLT, Nat.reduceLeDiff, eq_self, Option.bind_some, Option.map_some, List.map_cons, List.map_nil, List.length_cons, List.length_nil, Option.getD_some, Option.getD_none, List.all_cons, List.all_nil, List.set_cons_zero, List.set_cons_succ, List.replicate_succ, List.replicate_zero, List.getElem?_cons_zero, List.getElem?_cons_succ, List.drop_succ_cons, List.drop_zero, List.take_succ_cons, List.take_zero, List.map_append, List.nil_append, List.cons_append, Nat.reduceShiftRight, Nat.reduceMod]) | (with_reducible refine RnB.ii ?_) | (with_reducible refine RnB.app ?_) | (with_reducible refine RnB.fxB ?_; simp only [vcW, vcV, vcD, Int.reduceEq, Int.reduceNe, Int.reduceLT, Int.reduceLE, Nat.reduceEqDiff, Nat.reduceAdd, reduceIte, reduceCtorEq, Nat.reduceLT, Nat.reduceLeDiff, eq_self, Option.bind_some, Option.map_some, List.map_cons, List.map_nil, List.length_cons, List.length_nil, Option.getD_some, Option.getD_none, List.all_cons, List.all_nil, List.set_cons_zero, List.set_cons_succ, List.replicate_succ, List.replicate_zero, List.getElem?_cons_zero, List.getElem?_cons_succ, List.drop_succ_cons, List.drop_zero, List.take_succ_cons, List.take_zero, List.map_append, List.nil_append, List.cons_append, Nat.reduceShiftRight, Nat.reduceMod]) | omega)
        · obtain rfl : H = true := by cases H <;> simp at hAH ⊢
          simp only [vcV, vcD, Int.reduceEq, Int.reduceNe, Int.reduceLT, Int.reduceLE, Nat.reduceEqDiff, Nat.reduceAdd, reduceIte, reduceCtorEq, Nat.reduceLT, Nat.reduceLeDiff, eq_self, Option.bind_some, Option.map_some, List.map_cons, List.map_nil, List.length_cons, List.length_nil, Option.getD_some, Option.getD_none, List.all_cons, List.all_nil, List.set_cons_zero, List.set_cons_succ, List.replicate_succ, List.replicate_zero, List.getElem?_cons_zero, List.getElem?_cons_succ, List.drop_succ_cons, List.drop_zero, List.take_succ_cons, List.take_zero, List.map_append, List.nil_append, List.cons_append, Nat.reduceShiftRight, Nat.reduceMod]
          (repeat (with_reducible refine And.intro ?_ ?_; focus (first | omega | (unfold I64; omega))))
          refine ⟨⟨i + 1, h', trivial⟩, by simp only; omega, ?_⟩
          refine weakX [] (of_decide_eq_true rfl) (of_decide_eq_true rfl) ?_
          (simp only [hs, Ring.av, vcW, vcV, vcD, Int.reduceEq, Int.reduceNe, Int.reduceLT, Int.reduceLE, Nat.reduceEqDiff, Nat.reduceAdd, reduceIte, reduceCtorEq, Nat.reduceLT, Nat.reduceLeDiff, eq_self, Option.bind_some, Option.map_some, List.map_cons, List.map_nil, List.length_cons, List.length_nil, Option.getD_some, Option.getD_none, List.all_cons, List.all_nil, List.set_cons_zero, List.set_cons_succ, List.replicate_succ, List.replicate_zero, List.getElem?_cons_zero, List.getElem?_cons_succ, List.drop_succ_cons, List.drop_zero, List.take_succ_cons, List.take_zero, List.map_append, List.nil_append, List.cons_append, Nat.reduceShiftRight, Nat.reduceMod])
          (repeat' first | exact trivial | (with_reducible exact RnB.fxB (ints_fxB _)) | (with_reducible rfl) | (with_reducible refine And.intro ?_ ?_) | (with_reducible refine RnB.bb ?_; simp only [vcW, vcV, vcD, Int.reduceEq, Int.reduceNe, Int.reduceLT, Int.reduceLE, Nat.reduceEqDiff, Nat.reduceAdd, reduceIte, reduceCtorEq, Nat.reduceLT, Nat.reduceLeDiff, eq_self, Option.bind_some, Option.map_some, List.map_cons, List.map_nil, List.length_cons, List.length_nil, Option.getD_some, Option.getD_none, List.all_cons, List.all_nil, List.set_cons_zero, List.set_cons_succ, List.replicate_succ, List.replicate_zero, List.getElem?_cons_zero, List.getElem?_cons_succ, List.drop_succ_cons, List.drop_zero, List.take_succ_cons, List.take_zero, List.map_append, List.nil_append, List.cons_append, Nat.reduceShiftRight, Nat.reduceMod]) | (with_reducible refine RnB.nb ?_; simp only [vcW, vcV, vcD, Int.reduceEq, Int.reduceNe, Int.reduceLT, Int.reduceLE, Nat.reduceEqDiff, Nat.reduceAdd, reduceIte, reduceCtorEq, Nat.reduceLT, Nat.reduceLeDiff, eq_self, Option.bind_some, Option.map_some, List.map_cons, List.map_nil, List.length_cons, List.length_nil, Option.getD_some, Option.getD_none, List.all_cons, List.all_nil, List.set_cons_zero, List.set_cons_succ, List.replicate_succ, List.replicate_zero, List.getElem?_cons_zero, List.getElem?_cons_succ, List.drop_succ_cons, List.drop_zero, List.take_succ_cons, List.take_zero, List.map_append, List.nil_append, List.cons_append, Nat.reduceShiftRight, Nat.reduceMod]) | (with_reducible refine RnB.ii ?_) | (with_reducible refine RnB.app ?_) | (with_reducible refine RnB.fxB ?_; simp only [vcW, vcV, vcD, Int.reduceEq, Int.reduceNe, Int.reduceLT, Int.reduceLE, Nat.reduceEqDiff, Nat.reduceAdd, reduceIte, reduceCtorEq, Nat.reduceLT, Nat.reduceLeDiff, eq_self, Option.bind_some, Option.map_some, List.map_cons, List.map_nil, List.length_cons, List.length_nil, Option.getD_some, Option.getD_none, List.all_cons, List.all_nil, List.set_cons_zero, List.set_cons_succ, List.replicate_succ, List.replicate_zero, List.getElem?_cons_zero, List.getElem?_cons_succ, List.drop_succ_cons, List.drop_zero, List.take_succ_cons, List.take_zero, List.map_append, List.nil_append, List.cons_append, Nat.reduceShiftRight, Nat.reduceMod]) | omega)
    · have : i = l.length := by (simp only [decide_eq_true_eq, decide_eq_false_iff_not, Bool.not_true, I64, Bool.not_eq_true', Bool.not_eq_false', bne_iff_ne, beq_iff_eq, ne_eq] at *; omega)
      cases this
      simp only [hE, vcV, vcD, Int.reduceEq, Int.reduceNe, Int.reduceLT, Int.reduceLE, Nat.reduceEqDiff, Nat.reduceAdd, reduceIte, reduceCtorEq, Nat.reduceLT, Nat.reduceLeDiff, eq_self, Option.bind_some, Option.map_some, List.map_cons, List.map_nil, List.length_cons, List.length_nil, Option.getD_some, Option.getD_none, List.all_cons, List.all_nil, List.set_cons_zero, List.set_cons_succ, List.replicate_succ, List.replicate_zero, List.getElem?_cons_zero, List.getElem?_cons_succ, List.drop_succ_cons, List.drop_zero, List.take_succ_cons, List.take_zero, List.map_append, List.nil_append, List.cons_append, Nat.reduceShiftRight, Nat.reduceMod]
      rw [borB_good _ _ _ _ _ (by simp [ints]) (ints_fx _)]
end Go.Proofs.Ytaebfjepacnmhaa

/- The law WatchNothingLost: it answers true. By an AI agent; nothing here is trusted. -/
namespace Go.Proofs.Ytaebfjepacnmhaa
open Go.Av

def bmap (f : Nat → Bool) (n : Nat) : List AV := (List.range n).map fun x => .bool (f x)
theorem bmap_length (f : Nat → Bool) (n : Nat) : (bmap f n).length = n := by simp [bmap]
theorem bmap_get (f : Nat → Bool) (n x : Nat) (h : x < n) : (bmap f n)[x]? = some (.bool (f x)) := by simp [bmap, h]
theorem bmap_set (f : Nat → Bool) (n x : Nat) : (bmap f n).set x (.bool true) = bmap (fun y => f y || decide (y = x)) n := by
  apply List.ext_getElem (by simp [bmap])
  intro i h1 h2
  simp only [bmap, List.getElem_set, List.getElem_map, List.getElem_range]
  by_cases e : x = i
  · subst e; simp
  · rw [if_neg e]; simp [show ¬ i = x from fun q => e q.symm]
theorem bmap_congr {f g : Nat → Bool} {n : Nat} (h : ∀ x, x < n → f x = g x) : bmap f n = bmap g n := by
  unfold bmap
  apply List.map_congr_left
  intro x hx
  rw [h x (List.mem_range.1 hx)]
theorem bmap_fxB (f : Nat → Bool) (n : Nat) : (bmap f n).all Go.Av.fx = true := List.all_eq_true.2 fun x hx => by
  obtain ⟨p, _, rfl⟩ := List.mem_map.1 hx
  rfl
theorem bmap_zero (n : Nat) : List.replicate n (AV.bool false) = bmap (fun _ => false) n := by
  apply List.ext_getElem (by simp [bmap])
  intro i h1 h2
  simp [bmap]
theorem mkOk_false (N : Nat) : mkOk 1 (List.replicate N (AV.bool false)) := by
  intro x hx
  rw [List.eq_of_mem_replicate hx]
  exact ⟨rfl, rfl, by decide⟩
theorem hasF_iff (fs : List (Int × Int)) (x : Int) : hasF fs x = true ↔ ∃ p ∈ fs, p.1 ≤ x ∧ x ≤ p.2 := by
  unfold hasF
  simp
theorem frzsA_get (l : List Int) (fs : List (Int × Int)) (i : Nat) (h : i < fs.length) : (frzsA l fs)[i]? = some (frzA l fs[i]) := by simp [frzsA, h]
/-- A range that is filled bin by bin. -/
def fillF (f : Nat → Bool) (a j : Nat) : Nat → Bool := fun x => f x || decide (a ≤ x ∧ x < a + j)
theorem fillF_zero (f : Nat → Bool) (a : Nat) : fillF f a 0 = f := by
  funext x
  unfold fillF
  rw [decide_eq_false (by omega), Bool.or_false]
theorem fillF_succ (f : Nat → Bool) (a j n : Nat) : (bmap (fillF f a j) n).set (a + j) (.bool true) = bmap (fillF f a (j + 1)) n := by
  rw [bmap_set]
  apply bmap_congr
  intro x _
  unfold fillF
  cases f x with
  | true => rfl
  | false =>
    simp only [Bool.false_or]
    rw [Bool.eq_iff_iff]
    simp
    omega
end Go.Proofs.Ytaebfjepacnmhaa

