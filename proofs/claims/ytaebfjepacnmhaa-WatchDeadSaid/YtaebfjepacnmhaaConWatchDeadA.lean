/- Contracts of small functions. By an AI agent; nothing here is trusted. -/
import Derived.Test.YtaebfjepacnmhaaLayC
import Derived.Test.YtaebfjepacnmhaaKode
set_option linter.defProp false
set_option linter.unusedSimpArgs false
set_option linter.unusedVariables false
namespace Go.Proofs.Ytaebfjepacnmhaa
open Go.Av

abbrev i64 (n : Int) : AV := .int .i64 n
def prs (l : List (Int × Int)) : List AV := l.map fun p => .agg [.int .i64 p.1, .int .i64 p.2]
theorem prs_length (l : List (Int × Int)) : (prs l).length = l.length := by simp [prs]
theorem prs_get (l : List (Int × Int)) (i : Nat) (h : i < l.length) : (prs l)[i]? = some (.agg [.int .i64 l[i].1, .int .i64 l[i].2]) := by
  simp [prs, h]
theorem prs_fx (l : List (Int × Int)) : ∀ x ∈ prs l, fx x = true := by
  intro x hx
  obtain ⟨n, _, rfl⟩ := List.mem_map.1 hx
  rfl

theorem within_s (n lo hi : Int) : Sound Try.prog 92 [.int .i64 n, .int .i64 lo, .int .i64 hi] (.bool (decide (lo ≤ n ∧ n ≤ hi))) := by
  refine sound_W f_watch_within (Nat.le_of_ble_eq_true rfl) ?_
  simp only [c_watch_within, vcC, Int.reduceEq, Int.reduceNe, Int.reduceLT, Int.reduceLE, Nat.reduceEqDiff, Nat.reduceAdd, reduceIte, reduceCtorEq, Nat.reduceLT, Nat.reduceLeDiff, eq_self, Option.bind_some, Option.map_some, List.map_cons, List.map_nil, List.length_cons, List.length_nil, Option.getD_some, Option.getD_none, List.all_cons, List.all_nil, List.set_cons_zero, List.set_cons_succ, List.replicate_succ, List.replicate_zero, List.getElem?_cons_zero, List.getElem?_cons_succ, List.drop_succ_cons, List.drop_zero, List.take_succ_cons, List.take_zero]
  refine brB_split (fun h => ?_) (fun h => ?_) <;> simp only [h, vcC, Int.reduceEq, Int.reduceNe, Int.reduceLT, Int.reduceLE, Nat.reduceEqDiff, Nat.reduceAdd, reduceIte, reduceCtorEq, Nat.reduceLT, Nat.reduceLeDiff, eq_self, Option.bind_some, Option.map_some, List.map_cons, List.map_nil, List.length_cons, List.length_nil, Option.getD_some, Option.getD_none, List.all_cons, List.all_nil, List.set_cons_zero, List.set_cons_succ, List.replicate_succ, List.replicate_zero, List.getElem?_cons_zero, List.getElem?_cons_succ, List.drop_succ_cons, List.drop_zero, List.take_succ_cons, List.take_zero]
  · exact bool_eq (by simp at h; simp [h])
  · simp at h; simp; omega

theorem unless_s (ok : Bool) (e : Int) : Sound Try.prog 91 [.bool ok, .int .i64 e] (.int .i64 (if ok then 0 else e)) := by
  refine sound_W f_watch_unless (Nat.le_of_ble_eq_true rfl) ?_
  simp only [c_watch_unless, vcC, Int.reduceEq, Int.reduceNe, Int.reduceLT, Int.reduceLE, Nat.reduceEqDiff, Nat.reduceAdd, reduceIte, reduceCtorEq, Nat.reduceLT, Nat.reduceLeDiff, eq_self, Option.bind_some, Option.map_some, List.map_cons, List.map_nil, List.length_cons, List.length_nil, Option.getD_some, Option.getD_none, List.all_cons, List.all_nil, List.set_cons_zero, List.set_cons_succ, List.replicate_succ, List.replicate_zero, List.getElem?_cons_zero, List.getElem?_cons_succ, List.drop_succ_cons, List.drop_zero, List.take_succ_cons, List.take_zero]
  refine brB_split (fun h => ?_) (fun h => ?_) <;> subst h <;> simp only [vcC, Int.reduceEq, Int.reduceNe, Int.reduceLT, Int.reduceLE, Nat.reduceEqDiff, Nat.reduceAdd, reduceIte, reduceCtorEq, Nat.reduceLT, Nat.reduceLeDiff, eq_self, Option.bind_some, Option.map_some, List.map_cons, List.map_nil, List.length_cons, List.length_nil, Option.getD_some, Option.getD_none, List.all_cons, List.all_nil, List.set_cons_zero, List.set_cons_succ, List.replicate_succ, List.replicate_zero, List.getElem?_cons_zero, List.getElem?_cons_succ, List.drop_succ_cons, List.drop_zero, List.take_succ_cons, List.take_zero]

def firstErr (l : List Int) : Int := (l.find? (· ≠ 0)).getD 0

theorem first_s (l : List Int) (hl : l.length < 4000000000000000000) : Sound Try.prog 89 [.sl (ints l)] (.int .i64 (firstErr l)) := by
  refine sound_W f_watch_first (Nat.le_of_ble_eq_true rfl) ?_
  simp only [c_watch_first, vcC, Int.reduceEq, Int.reduceNe, Int.reduceLT, Int.reduceLE, Nat.reduceEqDiff, Nat.reduceAdd, reduceIte, reduceCtorEq, Nat.reduceLT, Nat.reduceLeDiff, eq_self, Option.bind_some, Option.map_some, List.map_cons, List.map_nil, List.length_cons, List.length_nil, Option.getD_some, Option.getD_none, List.all_cons, List.all_nil, List.set_cons_zero, List.set_cons_succ, List.replicate_succ, List.replicate_zero, List.getElem?_cons_zero, List.getElem?_cons_succ, List.drop_succ_cons, List.drop_zero, List.take_succ_cons, List.take_zero]
  refine W_loop (α := PSigma fun i : Nat => i ≤ l.length ∧ ∀ x ∈ l.take i, x = 0) (fun i => (envOf [(5, .sl (ints l)), (6, .int .i64 l.length), (7, .int .i64 i.1)], noStore)) (fun i => l.length - i.1) ⟨0, by simp⟩ (weakE _ ?_) (fun ⟨i, hi, hn⟩ => ?_)
  · simp only [vcC, Int.reduceEq, Int.reduceNe, Int.reduceLT, Int.reduceLE, Nat.reduceEqDiff, Nat.reduceAdd, reduceIte, reduceCtorEq, Nat.reduceLT, Nat.reduceLeDiff, eq_self, Option.bind_some, Option.map_some, List.map_cons, List.map_nil, List.length_cons, List.length_nil, Option.getD_some, Option.getD_none, List.all_cons, List.all_nil, List.set_cons_zero, List.set_cons_succ, List.replicate_succ, List.replicate_zero, List.getElem?_cons_zero, List.getElem?_cons_succ, List.drop_succ_cons, List.drop_zero, List.take_succ_cons, List.take_zero]; rfl
  · simp only [vcC, Int.reduceEq, Int.reduceNe, Int.reduceLT, Int.reduceLE, Nat.reduceEqDiff, Nat.reduceAdd, reduceIte, reduceCtorEq, Nat.reduceLT, Nat.reduceLeDiff, eq_self, Option.bind_some, Option.map_some, List.map_cons, List.map_nil, List.length_cons, List.length_nil, Option.getD_some, Option.getD_none, List.all_cons, List.all_nil, List.set_cons_zero, List.set_cons_succ, List.replicate_succ, List.replicate_zero, List.getElem?_cons_zero, List.getElem?_cons_succ, List.drop_succ_cons, List.drop_zero, List.take_succ_cons, List.take_zero]
    refine brB_split (fun h => ?_) (fun h => ?_)
    · have h' : i < l.length := by (simp only [decide_eq_true_eq, decide_eq_false_iff_not, Bool.not_true, I64, Bool.not_eq_true', Bool.not_eq_false', bne_iff_ne, beq_iff_eq, ne_eq] at *; omega)
      simp only [ints_get l i h', vcC, Int.reduceEq, Int.reduceNe, Int.reduceLT, Int.reduceLE, Nat.reduceEqDiff, Nat.reduceAdd, reduceIte, reduceCtorEq, Nat.reduceLT, Nat.reduceLeDiff, eq_self, Option.bind_some, Option.map_some, List.map_cons, List.map_nil, List.length_cons, List.length_nil, Option.getD_some, Option.getD_none, List.all_cons, List.all_nil, List.set_cons_zero, List.set_cons_succ, List.replicate_succ, List.replicate_zero, List.getElem?_cons_zero, List.getElem?_cons_succ, List.drop_succ_cons, List.drop_zero, List.take_succ_cons, List.take_zero]
      refine ⟨by omega, ?_⟩
      refine brB_split (fun h => ?_) (fun h => ?_)
      · simp only [vcC, Int.reduceEq, Int.reduceNe, Int.reduceLT, Int.reduceLE, Nat.reduceEqDiff, Nat.reduceAdd, reduceIte, reduceCtorEq, Nat.reduceLT, Nat.reduceLeDiff, eq_self, Option.bind_some, Option.map_some, List.map_cons, List.map_nil, List.length_cons, List.length_nil, Option.getD_some, Option.getD_none, List.all_cons, List.all_nil, List.set_cons_zero, List.set_cons_succ, List.replicate_succ, List.replicate_zero, List.getElem?_cons_zero, List.getElem?_cons_succ, List.drop_succ_cons, List.drop_zero, List.take_succ_cons, List.take_zero]
        have h0 : l[i] ≠ 0 := by simpa using h
        have hs : l.find? (· ≠ 0) = some l[i] := by
          rw [List.find?_eq_some_iff_getElem]
          exact ⟨by simpa using h0, i, h', rfl, fun j hj => by simp [hn l[j] (by rw [List.mem_take_iff_getElem]; exact ⟨j, by omega, rfl⟩)]⟩
        unfold firstErr
        rw [hs]; rfl
      · simp only [vcC, Int.reduceEq, Int.reduceNe, Int.reduceLT, Int.reduceLE, Nat.reduceEqDiff, Nat.reduceAdd, reduceIte, reduceCtorEq, Nat.reduceLT, Nat.reduceLeDiff, eq_self, Option.bind_some, Option.map_some, List.map_cons, List.map_nil, List.length_cons, List.length_nil, Option.getD_some, Option.getD_none, List.all_cons, List.all_nil, List.set_cons_zero, List.set_cons_succ, List.replicate_succ, List.replicate_zero, List.getElem?_cons_zero, List.getElem?_cons_succ, List.drop_succ_cons, List.drop_zero, List.take_succ_cons, List.take_zero]
        refine ⟨by (simp only [decide_eq_true_eq, decide_eq_false_iff_not, Bool.not_true, I64, Bool.not_eq_true', Bool.not_eq_false', bne_iff_ne, beq_iff_eq, ne_eq] at *; omega), ⟨i + 1, by omega, ?_⟩, by simp only; omega, weakE _ ?_⟩
        · rw [List.take_succ_eq_append_getElem h']
          intro x hx
          rcases List.mem_append.1 hx with hx | hx
          · exact hn x hx
          · simp at hx h; rw [hx, h]
        · simp only [vcC, Int.reduceEq, Int.reduceNe, Int.reduceLT, Int.reduceLE, Nat.reduceEqDiff, Nat.reduceAdd, reduceIte, reduceCtorEq, Nat.reduceLT, Nat.reduceLeDiff, eq_self, Option.bind_some, Option.map_some, List.map_cons, List.map_nil, List.length_cons, List.length_nil, Option.getD_some, Option.getD_none, List.all_cons, List.all_nil, List.set_cons_zero, List.set_cons_succ, List.replicate_succ, List.replicate_zero, List.getElem?_cons_zero, List.getElem?_cons_succ, List.drop_succ_cons, List.drop_zero, List.take_succ_cons, List.take_zero]; simp
    · simp only [vcC, Int.reduceEq, Int.reduceNe, Int.reduceLT, Int.reduceLE, Nat.reduceEqDiff, Nat.reduceAdd, reduceIte, reduceCtorEq, Nat.reduceLT, Nat.reduceLeDiff, eq_self, Option.bind_some, Option.map_some, List.map_cons, List.map_nil, List.length_cons, List.length_nil, Option.getD_some, Option.getD_none, List.all_cons, List.all_nil, List.set_cons_zero, List.set_cons_succ, List.replicate_succ, List.replicate_zero, List.getElem?_cons_zero, List.getElem?_cons_succ, List.drop_succ_cons, List.drop_zero, List.take_succ_cons, List.take_zero]
      have : i = l.length := by (simp only [decide_eq_true_eq, decide_eq_false_iff_not, Bool.not_true, I64, Bool.not_eq_true', Bool.not_eq_false', bne_iff_ne, beq_iff_eq, ne_eq] at *; omega)
      subst this
      unfold firstErr
      rw [List.take_length] at hn
      rw [List.find?_eq_none.2 (fun x hx => by simp [hn x hx])]
      rfl

theorem thresholdErr_s (n : Int) : Sound Try.prog 90 [.int .i64 n] (.int .i64 (if 0 ≤ n ∧ n ≤ 100000 then 0 else 2)) := by
  refine sound_W f_watch_thresholdErr (Nat.le_of_ble_eq_true rfl) ?_
  simp only [c_watch_thresholdErr, vcC, Int.reduceEq, Int.reduceNe, Int.reduceLT, Int.reduceLE, Nat.reduceEqDiff, Nat.reduceAdd, reduceIte, reduceCtorEq, Nat.reduceLT, Nat.reduceLeDiff, eq_self, Option.bind_some, Option.map_some, List.map_cons, List.map_nil, List.length_cons, List.length_nil, Option.getD_some, Option.getD_none, List.all_cons, List.all_nil, List.set_cons_zero, List.set_cons_succ, List.replicate_succ, List.replicate_zero, List.getElem?_cons_zero, List.getElem?_cons_succ, List.drop_succ_cons, List.drop_zero, List.take_succ_cons, List.take_zero]
  refine callS_of (within_s _ _ _) ?_
  simp only [vcC, Int.reduceEq, Int.reduceNe, Int.reduceLT, Int.reduceLE, Nat.reduceEqDiff, Nat.reduceAdd, reduceIte, reduceCtorEq, Nat.reduceLT, Nat.reduceLeDiff, eq_self, Option.bind_some, Option.map_some, List.map_cons, List.map_nil, List.length_cons, List.length_nil, Option.getD_some, Option.getD_none, List.all_cons, List.all_nil, List.set_cons_zero, List.set_cons_succ, List.replicate_succ, List.replicate_zero, List.getElem?_cons_zero, List.getElem?_cons_succ, List.drop_succ_cons, List.drop_zero, List.take_succ_cons, List.take_zero]
  refine callS_of (unless_s _ _) ?_
  simp only [vcC, Int.reduceEq, Int.reduceNe, Int.reduceLT, Int.reduceLE, Nat.reduceEqDiff, Nat.reduceAdd, reduceIte, reduceCtorEq, Nat.reduceLT, Nat.reduceLeDiff, eq_self, Option.bind_some, Option.map_some, List.map_cons, List.map_nil, List.length_cons, List.length_nil, Option.getD_some, Option.getD_none, List.all_cons, List.all_nil, List.set_cons_zero, List.set_cons_succ, List.replicate_succ, List.replicate_zero, List.getElem?_cons_zero, List.getElem?_cons_succ, List.drop_succ_cons, List.drop_zero, List.take_succ_cons, List.take_zero]
  simp

theorem odd_1_s (n most : Int) : Sound Try.prog 131 [.int .i64 n, .eptr (.int .i64 most) 0] (.bool (decide (¬ (0 ≤ n ∧ n ≤ most)))) := by
  refine sound_W f_watch_odd_1 (Nat.le_of_ble_eq_true rfl) ?_
  simp only [c_watch_odd_1, vcC, Int.reduceEq, Int.reduceNe, Int.reduceLT, Int.reduceLE, Nat.reduceEqDiff, Nat.reduceAdd, reduceIte, reduceCtorEq, Nat.reduceLT, Nat.reduceLeDiff, eq_self, Option.bind_some, Option.map_some, List.map_cons, List.map_nil, List.length_cons, List.length_nil, Option.getD_some, Option.getD_none, List.all_cons, List.all_nil, List.set_cons_zero, List.set_cons_succ, List.replicate_succ, List.replicate_zero, List.getElem?_cons_zero, List.getElem?_cons_succ, List.drop_succ_cons, List.drop_zero, List.take_succ_cons, List.take_zero]
  refine callS_of (within_s _ _ _) ?_
  simp only [vcC, Int.reduceEq, Int.reduceNe, Int.reduceLT, Int.reduceLE, Nat.reduceEqDiff, Nat.reduceAdd, reduceIte, reduceCtorEq, Nat.reduceLT, Nat.reduceLeDiff, eq_self, Option.bind_some, Option.map_some, List.map_cons, List.map_nil, List.length_cons, List.length_nil, Option.getD_some, Option.getD_none, List.all_cons, List.all_nil, List.set_cons_zero, List.set_cons_succ, List.replicate_succ, List.replicate_zero, List.getElem?_cons_zero, List.getElem?_cons_succ, List.drop_succ_cons, List.drop_zero, List.take_succ_cons, List.take_zero]
  simp only [decide_not]

/-- The first index where it holds, or -1. -/
def idxOf {α : Type} (l : List α) (p : α → Bool) : Int := match l.findIdx? p with
  | some i => i
  | none => -1

theorem map_fx1 {caps : List AV} (h : ∀ c ∈ caps, fx1 c = true) (s : Store) (n : Nat) : caps.map (bor s n) = caps := by
  conv => rhs; rw [← List.map_id caps]
  exact List.map_congr_left fun c hc => (fx1_spec (h c hc)).2 s n

theorem idxFunc_int_s (l : List Int) (f : FuncId) (caps : List AV) (p : Int → Bool) (hl : l.length < 4000000000000000000) (hc : ∀ c ∈ caps, fx1 c = true)
    (hp : ∀ x ∈ l, Sound Try.prog f (.int .i64 x :: caps) (.bool (p x))) : Sound Try.prog 129 [.sl (ints l), .fn f caps] (.int .i64 (idxOf l p)) := by
  refine sound_W f_slices_IndexFunc_int_int (Nat.le_of_ble_eq_true rfl) ?_
  simp only [c_slices_IndexFunc_int_int, vcC, Int.reduceEq, Int.reduceNe, Int.reduceLT, Int.reduceLE, Nat.reduceEqDiff, Nat.reduceAdd, reduceIte, reduceCtorEq, Nat.reduceLT, Nat.reduceLeDiff, eq_self, Option.bind_some, Option.map_some, List.map_cons, List.map_nil, List.length_cons, List.length_nil, Option.getD_some, Option.getD_none, List.all_cons, List.all_nil, List.set_cons_zero, List.set_cons_succ, List.replicate_succ, List.replicate_zero, List.getElem?_cons_zero, List.getElem?_cons_succ, List.drop_succ_cons, List.drop_zero, List.take_succ_cons, List.take_zero]
  refine W_loop (α := PSigma fun i : Nat => i ≤ l.length ∧ ∀ x ∈ l.take i, p x = false) (fun i => (envOf [(0, .sl (ints l)), (1, .fn f caps), (6, .sl (ints l)), (7, .int .i64 l.length), (8, .int .i64 i.1)], noStore)) (fun i => l.length - i.1) ⟨0, by simp⟩ (weakE _ ?_) (fun ⟨i, hi, hn⟩ => ?_)
  · simp only [vcC, Int.reduceEq, Int.reduceNe, Int.reduceLT, Int.reduceLE, Nat.reduceEqDiff, Nat.reduceAdd, reduceIte, reduceCtorEq, Nat.reduceLT, Nat.reduceLeDiff, eq_self, Option.bind_some, Option.map_some, List.map_cons, List.map_nil, List.length_cons, List.length_nil, Option.getD_some, Option.getD_none, List.all_cons, List.all_nil, List.set_cons_zero, List.set_cons_succ, List.replicate_succ, List.replicate_zero, List.getElem?_cons_zero, List.getElem?_cons_succ, List.drop_succ_cons, List.drop_zero, List.take_succ_cons, List.take_zero]; rfl
  · simp only [vcC, Int.reduceEq, Int.reduceNe, Int.reduceLT, Int.reduceLE, Nat.reduceEqDiff, Nat.reduceAdd, reduceIte, reduceCtorEq, Nat.reduceLT, Nat.reduceLeDiff, eq_self, Option.bind_some, Option.map_some, List.map_cons, List.map_nil, List.length_cons, List.length_nil, Option.getD_some, Option.getD_none, List.all_cons, List.all_nil, List.set_cons_zero, List.set_cons_succ, List.replicate_succ, List.replicate_zero, List.getElem?_cons_zero, List.getElem?_cons_succ, List.drop_succ_cons, List.drop_zero, List.take_succ_cons, List.take_zero]
    refine brB_split (fun h => ?_) (fun h => ?_)
    · have h' : i < l.length := by (simp only [decide_eq_true_eq, decide_eq_false_iff_not, Bool.not_true, I64, Bool.not_eq_true', Bool.not_eq_false', bne_iff_ne, beq_iff_eq, ne_eq] at *; omega)
      simp only [ints_get l i h', vcC, Int.reduceEq, Int.reduceNe, Int.reduceLT, Int.reduceLE, Nat.reduceEqDiff, Nat.reduceAdd, reduceIte, reduceCtorEq, Nat.reduceLT, Nat.reduceLeDiff, eq_self, Option.bind_some, Option.map_some, List.map_cons, List.map_nil, List.length_cons, List.length_nil, Option.getD_some, Option.getD_none, List.all_cons, List.all_nil, List.set_cons_zero, List.set_cons_succ, List.replicate_succ, List.replicate_zero, List.getElem?_cons_zero, List.getElem?_cons_succ, List.drop_succ_cons, List.drop_zero, List.take_succ_cons, List.take_zero]
      refine ⟨by omega, ?_⟩
      simp only [List.map_append, List.cons_append, List.nil_append, map_fx1 hc, vcC, Int.reduceEq, Int.reduceNe, Int.reduceLT, Int.reduceLE, Nat.reduceEqDiff, Nat.reduceAdd, reduceIte, reduceCtorEq, Nat.reduceLT, Nat.reduceLeDiff, eq_self, Option.bind_some, Option.map_some, List.map_cons, List.map_nil, List.length_cons, List.length_nil, Option.getD_some, Option.getD_none, List.all_cons, List.all_nil, List.set_cons_zero, List.set_cons_succ, List.replicate_succ, List.replicate_zero, List.getElem?_cons_zero, List.getElem?_cons_succ, List.drop_succ_cons, List.drop_zero, List.take_succ_cons, List.take_zero]
      refine callS_of (hp _ (List.getElem_mem h')) ?_
      simp only [vcC, Int.reduceEq, Int.reduceNe, Int.reduceLT, Int.reduceLE, Nat.reduceEqDiff, Nat.reduceAdd, reduceIte, reduceCtorEq, Nat.reduceLT, Nat.reduceLeDiff, eq_self, Option.bind_some, Option.map_some, List.map_cons, List.map_nil, List.length_cons, List.length_nil, Option.getD_some, Option.getD_none, List.all_cons, List.all_nil, List.set_cons_zero, List.set_cons_succ, List.replicate_succ, List.replicate_zero, List.getElem?_cons_zero, List.getElem?_cons_succ, List.drop_succ_cons, List.drop_zero, List.take_succ_cons, List.take_zero]
      refine brB_split (fun h => ?_) (fun h => ?_)
      · simp only [vcC, Int.reduceEq, Int.reduceNe, Int.reduceLT, Int.reduceLE, Nat.reduceEqDiff, Nat.reduceAdd, reduceIte, reduceCtorEq, Nat.reduceLT, Nat.reduceLeDiff, eq_self, Option.bind_some, Option.map_some, List.map_cons, List.map_nil, List.length_cons, List.length_nil, Option.getD_some, Option.getD_none, List.all_cons, List.all_nil, List.set_cons_zero, List.set_cons_succ, List.replicate_succ, List.replicate_zero, List.getElem?_cons_zero, List.getElem?_cons_succ, List.drop_succ_cons, List.drop_zero, List.take_succ_cons, List.take_zero]
        have hs : l.findIdx? p = some i := by
          rw [List.findIdx?_eq_some_iff_getElem]
          refine ⟨h', h, fun j hj => ?_⟩
          have := hn l[j] (by rw [List.mem_take_iff_getElem]; exact ⟨j, by omega, rfl⟩)
          simp [this]
        simp [idxOf, hs]
      · simp only [vcC, Int.reduceEq, Int.reduceNe, Int.reduceLT, Int.reduceLE, Nat.reduceEqDiff, Nat.reduceAdd, reduceIte, reduceCtorEq, Nat.reduceLT, Nat.reduceLeDiff, eq_self, Option.bind_some, Option.map_some, List.map_cons, List.map_nil, List.length_cons, List.length_nil, Option.getD_some, Option.getD_none, List.all_cons, List.all_nil, List.set_cons_zero, List.set_cons_succ, List.replicate_succ, List.replicate_zero, List.getElem?_cons_zero, List.getElem?_cons_succ, List.drop_succ_cons, List.drop_zero, List.take_succ_cons, List.take_zero]
        refine ⟨by (simp only [decide_eq_true_eq, decide_eq_false_iff_not, Bool.not_true, I64, Bool.not_eq_true', Bool.not_eq_false', bne_iff_ne, beq_iff_eq, ne_eq] at *; omega), ⟨i + 1, by omega, ?_⟩, by simp only; omega, weakE _ ?_⟩
        · rw [List.take_succ_eq_append_getElem h']
          intro x hx
          rcases List.mem_append.1 hx with hx | hx
          · exact hn x hx
          · simp at hx; rw [hx]; exact h
        · simp only [vcC, Int.reduceEq, Int.reduceNe, Int.reduceLT, Int.reduceLE, Nat.reduceEqDiff, Nat.reduceAdd, reduceIte, reduceCtorEq, Nat.reduceLT, Nat.reduceLeDiff, eq_self, Option.bind_some, Option.map_some, List.map_cons, List.map_nil, List.length_cons, List.length_nil, Option.getD_some, Option.getD_none, List.all_cons, List.all_nil, List.set_cons_zero, List.set_cons_succ, List.replicate_succ, List.replicate_zero, List.getElem?_cons_zero, List.getElem?_cons_succ, List.drop_succ_cons, List.drop_zero, List.take_succ_cons, List.take_zero]; simp
    · simp only [vcC, Int.reduceEq, Int.reduceNe, Int.reduceLT, Int.reduceLE, Nat.reduceEqDiff, Nat.reduceAdd, reduceIte, reduceCtorEq, Nat.reduceLT, Nat.reduceLeDiff, eq_self, Option.bind_some, Option.map_some, List.map_cons, List.map_nil, List.length_cons, List.length_nil, Option.getD_some, Option.getD_none, List.all_cons, List.all_nil, List.set_cons_zero, List.set_cons_succ, List.replicate_succ, List.replicate_zero, List.getElem?_cons_zero, List.getElem?_cons_succ, List.drop_succ_cons, List.drop_zero, List.take_succ_cons, List.take_zero]
      have : i = l.length := by (simp only [decide_eq_true_eq, decide_eq_false_iff_not, Bool.not_true, I64, Bool.not_eq_true', Bool.not_eq_false', bne_iff_ne, beq_iff_eq, ne_eq] at *; omega)
      subst this
      rw [List.take_length] at hn
      have hs : l.findIdx? p = none := List.findIdx?_eq_none_iff.2 hn
      simp [idxOf, hs]

theorem idxOf_any {α : Type} (l : List α) (p : α → Bool) : (decide (0 ≤ idxOf l p)) = l.any p := by
  unfold idxOf
  cases h : l.findIdx? p with
  | none =>
    rw [List.findIdx?_eq_none_iff] at h
    have : l.any p = false := by simpa using h
    rw [this]; rfl
  | some i =>
    rw [List.findIdx?_eq_some_iff_getElem] at h
    obtain ⟨hi, hp, _⟩ := h
    have : l.any p = true := List.any_eq_true.2 ⟨_, List.getElem_mem hi, hp⟩
    rw [this]; simp

theorem contFunc_int_s (l : List Int) (f : FuncId) (caps : List AV) (p : Int → Bool) (hl : l.length < 4000000000000000000) (hc : ∀ c ∈ caps, fx1 c = true)
    (hp : ∀ x ∈ l, Sound Try.prog f (.int .i64 x :: caps) (.bool (p x))) : Sound Try.prog 100 [.sl (ints l), .fn f caps] (.bool (l.any p)) := by
  refine sound_W f_slices_ContainsFunc_int_int (Nat.le_of_ble_eq_true rfl) ?_
  simp only [c_slices_ContainsFunc_int_int, map_fx1 hc, vcC, Int.reduceEq, Int.reduceNe, Int.reduceLT, Int.reduceLE, Nat.reduceEqDiff, Nat.reduceAdd, reduceIte, reduceCtorEq, Nat.reduceLT, Nat.reduceLeDiff, eq_self, Option.bind_some, Option.map_some, List.map_cons, List.map_nil, List.length_cons, List.length_nil, Option.getD_some, Option.getD_none, List.all_cons, List.all_nil, List.set_cons_zero, List.set_cons_succ, List.replicate_succ, List.replicate_zero, List.getElem?_cons_zero, List.getElem?_cons_succ, List.drop_succ_cons, List.drop_zero, List.take_succ_cons, List.take_zero]
  refine callS_of (idxFunc_int_s l f caps p hl hc hp) ?_
  simp only [vcC, Int.reduceEq, Int.reduceNe, Int.reduceLT, Int.reduceLE, Nat.reduceEqDiff, Nat.reduceAdd, reduceIte, reduceCtorEq, Nat.reduceLT, Nat.reduceLeDiff, eq_self, Option.bind_some, Option.map_some, List.map_cons, List.map_nil, List.length_cons, List.length_nil, Option.getD_some, Option.getD_none, List.all_cons, List.all_nil, List.set_cons_zero, List.set_cons_succ, List.replicate_succ, List.replicate_zero, List.getElem?_cons_zero, List.getElem?_cons_succ, List.drop_succ_cons, List.drop_zero, List.take_succ_cons, List.take_zero]
  rw [idxOf_any]

theorem odd_s (l : List Int) (most : Int) (hl : l.length < 4000000000000000000) : Sound Try.prog 105 [.sl (ints l), .int .i64 most] (.bool (!l.all fun n => decide (0 ≤ n ∧ n ≤ most))) := by
  refine sound_W f_watch_odd (Nat.le_of_ble_eq_true rfl) ?_
  simp only [c_watch_odd, vcC, Int.reduceEq, Int.reduceNe, Int.reduceLT, Int.reduceLE, Nat.reduceEqDiff, Nat.reduceAdd, reduceIte, reduceCtorEq, Nat.reduceLT, Nat.reduceLeDiff, eq_self, Option.bind_some, Option.map_some, List.map_cons, List.map_nil, List.length_cons, List.length_nil, Option.getD_some, Option.getD_none, List.all_cons, List.all_nil, List.set_cons_zero, List.set_cons_succ, List.replicate_succ, List.replicate_zero, List.getElem?_cons_zero, List.getElem?_cons_succ, List.drop_succ_cons, List.drop_zero, List.take_succ_cons, List.take_zero]
  refine callS_of (contFunc_int_s l _ _ (fun n => decide (¬ (0 ≤ n ∧ n ≤ most))) hl (by simp [fx1]) (fun x _ => odd_1_s x most)) ?_
  simp only [vcC, Int.reduceEq, Int.reduceNe, Int.reduceLT, Int.reduceLE, Nat.reduceEqDiff, Nat.reduceAdd, reduceIte, reduceCtorEq, Nat.reduceLT, Nat.reduceLeDiff, eq_self, Option.bind_some, Option.map_some, List.map_cons, List.map_nil, List.length_cons, List.length_nil, Option.getD_some, Option.getD_none, List.all_cons, List.all_nil, List.set_cons_zero, List.set_cons_succ, List.replicate_succ, List.replicate_zero, List.getElem?_cons_zero, List.getElem?_cons_succ, List.drop_succ_cons, List.drop_zero, List.take_succ_cons, List.take_zero]
  congr 1
  rw [List.not_all_eq_any_not]
  simp only [decide_not]

theorem first2_s (a b : Int) : Sound Try.prog 89 [.sl [.int .i64 a, .int .i64 b]] (.int .i64 (if a ≠ 0 then a else b)) := by
  have h := first_s [a, b] (by simp)
  have e : firstErr [a, b] = if a ≠ 0 then a else b := by
    unfold firstErr
    by_cases ha : a = 0 <;> by_cases hb : b = 0 <;> simp [ha, hb]
  rw [e] at h
  exact h
theorem first3_s (a b c : Int) : Sound Try.prog 89 [.sl [.int .i64 a, .int .i64 b, .int .i64 c]] (.int .i64 (if a ≠ 0 then a else if b ≠ 0 then b else c)) := by
  have h := first_s [a, b, c] (by simp)
  have e : firstErr [a, b, c] = if a ≠ 0 then a else if b ≠ 0 then b else c := by
    unfold firstErr
    by_cases ha : a = 0 <;> by_cases hb : b = 0 <;> by_cases hc : c = 0 <;> simp [ha, hb, hc]
  rw [e] at h
  exact h

def countsE (l : List Int) : Int := if 60 < l.length then 8 else if l.all (fun n => decide (0 ≤ n ∧ n ≤ 1000000)) then 0 else 2
theorem countsErr_s (l : List Int) (hl : l.length < 4000000000000000000) : Sound Try.prog 128 [.sl (ints l)] (.int .i64 (countsE l)) := by
  refine sound_W f_watch_countsErr (Nat.le_of_ble_eq_true rfl) ?_
  simp only [c_watch_countsErr, vcC, Int.reduceEq, Int.reduceNe, Int.reduceLT, Int.reduceLE, Nat.reduceEqDiff, Nat.reduceAdd, reduceIte, reduceCtorEq, Nat.reduceLT, Nat.reduceLeDiff, eq_self, Option.bind_some, Option.map_some, List.map_cons, List.map_nil, List.length_cons, List.length_nil, Option.getD_some, Option.getD_none, List.all_cons, List.all_nil, List.set_cons_zero, List.set_cons_succ, List.replicate_succ, List.replicate_zero, List.getElem?_cons_zero, List.getElem?_cons_succ, List.drop_succ_cons, List.drop_zero, List.take_succ_cons, List.take_zero]
  refine callS_of (unless_s _ _) ?_
  simp only [vcC, Int.reduceEq, Int.reduceNe, Int.reduceLT, Int.reduceLE, Nat.reduceEqDiff, Nat.reduceAdd, reduceIte, reduceCtorEq, Nat.reduceLT, Nat.reduceLeDiff, eq_self, Option.bind_some, Option.map_some, List.map_cons, List.map_nil, List.length_cons, List.length_nil, Option.getD_some, Option.getD_none, List.all_cons, List.all_nil, List.set_cons_zero, List.set_cons_succ, List.replicate_succ, List.replicate_zero, List.getElem?_cons_zero, List.getElem?_cons_succ, List.drop_succ_cons, List.drop_zero, List.take_succ_cons, List.take_zero]
  refine callS_of (odd_s _ _ hl) ?_
  simp only [vcC, Int.reduceEq, Int.reduceNe, Int.reduceLT, Int.reduceLE, Nat.reduceEqDiff, Nat.reduceAdd, reduceIte, reduceCtorEq, Nat.reduceLT, Nat.reduceLeDiff, eq_self, Option.bind_some, Option.map_some, List.map_cons, List.map_nil, List.length_cons, List.length_nil, Option.getD_some, Option.getD_none, List.all_cons, List.all_nil, List.set_cons_zero, List.set_cons_succ, List.replicate_succ, List.replicate_zero, List.getElem?_cons_zero, List.getElem?_cons_succ, List.drop_succ_cons, List.drop_zero, List.take_succ_cons, List.take_zero]
  refine callS_of (unless_s _ _) ?_
  simp only [vcC, Int.reduceEq, Int.reduceNe, Int.reduceLT, Int.reduceLE, Nat.reduceEqDiff, Nat.reduceAdd, reduceIte, reduceCtorEq, Nat.reduceLT, Nat.reduceLeDiff, eq_self, Option.bind_some, Option.map_some, List.map_cons, List.map_nil, List.length_cons, List.length_nil, Option.getD_some, Option.getD_none, List.all_cons, List.all_nil, List.set_cons_zero, List.set_cons_succ, List.replicate_succ, List.replicate_zero, List.getElem?_cons_zero, List.getElem?_cons_succ, List.drop_succ_cons, List.drop_zero, List.take_succ_cons, List.take_zero]
  refine callS_of (first2_s _ _) ?_
  simp only [vcC, Int.reduceEq, Int.reduceNe, Int.reduceLT, Int.reduceLE, Nat.reduceEqDiff, Nat.reduceAdd, reduceIte, reduceCtorEq, Nat.reduceLT, Nat.reduceLeDiff, eq_self, Option.bind_some, Option.map_some, List.map_cons, List.map_nil, List.length_cons, List.length_nil, Option.getD_some, Option.getD_none, List.all_cons, List.all_nil, List.set_cons_zero, List.set_cons_succ, List.replicate_succ, List.replicate_zero, List.getElem?_cons_zero, List.getElem?_cons_succ, List.drop_succ_cons, List.drop_zero, List.take_succ_cons, List.take_zero]
  unfold countsE
  congr 1
  by_cases h : l.length ≤ 60
  · have : ¬ 60 < l.length := by omega
    have h2 : (l.length : Int) ≤ 60 := by omega
    simp only [h2, this, decide_true, if_true, if_false, ne_eq, not_true_eq_false, Bool.not_not]
  · have : 60 < l.length := by omega
    have h2 : ¬ (l.length : Int) ≤ 60 := by omega
    simp [this, h2]
end Go.Proofs.Ytaebfjepacnmhaa

/- Contracts of the small functions of the base. By an AI agent; nothing here is trusted. -/
namespace Go.Proofs.Ytaebfjepacnmhaa
open Go.Av

theorem Within_s (n lo hi : Int) : Sound Try.prog 19 [.int .i64 n, .int .i64 lo, .int .i64 hi] (.bool (decide (lo ≤ n ∧ n ≤ hi))) := by
  refine sound_W f_base_Within (Nat.le_of_ble_eq_true rfl) ?_
  simp only [c_base_Within, vcC, Int.reduceEq, Int.reduceNe, Int.reduceLT, Int.reduceLE, Nat.reduceEqDiff, Nat.reduceAdd, reduceIte, reduceCtorEq, Nat.reduceLT, Nat.reduceLeDiff, eq_self, Option.bind_some, Option.map_some, List.map_cons, List.map_nil, List.length_cons, List.length_nil, Option.getD_some, Option.getD_none, List.all_cons, List.all_nil, List.set_cons_zero, List.set_cons_succ, List.replicate_succ, List.replicate_zero, List.getElem?_cons_zero, List.getElem?_cons_succ, List.drop_succ_cons, List.drop_zero, List.take_succ_cons, List.take_zero]
  refine brB_split (fun h => ?_) (fun h => ?_) <;> simp only [h, vcC, Int.reduceEq, Int.reduceNe, Int.reduceLT, Int.reduceLE, Nat.reduceEqDiff, Nat.reduceAdd, reduceIte, reduceCtorEq, Nat.reduceLT, Nat.reduceLeDiff, eq_self, Option.bind_some, Option.map_some, List.map_cons, List.map_nil, List.length_cons, List.length_nil, Option.getD_some, Option.getD_none, List.all_cons, List.all_nil, List.set_cons_zero, List.set_cons_succ, List.replicate_succ, List.replicate_zero, List.getElem?_cons_zero, List.getElem?_cons_succ, List.drop_succ_cons, List.drop_zero, List.take_succ_cons, List.take_zero]
  · exact bool_eq (by simp at h; simp [h])
  · simp at h; simp; omega

theorem tdiv_floor (n by_ : Int) (hb : 0 < by_) : (if n.tmod by_ < 0 then n.tdiv by_ - 1 else n.tdiv by_) = n / by_ := by
  have h1 := Int.mul_tdiv_add_tmod n by_
  have h2 : n.tmod by_ < by_ := Int.tmod_lt_of_pos n hb
  have h3 : -by_ < n.tmod by_ := by
    have := Int.lt_tmod_of_pos n hb
    omega
  split
  · rename_i h
    symm
    rw [Int.ediv_eq_iff_of_pos hb]
    constructor
    · rw [Int.sub_mul]; rw [Int.mul_comm] at h1; omega
    · rw [Int.sub_mul]; rw [Int.mul_comm] at h1; omega
  · symm
    rw [Int.ediv_eq_iff_of_pos hb]
    rw [Int.mul_comm] at h1
    constructor
    · omega
    · omega

theorem tdiv_I64 {n by_ : Int} (hn : I64 n) (hb : 0 < by_) : -9223372036854775808 ≤ n.tdiv by_ ∧ n.tdiv by_ ≤ 9223372036854775807 ∧ (n.tmod by_ < 0 → -9223372036854775807 ≤ n.tdiv by_) := by
  have h1 := Int.mul_tdiv_add_tmod n by_
  have h2 : n.tmod by_ < by_ := Int.tmod_lt_of_pos n hb
  have h3 : -by_ < n.tmod by_ := Int.lt_tmod_of_pos n hb
  have ha : (n.tdiv by_).natAbs ≤ n.natAbs := by
    rw [Int.natAbs_tdiv]; exact Nat.div_le_self _ _
  obtain ⟨q1, q2⟩ := hn
  have hu : n.tdiv by_ ≤ 9223372036854775807 := by
    by_cases hn0 : 0 ≤ n
    · omega
    · have : n.tdiv by_ ≤ 0 := by
        have := Int.tdiv_nonneg (a := -n) (b := by_) (by omega) (by omega)
        rw [Int.neg_tdiv] at this; omega
      omega
  refine ⟨by omega, hu, fun h => ?_⟩
  by_cases hb1 : by_ = 1
  · subst hb1; rw [Int.tmod_one] at h; omega
  · have : (n.tdiv by_).natAbs ≤ n.natAbs / 2 := by
      rw [Int.natAbs_tdiv]
      exact Nat.div_le_div_left (by omega) (by omega)
    omega

theorem Floor_s (n by_ : Int) (hn : I64 n) (hb : 0 < by_) : Sound Try.prog 93 [.int .i64 n, .int .i64 by_] (.int .i64 (n / by_)) := by
  refine sound_W f_base_Floor (Nat.le_of_ble_eq_true rfl) ?_
  obtain ⟨h1, h2, h3⟩ := tdiv_I64 hn hb
  have h0 := tdiv_floor n by_ hb
  simp only [c_base_Floor, vcC, Int.reduceEq, Int.reduceNe, Int.reduceLT, Int.reduceLE, Nat.reduceEqDiff, Nat.reduceAdd, reduceIte, reduceCtorEq, Nat.reduceLT, Nat.reduceLeDiff, eq_self, Option.bind_some, Option.map_some, List.map_cons, List.map_nil, List.length_cons, List.length_nil, Option.getD_some, Option.getD_none, List.all_cons, List.all_nil, List.set_cons_zero, List.set_cons_succ, List.replicate_succ, List.replicate_zero, List.getElem?_cons_zero, List.getElem?_cons_succ, List.drop_succ_cons, List.drop_zero, List.take_succ_cons, List.take_zero]
  refine ⟨by omega, by (simp only [decide_eq_true_eq, decide_eq_false_iff_not, Bool.not_true, I64, Bool.not_eq_true', Bool.not_eq_false', bne_iff_ne, beq_iff_eq, ne_eq] at *; omega), by omega, ?_⟩
  refine brB_split (fun h => ?_) (fun h => ?_)
  · have h' : n.tmod by_ < 0 := by simpa using h
    rw [if_pos h'] at h0
    simp only [h, vcC, Int.reduceEq, Int.reduceNe, Int.reduceLT, Int.reduceLE, Nat.reduceEqDiff, Nat.reduceAdd, reduceIte, reduceCtorEq, Nat.reduceLT, Nat.reduceLeDiff, eq_self, Option.bind_some, Option.map_some, List.map_cons, List.map_nil, List.length_cons, List.length_nil, Option.getD_some, Option.getD_none, List.all_cons, List.all_nil, List.set_cons_zero, List.set_cons_succ, List.replicate_succ, List.replicate_zero, List.getElem?_cons_zero, List.getElem?_cons_succ, List.drop_succ_cons, List.drop_zero, List.take_succ_cons, List.take_zero]
    refine ⟨by have := h3 h'; (simp only [decide_eq_true_eq, decide_eq_false_iff_not, Bool.not_true, I64, Bool.not_eq_true', Bool.not_eq_false', bne_iff_ne, beq_iff_eq, ne_eq] at *; omega), ?_⟩
    rw [h0]
  · have h' : ¬ n.tmod by_ < 0 := by simpa using h
    rw [if_neg h'] at h0
    simp only [h, vcC, Int.reduceEq, Int.reduceNe, Int.reduceLT, Int.reduceLE, Nat.reduceEqDiff, Nat.reduceAdd, reduceIte, reduceCtorEq, Nat.reduceLT, Nat.reduceLeDiff, eq_self, Option.bind_some, Option.map_some, List.map_cons, List.map_nil, List.length_cons, List.length_nil, Option.getD_some, Option.getD_none, List.all_cons, List.all_nil, List.set_cons_zero, List.set_cons_succ, List.replicate_succ, List.replicate_zero, List.getElem?_cons_zero, List.getElem?_cons_succ, List.drop_succ_cons, List.drop_zero, List.take_succ_cons, List.take_zero]
    rw [h0]

theorem Ceil_s (n by_ : Int) (hn : I64 n) (hn' : I64 (-n)) (hb : 0 < by_) (hr : I64 (-(-n / by_))) : Sound Try.prog 94 [.int .i64 n, .int .i64 by_] (.int .i64 (-(-n / by_))) := by
  refine sound_W f_base_Ceil (Nat.le_of_ble_eq_true rfl) ?_
  simp only [c_base_Ceil, vcC, Int.reduceEq, Int.reduceNe, Int.reduceLT, Int.reduceLE, Nat.reduceEqDiff, Nat.reduceAdd, reduceIte, reduceCtorEq, Nat.reduceLT, Nat.reduceLeDiff, eq_self, Option.bind_some, Option.map_some, List.map_cons, List.map_nil, List.length_cons, List.length_nil, Option.getD_some, Option.getD_none, List.all_cons, List.all_nil, List.set_cons_zero, List.set_cons_succ, List.replicate_succ, List.replicate_zero, List.getElem?_cons_zero, List.getElem?_cons_succ, List.drop_succ_cons, List.drop_zero, List.take_succ_cons, List.take_zero]
  refine ⟨hn', ?_⟩
  refine callS_of (Floor_s _ _ hn' hb) ?_
  simp only [vcC, Int.reduceEq, Int.reduceNe, Int.reduceLT, Int.reduceLE, Nat.reduceEqDiff, Nat.reduceAdd, reduceIte, reduceCtorEq, Nat.reduceLT, Nat.reduceLeDiff, eq_self, Option.bind_some, Option.map_some, List.map_cons, List.map_nil, List.length_cons, List.length_nil, Option.getD_some, Option.getD_none, List.all_cons, List.all_nil, List.set_cons_zero, List.set_cons_succ, List.replicate_succ, List.replicate_zero, List.getElem?_cons_zero, List.getElem?_cons_succ, List.drop_succ_cons, List.drop_zero, List.take_succ_cons, List.take_zero]
  exact hr
end Go.Proofs.Ytaebfjepacnmhaa

/- Contracts: rules, windows, alarms. By an AI agent; nothing here is trusted. -/
namespace Go.Proofs.Ytaebfjepacnmhaa
open Go.Av

structure Rule where
  mean : Int
  spread : Int
  window : Int
  limit : Int
def Rule.av (r : Rule) : AV := .agg [.int .i64 r.mean, .int .i64 r.spread, .int .i64 r.window, .int .i64 r.limit]
def Rule.ok (r : Rule) : Prop := (0 ≤ r.mean ∧ r.mean ≤ 1000000) ∧ (1 ≤ r.spread ∧ r.spread ≤ 1000000) ∧ (1 ≤ r.window ∧ r.window ≤ 60) ∧ (0 ≤ r.limit ∧ r.limit ≤ 1000)
instance (r : Rule) : Decidable r.ok := by unfold Rule.ok; exact inferInstance
def ruleE (r : Rule) : Int := if r.ok then 0 else 2

theorem CheckRule_s (r : Rule) : Sound Try.prog 65 [r.av] (.int .i64 (ruleE r)) := by
  refine sound_W f_watch_CheckRule (Nat.le_of_ble_eq_true rfl) ?_
  simp only [c_watch_CheckRule, Rule.av, vcC, Int.reduceEq, Int.reduceNe, Int.reduceLT, Int.reduceLE, Nat.reduceEqDiff, Nat.reduceAdd, reduceIte, reduceCtorEq, Nat.reduceLT, Nat.reduceLeDiff, eq_self, Option.bind_some, Option.map_some, List.map_cons, List.map_nil, List.length_cons, List.length_nil, Option.getD_some, Option.getD_none, List.all_cons, List.all_nil, List.set_cons_zero, List.set_cons_succ, List.replicate_succ, List.replicate_zero, List.getElem?_cons_zero, List.getElem?_cons_succ, List.drop_succ_cons, List.drop_zero, List.take_succ_cons, List.take_zero]
  repeat' first | (refine callS_of (within_s _ _ _) ?_; simp only [vcC, Int.reduceEq, Int.reduceNe, Int.reduceLT, Int.reduceLE, Nat.reduceEqDiff, Nat.reduceAdd, reduceIte, reduceCtorEq, Nat.reduceLT, Nat.reduceLeDiff, eq_self, Option.bind_some, Option.map_some, List.map_cons, List.map_nil, List.length_cons, List.length_nil, Option.getD_some, Option.getD_none, List.all_cons, List.all_nil, List.set_cons_zero, List.set_cons_succ, List.replicate_succ, List.replicate_zero, List.getElem?_cons_zero, List.getElem?_cons_succ, List.drop_succ_cons, List.drop_zero, List.take_succ_cons, List.take_zero]) | (refine callS_of (unless_s _ _) ?_; simp only [vcC, Int.reduceEq, Int.reduceNe, Int.reduceLT, Int.reduceLE, Nat.reduceEqDiff, Nat.reduceAdd, reduceIte, reduceCtorEq, Nat.reduceLT, Nat.reduceLeDiff, eq_self, Option.bind_some, Option.map_some, List.map_cons, List.map_nil, List.length_cons, List.length_nil, Option.getD_some, Option.getD_none, List.all_cons, List.all_nil, List.set_cons_zero, List.set_cons_succ, List.replicate_succ, List.replicate_zero, List.getElem?_cons_zero, List.getElem?_cons_succ, List.drop_succ_cons, List.drop_zero, List.take_succ_cons, List.take_zero]) | (refine brB_split (fun h => ?_) (fun h => ?_) <;> simp only [h, vcC, Int.reduceEq, Int.reduceNe, Int.reduceLT, Int.reduceLE, Nat.reduceEqDiff, Nat.reduceAdd, reduceIte, reduceCtorEq, Nat.reduceLT, Nat.reduceLeDiff, eq_self, Option.bind_some, Option.map_some, List.map_cons, List.map_nil, List.length_cons, List.length_nil, Option.getD_some, Option.getD_none, List.all_cons, List.all_nil, List.set_cons_zero, List.set_cons_succ, List.replicate_succ, List.replicate_zero, List.getElem?_cons_zero, List.getElem?_cons_succ, List.drop_succ_cons, List.drop_zero, List.take_succ_cons, List.take_zero]) | (refine And.intro ?_ ?_)
  all_goals (congr 1; simp only [ruleE, Rule.ok]; simp only [decide_eq_true_eq, Bool.not_true, decide_eq_false_iff_not] at *; simp [*])

theorem bothErr_s (r : Rule) (l : List Int) (hl : l.length < 4000000000000000000) : Sound Try.prog 95 [r.av, .sl (ints l)] (.int .i64 (if ruleE r ≠ 0 then ruleE r else countsE l)) := by
  refine sound_W f_watch_bothErr (Nat.le_of_ble_eq_true rfl) ?_
  simp only [c_watch_bothErr, Rule.av, vcC, Int.reduceEq, Int.reduceNe, Int.reduceLT, Int.reduceLE, Nat.reduceEqDiff, Nat.reduceAdd, reduceIte, reduceCtorEq, Nat.reduceLT, Nat.reduceLeDiff, eq_self, Option.bind_some, Option.map_some, List.map_cons, List.map_nil, List.length_cons, List.length_nil, Option.getD_some, Option.getD_none, List.all_cons, List.all_nil, List.set_cons_zero, List.set_cons_succ, List.replicate_succ, List.replicate_zero, List.getElem?_cons_zero, List.getElem?_cons_succ, List.drop_succ_cons, List.drop_zero, List.take_succ_cons, List.take_zero]
  repeat' first | (refine callS_of (CheckRule_s r) ?_; simp only [vcC, Int.reduceEq, Int.reduceNe, Int.reduceLT, Int.reduceLE, Nat.reduceEqDiff, Nat.reduceAdd, reduceIte, reduceCtorEq, Nat.reduceLT, Nat.reduceLeDiff, eq_self, Option.bind_some, Option.map_some, List.map_cons, List.map_nil, List.length_cons, List.length_nil, Option.getD_some, Option.getD_none, List.all_cons, List.all_nil, List.set_cons_zero, List.set_cons_succ, List.replicate_succ, List.replicate_zero, List.getElem?_cons_zero, List.getElem?_cons_succ, List.drop_succ_cons, List.drop_zero, List.take_succ_cons, List.take_zero]) | (refine callS_of (countsErr_s l hl) ?_; simp only [vcC, Int.reduceEq, Int.reduceNe, Int.reduceLT, Int.reduceLE, Nat.reduceEqDiff, Nat.reduceAdd, reduceIte, reduceCtorEq, Nat.reduceLT, Nat.reduceLeDiff, eq_self, Option.bind_some, Option.map_some, List.map_cons, List.map_nil, List.length_cons, List.length_nil, Option.getD_some, Option.getD_none, List.all_cons, List.all_nil, List.set_cons_zero, List.set_cons_succ, List.replicate_succ, List.replicate_zero, List.getElem?_cons_zero, List.getElem?_cons_succ, List.drop_succ_cons, List.drop_zero, List.take_succ_cons, List.take_zero]) | (refine callS_of (first2_s _ _) ?_; simp only [vcC, Int.reduceEq, Int.reduceNe, Int.reduceLT, Int.reduceLE, Nat.reduceEqDiff, Nat.reduceAdd, reduceIte, reduceCtorEq, Nat.reduceLT, Nat.reduceLeDiff, eq_self, Option.bind_some, Option.map_some, List.map_cons, List.map_nil, List.length_cons, List.length_nil, Option.getD_some, Option.getD_none, List.all_cons, List.all_nil, List.set_cons_zero, List.set_cons_succ, List.replicate_succ, List.replicate_zero, List.getElem?_cons_zero, List.getElem?_cons_succ, List.drop_succ_cons, List.drop_zero, List.take_succ_cons, List.take_zero]) | (refine brB_split (fun h => ?_) (fun h => ?_) <;> simp only [h, vcC, Int.reduceEq, Int.reduceNe, Int.reduceLT, Int.reduceLE, Nat.reduceEqDiff, Nat.reduceAdd, reduceIte, reduceCtorEq, Nat.reduceLT, Nat.reduceLeDiff, eq_self, Option.bind_some, Option.map_some, List.map_cons, List.map_nil, List.length_cons, List.length_nil, Option.getD_some, Option.getD_none, List.all_cons, List.all_nil, List.set_cons_zero, List.set_cons_succ, List.replicate_succ, List.replicate_zero, List.getElem?_cons_zero, List.getElem?_cons_succ, List.drop_succ_cons, List.drop_zero, List.take_succ_cons, List.take_zero]) | (refine And.intro ?_ ?_)
end Go.Proofs.Ytaebfjepacnmhaa

/- Contracts: windows. By an AI agent; nothing here is trusted. -/

namespace Go.Proofs.Ytaebfjepacnmhaa
open Go.Av

/-- Counts less the mean, of the first k bins. -/
def preSum (mean : Int) (l : List Int) (k : Nat) : Int := (l.take k).sum - k * mean
def excess (r : Rule) (l : List Int) (b : Nat) : Int := preSum r.mean l (b + 1) - preSum r.mean l (b + 1 - r.window.toNat)
def winsTo (r : Rule) (l : List Int) (n : Nat) : List (Nat × Int) := ((List.range n).filter fun b => decide (r.window.toNat ≤ b + 1)).map fun b => (b, excess r l b)
def wins (r : Rule) (l : List Int) : List (Nat × Int) := winsTo r l l.length
def winA (p : Nat × Int) : List AV := [.int .i64 p.1, .int .i64 p.2]

theorem preSum_succ (mean : Int) (l : List Int) (k : Nat) (h : k < l.length) : preSum mean l (k + 1) = preSum mean l k + (l[k] - mean) := by
  unfold preSum
  rw [List.take_succ_eq_append_getElem h, List.sum_append]
  simp
  rw [Int.add_mul]
  omega

theorem countsE_ok {l : List Int} (h : countsE l = 0) : l.length ≤ 60 ∧ ∀ x ∈ l, 0 ≤ x ∧ x ≤ 1000000 := by
  unfold countsE at h
  split at h
  · cases h
  · split at h
    · rename_i h1 h2
      exact ⟨by omega, fun x hx => by simpa using List.all_eq_true.1 h2 x hx⟩
    · cases h
theorem ruleE_ok {r : Rule} (h : ruleE r = 0) : r.ok := by
  unfold ruleE at h
  split at h
  · assumption
  · cases h

theorem preSum_bound {mean : Int} {l : List Int} (hm : 0 ≤ mean ∧ mean ≤ 1000000) (hl : ∀ x ∈ l, 0 ≤ x ∧ x ≤ 1000000) : ∀ k, k ≤ l.length → -(1000000 * (k : Int)) ≤ preSum mean l k ∧ preSum mean l k ≤ 1000000 * (k : Int)
  | 0, _ => by simp [preSum]
  | k + 1, h => by
    have ih := preSum_bound hm hl k (by omega)
    have hx := hl l[k] (List.getElem_mem (by omega))
    rw [preSum_succ mean l k (by omega)]
    omega

theorem winsTo_succ (r : Rule) (l : List Int) (i : Nat) : winsTo r l (i + 1) = if r.window.toNat ≤ i + 1 then winsTo r l i ++ [(i, excess r l i)] else winsTo r l i := by
  unfold winsTo
  rw [List.range_succ, List.filter_append, List.map_append]
  by_cases h : r.window.toNat ≤ i + 1
  · rw [if_pos h, List.filter_cons_of_pos (by simpa using h)]; rfl
  · rw [if_neg h, List.filter_cons_of_neg (by simpa using h)]; simp
theorem winsTo_le (r : Rule) (l : List Int) (i n : Nat) (h : i ≤ n) : ∃ rest, winsTo r l n = winsTo r l i ++ rest := by
  obtain ⟨k, rfl⟩ := Nat.exists_eq_add_of_le h
  induction k with
  | zero => exact ⟨[], by simp⟩
  | succ k ih =>
    obtain ⟨rest, hr⟩ := ih (by omega)
    rw [← Nat.add_assoc, winsTo_succ]
    split
    · exact ⟨rest ++ [(i + k, excess r l (i + k))], by rw [hr, List.append_assoc]⟩
    · exact ⟨rest, hr⟩

theorem deadAll_no : deadAll noStore = noStore := rfl

theorem windows_1_s (r : Rule) (hr : r.ok) (l : List Int) (hl : countsE l = 0) : SeqA Try.prog 135 [.eptr (.sl (ints l)) 0, .eptr r.av 0] ((wins r l).map winA) := by
  refine seq_W f_watch_windows_1 (Nat.le_of_ble_eq_true rfl) fun y => ?_
  obtain ⟨hlen, hel⟩ := countsE_ok hl
  obtain ⟨hm, _, hw, _⟩ := hr
  have hb := preSum_bound (mean := r.mean) hm hel
  simp only [c_watch_windows_1, Rule.av, vcC, Int.reduceEq, Int.reduceNe, Int.reduceLT, Int.reduceLE, Nat.reduceEqDiff, Nat.reduceAdd, reduceIte, reduceCtorEq, Nat.reduceLT, Nat.reduceLeDiff, eq_self, Option.bind_some, Option.map_some, List.map_cons, List.map_nil, List.length_cons, List.length_nil, Option.getD_some, Option.getD_none, List.all_cons, List.all_nil, List.set_cons_zero, List.set_cons_succ, List.replicate_succ, List.replicate_zero, List.getElem?_cons_zero, List.getElem?_cons_succ, List.drop_succ_cons, List.drop_zero, List.take_succ_cons, List.take_zero, WY_skip, WY_reg, WY_regY, WY_seq, WY_cond, WY_block, WY_exit, WY_ret, VY_nil, VY_yld, VY_yldg, VY_ps, seqY_n, seqY_r, seqY_x, blockY_n, blockY_r, blockY_x, isCallvs, isCallv, isY, List.any_cons, List.any_nil, Bool.or_false, Bool.or_true, Bool.false_or, Bool.and_false, Bool.false_and]
  refine WY_loop (α := PSigma fun i : Nat => i ≤ l.length) (fun i => ((envOf [(0, .yld y), (1, .eptr (.sl (ints l)) 0), (2, .eptr r.av 0), (4, .int .i64 (preSum r.mean l i.1 - preSum r.mean l (i.1 - r.window.toNat))), (7, .sl (ints l)), (8, .int .i64 l.length), (9, .int .i64 i.1)], noStore), some ((winsTo r l i.1).map winA)))
    (fun i => l.length - i.1) ⟨0, by simp⟩ (weakE _ ?_) ?_ (fun ⟨i, hi⟩ => ?_)
  · simp only [Rule.av, vcC, Int.reduceEq, Int.reduceNe, Int.reduceLT, Int.reduceLE, Nat.reduceEqDiff, Nat.reduceAdd, reduceIte, reduceCtorEq, Nat.reduceLT, Nat.reduceLeDiff, eq_self, Option.bind_some, Option.map_some, List.map_cons, List.map_nil, List.length_cons, List.length_nil, Option.getD_some, Option.getD_none, List.all_cons, List.all_nil, List.set_cons_zero, List.set_cons_succ, List.replicate_succ, List.replicate_zero, List.getElem?_cons_zero, List.getElem?_cons_succ, List.drop_succ_cons, List.drop_zero, List.take_succ_cons, List.take_zero, WY_skip, WY_reg, WY_regY, WY_seq, WY_cond, WY_block, WY_exit, WY_ret, VY_nil, VY_yld, VY_yldg, VY_ps, seqY_n, seqY_r, seqY_x, blockY_n, blockY_r, blockY_x, isCallvs, isCallv, isY, List.any_cons, List.any_nil, Bool.or_false, Bool.or_true, Bool.false_or, Bool.and_false, Bool.false_and]; simp [preSum]
  · simp [winsTo]
  · simp only [Rule.av, vcC, Int.reduceEq, Int.reduceNe, Int.reduceLT, Int.reduceLE, Nat.reduceEqDiff, Nat.reduceAdd, reduceIte, reduceCtorEq, Nat.reduceLT, Nat.reduceLeDiff, eq_self, Option.bind_some, Option.map_some, List.map_cons, List.map_nil, List.length_cons, List.length_nil, Option.getD_some, Option.getD_none, List.all_cons, List.all_nil, List.set_cons_zero, List.set_cons_succ, List.replicate_succ, List.replicate_zero, List.getElem?_cons_zero, List.getElem?_cons_succ, List.drop_succ_cons, List.drop_zero, List.take_succ_cons, List.take_zero, WY_skip, WY_reg, WY_regY, WY_seq, WY_cond, WY_block, WY_exit, WY_ret, VY_nil, VY_yld, VY_yldg, VY_ps, seqY_n, seqY_r, seqY_x, blockY_n, blockY_r, blockY_x, isCallvs, isCallv, isY, List.any_cons, List.any_nil, Bool.or_false, Bool.or_true, Bool.false_or, Bool.and_false, Bool.false_and]
    refine brB_split (fun h => ?_) (fun h => ?_)
    · have h' : i < l.length := by (simp only [decide_eq_true_eq, decide_eq_false_iff_not, Bool.not_true, I64, Bool.not_eq_true', Bool.not_eq_false', bne_iff_ne, beq_iff_eq, ne_eq] at *; omega)
      simp only [ints_get l i h', vcC, Int.reduceEq, Int.reduceNe, Int.reduceLT, Int.reduceLE, Nat.reduceEqDiff, Nat.reduceAdd, reduceIte, reduceCtorEq, Nat.reduceLT, Nat.reduceLeDiff, eq_self, Option.bind_some, Option.map_some, List.map_cons, List.map_nil, List.length_cons, List.length_nil, Option.getD_some, Option.getD_none, List.all_cons, List.all_nil, List.set_cons_zero, List.set_cons_succ, List.replicate_succ, List.replicate_zero, List.getElem?_cons_zero, List.getElem?_cons_succ, List.drop_succ_cons, List.drop_zero, List.take_succ_cons, List.take_zero, WY_skip, WY_reg, WY_regY, WY_seq, WY_cond, WY_block, WY_exit, WY_ret, VY_nil, VY_yld, VY_yldg, VY_ps, seqY_n, seqY_r, seqY_x, blockY_n, blockY_r, blockY_x, isCallvs, isCallv, isY, List.any_cons, List.any_nil, Bool.or_false, Bool.or_true, Bool.false_or, Bool.and_false, Bool.false_and]
      have hx := hel l[i] (List.getElem_mem h')
      have hs1 := preSum_succ r.mean l i h'
      have b1 := hb i hi
      have b2 := hb (i - r.window.toNat) (by omega)
      have b3 := hb (i + 1) h'
      refine ⟨by omega, by (simp only [decide_eq_true_eq, decide_eq_false_iff_not, Bool.not_true, I64, Bool.not_eq_true', Bool.not_eq_false', bne_iff_ne, beq_iff_eq, ne_eq] at *; omega), by (simp only [decide_eq_true_eq, decide_eq_false_iff_not, Bool.not_true, I64, Bool.not_eq_true', Bool.not_eq_false', bne_iff_ne, beq_iff_eq, ne_eq] at *; omega), ?_⟩
      refine brB_split (fun h => ?_) (fun h => ?_)
      · simp only [vcC, Int.reduceEq, Int.reduceNe, Int.reduceLT, Int.reduceLE, Nat.reduceEqDiff, Nat.reduceAdd, reduceIte, reduceCtorEq, Nat.reduceLT, Nat.reduceLeDiff, eq_self, Option.bind_some, Option.map_some, List.map_cons, List.map_nil, List.length_cons, List.length_nil, Option.getD_some, Option.getD_none, List.all_cons, List.all_nil, List.set_cons_zero, List.set_cons_succ, List.replicate_succ, List.replicate_zero, List.getElem?_cons_zero, List.getElem?_cons_succ, List.drop_succ_cons, List.drop_zero, List.take_succ_cons, List.take_zero, WY_skip, WY_reg, WY_regY, WY_seq, WY_cond, WY_block, WY_exit, WY_ret, VY_nil, VY_yld, VY_yldg, VY_ps, seqY_n, seqY_r, seqY_x, blockY_n, blockY_r, blockY_x, isCallvs, isCallv, isY, List.any_cons, List.any_nil, Bool.or_false, Bool.or_true, Bool.false_or, Bool.and_false, Bool.false_and]
        have hw2 : r.window.toNat ≤ i := by (simp only [decide_eq_true_eq, decide_eq_false_iff_not, Bool.not_true, I64, Bool.not_eq_true', Bool.not_eq_false', bne_iff_ne, beq_iff_eq, ne_eq] at *; omega)
        have hgi : ((i : Int) - r.window).toNat = i - r.window.toNat := by omega
        have hget := ints_get l (i - r.window.toNat) (by omega)
        simp only [hgi, hget, vcC, Int.reduceEq, Int.reduceNe, Int.reduceLT, Int.reduceLE, Nat.reduceEqDiff, Nat.reduceAdd, reduceIte, reduceCtorEq, Nat.reduceLT, Nat.reduceLeDiff, eq_self, Option.bind_some, Option.map_some, List.map_cons, List.map_nil, List.length_cons, List.length_nil, Option.getD_some, Option.getD_none, List.all_cons, List.all_nil, List.set_cons_zero, List.set_cons_succ, List.replicate_succ, List.replicate_zero, List.getElem?_cons_zero, List.getElem?_cons_succ, List.drop_succ_cons, List.drop_zero, List.take_succ_cons, List.take_zero, WY_skip, WY_reg, WY_regY, WY_seq, WY_cond, WY_block, WY_exit, WY_ret, VY_nil, VY_yld, VY_yldg, VY_ps, seqY_n, seqY_r, seqY_x, blockY_n, blockY_r, blockY_x, isCallvs, isCallv, isY, List.any_cons, List.any_nil, Bool.or_false, Bool.or_true, Bool.false_or, Bool.and_false, Bool.false_and]
        have hy := hel (l[i - r.window.toNat]'(by omega)) (List.getElem_mem _)
        have hs2 := preSum_succ r.mean l (i - r.window.toNat) (by omega)
        have hii : i - r.window.toNat + 1 = i + 1 - r.window.toNat := by omega
        rw [hii] at hs2
        have b4 := hb (i + 1 - r.window.toNat) (by omega)
        have hs : preSum r.mean l i - preSum r.mean l (i - r.window.toNat) + (l[i] - r.mean) - ((l[i - r.window.toNat]'(by omega)) - r.mean) = preSum r.mean l (i + 1) - preSum r.mean l (i + 1 - r.window.toNat) := by omega
        rw [hs]
        refine ⟨by (simp only [decide_eq_true_eq, decide_eq_false_iff_not, Bool.not_true, I64, Bool.not_eq_true', Bool.not_eq_false', bne_iff_ne, beq_iff_eq, ne_eq] at *; omega), by (simp only [decide_eq_true_eq, decide_eq_false_iff_not, Bool.not_true, I64, Bool.not_eq_true', Bool.not_eq_false', bne_iff_ne, beq_iff_eq, ne_eq] at *; omega), by (simp only [decide_eq_true_eq, decide_eq_false_iff_not, Bool.not_true, I64, Bool.not_eq_true', Bool.not_eq_false', bne_iff_ne, beq_iff_eq, ne_eq] at *; omega), by (simp only [decide_eq_true_eq, decide_eq_false_iff_not, Bool.not_true, I64, Bool.not_eq_true', Bool.not_eq_false', bne_iff_ne, beq_iff_eq, ne_eq] at *; omega), by (simp only [decide_eq_true_eq, decide_eq_false_iff_not, Bool.not_true, I64, Bool.not_eq_true', Bool.not_eq_false', bne_iff_ne, beq_iff_eq, ne_eq] at *; omega), ?_⟩
        refine brB_split (fun h2 => ?_) (fun h2 => ?_)
        · have hwi : r.window.toNat ≤ i + 1 := by (simp only [decide_eq_true_eq, decide_eq_false_iff_not, Bool.not_true, I64, Bool.not_eq_true', Bool.not_eq_false', bne_iff_ne, beq_iff_eq, ne_eq] at *; omega)
          simp only [h2, vcC, Int.reduceEq, Int.reduceNe, Int.reduceLT, Int.reduceLE, Nat.reduceEqDiff, Nat.reduceAdd, reduceIte, reduceCtorEq, Nat.reduceLT, Nat.reduceLeDiff, eq_self, Option.bind_some, Option.map_some, List.map_cons, List.map_nil, List.length_cons, List.length_nil, Option.getD_some, Option.getD_none, List.all_cons, List.all_nil, List.set_cons_zero, List.set_cons_succ, List.replicate_succ, List.replicate_zero, List.getElem?_cons_zero, List.getElem?_cons_succ, List.drop_succ_cons, List.drop_zero, List.take_succ_cons, List.take_zero, WY_skip, WY_reg, WY_regY, WY_seq, WY_cond, WY_block, WY_exit, WY_ret, VY_nil, VY_yld, VY_yldg, VY_ps, seqY_n, seqY_r, seqY_x, blockY_n, blockY_r, blockY_x, isCallvs, isCallv, isY, List.any_cons, List.any_nil, Bool.or_false, Bool.or_true, Bool.false_or, Bool.and_false, Bool.false_and]
          obtain ⟨rest, hrest⟩ := winsTo_le r l (i + 1) l.length (by omega)
          have hx := winsTo_succ r l i
          rw [if_pos hwi] at hx
          rw [hx] at hrest
          have hex : excess r l i = preSum r.mean l (i + 1) - preSum r.mean l (i + 1 - r.window.toNat) := rfl
          rw [← hex]
          refine yS_of ((winsTo r l i).map winA) (rest.map winA) rfl ?_ ?_ ?_
          · unfold wins; rw [hrest]; simp [winA]
          · simp only [deadAll_no, vcC, Int.reduceEq, Int.reduceNe, Int.reduceLT, Int.reduceLE, Nat.reduceEqDiff, Nat.reduceAdd, reduceIte, reduceCtorEq, Nat.reduceLT, Nat.reduceLeDiff, eq_self, Option.bind_some, Option.map_some, List.map_cons, List.map_nil, List.length_cons, List.length_nil, Option.getD_some, Option.getD_none, List.all_cons, List.all_nil, List.set_cons_zero, List.set_cons_succ, List.replicate_succ, List.replicate_zero, List.getElem?_cons_zero, List.getElem?_cons_succ, List.drop_succ_cons, List.drop_zero, List.take_succ_cons, List.take_zero, WY_skip, WY_reg, WY_regY, WY_seq, WY_cond, WY_block, WY_exit, WY_ret, VY_nil, VY_yld, VY_yldg, VY_ps, seqY_n, seqY_r, seqY_x, blockY_n, blockY_r, blockY_x, isCallvs, isCallv, isY, List.any_cons, List.any_nil, Bool.or_false, Bool.or_true, Bool.false_or, Bool.and_false, Bool.false_and]
            refine ⟨by (simp only [decide_eq_true_eq, decide_eq_false_iff_not, Bool.not_true, I64, Bool.not_eq_true', Bool.not_eq_false', bne_iff_ne, beq_iff_eq, ne_eq] at *; omega), ⟨i + 1, by omega⟩, by simp only; omega, weakE _ ?_, ?_⟩
            · simp only [Rule.av, vcC, Int.reduceEq, Int.reduceNe, Int.reduceLT, Int.reduceLE, Nat.reduceEqDiff, Nat.reduceAdd, reduceIte, reduceCtorEq, Nat.reduceLT, Nat.reduceLeDiff, eq_self, Option.bind_some, Option.map_some, List.map_cons, List.map_nil, List.length_cons, List.length_nil, Option.getD_some, Option.getD_none, List.all_cons, List.all_nil, List.set_cons_zero, List.set_cons_succ, List.replicate_succ, List.replicate_zero, List.getElem?_cons_zero, List.getElem?_cons_succ, List.drop_succ_cons, List.drop_zero, List.take_succ_cons, List.take_zero, WY_skip, WY_reg, WY_regY, WY_seq, WY_cond, WY_block, WY_exit, WY_ret, VY_nil, VY_yld, VY_yldg, VY_ps, seqY_n, seqY_r, seqY_x, blockY_n, blockY_r, blockY_x, isCallvs, isCallv, isY, List.any_cons, List.any_nil, Bool.or_false, Bool.or_true, Bool.false_or, Bool.and_false, Bool.false_and]; simp [hex]
            · simp only [hx]; simp [winA]
          · simp only [deadAll_no, vcC, Int.reduceEq, Int.reduceNe, Int.reduceLT, Int.reduceLE, Nat.reduceEqDiff, Nat.reduceAdd, reduceIte, reduceCtorEq, Nat.reduceLT, Nat.reduceLeDiff, eq_self, Option.bind_some, Option.map_some, List.map_cons, List.map_nil, List.length_cons, List.length_nil, Option.getD_some, Option.getD_none, List.all_cons, List.all_nil, List.set_cons_zero, List.set_cons_succ, List.replicate_succ, List.replicate_zero, List.getElem?_cons_zero, List.getElem?_cons_succ, List.drop_succ_cons, List.drop_zero, List.take_succ_cons, List.take_zero, WY_skip, WY_reg, WY_regY, WY_seq, WY_cond, WY_block, WY_exit, WY_ret, VY_nil, VY_yld, VY_yldg, VY_ps, seqY_n, seqY_r, seqY_x, blockY_n, blockY_r, blockY_x, isCallvs, isCallv, isY, List.any_cons, List.any_nil, Bool.or_false, Bool.or_true, Bool.false_or, Bool.and_false, Bool.false_and]; simp
        · have hwi : ¬ r.window.toNat ≤ i + 1 := by (simp only [decide_eq_true_eq, decide_eq_false_iff_not, Bool.not_true, I64, Bool.not_eq_true', Bool.not_eq_false', bne_iff_ne, beq_iff_eq, ne_eq] at *; omega)
          simp only [h2, vcC, Int.reduceEq, Int.reduceNe, Int.reduceLT, Int.reduceLE, Nat.reduceEqDiff, Nat.reduceAdd, reduceIte, reduceCtorEq, Nat.reduceLT, Nat.reduceLeDiff, eq_self, Option.bind_some, Option.map_some, List.map_cons, List.map_nil, List.length_cons, List.length_nil, Option.getD_some, Option.getD_none, List.all_cons, List.all_nil, List.set_cons_zero, List.set_cons_succ, List.replicate_succ, List.replicate_zero, List.getElem?_cons_zero, List.getElem?_cons_succ, List.drop_succ_cons, List.drop_zero, List.take_succ_cons, List.take_zero, WY_skip, WY_reg, WY_regY, WY_seq, WY_cond, WY_block, WY_exit, WY_ret, VY_nil, VY_yld, VY_yldg, VY_ps, seqY_n, seqY_r, seqY_x, blockY_n, blockY_r, blockY_x, isCallvs, isCallv, isY, List.any_cons, List.any_nil, Bool.or_false, Bool.or_true, Bool.false_or, Bool.and_false, Bool.false_and]
          refine ⟨by (simp only [decide_eq_true_eq, decide_eq_false_iff_not, Bool.not_true, I64, Bool.not_eq_true', Bool.not_eq_false', bne_iff_ne, beq_iff_eq, ne_eq] at *; omega), ⟨i + 1, by omega⟩, by simp only; omega, weakE _ ?_, ?_⟩
          · simp only [Rule.av, vcC, Int.reduceEq, Int.reduceNe, Int.reduceLT, Int.reduceLE, Nat.reduceEqDiff, Nat.reduceAdd, reduceIte, reduceCtorEq, Nat.reduceLT, Nat.reduceLeDiff, eq_self, Option.bind_some, Option.map_some, List.map_cons, List.map_nil, List.length_cons, List.length_nil, Option.getD_some, Option.getD_none, List.all_cons, List.all_nil, List.set_cons_zero, List.set_cons_succ, List.replicate_succ, List.replicate_zero, List.getElem?_cons_zero, List.getElem?_cons_succ, List.drop_succ_cons, List.drop_zero, List.take_succ_cons, List.take_zero, WY_skip, WY_reg, WY_regY, WY_seq, WY_cond, WY_block, WY_exit, WY_ret, VY_nil, VY_yld, VY_yldg, VY_ps, seqY_n, seqY_r, seqY_x, blockY_n, blockY_r, blockY_x, isCallvs, isCallv, isY, List.any_cons, List.any_nil, Bool.or_false, Bool.or_true, Bool.false_or, Bool.and_false, Bool.false_and]; simp
          · rw [winsTo_succ, if_neg hwi]
      · simp only [vcC, Int.reduceEq, Int.reduceNe, Int.reduceLT, Int.reduceLE, Nat.reduceEqDiff, Nat.reduceAdd, reduceIte, reduceCtorEq, Nat.reduceLT, Nat.reduceLeDiff, eq_self, Option.bind_some, Option.map_some, List.map_cons, List.map_nil, List.length_cons, List.length_nil, Option.getD_some, Option.getD_none, List.all_cons, List.all_nil, List.set_cons_zero, List.set_cons_succ, List.replicate_succ, List.replicate_zero, List.getElem?_cons_zero, List.getElem?_cons_succ, List.drop_succ_cons, List.drop_zero, List.take_succ_cons, List.take_zero, WY_skip, WY_reg, WY_regY, WY_seq, WY_cond, WY_block, WY_exit, WY_ret, VY_nil, VY_yld, VY_yldg, VY_ps, seqY_n, seqY_r, seqY_x, blockY_n, blockY_r, blockY_x, isCallvs, isCallv, isY, List.any_cons, List.any_nil, Bool.or_false, Bool.or_true, Bool.false_or, Bool.and_false, Bool.false_and]
        have hw2 : ¬ r.window.toNat ≤ i := by (simp only [decide_eq_true_eq, decide_eq_false_iff_not, Bool.not_true, I64, Bool.not_eq_true', Bool.not_eq_false', bne_iff_ne, beq_iff_eq, ne_eq] at *; omega)
        have hz : i - r.window.toNat = 0 := by omega
        have hz2 : i + 1 - r.window.toNat = 0 := by omega
        have hs : preSum r.mean l i - preSum r.mean l (i - r.window.toNat) + (l[i] - r.mean) = preSum r.mean l (i + 1) - preSum r.mean l (i + 1 - r.window.toNat) := by rw [hz, hz2]; omega
        rw [hs]
        refine ⟨by (simp only [decide_eq_true_eq, decide_eq_false_iff_not, Bool.not_true, I64, Bool.not_eq_true', Bool.not_eq_false', bne_iff_ne, beq_iff_eq, ne_eq] at *; omega), ?_⟩
        refine brB_split (fun h2 => ?_) (fun h2 => ?_)
        · have hwi : r.window.toNat ≤ i + 1 := by (simp only [decide_eq_true_eq, decide_eq_false_iff_not, Bool.not_true, I64, Bool.not_eq_true', Bool.not_eq_false', bne_iff_ne, beq_iff_eq, ne_eq] at *; omega)
          simp only [h2, vcC, Int.reduceEq, Int.reduceNe, Int.reduceLT, Int.reduceLE, Nat.reduceEqDiff, Nat.reduceAdd, reduceIte, reduceCtorEq, Nat.reduceLT, Nat.reduceLeDiff, eq_self, Option.bind_some, Option.map_some, List.map_cons, List.map_nil, List.length_cons, List.length_nil, Option.getD_some, Option.getD_none, List.all_cons, List.all_nil, List.set_cons_zero, List.set_cons_succ, List.replicate_succ, List.replicate_zero, List.getElem?_cons_zero, List.getElem?_cons_succ, List.drop_succ_cons, List.drop_zero, List.take_succ_cons, List.take_zero, WY_skip, WY_reg, WY_regY, WY_seq, WY_cond, WY_block, WY_exit, WY_ret, VY_nil, VY_yld, VY_yldg, VY_ps, seqY_n, seqY_r, seqY_x, blockY_n, blockY_r, blockY_x, isCallvs, isCallv, isY, List.any_cons, List.any_nil, Bool.or_false, Bool.or_true, Bool.false_or, Bool.and_false, Bool.false_and]
          obtain ⟨rest, hrest⟩ := winsTo_le r l (i + 1) l.length (by omega)
          have hx := winsTo_succ r l i
          rw [if_pos hwi] at hx
          rw [hx] at hrest
          have hex : excess r l i = preSum r.mean l (i + 1) - preSum r.mean l (i + 1 - r.window.toNat) := rfl
          rw [← hex]
          refine yS_of ((winsTo r l i).map winA) (rest.map winA) rfl ?_ ?_ ?_
          · unfold wins; rw [hrest]; simp [winA]
          · simp only [deadAll_no, vcC, Int.reduceEq, Int.reduceNe, Int.reduceLT, Int.reduceLE, Nat.reduceEqDiff, Nat.reduceAdd, reduceIte, reduceCtorEq, Nat.reduceLT, Nat.reduceLeDiff, eq_self, Option.bind_some, Option.map_some, List.map_cons, List.map_nil, List.length_cons, List.length_nil, Option.getD_some, Option.getD_none, List.all_cons, List.all_nil, List.set_cons_zero, List.set_cons_succ, List.replicate_succ, List.replicate_zero, List.getElem?_cons_zero, List.getElem?_cons_succ, List.drop_succ_cons, List.drop_zero, List.take_succ_cons, List.take_zero, WY_skip, WY_reg, WY_regY, WY_seq, WY_cond, WY_block, WY_exit, WY_ret, VY_nil, VY_yld, VY_yldg, VY_ps, seqY_n, seqY_r, seqY_x, blockY_n, blockY_r, blockY_x, isCallvs, isCallv, isY, List.any_cons, List.any_nil, Bool.or_false, Bool.or_true, Bool.false_or, Bool.and_false, Bool.false_and]
            refine ⟨by (simp only [decide_eq_true_eq, decide_eq_false_iff_not, Bool.not_true, I64, Bool.not_eq_true', Bool.not_eq_false', bne_iff_ne, beq_iff_eq, ne_eq] at *; omega), ⟨i + 1, by omega⟩, by simp only; omega, weakE _ ?_, ?_⟩
            · simp only [Rule.av, vcC, Int.reduceEq, Int.reduceNe, Int.reduceLT, Int.reduceLE, Nat.reduceEqDiff, Nat.reduceAdd, reduceIte, reduceCtorEq, Nat.reduceLT, Nat.reduceLeDiff, eq_self, Option.bind_some, Option.map_some, List.map_cons, List.map_nil, List.length_cons, List.length_nil, Option.getD_some, Option.getD_none, List.all_cons, List.all_nil, List.set_cons_zero, List.set_cons_succ, List.replicate_succ, List.replicate_zero, List.getElem?_cons_zero, List.getElem?_cons_succ, List.drop_succ_cons, List.drop_zero, List.take_succ_cons, List.take_zero, WY_skip, WY_reg, WY_regY, WY_seq, WY_cond, WY_block, WY_exit, WY_ret, VY_nil, VY_yld, VY_yldg, VY_ps, seqY_n, seqY_r, seqY_x, blockY_n, blockY_r, blockY_x, isCallvs, isCallv, isY, List.any_cons, List.any_nil, Bool.or_false, Bool.or_true, Bool.false_or, Bool.and_false, Bool.false_and]; simp [hex]
            · simp only [hx]; simp [winA]
          · simp only [deadAll_no, vcC, Int.reduceEq, Int.reduceNe, Int.reduceLT, Int.reduceLE, Nat.reduceEqDiff, Nat.reduceAdd, reduceIte, reduceCtorEq, Nat.reduceLT, Nat.reduceLeDiff, eq_self, Option.bind_some, Option.map_some, List.map_cons, List.map_nil, List.length_cons, List.length_nil, Option.getD_some, Option.getD_none, List.all_cons, List.all_nil, List.set_cons_zero, List.set_cons_succ, List.replicate_succ, List.replicate_zero, List.getElem?_cons_zero, List.getElem?_cons_succ, List.drop_succ_cons, List.drop_zero, List.take_succ_cons, List.take_zero, WY_skip, WY_reg, WY_regY, WY_seq, WY_cond, WY_block, WY_exit, WY_ret, VY_nil, VY_yld, VY_yldg, VY_ps, seqY_n, seqY_r, seqY_x, blockY_n, blockY_r, blockY_x, isCallvs, isCallv, isY, List.any_cons, List.any_nil, Bool.or_false, Bool.or_true, Bool.false_or, Bool.and_false, Bool.false_and]; simp
        · have hwi : ¬ r.window.toNat ≤ i + 1 := by (simp only [decide_eq_true_eq, decide_eq_false_iff_not, Bool.not_true, I64, Bool.not_eq_true', Bool.not_eq_false', bne_iff_ne, beq_iff_eq, ne_eq] at *; omega)
          simp only [h2, vcC, Int.reduceEq, Int.reduceNe, Int.reduceLT, Int.reduceLE, Nat.reduceEqDiff, Nat.reduceAdd, reduceIte, reduceCtorEq, Nat.reduceLT, Nat.reduceLeDiff, eq_self, Option.bind_some, Option.map_some, List.map_cons, List.map_nil, List.length_cons, List.length_nil, Option.getD_some, Option.getD_none, List.all_cons, List.all_nil, List.set_cons_zero, List.set_cons_succ, List.replicate_succ, List.replicate_zero, List.getElem?_cons_zero, List.getElem?_cons_succ, List.drop_succ_cons, List.drop_zero, List.take_succ_cons, List.take_zero, WY_skip, WY_reg, WY_regY, WY_seq, WY_cond, WY_block, WY_exit, WY_ret, VY_nil, VY_yld, VY_yldg, VY_ps, seqY_n, seqY_r, seqY_x, blockY_n, blockY_r, blockY_x, isCallvs, isCallv, isY, List.any_cons, List.any_nil, Bool.or_false, Bool.or_true, Bool.false_or, Bool.and_false, Bool.false_and]
          refine ⟨by (simp only [decide_eq_true_eq, decide_eq_false_iff_not, Bool.not_true, I64, Bool.not_eq_true', Bool.not_eq_false', bne_iff_ne, beq_iff_eq, ne_eq] at *; omega), ⟨i + 1, by omega⟩, by simp only; omega, weakE _ ?_, ?_⟩
          · simp only [Rule.av, vcC, Int.reduceEq, Int.reduceNe, Int.reduceLT, Int.reduceLE, Nat.reduceEqDiff, Nat.reduceAdd, reduceIte, reduceCtorEq, Nat.reduceLT, Nat.reduceLeDiff, eq_self, Option.bind_some, Option.map_some, List.map_cons, List.map_nil, List.length_cons, List.length_nil, Option.getD_some, Option.getD_none, List.all_cons, List.all_nil, List.set_cons_zero, List.set_cons_succ, List.replicate_succ, List.replicate_zero, List.getElem?_cons_zero, List.getElem?_cons_succ, List.drop_succ_cons, List.drop_zero, List.take_succ_cons, List.take_zero, WY_skip, WY_reg, WY_regY, WY_seq, WY_cond, WY_block, WY_exit, WY_ret, VY_nil, VY_yld, VY_yldg, VY_ps, seqY_n, seqY_r, seqY_x, blockY_n, blockY_r, blockY_x, isCallvs, isCallv, isY, List.any_cons, List.any_nil, Bool.or_false, Bool.or_true, Bool.false_or, Bool.and_false, Bool.false_and]; simp
          · rw [winsTo_succ, if_neg hwi]
    · simp only [vcC, Int.reduceEq, Int.reduceNe, Int.reduceLT, Int.reduceLE, Nat.reduceEqDiff, Nat.reduceAdd, reduceIte, reduceCtorEq, Nat.reduceLT, Nat.reduceLeDiff, eq_self, Option.bind_some, Option.map_some, List.map_cons, List.map_nil, List.length_cons, List.length_nil, Option.getD_some, Option.getD_none, List.all_cons, List.all_nil, List.set_cons_zero, List.set_cons_succ, List.replicate_succ, List.replicate_zero, List.getElem?_cons_zero, List.getElem?_cons_succ, List.drop_succ_cons, List.drop_zero, List.take_succ_cons, List.take_zero, WY_skip, WY_reg, WY_regY, WY_seq, WY_cond, WY_block, WY_exit, WY_ret, VY_nil, VY_yld, VY_yldg, VY_ps, seqY_n, seqY_r, seqY_x, blockY_n, blockY_r, blockY_x, isCallvs, isCallv, isY, List.any_cons, List.any_nil, Bool.or_false, Bool.or_true, Bool.false_or, Bool.and_false, Bool.false_and]
      have : i = l.length := by (simp only [decide_eq_true_eq, decide_eq_false_iff_not, Bool.not_true, I64, Bool.not_eq_true', Bool.not_eq_false', bne_iff_ne, beq_iff_eq, ne_eq] at *; omega)
      subst this
      simp [wins]
end Go.Proofs.Ytaebfjepacnmhaa

/- Contracts: alarms. By an AI agent; nothing here is trusted. -/
namespace Go.Proofs.Ytaebfjepacnmhaa
open Go.Av

theorem sq_bound {x B : Int} (h1 : -B ≤ x) (h2 : x ≤ B) : 0 ≤ x * x ∧ x * x ≤ B * B := by
  have hB : 0 ≤ B := by omega
  rcases Int.le_total 0 x with h | h
  · exact ⟨Int.mul_nonneg h h, Int.mul_le_mul h2 h2 h hB⟩
  · rw [← Int.neg_mul_neg x x]
    exact ⟨Int.mul_nonneg (by omega) (by omega), Int.mul_le_mul (by omega) (by omega) (by omega) hB⟩
theorem mul_bound {a b A B : Int} (h1 : 0 ≤ a) (h2 : a ≤ A) (h3 : 0 ≤ b) (h4 : b ≤ B) : 0 ≤ a * b ∧ a * b ≤ A * B :=
  ⟨Int.mul_nonneg h1 h3, Int.mul_le_mul h2 h4 h3 (by omega)⟩

theorem window_s (r : Rule) (l : List Int) : Sound Try.prog 111 [r.av, .sl (ints l)] (.fn 135 [.eptr (.sl (ints l)) 0, .eptr r.av 0]) := by
  refine sound_W f_watch_windows (Nat.le_of_ble_eq_true rfl) ?_
  simp only [c_watch_windows, Rule.av, vcC, Int.reduceEq, Int.reduceNe, Int.reduceLT, Int.reduceLE, Nat.reduceEqDiff, Nat.reduceAdd, reduceIte, reduceCtorEq, Nat.reduceLT, Nat.reduceLeDiff, eq_self, Option.bind_some, Option.map_some, List.map_cons, List.map_nil, List.length_cons, List.length_nil, Option.getD_some, Option.getD_none, List.all_cons, List.all_nil, List.set_cons_zero, List.set_cons_succ, List.replicate_succ, List.replicate_zero, List.getElem?_cons_zero, List.getElem?_cons_succ, List.drop_succ_cons, List.drop_zero, List.take_succ_cons, List.take_zero]

def isAlarm (r : Rule) (x : Int) : Prop := 0 < x ∧ r.limit * r.limit * r.window * r.spread < 100 * x * x
instance (r : Rule) (x : Int) : Decidable (isAlarm r x) := by unfold isAlarm; exact inferInstance
def alarmsL (r : Rule) (ws : List (Nat × Int)) : List Int := (ws.filter fun p => decide (isAlarm r p.2)).map fun p => (p.1 : Int)

theorem at_prefix {α β : Type} {L : List α} {f : α → β} {pre : List β} {x : β} {rest : List β} (h : pre ++ x :: rest = L.map f) : ∃ hk : pre.length < L.length, x = f L[pre.length] := by
  have hlen : pre.length < L.length := by have := congrArg List.length h; simp at this; omega
  refine ⟨hlen, ?_⟩
  have := congrArg (fun l => l[pre.length]?) h
  simp [hlen] at this
  exact this

theorem wins_bound {r : Rule} (hr : r.ok) {l : List Int} (hl : countsE l = 0) : ∀ p ∈ wins r l, p.1 < l.length ∧ -120000000 ≤ p.2 ∧ p.2 ≤ 120000000 := by
  intro p hp
  obtain ⟨hlen, hel⟩ := countsE_ok hl
  unfold wins winsTo at hp
  obtain ⟨b, hb, rfl⟩ := List.mem_map.1 hp
  have hb' := List.mem_range.1 (List.mem_filter.1 hb).1
  have h1 := preSum_bound hr.1 hel (b + 1) (by omega)
  have h2 := preSum_bound hr.1 hel (b + 1 - r.window.toNat) (by omega)
  refine ⟨hb', ?_⟩
  simp only [excess]
  omega
theorem wins_length (r : Rule) (l : List Int) : (wins r l).length ≤ l.length := by
  unfold wins winsTo
  rw [List.length_map]
  have := List.length_filter_le (fun b => decide (r.window.toNat ≤ b + 1)) (List.range l.length)
  simpa using this
theorem alarmsL_succ (r : Rule) (ws : List (Nat × Int)) (k : Nat) (h : k < ws.length) : alarmsL r (ws.take (k + 1)) = alarmsL r (ws.take k) ++ (if isAlarm r ws[k].2 then [(ws[k].1 : Int)] else []) := by
  unfold alarmsL
  rw [List.take_succ_eq_append_getElem h, List.filter_append, List.map_append]
  by_cases hi : isAlarm r ws[k].2
  · rw [if_pos hi, List.filter_cons_of_pos (by simpa using hi)]; rfl
  · rw [if_neg hi, List.filter_cons_of_neg (by simpa using hi)]; rfl
theorem alarmsL_le (r : Rule) (ws : List (Nat × Int)) : (alarmsL r ws).length ≤ ws.length := by
  unfold alarmsL
  rw [List.length_map]
  exact List.length_filter_le _ _
theorem maxLen_ge : 4000000000000 ≤ maxLen := by decide

theorem alarms_s (r : Rule) (hr : r.ok) (l : List Int) (hl : countsE l = 0) : Sound Try.prog 96 [r.av, .sl (ints l)] (.sl (ints (alarmsL r (wins r l)))) := by
  refine sound_W f_watch_alarms (Nat.le_of_ble_eq_true rfl) ?_
  simp only [c_watch_alarms, Rule.av, vcC, Int.reduceEq, Int.reduceNe, Int.reduceLT, Int.reduceLE, Nat.reduceEqDiff, Nat.reduceAdd, reduceIte, reduceCtorEq, Nat.reduceLT, Nat.reduceLeDiff, eq_self, Option.bind_some, Option.map_some, List.map_cons, List.map_nil, List.length_cons, List.length_nil, Option.getD_some, Option.getD_none, List.all_cons, List.all_nil, List.set_cons_zero, List.set_cons_succ, List.replicate_succ, List.replicate_zero, List.getElem?_cons_zero, List.getElem?_cons_succ, List.drop_succ_cons, List.drop_zero, List.take_succ_cons, List.take_zero]
  refine callS_of (window_s r l) ?_
  simp only [Rule.av, vcV, Int.reduceEq, Int.reduceNe, Int.reduceLT, Int.reduceLE, Nat.reduceEqDiff, Nat.reduceAdd, reduceIte, reduceCtorEq, Nat.reduceLT, Nat.reduceLeDiff, eq_self, Option.bind_some, Option.map_some, List.map_cons, List.map_nil, List.length_cons, List.length_nil, Option.getD_some, Option.getD_none, List.all_cons, List.all_nil, List.set_cons_zero, List.set_cons_succ, List.replicate_succ, List.replicate_zero, List.getElem?_cons_zero, List.getElem?_cons_succ, List.drop_succ_cons, List.drop_zero, List.take_succ_cons, List.take_zero, List.map_append, List.nil_append, List.cons_append, Nat.reduceShiftRight, Nat.reduceMod]
  refine W_weakR (t := .mk) _ (weakS [(2, .ptr 2 0 0), (5, .ptr 5 0 0), (10, .fn 135 [.eptr (.sl (ints l)) 0, .eptr r.av 0])] [(2, some 2, ⟨49, 4, [r.av]⟩), (5, some 5, ⟨36, 1, [.buf 100 0]⟩), (100, none, ⟨3, 1, ints []⟩)] (show ([2, 5, 100] : List Nat).Nodup by decide) (show ([2, 5] : List Nat).Nodup by decide) ?_ ?_) ?_
  · simp only [Rule.av, vcK, Int.reduceEq, Int.reduceNe, Int.reduceLT, Int.reduceLE, Nat.reduceEqDiff, Nat.reduceAdd, reduceIte, reduceCtorEq, Nat.reduceLT, Nat.reduceLeDiff, eq_self, Option.bind_some, Option.map_some, List.map_cons, List.map_nil, List.length_cons, List.length_nil, Option.getD_some, Option.getD_none, List.all_cons, List.all_nil, List.set_cons_zero, List.set_cons_succ, List.replicate_succ, List.replicate_zero, List.getElem?_cons_zero, List.getElem?_cons_succ, List.drop_succ_cons, List.drop_zero, List.take_succ_cons, List.take_zero]
    exact ⟨RnB.fxB rfl, RnB.one (.virt 100 _ rfl rfl) rfl rfl rfl, rfl⟩
  · simp only [Rule.av, vcK, Int.reduceEq, Int.reduceNe, Int.reduceLT, Int.reduceLE, Nat.reduceEqDiff, Nat.reduceAdd, reduceIte, reduceCtorEq, Nat.reduceLT, Nat.reduceLeDiff, eq_self, Option.bind_some, Option.map_some, List.map_cons, List.map_nil, List.length_cons, List.length_nil, Option.getD_some, Option.getD_none, List.all_cons, List.all_nil, List.set_cons_zero, List.set_cons_succ, List.replicate_succ, List.replicate_zero, List.getElem?_cons_zero, List.getElem?_cons_succ, List.drop_succ_cons, List.drop_zero, List.take_succ_cons, List.take_zero]
    exact ⟨.ptr _ _ _ _ rfl, .ptr _ _ _ _ rfl, .imm _ rfl⟩
  · refine W_rf (tt := .mk) (xs := (wins r l).map winA) rfl (by simp [imm]) rfl rfl (windows_1_s r hr l hl) (by intro x hx; obtain ⟨p, _, rfl⟩ := List.mem_map.1 hx; rfl) (fun pre => stOf [(2, ⟨49, 4, [r.av]⟩), (5, ⟨36, 1, [.buf 100 (alarmsL r ((wins r l).take pre.length)).length]⟩), (100, ⟨3, 1, ints (alarmsL r ((wins r l).take pre.length))⟩)]) (Weak.refl _) (fun pre x rest hsp => ?_) ?_
    · obtain ⟨hk, hx⟩ := at_prefix hsp
      subst hx
      obtain ⟨hp1, hp2, hp3⟩ := wins_bound hr hl (wins r l)[pre.length] (List.getElem_mem hk)
      have hsucc := alarmsL_succ r (wins r l) pre.length hk
      have hal := alarmsL_le r ((wins r l).take pre.length)
      have hwl := wins_length r l
      have hll := (countsE_ok hl).1
      have hm := maxLen_ge
      rw [List.length_take] at hal
      have hlen1 : (pre ++ [winA (wins r l)[pre.length]]).length = pre.length + 1 := by simp
      rw [hlen1, hsucc]
      generalize hq : alarmsL r ((wins r l).take pre.length) = out at *
      generalize (wins r l)[pre.length] = p at *
      obtain ⟨b, x⟩ := p
      simp only at hp1 hp2 hp3
      have hno : ¬ isAlarm r x → (if isAlarm r x then [(b : Int)] else []) = [] := fun h => if_neg h
      have hyes : isAlarm r x → (if isAlarm r x then [(b : Int)] else []) = [(b : Int)] := fun h => if_pos h
      obtain ⟨hr1, hr2, hr3, hr4⟩ := hr
      have q1 := sq_bound hp2 hp3
      have q2 := mul_bound hr4.1 hr4.2 hr4.1 hr4.2
      have q3 := mul_bound q2.1 q2.2 (by omega) hr3.2
      have q4 := mul_bound q3.1 q3.2 (by omega) hr2.2
      have q5 : 100 * x * x = 100 * (x * x) := by rw [Int.mul_assoc]
      have stay : isAlarm r x = False → True := fun _ => trivial
      simp only [Rule.av, winA, vcV, Int.reduceEq, Int.reduceNe, Int.reduceLT, Int.reduceLE, Nat.reduceEqDiff, Nat.reduceAdd, reduceIte, reduceCtorEq, Nat.reduceLT, Nat.reduceLeDiff, eq_self, Option.bind_some, Option.map_some, List.map_cons, List.map_nil, List.length_cons, List.length_nil, Option.getD_some, Option.getD_none, List.all_cons, List.all_nil, List.set_cons_zero, List.set_cons_succ, List.replicate_succ, List.replicate_zero, List.getElem?_cons_zero, List.getElem?_cons_succ, List.drop_succ_cons, List.drop_zero, List.take_succ_cons, List.take_zero, List.map_append, List.nil_append, List.cons_append, Nat.reduceShiftRight, Nat.reduceMod]
      refine brB_split (fun h => ?_) (fun h => ?_)
      · simp only [h, vcV, Int.reduceEq, Int.reduceNe, Int.reduceLT, Int.reduceLE, Nat.reduceEqDiff, Nat.reduceAdd, reduceIte, reduceCtorEq, Nat.reduceLT, Nat.reduceLeDiff, eq_self, Option.bind_some, Option.map_some, List.map_cons, List.map_nil, List.length_cons, List.length_nil, Option.getD_some, Option.getD_none, List.all_cons, List.all_nil, List.set_cons_zero, List.set_cons_succ, List.replicate_succ, List.replicate_zero, List.getElem?_cons_zero, List.getElem?_cons_succ, List.drop_succ_cons, List.drop_zero, List.take_succ_cons, List.take_zero, List.map_append, List.nil_append, List.cons_append, Nat.reduceShiftRight, Nat.reduceMod]
        refine ⟨by (simp only [decide_eq_true_eq, decide_eq_false_iff_not, Bool.not_true, I64, Bool.not_eq_true', Bool.not_eq_false', bne_iff_ne, beq_iff_eq, ne_eq] at *; omega), by rw [q5]; (simp only [decide_eq_true_eq, decide_eq_false_iff_not, Bool.not_true, I64, Bool.not_eq_true', Bool.not_eq_false', bne_iff_ne, beq_iff_eq, ne_eq] at *; omega), by (simp only [decide_eq_true_eq, decide_eq_false_iff_not, Bool.not_true, I64, Bool.not_eq_true', Bool.not_eq_false', bne_iff_ne, beq_iff_eq, ne_eq] at *; omega), by (simp only [decide_eq_true_eq, decide_eq_false_iff_not, Bool.not_true, I64, Bool.not_eq_true', Bool.not_eq_false', bne_iff_ne, beq_iff_eq, ne_eq] at *; omega), by (simp only [decide_eq_true_eq, decide_eq_false_iff_not, Bool.not_true, I64, Bool.not_eq_true', Bool.not_eq_false', bne_iff_ne, beq_iff_eq, ne_eq] at *; omega), ?_⟩
        refine brB_split (fun h2 => ?_) (fun h2 => ?_)
        · have ha : isAlarm r x := ⟨by simpa using h, by simpa using h2⟩
          rw [hyes ha]
          simp only [vcV, Int.reduceEq, Int.reduceNe, Int.reduceLT, Int.reduceLE, Nat.reduceEqDiff, Nat.reduceAdd, reduceIte, reduceCtorEq, Nat.reduceLT, Nat.reduceLeDiff, eq_self, Option.bind_some, Option.map_some, List.map_cons, List.map_nil, List.length_cons, List.length_nil, Option.getD_some, Option.getD_none, List.all_cons, List.all_nil, List.set_cons_zero, List.set_cons_succ, List.replicate_succ, List.replicate_zero, List.getElem?_cons_zero, List.getElem?_cons_succ, List.drop_succ_cons, List.drop_zero, List.take_succ_cons, List.take_zero, List.map_append, List.nil_append, List.cons_append, Nat.reduceShiftRight, Nat.reduceMod]
          rw [show (out ++ [(b : Int)]).length = out.length + 1 by simp, ints_append]
          refine ⟨⟨by omega, by omega⟩, weakS [(2, .ptr 2 0 0), (5, .ptr 5 0 0), (10, .fn 135 [.eptr (.sl (ints l)) 0, .eptr r.av 0])] [(2, some 2, ⟨49, 4, [r.av]⟩), (5, some 5, ⟨36, 1, [.buf 100 (out.length + 1)]⟩), (100, some 36, ⟨3, 1, ints out ++ ints [(b : Int)]⟩)] (show ([2, 5, 100] : List Nat).Nodup by decide) (show ([2, 5, 36] : List Nat).Nodup by decide) ?_ ?_⟩
          · simp only [Rule.av, vcK, Int.reduceEq, Int.reduceNe, Int.reduceLT, Int.reduceLE, Nat.reduceEqDiff, Nat.reduceAdd, reduceIte, reduceCtorEq, Nat.reduceLT, Nat.reduceLeDiff, eq_self, Option.bind_some, Option.map_some, List.map_cons, List.map_nil, List.length_cons, List.length_nil, Option.getD_some, Option.getD_none, List.all_cons, List.all_nil, List.set_cons_zero, List.set_cons_succ, List.replicate_succ, List.replicate_zero, List.getElem?_cons_zero, List.getElem?_cons_succ, List.drop_succ_cons, List.drop_zero, List.take_succ_cons, List.take_zero]
            exact ⟨RnB.fxB rfl, RnB.one (.buf _ _ _ rfl) rfl rfl rfl, RnB.fxB (by rw [List.all_append, ints_fxB]; rfl)⟩
          · simp only [Rule.av, vcK, Int.reduceEq, Int.reduceNe, Int.reduceLT, Int.reduceLE, Nat.reduceEqDiff, Nat.reduceAdd, reduceIte, reduceCtorEq, Nat.reduceLT, Nat.reduceLeDiff, eq_self, Option.bind_some, Option.map_some, List.map_cons, List.map_nil, List.length_cons, List.length_nil, Option.getD_some, Option.getD_none, List.all_cons, List.all_nil, List.set_cons_zero, List.set_cons_succ, List.replicate_succ, List.replicate_zero, List.getElem?_cons_zero, List.getElem?_cons_succ, List.drop_succ_cons, List.drop_zero, List.take_succ_cons, List.take_zero]
            exact ⟨.ptr _ _ _ _ rfl, .ptr _ _ _ _ rfl, .imm _ rfl⟩
        · have ha : ¬ isAlarm r x := fun hc => by have := hc.2; simp at h2; omega
          rw [hno ha]
          simp only [List.append_nil, vcV, Int.reduceEq, Int.reduceNe, Int.reduceLT, Int.reduceLE, Nat.reduceEqDiff, Nat.reduceAdd, reduceIte, reduceCtorEq, Nat.reduceLT, Nat.reduceLeDiff, eq_self, Option.bind_some, Option.map_some, List.map_cons, List.map_nil, List.length_cons, List.length_nil, Option.getD_some, Option.getD_none, List.all_cons, List.all_nil, List.set_cons_zero, List.set_cons_succ, List.replicate_succ, List.replicate_zero, List.getElem?_cons_zero, List.getElem?_cons_succ, List.drop_succ_cons, List.drop_zero, List.take_succ_cons, List.take_zero, List.map_append, List.nil_append, List.cons_append, Nat.reduceShiftRight, Nat.reduceMod]
          exact Weak.refl _
      · have ha : ¬ isAlarm r x := fun hc => by have := hc.1; simp at h; omega
        rw [hno ha]
        simp only [h, List.append_nil, vcV, Int.reduceEq, Int.reduceNe, Int.reduceLT, Int.reduceLE, Nat.reduceEqDiff, Nat.reduceAdd, reduceIte, reduceCtorEq, Nat.reduceLT, Nat.reduceLeDiff, eq_self, Option.bind_some, Option.map_some, List.map_cons, List.map_nil, List.length_cons, List.length_nil, Option.getD_some, Option.getD_none, List.all_cons, List.all_nil, List.set_cons_zero, List.set_cons_succ, List.replicate_succ, List.replicate_zero, List.getElem?_cons_zero, List.getElem?_cons_succ, List.drop_succ_cons, List.drop_zero, List.take_succ_cons, List.take_zero, List.map_append, List.nil_append, List.cons_append, Nat.reduceShiftRight, Nat.reduceMod]
        exact Weak.refl _
    · simp only [Rule.av, vcV, Int.reduceEq, Int.reduceNe, Int.reduceLT, Int.reduceLE, Nat.reduceEqDiff, Nat.reduceAdd, reduceIte, reduceCtorEq, Nat.reduceLT, Nat.reduceLeDiff, eq_self, Option.bind_some, Option.map_some, List.map_cons, List.map_nil, List.length_cons, List.length_nil, Option.getD_some, Option.getD_none, List.all_cons, List.all_nil, List.set_cons_zero, List.set_cons_succ, List.replicate_succ, List.replicate_zero, List.getElem?_cons_zero, List.getElem?_cons_succ, List.drop_succ_cons, List.drop_zero, List.take_succ_cons, List.take_zero, List.map_append, List.nil_append, List.cons_append, Nat.reduceShiftRight, Nat.reduceMod]
      rw [List.length_map, List.take_length]
      rw [borB_good _ _ _ _ _ (by simp [ints]) (ints_fx _)]

theorem AlarmsIn_s (r : Rule) (l : List Int) (hl : l.length < 4000000000000000000) : Sound Try.prog 31 [r.av, .sl (ints l)]
    (if ruleE r ≠ 0 ∨ countsE l ≠ 0 then .tup [.sl [], .int .i64 (if ruleE r ≠ 0 then ruleE r else countsE l)] else .tup [.sl (ints (alarmsL r (wins r l))), .int .i64 0]) := by
  refine sound_W f_watch_AlarmsIn (Nat.le_of_ble_eq_true rfl) ?_
  simp only [c_watch_AlarmsIn, Rule.av, vcV, Int.reduceEq, Int.reduceNe, Int.reduceLT, Int.reduceLE, Nat.reduceEqDiff, Nat.reduceAdd, reduceIte, reduceCtorEq, Nat.reduceLT, Nat.reduceLeDiff, eq_self, Option.bind_some, Option.map_some, List.map_cons, List.map_nil, List.length_cons, List.length_nil, Option.getD_some, Option.getD_none, List.all_cons, List.all_nil, List.set_cons_zero, List.set_cons_succ, List.replicate_succ, List.replicate_zero, List.getElem?_cons_zero, List.getElem?_cons_succ, List.drop_succ_cons, List.drop_zero, List.take_succ_cons, List.take_zero, List.map_append, List.nil_append, List.cons_append, Nat.reduceShiftRight, Nat.reduceMod]
  refine callS_of (bothErr_s r l hl) ?_
  simp only [vcV, Int.reduceEq, Int.reduceNe, Int.reduceLT, Int.reduceLE, Nat.reduceEqDiff, Nat.reduceAdd, reduceIte, reduceCtorEq, Nat.reduceLT, Nat.reduceLeDiff, eq_self, Option.bind_some, Option.map_some, List.map_cons, List.map_nil, List.length_cons, List.length_nil, Option.getD_some, Option.getD_none, List.all_cons, List.all_nil, List.set_cons_zero, List.set_cons_succ, List.replicate_succ, List.replicate_zero, List.getElem?_cons_zero, List.getElem?_cons_succ, List.drop_succ_cons, List.drop_zero, List.take_succ_cons, List.take_zero, List.map_append, List.nil_append, List.cons_append, Nat.reduceShiftRight, Nat.reduceMod]
  refine brB_split (fun h => ?_) (fun h => ?_)
  · simp only [vcV, Int.reduceEq, Int.reduceNe, Int.reduceLT, Int.reduceLE, Nat.reduceEqDiff, Nat.reduceAdd, reduceIte, reduceCtorEq, Nat.reduceLT, Nat.reduceLeDiff, eq_self, Option.bind_some, Option.map_some, List.map_cons, List.map_nil, List.length_cons, List.length_nil, Option.getD_some, Option.getD_none, List.all_cons, List.all_nil, List.set_cons_zero, List.set_cons_succ, List.replicate_succ, List.replicate_zero, List.getElem?_cons_zero, List.getElem?_cons_succ, List.drop_succ_cons, List.drop_zero, List.take_succ_cons, List.take_zero, List.map_append, List.nil_append, List.cons_append, Nat.reduceShiftRight, Nat.reduceMod]
    have : ruleE r ≠ 0 ∨ countsE l ≠ 0 := by
      by_cases h1 : ruleE r = 0
      · simp [h1] at h; exact .inr h
      · exact .inl h1
    rw [if_pos this]
  · simp only [vcV, Int.reduceEq, Int.reduceNe, Int.reduceLT, Int.reduceLE, Nat.reduceEqDiff, Nat.reduceAdd, reduceIte, reduceCtorEq, Nat.reduceLT, Nat.reduceLeDiff, eq_self, Option.bind_some, Option.map_some, List.map_cons, List.map_nil, List.length_cons, List.length_nil, Option.getD_some, Option.getD_none, List.all_cons, List.all_nil, List.set_cons_zero, List.set_cons_succ, List.replicate_succ, List.replicate_zero, List.getElem?_cons_zero, List.getElem?_cons_succ, List.drop_succ_cons, List.drop_zero, List.take_succ_cons, List.take_zero, List.map_append, List.nil_append, List.cons_append, Nat.reduceShiftRight, Nat.reduceMod]
    have h0 : ruleE r = 0 ∧ countsE l = 0 := by
      by_cases h1 : ruleE r = 0
      · simp [h1] at h; exact ⟨h1, h⟩
      · simp [h1] at h
    refine callS_of (alarms_s r (ruleE_ok h0.1) l h0.2) ?_
    simp only [vcV, Int.reduceEq, Int.reduceNe, Int.reduceLT, Int.reduceLE, Nat.reduceEqDiff, Nat.reduceAdd, reduceIte, reduceCtorEq, Nat.reduceLT, Nat.reduceLeDiff, eq_self, Option.bind_some, Option.map_some, List.map_cons, List.map_nil, List.length_cons, List.length_nil, Option.getD_some, Option.getD_none, List.all_cons, List.all_nil, List.set_cons_zero, List.set_cons_succ, List.replicate_succ, List.replicate_zero, List.getElem?_cons_zero, List.getElem?_cons_succ, List.drop_succ_cons, List.drop_zero, List.take_succ_cons, List.take_zero, List.map_append, List.nil_append, List.cons_append, Nat.reduceShiftRight, Nat.reduceMod]
    rw [if_neg (by simp [h0])]
end Go.Proofs.Ytaebfjepacnmhaa

/- The examples of the chapter, by running the abstract code. By an AI agent; nothing here is trusted. -/
namespace Go.Proofs.Ytaebfjepacnmhaa
open Go.Av

def unint : AV → Option Int
  | .int .i64 n => some n
  | _ => none
def unints : List AV → Option (List Int)
  | [] => some []
  | x :: l => match unint x, unints l with
    | some n, some m => some (n :: m)
    | _, _ => none
theorem unints_some : ∀ {l : List AV} {m : List Int}, unints l = some m → l = ints m
  | [], m, h => by cases h; rfl
  | x :: l, m, h => by
    simp only [unints] at h
    split at h
    · rename_i n k h1 h2
      cases h
      rw [unints_some h2]
      unfold unint at h1
      split at h1
      · cases h1; rfl
      · cases h1
    · cases h

/-- The iterators that the examples come to. -/
def itW : IterT := fun g caps => if g = 135 then (match caps with
  | [.eptr (.sl es) 0, .eptr (.agg [.int .i64 a, .int .i64 b, .int .i64 c, .int .i64 d]) 0] => (match unints es with
    | some l => if Rule.ok ⟨a, b, c, d⟩ ∧ countsE l = 0 then some ((wins ⟨a, b, c, d⟩ l).map winA) else none
    | none => none)
  | _ => none) else none
theorem itW_ok : ∀ g caps xs, itW g caps = some xs → SeqA Try.prog g caps xs := by
  intro g caps xs h
  unfold itW at h
  split at h
  · rename_i hg
    subst hg
    split at h
    · rename_i es a b c d
      split at h
      · rename_i l hl
        split at h
        · rename_i hc
          cases h
          rw [unints_some hl]
          exact windows_1_s ⟨a, b, c, d⟩ hc.1 l hc.2
        · cases h
      · cases h
    · cases h
  · cases h

def tabW : List (Nat × Nat × Nat × MC × List (Nat × Option (Option Nat))) := [(2, 1, 0, c_gosem_cut_init, []), (3, 220, 3, c_law08_WatchCounted, [(6, none)]), (4, 105, 1, c_law08_WatchDead, [(2, none)]), (5, 231, 3, c_law08_WatchOneRise, [(6, none)]), (6, 96, 3, c_law08_WatchRings, [(6, none)]), (7, 291, 3, c_law08_WatchNothingLost, [(6, none)]), (8, 221, 3, c_law08_WatchSkies, [(6, none)]), (9, 93, 2, c_law08_WatchRises, [(4, none)]), (10, 189, 3, c_law08_WatchNeverMissed, [(6, none)]), (11, 228, 3, c_top_TopWatchFalseAlarms, [(6, none)]), (12, 223, 3, c_law08_WatchAlarms, [(6, none)]), (13, 170, 3, c_law08_WatchBestLine, [(6, none)]), (14, 82, 0, c_law08_awake, [(0, none)]), (15, 22, 1, c_law08_fewSensors, [(2, none)]), (16, 34, 1, c_law08_light, [(2, none)]), (17, 11, 1, c_ref08_SkyErr, [(2, none)]), (18, 6, 1, c_ref08_BinsErr, [(2, none)]), (19, 15, 3, c_base_Within, [(6, none)]), (20, 17, 2, c_watch_CasesOf, [(4, none), (5, none)]), (21, 24, 1, c_ref08_CopySky, [(2, (some (some 1)))]), (22, 24, 3, c_watch_WaysOf, [(6, none), (7, none)]), (23, 56, 3, c_watch_ThresholdFor, [(6, none), (7, none)]), (24, 43, 3, c_law08_written, [(6, none)]), (25, 49, 1, c_watch_TrueCounts, [(2, (some (some 2))), (3, none)]), (26, 27, 1, c_ref08_DeadErr, [(2, none)]), (27, 27, 1, c_ref08_True, [(2, (some (some 2)))]), (28, 6, 1, c_law08_few, [(2, none)]), (29, 25, 1, c_ref08_RuleErr, [(2, none)]), (30, 19, 1, c_ref08_CountsErr, [(2, none)]), (31, 16, 2, c_watch_AlarmsIn, [(4, none), (5, none)]), (32, 6, 1, c_base_CopyInts, [(2, none)]), (33, 36, 2, c_watch_FirstsIn, [(4, none), (5, none)]), (34, 18, 2, c_base_Has, [(4, none)]), (35, 44, 3, c_watch_KeptBy, [(6, none), (7, none)]), (36, 48, 3, c_watch_LostBy, [(6, none), (7, none)]), (37, 23, 1, c_ref08_RingErr, [(2, none)]), (38, 19, 1, c_watch_CheckRing, [(2, none)]), (39, 34, 2, c_ref08_AlarmsErr, [(4, none)]), (40, 42, 2, c_ref08_SameFreezes, [(4, none)]), (41, 67, 3, c_ref08_Kept, [(6, none)]), (42, 26, 2, c_base_Ints, [(4, none)]), (43, 58, 3, c_ref08_Lost, [(6, none)]), (44, 50, 1, c_watch_CheckSky, [(2, none), (3, none)]), (45, 33, 3, c_watch_FalseAlarms, [(6, (some (some 2))), (7, none)]), (46, 58, 1, c_ref08_CheckSky, [(2, none), (3, none)]), (47, 29, 2, c_ref08_Cases, [(4, none)]), (48, 43, 3, c_ref08_Threshold, [(6, none)]), (49, 6, 1, c_ref08_ThresholdErr, [(2, none)]), (50, 20, 2, c_base_Lowest, [(4, (some (some 2)))]), (51, 27, 3, c_ref08_Ways, [(6, none)]), (52, 11, 1, c_base_IsSmall, [(2, none)]), (53, 33, 2, c_watch_NeverMissed, [(4, none), (5, none)]), (54, 29, 3, c_watch_SmallestRise, [(6, none), (7, none)]), (55, 15, 3, c_ref08_Rise, [(6, none)]), (56, 18, 2, c_ref08_Never, [(4, none)]), (57, 14, 2, c_base_Mod, [(4, none)]), (58, 49, 2, c_ref08_Lowest, [(4, none)]), (59, 31, 0, c_top_watchAwake, [(0, none)]), (60, 46, 1, c_top_watchSmall, [(2, none)]), (61, 27, 2, c_top_watchRaises, [(4, none)]), (62, 26, 2, c_watch_ExcessesOf, [(4, none), (5, none)]), (63, 39, 3, c_watch_StrengthAt, [(6, (some (some 2))), (7, (some none))]), (64, 34, 2, c_watch_StrongestOf, [(4, none), (5, none)]), (65, 24, 1, c_watch_CheckRule, [(2, none)]), (66, 24, 2, c_ref08_Excesses, [(4, none)]), (67, 46, 2, c_ref08_Alarms, [(4, none)]), (68, 33, 2, c_ref08_Firsts, [(4, none)]), (69, 26, 3, c_ref08_Strength, [(6, (some (some 2))), (7, none)]), (70, 31, 2, c_ref08_Strongest, [(4, none)]), (71, 6, 1, c_law08_fewPairs, [(2, none)]), (72, 32, 1, c_ref08_PairsErr, [(2, none)]), (73, 20, 1, c_ref08_Equal, [(2, none)]), (74, 7, 1, c_base_Size, [(2, none)]), (75, 22, 1, c_watch_FitOf, [(2, (some (some 4))), (3, none)]), (76, 6, 1, c_ref08_CopyPairs, [(2, none)]), (77, 23, 1, c_ref08_LineErr, [(2, none)]), (78, 28, 2, c_watch_CheckFit, [(4, none)]), (79, 5, 1, c_base_Whole, [(2, (some (some 2)))]), (80, 44, 2, c_law08_squares, [(4, (some (some 4)))]), (81, 16, 2, c_base_RatioCmp, [(4, none)]), (82, 65, 2, c_watch_ResidualsOf, [(4, none), (5, none)]), (83, 2, 0, c_law08_Rule, [(0, (some (some 4)))]), (84, 5, 0, c_law08_Sky, [(0, (some (some 1)))]), (85, 5, 0, c_law08_Pairs, [(0, none)]), (86, 18, 2, c_watch_binsErr, [(4, none)]), (87, 21, 2, c_watch_from, [(4, none)]), (88, 58, 2, c_watch_sums, [(4, none)]), (89, 15, 1, c_watch_first, [(2, none)]), (90, 6, 1, c_watch_thresholdErr, [(2, none)]), (91, 7, 2, c_watch_unless, [(4, none)]), (92, 15, 3, c_watch_within, [(6, none)]), (93, 16, 2, c_base_Floor, [(4, none)]), (94, 10, 2, c_base_Ceil, [(4, none)]), (95, 11, 2, c_watch_bothErr, [(4, none)]), (96, 38, 2, c_watch_alarms, [(4, none)]), (97, 39, 3, c_watch_ringErr, [(6, none)]), (98, 65, 3, c_watch_freezes, [(6, none)]), (100, 9, 2, c_slices_ContainsFunc_int_int, [(4, none)]), (101, 12, 3, c_watch_LostBy_1, [(4, none)]), (102, 9, 2, c_slices_ContainsFunc_api_Range_api_Range, [(4, none)]), (103, 10, 2, c_watch_LostBy_2, [(3, none)]), (104, 50, 3, c_ref08_marks, [(6, none)]), (105, 8, 2, c_watch_odd, [(4, none)]), (106, 15, 1, c_watch_small, [(2, (some (some 2))), (3, none)]), (107, 16, 2, c_watch_lowest, [(4, (some (some 2)))]), (108, 99, 2, c_ref08_Sums, [(4, none)]), (109, 13, 2, c_base_Gcd, [(4, none)]), (110, 19, 1, c_watch_quiet, [(2, none)]), (111, 6, 2, c_watch_windows, [(4, none)]), (112, 32, 3, c_ref08_Excess, [(6, none)]), (113, 19, 1, c_watch_pairsErr, [(2, none)]), (114, 71, 1, c_watch_line, [(2, (some (some 4))), (3, none)]), (115, 14, 1, c_base_IsLowest, [(2, none)]), (117, 7, 1, c_base_RatioInt, [(2, (some (some 4)))]), (118, 22, 2, c_base_RatioAdd, [(4, (some (some 4)))]), (119, 16, 2, c_base_RatioMul, [(4, (some (some 4)))]), (120, 8, 1, c_base_RatioFrom, [(2, (some (some 4)))]), (121, 9, 2, c_base_RatioSub, [(4, (some (some 4)))]), (122, 9, 2, c_base_WideCmp, [(4, none)]), (123, 86, 2, c_base_WideMul, [(4, (some (some 2)))]), (124, 29, 2, c_watch_product, [(4, (some (some 3)))]), (125, 73, 2, c_watch_wide_plus, [(4, (some (some 3)))]), (126, 42, 2, c_watch_wide_rounded, [(4, (some (some 2)))]), (127, 25, 1, c_slices_Max_int_int, [(2, none)]), (128, 13, 1, c_watch_countsErr, [(2, none)]), (129, 19, 2, c_slices_IndexFunc_int_int, [(4, none)]), (130, 19, 2, c_slices_IndexFunc_api_Range_api_Range, [(4, none)]), (131, 8, 2, c_watch_odd_1, [(3, none)]), (132, 10, 2, c_watch_isSized, [(4, none)]), (133, 15, 2, c_watch_divisor, [(4, none)]), (134, 25, 1, c_slices_Min_int_int, [(2, none)]), (135, 49, 3, c_watch_windows_1, []), (136, 9, 2, c_slices_ContainsFunc_api_WatchPair_api_WatchPair, [(4, none)]), (137, 9, 1, c_watch_pairsErr_1, [(2, none)]), (138, 20, 1, c_base_WideOf, [(2, (some (some 2)))]), (139, 30, 2, c_base_RatioMake, [(4, (some (some 4)))]), (140, 53, 2, c_base_WideAdd, [(4, (some (some 2)))]), (141, 10, 2, c_base_RatioOf, [(4, (some (some 4)))]), (142, 9, 1, c_base_RatioNeg, [(2, (some (some 4)))]), (143, 9, 2, c_base_WideSub, [(4, (some (some 2)))]), (144, 13, 2, c_base_wideOf, [(4, (some (some 2)))]), (145, 51, 2, c_math_bits_Mul64, [(4, none), (5, none)]), (148, 135, 3, c_math_bits_Div64, [(6, none), (7, none)]), (149, 19, 2, c_slices_IndexFunc_api_WatchPair_api_WatchPair, [(4, none)]), (150, 5, 1, c_base_WideSign, [(2, none)]), (151, 9, 1, c_base_WideNeg, [(2, (some (some 2)))]), (152, 23, 2, c_base_wideGcd, [(4, (some (some 2)))]), (153, 88, 2, c_base_WideFloor, [(4, (some (some 2)))]), (154, 42, 2, c_base_addDigits, [(4, none)]), (155, 41, 2, c_base_cmpDigits, [(4, none)]), (156, 35, 2, c_base_subDigits, [(4, none)]), (157, 21, 1, c_base_trimmed, [(2, none)]), (158, 6, 1, c_math_bits_LeadingZeros64, [(2, none)]), (159, 9, 1, c_base_wideSize, [(2, (some (some 2)))])]
theorem tabW_ok : ∀ f c, lookC tabW f = some c → cFun Try.prog f = some c := by
  refine lookC_ok ?_
  unfold tabW
  simp only [List.forall_mem_cons]
  exact ⟨f_gosem_cut_init, f_law08_WatchCounted, f_law08_WatchDead, f_law08_WatchOneRise, f_law08_WatchRings, f_law08_WatchNothingLost, f_law08_WatchSkies, f_law08_WatchRises, f_law08_WatchNeverMissed, f_top_TopWatchFalseAlarms, f_law08_WatchAlarms, f_law08_WatchBestLine, f_law08_awake, f_law08_fewSensors, f_law08_light, f_ref08_SkyErr, f_ref08_BinsErr, f_base_Within, f_watch_CasesOf, f_ref08_CopySky, f_watch_WaysOf, f_watch_ThresholdFor, f_law08_written, f_watch_TrueCounts, f_ref08_DeadErr, f_ref08_True, f_law08_few, f_ref08_RuleErr, f_ref08_CountsErr, f_watch_AlarmsIn, f_base_CopyInts, f_watch_FirstsIn, f_base_Has, f_watch_KeptBy, f_watch_LostBy, f_ref08_RingErr, f_watch_CheckRing, f_ref08_AlarmsErr, f_ref08_SameFreezes, f_ref08_Kept, f_base_Ints, f_ref08_Lost, f_watch_CheckSky, f_watch_FalseAlarms, f_ref08_CheckSky, f_ref08_Cases, f_ref08_Threshold, f_ref08_ThresholdErr, f_base_Lowest, f_ref08_Ways, f_base_IsSmall, f_watch_NeverMissed, f_watch_SmallestRise, f_ref08_Rise, f_ref08_Never, f_base_Mod, f_ref08_Lowest, f_top_watchAwake, f_top_watchSmall, f_top_watchRaises, f_watch_ExcessesOf, f_watch_StrengthAt, f_watch_StrongestOf, f_watch_CheckRule, f_ref08_Excesses, f_ref08_Alarms, f_ref08_Firsts, f_ref08_Strength, f_ref08_Strongest, f_law08_fewPairs, f_ref08_PairsErr, f_ref08_Equal, f_base_Size, f_watch_FitOf, f_ref08_CopyPairs, f_ref08_LineErr, f_watch_CheckFit, f_base_Whole, f_law08_squares, f_base_RatioCmp, f_watch_ResidualsOf, f_law08_Rule, f_law08_Sky, f_law08_Pairs, f_watch_binsErr, f_watch_from, f_watch_sums, f_watch_first, f_watch_thresholdErr, f_watch_unless, f_watch_within, f_base_Floor, f_base_Ceil, f_watch_bothErr, f_watch_alarms, f_watch_ringErr, f_watch_freezes, f_slices_ContainsFunc_int_int, f_watch_LostBy_1, f_slices_ContainsFunc_api_Range_api_Range, f_watch_LostBy_2, f_ref08_marks, f_watch_odd, f_watch_small, f_watch_lowest, f_ref08_Sums, f_base_Gcd, f_watch_quiet, f_watch_windows, f_ref08_Excess, f_watch_pairsErr, f_watch_line, f_base_IsLowest, f_base_RatioInt, f_base_RatioAdd, f_base_RatioMul, f_base_RatioFrom, f_base_RatioSub, f_base_WideCmp, f_base_WideMul, f_watch_product, f_watch_wide_plus, f_watch_wide_rounded, f_slices_Max_int_int, f_watch_countsErr, f_slices_IndexFunc_int_int, f_slices_IndexFunc_api_Range_api_Range, f_watch_odd_1, f_watch_isSized, f_watch_divisor, f_slices_Min_int_int, f_watch_windows_1, f_slices_ContainsFunc_api_WatchPair_api_WatchPair, f_watch_pairsErr_1, f_base_WideOf, f_base_RatioMake, f_base_WideAdd, f_base_RatioOf, f_base_RatioNeg, f_base_WideSub, f_base_wideOf, f_math_bits_Mul64, f_math_bits_Div64, f_slices_IndexFunc_api_WatchPair_api_WatchPair, f_base_WideSign, f_base_WideNeg, f_base_wideGcd, f_base_WideFloor, f_base_addDigits, f_base_cmpDigits, f_base_subDigits, f_base_trimmed, f_math_bits_LeadingZeros64, f_base_wideSize, fun p hp => by cases hp⟩
theorem awake_run : callN noExt itW (lookC tabW) 100 30 14 [] = some (.bool true) := by kernel_rfl
theorem awake_s : Sound Try.prog 14 [] (.bool true) := callN_sound noExt_ok itW_ok tabW_ok 30 _ _ _ awake_run
end Go.Proofs.Ytaebfjepacnmhaa

/- The law WatchDead: contracts, and the law. By an AI agent; nothing here is trusted. -/
namespace Go.Proofs.Ytaebfjepacnmhaa
open Go.Av

structure Dead where
  counts : Int
  ticks : Int
  dead : Int
def Dead.av (d : Dead) : AV := .agg [.int .i64 d.counts, .int .i64 d.ticks, .int .i64 d.dead]
def Dead.right (d : Dead) : Prop := (0 ≤ d.counts ∧ d.counts ≤ 1000000) ∧ (1 ≤ d.ticks ∧ d.ticks ≤ 1000000000) ∧ (0 ≤ d.dead ∧ d.dead ≤ 100)
instance (d : Dead) : Decidable d.right := by unfold Dead.right; exact inferInstance
def Dead.live (d : Dead) : Int := d.ticks - d.dead * d.counts
def Dead.e (d : Dead) : Int := if d.right then if d.live ≤ 0 then 22 else 0 else 2
def Dead.lo (d : Dead) : Int := d.counts * d.ticks / d.live
def Dead.hi (d : Dead) : Int := -(-(d.counts * d.ticks) / d.live)
def rngA (lo hi : Int) : AV := .agg [.int .i64 lo, .int .i64 hi]

theorem mul_le {a b A B : Int} (h1 : 0 ≤ a) (h2 : a ≤ A) (h3 : 0 ≤ b) (h4 : b ≤ B) : 0 ≤ a * b ∧ a * b ≤ A * B :=
  ⟨Int.mul_nonneg h1 h3, Int.mul_le_mul h2 h4 h3 (by omega)⟩

theorem Dead.bounds {d : Dead} (h : d.right) : (0 ≤ d.dead * d.counts ∧ d.dead * d.counts ≤ 100 * 1000000) ∧ (0 ≤ d.counts * d.ticks ∧ d.counts * d.ticks ≤ 1000000 * 1000000000) := by
  obtain ⟨⟨a1, a2⟩, ⟨b1, b2⟩, c1, c2⟩ := h
  exact ⟨mul_le c1 c2 a1 a2, mul_le a1 a2 (by omega) b2⟩
theorem ceil_tdiv {n l : Int} (hn : 0 ≤ n) (hl : 0 < l) : (n + l - 1).tdiv l = -(-n / l) := by
  rw [Int.tdiv_eq_ediv_of_nonneg (by omega)]
  rw [Int.ediv_eq_iff_of_pos hl]
  have h1 := Int.ediv_mul_le (-n) (b := l) (by omega)
  have h2 := Int.lt_ediv_add_one_mul_self (-n) hl
  rw [Int.add_mul] at h2
  rw [Int.neg_mul]
  constructor <;> omega

theorem TrueCounts_s (d : Dead) : Sound Try.prog 25 [d.av] (.tup [if d.e = 0 then rngA d.lo d.hi else rngA 0 0, .int .i64 d.e]) := by
  refine sound_W f_watch_TrueCounts (Nat.le_of_ble_eq_true rfl) ?_
  simp only [c_watch_TrueCounts, Dead.av, vcV, Int.reduceEq, Int.reduceNe, Int.reduceLT, Int.reduceLE, Nat.reduceEqDiff, Nat.reduceAdd, reduceIte, reduceCtorEq, Nat.reduceLT, Nat.reduceLeDiff, eq_self, Option.bind_some, Option.map_some, List.map_cons, List.map_nil, List.length_cons, List.length_nil, Option.getD_some, Option.getD_none, List.all_cons, List.all_nil, List.set_cons_zero, List.set_cons_succ, List.replicate_succ, List.replicate_zero, List.getElem?_cons_zero, List.getElem?_cons_succ, List.drop_succ_cons, List.drop_zero, List.take_succ_cons, List.take_zero, List.map_append, List.nil_append, List.cons_append, Nat.reduceShiftRight, Nat.reduceMod]
  by_cases hr : d.right
  · have he : d.e = if d.live ≤ 0 then 22 else 0 := by unfold Dead.e; rw [if_pos hr]
    obtain ⟨b1, b2⟩ := d.bounds hr
    have hr' := hr
    obtain ⟨⟨a1, a2⟩, ⟨a3, a4⟩, a5, a6⟩ := hr'
    refine callS_of (within_s _ _ _) ?_
    simp only [a1, a2, a3, a4, a5, a6, vcV, Int.reduceEq, Int.reduceNe, Int.reduceLT, Int.reduceLE, Nat.reduceEqDiff, Nat.reduceAdd, reduceIte, reduceCtorEq, Nat.reduceLT, Nat.reduceLeDiff, eq_self, Option.bind_some, Option.map_some, List.map_cons, List.map_nil, List.length_cons, List.length_nil, Option.getD_some, Option.getD_none, List.all_cons, List.all_nil, List.set_cons_zero, List.set_cons_succ, List.replicate_succ, List.replicate_zero, List.getElem?_cons_zero, List.getElem?_cons_succ, List.drop_succ_cons, List.drop_zero, List.take_succ_cons, List.take_zero, List.map_append, List.nil_append, List.cons_append, Nat.reduceShiftRight, Nat.reduceMod]
    refine callS_of (within_s _ _ _) ?_
    simp only [a1, a2, a3, a4, a5, a6, vcV, Int.reduceEq, Int.reduceNe, Int.reduceLT, Int.reduceLE, Nat.reduceEqDiff, Nat.reduceAdd, reduceIte, reduceCtorEq, Nat.reduceLT, Nat.reduceLeDiff, eq_self, Option.bind_some, Option.map_some, List.map_cons, List.map_nil, List.length_cons, List.length_nil, Option.getD_some, Option.getD_none, List.all_cons, List.all_nil, List.set_cons_zero, List.set_cons_succ, List.replicate_succ, List.replicate_zero, List.getElem?_cons_zero, List.getElem?_cons_succ, List.drop_succ_cons, List.drop_zero, List.take_succ_cons, List.take_zero, List.map_append, List.nil_append, List.cons_append, Nat.reduceShiftRight, Nat.reduceMod]
    refine callS_of (within_s _ _ _) ?_
    simp only [a1, a2, a3, a4, a5, a6, vcV, Int.reduceEq, Int.reduceNe, Int.reduceLT, Int.reduceLE, Nat.reduceEqDiff, Nat.reduceAdd, reduceIte, reduceCtorEq, Nat.reduceLT, Nat.reduceLeDiff, eq_self, Option.bind_some, Option.map_some, List.map_cons, List.map_nil, List.length_cons, List.length_nil, Option.getD_some, Option.getD_none, List.all_cons, List.all_nil, List.set_cons_zero, List.set_cons_succ, List.replicate_succ, List.replicate_zero, List.getElem?_cons_zero, List.getElem?_cons_succ, List.drop_succ_cons, List.drop_zero, List.take_succ_cons, List.take_zero, List.map_append, List.nil_append, List.cons_append, Nat.reduceShiftRight, Nat.reduceMod]
    refine ⟨by (simp only [decide_eq_true_eq, decide_eq_false_iff_not, Bool.not_true, I64, Bool.not_eq_true', Bool.not_eq_false', bne_iff_ne, beq_iff_eq, ne_eq] at *; omega), by (simp only [decide_eq_true_eq, decide_eq_false_iff_not, Bool.not_true, I64, Bool.not_eq_true', Bool.not_eq_false', bne_iff_ne, beq_iff_eq, ne_eq] at *; omega), ?_⟩
    by_cases hl : d.live ≤ 0
    · have hl' : d.ticks - d.dead * d.counts ≤ 0 := hl
      rw [he, if_pos hl]
      simp only [hl', vcV, Int.reduceEq, Int.reduceNe, Int.reduceLT, Int.reduceLE, Nat.reduceEqDiff, Nat.reduceAdd, reduceIte, reduceCtorEq, Nat.reduceLT, Nat.reduceLeDiff, eq_self, Option.bind_some, Option.map_some, List.map_cons, List.map_nil, List.length_cons, List.length_nil, Option.getD_some, Option.getD_none, List.all_cons, List.all_nil, List.set_cons_zero, List.set_cons_succ, List.replicate_succ, List.replicate_zero, List.getElem?_cons_zero, List.getElem?_cons_succ, List.drop_succ_cons, List.drop_zero, List.take_succ_cons, List.take_zero, List.map_append, List.nil_append, List.cons_append, Nat.reduceShiftRight, Nat.reduceMod]
      rfl
    · have hl' : ¬ d.ticks - d.dead * d.counts ≤ 0 := hl
      rw [he, if_neg hl]
      have hp : 0 < d.ticks - d.dead * d.counts := by omega
      have q1 := tdiv_I64 (n := d.counts * d.ticks) (by_ := d.ticks - d.dead * d.counts) (by (simp only [decide_eq_true_eq, decide_eq_false_iff_not, Bool.not_true, I64, Bool.not_eq_true', Bool.not_eq_false', bne_iff_ne, beq_iff_eq, ne_eq] at *; omega)) hp
      have q2 := tdiv_I64 (n := d.counts * d.ticks + (d.ticks - d.dead * d.counts) - 1) (by_ := d.ticks - d.dead * d.counts) (by (simp only [decide_eq_true_eq, decide_eq_false_iff_not, Bool.not_true, I64, Bool.not_eq_true', Bool.not_eq_false', bne_iff_ne, beq_iff_eq, ne_eq] at *; omega)) hp
      simp only [hl', vcV, Int.reduceEq, Int.reduceNe, Int.reduceLT, Int.reduceLE, Nat.reduceEqDiff, Nat.reduceAdd, reduceIte, reduceCtorEq, Nat.reduceLT, Nat.reduceLeDiff, eq_self, Option.bind_some, Option.map_some, List.map_cons, List.map_nil, List.length_cons, List.length_nil, Option.getD_some, Option.getD_none, List.all_cons, List.all_nil, List.set_cons_zero, List.set_cons_succ, List.replicate_succ, List.replicate_zero, List.getElem?_cons_zero, List.getElem?_cons_succ, List.drop_succ_cons, List.drop_zero, List.take_succ_cons, List.take_zero, List.map_append, List.nil_append, List.cons_append, Nat.reduceShiftRight, Nat.reduceMod]
      refine ⟨by (simp only [decide_eq_true_eq, decide_eq_false_iff_not, Bool.not_true, I64, Bool.not_eq_true', Bool.not_eq_false', bne_iff_ne, beq_iff_eq, ne_eq] at *; omega), by omega, by (simp only [decide_eq_true_eq, decide_eq_false_iff_not, Bool.not_true, I64, Bool.not_eq_true', Bool.not_eq_false', bne_iff_ne, beq_iff_eq, ne_eq] at *; omega), by (simp only [decide_eq_true_eq, decide_eq_false_iff_not, Bool.not_true, I64, Bool.not_eq_true', Bool.not_eq_false', bne_iff_ne, beq_iff_eq, ne_eq] at *; omega), by (simp only [decide_eq_true_eq, decide_eq_false_iff_not, Bool.not_true, I64, Bool.not_eq_true', Bool.not_eq_false', bne_iff_ne, beq_iff_eq, ne_eq] at *; omega), by omega, by (simp only [decide_eq_true_eq, decide_eq_false_iff_not, Bool.not_true, I64, Bool.not_eq_true', Bool.not_eq_false', bne_iff_ne, beq_iff_eq, ne_eq] at *; omega), ?_⟩
      rw [Int.tdiv_eq_ediv_of_nonneg b2.1, ceil_tdiv b2.1 hp]
      rfl
  · have he : d.e = 2 := by unfold Dead.e; rw [if_neg hr]
    rw [he]
    refine callS_of (within_s _ _ _) ?_
    unfold Dead.right at hr
    simp only [vcV, Int.reduceEq, Int.reduceNe, Int.reduceLT, Int.reduceLE, Nat.reduceEqDiff, Nat.reduceAdd, reduceIte, reduceCtorEq, Nat.reduceLT, Nat.reduceLeDiff, eq_self, Option.bind_some, Option.map_some, List.map_cons, List.map_nil, List.length_cons, List.length_nil, Option.getD_some, Option.getD_none, List.all_cons, List.all_nil, List.set_cons_zero, List.set_cons_succ, List.replicate_succ, List.replicate_zero, List.getElem?_cons_zero, List.getElem?_cons_succ, List.drop_succ_cons, List.drop_zero, List.take_succ_cons, List.take_zero, List.map_append, List.nil_append, List.cons_append, Nat.reduceShiftRight, Nat.reduceMod]
    refine brB_split (fun h => ?_) (fun h => ?_)
    · simp only [decide_eq_true_eq] at h
      simp only [h, vcV, Int.reduceEq, Int.reduceNe, Int.reduceLT, Int.reduceLE, Nat.reduceEqDiff, Nat.reduceAdd, reduceIte, reduceCtorEq, Nat.reduceLT, Nat.reduceLeDiff, eq_self, Option.bind_some, Option.map_some, List.map_cons, List.map_nil, List.length_cons, List.length_nil, Option.getD_some, Option.getD_none, List.all_cons, List.all_nil, List.set_cons_zero, List.set_cons_succ, List.replicate_succ, List.replicate_zero, List.getElem?_cons_zero, List.getElem?_cons_succ, List.drop_succ_cons, List.drop_zero, List.take_succ_cons, List.take_zero, List.map_append, List.nil_append, List.cons_append, Nat.reduceShiftRight, Nat.reduceMod]
      refine callS_of (within_s _ _ _) ?_
      simp only [vcV, Int.reduceEq, Int.reduceNe, Int.reduceLT, Int.reduceLE, Nat.reduceEqDiff, Nat.reduceAdd, reduceIte, reduceCtorEq, Nat.reduceLT, Nat.reduceLeDiff, eq_self, Option.bind_some, Option.map_some, List.map_cons, List.map_nil, List.length_cons, List.length_nil, Option.getD_some, Option.getD_none, List.all_cons, List.all_nil, List.set_cons_zero, List.set_cons_succ, List.replicate_succ, List.replicate_zero, List.getElem?_cons_zero, List.getElem?_cons_succ, List.drop_succ_cons, List.drop_zero, List.take_succ_cons, List.take_zero, List.map_append, List.nil_append, List.cons_append, Nat.reduceShiftRight, Nat.reduceMod]
      refine brB_split (fun h2 => ?_) (fun h2 => ?_)
      · simp only [decide_eq_true_eq] at h2
        simp only [h2, vcV, Int.reduceEq, Int.reduceNe, Int.reduceLT, Int.reduceLE, Nat.reduceEqDiff, Nat.reduceAdd, reduceIte, reduceCtorEq, Nat.reduceLT, Nat.reduceLeDiff, eq_self, Option.bind_some, Option.map_some, List.map_cons, List.map_nil, List.length_cons, List.length_nil, Option.getD_some, Option.getD_none, List.all_cons, List.all_nil, List.set_cons_zero, List.set_cons_succ, List.replicate_succ, List.replicate_zero, List.getElem?_cons_zero, List.getElem?_cons_succ, List.drop_succ_cons, List.drop_zero, List.take_succ_cons, List.take_zero, List.map_append, List.nil_append, List.cons_append, Nat.reduceShiftRight, Nat.reduceMod]
        refine callS_of (within_s _ _ _) ?_
        have h3 : ¬ (0 ≤ d.dead ∧ d.dead ≤ 100) := fun h3 => hr ⟨h, h2, h3⟩
        simp only [h3, vcV, Int.reduceEq, Int.reduceNe, Int.reduceLT, Int.reduceLE, Nat.reduceEqDiff, Nat.reduceAdd, reduceIte, reduceCtorEq, Nat.reduceLT, Nat.reduceLeDiff, eq_self, Option.bind_some, Option.map_some, List.map_cons, List.map_nil, List.length_cons, List.length_nil, Option.getD_some, Option.getD_none, List.all_cons, List.all_nil, List.set_cons_zero, List.set_cons_succ, List.replicate_succ, List.replicate_zero, List.getElem?_cons_zero, List.getElem?_cons_succ, List.drop_succ_cons, List.drop_zero, List.take_succ_cons, List.take_zero, List.map_append, List.nil_append, List.cons_append, Nat.reduceShiftRight, Nat.reduceMod]
        rfl
      · simp only [Bool.not_true, decide_eq_false_iff_not] at h2
        simp only [h2, vcV, Int.reduceEq, Int.reduceNe, Int.reduceLT, Int.reduceLE, Nat.reduceEqDiff, Nat.reduceAdd, reduceIte, reduceCtorEq, Nat.reduceLT, Nat.reduceLeDiff, eq_self, Option.bind_some, Option.map_some, List.map_cons, List.map_nil, List.length_cons, List.length_nil, Option.getD_some, Option.getD_none, List.all_cons, List.all_nil, List.set_cons_zero, List.set_cons_succ, List.replicate_succ, List.replicate_zero, List.getElem?_cons_zero, List.getElem?_cons_succ, List.drop_succ_cons, List.drop_zero, List.take_succ_cons, List.take_zero, List.map_append, List.nil_append, List.cons_append, Nat.reduceShiftRight, Nat.reduceMod]
        rfl
    · simp only [Bool.not_true, decide_eq_false_iff_not] at h
      simp only [h, vcV, Int.reduceEq, Int.reduceNe, Int.reduceLT, Int.reduceLE, Nat.reduceEqDiff, Nat.reduceAdd, reduceIte, reduceCtorEq, Nat.reduceLT, Nat.reduceLeDiff, eq_self, Option.bind_some, Option.map_some, List.map_cons, List.map_nil, List.length_cons, List.length_nil, Option.getD_some, Option.getD_none, List.all_cons, List.all_nil, List.set_cons_zero, List.set_cons_succ, List.replicate_succ, List.replicate_zero, List.getElem?_cons_zero, List.getElem?_cons_succ, List.drop_succ_cons, List.drop_zero, List.take_succ_cons, List.take_zero, List.map_append, List.nil_append, List.cons_append, Nat.reduceShiftRight, Nat.reduceMod]
      rfl

theorem DeadErr_s (d : Dead) : Sound Try.prog 26 [d.av] (.int .i64 d.e) := by
  refine sound_W f_ref08_DeadErr (Nat.le_of_ble_eq_true rfl) ?_
  by_cases h1 : 0 ≤ d.counts ∧ d.counts ≤ 1000000
  · by_cases h2 : 1 ≤ d.ticks ∧ d.ticks ≤ 1000000000
    · by_cases h3 : 0 ≤ d.dead ∧ d.dead ≤ 100
      · have hr : d.right := ⟨h1, h2, h3⟩
        have he : d.e = if d.live ≤ 0 then 22 else 0 := by unfold Dead.e; rw [if_pos hr]
        obtain ⟨b1, b2⟩ := d.bounds hr
        simp only [c_ref08_DeadErr, Dead.av, vcV, Int.reduceEq, Int.reduceNe, Int.reduceLT, Int.reduceLE, Nat.reduceEqDiff, Nat.reduceAdd, reduceIte, reduceCtorEq, Nat.reduceLT, Nat.reduceLeDiff, eq_self, Option.bind_some, Option.map_some, List.map_cons, List.map_nil, List.length_cons, List.length_nil, Option.getD_some, Option.getD_none, List.all_cons, List.all_nil, List.set_cons_zero, List.set_cons_succ, List.replicate_succ, List.replicate_zero, List.getElem?_cons_zero, List.getElem?_cons_succ, List.drop_succ_cons, List.drop_zero, List.take_succ_cons, List.take_zero, List.map_append, List.nil_append, List.cons_append, Nat.reduceShiftRight, Nat.reduceMod]
        refine callS_of (Within_s _ _ _) ?_
        simp only [h1, vcV, Int.reduceEq, Int.reduceNe, Int.reduceLT, Int.reduceLE, Nat.reduceEqDiff, Nat.reduceAdd, reduceIte, reduceCtorEq, Nat.reduceLT, Nat.reduceLeDiff, eq_self, Option.bind_some, Option.map_some, List.map_cons, List.map_nil, List.length_cons, List.length_nil, Option.getD_some, Option.getD_none, List.all_cons, List.all_nil, List.set_cons_zero, List.set_cons_succ, List.replicate_succ, List.replicate_zero, List.getElem?_cons_zero, List.getElem?_cons_succ, List.drop_succ_cons, List.drop_zero, List.take_succ_cons, List.take_zero, List.map_append, List.nil_append, List.cons_append, Nat.reduceShiftRight, Nat.reduceMod]
        refine callS_of (Within_s _ _ _) ?_
        simp only [h2, vcV, Int.reduceEq, Int.reduceNe, Int.reduceLT, Int.reduceLE, Nat.reduceEqDiff, Nat.reduceAdd, reduceIte, reduceCtorEq, Nat.reduceLT, Nat.reduceLeDiff, eq_self, Option.bind_some, Option.map_some, List.map_cons, List.map_nil, List.length_cons, List.length_nil, Option.getD_some, Option.getD_none, List.all_cons, List.all_nil, List.set_cons_zero, List.set_cons_succ, List.replicate_succ, List.replicate_zero, List.getElem?_cons_zero, List.getElem?_cons_succ, List.drop_succ_cons, List.drop_zero, List.take_succ_cons, List.take_zero, List.map_append, List.nil_append, List.cons_append, Nat.reduceShiftRight, Nat.reduceMod]
        refine callS_of (Within_s _ _ _) ?_
        simp only [h3, vcV, Int.reduceEq, Int.reduceNe, Int.reduceLT, Int.reduceLE, Nat.reduceEqDiff, Nat.reduceAdd, reduceIte, reduceCtorEq, Nat.reduceLT, Nat.reduceLeDiff, eq_self, Option.bind_some, Option.map_some, List.map_cons, List.map_nil, List.length_cons, List.length_nil, Option.getD_some, Option.getD_none, List.all_cons, List.all_nil, List.set_cons_zero, List.set_cons_succ, List.replicate_succ, List.replicate_zero, List.getElem?_cons_zero, List.getElem?_cons_succ, List.drop_succ_cons, List.drop_zero, List.take_succ_cons, List.take_zero, List.map_append, List.nil_append, List.cons_append, Nat.reduceShiftRight, Nat.reduceMod]
        refine ⟨by (simp only [decide_eq_true_eq, decide_eq_false_iff_not, Bool.not_true, I64, Bool.not_eq_true', Bool.not_eq_false', bne_iff_ne, beq_iff_eq, ne_eq] at *; omega), ?_⟩
        rw [he]
        unfold Dead.live
        refine brB_split (fun h => ?_) (fun h => ?_)
        · simp only [vcV, Int.reduceEq, Int.reduceNe, Int.reduceLT, Int.reduceLE, Nat.reduceEqDiff, Nat.reduceAdd, reduceIte, reduceCtorEq, Nat.reduceLT, Nat.reduceLeDiff, eq_self, Option.bind_some, Option.map_some, List.map_cons, List.map_nil, List.length_cons, List.length_nil, Option.getD_some, Option.getD_none, List.all_cons, List.all_nil, List.set_cons_zero, List.set_cons_succ, List.replicate_succ, List.replicate_zero, List.getElem?_cons_zero, List.getElem?_cons_succ, List.drop_succ_cons, List.drop_zero, List.take_succ_cons, List.take_zero, List.map_append, List.nil_append, List.cons_append, Nat.reduceShiftRight, Nat.reduceMod]
          rw [if_pos (by (simp only [decide_eq_true_eq, decide_eq_false_iff_not, Bool.not_true, I64, Bool.not_eq_true', Bool.not_eq_false', bne_iff_ne, beq_iff_eq, ne_eq] at *; omega))]
        · simp only [vcV, Int.reduceEq, Int.reduceNe, Int.reduceLT, Int.reduceLE, Nat.reduceEqDiff, Nat.reduceAdd, reduceIte, reduceCtorEq, Nat.reduceLT, Nat.reduceLeDiff, eq_self, Option.bind_some, Option.map_some, List.map_cons, List.map_nil, List.length_cons, List.length_nil, Option.getD_some, Option.getD_none, List.all_cons, List.all_nil, List.set_cons_zero, List.set_cons_succ, List.replicate_succ, List.replicate_zero, List.getElem?_cons_zero, List.getElem?_cons_succ, List.drop_succ_cons, List.drop_zero, List.take_succ_cons, List.take_zero, List.map_append, List.nil_append, List.cons_append, Nat.reduceShiftRight, Nat.reduceMod]
          rw [if_neg (by (simp only [decide_eq_true_eq, decide_eq_false_iff_not, Bool.not_true, I64, Bool.not_eq_true', Bool.not_eq_false', bne_iff_ne, beq_iff_eq, ne_eq] at *; omega))]
      · have hr : ¬ d.right := fun h => h3 h.2.2
        have he : d.e = 2 := by unfold Dead.e; rw [if_neg hr]
        simp only [c_ref08_DeadErr, Dead.av, he, vcV, Int.reduceEq, Int.reduceNe, Int.reduceLT, Int.reduceLE, Nat.reduceEqDiff, Nat.reduceAdd, reduceIte, reduceCtorEq, Nat.reduceLT, Nat.reduceLeDiff, eq_self, Option.bind_some, Option.map_some, List.map_cons, List.map_nil, List.length_cons, List.length_nil, Option.getD_some, Option.getD_none, List.all_cons, List.all_nil, List.set_cons_zero, List.set_cons_succ, List.replicate_succ, List.replicate_zero, List.getElem?_cons_zero, List.getElem?_cons_succ, List.drop_succ_cons, List.drop_zero, List.take_succ_cons, List.take_zero, List.map_append, List.nil_append, List.cons_append, Nat.reduceShiftRight, Nat.reduceMod]
        refine callS_of (Within_s _ _ _) ?_
        simp only [h1, vcV, Int.reduceEq, Int.reduceNe, Int.reduceLT, Int.reduceLE, Nat.reduceEqDiff, Nat.reduceAdd, reduceIte, reduceCtorEq, Nat.reduceLT, Nat.reduceLeDiff, eq_self, Option.bind_some, Option.map_some, List.map_cons, List.map_nil, List.length_cons, List.length_nil, Option.getD_some, Option.getD_none, List.all_cons, List.all_nil, List.set_cons_zero, List.set_cons_succ, List.replicate_succ, List.replicate_zero, List.getElem?_cons_zero, List.getElem?_cons_succ, List.drop_succ_cons, List.drop_zero, List.take_succ_cons, List.take_zero, List.map_append, List.nil_append, List.cons_append, Nat.reduceShiftRight, Nat.reduceMod]
        refine callS_of (Within_s _ _ _) ?_
        simp only [h2, vcV, Int.reduceEq, Int.reduceNe, Int.reduceLT, Int.reduceLE, Nat.reduceEqDiff, Nat.reduceAdd, reduceIte, reduceCtorEq, Nat.reduceLT, Nat.reduceLeDiff, eq_self, Option.bind_some, Option.map_some, List.map_cons, List.map_nil, List.length_cons, List.length_nil, Option.getD_some, Option.getD_none, List.all_cons, List.all_nil, List.set_cons_zero, List.set_cons_succ, List.replicate_succ, List.replicate_zero, List.getElem?_cons_zero, List.getElem?_cons_succ, List.drop_succ_cons, List.drop_zero, List.take_succ_cons, List.take_zero, List.map_append, List.nil_append, List.cons_append, Nat.reduceShiftRight, Nat.reduceMod]
        refine callS_of (Within_s _ _ _) ?_
        simp only [h3, vcV, Int.reduceEq, Int.reduceNe, Int.reduceLT, Int.reduceLE, Nat.reduceEqDiff, Nat.reduceAdd, reduceIte, reduceCtorEq, Nat.reduceLT, Nat.reduceLeDiff, eq_self, Option.bind_some, Option.map_some, List.map_cons, List.map_nil, List.length_cons, List.length_nil, Option.getD_some, Option.getD_none, List.all_cons, List.all_nil, List.set_cons_zero, List.set_cons_succ, List.replicate_succ, List.replicate_zero, List.getElem?_cons_zero, List.getElem?_cons_succ, List.drop_succ_cons, List.drop_zero, List.take_succ_cons, List.take_zero, List.map_append, List.nil_append, List.cons_append, Nat.reduceShiftRight, Nat.reduceMod]
        rw [he]
    · have hr : ¬ d.right := fun h => h2 h.2.1
      have he : d.e = 2 := by unfold Dead.e; rw [if_neg hr]
      simp only [c_ref08_DeadErr, Dead.av, he, vcV, Int.reduceEq, Int.reduceNe, Int.reduceLT, Int.reduceLE, Nat.reduceEqDiff, Nat.reduceAdd, reduceIte, reduceCtorEq, Nat.reduceLT, Nat.reduceLeDiff, eq_self, Option.bind_some, Option.map_some, List.map_cons, List.map_nil, List.length_cons, List.length_nil, Option.getD_some, Option.getD_none, List.all_cons, List.all_nil, List.set_cons_zero, List.set_cons_succ, List.replicate_succ, List.replicate_zero, List.getElem?_cons_zero, List.getElem?_cons_succ, List.drop_succ_cons, List.drop_zero, List.take_succ_cons, List.take_zero, List.map_append, List.nil_append, List.cons_append, Nat.reduceShiftRight, Nat.reduceMod]
      refine callS_of (Within_s _ _ _) ?_
      simp only [h1, vcV, Int.reduceEq, Int.reduceNe, Int.reduceLT, Int.reduceLE, Nat.reduceEqDiff, Nat.reduceAdd, reduceIte, reduceCtorEq, Nat.reduceLT, Nat.reduceLeDiff, eq_self, Option.bind_some, Option.map_some, List.map_cons, List.map_nil, List.length_cons, List.length_nil, Option.getD_some, Option.getD_none, List.all_cons, List.all_nil, List.set_cons_zero, List.set_cons_succ, List.replicate_succ, List.replicate_zero, List.getElem?_cons_zero, List.getElem?_cons_succ, List.drop_succ_cons, List.drop_zero, List.take_succ_cons, List.take_zero, List.map_append, List.nil_append, List.cons_append, Nat.reduceShiftRight, Nat.reduceMod]
      refine callS_of (Within_s _ _ _) ?_
      simp only [h2, vcV, Int.reduceEq, Int.reduceNe, Int.reduceLT, Int.reduceLE, Nat.reduceEqDiff, Nat.reduceAdd, reduceIte, reduceCtorEq, Nat.reduceLT, Nat.reduceLeDiff, eq_self, Option.bind_some, Option.map_some, List.map_cons, List.map_nil, List.length_cons, List.length_nil, Option.getD_some, Option.getD_none, List.all_cons, List.all_nil, List.set_cons_zero, List.set_cons_succ, List.replicate_succ, List.replicate_zero, List.getElem?_cons_zero, List.getElem?_cons_succ, List.drop_succ_cons, List.drop_zero, List.take_succ_cons, List.take_zero, List.map_append, List.nil_append, List.cons_append, Nat.reduceShiftRight, Nat.reduceMod]
      rw [he]
  · have hr : ¬ d.right := fun h => h1 h.1
    have he : d.e = 2 := by unfold Dead.e; rw [if_neg hr]
    simp only [c_ref08_DeadErr, Dead.av, he, vcV, Int.reduceEq, Int.reduceNe, Int.reduceLT, Int.reduceLE, Nat.reduceEqDiff, Nat.reduceAdd, reduceIte, reduceCtorEq, Nat.reduceLT, Nat.reduceLeDiff, eq_self, Option.bind_some, Option.map_some, List.map_cons, List.map_nil, List.length_cons, List.length_nil, Option.getD_some, Option.getD_none, List.all_cons, List.all_nil, List.set_cons_zero, List.set_cons_succ, List.replicate_succ, List.replicate_zero, List.getElem?_cons_zero, List.getElem?_cons_succ, List.drop_succ_cons, List.drop_zero, List.take_succ_cons, List.take_zero, List.map_append, List.nil_append, List.cons_append, Nat.reduceShiftRight, Nat.reduceMod]
    refine callS_of (Within_s _ _ _) ?_
    simp only [h1, vcV, Int.reduceEq, Int.reduceNe, Int.reduceLT, Int.reduceLE, Nat.reduceEqDiff, Nat.reduceAdd, reduceIte, reduceCtorEq, Nat.reduceLT, Nat.reduceLeDiff, eq_self, Option.bind_some, Option.map_some, List.map_cons, List.map_nil, List.length_cons, List.length_nil, Option.getD_some, Option.getD_none, List.all_cons, List.all_nil, List.set_cons_zero, List.set_cons_succ, List.replicate_succ, List.replicate_zero, List.getElem?_cons_zero, List.getElem?_cons_succ, List.drop_succ_cons, List.drop_zero, List.take_succ_cons, List.take_zero, List.map_append, List.nil_append, List.cons_append, Nat.reduceShiftRight, Nat.reduceMod]
    rw [he]

theorem Dead.e0 {d : Dead} (h : d.e = 0) : d.right ∧ 0 < d.live := by
  unfold Dead.e at h
  split at h
  · split at h
    · cases h
    · exact ⟨by assumption, by omega⟩
  · cases h

theorem Dead.lohi {d : Dead} (h : d.e = 0) : d.lo ≤ d.hi ∧ d.hi ≤ d.lo + 1 ∧ d.counts ≤ d.lo ∧ 0 ≤ d.lo ∧ d.lo ≤ 1000000 * 1000000000 ∧ 0 ≤ d.hi ∧ d.hi ≤ 1000000 * 1000000000 := by
  obtain ⟨hr, hl⟩ := d.e0 h
  obtain ⟨b1, b2⟩ := d.bounds hr
  obtain ⟨⟨a1, a2⟩, ⟨a3, a4⟩, a5, a6⟩ := hr
  unfold Dead.lo Dead.hi
  have hle : d.live ≤ d.ticks := by unfold Dead.live; omega
  have h1 := Int.ediv_mul_le (d.counts * d.ticks) (b := d.live) (by omega)
  have h2 := Int.lt_ediv_add_one_mul_self (d.counts * d.ticks) hl
  have h3 := Int.ediv_mul_le (-(d.counts * d.ticks)) (b := d.live) (by omega)
  have h4 := Int.lt_ediv_add_one_mul_self (-(d.counts * d.ticks)) hl
  generalize d.counts * d.ticks / d.live = x at *
  generalize -(d.counts * d.ticks) / d.live = y at *
  generalize hn : d.counts * d.ticks = n at *
  generalize d.live = l at *
  have e1 : 0 < (x + 1 + y + 1) * l := by rw [Int.add_mul (x + 1 + y), Int.add_mul (x + 1)]; rw [Int.add_mul y 1] at h4; omega
  have e2 : 0 < x + 1 + y + 1 := by
    by_cases hc : 0 < x + 1 + y + 1
    · exact hc
    · exfalso
      have := Int.mul_nonneg (a := -(x + 1 + y + 1)) (b := l) (by omega) (by omega)
      rw [Int.neg_mul] at this; omega
  have e3 : (x + y) * l ≤ 0 := by rw [Int.add_mul]; omega
  have e4 : x + y ≤ 0 := by
    by_cases hc : x + y ≤ 0
    · exact hc
    · exfalso
      have := Int.mul_le_mul_of_nonneg_right (show 1 ≤ x + y by omega) (show 0 ≤ l by omega)
      omega
  have e5 : d.counts ≤ x := by
    by_cases hc : d.counts ≤ x
    · exact hc
    · exfalso
      have q1 := Int.mul_le_mul_of_nonneg_right (show x + 1 ≤ d.counts by omega) (show 0 ≤ l by omega)
      have q2 := Int.mul_le_mul_of_nonneg_left hle a1
      omega
  have e6 : x ≤ n := by
    by_cases hc : x ≤ n
    · exact hc
    · exfalso
      have q1 := Int.mul_le_mul_of_nonneg_left (show 1 ≤ l by omega) (show 0 ≤ x by omega)
      omega
  have e7 : 0 ≤ x := by omega
  have e8 : -y ≤ n := by
    by_cases hc : -y ≤ n
    · exact hc
    · exfalso
      have q1 := Int.mul_le_mul_of_nonneg_right (show y + 1 ≤ -n by omega) (show 0 ≤ l by omega)
      have q2 := Int.mul_le_mul_of_nonneg_left (show 1 ≤ l by omega) (show 0 ≤ n by omega)
      rw [Int.neg_mul] at q1
      omega
  refine ⟨by omega, by omega, e5, e7, by omega, by omega, by omega⟩

theorem True_s (d : Dead) (h : d.e = 0) : Sound Try.prog 27 [d.av] (rngA d.lo d.hi) := by
  refine sound_W f_ref08_True (Nat.le_of_ble_eq_true rfl) ?_
  obtain ⟨hr, hl⟩ := d.e0 h
  obtain ⟨b1, b2⟩ := d.bounds hr
  obtain ⟨l1, l2, l3, l4, l5, l6, l7⟩ := d.lohi h
  obtain ⟨⟨a1, a2⟩, ⟨a3, a4⟩, a5, a6⟩ := hr
  simp only [c_ref08_True, Dead.av, vcV, Int.reduceEq, Int.reduceNe, Int.reduceLT, Int.reduceLE, Nat.reduceEqDiff, Nat.reduceAdd, reduceIte, reduceCtorEq, Nat.reduceLT, Nat.reduceLeDiff, eq_self, Option.bind_some, Option.map_some, List.map_cons, List.map_nil, List.length_cons, List.length_nil, Option.getD_some, Option.getD_none, List.all_cons, List.all_nil, List.set_cons_zero, List.set_cons_succ, List.replicate_succ, List.replicate_zero, List.getElem?_cons_zero, List.getElem?_cons_succ, List.drop_succ_cons, List.drop_zero, List.take_succ_cons, List.take_zero, List.map_append, List.nil_append, List.cons_append, Nat.reduceShiftRight, Nat.reduceMod]
  refine ⟨by (simp only [decide_eq_true_eq, decide_eq_false_iff_not, Bool.not_true, I64, Bool.not_eq_true', Bool.not_eq_false', bne_iff_ne, beq_iff_eq, ne_eq] at *; omega), by (simp only [decide_eq_true_eq, decide_eq_false_iff_not, Bool.not_true, I64, Bool.not_eq_true', Bool.not_eq_false', bne_iff_ne, beq_iff_eq, ne_eq] at *; omega), by (simp only [decide_eq_true_eq, decide_eq_false_iff_not, Bool.not_true, I64, Bool.not_eq_true', Bool.not_eq_false', bne_iff_ne, beq_iff_eq, ne_eq] at *; omega), ?_⟩
  refine callS_of (Floor_s _ _ (by (simp only [decide_eq_true_eq, decide_eq_false_iff_not, Bool.not_true, I64, Bool.not_eq_true', Bool.not_eq_false', bne_iff_ne, beq_iff_eq, ne_eq] at *; omega)) hl) ?_
  simp only [vcV, Int.reduceEq, Int.reduceNe, Int.reduceLT, Int.reduceLE, Nat.reduceEqDiff, Nat.reduceAdd, reduceIte, reduceCtorEq, Nat.reduceLT, Nat.reduceLeDiff, eq_self, Option.bind_some, Option.map_some, List.map_cons, List.map_nil, List.length_cons, List.length_nil, Option.getD_some, Option.getD_none, List.all_cons, List.all_nil, List.set_cons_zero, List.set_cons_succ, List.replicate_succ, List.replicate_zero, List.getElem?_cons_zero, List.getElem?_cons_succ, List.drop_succ_cons, List.drop_zero, List.take_succ_cons, List.take_zero, List.map_append, List.nil_append, List.cons_append, Nat.reduceShiftRight, Nat.reduceMod]
  refine ⟨by (simp only [decide_eq_true_eq, decide_eq_false_iff_not, Bool.not_true, I64, Bool.not_eq_true', Bool.not_eq_false', bne_iff_ne, beq_iff_eq, ne_eq] at *; omega), ?_⟩
  unfold Dead.hi at l6 l7
  unfold Dead.live at l6 l7 hl
  refine callS_of (Ceil_s _ _ (by (simp only [decide_eq_true_eq, decide_eq_false_iff_not, Bool.not_true, I64, Bool.not_eq_true', Bool.not_eq_false', bne_iff_ne, beq_iff_eq, ne_eq] at *; omega)) (by (simp only [decide_eq_true_eq, decide_eq_false_iff_not, Bool.not_true, I64, Bool.not_eq_true', Bool.not_eq_false', bne_iff_ne, beq_iff_eq, ne_eq] at *; omega)) hl (by (simp only [decide_eq_true_eq, decide_eq_false_iff_not, Bool.not_true, I64, Bool.not_eq_true', Bool.not_eq_false', bne_iff_ne, beq_iff_eq, ne_eq] at *; omega))) ?_
  simp only [vcV, Int.reduceEq, Int.reduceNe, Int.reduceLT, Int.reduceLE, Nat.reduceEqDiff, Nat.reduceAdd, reduceIte, reduceCtorEq, Nat.reduceLT, Nat.reduceLeDiff, eq_self, Option.bind_some, Option.map_some, List.map_cons, List.map_nil, List.length_cons, List.length_nil, Option.getD_some, Option.getD_none, List.all_cons, List.all_nil, List.set_cons_zero, List.set_cons_succ, List.replicate_succ, List.replicate_zero, List.getElem?_cons_zero, List.getElem?_cons_succ, List.drop_succ_cons, List.drop_zero, List.take_succ_cons, List.take_zero, List.map_append, List.nil_append, List.cons_append, Nat.reduceShiftRight, Nat.reduceMod]
  rfl

/-- More counts have no fewer true counts. -/
theorem Dead.mono {d d' : Dead} (h : d.e = 0) (h' : d'.e = 0) (hc : d'.counts = d.counts + 1) (ht : d'.ticks = d.ticks) (hd : d'.dead = d.dead) : d.lo ≤ d'.lo ∧ d.hi ≤ d'.hi := by
  obtain ⟨hr, hl⟩ := d.e0 h
  obtain ⟨hr', hl'⟩ := d'.e0 h'
  have hll : d'.live ≤ d.live := by unfold Dead.live; rw [hc, ht, hd, Int.mul_add]; have := hr.2.2.1; omega
  have hnn : d.counts * d.ticks ≤ d'.counts * d'.ticks := by rw [hc, ht, Int.add_mul]; have := hr.2.1.1; omega
  obtain ⟨b1, b2⟩ := d.bounds hr
  unfold Dead.lo Dead.hi
  generalize d.counts * d.ticks = n at *
  generalize d'.counts * d'.ticks = n' at *
  generalize d.live = l at *
  generalize d'.live = l' at *
  have q : n / l ≤ n' / l' := by
    rw [Int.le_ediv_iff_mul_le hl']
    have h1 := Int.ediv_mul_le n (b := l) (by omega)
    have h2 : 0 ≤ n / l := Int.ediv_nonneg b2.1 (by omega)
    have h3 := Int.mul_le_mul_of_nonneg_left hll h2
    omega
  refine ⟨q, ?_⟩
  have : -n' / l' ≤ -n / l := by
    rw [Int.le_ediv_iff_mul_le hl]
    have h1 := Int.ediv_mul_le (-n') (b := l') (by omega)
    have h2 : -n' / l' ≤ 0 := by
      by_cases hq : -n' / l' ≤ 0
      · exact hq
      · exfalso
        have := Int.mul_le_mul_of_nonneg_right (show 1 ≤ -n' / l' by omega) (show 0 ≤ l' by omega)
        omega
    have h3 := Int.mul_le_mul_of_nonneg_left hll (show 0 ≤ -(-n' / l') by omega)
    rw [Int.neg_mul, Int.neg_mul] at h3
    omega
  omega
theorem Dead.zero {d : Dead} (h : d.e = 0) (hd : d.dead = 0) : d.lo = d.counts ∧ d.hi = d.counts := by
  obtain ⟨hr, hl⟩ := d.e0 h
  have : d.live = d.ticks := by unfold Dead.live; rw [hd]; omega
  unfold Dead.lo Dead.hi
  rw [this] at hl ⊢
  rw [← Int.neg_mul, Int.mul_ediv_cancel _ (by omega), Int.mul_ediv_cancel _ (by omega)]
  omega
end Go.Proofs.Ytaebfjepacnmhaa

/- The law WatchDead: it answers true. By an AI agent; nothing here is trusted. -/
namespace Go.Proofs.Ytaebfjepacnmhaa
open Go.Av
def cl_law08_WatchDead : ML := (.seq (.reg 2 [⟨none, (some 1), (.box 40 3 (.t 0))⟩, ⟨none, (some 2), (.mv (.c (.bool false)))⟩] false []) (.seq (.seq (.reg 514 [⟨none, (some 8), (.call 14 [])⟩, ⟨none, (some 9), (.un .not (.t 8))⟩] false []) (.cond (.t 9) (.seq (.reg 4 [⟨none, (some 2), (.mv (.c (.bool false)))⟩] false []) .ret) .skip)) (.seq (.reg 26 [⟨none, (some 11), (.load (some 3) (.t 1))⟩, ⟨none, (some 12), (.call 25 [(.t 11)])⟩, ⟨none, (some 10), (.mv (.t 12))⟩, ⟨none, (some 13), (.extract (.t 10) 0)⟩, ⟨none, (some 14), (.extract (.t 10) 1)⟩, ⟨none, (some 3), (.alloc 42 2 (.agg [(.int .i64 0), (.int .i64 0)]))⟩, ⟨none, none, (.store 2 (.t 3) (.t 13))⟩, ⟨none, (some 4), (.mv (.t 14))⟩] false []) (.seq (.seq (.reg 58 [⟨none, (some 15), (.load (some 3) (.t 1))⟩, ⟨none, (some 16), (.call 26 [(.t 15)])⟩, ⟨none, (some 5), (.mv (.t 16))⟩] false []) (.seq (.reg 262202 [⟨none, (some 17), (.mv (.t 5))⟩, ⟨none, (some 18), (.bin .neq (.t 17) (.c (.int .i64 0)))⟩] false []) (.cond (.t 18) (.seq (.reg 4 [⟨none, (some 19), (.mv (.t 4))⟩, ⟨none, (some 20), (.mv (.t 5))⟩, ⟨none, (some 21), (.bin .eql (.t 19) (.t 20))⟩, ⟨none, (some 22), (.mv (.t 21))⟩, ⟨(some (22, true)), (some 23), (.load (some 2) (.t 3))⟩, ⟨(some (22, true)), (some 24), (.build [(.int .i64 0), (.int .i64 0)] [])⟩, ⟨(some (22, true)), (some 25), (.eqS false [1, 1] (.t 23) (.t 24))⟩, ⟨none, (some 26), (.pick (.t 22) (.t 25) (.c (.bool false)))⟩, ⟨none, (some 2), (.mv (.t 26))⟩] false []) .ret) .skip))) (.seq (.seq (.reg 9223372036854775818 [⟨none, (some 27), (.mv (.t 4))⟩, ⟨none, (some 28), (.bin .neq (.t 27) (.c (.int .i64 0)))⟩, ⟨none, (some 29), (.mv (.t 28))⟩, ⟨(some (29, false)), (some 30), (.load (some 2) (.t 3))⟩, ⟨(some (29, false)), (some 31), (.load (some 3) (.t 1))⟩, ⟨(some (29, false)), (some 32), (.call 27 [(.t 31)])⟩, ⟨(some (29, false)), (some 33), (.eqS true [1, 1] (.t 30) (.t 32))⟩, ⟨none, (some 34), (.pick (.t 29) (.c (.bool true)) (.t 33))⟩, ⟨none, (some 35), (.mv (.t 34))⟩, ⟨(some (35, false)), (some 36), (.fieldAddr (.t 3) 0)⟩, ⟨(some (35, false)), (some 37), (.load none (.t 36))⟩, ⟨(some (35, false)), (some 38), (.fieldAddr (.t 1) 0)⟩, ⟨(some (35, false)), (some 39), (.load none (.t 38))⟩, ⟨(some (35, false)), (some 40), (.bin .lss (.t 37) (.t 39))⟩, ⟨none, (some 41), (.pick (.t 35) (.c (.bool true)) (.t 40))⟩, ⟨none, (some 42), (.mv (.t 41))⟩, ⟨(some (42, false)), (some 43), (.fieldAddr (.t 3) 1)⟩, ⟨(some (42, false)), (some 44), (.load none (.t 43))⟩, ⟨(some (42, false)), (some 45), (.fieldAddr (.t 3) 0)⟩, ⟨(some (42, false)), (some 46), (.load none (.t 45))⟩, ⟨(some (42, false)), (some 47), (.bin .add (.t 46) (.c (.int .i64 1)))⟩, ⟨(some (42, false)), (some 48), (.bin .gtr (.t 44) (.t 47))⟩, ⟨none, (some 49), (.pick (.t 42) (.c (.bool true)) (.t 48))⟩, ⟨none, (some 50), (.mv (.t 49))⟩, ⟨(some (50, false)), (some 51), (.fieldAddr (.t 1) 2)⟩, ⟨(some (50, false)), (some 52), (.load none (.t 51))⟩, ⟨(some (50, false)), (some 53), (.bin .eql (.t 52) (.c (.int .i64 0)))⟩, ⟨(some (50, false)), (some 54), (.mv (.t 53))⟩, ⟨(some (54, true)), (some 55), (.load (some 2) (.t 3))⟩, ⟨(some (54, true)), (some 56), (.fieldAddr (.t 1) 0)⟩, ⟨(some (54, true)), (some 57), (.load none (.t 56))⟩, ⟨(some (54, true)), (some 58), (.fieldAddr (.t 1) 0)⟩, ⟨(some (54, true)), (some 59), (.load none (.t 58))⟩, ⟨(some (54, true)), (some 60), (.build [(.int .i64 0), (.int .i64 0)] [(0, (1, (.t 57))), (1, (1, (.t 59)))])⟩, ⟨(some (54, true)), (some 61), (.eqS true [1, 1] (.t 55) (.t 60))⟩, ⟨(some (50, false)), (some 62), (.pick (.t 54) (.t 61) (.c (.bool false)))⟩, ⟨none, (some 63), (.pick (.t 50) (.c (.bool true)) (.t 62))⟩] true []) (.cond (.t 63) (.seq (.reg 4 [⟨none, (some 2), (.mv (.c (.bool false)))⟩] false []) .ret) .skip)) (.seq (.reg 202 [⟨none, (some 65), (.fieldAddr (.t 1) 0)⟩, ⟨none, (some 66), (.load none (.t 65))⟩, ⟨none, (some 67), (.bin .add (.t 66) (.c (.int .i64 1)))⟩, ⟨none, (some 68), (.fieldAddr (.t 1) 1)⟩, ⟨none, (some 69), (.load none (.t 68))⟩, ⟨none, (some 70), (.fieldAddr (.t 1) 2)⟩, ⟨none, (some 71), (.load none (.t 70))⟩, ⟨none, (some 72), (.build [(.int .i64 0), (.int .i64 0), (.int .i64 0)] [(0, (1, (.t 67))), (1, (1, (.t 69))), (2, (1, (.t 71)))])⟩, ⟨none, (some 73), (.call 25 [(.t 72)])⟩, ⟨none, (some 64), (.mv (.t 73))⟩, ⟨none, (some 74), (.extract (.t 64) 0)⟩, ⟨none, (some 75), (.extract (.t 64) 1)⟩, ⟨none, (some 6), (.alloc 42 2 (.agg [(.int .i64 0), (.int .i64 0)]))⟩, ⟨none, none, (.store 2 (.t 6) (.t 74))⟩, ⟨none, (some 7), (.mv (.t 75))⟩] false []) (.seq (.reg 4 [⟨none, (some 76), (.mv (.t 7))⟩, ⟨none, (some 77), (.bin .eql (.t 76) (.c (.int .i64 22)))⟩, ⟨none, (some 78), (.mv (.t 77))⟩, ⟨(some (78, false)), (some 79), (.mv (.t 7))⟩, ⟨(some (78, false)), (some 80), (.bin .eql (.t 79) (.c (.int .i64 2)))⟩, ⟨(some (78, false)), (some 81), (.mv (.t 80))⟩, ⟨(some (81, true)), (some 82), (.fieldAddr (.t 1) 0)⟩, ⟨(some (81, true)), (some 83), (.load none (.t 82))⟩, ⟨(some (81, true)), (some 84), (.bin .eql (.t 83) (.c (.int .i64 1000000)))⟩, ⟨(some (78, false)), (some 85), (.pick (.t 81) (.t 84) (.c (.bool false)))⟩, ⟨none, (some 86), (.pick (.t 78) (.c (.bool true)) (.t 85))⟩, ⟨none, (some 87), (.mv (.t 86))⟩, ⟨(some (87, false)), (some 88), (.mv (.t 7))⟩, ⟨(some (87, false)), (some 89), (.bin .eql (.t 88) (.c (.int .i64 0)))⟩, ⟨(some (87, false)), (some 90), (.mv (.t 89))⟩, ⟨(some (90, true)), (some 91), (.fieldAddr (.t 6) 0)⟩, ⟨(some (90, true)), (some 92), (.load none (.t 91))⟩, ⟨(some (90, true)), (some 93), (.fieldAddr (.t 3) 0)⟩, ⟨(some (90, true)), (some 94), (.load none (.t 93))⟩, ⟨(some (90, true)), (some 95), (.bin .geq (.t 92) (.t 94))⟩, ⟨(some (87, false)), (some 96), (.pick (.t 90) (.t 95) (.c (.bool false)))⟩, ⟨(some (87, false)), (some 97), (.mv (.t 96))⟩, ⟨(some (97, true)), (some 98), (.fieldAddr (.t 6) 1)⟩, ⟨(some (97, true)), (some 99), (.load none (.t 98))⟩, ⟨(some (97, true)), (some 100), (.fieldAddr (.t 3) 1)⟩, ⟨(some (97, true)), (some 101), (.load none (.t 100))⟩, ⟨(some (97, true)), (some 102), (.bin .geq (.t 99) (.t 101))⟩, ⟨(some (87, false)), (some 103), (.pick (.t 97) (.t 102) (.c (.bool false)))⟩, ⟨none, (some 104), (.pick (.t 87) (.c (.bool true)) (.t 103))⟩, ⟨none, (some 2), (.mv (.t 104))⟩] false []) .ret)))))))
theorem e_law08_WatchDead : cl_law08_WatchDead.er = c_law08_WatchDead := rfl

theorem WatchDead_s (d : Dead) (hd1 : I64 d.counts) (hd2 : I64 d.ticks) (hd3 : I64 d.dead) : Sound Try.prog 4 [d.av] (.bool true) := by
  refine sound_WL f_law08_WatchDead e_law08_WatchDead (Nat.le_of_ble_eq_true rfl) ?_
  simp only [cl_law08_WatchDead, Dead.av, vcV, Int.reduceEq, Int.reduceNe, Int.reduceLT, Int.reduceLE, Nat.reduceEqDiff, Nat.reduceAdd, reduceIte, reduceCtorEq, Nat.reduceLT, Nat.reduceLeDiff, eq_self, Option.bind_some, Option.map_some, List.map_cons, List.map_nil, List.length_cons, List.length_nil, Option.getD_some, Option.getD_none, List.all_cons, List.all_nil, List.set_cons_zero, List.set_cons_succ, List.replicate_succ, List.replicate_zero, List.getElem?_cons_zero, List.getElem?_cons_succ, List.drop_succ_cons, List.drop_zero, List.take_succ_cons, List.take_zero, List.map_append, List.nil_append, List.cons_append, Nat.reduceShiftRight, Nat.reduceMod]
  refine callS_of awake_s ?_
  simp only [vcV, Int.reduceEq, Int.reduceNe, Int.reduceLT, Int.reduceLE, Nat.reduceEqDiff, Nat.reduceAdd, reduceIte, reduceCtorEq, Nat.reduceLT, Nat.reduceLeDiff, eq_self, Option.bind_some, Option.map_some, List.map_cons, List.map_nil, List.length_cons, List.length_nil, Option.getD_some, Option.getD_none, List.all_cons, List.all_nil, List.set_cons_zero, List.set_cons_succ, List.replicate_succ, List.replicate_zero, List.getElem?_cons_zero, List.getElem?_cons_succ, List.drop_succ_cons, List.drop_zero, List.take_succ_cons, List.take_zero, List.map_append, List.nil_append, List.cons_append, Nat.reduceShiftRight, Nat.reduceMod]
  refine callS_of (TrueCounts_s d) ?_
  by_cases he : d.e = 0
  · have ht := True_s d he
    have he2 := DeadErr_s d
    obtain ⟨hr, hl⟩ := d.e0 he
    obtain ⟨l1, l2, l3, l4, l5, l6, l7⟩ := d.lohi he
    obtain ⟨⟨a1, a2⟩, ⟨a3, a4⟩, a5, a6⟩ := id hr
    have n1 : ¬ d.lo < d.counts := by omega
    have n2 : ¬ d.lo + 1 < d.hi := by omega
    rw [if_pos he]
    simp only [rngA, he, vcV, Int.reduceEq, Int.reduceNe, Int.reduceLT, Int.reduceLE, Nat.reduceEqDiff, Nat.reduceAdd, reduceIte, reduceCtorEq, Nat.reduceLT, Nat.reduceLeDiff, eq_self, Option.bind_some, Option.map_some, List.map_cons, List.map_nil, List.length_cons, List.length_nil, Option.getD_some, Option.getD_none, List.all_cons, List.all_nil, List.set_cons_zero, List.set_cons_succ, List.replicate_succ, List.replicate_zero, List.getElem?_cons_zero, List.getElem?_cons_succ, List.drop_succ_cons, List.drop_zero, List.take_succ_cons, List.take_zero, List.map_append, List.nil_append, List.cons_append, Nat.reduceShiftRight, Nat.reduceMod]
    refine callS_of he2 ?_
    simp only [he, vcV, Int.reduceEq, Int.reduceNe, Int.reduceLT, Int.reduceLE, Nat.reduceEqDiff, Nat.reduceAdd, reduceIte, reduceCtorEq, Nat.reduceLT, Nat.reduceLeDiff, eq_self, Option.bind_some, Option.map_some, List.map_cons, List.map_nil, List.length_cons, List.length_nil, Option.getD_some, Option.getD_none, List.all_cons, List.all_nil, List.set_cons_zero, List.set_cons_succ, List.replicate_succ, List.replicate_zero, List.getElem?_cons_zero, List.getElem?_cons_succ, List.drop_succ_cons, List.drop_zero, List.take_succ_cons, List.take_zero, List.map_append, List.nil_append, List.cons_append, Nat.reduceShiftRight, Nat.reduceMod]
    refine callS_of ht ?_
    simp only [rngA, n1, vcV, Int.reduceEq, Int.reduceNe, Int.reduceLT, Int.reduceLE, Nat.reduceEqDiff, Nat.reduceAdd, reduceIte, reduceCtorEq, Nat.reduceLT, Nat.reduceLeDiff, eq_self, Option.bind_some, Option.map_some, List.map_cons, List.map_nil, List.length_cons, List.length_nil, Option.getD_some, Option.getD_none, List.all_cons, List.all_nil, List.set_cons_zero, List.set_cons_succ, List.replicate_succ, List.replicate_zero, List.getElem?_cons_zero, List.getElem?_cons_succ, List.drop_succ_cons, List.drop_zero, List.take_succ_cons, List.take_zero, List.map_append, List.nil_append, List.cons_append, Nat.reduceShiftRight, Nat.reduceMod]
    refine ⟨by (simp only [decide_eq_true_eq, decide_eq_false_iff_not, Bool.not_true, I64, Bool.not_eq_true', Bool.not_eq_false', bne_iff_ne, beq_iff_eq, ne_eq] at *; omega), ?_⟩
    simp only [n2, vcV, Int.reduceEq, Int.reduceNe, Int.reduceLT, Int.reduceLE, Nat.reduceEqDiff, Nat.reduceAdd, reduceIte, reduceCtorEq, Nat.reduceLT, Nat.reduceLeDiff, eq_self, Option.bind_some, Option.map_some, List.map_cons, List.map_nil, List.length_cons, List.length_nil, Option.getD_some, Option.getD_none, List.all_cons, List.all_nil, List.set_cons_zero, List.set_cons_succ, List.replicate_succ, List.replicate_zero, List.getElem?_cons_zero, List.getElem?_cons_succ, List.drop_succ_cons, List.drop_zero, List.take_succ_cons, List.take_zero, List.map_append, List.nil_append, List.cons_append, Nat.reduceShiftRight, Nat.reduceMod]
    obtain ⟨d2, hd2'⟩ : ∃ d2 : Dead, d2 = ⟨d.counts + 1, d.ticks, d.dead⟩ := ⟨_, rfl⟩
    have e1 : d2.counts = d.counts + 1 := by rw [hd2']
    have e2 : d2.ticks = d.ticks := by rw [hd2']
    have e3 : d2.dead = d.dead := by rw [hd2']
    have fin : ∀ lo hi : Int, (d2.e = 0 → lo = d2.lo ∧ hi = d2.hi) → d2.e = 22 ∨ (d2.e = 2 ∧ d.counts = 1000000) ∨ (d2.e = 0 ∧ d.lo ≤ lo ∧ d.hi ≤ hi) := by
      intro lo hi hlo
      by_cases h0 : d2.e = 0
      · obtain ⟨rfl, rfl⟩ := hlo h0
        exact .inr (.inr ⟨h0, Dead.mono he h0 e1 e2 e3⟩)
      · unfold Dead.e at h0 ⊢
        by_cases hr2 : d2.right
        · rw [if_pos hr2] at h0 ⊢
          by_cases hl2 : d2.live ≤ 0
          · rw [if_pos hl2]; exact .inl rfl
          · rw [if_neg hl2] at h0; exact absurd rfl h0
        · rw [if_neg hr2]
          refine .inr (.inl ⟨rfl, ?_⟩)
          by_cases hc : d.counts = 1000000
          · exact hc
          · exfalso
            apply hr2
            unfold Dead.right
            rw [e1, e2, e3]
            omega
    have key : ∀ lo hi : Int, (d2.e = 0 → lo = d2.lo ∧ hi = d2.hi) → Sound Try.prog 25 [d2.av] (.tup [rngA lo hi, .int .i64 d2.e]) → True := fun _ _ _ _ => trivial
    obtain ⟨lo, hi, hlo, hs⟩ : ∃ lo hi, (d2.e = 0 → lo = d2.lo ∧ hi = d2.hi) ∧ Sound Try.prog 25 [d2.av] (.tup [rngA lo hi, .int .i64 d2.e]) := by
      have := TrueCounts_s d2
      by_cases h0 : d2.e = 0
      · rw [if_pos h0] at this; exact ⟨_, _, fun _ => ⟨rfl, rfl⟩, this⟩
      · rw [if_neg h0] at this; exact ⟨_, _, fun h => absurd h h0, this⟩
    have hfin := fin lo hi hlo
    clear fin key hlo
    rw [hd2'] at hs hfin
    simp only [Dead.av] at hs
    generalize (Dead.mk (d.counts + 1) d.ticks d.dead).e = E at hs hfin
    have hz := Dead.zero he
    refine brB_split (fun h => ?_) (fun h => ?_)
    · simp only [decide_eq_true_eq] at h
      obtain ⟨z1, z2⟩ := hz h
      simp only [z1, z2, vcV, Int.reduceEq, Int.reduceNe, Int.reduceLT, Int.reduceLE, Nat.reduceEqDiff, Nat.reduceAdd, reduceIte, reduceCtorEq, Nat.reduceLT, Nat.reduceLeDiff, eq_self, Option.bind_some, Option.map_some, List.map_cons, List.map_nil, List.length_cons, List.length_nil, Option.getD_some, Option.getD_none, List.all_cons, List.all_nil, List.set_cons_zero, List.set_cons_succ, List.replicate_succ, List.replicate_zero, List.getElem?_cons_zero, List.getElem?_cons_succ, List.drop_succ_cons, List.drop_zero, List.take_succ_cons, List.take_zero, List.map_append, List.nil_append, List.cons_append, Nat.reduceShiftRight, Nat.reduceMod]
      refine ⟨by (simp only [decide_eq_true_eq, decide_eq_false_iff_not, Bool.not_true, I64, Bool.not_eq_true', Bool.not_eq_false', bne_iff_ne, beq_iff_eq, ne_eq] at *; omega), ?_⟩
      refine callS_of hs ?_
      simp only [rngA, vcV, Int.reduceEq, Int.reduceNe, Int.reduceLT, Int.reduceLE, Nat.reduceEqDiff, Nat.reduceAdd, reduceIte, reduceCtorEq, Nat.reduceLT, Nat.reduceLeDiff, eq_self, Option.bind_some, Option.map_some, List.map_cons, List.map_nil, List.length_cons, List.length_nil, Option.getD_some, Option.getD_none, List.all_cons, List.all_nil, List.set_cons_zero, List.set_cons_succ, List.replicate_succ, List.replicate_zero, List.getElem?_cons_zero, List.getElem?_cons_succ, List.drop_succ_cons, List.drop_zero, List.take_succ_cons, List.take_zero, List.map_append, List.nil_append, List.cons_append, Nat.reduceShiftRight, Nat.reduceMod]
      rcases hfin with rfl | ⟨rfl, hc⟩ | ⟨rfl, g1, g2⟩
      · simp only [vcV, Int.reduceEq, Int.reduceNe, Int.reduceLT, Int.reduceLE, Nat.reduceEqDiff, Nat.reduceAdd, reduceIte, reduceCtorEq, Nat.reduceLT, Nat.reduceLeDiff, eq_self, Option.bind_some, Option.map_some, List.map_cons, List.map_nil, List.length_cons, List.length_nil, Option.getD_some, Option.getD_none, List.all_cons, List.all_nil, List.set_cons_zero, List.set_cons_succ, List.replicate_succ, List.replicate_zero, List.getElem?_cons_zero, List.getElem?_cons_succ, List.drop_succ_cons, List.drop_zero, List.take_succ_cons, List.take_zero, List.map_append, List.nil_append, List.cons_append, Nat.reduceShiftRight, Nat.reduceMod]
      · simp only [hc, vcV, Int.reduceEq, Int.reduceNe, Int.reduceLT, Int.reduceLE, Nat.reduceEqDiff, Nat.reduceAdd, reduceIte, reduceCtorEq, Nat.reduceLT, Nat.reduceLeDiff, eq_self, Option.bind_some, Option.map_some, List.map_cons, List.map_nil, List.length_cons, List.length_nil, Option.getD_some, Option.getD_none, List.all_cons, List.all_nil, List.set_cons_zero, List.set_cons_succ, List.replicate_succ, List.replicate_zero, List.getElem?_cons_zero, List.getElem?_cons_succ, List.drop_succ_cons, List.drop_zero, List.take_succ_cons, List.take_zero, List.map_append, List.nil_append, List.cons_append, Nat.reduceShiftRight, Nat.reduceMod]
      · rw [z1] at g1
        rw [z2] at g2
        simp only [g1, g2, vcV, Int.reduceEq, Int.reduceNe, Int.reduceLT, Int.reduceLE, Nat.reduceEqDiff, Nat.reduceAdd, reduceIte, reduceCtorEq, Nat.reduceLT, Nat.reduceLeDiff, eq_self, Option.bind_some, Option.map_some, List.map_cons, List.map_nil, List.length_cons, List.length_nil, Option.getD_some, Option.getD_none, List.all_cons, List.all_nil, List.set_cons_zero, List.set_cons_succ, List.replicate_succ, List.replicate_zero, List.getElem?_cons_zero, List.getElem?_cons_succ, List.drop_succ_cons, List.drop_zero, List.take_succ_cons, List.take_zero, List.map_append, List.nil_append, List.cons_append, Nat.reduceShiftRight, Nat.reduceMod]
    · simp only [decide_eq_false_iff_not, Bool.not_true] at h
      simp only [h, vcV, Int.reduceEq, Int.reduceNe, Int.reduceLT, Int.reduceLE, Nat.reduceEqDiff, Nat.reduceAdd, reduceIte, reduceCtorEq, Nat.reduceLT, Nat.reduceLeDiff, eq_self, Option.bind_some, Option.map_some, List.map_cons, List.map_nil, List.length_cons, List.length_nil, Option.getD_some, Option.getD_none, List.all_cons, List.all_nil, List.set_cons_zero, List.set_cons_succ, List.replicate_succ, List.replicate_zero, List.getElem?_cons_zero, List.getElem?_cons_succ, List.drop_succ_cons, List.drop_zero, List.take_succ_cons, List.take_zero, List.map_append, List.nil_append, List.cons_append, Nat.reduceShiftRight, Nat.reduceMod]
      refine ⟨by (simp only [decide_eq_true_eq, decide_eq_false_iff_not, Bool.not_true, I64, Bool.not_eq_true', Bool.not_eq_false', bne_iff_ne, beq_iff_eq, ne_eq] at *; omega), ?_⟩
      refine callS_of hs ?_
      simp only [rngA, vcV, Int.reduceEq, Int.reduceNe, Int.reduceLT, Int.reduceLE, Nat.reduceEqDiff, Nat.reduceAdd, reduceIte, reduceCtorEq, Nat.reduceLT, Nat.reduceLeDiff, eq_self, Option.bind_some, Option.map_some, List.map_cons, List.map_nil, List.length_cons, List.length_nil, Option.getD_some, Option.getD_none, List.all_cons, List.all_nil, List.set_cons_zero, List.set_cons_succ, List.replicate_succ, List.replicate_zero, List.getElem?_cons_zero, List.getElem?_cons_succ, List.drop_succ_cons, List.drop_zero, List.take_succ_cons, List.take_zero, List.map_append, List.nil_append, List.cons_append, Nat.reduceShiftRight, Nat.reduceMod]
      rcases hfin with rfl | ⟨rfl, hc⟩ | ⟨rfl, g1, g2⟩
      · simp only [vcV, Int.reduceEq, Int.reduceNe, Int.reduceLT, Int.reduceLE, Nat.reduceEqDiff, Nat.reduceAdd, reduceIte, reduceCtorEq, Nat.reduceLT, Nat.reduceLeDiff, eq_self, Option.bind_some, Option.map_some, List.map_cons, List.map_nil, List.length_cons, List.length_nil, Option.getD_some, Option.getD_none, List.all_cons, List.all_nil, List.set_cons_zero, List.set_cons_succ, List.replicate_succ, List.replicate_zero, List.getElem?_cons_zero, List.getElem?_cons_succ, List.drop_succ_cons, List.drop_zero, List.take_succ_cons, List.take_zero, List.map_append, List.nil_append, List.cons_append, Nat.reduceShiftRight, Nat.reduceMod]
      · simp only [hc, vcV, Int.reduceEq, Int.reduceNe, Int.reduceLT, Int.reduceLE, Nat.reduceEqDiff, Nat.reduceAdd, reduceIte, reduceCtorEq, Nat.reduceLT, Nat.reduceLeDiff, eq_self, Option.bind_some, Option.map_some, List.map_cons, List.map_nil, List.length_cons, List.length_nil, Option.getD_some, Option.getD_none, List.all_cons, List.all_nil, List.set_cons_zero, List.set_cons_succ, List.replicate_succ, List.replicate_zero, List.getElem?_cons_zero, List.getElem?_cons_succ, List.drop_succ_cons, List.drop_zero, List.take_succ_cons, List.take_zero, List.map_append, List.nil_append, List.cons_append, Nat.reduceShiftRight, Nat.reduceMod]
      · simp only [g1, g2, vcV, Int.reduceEq, Int.reduceNe, Int.reduceLT, Int.reduceLE, Nat.reduceEqDiff, Nat.reduceAdd, reduceIte, reduceCtorEq, Nat.reduceLT, Nat.reduceLeDiff, eq_self, Option.bind_some, Option.map_some, List.map_cons, List.map_nil, List.length_cons, List.length_nil, Option.getD_some, Option.getD_none, List.all_cons, List.all_nil, List.set_cons_zero, List.set_cons_succ, List.replicate_succ, List.replicate_zero, List.getElem?_cons_zero, List.getElem?_cons_succ, List.drop_succ_cons, List.drop_zero, List.take_succ_cons, List.take_zero, List.map_append, List.nil_append, List.cons_append, Nat.reduceShiftRight, Nat.reduceMod]
  · rw [if_neg he]
    simp only [rngA, vcV, Int.reduceEq, Int.reduceNe, Int.reduceLT, Int.reduceLE, Nat.reduceEqDiff, Nat.reduceAdd, reduceIte, reduceCtorEq, Nat.reduceLT, Nat.reduceLeDiff, eq_self, Option.bind_some, Option.map_some, List.map_cons, List.map_nil, List.length_cons, List.length_nil, Option.getD_some, Option.getD_none, List.all_cons, List.all_nil, List.set_cons_zero, List.set_cons_succ, List.replicate_succ, List.replicate_zero, List.getElem?_cons_zero, List.getElem?_cons_succ, List.drop_succ_cons, List.drop_zero, List.take_succ_cons, List.take_zero, List.map_append, List.nil_append, List.cons_append, Nat.reduceShiftRight, Nat.reduceMod]
    refine callS_of (DeadErr_s d) ?_
    simp only [he, vcV, Int.reduceEq, Int.reduceNe, Int.reduceLT, Int.reduceLE, Nat.reduceEqDiff, Nat.reduceAdd, reduceIte, reduceCtorEq, Nat.reduceLT, Nat.reduceLeDiff, eq_self, Option.bind_some, Option.map_some, List.map_cons, List.map_nil, List.length_cons, List.length_nil, Option.getD_some, Option.getD_none, List.all_cons, List.all_nil, List.set_cons_zero, List.set_cons_succ, List.replicate_succ, List.replicate_zero, List.getElem?_cons_zero, List.getElem?_cons_succ, List.drop_succ_cons, List.drop_zero, List.take_succ_cons, List.take_zero, List.map_append, List.nil_append, List.cons_append, Nat.reduceShiftRight, Nat.reduceMod]
end Go.Proofs.Ytaebfjepacnmhaa

