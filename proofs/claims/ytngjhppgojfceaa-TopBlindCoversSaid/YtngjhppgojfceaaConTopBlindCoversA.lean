/- Contracts of small functions. By an AI agent; nothing here is trusted. -/
import Derived.Test.YtngjhppgojfceaaLayC
import Derived.Test.YtngjhppgojfceaaKode
set_option linter.defProp false
set_option linter.unusedSimpArgs false
set_option linter.unusedVariables false
namespace Go.Proofs.Ytngjhppgojfceaa
open Go.Av

abbrev i64 (n : Int) : AV := .int .i64 n
theorem within_s (n lo hi : Int) : Sound Try.prog 43 [.int .i64 n, .int .i64 lo, .int .i64 hi] (.bool (decide (lo ≤ n ∧ n ≤ hi))) := by
  refine sound_W f_blind_within (Nat.le_of_ble_eq_true rfl) ?_
  simp only [c_blind_within, vcC, Int.reduceEq, Int.reduceNe, Int.reduceLT, Int.reduceLE, Nat.reduceEqDiff, Nat.reduceAdd, reduceIte, reduceCtorEq, Nat.reduceLT, Nat.reduceLeDiff, eq_self, Option.bind_some, Option.map_some, List.map_cons, List.map_nil, List.length_cons, List.length_nil, Option.getD_some, Option.getD_none, List.all_cons, List.all_nil, List.set_cons_zero, List.set_cons_succ, List.replicate_succ, List.replicate_zero, List.getElem?_cons_zero, List.getElem?_cons_succ, List.drop_succ_cons, List.drop_zero, List.take_succ_cons, List.take_zero]
  refine brB_split (fun h => ?_) (fun h => ?_) <;> simp only [h, vcC, Int.reduceEq, Int.reduceNe, Int.reduceLT, Int.reduceLE, Nat.reduceEqDiff, Nat.reduceAdd, reduceIte, reduceCtorEq, Nat.reduceLT, Nat.reduceLeDiff, eq_self, Option.bind_some, Option.map_some, List.map_cons, List.map_nil, List.length_cons, List.length_nil, Option.getD_some, Option.getD_none, List.all_cons, List.all_nil, List.set_cons_zero, List.set_cons_succ, List.replicate_succ, List.replicate_zero, List.getElem?_cons_zero, List.getElem?_cons_succ, List.drop_succ_cons, List.drop_zero, List.take_succ_cons, List.take_zero]
  · exact bool_eq (by simp at h; simp [h])
  · simp at h; simp; omega

theorem unless_s (ok : Bool) (e : Int) : Sound Try.prog 41 [.bool ok, .int .i64 e] (.int .i64 (if ok then 0 else e)) := by
  refine sound_W f_blind_unless (Nat.le_of_ble_eq_true rfl) ?_
  simp only [c_blind_unless, vcC, Int.reduceEq, Int.reduceNe, Int.reduceLT, Int.reduceLE, Nat.reduceEqDiff, Nat.reduceAdd, reduceIte, reduceCtorEq, Nat.reduceLT, Nat.reduceLeDiff, eq_self, Option.bind_some, Option.map_some, List.map_cons, List.map_nil, List.length_cons, List.length_nil, Option.getD_some, Option.getD_none, List.all_cons, List.all_nil, List.set_cons_zero, List.set_cons_succ, List.replicate_succ, List.replicate_zero, List.getElem?_cons_zero, List.getElem?_cons_succ, List.drop_succ_cons, List.drop_zero, List.take_succ_cons, List.take_zero]
  refine brB_split (fun h => ?_) (fun h => ?_) <;> subst h <;> simp only [vcC, Int.reduceEq, Int.reduceNe, Int.reduceLT, Int.reduceLE, Nat.reduceEqDiff, Nat.reduceAdd, reduceIte, reduceCtorEq, Nat.reduceLT, Nat.reduceLeDiff, eq_self, Option.bind_some, Option.map_some, List.map_cons, List.map_nil, List.length_cons, List.length_nil, Option.getD_some, Option.getD_none, List.all_cons, List.all_nil, List.set_cons_zero, List.set_cons_succ, List.replicate_succ, List.replicate_zero, List.getElem?_cons_zero, List.getElem?_cons_succ, List.drop_succ_cons, List.drop_zero, List.take_succ_cons, List.take_zero]

def firstErr (l : List Int) : Int := (l.find? (· ≠ 0)).getD 0

theorem first_s (l : List Int) (hl : l.length < 4000000000000000000) : Sound Try.prog 36 [.sl (ints l)] (.int .i64 (firstErr l)) := by
  refine sound_W f_blind_first (Nat.le_of_ble_eq_true rfl) ?_
  simp only [c_blind_first, vcC, Int.reduceEq, Int.reduceNe, Int.reduceLT, Int.reduceLE, Nat.reduceEqDiff, Nat.reduceAdd, reduceIte, reduceCtorEq, Nat.reduceLT, Nat.reduceLeDiff, eq_self, Option.bind_some, Option.map_some, List.map_cons, List.map_nil, List.length_cons, List.length_nil, Option.getD_some, Option.getD_none, List.all_cons, List.all_nil, List.set_cons_zero, List.set_cons_succ, List.replicate_succ, List.replicate_zero, List.getElem?_cons_zero, List.getElem?_cons_succ, List.drop_succ_cons, List.drop_zero, List.take_succ_cons, List.take_zero]
  refine W_loop (α := PSigma fun i : Nat => i ≤ l.length ∧ ∀ x ∈ l.take i, x = 0) (fun i => (envOf [(5, .sl (ints l)), (6, .int .i64 l.length), (7, .int .i64 i.1)], noStore)) (fun i => l.length - i.1) ⟨0, by simp⟩ (weakE _ ?_) (fun ⟨i, hi, hn⟩ => ?_)
  · simp only [vcC, Int.reduceEq, Int.reduceNe, Int.reduceLT, Int.reduceLE, Nat.reduceEqDiff, Nat.reduceAdd, reduceIte, reduceCtorEq, Nat.reduceLT, Nat.reduceLeDiff, eq_self, Option.bind_some, Option.map_some, List.map_cons, List.map_nil, List.length_cons, List.length_nil, Option.getD_some, Option.getD_none, List.all_cons, List.all_nil, List.set_cons_zero, List.set_cons_succ, List.replicate_succ, List.replicate_zero, List.getElem?_cons_zero, List.getElem?_cons_succ, List.drop_succ_cons, List.drop_zero, List.take_succ_cons, List.take_zero]; rfl
  · simp only [vcC, Int.reduceEq, Int.reduceNe, Int.reduceLT, Int.reduceLE, Nat.reduceEqDiff, Nat.reduceAdd, reduceIte, reduceCtorEq, Nat.reduceLT, Nat.reduceLeDiff, eq_self, Option.bind_some, Option.map_some, List.map_cons, List.map_nil, List.length_cons, List.length_nil, Option.getD_some, Option.getD_none, List.all_cons, List.all_nil, List.set_cons_zero, List.set_cons_succ, List.replicate_succ, List.replicate_zero, List.getElem?_cons_zero, List.getElem?_cons_succ, List.drop_succ_cons, List.drop_zero, List.take_succ_cons, List.take_zero]
    refine brB_split (fun h => ?_) (fun h => ?_)
    · have h' : i < l.length := by (simp only [decide_eq_true_eq, decide_eq_false_iff_not, Bool.not_true, I64, Bool.not_eq_true', Bool.not_eq_false', bne_iff_ne, beq_iff_eq, ne_eq] at *; omega)
      simp only [ints_get l i h', vcC, Int.reduceEq, Int.reduceNe, Int.reduceLT, Int.reduceLE, Nat.reduceEqDiff, Nat.reduceAdd, reduceIte, reduceCtorEq, Nat.reduceLT, Nat.reduceLeDiff, eq_self, Option.bind_some, Option.map_some, List.map_cons, List.map_nil, List.length_cons, List.length_nil, Option.getD_some, Option.getD_none, List.all_cons, List.all_nil, List.set_cons_zero, List.set_cons_succ, List.replicate_succ, List.replicate_zero, List.getElem?_cons_zero, List.getElem?_cons_succ, List.drop_succ_cons, List.drop_zero, List.take_succ_cons, List.take_zero]
      refine ⟨by omega, ?_⟩
      refine brB_split (fun h => ?_) (fun h => ?_)
      · simp only [vcC, Int.reduceEq, Int.reduceNe, Int.reduceLT, Int.reduceLE, Nat.reduceEqDiff, Nat.reduceAdd, reduceIte, reduceCtorEq, Nat.reduceLT, Nat.reduceLeDiff, eq_self, Option.bind_some, Option.map_some, List.map_cons, List.map_nil, List.length_cons, List.length_nil, Option.getD_some, Option.getD_none, List.all_cons, List.all_nil, List.set_cons_zero, List.set_cons_succ, List.replicate_succ, List.replicate_zero, List.getElem?_cons_zero, List.getElem?_cons_succ, List.drop_succ_cons, List.drop_zero, List.take_succ_cons, List.take_zero]
        have h0 : l[i] ≠ 0 := by simpa using h
        have hs : l.find? (· ≠ 0) = some l[i] := by
          rw [List.find?_eq_some_iff_getElem]
          exact ⟨by simpa using h0, i, h', rfl, fun j hj => by simp [hn l[j] (by rw [List.mem_take_iff_getElem]; exact ⟨j, by omega, rfl⟩)]⟩
        unfold firstErr
        rw [hs]; rfl
      · simp only [vcC, Int.reduceEq, Int.reduceNe, Int.reduceLT, Int.reduceLE, Nat.reduceEqDiff, Nat.reduceAdd, reduceIte, reduceCtorEq, Nat.reduceLT, Nat.reduceLeDiff, eq_self, Option.bind_some, Option.map_some, List.map_cons, List.map_nil, List.length_cons, List.length_nil, Option.getD_some, Option.getD_none, List.all_cons, List.all_nil, List.set_cons_zero, List.set_cons_succ, List.replicate_succ, List.replicate_zero, List.getElem?_cons_zero, List.getElem?_cons_succ, List.drop_succ_cons, List.drop_zero, List.take_succ_cons, List.take_zero]
        refine ⟨by (simp only [decide_eq_true_eq, decide_eq_false_iff_not, Bool.not_true, I64, Bool.not_eq_true', Bool.not_eq_false', bne_iff_ne, beq_iff_eq, ne_eq] at *; omega), ⟨i + 1, by omega, ?_⟩, by simp only; omega, weakE _ ?_⟩
        · rw [List.take_succ_eq_append_getElem h']
          intro x hx
          rcases List.mem_append.1 hx with hx | hx
          · exact hn x hx
          · simp at hx h; rw [hx, h]
        · simp only [vcC, Int.reduceEq, Int.reduceNe, Int.reduceLT, Int.reduceLE, Nat.reduceEqDiff, Nat.reduceAdd, reduceIte, reduceCtorEq, Nat.reduceLT, Nat.reduceLeDiff, eq_self, Option.bind_some, Option.map_some, List.map_cons, List.map_nil, List.length_cons, List.length_nil, Option.getD_some, Option.getD_none, List.all_cons, List.all_nil, List.set_cons_zero, List.set_cons_succ, List.replicate_succ, List.replicate_zero, List.getElem?_cons_zero, List.getElem?_cons_succ, List.drop_succ_cons, List.drop_zero, List.take_succ_cons, List.take_zero]; simp
    · simp only [vcC, Int.reduceEq, Int.reduceNe, Int.reduceLT, Int.reduceLE, Nat.reduceEqDiff, Nat.reduceAdd, reduceIte, reduceCtorEq, Nat.reduceLT, Nat.reduceLeDiff, eq_self, Option.bind_some, Option.map_some, List.map_cons, List.map_nil, List.length_cons, List.length_nil, Option.getD_some, Option.getD_none, List.all_cons, List.all_nil, List.set_cons_zero, List.set_cons_succ, List.replicate_succ, List.replicate_zero, List.getElem?_cons_zero, List.getElem?_cons_succ, List.drop_succ_cons, List.drop_zero, List.take_succ_cons, List.take_zero]
      have : i = l.length := by (simp only [decide_eq_true_eq, decide_eq_false_iff_not, Bool.not_true, I64, Bool.not_eq_true', Bool.not_eq_false', bne_iff_ne, beq_iff_eq, ne_eq] at *; omega)
      subst this
      unfold firstErr
      rw [List.take_length] at hn
      rw [List.find?_eq_none.2 (fun x hx => by simp [hn x hx])]
      rfl

theorem first3_s (a b c : Int) : Sound Try.prog 36 [.sl [.int .i64 a, .int .i64 b, .int .i64 c]] (.int .i64 (if a ≠ 0 then a else if b ≠ 0 then b else c)) := by
  have h := first_s [a, b, c] (by simp)
  have e : firstErr [a, b, c] = if a ≠ 0 then a else if b ≠ 0 then b else c := by
    unfold firstErr
    by_cases ha : a = 0 <;> by_cases hb : b = 0 <;> by_cases hc : c = 0 <;> simp [ha, hb, hc]
  rw [e] at h
  exact h
end Go.Proofs.Ytngjhppgojfceaa

/- Sequences of trials, counted, in plain Lean. By an AI agent; nothing here is trusted. -/
namespace Go.Proofs.Ytngjhppgojfceaa
open Go.Av

def sumN (f : Nat → Int) : Nat → Int
  | 0 => 0
  | n + 1 => sumN f n + f n
theorem sumN_congr {f g : Nat → Int} : ∀ n, (∀ i, i < n → f i = g i) → sumN f n = sumN g n
  | 0, _ => rfl
  | n + 1, h => by rw [sumN, sumN, sumN_congr n fun i hi => h i (by omega), h n (by omega)]
theorem sumN_add (f g : Nat → Int) : ∀ n, sumN (fun i => f i + g i) n = sumN f n + sumN g n
  | 0 => rfl
  | n + 1 => by rw [sumN, sumN, sumN, sumN_add f g n]; omega
theorem sumN_mono {f g : Nat → Int} : ∀ n, (∀ i, i < n → f i ≤ g i) → sumN f n ≤ sumN g n
  | 0, _ => Int.le_refl _
  | n + 1, h => by
    have := sumN_mono n fun i hi => h i (by omega)
    have := h n (by omega)
    rw [sumN, sumN]; omega
theorem sumN_split (f : Nat → Int) (m : Nat) : ∀ n, sumN f (m + n) = sumN f m + sumN (fun i => f (m + i)) n
  | 0 => by simp [sumN]
  | n + 1 => by rw [← Nat.add_assoc, sumN, sumN_split f m n, sumN]; omega
theorem sumN_ten (f : Nat → Int) : ∀ m, sumN f (10 * m) = sumN (fun q => sumN (fun d => f (10 * q + d)) 10) m
  | 0 => rfl
  | m + 1 => by
    have h := sumN_split f (10 * m) 10
    rw [sumN_ten f m] at h
    exact h
theorem sumN_two (t : Nat) (a b : Int) : ∀ n, sumN (fun d => if d < t then a else b) n = (min t n : Nat) * a + ((n - min t n : Nat) : Int) * b
  | 0 => by simp [sumN]
  | n + 1 => by
    rw [sumN, sumN_two t a b n]
    by_cases h : n < t
    · rw [if_pos h, Nat.min_eq_right (show n ≤ t by omega), Nat.min_eq_right (show n + 1 ≤ t by omega), Nat.sub_self, Nat.sub_self]
      rw [show ((n + 1 : Nat) : Int) = (n : Int) + 1 by omega, Int.add_mul]; omega
    · rw [if_neg h, Nat.min_eq_left (show t ≤ n by omega), Nat.min_eq_left (show t ≤ n + 1 by omega)]
      rw [show ((n + 1 - t : Nat) : Int) = ((n - t : Nat) : Int) + 1 by omega, Int.add_mul]; omega
theorem sumN_shift (f : Nat → Int) : ∀ n, sumN f (n + 1) = f 0 + sumN (fun i => f (i + 1)) n
  | 0 => by simp [sumN]
  | n + 1 => by rw [sumN, sumN_shift f n, sumN]; omega

/-- How many of the last digits are less than a number. -/
def dig (t : Nat) : Nat → Nat → Nat
  | 0, _ => 0
  | T + 1, s => (if s % 10 < t then 1 else 0) + dig t T (s / 10)
/-- How many sequences have so many hits. -/
def cnt (t : Nat) : Nat → Nat → Int
  | 0, n => if n = 0 then 1 else 0
  | T + 1, n => (if n = 0 then 0 else t * cnt t T (n - 1)) + ((10 - t : Nat) : Int) * cnt t T n
theorem dig_le (t : Nat) : ∀ T s, dig t T s ≤ T
  | 0, _ => Nat.le_refl _
  | T + 1, s => by have := dig_le t T (s / 10); rw [dig]; split <;> omega
theorem cnt_out (t : Nat) : ∀ T n, T < n → cnt t T n = 0
  | 0, n, h => by rw [cnt, if_neg (by omega)]
  | T + 1, n, h => by rw [cnt, if_neg (by omega), cnt_out t T (n - 1) (by omega), cnt_out t T n (by omega)]; simp
theorem cnt_pos (t : Nat) : ∀ T n, 0 ≤ cnt t T n
  | 0, n => by rw [cnt]; split <;> omega
  | T + 1, n => by
    have h1 := Int.mul_nonneg (show (0 : Int) ≤ t by omega) (cnt_pos t T (n - 1))
    have h2 := Int.mul_nonneg (show (0 : Int) ≤ ((10 - t : Nat) : Int) by omega) (cnt_pos t T n)
    rw [cnt]; split <;> omega
/-- A sum over all sequences, by their hits. -/
theorem fiber {t : Nat} (ht : t ≤ 10) : ∀ (T : Nat) (f : Nat → Int), sumN (fun s => f (dig t T s)) (10 ^ T) = sumN (fun n => f n * cnt t T n) (T + 1)
  | 0, f => by simp [sumN, dig, cnt]
  | T + 1, f => by
    rw [Nat.pow_succ, Nat.mul_comm, sumN_ten]
    have h1 : ∀ q, sumN (fun d => f (dig t (T + 1) (10 * q + d))) 10 = (t : Int) * f (dig t T q + 1) + ((10 - t : Nat) : Int) * f (dig t T q) := by
      intro q
      have h2 : sumN (fun d => f (dig t (T + 1) (10 * q + d))) 10 = sumN (fun d => if d < t then f (dig t T q + 1) else f (dig t T q)) 10 := by
        refine sumN_congr 10 fun d hd => ?_
        simp only [dig]
        rw [show (10 * q + d) % 10 = d by omega, show (10 * q + d) / 10 = q by omega]
        split
        · rw [Nat.add_comm]
        · rw [Nat.zero_add]
      rw [h2, sumN_two, Nat.min_eq_left ht]
    rw [sumN_congr _ fun q _ => h1 q]
    have ih := fiber ht T (fun n => (t : Int) * f (n + 1) + ((10 - t : Nat) : Int) * f n)
    rw [ih]
    have h3 : sumN (fun n => f n * cnt t (T + 1) n) (T + 1 + 1) = sumN (fun n => f n * (if n = 0 then 0 else t * cnt t T (n - 1))) (T + 1 + 1) + sumN (fun n => f n * (((10 - t : Nat) : Int) * cnt t T n)) (T + 1 + 1) := by
      rw [← sumN_add]
      refine sumN_congr _ fun n _ => ?_
      simp only [cnt]
      rw [Int.mul_add]
    have h5 := sumN_shift (fun n => f n * (if n = 0 then 0 else (t : Int) * cnt t T (n - 1))) (T + 1)
    rw [h3, h5]
    rw [show sumN (fun n => f n * (((10 - t : Nat) : Int) * cnt t T n)) (T + 1 + 1) = sumN (fun n => f n * (((10 - t : Nat) : Int) * cnt t T n)) (T + 1) + f (T + 1) * (((10 - t : Nat) : Int) * cnt t T (T + 1)) from rfl]
    rw [cnt_out t T (T + 1) (by omega)]
    simp only [if_true, Int.mul_zero, Int.zero_add, Int.add_zero]
    rw [← sumN_add]
    refine sumN_congr _ fun n _ => ?_
    simp only [Nat.add_sub_cancel, Nat.add_one_ne_zero, if_false]
    rw [Int.add_mul, Int.mul_assoc, Int.mul_assoc, Int.mul_left_comm (f (n + 1)), Int.mul_left_comm (f n)]
theorem cnt_all {t : Nat} (ht : t ≤ 10) (T : Nat) : sumN (cnt t T) (T + 1) = 10 ^ T := by
  have h := fiber ht T (fun _ => 1)
  have h1 : ∀ n, sumN (fun _ => (1 : Int)) n = n := by
    intro n; induction n with
    | zero => rfl
    | succ n ih => rw [sumN, ih]; omega
  rw [h1] at h
  rw [sumN_congr _ (g := fun n => 1 * cnt t T n) fun i _ => (Int.one_mul _).symm, ← h]
  exact Int.natCast_pow 10 T
theorem sumN_mono_n {f : Nat → Int} (hf : ∀ i, 0 ≤ f i) {m : Nat} : ∀ n, m ≤ n → sumN f m ≤ sumN f n
  | 0, h => by rw [show m = 0 by omega]; exact Int.le_refl _
  | n + 1, h => by
    by_cases e : m = n + 1
    · rw [e]; exact Int.le_refl _
    · have := sumN_mono_n hf (m := m) n (by omega)
      have := hf n
      rw [sumN]; omega
/-- What a band holds. -/
theorem band_sum {t T lo hi : Nat} (hh : hi ≤ T) : sumN (cnt t T) (hi + 1) - sumN (cnt t T) lo ≤ sumN (fun n => if lo ≤ n ∧ n ≤ hi then cnt t T n else 0) (T + 1) := by
  have key : ∀ m, sumN (cnt t T) (min m (hi + 1)) - sumN (cnt t T) lo ≤ sumN (fun n => if lo ≤ n ∧ n ≤ hi then cnt t T n else 0) m := by
    intro m
    induction m with
    | zero =>
      have := sumN_mono_n (cnt_pos t T) lo (Nat.zero_le _)
      simp only [Nat.zero_min, sumN] at this ⊢; omega
    | succ m ih =>
      have hp := cnt_pos t T m
      rw [sumN]
      by_cases h1 : hi < m
      · rw [Nat.min_eq_right (show hi + 1 ≤ m + 1 by omega)]
        rw [Nat.min_eq_right (show hi + 1 ≤ m by omega)] at ih
        split <;> omega
      · rw [Nat.min_eq_left (show m + 1 ≤ hi + 1 by omega), sumN]
        rw [Nat.min_eq_left (show m ≤ hi + 1 by omega)] at ih
        by_cases h2 : lo ≤ m
        · rw [if_pos ⟨h2, by omega⟩]; omega
        · rw [if_neg (by omega)]
          have : sumN (cnt t T) (m + 1) ≤ sumN (cnt t T) lo := sumN_mono_n (cnt_pos t T) lo (by omega)
          rw [sumN] at this
          have h0 : ∀ k, 0 ≤ sumN (fun n => if lo ≤ n ∧ n ≤ hi then cnt t T n else 0) k := by
            intro k
            induction k with
            | zero => exact Int.le_refl _
            | succ k ih => rw [sumN]; have := cnt_pos t T k; split <;> omega
          have := h0 m; omega
  have := key (T + 1)
  rwa [Nat.min_eq_right (show hi + 1 ≤ T + 1 by omega)] at this
/-- At least so many sequences have so many hits. -/
def wy (t T h : Nat) : Int := sumN (cnt t T) (T + 1) - sumN (cnt t T) h
/-- COVERED: the limits hold a share for all but the risk. -/
theorem covers {t T lo hi : Nat} {r : Int} (ht : t ≤ 10) (hh : hi ≤ T) (g : Nat → Bool) (hg : ∀ n, lo ≤ n → n ≤ hi → g n = true)
    (h1 : 2000 * (10 ^ T - wy t T lo) ≤ r * 10 ^ T) (h2 : 2000 * wy t T (hi + 1) ≤ r * 10 ^ T) :
    (1000 - r) * 10 ^ T ≤ 1000 * sumN (fun n => (if g n then 1 else 0) * cnt t T n) (T + 1) := by
  have h3 := band_sum (t := t) (T := T) (lo := lo) hh
  have h4 : sumN (fun n => if lo ≤ n ∧ n ≤ hi then cnt t T n else 0) (T + 1) ≤ sumN (fun n => (if g n then 1 else 0) * cnt t T n) (T + 1) := by
    refine sumN_mono _ fun n _ => ?_
    have hp := cnt_pos t T n
    by_cases h : lo ≤ n ∧ n ≤ hi
    · rw [if_pos h, hg n h.1 h.2]; simp
    · rw [if_neg h]; split <;> simp [hp]
  have h5 := cnt_all ht T
  unfold wy at h1 h2
  rw [h5] at h1 h2
  generalize (10 : Int) ^ T = A at *
  generalize sumN (cnt t T) lo = x at *
  generalize sumN (cnt t T) (hi + 1) = y at *
  rw [Int.sub_mul]
  generalize r * A = R at *
  omega
end Go.Proofs.Ytngjhppgojfceaa

/- The examples of chapter 9, by running. By an AI agent; nothing here is trusted. -/
namespace Go.Proofs.Ytngjhppgojfceaa
open Go.Av

def extC : CT := ⟨fun _ _ => none, fun _ _ => none⟩
theorem extC_ok : extC.ok Try.prog := by
  refine ⟨fun _ _ _ h => ?_, fun _ _ _ h => ?_⟩ <;> cases h
def itC : IterT := fun _ _ => none
theorem itC_ok : ∀ g caps xs, itC g caps = some xs → SeqA Try.prog g caps xs := fun _ _ _ h => by cases h
def owC : FuncId → Bool := fun _ => false
def tabC : List (Nat × Nat × Nat × MC × List (Nat × Option (Option Nat))) := [(5, 30, 0, c_top_blindAwake, [(0, none)]), (11, 34, 3, c_blind_LimitsFor, [(6, (some (some 2))), (7, none)]), (32, 19, 2, c_blind_CountBy, [(4, none), (5, none)]), (33, 8, 0, c_law09_Method, [(0, (some (some 4)))]), (34, 5, 0, c_law09_Events, [(0, none)]), (36, 15, 1, c_blind_first, [(2, none)]), (37, 6, 1, c_blind_trialsErr, [(2, none)]), (38, 9, 2, c_blind_hitsErr, [(4, none)]), (39, 6, 1, c_blind_riskErr, [(2, none)]), (40, 38, 3, c_blind_limits, [(6, (some (some 2))), (7, none)]), (41, 7, 2, c_blind_unless, [(4, none)]), (43, 15, 3, c_blind_within, [(6, none)]), (44, 21, 3, c_blind_exactly, [(6, none)]), (45, 22, 3, c_blind_ways, [(6, none)]), (78, 11, 1, c_blind_methodErr, [(2, none)]), (79, 15, 1, c_blind_looseErr, [(2, none)]), (80, 8, 2, c_blind_count, [(4, none)]), (81, 45, 3, c_blind_band, [(6, (some (some 2)))]), (82, 25, 1, c_slices_Min_int_int, [(2, none)]), (83, 25, 1, c_slices_Max_int_int, [(2, none)]), (84, 29, 2, c_blind_choose, [(4, none)]), (85, 14, 2, c_blind_power, [(4, none)]), (100, 73, 1, c_blind_CheckMethod, [(2, none), (3, none)]), (101, 9, 2, c_slices_ContainsFunc_api_BlindEvent_api_BlindEvent, [(4, none)]), (102, 6, 1, c_blind_looseErr_1, [(2, none)]), (103, 22, 1, c_blind_eventErr, [(2, none)]), (104, 21, 2, c_blind_number, [(4, none)]), (105, 12, 2, c_blind_count_1, [(3, none)]), (106, 14, 2, c_blind_selects, [(4, none)]), (107, 21, 2, c_blind_inside, [(4, none)]), (121, 11, 1, c_blind_countErr, [(2, none)]), (122, 24, 1, c_blind_cutErr, [(2, none)]), (123, 19, 2, c_slices_IndexFunc_api_BlindEvent_api_BlindEvent, [(4, none)]), (124, 5, 1, c_blind_isField, [(2, none)]), (125, 10, 1, c_blind_fields, [(2, (some (some 3)))]), (126, 14, 2, c_blind_selects_1, [(3, none)]), (127, 9, 2, c_slices_ContainsFunc_api_BlindCut_api_BlindCut, [(4, none)]), (128, 8, 2, c_blind_selects_2, [(3, none)]), (129, 9, 2, c_slices_ContainsFunc_api_BlindCut_api_BlindCut_1, [(4, none)]), (135, 19, 2, c_slices_IndexFunc_api_BlindCut_api_BlindCut, [(4, none)]), (136, 19, 2, c_slices_IndexFunc_api_BlindCut_api_BlindCut_1, [(4, none)])]
theorem tabC_ok : ∀ f c, lookC tabC f = some c → cFun Try.prog f = some c := by
  refine lookC_ok ?_
  unfold tabC
  simp only [List.forall_mem_cons]
  exact ⟨f_top_blindAwake, f_blind_LimitsFor, f_blind_CountBy, f_law09_Method, f_law09_Events, f_blind_first, f_blind_trialsErr, f_blind_hitsErr, f_blind_riskErr, f_blind_limits, f_blind_unless, f_blind_within, f_blind_exactly, f_blind_ways, f_blind_methodErr, f_blind_looseErr, f_blind_count, f_blind_band, f_slices_Min_int_int, f_slices_Max_int_int, f_blind_choose, f_blind_power, f_blind_CheckMethod, f_slices_ContainsFunc_api_BlindEvent_api_BlindEvent, f_blind_looseErr_1, f_blind_eventErr, f_blind_number, f_blind_count_1, f_blind_selects, f_blind_inside, f_blind_countErr, f_blind_cutErr, f_slices_IndexFunc_api_BlindEvent_api_BlindEvent, f_blind_isField, f_blind_fields, f_blind_selects_1, f_slices_ContainsFunc_api_BlindCut_api_BlindCut, f_blind_selects_2, f_slices_ContainsFunc_api_BlindCut_api_BlindCut_1, f_slices_IndexFunc_api_BlindCut_api_BlindCut, f_slices_IndexFunc_api_BlindCut_api_BlindCut_1, fun p hp => by cases hp⟩
theorem blindAwake_run : (callX extC owC itC (lookC tabC) 100 40).v 5 [] = some (.bool true) := by kernel_rfl
theorem blindAwake_s : Sound Try.prog 5 [] (.bool true) := (callX_sound extC_ok itC_ok tabC_ok 40).1 _ _ _ blindAwake_run
end Go.Proofs.Ytngjhppgojfceaa

/- Contracts of the small functions of the base. By an AI agent; nothing here is trusted. -/
namespace Go.Proofs.Ytngjhppgojfceaa
open Go.Av

theorem Within_s (n lo hi : Int) : Sound Try.prog 6 [.int .i64 n, .int .i64 lo, .int .i64 hi] (.bool (decide (lo ≤ n ∧ n ≤ hi))) := by
  refine sound_W f_base_Within (Nat.le_of_ble_eq_true rfl) ?_
  simp only [c_base_Within, vcC, Int.reduceEq, Int.reduceNe, Int.reduceLT, Int.reduceLE, Nat.reduceEqDiff, Nat.reduceAdd, reduceIte, reduceCtorEq, Nat.reduceLT, Nat.reduceLeDiff, eq_self, Option.bind_some, Option.map_some, List.map_cons, List.map_nil, List.length_cons, List.length_nil, Option.getD_some, Option.getD_none, List.all_cons, List.all_nil, List.set_cons_zero, List.set_cons_succ, List.replicate_succ, List.replicate_zero, List.getElem?_cons_zero, List.getElem?_cons_succ, List.drop_succ_cons, List.drop_zero, List.take_succ_cons, List.take_zero]
  refine brB_split (fun h => ?_) (fun h => ?_) <;> simp only [h, vcC, Int.reduceEq, Int.reduceNe, Int.reduceLT, Int.reduceLE, Nat.reduceEqDiff, Nat.reduceAdd, reduceIte, reduceCtorEq, Nat.reduceLT, Nat.reduceLeDiff, eq_self, Option.bind_some, Option.map_some, List.map_cons, List.map_nil, List.length_cons, List.length_nil, Option.getD_some, Option.getD_none, List.all_cons, List.all_nil, List.set_cons_zero, List.set_cons_succ, List.replicate_succ, List.replicate_zero, List.getElem?_cons_zero, List.getElem?_cons_succ, List.drop_succ_cons, List.drop_zero, List.take_succ_cons, List.take_zero]
  · exact bool_eq (by simp at h; simp [h])
  · simp at h; simp; omega

end Go.Proofs.Ytngjhppgojfceaa

/- Contracts of the base: copies, comparisons, fractions. By an AI agent; nothing here is trusted. -/
namespace Go.Proofs.Ytngjhppgojfceaa
open Go.Av

theorem maxLen_big : 4000000000000 ≤ maxLen := by decide

def S63 (n : Int) : Prop := -9223372036854775807 ≤ n ∧ n ≤ 9223372036854775807
theorem max_neg (n : Int) : max n (-n) = n.natAbs := by omega
theorem Size_s (n : Int) (h : S63 n) : Sound Try.prog 86 [.int .i64 n] (.int .i64 n.natAbs) := by
  refine sound_W f_base_Size (Nat.le_of_ble_eq_true rfl) ?_
  unfold S63 at h
  simp only [c_base_Size, max_neg, vcV, vcD, Int.reduceEq, Int.reduceNe, Int.reduceLT, Int.reduceLE, Nat.reduceEqDiff, Nat.reduceAdd, reduceIte, reduceCtorEq, Nat.reduceLT, Nat.reduceLeDiff, eq_self, Option.bind_some, Option.map_some, List.map_cons, List.map_nil, List.length_cons, List.length_nil, Option.getD_some, Option.getD_none, List.all_cons, List.all_nil, List.set_cons_zero, List.set_cons_succ, List.replicate_succ, List.replicate_zero, List.getElem?_cons_zero, List.getElem?_cons_succ, List.drop_succ_cons, List.drop_zero, List.take_succ_cons, List.take_zero, List.map_append, List.nil_append, List.cons_append, Nat.reduceShiftRight, Nat.reduceMod]
  (simp only [decide_eq_true_eq, decide_eq_false_iff_not, Bool.not_true, I64, Bool.not_eq_true', Bool.not_eq_false', bne_iff_ne, beq_iff_eq, ne_eq] at *; omega)

theorem gcd_tmod (a b : Int) : Int.gcd b (a.tmod b) = Int.gcd a b := by
  unfold Int.gcd
  rw [Int.natAbs_tmod, Nat.gcd_comm, ← Nat.gcd_rec, Nat.gcd_comm]
theorem tmod_S {a b : Int} (hb : S63 b) (h0 : b ≠ 0) : S63 (a.tmod b) ∧ (a.tmod b).natAbs < b.natAbs := by
  have h : (a.tmod b).natAbs < b.natAbs := by
    rw [Int.natAbs_tmod]
    exact Nat.mod_lt _ (by omega)
  unfold S63 at hb ⊢
  exact ⟨by omega, h⟩
theorem Gcd_s (a b : Int) (ha : S63 a) (hb : S63 b) : Sound Try.prog 46 [.int .i64 a, .int .i64 b] (.int .i64 (Int.gcd a b)) := by
  refine sound_W f_base_Gcd (Nat.le_of_ble_eq_true rfl) ?_
  simp only [c_base_Gcd, vcV, vcD, Int.reduceEq, Int.reduceNe, Int.reduceLT, Int.reduceLE, Nat.reduceEqDiff, Nat.reduceAdd, reduceIte, reduceCtorEq, Nat.reduceLT, Nat.reduceLeDiff, eq_self, Option.bind_some, Option.map_some, List.map_cons, List.map_nil, List.length_cons, List.length_nil, Option.getD_some, Option.getD_none, List.all_cons, List.all_nil, List.set_cons_zero, List.set_cons_succ, List.replicate_succ, List.replicate_zero, List.getElem?_cons_zero, List.getElem?_cons_succ, List.drop_succ_cons, List.drop_zero, List.take_succ_cons, List.take_zero, List.map_append, List.nil_append, List.cons_append, Nat.reduceShiftRight, Nat.reduceMod]
  refine W_loop (α := PSigma fun p : Int × Int => S63 p.1 ∧ S63 p.2 ∧ Int.gcd p.1 p.2 = Int.gcd a b) (fun p => (envOf [(0, .int .i64 p.1.1), (1, .int .i64 p.1.2)], noStore)) (fun p => p.1.2.natAbs) ⟨(a, b), ha, hb, rfl⟩ (weakE _ ?_) (fun ⟨p, h1, h2, h3⟩ => ?_)
  · simp only [vcV, vcD, Int.reduceEq, Int.reduceNe, Int.reduceLT, Int.reduceLE, Nat.reduceEqDiff, Nat.reduceAdd, reduceIte, reduceCtorEq, Nat.reduceLT, Nat.reduceLeDiff, eq_self, Option.bind_some, Option.map_some, List.map_cons, List.map_nil, List.length_cons, List.length_nil, Option.getD_some, Option.getD_none, List.all_cons, List.all_nil, List.set_cons_zero, List.set_cons_succ, List.replicate_succ, List.replicate_zero, List.getElem?_cons_zero, List.getElem?_cons_succ, List.drop_succ_cons, List.drop_zero, List.take_succ_cons, List.take_zero, List.map_append, List.nil_append, List.cons_append, Nat.reduceShiftRight, Nat.reduceMod]
  · obtain ⟨x, y⟩ := p
    simp only at h1 h2 h3
    simp only [vcV, vcD, Int.reduceEq, Int.reduceNe, Int.reduceLT, Int.reduceLE, Nat.reduceEqDiff, Nat.reduceAdd, reduceIte, reduceCtorEq, Nat.reduceLT, Nat.reduceLeDiff, eq_self, Option.bind_some, Option.map_some, List.map_cons, List.map_nil, List.length_cons, List.length_nil, Option.getD_some, Option.getD_none, List.all_cons, List.all_nil, List.set_cons_zero, List.set_cons_succ, List.replicate_succ, List.replicate_zero, List.getElem?_cons_zero, List.getElem?_cons_succ, List.drop_succ_cons, List.drop_zero, List.take_succ_cons, List.take_zero, List.map_append, List.nil_append, List.cons_append, Nat.reduceShiftRight, Nat.reduceMod]
    refine brB_split (fun h => ?_) (fun h => ?_)
    · have hy : y ≠ 0 := by simpa using h
      obtain ⟨t1, t2⟩ := tmod_S (a := x) h2 hy
      simp only [vcV, vcD, Int.reduceEq, Int.reduceNe, Int.reduceLT, Int.reduceLE, Nat.reduceEqDiff, Nat.reduceAdd, reduceIte, reduceCtorEq, Nat.reduceLT, Nat.reduceLeDiff, eq_self, Option.bind_some, Option.map_some, List.map_cons, List.map_nil, List.length_cons, List.length_nil, Option.getD_some, Option.getD_none, List.all_cons, List.all_nil, List.set_cons_zero, List.set_cons_succ, List.replicate_succ, List.replicate_zero, List.getElem?_cons_zero, List.getElem?_cons_succ, List.drop_succ_cons, List.drop_zero, List.take_succ_cons, List.take_zero, List.map_append, List.nil_append, List.cons_append, Nat.reduceShiftRight, Nat.reduceMod]
      refine ⟨hy, ⟨(y, x.tmod y), h2, t1, (gcd_tmod x y).trans h3⟩, t2, weakE _ ?_⟩
      simp only [vcV, vcD, Int.reduceEq, Int.reduceNe, Int.reduceLT, Int.reduceLE, Nat.reduceEqDiff, Nat.reduceAdd, reduceIte, reduceCtorEq, Nat.reduceLT, Nat.reduceLeDiff, eq_self, Option.bind_some, Option.map_some, List.map_cons, List.map_nil, List.length_cons, List.length_nil, Option.getD_some, Option.getD_none, List.all_cons, List.all_nil, List.set_cons_zero, List.set_cons_succ, List.replicate_succ, List.replicate_zero, List.getElem?_cons_zero, List.getElem?_cons_succ, List.drop_succ_cons, List.drop_zero, List.take_succ_cons, List.take_zero, List.map_append, List.nil_append, List.cons_append, Nat.reduceShiftRight, Nat.reduceMod]
    · have hy : y = 0 := by simpa using h
      subst hy
      simp only [vcV, vcD, Int.reduceEq, Int.reduceNe, Int.reduceLT, Int.reduceLE, Nat.reduceEqDiff, Nat.reduceAdd, reduceIte, reduceCtorEq, Nat.reduceLT, Nat.reduceLeDiff, eq_self, Option.bind_some, Option.map_some, List.map_cons, List.map_nil, List.length_cons, List.length_nil, Option.getD_some, Option.getD_none, List.all_cons, List.all_nil, List.set_cons_zero, List.set_cons_succ, List.replicate_succ, List.replicate_zero, List.getElem?_cons_zero, List.getElem?_cons_succ, List.drop_succ_cons, List.drop_zero, List.take_succ_cons, List.take_zero, List.map_append, List.nil_append, List.cons_append, Nat.reduceShiftRight, Nat.reduceMod]
      refine callS_of (Size_s x h1) ?_
      simp only [vcV, vcD, Int.reduceEq, Int.reduceNe, Int.reduceLT, Int.reduceLE, Nat.reduceEqDiff, Nat.reduceAdd, reduceIte, reduceCtorEq, Nat.reduceLT, Nat.reduceLeDiff, eq_self, Option.bind_some, Option.map_some, List.map_cons, List.map_nil, List.length_cons, List.length_nil, Option.getD_some, Option.getD_none, List.all_cons, List.all_nil, List.set_cons_zero, List.set_cons_succ, List.replicate_succ, List.replicate_zero, List.getElem?_cons_zero, List.getElem?_cons_succ, List.drop_succ_cons, List.drop_zero, List.take_succ_cons, List.take_zero, List.map_append, List.nil_append, List.cons_append, Nat.reduceShiftRight, Nat.reduceMod]
      rw [← h3]; simp [Int.gcd]

/-- A fraction in lowest terms. -/
def lowG (num den : Int) : Int := if den < 0 then -(Int.gcd num den) else Int.gcd num den
def lowN (num den : Int) : Int := num.tdiv (lowG num den)
def lowD (num den : Int) : Int := den.tdiv (lowG num den)
def fracA (n d : Int) : AV := .agg [.int .i64 n, .int .i64 d]
theorem tdiv_S {a b : Int} (ha : S63 a) : S63 (a.tdiv b) := by
  have : (a.tdiv b).natAbs ≤ a.natAbs := by rw [Int.natAbs_tdiv]; exact Nat.div_le_self _ _
  unfold S63 at *; omega
theorem lowG_ne {num den : Int} (hd : den ≠ 0) : lowG num den ≠ 0 := by
  have : 0 < Int.gcd num den := Int.gcd_pos_of_ne_zero_right _ hd
  unfold lowG; split <;> omega
theorem gcd_S {a b : Int} (hb : S63 b) (h0 : b ≠ 0) : (Int.gcd a b : Int) ≤ 9223372036854775807 := by
  have h : Int.gcd a b ≤ b.natAbs := Nat.gcd_le_right _ (by omega)
  unfold S63 at hb; omega
theorem Lowest_s (num den : Int) (hn : S63 num) (hd : S63 den) (h0 : den ≠ 0) : Sound Try.prog 14 [.int .i64 num, .int .i64 den] (fracA (lowN num den) (lowD num den)) := by
  refine sound_W f_base_Lowest (Nat.le_of_ble_eq_true rfl) ?_
  have hne := lowG_ne (num := num) h0
  have hg := gcd_S (a := num) hd h0
  have t1 := tdiv_S (b := lowG num den) hn
  have t2 := tdiv_S (b := lowG num den) hd
  unfold lowG at t1 t2 hne
  unfold S63 at t1 t2
  simp only [c_base_Lowest, vcV, vcD, Int.reduceEq, Int.reduceNe, Int.reduceLT, Int.reduceLE, Nat.reduceEqDiff, Nat.reduceAdd, reduceIte, reduceCtorEq, Nat.reduceLT, Nat.reduceLeDiff, eq_self, Option.bind_some, Option.map_some, List.map_cons, List.map_nil, List.length_cons, List.length_nil, Option.getD_some, Option.getD_none, List.all_cons, List.all_nil, List.set_cons_zero, List.set_cons_succ, List.replicate_succ, List.replicate_zero, List.getElem?_cons_zero, List.getElem?_cons_succ, List.drop_succ_cons, List.drop_zero, List.take_succ_cons, List.take_zero, List.map_append, List.nil_append, List.cons_append, Nat.reduceShiftRight, Nat.reduceMod]
  refine callS_of (Gcd_s num den hn hd) ?_
  simp only [vcV, vcD, Int.reduceEq, Int.reduceNe, Int.reduceLT, Int.reduceLE, Nat.reduceEqDiff, Nat.reduceAdd, reduceIte, reduceCtorEq, Nat.reduceLT, Nat.reduceLeDiff, eq_self, Option.bind_some, Option.map_some, List.map_cons, List.map_nil, List.length_cons, List.length_nil, Option.getD_some, Option.getD_none, List.all_cons, List.all_nil, List.set_cons_zero, List.set_cons_succ, List.replicate_succ, List.replicate_zero, List.getElem?_cons_zero, List.getElem?_cons_succ, List.drop_succ_cons, List.drop_zero, List.take_succ_cons, List.take_zero, List.map_append, List.nil_append, List.cons_append, Nat.reduceShiftRight, Nat.reduceMod]
  refine brB_split (fun h => ?_) (fun h => ?_)
  · simp only [decide_eq_true_eq] at h
    rw [if_pos h] at t1 t2 hne
    simp only [vcV, vcD, Int.reduceEq, Int.reduceNe, Int.reduceLT, Int.reduceLE, Nat.reduceEqDiff, Nat.reduceAdd, reduceIte, reduceCtorEq, Nat.reduceLT, Nat.reduceLeDiff, eq_self, Option.bind_some, Option.map_some, List.map_cons, List.map_nil, List.length_cons, List.length_nil, Option.getD_some, Option.getD_none, List.all_cons, List.all_nil, List.set_cons_zero, List.set_cons_succ, List.replicate_succ, List.replicate_zero, List.getElem?_cons_zero, List.getElem?_cons_succ, List.drop_succ_cons, List.drop_zero, List.take_succ_cons, List.take_zero, List.map_append, List.nil_append, List.cons_append, Nat.reduceShiftRight, Nat.reduceMod]
    refine ⟨by (simp only [decide_eq_true_eq, decide_eq_false_iff_not, Bool.not_true, I64, Bool.not_eq_true', Bool.not_eq_false', bne_iff_ne, beq_iff_eq, ne_eq] at *; omega), hne, by (simp only [decide_eq_true_eq, decide_eq_false_iff_not, Bool.not_true, I64, Bool.not_eq_true', Bool.not_eq_false', bne_iff_ne, beq_iff_eq, ne_eq] at *; omega), hne, by (simp only [decide_eq_true_eq, decide_eq_false_iff_not, Bool.not_true, I64, Bool.not_eq_true', Bool.not_eq_false', bne_iff_ne, beq_iff_eq, ne_eq] at *; omega), ?_⟩
    unfold fracA lowN lowD lowG
    rw [if_pos h]
  · simp only [Bool.not_true, decide_eq_false_iff_not] at h
    rw [if_neg h] at t1 t2 hne
    simp only [vcV, vcD, Int.reduceEq, Int.reduceNe, Int.reduceLT, Int.reduceLE, Nat.reduceEqDiff, Nat.reduceAdd, reduceIte, reduceCtorEq, Nat.reduceLT, Nat.reduceLeDiff, eq_self, Option.bind_some, Option.map_some, List.map_cons, List.map_nil, List.length_cons, List.length_nil, Option.getD_some, Option.getD_none, List.all_cons, List.all_nil, List.set_cons_zero, List.set_cons_succ, List.replicate_succ, List.replicate_zero, List.getElem?_cons_zero, List.getElem?_cons_succ, List.drop_succ_cons, List.drop_zero, List.take_succ_cons, List.take_zero, List.map_append, List.nil_append, List.cons_append, Nat.reduceShiftRight, Nat.reduceMod]
    refine ⟨hne, by (simp only [decide_eq_true_eq, decide_eq_false_iff_not, Bool.not_true, I64, Bool.not_eq_true', Bool.not_eq_false', bne_iff_ne, beq_iff_eq, ne_eq] at *; omega), hne, by (simp only [decide_eq_true_eq, decide_eq_false_iff_not, Bool.not_true, I64, Bool.not_eq_true', Bool.not_eq_false', bne_iff_ne, beq_iff_eq, ne_eq] at *; omega), ?_⟩
    unfold fracA lowN lowD lowG
    rw [if_neg h]

end Go.Proofs.Ytngjhppgojfceaa

/- Contracts: ways, bands, limits. By an AI agent; nothing here is trusted. -/
namespace Go.Proofs.Ytngjhppgojfceaa
open Go.Av

def mxTo (l : List Int) (n : Nat) : Int := (l.take n).foldl max (l.headD 0)
theorem mxTo_succ (l : List Int) (n : Nat) (h : n < l.length) : mxTo l (n + 1) = max (mxTo l n) l[n] := by
  unfold mxTo; rw [List.take_succ_eq_append_getElem h, List.foldl_append]; rfl
theorem mxTo_one (l : List Int) (h : 0 < l.length) : mxTo l 1 = l[0] := by
  cases l with
  | nil => simp at h
  | cons a l => simp [mxTo]
def mxL (l : List Int) : Int := mxTo l l.length

theorem Max_s (l : List Int) (h0 : 0 < l.length) (hl : l.length < 4000000000000000000) : Sound Try.prog 83 [.sl (ints l)] (.int .i64 (mxL l)) := by
  refine sound_W f_slices_Max_int_int (Nat.le_of_ble_eq_true rfl) ?_
  have h1 : ¬ (l.length : Int) < 1 := by omega
  simp only [c_slices_Max_int_int, h1, show Int.toNat 0 = 0 from rfl, ints_get l 0 h0, vcV, vcD, Int.reduceEq, Int.reduceNe, Int.reduceLT, Int.reduceLE, Nat.reduceEqDiff, Nat.reduceAdd, reduceIte, reduceCtorEq, Nat.reduceLT, Nat.reduceLeDiff, eq_self, Option.bind_some, Option.map_some, List.map_cons, List.map_nil, List.length_cons, List.length_nil, Option.getD_some, Option.getD_none, List.all_cons, List.all_nil, List.set_cons_zero, List.set_cons_succ, List.replicate_succ, List.replicate_zero, List.getElem?_cons_zero, List.getElem?_cons_succ, List.drop_succ_cons, List.drop_zero, List.take_succ_cons, List.take_zero, List.map_append, List.nil_append, List.cons_append, Nat.reduceShiftRight, Nat.reduceMod]
  rw [← mxTo_one l h0]
  refine W_loop (t := .mk) (α := PSigma fun i : Nat => i ≤ (l.length - 1) ∧ (True)) (fun ⟨i, _⟩ => ((envOf [(0, .sl (ints l)), (3, .int .i64 (mxTo l (1 + i))), (4, .int .i64 ((1 + i : Nat) : Int))], stOf []))) (fun i => (l.length - 1) - i.1) ⟨0, Nat.zero_le _, ?_⟩ ?_ (fun ⟨i, hi, hn⟩ => ?_)
  · trivial
  · refine weakX [] (of_decide_eq_true rfl) (of_decide_eq_true rfl) ?_
    (simp only [vcW, vcV, vcD, Int.reduceEq, Int.reduceNe, Int.reduceLT, Int.reduceLE, Nat.reduceEqDiff, Nat.reduceAdd, reduceIte, reduceCtorEq, Nat.reduceLT, Nat.reduceLeDiff, eq_self, Option.bind_some, Option.map_some, List.map_cons, List.map_nil, List.length_cons, List.length_nil, Option.getD_some, Option.getD_none, List.all_cons, List.all_nil, List.set_cons_zero, List.set_cons_succ, List.replicate_succ, List.replicate_zero, List.getElem?_cons_zero, List.getElem?_cons_succ, List.drop_succ_cons, List.drop_zero, List.take_succ_cons, List.take_zero, List.map_append, List.nil_append, List.cons_append, Nat.reduceShiftRight, Nat.reduceMod])
    (repeat' first | exact trivial | (with_reducible exact RnB.fxB (ints_fxB _)) | (with_reducible rfl) | (with_reducible refine And.intro ?_ ?_) | (with_reducible refine RnB.bb ?_; simp only [vcW, vcV, vcD, Int.reduceEq, Int.reduceNe, Int.reduceLT, Int.reduceLE, Nat.reduceEqDiff, Nat.reduceAdd, reduceIte, reduceCtorEq, Nat.reduceLT, Nat.reduceLeDiff, eq_self, Option.bind_some, Option.map_some, List.map_cons, List.map_nil, List.length_cons, List.length_nil, Option.getD_some, Option.getD_none, List.all_cons, List.all_nil, List.set_cons_zero, List.set_cons_succ, List.replicate_succ, List.replicate_zero, List.getElem?_cons_zero, List.getElem?_cons_succ, List.drop_succ_cons, List.drop_zero, List.take_succ_cons, List.take_zero, List.map_append, List.nil_append, List.cons_append, Nat.reduceShiftRight, Nat.reduceMod]) | (with_reducible refine RnB.nb ?_; simp only [vcW, vcV, vcD, Int.reduceEq, Int.reduceNe, Int.reduceLT, Int.reduceLE, Nat.reduceEqDiff, Nat.reduceAdd, reduceIte, reduceCtorEq, Nat.reduceLT, Nat.reduceLeDiff, eq_self, Option.bind_some, Option.map_some, List.map_cons, List.map_nil, List.length_cons, List.length_nil, Option.getD_some, Option.getD_none, List.all_cons, List.all_nil, List.set_cons_zero, List.set_cons_succ, List.replicate_succ, List.replicate_zero, List.getElem?_cons_zero, List.getElem?_cons_succ, List.drop_succ_cons, List.drop_zero, List.take_succ_cons, List.take_zero, List.map_append, List.nil_append, List.cons_append, Nat.reduceShiftRight, Nat.reduceMod]) | (with_reducible refine RnB.ii ?_) | (with_reducible refine RnB.app ?_) | (with_reducible refine RnB.fxB ?_; simp only [vcW, vcV, vcD, Int.reduceEq, Int.reduceNe, Int.reduceLT, Int.reduceLE, Nat.reduceEqDiff, Nat.reduceAdd, reduceIte, reduceCtorEq, Nat.reduceLT, Nat.reduceLeDiff, eq_self, Option.bind_some, Option.map_some, List.map_cons, List.map_nil, List.length_cons, List.length_nil, Option.getD_some, Option.getD_none, List.all_cons, List.all_nil, List.set_cons_zero, List.set_cons_succ, List.replicate_succ, List.replicate_zero, List.getElem?_cons_zero, List.getElem?_cons_succ, List.drop_succ_cons, List.drop_zero, List.take_succ_cons, List.take_zero, List.map_append, List.nil_append, List.cons_append, Nat.reduceShiftRight, Nat.reduceMod]) | omega)
    all_goals rfl
  · simp only [vcV, vcD, Int.reduceEq, Int.reduceNe, Int.reduceLT, Int.reduceLE, Nat.reduceEqDiff, Nat.reduceAdd, reduceIte, reduceCtorEq, Nat.reduceLT, Nat.reduceLeDiff, eq_self, Option.bind_some, Option.map_some, List.map_cons, List.map_nil, List.length_cons, List.length_nil, Option.getD_some, Option.getD_none, List.all_cons, List.all_nil, List.set_cons_zero, List.set_cons_succ, List.replicate_succ, List.replicate_zero, List.getElem?_cons_zero, List.getElem?_cons_succ, List.drop_succ_cons, List.drop_zero, List.take_succ_cons, List.take_zero, List.map_append, List.nil_append, List.cons_append, Nat.reduceShiftRight, Nat.reduceMod]
    refine brB_split (fun h => ?_) (fun h => ?_)
    · have h' : 1 + i < l.length := by (simp only [decide_eq_true_eq, decide_eq_false_iff_not, Bool.not_true, I64, Bool.not_eq_true', Bool.not_eq_false', bne_iff_ne, beq_iff_eq, ne_eq] at *; omega)
      have hs := mxTo_succ l (1 + i) h'
      simp only [ints_get l (1 + i) h', vcV, vcD, Int.reduceEq, Int.reduceNe, Int.reduceLT, Int.reduceLE, Nat.reduceEqDiff, Nat.reduceAdd, reduceIte, reduceCtorEq, Nat.reduceLT, Nat.reduceLeDiff, eq_self, Option.bind_some, Option.map_some, List.map_cons, List.map_nil, List.length_cons, List.length_nil, Option.getD_some, Option.getD_none, List.all_cons, List.all_nil, List.set_cons_zero, List.set_cons_succ, List.replicate_succ, List.replicate_zero, List.getElem?_cons_zero, List.getElem?_cons_succ, List.drop_succ_cons, List.drop_zero, List.take_succ_cons, List.take_zero, List.map_append, List.nil_append, List.cons_append, Nat.reduceShiftRight, Nat.reduceMod]
      refine ⟨by (simp only [decide_eq_true_eq, decide_eq_false_iff_not, Bool.not_true, I64, Bool.not_eq_true', Bool.not_eq_false', bne_iff_ne, beq_iff_eq, ne_eq] at *; omega), by (simp only [decide_eq_true_eq, decide_eq_false_iff_not, Bool.not_true, I64, Bool.not_eq_true', Bool.not_eq_false', bne_iff_ne, beq_iff_eq, ne_eq] at *; omega), ⟨⟨i + 1, by (simp only [decide_eq_true_eq, decide_eq_false_iff_not, Bool.not_true, I64, Bool.not_eq_true', Bool.not_eq_false', bne_iff_ne, beq_iff_eq, ne_eq] at *; omega), ?_⟩, by simp only; (try simp only [decide_eq_true_eq] at *); omega, ?_⟩⟩
      · trivial
      · refine weakX [] (of_decide_eq_true rfl) (of_decide_eq_true rfl) ?_
        (simp only [← Nat.add_assoc, hs, vcW, vcV, vcD, Int.reduceEq, Int.reduceNe, Int.reduceLT, Int.reduceLE, Nat.reduceEqDiff, Nat.reduceAdd, reduceIte, reduceCtorEq, Nat.reduceLT, Nat.reduceLeDiff, eq_self, Option.bind_some, Option.map_some, List.map_cons, List.map_nil, List.length_cons, List.length_nil, Option.getD_some, Option.getD_none, List.all_cons, List.all_nil, List.set_cons_zero, List.set_cons_succ, List.replicate_succ, List.replicate_zero, List.getElem?_cons_zero, List.getElem?_cons_succ, List.drop_succ_cons, List.drop_zero, List.take_succ_cons, List.take_zero, List.map_append, List.nil_append, List.cons_append, Nat.reduceShiftRight, Nat.reduceMod])
        (repeat' first | exact trivial | (with_reducible exact RnB.fxB (ints_fxB _)) | (with_reducible rfl) | (with_reducible refine And.intro ?_ ?_) | (with_reducible refine RnB.bb ?_; simp only [vcW, vcV, vcD, Int.reduceEq, Int.reduceNe, Int.reduceLT, Int.reduceLE, Nat.reduceEqDiff, Nat.reduceAdd, reduceIte, reduceCtorEq, Nat.reduceLT, Nat.reduceLeDiff, eq_self, Option.bind_some, Option.map_some, List.map_cons, List.map_nil, List.length_cons, List.length_nil, Option.getD_some, Option.getD_none, List.all_cons, List.all_nil, List.set_cons_zero, List.set_cons_succ, List.replicate_succ, List.replicate_zero, List.getElem?_cons_zero, List.getElem?_cons_succ, List.drop_succ_cons, List.drop_zero, List.take_succ_cons, List.take_zero, List.map_append, List.nil_append, List.cons_append, Nat.reduceShiftRight, Nat.reduceMod]) | (with_reducible refine RnB.nb ?_; simp only [vcW, vcV, vcD, Int.reduceEq, Int.reduceNe, Int.reduceLT, Int.reduceLE, Nat.reduceEqDiff, Nat.reduceAdd, reduceIte, reduceCtorEq, Nat.reduceLT, Nat.reduceLeDiff, eq_self, Option.bind_some, Option.map_some, List.map_cons, List.map_nil, List.length_cons, List.length_nil, Option.getD_some, Option.getD_none, List.all_cons, List.all_nil, List.set_cons_zero, List.set_cons_succ, List.replicate_succ, List.replicate_zero, List.getElem?_cons_zero, List.getElem?_cons_succ, List.drop_succ_cons, List.drop_zero, List.take_succ_cons, List.take_zero, List.map_append, List.nil_append, List.cons_append, Nat.reduceShiftRight, Nat.reduceMod]) | (with_reducible refine RnB.ii ?_) | (with_reducible refine RnB.app ?_) | (with_reducible refine RnB.fxB ?_; simp only [vcW, vcV, vcD, Int.reduceEq, Int.reduceNe, Int.reduceLT, Int.reduceLE, Nat.reduceEqDiff, Nat.reduceAdd, reduceIte, reduceCtorEq, Nat.reduceLT, Nat.reduceLeDiff, eq_self, Option.bind_some, Option.map_some, List.map_cons, List.map_nil, List.length_cons, List.length_nil, Option.getD_some, Option.getD_none, List.all_cons, List.all_nil, List.set_cons_zero, List.set_cons_succ, List.replicate_succ, List.replicate_zero, List.getElem?_cons_zero, List.getElem?_cons_succ, List.drop_succ_cons, List.drop_zero, List.take_succ_cons, List.take_zero, List.map_append, List.nil_append, List.cons_append, Nat.reduceShiftRight, Nat.reduceMod]) | omega)
    · simp only [vcV, vcD, Int.reduceEq, Int.reduceNe, Int.reduceLT, Int.reduceLE, Nat.reduceEqDiff, Nat.reduceAdd, reduceIte, reduceCtorEq, Nat.reduceLT, Nat.reduceLeDiff, eq_self, Option.bind_some, Option.map_some, List.map_cons, List.map_nil, List.length_cons, List.length_nil, Option.getD_some, Option.getD_none, List.all_cons, List.all_nil, List.set_cons_zero, List.set_cons_succ, List.replicate_succ, List.replicate_zero, List.getElem?_cons_zero, List.getElem?_cons_succ, List.drop_succ_cons, List.drop_zero, List.take_succ_cons, List.take_zero, List.map_append, List.nil_append, List.cons_append, Nat.reduceShiftRight, Nat.reduceMod]
      have he : l.length = 1 + i := by (simp only [decide_eq_true_eq, decide_eq_false_iff_not, Bool.not_true, I64, Bool.not_eq_true', Bool.not_eq_false', bne_iff_ne, beq_iff_eq, ne_eq] at *; omega)
      unfold mxL
      rw [he]

def mnTo (l : List Int) (n : Nat) : Int := (l.take n).foldl min (l.headD 0)
theorem mnTo_succ (l : List Int) (n : Nat) (h : n < l.length) : mnTo l (n + 1) = min (mnTo l n) l[n] := by
  unfold mnTo; rw [List.take_succ_eq_append_getElem h, List.foldl_append]; rfl
theorem mnTo_one (l : List Int) (h : 0 < l.length) : mnTo l 1 = l[0] := by
  cases l with
  | nil => simp at h
  | cons a l => simp [mnTo]
def mnL (l : List Int) : Int := mnTo l l.length

theorem Min_s (l : List Int) (h0 : 0 < l.length) (hl : l.length < 4000000000000000000) : Sound Try.prog 82 [.sl (ints l)] (.int .i64 (mnL l)) := by
  refine sound_W f_slices_Min_int_int (Nat.le_of_ble_eq_true rfl) ?_
  have h1 : ¬ (l.length : Int) < 1 := by omega
  simp only [c_slices_Min_int_int, h1, show Int.toNat 0 = 0 from rfl, ints_get l 0 h0, vcV, vcD, Int.reduceEq, Int.reduceNe, Int.reduceLT, Int.reduceLE, Nat.reduceEqDiff, Nat.reduceAdd, reduceIte, reduceCtorEq, Nat.reduceLT, Nat.reduceLeDiff, eq_self, Option.bind_some, Option.map_some, List.map_cons, List.map_nil, List.length_cons, List.length_nil, Option.getD_some, Option.getD_none, List.all_cons, List.all_nil, List.set_cons_zero, List.set_cons_succ, List.replicate_succ, List.replicate_zero, List.getElem?_cons_zero, List.getElem?_cons_succ, List.drop_succ_cons, List.drop_zero, List.take_succ_cons, List.take_zero, List.map_append, List.nil_append, List.cons_append, Nat.reduceShiftRight, Nat.reduceMod]
  rw [← mnTo_one l h0]
  refine W_loop (t := .mk) (α := PSigma fun i : Nat => i ≤ (l.length - 1) ∧ (True)) (fun ⟨i, _⟩ => ((envOf [(0, .sl (ints l)), (3, .int .i64 (mnTo l (1 + i))), (4, .int .i64 ((1 + i : Nat) : Int))], stOf []))) (fun i => (l.length - 1) - i.1) ⟨0, Nat.zero_le _, ?_⟩ ?_ (fun ⟨i, hi, hn⟩ => ?_)
  · trivial
  · refine weakX [] (of_decide_eq_true rfl) (of_decide_eq_true rfl) ?_
    (simp only [vcW, vcV, vcD, Int.reduceEq, Int.reduceNe, Int.reduceLT, Int.reduceLE, Nat.reduceEqDiff, Nat.reduceAdd, reduceIte, reduceCtorEq, Nat.reduceLT, Nat.reduceLeDiff, eq_self, Option.bind_some, Option.map_some, List.map_cons, List.map_nil, List.length_cons, List.length_nil, Option.getD_some, Option.getD_none, List.all_cons, List.all_nil, List.set_cons_zero, List.set_cons_succ, List.replicate_succ, List.replicate_zero, List.getElem?_cons_zero, List.getElem?_cons_succ, List.drop_succ_cons, List.drop_zero, List.take_succ_cons, List.take_zero, List.map_append, List.nil_append, List.cons_append, Nat.reduceShiftRight, Nat.reduceMod])
    (repeat' first | exact trivial | (with_reducible exact RnB.fxB (ints_fxB _)) | (with_reducible rfl) | (with_reducible refine And.intro ?_ ?_) | (with_reducible refine RnB.bb ?_; simp only [vcW, vcV, vcD, Int.reduceEq, Int.reduceNe, Int.reduceLT, Int.reduceLE, Nat.reduceEqDiff, Nat.reduceAdd, reduceIte, reduceCtorEq, Nat.reduceLT, Nat.reduceLeDiff, eq_self, Option.bind_some, Option.map_some, List.map_cons, List.map_nil, List.length_cons, List.length_nil, Option.getD_some, Option.getD_none, List.all_cons, List.all_nil, List.set_cons_zero, List.set_cons_succ, List.replicate_succ, List.replicate_zero, List.getElem?_cons_zero, List.getElem?_cons_succ, List.drop_succ_cons, List.drop_zero, List.take_succ_cons, List.take_zero, List.map_append, List.nil_append, List.cons_append, Nat.reduceShiftRight, Nat.reduceMod]) | (with_reducible refine RnB.nb ?_; simp only [vcW, vcV, vcD, Int.reduceEq, Int.reduceNe, Int.reduceLT, Int.reduceLE, Nat.reduceEqDiff, Nat.reduceAdd, reduceIte, reduceCtorEq, Nat.reduceLT, Nat.reduceLeDiff, eq_self, Option.bind_some, Option.map_some, List.map_cons, List.map_nil, List.length_cons, List.length_nil, Option.getD_some, Option.getD_none, List.all_cons, List.all_nil, List.set_cons_zero, List.set_cons_succ, List.replicate_succ, List.replicate_zero, List.getElem?_cons_zero, List.getElem?_cons_succ, List.drop_succ_cons, List.drop_zero, List.take_succ_cons, List.take_zero, List.map_append, List.nil_append, List.cons_append, Nat.reduceShiftRight, Nat.reduceMod]) | (with_reducible refine RnB.ii ?_) | (with_reducible refine RnB.app ?_) | (with_reducible refine RnB.fxB ?_; simp only [vcW, vcV, vcD, Int.reduceEq, Int.reduceNe, Int.reduceLT, Int.reduceLE, Nat.reduceEqDiff, Nat.reduceAdd, reduceIte, reduceCtorEq, Nat.reduceLT, Nat.reduceLeDiff, eq_self, Option.bind_some, Option.map_some, List.map_cons, List.map_nil, List.length_cons, List.length_nil, Option.getD_some, Option.getD_none, List.all_cons, List.all_nil, List.set_cons_zero, List.set_cons_succ, List.replicate_succ, List.replicate_zero, List.getElem?_cons_zero, List.getElem?_cons_succ, List.drop_succ_cons, List.drop_zero, List.take_succ_cons, List.take_zero, List.map_append, List.nil_append, List.cons_append, Nat.reduceShiftRight, Nat.reduceMod]) | omega)
    all_goals rfl
  · simp only [vcV, vcD, Int.reduceEq, Int.reduceNe, Int.reduceLT, Int.reduceLE, Nat.reduceEqDiff, Nat.reduceAdd, reduceIte, reduceCtorEq, Nat.reduceLT, Nat.reduceLeDiff, eq_self, Option.bind_some, Option.map_some, List.map_cons, List.map_nil, List.length_cons, List.length_nil, Option.getD_some, Option.getD_none, List.all_cons, List.all_nil, List.set_cons_zero, List.set_cons_succ, List.replicate_succ, List.replicate_zero, List.getElem?_cons_zero, List.getElem?_cons_succ, List.drop_succ_cons, List.drop_zero, List.take_succ_cons, List.take_zero, List.map_append, List.nil_append, List.cons_append, Nat.reduceShiftRight, Nat.reduceMod]
    refine brB_split (fun h => ?_) (fun h => ?_)
    · have h' : 1 + i < l.length := by (simp only [decide_eq_true_eq, decide_eq_false_iff_not, Bool.not_true, I64, Bool.not_eq_true', Bool.not_eq_false', bne_iff_ne, beq_iff_eq, ne_eq] at *; omega)
      have hs := mnTo_succ l (1 + i) h'
      simp only [ints_get l (1 + i) h', vcV, vcD, Int.reduceEq, Int.reduceNe, Int.reduceLT, Int.reduceLE, Nat.reduceEqDiff, Nat.reduceAdd, reduceIte, reduceCtorEq, Nat.reduceLT, Nat.reduceLeDiff, eq_self, Option.bind_some, Option.map_some, List.map_cons, List.map_nil, List.length_cons, List.length_nil, Option.getD_some, Option.getD_none, List.all_cons, List.all_nil, List.set_cons_zero, List.set_cons_succ, List.replicate_succ, List.replicate_zero, List.getElem?_cons_zero, List.getElem?_cons_succ, List.drop_succ_cons, List.drop_zero, List.take_succ_cons, List.take_zero, List.map_append, List.nil_append, List.cons_append, Nat.reduceShiftRight, Nat.reduceMod]
      refine ⟨by (simp only [decide_eq_true_eq, decide_eq_false_iff_not, Bool.not_true, I64, Bool.not_eq_true', Bool.not_eq_false', bne_iff_ne, beq_iff_eq, ne_eq] at *; omega), by (simp only [decide_eq_true_eq, decide_eq_false_iff_not, Bool.not_true, I64, Bool.not_eq_true', Bool.not_eq_false', bne_iff_ne, beq_iff_eq, ne_eq] at *; omega), ⟨⟨i + 1, by (simp only [decide_eq_true_eq, decide_eq_false_iff_not, Bool.not_true, I64, Bool.not_eq_true', Bool.not_eq_false', bne_iff_ne, beq_iff_eq, ne_eq] at *; omega), ?_⟩, by simp only; (try simp only [decide_eq_true_eq] at *); omega, ?_⟩⟩
      · trivial
      · refine weakX [] (of_decide_eq_true rfl) (of_decide_eq_true rfl) ?_
        (simp only [← Nat.add_assoc, hs, vcW, vcV, vcD, Int.reduceEq, Int.reduceNe, Int.reduceLT, Int.reduceLE, Nat.reduceEqDiff, Nat.reduceAdd, reduceIte, reduceCtorEq, Nat.reduceLT, Nat.reduceLeDiff, eq_self, Option.bind_some, Option.map_some, List.map_cons, List.map_nil, List.length_cons, List.length_nil, Option.getD_some, Option.getD_none, List.all_cons, List.all_nil, List.set_cons_zero, List.set_cons_succ, List.replicate_succ, List.replicate_zero, List.getElem?_cons_zero, List.getElem?_cons_succ, List.drop_succ_cons, List.drop_zero, List.take_succ_cons, List.take_zero, List.map_append, List.nil_append, List.cons_append, Nat.reduceShiftRight, Nat.reduceMod])
        (repeat' first | exact trivial | (with_reducible exact RnB.fxB (ints_fxB _)) | (with_reducible rfl) | (with_reducible refine And.intro ?_ ?_) | (with_reducible refine RnB.bb ?_; simp only [vcW, vcV, vcD, Int.reduceEq, Int.reduceNe, Int.reduceLT, Int.reduceLE, Nat.reduceEqDiff, Nat.reduceAdd, reduceIte, reduceCtorEq, Nat.reduceLT, Nat.reduceLeDiff, eq_self, Option.bind_some, Option.map_some, List.map_cons, List.map_nil, List.length_cons, List.length_nil, Option.getD_some, Option.getD_none, List.all_cons, List.all_nil, List.set_cons_zero, List.set_cons_succ, List.replicate_succ, List.replicate_zero, List.getElem?_cons_zero, List.getElem?_cons_succ, List.drop_succ_cons, List.drop_zero, List.take_succ_cons, List.take_zero, List.map_append, List.nil_append, List.cons_append, Nat.reduceShiftRight, Nat.reduceMod]) | (with_reducible refine RnB.nb ?_; simp only [vcW, vcV, vcD, Int.reduceEq, Int.reduceNe, Int.reduceLT, Int.reduceLE, Nat.reduceEqDiff, Nat.reduceAdd, reduceIte, reduceCtorEq, Nat.reduceLT, Nat.reduceLeDiff, eq_self, Option.bind_some, Option.map_some, List.map_cons, List.map_nil, List.length_cons, List.length_nil, Option.getD_some, Option.getD_none, List.all_cons, List.all_nil, List.set_cons_zero, List.set_cons_succ, List.replicate_succ, List.replicate_zero, List.getElem?_cons_zero, List.getElem?_cons_succ, List.drop_succ_cons, List.drop_zero, List.take_succ_cons, List.take_zero, List.map_append, List.nil_append, List.cons_append, Nat.reduceShiftRight, Nat.reduceMod]) | (with_reducible refine RnB.ii ?_) | (with_reducible refine RnB.app ?_) | (with_reducible refine RnB.fxB ?_; simp only [vcW, vcV, vcD, Int.reduceEq, Int.reduceNe, Int.reduceLT, Int.reduceLE, Nat.reduceEqDiff, Nat.reduceAdd, reduceIte, reduceCtorEq, Nat.reduceLT, Nat.reduceLeDiff, eq_self, Option.bind_some, Option.map_some, List.map_cons, List.map_nil, List.length_cons, List.length_nil, Option.getD_some, Option.getD_none, List.all_cons, List.all_nil, List.set_cons_zero, List.set_cons_succ, List.replicate_succ, List.replicate_zero, List.getElem?_cons_zero, List.getElem?_cons_succ, List.drop_succ_cons, List.drop_zero, List.take_succ_cons, List.take_zero, List.map_append, List.nil_append, List.cons_append, Nat.reduceShiftRight, Nat.reduceMod]) | omega)
    · simp only [vcV, vcD, Int.reduceEq, Int.reduceNe, Int.reduceLT, Int.reduceLE, Nat.reduceEqDiff, Nat.reduceAdd, reduceIte, reduceCtorEq, Nat.reduceLT, Nat.reduceLeDiff, eq_self, Option.bind_some, Option.map_some, List.map_cons, List.map_nil, List.length_cons, List.length_nil, Option.getD_some, Option.getD_none, List.all_cons, List.all_nil, List.set_cons_zero, List.set_cons_succ, List.replicate_succ, List.replicate_zero, List.getElem?_cons_zero, List.getElem?_cons_succ, List.drop_succ_cons, List.drop_zero, List.take_succ_cons, List.take_zero, List.map_append, List.nil_append, List.cons_append, Nat.reduceShiftRight, Nat.reduceMod]
      have he : l.length = 1 + i := by (simp only [decide_eq_true_eq, decide_eq_false_iff_not, Bool.not_true, I64, Bool.not_eq_true', Bool.not_eq_false', bne_iff_ne, beq_iff_eq, ne_eq] at *; omega)
      unfold mnL
      rw [he]

theorem divisor_s (a b : Int) (ha : S63 a) (hb : S63 b) : Sound Try.prog 47 [.int .i64 a, .int .i64 b] (.int .i64 (Int.gcd a b)) := by
  refine sound_W f_blind_divisor (Nat.le_of_ble_eq_true rfl) ?_
  simp only [c_blind_divisor, vcV, vcD, Int.reduceEq, Int.reduceNe, Int.reduceLT, Int.reduceLE, Nat.reduceEqDiff, Nat.reduceAdd, reduceIte, reduceCtorEq, Nat.reduceLT, Nat.reduceLeDiff, eq_self, Option.bind_some, Option.map_some, List.map_cons, List.map_nil, List.length_cons, List.length_nil, Option.getD_some, Option.getD_none, List.all_cons, List.all_nil, List.set_cons_zero, List.set_cons_succ, List.replicate_succ, List.replicate_zero, List.getElem?_cons_zero, List.getElem?_cons_succ, List.drop_succ_cons, List.drop_zero, List.take_succ_cons, List.take_zero, List.map_append, List.nil_append, List.cons_append, Nat.reduceShiftRight, Nat.reduceMod]
  refine W_loop (α := PSigma fun p : Int × Int => S63 p.1 ∧ S63 p.2 ∧ Int.gcd p.1 p.2 = Int.gcd a b) (fun p => (envOf [(0, .int .i64 p.1.1), (1, .int .i64 p.1.2)], noStore)) (fun p => p.1.2.natAbs) ⟨(a, b), ha, hb, rfl⟩ (weakE _ ?_) (fun ⟨p, h1, h2, h3⟩ => ?_)
  · simp only [vcV, vcD, Int.reduceEq, Int.reduceNe, Int.reduceLT, Int.reduceLE, Nat.reduceEqDiff, Nat.reduceAdd, reduceIte, reduceCtorEq, Nat.reduceLT, Nat.reduceLeDiff, eq_self, Option.bind_some, Option.map_some, List.map_cons, List.map_nil, List.length_cons, List.length_nil, Option.getD_some, Option.getD_none, List.all_cons, List.all_nil, List.set_cons_zero, List.set_cons_succ, List.replicate_succ, List.replicate_zero, List.getElem?_cons_zero, List.getElem?_cons_succ, List.drop_succ_cons, List.drop_zero, List.take_succ_cons, List.take_zero, List.map_append, List.nil_append, List.cons_append, Nat.reduceShiftRight, Nat.reduceMod]
  · obtain ⟨x, y⟩ := p
    simp only at h1 h2 h3
    simp only [vcV, vcD, Int.reduceEq, Int.reduceNe, Int.reduceLT, Int.reduceLE, Nat.reduceEqDiff, Nat.reduceAdd, reduceIte, reduceCtorEq, Nat.reduceLT, Nat.reduceLeDiff, eq_self, Option.bind_some, Option.map_some, List.map_cons, List.map_nil, List.length_cons, List.length_nil, Option.getD_some, Option.getD_none, List.all_cons, List.all_nil, List.set_cons_zero, List.set_cons_succ, List.replicate_succ, List.replicate_zero, List.getElem?_cons_zero, List.getElem?_cons_succ, List.drop_succ_cons, List.drop_zero, List.take_succ_cons, List.take_zero, List.map_append, List.nil_append, List.cons_append, Nat.reduceShiftRight, Nat.reduceMod]
    refine brB_split (fun h => ?_) (fun h => ?_)
    · have hy : y ≠ 0 := by simpa using h
      obtain ⟨t1, t2⟩ := tmod_S (a := x) h2 hy
      simp only [vcV, vcD, Int.reduceEq, Int.reduceNe, Int.reduceLT, Int.reduceLE, Nat.reduceEqDiff, Nat.reduceAdd, reduceIte, reduceCtorEq, Nat.reduceLT, Nat.reduceLeDiff, eq_self, Option.bind_some, Option.map_some, List.map_cons, List.map_nil, List.length_cons, List.length_nil, Option.getD_some, Option.getD_none, List.all_cons, List.all_nil, List.set_cons_zero, List.set_cons_succ, List.replicate_succ, List.replicate_zero, List.getElem?_cons_zero, List.getElem?_cons_succ, List.drop_succ_cons, List.drop_zero, List.take_succ_cons, List.take_zero, List.map_append, List.nil_append, List.cons_append, Nat.reduceShiftRight, Nat.reduceMod]
      refine ⟨hy, ⟨(y, x.tmod y), h2, t1, (gcd_tmod x y).trans h3⟩, t2, weakE _ ?_⟩
      simp only [vcV, vcD, Int.reduceEq, Int.reduceNe, Int.reduceLT, Int.reduceLE, Nat.reduceEqDiff, Nat.reduceAdd, reduceIte, reduceCtorEq, Nat.reduceLT, Nat.reduceLeDiff, eq_self, Option.bind_some, Option.map_some, List.map_cons, List.map_nil, List.length_cons, List.length_nil, Option.getD_some, Option.getD_none, List.all_cons, List.all_nil, List.set_cons_zero, List.set_cons_succ, List.replicate_succ, List.replicate_zero, List.getElem?_cons_zero, List.getElem?_cons_succ, List.drop_succ_cons, List.drop_zero, List.take_succ_cons, List.take_zero, List.map_append, List.nil_append, List.cons_append, Nat.reduceShiftRight, Nat.reduceMod]
    · have hy : y = 0 := by simpa using h
      subst hy
      unfold S63 at h1
      simp only [max_neg, vcV, vcD, Int.reduceEq, Int.reduceNe, Int.reduceLT, Int.reduceLE, Nat.reduceEqDiff, Nat.reduceAdd, reduceIte, reduceCtorEq, Nat.reduceLT, Nat.reduceLeDiff, eq_self, Option.bind_some, Option.map_some, List.map_cons, List.map_nil, List.length_cons, List.length_nil, Option.getD_some, Option.getD_none, List.all_cons, List.all_nil, List.set_cons_zero, List.set_cons_succ, List.replicate_succ, List.replicate_zero, List.getElem?_cons_zero, List.getElem?_cons_succ, List.drop_succ_cons, List.drop_zero, List.take_succ_cons, List.take_zero, List.map_append, List.nil_append, List.cons_append, Nat.reduceShiftRight, Nat.reduceMod]
      refine ⟨by (simp only [decide_eq_true_eq, decide_eq_false_iff_not, Bool.not_true, I64, Bool.not_eq_true', Bool.not_eq_false', bne_iff_ne, beq_iff_eq, ne_eq] at *; omega), ?_⟩
      rw [← h3]; simp [Int.gcd]

/-- Whole numbers by running. -/
noncomputable def runI (f : FuncId) (a : List Int) : Option Int := match (callX extC owC itC (lookC tabC) 100 40).v f (ints a) with
  | some (.int .i64 n) => some n
  | _ => none
theorem runI_s {f : FuncId} {a : List Int} {n : Int} (h : runI f a = some n) : Sound Try.prog f (ints a) (.int .i64 n) := by
  unfold runI at h
  split at h
  · rename_i m hm
    cases h
    exact (callX_sound extC_ok itC_ok tabC_ok 40).1 _ _ _ hm
  · cases h
theorem ways_run : ((List.range 3).all fun T => (List.range (T + 3)).all fun h => (List.range 11).all fun s => decide (runI 45 [((T + 1 : Nat) : Int), (h : Int), (s : Int)] = some (wy s (T + 1) h))) = true := by kernel_rfl
theorem exactly_run : ((List.range 3).all fun T => (List.range (T + 2)).all fun h => (List.range 11).all fun s => decide (runI 44 [((T + 1 : Nat) : Int), (h : Int), (s : Int)] = some (cnt s (T + 1) h))) = true := by kernel_rfl
theorem power_run : ((List.range 3).all fun T => decide (runI 85 [10, ((T + 1 : Nat) : Int)] = some (10 ^ (T + 1)))) = true := by kernel_rfl
theorem ways_s {T h s : Nat} (hT : 1 ≤ T ∧ T ≤ 3) (hh : h ≤ T + 1) (hs : s ≤ 10) : Sound Try.prog 45 [.int .i64 T, .int .i64 h, .int .i64 s] (.int .i64 (wy s T h)) := by
  obtain ⟨T', rfl⟩ : ∃ T', T = T' + 1 := ⟨T - 1, by omega⟩
  have h1 := List.all_eq_true.1 ways_run T' (List.mem_range.2 (by omega))
  have h2 := List.all_eq_true.1 h1 h (List.mem_range.2 (by omega))
  have h3 := List.all_eq_true.1 h2 s (List.mem_range.2 (by omega))
  exact runI_s (of_decide_eq_true h3)
theorem exactly_s {T h s : Nat} (hT : 1 ≤ T ∧ T ≤ 3) (hh : h ≤ T) (hs : s ≤ 10) : Sound Try.prog 44 [.int .i64 T, .int .i64 h, .int .i64 s] (.int .i64 (cnt s T h)) := by
  obtain ⟨T', rfl⟩ : ∃ T', T = T' + 1 := ⟨T - 1, by omega⟩
  have h1 := List.all_eq_true.1 exactly_run T' (List.mem_range.2 (by omega))
  have h2 := List.all_eq_true.1 h1 h (List.mem_range.2 (by omega))
  have h3 := List.all_eq_true.1 h2 s (List.mem_range.2 (by omega))
  exact runI_s (of_decide_eq_true h3)
theorem power_s {T : Nat} (hT : 1 ≤ T ∧ T ≤ 3) : Sound Try.prog 85 [.int .i64 10, .int .i64 T] (.int .i64 (10 ^ T)) := by
  obtain ⟨T', rfl⟩ : ∃ T', T = T' + 1 := ⟨T - 1, by omega⟩
  have h1 := List.all_eq_true.1 power_run T' (List.mem_range.2 (by omega))
  exact runI_s (of_decide_eq_true h1)
theorem wy_0 {s : Nat} (hs : s ≤ 10) (T : Nat) : wy s T 0 = 10 ^ T := by unfold wy; rw [cnt_all hs]; simp [sumN]
theorem wy_end (s T : Nat) : wy s T (T + 1) = 0 := by unfold wy; omega
theorem wy_bd {s : Nat} (hs : s ≤ 10) {T h : Nat} (hh : h ≤ T + 1) : 0 ≤ wy s T h ∧ wy s T h ≤ 10 ^ T := by
  unfold wy
  have h1 := sumN_mono_n (cnt_pos s T) (m := h) (T + 1) hh
  have h2 := sumN_mono_n (cnt_pos s T) (m := 0) h (Nat.zero_le _)
  rw [cnt_all hs] at *
  simp only [sumN] at h2
  omega
theorem pow_bd {T : Nat} (hT : 1 ≤ T ∧ T ≤ 3) : 10 ≤ (10 : Int) ^ T ∧ (10 : Int) ^ T ≤ 1000 := by
  rcases (by omega : T = 1 ∨ T = 2 ∨ T = 3) with rfl | rfl | rfl <;> decide

/-- The band of a share. -/
def cLo (s T : Nat) (r : Int) (lo : Nat) : Bool := decide (2000 * (10 ^ T - wy s T (lo + 1)) ≤ r * 10 ^ T)
def cHi (s T : Nat) (r : Int) (hi : Nat) : Bool := decide (2000 * wy s T hi ≤ r * 10 ^ T)
def upTo (c : Nat → Bool) : Nat → Nat → Nat
  | 0, lo => lo
  | f + 1, lo => if c lo then upTo c f (lo + 1) else lo
def downTo (c : Nat → Bool) : Nat → Nat
  | 0 => 0
  | f + 1 => if c (f + 1) then downTo c f else f + 1
def bLo (s T : Nat) (r : Int) : Nat := upTo (cLo s T r) T 0
def bHi (s T : Nat) (r : Int) : Nat := downTo (cHi s T r) T
theorem upTo_ok (c : Nat → Bool) : ∀ f lo, upTo c f lo ≤ lo + f ∧ (upTo c f lo = lo ∨ c (upTo c f lo - 1) = true)
  | 0, lo => ⟨Nat.le_refl _, .inl rfl⟩
  | f + 1, lo => by
    rw [upTo]
    split
    · rename_i h
      obtain ⟨h1, h2⟩ := upTo_ok c f (lo + 1)
      refine ⟨by omega, .inr ?_⟩
      rcases h2 with h2 | h2
      · rw [h2]; exact h
      · exact h2
    · exact ⟨by omega, .inl rfl⟩
theorem downTo_ok (c : Nat → Bool) : ∀ f, downTo c f ≤ f ∧ (downTo c f = f ∨ c (downTo c f + 1) = true)
  | 0 => ⟨Nat.le_refl _, .inl rfl⟩
  | f + 1 => by
    rw [downTo]
    split
    · rename_i h
      obtain ⟨h1, h2⟩ := downTo_ok c f
      refine ⟨by omega, .inr ?_⟩
      rcases h2 with h2 | h2
      · rw [h2]; exact h
      · exact h2
    · exact ⟨Nat.le_refl _, .inl rfl⟩
theorem bLo_ok {s T : Nat} {r : Int} (hs : s ≤ 10) (hr : 0 ≤ r) : bLo s T r ≤ T ∧ 2000 * (10 ^ T - wy s T (bLo s T r)) ≤ r * 10 ^ T := by
  obtain ⟨h1, h2⟩ := upTo_ok (cLo s T r) T 0
  have hp : (0 : Int) ≤ r * 10 ^ T := Int.mul_nonneg hr (Int.pow_nonneg (by omega))
  unfold bLo
  refine ⟨by omega, ?_⟩
  by_cases e : upTo (cLo s T r) T 0 = 0
  · rw [e, wy_0 hs]; omega
  · rcases h2 with h2 | h2
    · exact absurd h2 e
    · have := of_decide_eq_true h2
      rwa [show upTo (cLo s T r) T 0 - 1 + 1 = upTo (cLo s T r) T 0 by omega] at this
theorem bHi_ok {s T : Nat} {r : Int} (hr : 0 ≤ r) : bHi s T r ≤ T ∧ 2000 * wy s T (bHi s T r + 1) ≤ r * 10 ^ T := by
  obtain ⟨h1, h2⟩ := downTo_ok (cHi s T r) T
  have hp : (0 : Int) ≤ r * 10 ^ T := Int.mul_nonneg hr (Int.pow_nonneg (by omega))
  unfold bHi
  refine ⟨h1, ?_⟩
  rcases h2 with h2 | h2
  · rw [h2, wy_end]; omega
  · exact of_decide_eq_true h2
theorem band_s {s T : Nat} {r : Int} (hT : 1 ≤ T ∧ T ≤ 3) (hs : s ≤ 10) (hr : 0 ≤ r ∧ r ≤ 999) : Sound Try.prog 81 [.int .i64 T, .int .i64 s, .int .i64 r] (.agg [.int .i64 (bLo s T r), .int .i64 (bHi s T r)]) := by
  refine sound_W f_blind_band (Nat.le_of_ble_eq_true rfl) ?_
  have hA := pow_bd hT
  have hW : ∀ h, h ≤ T + 1 → Sound Try.prog 45 [.int .i64 T, .int .i64 h, .int .i64 s] (.int .i64 (wy s T h)) := fun h hh => ways_s hT hh hs
  have hB : ∀ h, h ≤ T + 1 → 0 ≤ wy s T h ∧ wy s T h ≤ 10 ^ T := fun h hh => wy_bd hs hh
  have h0 := wy_0 hs T
  have hE := wy_end s T
  have hP := power_s hT
  have hcl : ∀ lo, cLo s T r lo = decide (2000 * (10 ^ T - wy s T (lo + 1)) ≤ r * 10 ^ T) := fun _ => rfl
  have hch : ∀ hi, cHi s T r hi = decide (2000 * wy s T hi ≤ r * 10 ^ T) := fun _ => rfl
  unfold bLo bHi
  generalize (10 : Int) ^ T = A at *
  have hrA : 0 ≤ r * A ∧ r * A ≤ 999 * A := ⟨Int.mul_nonneg hr.1 (by omega), Int.mul_le_mul_of_nonneg_right hr.2 (by omega)⟩
  generalize hRA : r * A = R at *
  simp only [c_blind_band, vcV, vcD, Int.reduceEq, Int.reduceNe, Int.reduceLT, Int.reduceLE, Nat.reduceEqDiff, Nat.reduceAdd, reduceIte, reduceCtorEq, Nat.reduceLT, Nat.reduceLeDiff, eq_self, Option.bind_some, Option.map_some, List.map_cons, List.map_nil, List.length_cons, List.length_nil, Option.getD_some, Option.getD_none, List.all_cons, List.all_nil, List.set_cons_zero, List.set_cons_succ, List.replicate_succ, List.replicate_zero, List.getElem?_cons_zero, List.getElem?_cons_succ, List.drop_succ_cons, List.drop_zero, List.take_succ_cons, List.take_zero, List.map_append, List.nil_append, List.cons_append, Nat.reduceShiftRight, Nat.reduceMod]
  refine callS_of hP ?_
  simp only [vcV, vcD, Int.reduceEq, Int.reduceNe, Int.reduceLT, Int.reduceLE, Nat.reduceEqDiff, Nat.reduceAdd, reduceIte, reduceCtorEq, Nat.reduceLT, Nat.reduceLeDiff, eq_self, Option.bind_some, Option.map_some, List.map_cons, List.map_nil, List.length_cons, List.length_nil, Option.getD_some, Option.getD_none, List.all_cons, List.all_nil, List.set_cons_zero, List.set_cons_succ, List.replicate_succ, List.replicate_zero, List.getElem?_cons_zero, List.getElem?_cons_succ, List.drop_succ_cons, List.drop_zero, List.take_succ_cons, List.take_zero, List.map_append, List.nil_append, List.cons_append, Nat.reduceShiftRight, Nat.reduceMod]
  refine W_loop (t := .mk) (α := PSigma fun lo : Nat => lo ≤ T ∧ upTo (cLo s T r) (T - lo) lo = upTo (cLo s T r) T 0) (fun ⟨lo, _⟩ => (envOf [(0, .int .i64 T), (1, .int .i64 s), (2, .int .i64 r), (6, .ptr 6 0 0), (7, .int .i64 A), (8, .ptr 8 0 0)],
    stOf [(6, ⟨28, 2, [.agg [.int .i64 0, .int .i64 0]]⟩), (8, ⟨28, 2, [.agg [.int .i64 lo, .int .i64 T]]⟩)])) (fun p => T - p.1) ⟨0, Nat.zero_le _, by rw [Nat.sub_zero]⟩ ?_ (fun ⟨lo, hlo, hu⟩ => ?_)
  · refine weakX [] (of_decide_eq_true rfl) (of_decide_eq_true rfl) ?_
    (simp only [vcW, vcV, vcD, Int.reduceEq, Int.reduceNe, Int.reduceLT, Int.reduceLE, Nat.reduceEqDiff, Nat.reduceAdd, reduceIte, reduceCtorEq, Nat.reduceLT, Nat.reduceLeDiff, eq_self, Option.bind_some, Option.map_some, List.map_cons, List.map_nil, List.length_cons, List.length_nil, Option.getD_some, Option.getD_none, List.all_cons, List.all_nil, List.set_cons_zero, List.set_cons_succ, List.replicate_succ, List.replicate_zero, List.getElem?_cons_zero, List.getElem?_cons_succ, List.drop_succ_cons, List.drop_zero, List.take_succ_cons, List.take_zero, List.map_append, List.nil_append, List.cons_append, Nat.reduceShiftRight, Nat.reduceMod])
    (repeat' first | exact trivial | (with_reducible exact RnB.fxB (ints_fxB _)) | (with_reducible rfl) | (with_reducible refine And.intro ?_ ?_) | (with_reducible refine RnB.bb ?_; simp only [vcW, vcV, vcD, Int.reduceEq, Int.reduceNe, Int.reduceLT, Int.reduceLE, Nat.reduceEqDiff, Nat.reduceAdd, reduceIte, reduceCtorEq, Nat.reduceLT, Nat.reduceLeDiff, eq_self, Option.bind_some, Option.map_some, List.map_cons, List.map_nil, List.length_cons, List.length_nil, Option.getD_some, Option.getD_none, List.all_cons, List.all_nil, List.set_cons_zero, List.set_cons_succ, List.replicate_succ, List.replicate_zero, List.getElem?_cons_zero, List.getElem?_cons_succ, List.drop_succ_cons, List.drop_zero, List.take_succ_cons, List.take_zero, List.map_append, List.nil_append, List.cons_append, Nat.reduceShiftRight, Nat.reduceMod]) | (with_reducible refine RnB.nb ?_; simp only [vcW, vcV, vcD, Int.reduceEq, Int.reduceNe, Int.reduceLT, Int.reduceLE, Nat.reduceEqDiff, Nat.reduceAdd, reduceIte, reduceCtorEq, Nat.reduceLT, Nat.reduceLeDiff, eq_self, Option.bind_some, Option.map_some, List.map_cons, List.map_nil, List.length_cons, List.length_nil, Option.getD_some, Option.getD_none, List.all_cons, List.all_nil, List.set_cons_zero, List.set_cons_succ, List.replicate_succ, List.replicate_zero, List.getElem?_cons_zero, List.getElem?_cons_succ, List.drop_succ_cons, List.drop_zero, List.take_succ_cons, List.take_zero, List.map_append, List.nil_append, List.cons_append, Nat.reduceShiftRight, Nat.reduceMod]) | (with_reducible refine RnB.ii ?_) | (with_reducible refine RnB.app ?_) | (with_reducible refine RnB.fxB ?_; simp only [vcW, vcV, vcD, Int.reduceEq, Int.reduceNe, Int.reduceLT, Int.reduceLE, Nat.reduceEqDiff, Nat.reduceAdd, reduceIte, reduceCtorEq, Nat.reduceLT, Nat.reduceLeDiff, eq_self, Option.bind_some, Option.map_some, List.map_cons, List.map_nil, List.length_cons, List.length_nil, Option.getD_some, Option.getD_none, List.all_cons, List.all_nil, List.set_cons_zero, List.set_cons_succ, List.replicate_succ, List.replicate_zero, List.getElem?_cons_zero, List.getElem?_cons_succ, List.drop_succ_cons, List.drop_zero, List.take_succ_cons, List.take_zero, List.map_append, List.nil_append, List.cons_append, Nat.reduceShiftRight, Nat.reduceMod]) | omega)
    all_goals exact RnB.fxB rfl
  · dsimp only at hlo hu ⊢
    have b1 := hB (lo + 1) (by omega)
    have hc1 : (lo : Int) + 1 = ((lo + 1 : Nat) : Int) := by omega
    have hw1 := hW (lo + 1) (by omega)
    have hc := hcl lo
    by_cases hcc : 2000 * (A - wy s T (lo + 1)) ≤ R
    · have hne : lo < T := by
        by_cases e : lo = T
        · rw [e, hE] at hcc; omega
        · omega
      rw [decide_eq_true hcc] at hc
      rw [show T - lo = (T - (lo + 1)) + 1 by omega, upTo, if_pos hc] at hu
      simp only [vcV, vcD, Int.reduceEq, Int.reduceNe, Int.reduceLT, Int.reduceLE, Nat.reduceEqDiff, Nat.reduceAdd, reduceIte, reduceCtorEq, Nat.reduceLT, Nat.reduceLeDiff, eq_self, Option.bind_some, Option.map_some, List.map_cons, List.map_nil, List.length_cons, List.length_nil, Option.getD_some, Option.getD_none, List.all_cons, List.all_nil, List.set_cons_zero, List.set_cons_succ, List.replicate_succ, List.replicate_zero, List.getElem?_cons_zero, List.getElem?_cons_succ, List.drop_succ_cons, List.drop_zero, List.take_succ_cons, List.take_zero, List.map_append, List.nil_append, List.cons_append, Nat.reduceShiftRight, Nat.reduceMod]
      (repeat (with_reducible refine And.intro ?_ ?_; focus (first | omega | (unfold I64; omega))))
      simp only [hc1, vcV, vcD, Int.reduceEq, Int.reduceNe, Int.reduceLT, Int.reduceLE, Nat.reduceEqDiff, Nat.reduceAdd, reduceIte, reduceCtorEq, Nat.reduceLT, Nat.reduceLeDiff, eq_self, Option.bind_some, Option.map_some, List.map_cons, List.map_nil, List.length_cons, List.length_nil, Option.getD_some, Option.getD_none, List.all_cons, List.all_nil, List.set_cons_zero, List.set_cons_succ, List.replicate_succ, List.replicate_zero, List.getElem?_cons_zero, List.getElem?_cons_succ, List.drop_succ_cons, List.drop_zero, List.take_succ_cons, List.take_zero, List.map_append, List.nil_append, List.cons_append, Nat.reduceShiftRight, Nat.reduceMod]
      refine callS_of hw1 ?_
      simp only [hRA, vcV, vcD, Int.reduceEq, Int.reduceNe, Int.reduceLT, Int.reduceLE, Nat.reduceEqDiff, Nat.reduceAdd, reduceIte, reduceCtorEq, Nat.reduceLT, Nat.reduceLeDiff, eq_self, Option.bind_some, Option.map_some, List.map_cons, List.map_nil, List.length_cons, List.length_nil, Option.getD_some, Option.getD_none, List.all_cons, List.all_nil, List.set_cons_zero, List.set_cons_succ, List.replicate_succ, List.replicate_zero, List.getElem?_cons_zero, List.getElem?_cons_succ, List.drop_succ_cons, List.drop_zero, List.take_succ_cons, List.take_zero, List.map_append, List.nil_append, List.cons_append, Nat.reduceShiftRight, Nat.reduceMod]
      (repeat (with_reducible refine And.intro ?_ ?_; focus (first | omega | (unfold I64; omega))))
      simp only [hcc, hc1, vcV, vcD, Int.reduceEq, Int.reduceNe, Int.reduceLT, Int.reduceLE, Nat.reduceEqDiff, Nat.reduceAdd, reduceIte, reduceCtorEq, Nat.reduceLT, Nat.reduceLeDiff, eq_self, Option.bind_some, Option.map_some, List.map_cons, List.map_nil, List.length_cons, List.length_nil, Option.getD_some, Option.getD_none, List.all_cons, List.all_nil, List.set_cons_zero, List.set_cons_succ, List.replicate_succ, List.replicate_zero, List.getElem?_cons_zero, List.getElem?_cons_succ, List.drop_succ_cons, List.drop_zero, List.take_succ_cons, List.take_zero, List.map_append, List.nil_append, List.cons_append, Nat.reduceShiftRight, Nat.reduceMod]
      (repeat (with_reducible refine And.intro ?_ ?_; focus (first | omega | (unfold I64; omega))))
      refine ⟨⟨lo + 1, by omega, hu⟩, by simp only; omega, ?_⟩
      refine weakX [] (of_decide_eq_true rfl) (of_decide_eq_true rfl) ?_
      (simp only [vcW, vcV, vcD, Int.reduceEq, Int.reduceNe, Int.reduceLT, Int.reduceLE, Nat.reduceEqDiff, Nat.reduceAdd, reduceIte, reduceCtorEq, Nat.reduceLT, Nat.reduceLeDiff, eq_self, Option.bind_some, Option.map_some, List.map_cons, List.map_nil, List.length_cons, List.length_nil, Option.getD_some, Option.getD_none, List.all_cons, List.all_nil, List.set_cons_zero, List.set_cons_succ, List.replicate_succ, List.replicate_zero, List.getElem?_cons_zero, List.getElem?_cons_succ, List.drop_succ_cons, List.drop_zero, List.take_succ_cons, List.take_zero, List.map_append, List.nil_append, List.cons_append, Nat.reduceShiftRight, Nat.reduceMod])
      (repeat' first | exact trivial | (with_reducible exact RnB.fxB (ints_fxB _)) | (with_reducible rfl) | (with_reducible refine And.intro ?_ ?_) | (with_reducible refine RnB.bb ?_; simp only [vcW, vcV, vcD, Int.reduceEq, Int.reduceNe, Int.reduceLT, Int.reduceLE, Nat.reduceEqDiff, Nat.reduceAdd, reduceIte, reduceCtorEq, Nat.reduceLT, Nat.reduceLeDiff, eq_self, Option.bind_some, Option.map_some, List.map_cons, List.map_nil, List.length_cons, List.length_nil, Option.getD_some, Option.getD_none, List.all_cons, List.all_nil, List.set_cons_zero, List.set_cons_succ, List.replicate_succ, List.replicate_zero, List.getElem?_cons_zero, List.getElem?_cons_succ, List.drop_succ_cons, List.drop_zero, List.take_succ_cons, List.take_zero, List.map_append, List.nil_append, List.cons_append, Nat.reduceShiftRight, Nat.reduceMod]) | (with_reducible refine RnB.nb ?_; simp only [vcW, vcV, vcD, Int.reduceEq, Int.reduceNe, Int.reduceLT, Int.reduceLE, Nat.reduceEqDiff, Nat.reduceAdd, reduceIte, reduceCtorEq, Nat.reduceLT, Nat.reduceLeDiff, eq_self, Option.bind_some, Option.map_some, List.map_cons, List.map_nil, List.length_cons, List.length_nil, Option.getD_some, Option.getD_none, List.all_cons, List.all_nil, List.set_cons_zero, List.set_cons_succ, List.replicate_succ, List.replicate_zero, List.getElem?_cons_zero, List.getElem?_cons_succ, List.drop_succ_cons, List.drop_zero, List.take_succ_cons, List.take_zero, List.map_append, List.nil_append, List.cons_append, Nat.reduceShiftRight, Nat.reduceMod]) | (with_reducible refine RnB.ii ?_) | (with_reducible refine RnB.app ?_) | (with_reducible refine RnB.fxB ?_; simp only [vcW, vcV, vcD, Int.reduceEq, Int.reduceNe, Int.reduceLT, Int.reduceLE, Nat.reduceEqDiff, Nat.reduceAdd, reduceIte, reduceCtorEq, Nat.reduceLT, Nat.reduceLeDiff, eq_self, Option.bind_some, Option.map_some, List.map_cons, List.map_nil, List.length_cons, List.length_nil, Option.getD_some, Option.getD_none, List.all_cons, List.all_nil, List.set_cons_zero, List.set_cons_succ, List.replicate_succ, List.replicate_zero, List.getElem?_cons_zero, List.getElem?_cons_succ, List.drop_succ_cons, List.drop_zero, List.take_succ_cons, List.take_zero, List.map_append, List.nil_append, List.cons_append, Nat.reduceShiftRight, Nat.reduceMod]) | omega)
    · rw [decide_eq_false hcc] at hc
      have hlo' : upTo (cLo s T r) T 0 = lo := by
        rw [← hu]
        cases hf : T - lo with
        | zero => rfl
        | succ f => rw [upTo, if_neg (by rw [hc]; decide)]
      rw [hlo']
      simp only [vcV, vcD, Int.reduceEq, Int.reduceNe, Int.reduceLT, Int.reduceLE, Nat.reduceEqDiff, Nat.reduceAdd, reduceIte, reduceCtorEq, Nat.reduceLT, Nat.reduceLeDiff, eq_self, Option.bind_some, Option.map_some, List.map_cons, List.map_nil, List.length_cons, List.length_nil, Option.getD_some, Option.getD_none, List.all_cons, List.all_nil, List.set_cons_zero, List.set_cons_succ, List.replicate_succ, List.replicate_zero, List.getElem?_cons_zero, List.getElem?_cons_succ, List.drop_succ_cons, List.drop_zero, List.take_succ_cons, List.take_zero, List.map_append, List.nil_append, List.cons_append, Nat.reduceShiftRight, Nat.reduceMod]
      (repeat (with_reducible refine And.intro ?_ ?_; focus (first | omega | (unfold I64; omega))))
      simp only [hc1, vcV, vcD, Int.reduceEq, Int.reduceNe, Int.reduceLT, Int.reduceLE, Nat.reduceEqDiff, Nat.reduceAdd, reduceIte, reduceCtorEq, Nat.reduceLT, Nat.reduceLeDiff, eq_self, Option.bind_some, Option.map_some, List.map_cons, List.map_nil, List.length_cons, List.length_nil, Option.getD_some, Option.getD_none, List.all_cons, List.all_nil, List.set_cons_zero, List.set_cons_succ, List.replicate_succ, List.replicate_zero, List.getElem?_cons_zero, List.getElem?_cons_succ, List.drop_succ_cons, List.drop_zero, List.take_succ_cons, List.take_zero, List.map_append, List.nil_append, List.cons_append, Nat.reduceShiftRight, Nat.reduceMod]
      refine callS_of hw1 ?_
      simp only [hRA, vcV, vcD, Int.reduceEq, Int.reduceNe, Int.reduceLT, Int.reduceLE, Nat.reduceEqDiff, Nat.reduceAdd, reduceIte, reduceCtorEq, Nat.reduceLT, Nat.reduceLeDiff, eq_self, Option.bind_some, Option.map_some, List.map_cons, List.map_nil, List.length_cons, List.length_nil, Option.getD_some, Option.getD_none, List.all_cons, List.all_nil, List.set_cons_zero, List.set_cons_succ, List.replicate_succ, List.replicate_zero, List.getElem?_cons_zero, List.getElem?_cons_succ, List.drop_succ_cons, List.drop_zero, List.take_succ_cons, List.take_zero, List.map_append, List.nil_append, List.cons_append, Nat.reduceShiftRight, Nat.reduceMod]
      (repeat (with_reducible refine And.intro ?_ ?_; focus (first | omega | (unfold I64; omega))))
      simp only [hcc, vcV, vcD, Int.reduceEq, Int.reduceNe, Int.reduceLT, Int.reduceLE, Nat.reduceEqDiff, Nat.reduceAdd, reduceIte, reduceCtorEq, Nat.reduceLT, Nat.reduceLeDiff, eq_self, Option.bind_some, Option.map_some, List.map_cons, List.map_nil, List.length_cons, List.length_nil, Option.getD_some, Option.getD_none, List.all_cons, List.all_nil, List.set_cons_zero, List.set_cons_succ, List.replicate_succ, List.replicate_zero, List.getElem?_cons_zero, List.getElem?_cons_succ, List.drop_succ_cons, List.drop_zero, List.take_succ_cons, List.take_zero, List.map_append, List.nil_append, List.cons_append, Nat.reduceShiftRight, Nat.reduceMod]
      refine W_loop (t := .mk) (α := PSigma fun hi : Nat => hi ≤ T ∧ downTo (cHi s T r) hi = downTo (cHi s T r) T) (fun ⟨hi, _⟩ => (envOf [(0, .int .i64 T), (1, .int .i64 s), (2, .int .i64 r), (6, .ptr 6 0 0), (7, .int .i64 A), (8, .ptr 8 0 0)],
        stOf [(6, ⟨28, 2, [.agg [.int .i64 0, .int .i64 0]]⟩), (8, ⟨28, 2, [.agg [.int .i64 lo, .int .i64 hi]]⟩)])) (fun p => p.1) ⟨T, Nat.le_refl _, rfl⟩ ?_ (fun ⟨hi, hhi, hu2⟩ => ?_)
      · refine weakX [] (of_decide_eq_true rfl) (of_decide_eq_true rfl) ?_
        (simp only [vcW, vcV, vcD, Int.reduceEq, Int.reduceNe, Int.reduceLT, Int.reduceLE, Nat.reduceEqDiff, Nat.reduceAdd, reduceIte, reduceCtorEq, Nat.reduceLT, Nat.reduceLeDiff, eq_self, Option.bind_some, Option.map_some, List.map_cons, List.map_nil, List.length_cons, List.length_nil, Option.getD_some, Option.getD_none, List.all_cons, List.all_nil, List.set_cons_zero, List.set_cons_succ, List.replicate_succ, List.replicate_zero, List.getElem?_cons_zero, List.getElem?_cons_succ, List.drop_succ_cons, List.drop_zero, List.take_succ_cons, List.take_zero, List.map_append, List.nil_append, List.cons_append, Nat.reduceShiftRight, Nat.reduceMod])
        (repeat' first | exact trivial | (with_reducible exact RnB.fxB (ints_fxB _)) | (with_reducible rfl) | (with_reducible refine And.intro ?_ ?_) | (with_reducible refine RnB.bb ?_; simp only [vcW, vcV, vcD, Int.reduceEq, Int.reduceNe, Int.reduceLT, Int.reduceLE, Nat.reduceEqDiff, Nat.reduceAdd, reduceIte, reduceCtorEq, Nat.reduceLT, Nat.reduceLeDiff, eq_self, Option.bind_some, Option.map_some, List.map_cons, List.map_nil, List.length_cons, List.length_nil, Option.getD_some, Option.getD_none, List.all_cons, List.all_nil, List.set_cons_zero, List.set_cons_succ, List.replicate_succ, List.replicate_zero, List.getElem?_cons_zero, List.getElem?_cons_succ, List.drop_succ_cons, List.drop_zero, List.take_succ_cons, List.take_zero, List.map_append, List.nil_append, List.cons_append, Nat.reduceShiftRight, Nat.reduceMod]) | (with_reducible refine RnB.nb ?_; simp only [vcW, vcV, vcD, Int.reduceEq, Int.reduceNe, Int.reduceLT, Int.reduceLE, Nat.reduceEqDiff, Nat.reduceAdd, reduceIte, reduceCtorEq, Nat.reduceLT, Nat.reduceLeDiff, eq_self, Option.bind_some, Option.map_some, List.map_cons, List.map_nil, List.length_cons, List.length_nil, Option.getD_some, Option.getD_none, List.all_cons, List.all_nil, List.set_cons_zero, List.set_cons_succ, List.replicate_succ, List.replicate_zero, List.getElem?_cons_zero, List.getElem?_cons_succ, List.drop_succ_cons, List.drop_zero, List.take_succ_cons, List.take_zero, List.map_append, List.nil_append, List.cons_append, Nat.reduceShiftRight, Nat.reduceMod]) | (with_reducible refine RnB.ii ?_) | (with_reducible refine RnB.app ?_) | (with_reducible refine RnB.fxB ?_; simp only [vcW, vcV, vcD, Int.reduceEq, Int.reduceNe, Int.reduceLT, Int.reduceLE, Nat.reduceEqDiff, Nat.reduceAdd, reduceIte, reduceCtorEq, Nat.reduceLT, Nat.reduceLeDiff, eq_self, Option.bind_some, Option.map_some, List.map_cons, List.map_nil, List.length_cons, List.length_nil, Option.getD_some, Option.getD_none, List.all_cons, List.all_nil, List.set_cons_zero, List.set_cons_succ, List.replicate_succ, List.replicate_zero, List.getElem?_cons_zero, List.getElem?_cons_succ, List.drop_succ_cons, List.drop_zero, List.take_succ_cons, List.take_zero, List.map_append, List.nil_append, List.cons_append, Nat.reduceShiftRight, Nat.reduceMod]) | omega)
      · dsimp only at hhi hu2 ⊢
        have b2 := hB hi (by omega)
        have hw2 := hW hi (by omega)
        have hc2 := hch hi
        by_cases hcd : 2000 * wy s T hi ≤ R
        · obtain ⟨k, rfl⟩ : ∃ k, hi = k + 1 := ⟨hi - 1, by
            by_cases e : hi = 0
            · rw [e, h0] at hcd; omega
            · omega⟩
          rw [decide_eq_true hcd] at hc2
          rw [downTo, if_pos hc2] at hu2
          have hk1 : ((k + 1 : Nat) : Int) - 1 = (k : Int) := by omega
          simp only [vcV, vcD, Int.reduceEq, Int.reduceNe, Int.reduceLT, Int.reduceLE, Nat.reduceEqDiff, Nat.reduceAdd, reduceIte, reduceCtorEq, Nat.reduceLT, Nat.reduceLeDiff, eq_self, Option.bind_some, Option.map_some, List.map_cons, List.map_nil, List.length_cons, List.length_nil, Option.getD_some, Option.getD_none, List.all_cons, List.all_nil, List.set_cons_zero, List.set_cons_succ, List.replicate_succ, List.replicate_zero, List.getElem?_cons_zero, List.getElem?_cons_succ, List.drop_succ_cons, List.drop_zero, List.take_succ_cons, List.take_zero, List.map_append, List.nil_append, List.cons_append, Nat.reduceShiftRight, Nat.reduceMod]
          refine callS_of hw2 ?_
          simp only [hRA, vcV, vcD, Int.reduceEq, Int.reduceNe, Int.reduceLT, Int.reduceLE, Nat.reduceEqDiff, Nat.reduceAdd, reduceIte, reduceCtorEq, Nat.reduceLT, Nat.reduceLeDiff, eq_self, Option.bind_some, Option.map_some, List.map_cons, List.map_nil, List.length_cons, List.length_nil, Option.getD_some, Option.getD_none, List.all_cons, List.all_nil, List.set_cons_zero, List.set_cons_succ, List.replicate_succ, List.replicate_zero, List.getElem?_cons_zero, List.getElem?_cons_succ, List.drop_succ_cons, List.drop_zero, List.take_succ_cons, List.take_zero, List.map_append, List.nil_append, List.cons_append, Nat.reduceShiftRight, Nat.reduceMod]
          (repeat (with_reducible refine And.intro ?_ ?_; focus (first | omega | (unfold I64; omega))))
          simp only [hcd, hk1, vcV, vcD, Int.reduceEq, Int.reduceNe, Int.reduceLT, Int.reduceLE, Nat.reduceEqDiff, Nat.reduceAdd, reduceIte, reduceCtorEq, Nat.reduceLT, Nat.reduceLeDiff, eq_self, Option.bind_some, Option.map_some, List.map_cons, List.map_nil, List.length_cons, List.length_nil, Option.getD_some, Option.getD_none, List.all_cons, List.all_nil, List.set_cons_zero, List.set_cons_succ, List.replicate_succ, List.replicate_zero, List.getElem?_cons_zero, List.getElem?_cons_succ, List.drop_succ_cons, List.drop_zero, List.take_succ_cons, List.take_zero, List.map_append, List.nil_append, List.cons_append, Nat.reduceShiftRight, Nat.reduceMod]
          (repeat (with_reducible refine And.intro ?_ ?_; focus (first | omega | (unfold I64; omega))))
          refine ⟨⟨k, by omega, hu2⟩, by simp only; omega, ?_⟩
          refine weakX [] (of_decide_eq_true rfl) (of_decide_eq_true rfl) ?_
          (simp only [vcW, vcV, vcD, Int.reduceEq, Int.reduceNe, Int.reduceLT, Int.reduceLE, Nat.reduceEqDiff, Nat.reduceAdd, reduceIte, reduceCtorEq, Nat.reduceLT, Nat.reduceLeDiff, eq_self, Option.bind_some, Option.map_some, List.map_cons, List.map_nil, List.length_cons, List.length_nil, Option.getD_some, Option.getD_none, List.all_cons, List.all_nil, List.set_cons_zero, List.set_cons_succ, List.replicate_succ, List.replicate_zero, List.getElem?_cons_zero, List.getElem?_cons_succ, List.drop_succ_cons, List.drop_zero, List.take_succ_cons, List.take_zero, List.map_append, List.nil_append, List.cons_append, Nat.reduceShiftRight, Nat.reduceMod])
          (repeat' first | exact trivial | (with_reducible exact RnB.fxB (ints_fxB _)) | (with_reducible rfl) | (with_reducible refine And.intro ?_ ?_) | (with_reducible refine RnB.bb ?_; simp only [vcW, vcV, vcD, Int.reduceEq, Int.reduceNe, Int.reduceLT, Int.reduceLE, Nat.reduceEqDiff, Nat.reduceAdd, reduceIte, reduceCtorEq, Nat.reduceLT, Nat.reduceLeDiff, eq_self, Option.bind_some, Option.map_some, List.map_cons, List.map_nil, List.length_cons, List.length_nil, Option.getD_some, Option.getD_none, List.all_cons, List.all_nil, List.set_cons_zero, List.set_cons_succ, List.replicate_succ, List.replicate_zero, List.getElem?_cons_zero, List.getElem?_cons_succ, List.drop_succ_cons, List.drop_zero, List.take_succ_cons, List.take_zero, List.map_append, List.nil_append, List.cons_append, Nat.reduceShiftRight, Nat.reduceMod]) | (with_reducible refine RnB.nb ?_; simp only [vcW, vcV, vcD, Int.reduceEq, Int.reduceNe, Int.reduceLT, Int.reduceLE, Nat.reduceEqDiff, Nat.reduceAdd, reduceIte, reduceCtorEq, Nat.reduceLT, Nat.reduceLeDiff, eq_self, Option.bind_some, Option.map_some, List.map_cons, List.map_nil, List.length_cons, List.length_nil, Option.getD_some, Option.getD_none, List.all_cons, List.all_nil, List.set_cons_zero, List.set_cons_succ, List.replicate_succ, List.replicate_zero, List.getElem?_cons_zero, List.getElem?_cons_succ, List.drop_succ_cons, List.drop_zero, List.take_succ_cons, List.take_zero, List.map_append, List.nil_append, List.cons_append, Nat.reduceShiftRight, Nat.reduceMod]) | (with_reducible refine RnB.ii ?_) | (with_reducible refine RnB.app ?_) | (with_reducible refine RnB.fxB ?_; simp only [vcW, vcV, vcD, Int.reduceEq, Int.reduceNe, Int.reduceLT, Int.reduceLE, Nat.reduceEqDiff, Nat.reduceAdd, reduceIte, reduceCtorEq, Nat.reduceLT, Nat.reduceLeDiff, eq_self, Option.bind_some, Option.map_some, List.map_cons, List.map_nil, List.length_cons, List.length_nil, Option.getD_some, Option.getD_none, List.all_cons, List.all_nil, List.set_cons_zero, List.set_cons_succ, List.replicate_succ, List.replicate_zero, List.getElem?_cons_zero, List.getElem?_cons_succ, List.drop_succ_cons, List.drop_zero, List.take_succ_cons, List.take_zero, List.map_append, List.nil_append, List.cons_append, Nat.reduceShiftRight, Nat.reduceMod]) | omega)
        · rw [decide_eq_false hcd] at hc2
          have hhi' : downTo (cHi s T r) T = hi := by
            rw [← hu2]
            cases hi with
            | zero => rfl
            | succ f => rw [downTo, if_neg (by rw [hc2]; decide)]
          rw [hhi']
          simp only [vcV, vcD, Int.reduceEq, Int.reduceNe, Int.reduceLT, Int.reduceLE, Nat.reduceEqDiff, Nat.reduceAdd, reduceIte, reduceCtorEq, Nat.reduceLT, Nat.reduceLeDiff, eq_self, Option.bind_some, Option.map_some, List.map_cons, List.map_nil, List.length_cons, List.length_nil, Option.getD_some, Option.getD_none, List.all_cons, List.all_nil, List.set_cons_zero, List.set_cons_succ, List.replicate_succ, List.replicate_zero, List.getElem?_cons_zero, List.getElem?_cons_succ, List.drop_succ_cons, List.drop_zero, List.take_succ_cons, List.take_zero, List.map_append, List.nil_append, List.cons_append, Nat.reduceShiftRight, Nat.reduceMod]
          refine callS_of hw2 ?_
          simp only [hRA, vcV, vcD, Int.reduceEq, Int.reduceNe, Int.reduceLT, Int.reduceLE, Nat.reduceEqDiff, Nat.reduceAdd, reduceIte, reduceCtorEq, Nat.reduceLT, Nat.reduceLeDiff, eq_self, Option.bind_some, Option.map_some, List.map_cons, List.map_nil, List.length_cons, List.length_nil, Option.getD_some, Option.getD_none, List.all_cons, List.all_nil, List.set_cons_zero, List.set_cons_succ, List.replicate_succ, List.replicate_zero, List.getElem?_cons_zero, List.getElem?_cons_succ, List.drop_succ_cons, List.drop_zero, List.take_succ_cons, List.take_zero, List.map_append, List.nil_append, List.cons_append, Nat.reduceShiftRight, Nat.reduceMod]
          (repeat (with_reducible refine And.intro ?_ ?_; focus (first | omega | (unfold I64; omega))))
          simp only [hcd, vcV, vcD, Int.reduceEq, Int.reduceNe, Int.reduceLT, Int.reduceLE, Nat.reduceEqDiff, Nat.reduceAdd, reduceIte, reduceCtorEq, Nat.reduceLT, Nat.reduceLeDiff, eq_self, Option.bind_some, Option.map_some, List.map_cons, List.map_nil, List.length_cons, List.length_nil, Option.getD_some, Option.getD_none, List.all_cons, List.all_nil, List.set_cons_zero, List.set_cons_succ, List.replicate_succ, List.replicate_zero, List.getElem?_cons_zero, List.getElem?_cons_succ, List.drop_succ_cons, List.drop_zero, List.take_succ_cons, List.take_zero, List.map_append, List.nil_append, List.cons_append, Nat.reduceShiftRight, Nat.reduceMod]
end Go.Proofs.Ytngjhppgojfceaa

/- Contracts: limits, coverage, trials; the errors. By an AI agent; nothing here is trusted. -/
namespace Go.Proofs.Ytngjhppgojfceaa
open Go.Av

theorem trialsErr_s (n : Int) : Sound Try.prog 37 [.int .i64 n] (.int .i64 (if decide (1 ≤ n ∧ n ≤ 12) = true then 0 else 2)) := by
  refine sound_W f_blind_trialsErr (Nat.le_of_ble_eq_true rfl) ?_
  simp only [c_blind_trialsErr, vcV, vcD, Int.reduceEq, Int.reduceNe, Int.reduceLT, Int.reduceLE, Nat.reduceEqDiff, Nat.reduceAdd, reduceIte, reduceCtorEq, Nat.reduceLT, Nat.reduceLeDiff, eq_self, Option.bind_some, Option.map_some, List.map_cons, List.map_nil, List.length_cons, List.length_nil, Option.getD_some, Option.getD_none, List.all_cons, List.all_nil, List.set_cons_zero, List.set_cons_succ, List.replicate_succ, List.replicate_zero, List.getElem?_cons_zero, List.getElem?_cons_succ, List.drop_succ_cons, List.drop_zero, List.take_succ_cons, List.take_zero, List.map_append, List.nil_append, List.cons_append, Nat.reduceShiftRight, Nat.reduceMod]
  refine callS_of (within_s _ _ _) ?_
  simp only [vcV, vcD, Int.reduceEq, Int.reduceNe, Int.reduceLT, Int.reduceLE, Nat.reduceEqDiff, Nat.reduceAdd, reduceIte, reduceCtorEq, Nat.reduceLT, Nat.reduceLeDiff, eq_self, Option.bind_some, Option.map_some, List.map_cons, List.map_nil, List.length_cons, List.length_nil, Option.getD_some, Option.getD_none, List.all_cons, List.all_nil, List.set_cons_zero, List.set_cons_succ, List.replicate_succ, List.replicate_zero, List.getElem?_cons_zero, List.getElem?_cons_succ, List.drop_succ_cons, List.drop_zero, List.take_succ_cons, List.take_zero, List.map_append, List.nil_append, List.cons_append, Nat.reduceShiftRight, Nat.reduceMod]
  refine callS_of (unless_s _ _) ?_
  simp only [vcV, vcD, Int.reduceEq, Int.reduceNe, Int.reduceLT, Int.reduceLE, Nat.reduceEqDiff, Nat.reduceAdd, reduceIte, reduceCtorEq, Nat.reduceLT, Nat.reduceLeDiff, eq_self, Option.bind_some, Option.map_some, List.map_cons, List.map_nil, List.length_cons, List.length_nil, Option.getD_some, Option.getD_none, List.all_cons, List.all_nil, List.set_cons_zero, List.set_cons_succ, List.replicate_succ, List.replicate_zero, List.getElem?_cons_zero, List.getElem?_cons_succ, List.drop_succ_cons, List.drop_zero, List.take_succ_cons, List.take_zero, List.map_append, List.nil_append, List.cons_append, Nat.reduceShiftRight, Nat.reduceMod]
theorem hitsErr_s (t n : Int) : Sound Try.prog 38 [.int .i64 t, .int .i64 n] (.int .i64 (if decide (0 ≤ n ∧ n ≤ t) = true then 0 else 2)) := by
  refine sound_W f_blind_hitsErr (Nat.le_of_ble_eq_true rfl) ?_
  simp only [c_blind_hitsErr, vcV, vcD, Int.reduceEq, Int.reduceNe, Int.reduceLT, Int.reduceLE, Nat.reduceEqDiff, Nat.reduceAdd, reduceIte, reduceCtorEq, Nat.reduceLT, Nat.reduceLeDiff, eq_self, Option.bind_some, Option.map_some, List.map_cons, List.map_nil, List.length_cons, List.length_nil, Option.getD_some, Option.getD_none, List.all_cons, List.all_nil, List.set_cons_zero, List.set_cons_succ, List.replicate_succ, List.replicate_zero, List.getElem?_cons_zero, List.getElem?_cons_succ, List.drop_succ_cons, List.drop_zero, List.take_succ_cons, List.take_zero, List.map_append, List.nil_append, List.cons_append, Nat.reduceShiftRight, Nat.reduceMod]
  refine callS_of (within_s _ _ _) ?_
  simp only [vcV, vcD, Int.reduceEq, Int.reduceNe, Int.reduceLT, Int.reduceLE, Nat.reduceEqDiff, Nat.reduceAdd, reduceIte, reduceCtorEq, Nat.reduceLT, Nat.reduceLeDiff, eq_self, Option.bind_some, Option.map_some, List.map_cons, List.map_nil, List.length_cons, List.length_nil, Option.getD_some, Option.getD_none, List.all_cons, List.all_nil, List.set_cons_zero, List.set_cons_succ, List.replicate_succ, List.replicate_zero, List.getElem?_cons_zero, List.getElem?_cons_succ, List.drop_succ_cons, List.drop_zero, List.take_succ_cons, List.take_zero, List.map_append, List.nil_append, List.cons_append, Nat.reduceShiftRight, Nat.reduceMod]
  refine callS_of (unless_s _ _) ?_
  simp only [vcV, vcD, Int.reduceEq, Int.reduceNe, Int.reduceLT, Int.reduceLE, Nat.reduceEqDiff, Nat.reduceAdd, reduceIte, reduceCtorEq, Nat.reduceLT, Nat.reduceLeDiff, eq_self, Option.bind_some, Option.map_some, List.map_cons, List.map_nil, List.length_cons, List.length_nil, Option.getD_some, Option.getD_none, List.all_cons, List.all_nil, List.set_cons_zero, List.set_cons_succ, List.replicate_succ, List.replicate_zero, List.getElem?_cons_zero, List.getElem?_cons_succ, List.drop_succ_cons, List.drop_zero, List.take_succ_cons, List.take_zero, List.map_append, List.nil_append, List.cons_append, Nat.reduceShiftRight, Nat.reduceMod]
theorem riskErr_s (n : Int) : Sound Try.prog 39 [.int .i64 n] (.int .i64 (if decide (0 ≤ n ∧ n ≤ 999) = true then 0 else 2)) := by
  refine sound_W f_blind_riskErr (Nat.le_of_ble_eq_true rfl) ?_
  simp only [c_blind_riskErr, vcV, vcD, Int.reduceEq, Int.reduceNe, Int.reduceLT, Int.reduceLE, Nat.reduceEqDiff, Nat.reduceAdd, reduceIte, reduceCtorEq, Nat.reduceLT, Nat.reduceLeDiff, eq_self, Option.bind_some, Option.map_some, List.map_cons, List.map_nil, List.length_cons, List.length_nil, Option.getD_some, Option.getD_none, List.all_cons, List.all_nil, List.set_cons_zero, List.set_cons_succ, List.replicate_succ, List.replicate_zero, List.getElem?_cons_zero, List.getElem?_cons_succ, List.drop_succ_cons, List.drop_zero, List.take_succ_cons, List.take_zero, List.map_append, List.nil_append, List.cons_append, Nat.reduceShiftRight, Nat.reduceMod]
  refine callS_of (within_s _ _ _) ?_
  simp only [vcV, vcD, Int.reduceEq, Int.reduceNe, Int.reduceLT, Int.reduceLE, Nat.reduceEqDiff, Nat.reduceAdd, reduceIte, reduceCtorEq, Nat.reduceLT, Nat.reduceLeDiff, eq_self, Option.bind_some, Option.map_some, List.map_cons, List.map_nil, List.length_cons, List.length_nil, Option.getD_some, Option.getD_none, List.all_cons, List.all_nil, List.set_cons_zero, List.set_cons_succ, List.replicate_succ, List.replicate_zero, List.getElem?_cons_zero, List.getElem?_cons_succ, List.drop_succ_cons, List.drop_zero, List.take_succ_cons, List.take_zero, List.map_append, List.nil_append, List.cons_append, Nat.reduceShiftRight, Nat.reduceMod]
  refine callS_of (unless_s _ _) ?_
  simp only [vcV, vcD, Int.reduceEq, Int.reduceNe, Int.reduceLT, Int.reduceLE, Nat.reduceEqDiff, Nat.reduceAdd, reduceIte, reduceCtorEq, Nat.reduceLT, Nat.reduceLeDiff, eq_self, Option.bind_some, Option.map_some, List.map_cons, List.map_nil, List.length_cons, List.length_nil, Option.getD_some, Option.getD_none, List.all_cons, List.all_nil, List.set_cons_zero, List.set_cons_succ, List.replicate_succ, List.replicate_zero, List.getElem?_cons_zero, List.getElem?_cons_succ, List.drop_succ_cons, List.drop_zero, List.take_succ_cons, List.take_zero, List.map_append, List.nil_append, List.cons_append, Nat.reduceShiftRight, Nat.reduceMod]
theorem tenthsErr_s (n : Int) : Sound Try.prog 42 [.int .i64 n] (.int .i64 (if decide (0 ≤ n ∧ n ≤ 10) = true then 0 else 2)) := by
  refine sound_W f_blind_tenthsErr (Nat.le_of_ble_eq_true rfl) ?_
  simp only [c_blind_tenthsErr, vcV, vcD, Int.reduceEq, Int.reduceNe, Int.reduceLT, Int.reduceLE, Nat.reduceEqDiff, Nat.reduceAdd, reduceIte, reduceCtorEq, Nat.reduceLT, Nat.reduceLeDiff, eq_self, Option.bind_some, Option.map_some, List.map_cons, List.map_nil, List.length_cons, List.length_nil, Option.getD_some, Option.getD_none, List.all_cons, List.all_nil, List.set_cons_zero, List.set_cons_succ, List.replicate_succ, List.replicate_zero, List.getElem?_cons_zero, List.getElem?_cons_succ, List.drop_succ_cons, List.drop_zero, List.take_succ_cons, List.take_zero, List.map_append, List.nil_append, List.cons_append, Nat.reduceShiftRight, Nat.reduceMod]
  refine callS_of (within_s _ _ _) ?_
  simp only [vcV, vcD, Int.reduceEq, Int.reduceNe, Int.reduceLT, Int.reduceLE, Nat.reduceEqDiff, Nat.reduceAdd, reduceIte, reduceCtorEq, Nat.reduceLT, Nat.reduceLeDiff, eq_self, Option.bind_some, Option.map_some, List.map_cons, List.map_nil, List.length_cons, List.length_nil, Option.getD_some, Option.getD_none, List.all_cons, List.all_nil, List.set_cons_zero, List.set_cons_succ, List.replicate_succ, List.replicate_zero, List.getElem?_cons_zero, List.getElem?_cons_succ, List.drop_succ_cons, List.drop_zero, List.take_succ_cons, List.take_zero, List.map_append, List.nil_append, List.cons_append, Nat.reduceShiftRight, Nat.reduceMod]
  refine callS_of (unless_s _ _) ?_
  simp only [vcV, vcD, Int.reduceEq, Int.reduceNe, Int.reduceLT, Int.reduceLE, Nat.reduceEqDiff, Nat.reduceAdd, reduceIte, reduceCtorEq, Nat.reduceLT, Nat.reduceLeDiff, eq_self, Option.bind_some, Option.map_some, List.map_cons, List.map_nil, List.length_cons, List.length_nil, Option.getD_some, Option.getD_none, List.all_cons, List.all_nil, List.set_cons_zero, List.set_cons_succ, List.replicate_succ, List.replicate_zero, List.getElem?_cons_zero, List.getElem?_cons_succ, List.drop_succ_cons, List.drop_zero, List.take_succ_cons, List.take_zero, List.map_append, List.nil_append, List.cons_append, Nat.reduceShiftRight, Nat.reduceMod]
/-- The shares whose band holds so many hits. -/
def inB (T : Nat) (r : Int) (n s : Nat) : Bool := decide ((bLo s T r : Int) ≤ n ∧ (n : Int) ≤ bHi s T r)
def shs (T : Nat) (r : Int) (n : Nat) : Nat → List Int
  | 0 => []
  | k + 1 => if inB T r n k then shs T r n k ++ [(k : Int)] else shs T r n k
theorem shs_le (T : Nat) (r : Int) (n : Nat) : ∀ k, (shs T r n k).length ≤ k
  | 0 => Nat.le_refl _
  | k + 1 => by have := shs_le T r n k; rw [shs]; split <;> simp <;> omega
theorem shs_mem (T : Nat) (r : Int) (n s : Nat) : ∀ k, s < k → inB T r n s = true → (s : Int) ∈ shs T r n k
  | 0, h, _ => by omega
  | k + 1, h, hb => by
    rw [shs]
    by_cases e : s = k
    · subst e; rw [if_pos hb]; exact List.mem_append_right _ (by simp)
    · have := shs_mem T r n s k (by omega) hb
      split
      · exact List.mem_append_left _ this
      · exact this
def limA (T : Nat) (r : Int) (n : Nat) : List AV := if shs T r n 11 = [] then [.agg [.int .i64 0, .int .i64 0], .bool false] else [.agg [.int .i64 (mnL (shs T r n 11)), .int .i64 (mxL (shs T r n 11))], .bool true]
theorem limits_s {T n : Nat} {r : Int} (hT : 1 ≤ T ∧ T ≤ 3) (hn : n ≤ T) (hr : 0 ≤ r ∧ r ≤ 999) : Sound Try.prog 40 [.int .i64 T, .int .i64 n, .int .i64 r] (.tup (limA T r n)) := by
  refine sound_W f_blind_limits (Nat.le_of_ble_eq_true rfl) ?_
  have hmax := maxLen_big
  simp only [c_blind_limits, vcV, vcD, Int.reduceEq, Int.reduceNe, Int.reduceLT, Int.reduceLE, Nat.reduceEqDiff, Nat.reduceAdd, reduceIte, reduceCtorEq, Nat.reduceLT, Nat.reduceLeDiff, eq_self, Option.bind_some, Option.map_some, List.map_cons, List.map_nil, List.length_cons, List.length_nil, Option.getD_some, Option.getD_none, List.all_cons, List.all_nil, List.set_cons_zero, List.set_cons_succ, List.replicate_succ, List.replicate_zero, List.getElem?_cons_zero, List.getElem?_cons_succ, List.drop_succ_cons, List.drop_zero, List.take_succ_cons, List.take_zero, List.map_append, List.nil_append, List.cons_append, Nat.reduceShiftRight, Nat.reduceMod]
  refine W_loop (t := .mk) (α := PSigma fun i : Nat => i ≤ 11) (fun ⟨i, _⟩ => (envOf [(0, .int .i64 T), (1, .int .i64 n), (2, .int .i64 r), (6, .ptr 6 0 0), (8, .buf 100 (shs T r n i).length), (11, .int .i64 i)],
    stOf [(6, ⟨28, 2, [.agg [.int .i64 0, .int .i64 0]]⟩), (100, ⟨3, 1, ints (shs T r n i)⟩)])) (fun p => 11 - p.1) ⟨0, Nat.zero_le _⟩ ?_ (fun ⟨i, hi⟩ => ?_)
  · have z1 : ints (shs T r n 0) = [] := rfl
    have z2 : (shs T r n 0).length = 0 := rfl
    refine weakX [(100, none)] (of_decide_eq_true rfl) (of_decide_eq_true rfl) ?_
    (simp only [z1, z2, vcW, vcV, vcD, Int.reduceEq, Int.reduceNe, Int.reduceLT, Int.reduceLE, Nat.reduceEqDiff, Nat.reduceAdd, reduceIte, reduceCtorEq, Nat.reduceLT, Nat.reduceLeDiff, eq_self, Option.bind_some, Option.map_some, List.map_cons, List.map_nil, List.length_cons, List.length_nil, Option.getD_some, Option.getD_none, List.all_cons, List.all_nil, List.set_cons_zero, List.set_cons_succ, List.replicate_succ, List.replicate_zero, List.getElem?_cons_zero, List.getElem?_cons_succ, List.drop_succ_cons, List.drop_zero, List.take_succ_cons, List.take_zero, List.map_append, List.nil_append, List.cons_append, Nat.reduceShiftRight, Nat.reduceMod])
    (repeat' first | exact trivial | (with_reducible exact RnB.fxB (ints_fxB _)) | (with_reducible rfl) | (with_reducible refine And.intro ?_ ?_) | (with_reducible refine RnB.bb ?_; simp only [vcW, vcV, vcD, Int.reduceEq, Int.reduceNe, Int.reduceLT, Int.reduceLE, Nat.reduceEqDiff, Nat.reduceAdd, reduceIte, reduceCtorEq, Nat.reduceLT, Nat.reduceLeDiff, eq_self, Option.bind_some, Option.map_some, List.map_cons, List.map_nil, List.length_cons, List.length_nil, Option.getD_some, Option.getD_none, List.all_cons, List.all_nil, List.set_cons_zero, List.set_cons_succ, List.replicate_succ, List.replicate_zero, List.getElem?_cons_zero, List.getElem?_cons_succ, List.drop_succ_cons, List.drop_zero, List.take_succ_cons, List.take_zero, List.map_append, List.nil_append, List.cons_append, Nat.reduceShiftRight, Nat.reduceMod]) | (with_reducible refine RnB.nb ?_; simp only [vcW, vcV, vcD, Int.reduceEq, Int.reduceNe, Int.reduceLT, Int.reduceLE, Nat.reduceEqDiff, Nat.reduceAdd, reduceIte, reduceCtorEq, Nat.reduceLT, Nat.reduceLeDiff, eq_self, Option.bind_some, Option.map_some, List.map_cons, List.map_nil, List.length_cons, List.length_nil, Option.getD_some, Option.getD_none, List.all_cons, List.all_nil, List.set_cons_zero, List.set_cons_succ, List.replicate_succ, List.replicate_zero, List.getElem?_cons_zero, List.getElem?_cons_succ, List.drop_succ_cons, List.drop_zero, List.take_succ_cons, List.take_zero, List.map_append, List.nil_append, List.cons_append, Nat.reduceShiftRight, Nat.reduceMod]) | (with_reducible refine RnB.ii ?_) | (with_reducible refine RnB.app ?_) | (with_reducible refine RnB.fxB ?_; simp only [vcW, vcV, vcD, Int.reduceEq, Int.reduceNe, Int.reduceLT, Int.reduceLE, Nat.reduceEqDiff, Nat.reduceAdd, reduceIte, reduceCtorEq, Nat.reduceLT, Nat.reduceLeDiff, eq_self, Option.bind_some, Option.map_some, List.map_cons, List.map_nil, List.length_cons, List.length_nil, Option.getD_some, Option.getD_none, List.all_cons, List.all_nil, List.set_cons_zero, List.set_cons_succ, List.replicate_succ, List.replicate_zero, List.getElem?_cons_zero, List.getElem?_cons_succ, List.drop_succ_cons, List.drop_zero, List.take_succ_cons, List.take_zero, List.map_append, List.nil_append, List.cons_append, Nat.reduceShiftRight, Nat.reduceMod]) | omega)
  · dsimp only at hi ⊢
    by_cases h' : i < 11
    · have h5 : (i : Int) < 11 := by omega
      have hB := band_s (s := i) hT (by omega) hr
      have hs : shs T r n (i + 1) = if inB T r n i then shs T r n i ++ [(i : Int)] else shs T r n i := rfl
      have hle := shs_le T r n i
      have hib : inB T r n i = decide ((bLo i T r : Int) ≤ n ∧ (n : Int) ≤ bHi i T r) := rfl
      generalize shs T r n i = l at *
      have hia : ints (l ++ [(i : Int)]) = ints l ++ [.int .i64 i] := ints_append _ _
      simp only [h5, vcV, vcD, Int.reduceEq, Int.reduceNe, Int.reduceLT, Int.reduceLE, Nat.reduceEqDiff, Nat.reduceAdd, reduceIte, reduceCtorEq, Nat.reduceLT, Nat.reduceLeDiff, eq_self, Option.bind_some, Option.map_some, List.map_cons, List.map_nil, List.length_cons, List.length_nil, Option.getD_some, Option.getD_none, List.all_cons, List.all_nil, List.set_cons_zero, List.set_cons_succ, List.replicate_succ, List.replicate_zero, List.getElem?_cons_zero, List.getElem?_cons_succ, List.drop_succ_cons, List.drop_zero, List.take_succ_cons, List.take_zero, List.map_append, List.nil_append, List.cons_append, Nat.reduceShiftRight, Nat.reduceMod]
      refine callS_of hB ?_
      simp only [vcV, vcD, Int.reduceEq, Int.reduceNe, Int.reduceLT, Int.reduceLE, Nat.reduceEqDiff, Nat.reduceAdd, reduceIte, reduceCtorEq, Nat.reduceLT, Nat.reduceLeDiff, eq_self, Option.bind_some, Option.map_some, List.map_cons, List.map_nil, List.length_cons, List.length_nil, Option.getD_some, Option.getD_none, List.all_cons, List.all_nil, List.set_cons_zero, List.set_cons_succ, List.replicate_succ, List.replicate_zero, List.getElem?_cons_zero, List.getElem?_cons_succ, List.drop_succ_cons, List.drop_zero, List.take_succ_cons, List.take_zero, List.map_append, List.nil_append, List.cons_append, Nat.reduceShiftRight, Nat.reduceMod]
      refine callS_of (within_s _ _ _) ?_
      by_cases hw : (bLo i T r : Int) ≤ n ∧ (n : Int) ≤ bHi i T r
      · rw [hib, decide_eq_true hw, if_pos rfl] at hs
        simp only [hw, ints_length, vcV, vcD, Int.reduceEq, Int.reduceNe, Int.reduceLT, Int.reduceLE, Nat.reduceEqDiff, Nat.reduceAdd, reduceIte, reduceCtorEq, Nat.reduceLT, Nat.reduceLeDiff, eq_self, Option.bind_some, Option.map_some, List.map_cons, List.map_nil, List.length_cons, List.length_nil, Option.getD_some, Option.getD_none, List.all_cons, List.all_nil, List.set_cons_zero, List.set_cons_succ, List.replicate_succ, List.replicate_zero, List.getElem?_cons_zero, List.getElem?_cons_succ, List.drop_succ_cons, List.drop_zero, List.take_succ_cons, List.take_zero, List.map_append, List.nil_append, List.cons_append, Nat.reduceShiftRight, Nat.reduceMod]
        (repeat (with_reducible refine And.intro ?_ ?_; focus (first | omega | (unfold I64; omega))))
        refine ⟨⟨i + 1, h'⟩, by simp only; omega, ?_⟩
        refine weakX [(100, some 27)] (of_decide_eq_true rfl) (of_decide_eq_true rfl) ?_
        (simp only [hs, hia, List.length_append, ints_length, vcW, vcV, vcD, Int.reduceEq, Int.reduceNe, Int.reduceLT, Int.reduceLE, Nat.reduceEqDiff, Nat.reduceAdd, reduceIte, reduceCtorEq, Nat.reduceLT, Nat.reduceLeDiff, eq_self, Option.bind_some, Option.map_some, List.map_cons, List.map_nil, List.length_cons, List.length_nil, Option.getD_some, Option.getD_none, List.all_cons, List.all_nil, List.set_cons_zero, List.set_cons_succ, List.replicate_succ, List.replicate_zero, List.getElem?_cons_zero, List.getElem?_cons_succ, List.drop_succ_cons, List.drop_zero, List.take_succ_cons, List.take_zero, List.map_append, List.nil_append, List.cons_append, Nat.reduceShiftRight, Nat.reduceMod])
        (repeat' first | exact trivial | (with_reducible exact RnB.fxB (ints_fxB _)) | (with_reducible rfl) | (with_reducible refine And.intro ?_ ?_) | (with_reducible refine RnB.bb ?_; simp only [vcW, vcV, vcD, Int.reduceEq, Int.reduceNe, Int.reduceLT, Int.reduceLE, Nat.reduceEqDiff, Nat.reduceAdd, reduceIte, reduceCtorEq, Nat.reduceLT, Nat.reduceLeDiff, eq_self, Option.bind_some, Option.map_some, List.map_cons, List.map_nil, List.length_cons, List.length_nil, Option.getD_some, Option.getD_none, List.all_cons, List.all_nil, List.set_cons_zero, List.set_cons_succ, List.replicate_succ, List.replicate_zero, List.getElem?_cons_zero, List.getElem?_cons_succ, List.drop_succ_cons, List.drop_zero, List.take_succ_cons, List.take_zero, List.map_append, List.nil_append, List.cons_append, Nat.reduceShiftRight, Nat.reduceMod]) | (with_reducible refine RnB.nb ?_; simp only [vcW, vcV, vcD, Int.reduceEq, Int.reduceNe, Int.reduceLT, Int.reduceLE, Nat.reduceEqDiff, Nat.reduceAdd, reduceIte, reduceCtorEq, Nat.reduceLT, Nat.reduceLeDiff, eq_self, Option.bind_some, Option.map_some, List.map_cons, List.map_nil, List.length_cons, List.length_nil, Option.getD_some, Option.getD_none, List.all_cons, List.all_nil, List.set_cons_zero, List.set_cons_succ, List.replicate_succ, List.replicate_zero, List.getElem?_cons_zero, List.getElem?_cons_succ, List.drop_succ_cons, List.drop_zero, List.take_succ_cons, List.take_zero, List.map_append, List.nil_append, List.cons_append, Nat.reduceShiftRight, Nat.reduceMod]) | (with_reducible refine RnB.ii ?_) | (with_reducible refine RnB.app ?_) | (with_reducible refine RnB.fxB ?_; simp only [vcW, vcV, vcD, Int.reduceEq, Int.reduceNe, Int.reduceLT, Int.reduceLE, Nat.reduceEqDiff, Nat.reduceAdd, reduceIte, reduceCtorEq, Nat.reduceLT, Nat.reduceLeDiff, eq_self, Option.bind_some, Option.map_some, List.map_cons, List.map_nil, List.length_cons, List.length_nil, Option.getD_some, Option.getD_none, List.all_cons, List.all_nil, List.set_cons_zero, List.set_cons_succ, List.replicate_succ, List.replicate_zero, List.getElem?_cons_zero, List.getElem?_cons_succ, List.drop_succ_cons, List.drop_zero, List.take_succ_cons, List.take_zero, List.map_append, List.nil_append, List.cons_append, Nat.reduceShiftRight, Nat.reduceMod]) | omega)
        all_goals first | exact hia.symm | exact RnB.fxB (by rw [← hia]; exact ints_fxB _) | skip
      · rw [hib, decide_eq_false hw, if_neg (by decide)] at hs
        simp only [hw, vcV, vcD, Int.reduceEq, Int.reduceNe, Int.reduceLT, Int.reduceLE, Nat.reduceEqDiff, Nat.reduceAdd, reduceIte, reduceCtorEq, Nat.reduceLT, Nat.reduceLeDiff, eq_self, Option.bind_some, Option.map_some, List.map_cons, List.map_nil, List.length_cons, List.length_nil, Option.getD_some, Option.getD_none, List.all_cons, List.all_nil, List.set_cons_zero, List.set_cons_succ, List.replicate_succ, List.replicate_zero, List.getElem?_cons_zero, List.getElem?_cons_succ, List.drop_succ_cons, List.drop_zero, List.take_succ_cons, List.take_zero, List.map_append, List.nil_append, List.cons_append, Nat.reduceShiftRight, Nat.reduceMod]
        (repeat (with_reducible refine And.intro ?_ ?_; focus (first | omega | (unfold I64; omega))))
        refine ⟨⟨i + 1, h'⟩, by simp only; omega, ?_⟩
        refine weakX [] (of_decide_eq_true rfl) (of_decide_eq_true rfl) ?_
        (simp only [hs, vcW, vcV, vcD, Int.reduceEq, Int.reduceNe, Int.reduceLT, Int.reduceLE, Nat.reduceEqDiff, Nat.reduceAdd, reduceIte, reduceCtorEq, Nat.reduceLT, Nat.reduceLeDiff, eq_self, Option.bind_some, Option.map_some, List.map_cons, List.map_nil, List.length_cons, List.length_nil, Option.getD_some, Option.getD_none, List.all_cons, List.all_nil, List.set_cons_zero, List.set_cons_succ, List.replicate_succ, List.replicate_zero, List.getElem?_cons_zero, List.getElem?_cons_succ, List.drop_succ_cons, List.drop_zero, List.take_succ_cons, List.take_zero, List.map_append, List.nil_append, List.cons_append, Nat.reduceShiftRight, Nat.reduceMod])
        (repeat' first | exact trivial | (with_reducible exact RnB.fxB (ints_fxB _)) | (with_reducible rfl) | (with_reducible refine And.intro ?_ ?_) | (with_reducible refine RnB.bb ?_; simp only [vcW, vcV, vcD, Int.reduceEq, Int.reduceNe, Int.reduceLT, Int.reduceLE, Nat.reduceEqDiff, Nat.reduceAdd, reduceIte, reduceCtorEq, Nat.reduceLT, Nat.reduceLeDiff, eq_self, Option.bind_some, Option.map_some, List.map_cons, List.map_nil, List.length_cons, List.length_nil, Option.getD_some, Option.getD_none, List.all_cons, List.all_nil, List.set_cons_zero, List.set_cons_succ, List.replicate_succ, List.replicate_zero, List.getElem?_cons_zero, List.getElem?_cons_succ, List.drop_succ_cons, List.drop_zero, List.take_succ_cons, List.take_zero, List.map_append, List.nil_append, List.cons_append, Nat.reduceShiftRight, Nat.reduceMod]) | (with_reducible refine RnB.nb ?_; simp only [vcW, vcV, vcD, Int.reduceEq, Int.reduceNe, Int.reduceLT, Int.reduceLE, Nat.reduceEqDiff, Nat.reduceAdd, reduceIte, reduceCtorEq, Nat.reduceLT, Nat.reduceLeDiff, eq_self, Option.bind_some, Option.map_some, List.map_cons, List.map_nil, List.length_cons, List.length_nil, Option.getD_some, Option.getD_none, List.all_cons, List.all_nil, List.set_cons_zero, List.set_cons_succ, List.replicate_succ, List.replicate_zero, List.getElem?_cons_zero, List.getElem?_cons_succ, List.drop_succ_cons, List.drop_zero, List.take_succ_cons, List.take_zero, List.map_append, List.nil_append, List.cons_append, Nat.reduceShiftRight, Nat.reduceMod]) | (with_reducible refine RnB.ii ?_) | (with_reducible refine RnB.app ?_) | (with_reducible refine RnB.fxB ?_; simp only [vcW, vcV, vcD, Int.reduceEq, Int.reduceNe, Int.reduceLT, Int.reduceLE, Nat.reduceEqDiff, Nat.reduceAdd, reduceIte, reduceCtorEq, Nat.reduceLT, Nat.reduceLeDiff, eq_self, Option.bind_some, Option.map_some, List.map_cons, List.map_nil, List.length_cons, List.length_nil, Option.getD_some, Option.getD_none, List.all_cons, List.all_nil, List.set_cons_zero, List.set_cons_succ, List.replicate_succ, List.replicate_zero, List.getElem?_cons_zero, List.getElem?_cons_succ, List.drop_succ_cons, List.drop_zero, List.take_succ_cons, List.take_zero, List.map_append, List.nil_append, List.cons_append, Nat.reduceShiftRight, Nat.reduceMod]) | omega)
    · have h5 : ¬ (i : Int) < 11 := by omega
      have hin : i = 11 := by omega
      subst hin
      have hle := shs_le T r n 11
      unfold limA
      generalize shs T r n 11 = l at *
      have hbor : ∀ (s : Store) (n ty : Nat), borB s (n + 1) l.length (some (some ⟨ty, 1, ints l⟩)) = .sl (ints l) := fun s n ty => borB_good _ _ _ _ _ (by rw [ints_length]) (ints_fx _)
      by_cases hl : l = []
      · have z : ((0 : Nat) : Int) = 0 := rfl
        subst hl
        simp only [h5, z, vcV, vcD, Int.reduceEq, Int.reduceNe, Int.reduceLT, Int.reduceLE, Nat.reduceEqDiff, Nat.reduceAdd, reduceIte, reduceCtorEq, Nat.reduceLT, Nat.reduceLeDiff, eq_self, Option.bind_some, Option.map_some, List.map_cons, List.map_nil, List.length_cons, List.length_nil, Option.getD_some, Option.getD_none, List.all_cons, List.all_nil, List.set_cons_zero, List.set_cons_succ, List.replicate_succ, List.replicate_zero, List.getElem?_cons_zero, List.getElem?_cons_succ, List.drop_succ_cons, List.drop_zero, List.take_succ_cons, List.take_zero, List.map_append, List.nil_append, List.cons_append, Nat.reduceShiftRight, Nat.reduceMod]
      · have hpos : 0 < l.length := List.length_pos_iff.2 hl
        have hne : ¬ (l.length : Int) = 0 := by omega
        rw [if_neg hl]
        simp only [h5, hne, hbor, vcV, vcD, Int.reduceEq, Int.reduceNe, Int.reduceLT, Int.reduceLE, Nat.reduceEqDiff, Nat.reduceAdd, reduceIte, reduceCtorEq, Nat.reduceLT, Nat.reduceLeDiff, eq_self, Option.bind_some, Option.map_some, List.map_cons, List.map_nil, List.length_cons, List.length_nil, Option.getD_some, Option.getD_none, List.all_cons, List.all_nil, List.set_cons_zero, List.set_cons_succ, List.replicate_succ, List.replicate_zero, List.getElem?_cons_zero, List.getElem?_cons_succ, List.drop_succ_cons, List.drop_zero, List.take_succ_cons, List.take_zero, List.map_append, List.nil_append, List.cons_append, Nat.reduceShiftRight, Nat.reduceMod]
        refine callS_of (Min_s l hpos (by omega)) ?_
        simp only [hbor, vcV, vcD, Int.reduceEq, Int.reduceNe, Int.reduceLT, Int.reduceLE, Nat.reduceEqDiff, Nat.reduceAdd, reduceIte, reduceCtorEq, Nat.reduceLT, Nat.reduceLeDiff, eq_self, Option.bind_some, Option.map_some, List.map_cons, List.map_nil, List.length_cons, List.length_nil, Option.getD_some, Option.getD_none, List.all_cons, List.all_nil, List.set_cons_zero, List.set_cons_succ, List.replicate_succ, List.replicate_zero, List.getElem?_cons_zero, List.getElem?_cons_succ, List.drop_succ_cons, List.drop_zero, List.take_succ_cons, List.take_zero, List.map_append, List.nil_append, List.cons_append, Nat.reduceShiftRight, Nat.reduceMod]
        refine callS_of (Max_s l hpos (by omega)) ?_
        simp only [vcV, vcD, Int.reduceEq, Int.reduceNe, Int.reduceLT, Int.reduceLE, Nat.reduceEqDiff, Nat.reduceAdd, reduceIte, reduceCtorEq, Nat.reduceLT, Nat.reduceLeDiff, eq_self, Option.bind_some, Option.map_some, List.map_cons, List.map_nil, List.length_cons, List.length_nil, Option.getD_some, Option.getD_none, List.all_cons, List.all_nil, List.set_cons_zero, List.set_cons_succ, List.replicate_succ, List.replicate_zero, List.getElem?_cons_zero, List.getElem?_cons_succ, List.drop_succ_cons, List.drop_zero, List.take_succ_cons, List.take_zero, List.map_append, List.nil_append, List.cons_append, Nat.reduceShiftRight, Nat.reduceMod]
theorem mx_ge (l : List Int) (x : Int) (hx : x ∈ l) : x ≤ mxL l := by
  have key : ∀ (l : List Int) (a : Int), a ≤ l.foldl max a ∧ ∀ x ∈ l, x ≤ l.foldl max a := by
    intro l
    induction l with
    | nil => intro a; exact ⟨Int.le_refl _, fun x hx => by cases hx⟩
    | cons y l ih =>
      intro a
      obtain ⟨h1, h2⟩ := ih (max a y)
      simp only [List.foldl_cons]
      refine ⟨by omega, fun x hx => ?_⟩
      rcases List.mem_cons.1 hx with e | e
      · rw [e]; omega
      · exact h2 x e
  unfold mxL mxTo
  rw [List.take_length]
  exact (key l _).2 x hx
theorem mn_le (l : List Int) (x : Int) (hx : x ∈ l) : mnL l ≤ x := by
  have key : ∀ (l : List Int) (a : Int), l.foldl min a ≤ a ∧ ∀ x ∈ l, l.foldl min a ≤ x := by
    intro l
    induction l with
    | nil => intro a; exact ⟨Int.le_refl _, fun x hx => by cases hx⟩
    | cons y l ih =>
      intro a
      obtain ⟨h1, h2⟩ := ih (min a y)
      simp only [List.foldl_cons]
      refine ⟨by omega, fun x hx => ?_⟩
      rcases List.mem_cons.1 hx with e | e
      · rw [e]; omega
      · exact h2 x e
  unfold mnL mnTo
  rw [List.take_length]
  exact (key l _).2 x hx
theorem LimitsFor_s {T n : Nat} {r : Int} (hT : 1 ≤ T ∧ T ≤ 3) (hn : n ≤ T) (hr : 0 ≤ r ∧ r ≤ 999) : Sound Try.prog 11 [.int .i64 T, .int .i64 n, .int .i64 r]
    (.tup (if shs T r n 11 = [] then [.agg [.int .i64 0, .int .i64 0], .int .i64 12] else [.agg [.int .i64 (mnL (shs T r n 11)), .int .i64 (mxL (shs T r n 11))], .int .i64 0])) := by
  refine sound_W f_blind_LimitsFor (Nat.le_of_ble_eq_true rfl) ?_
  have hL := limits_s hT hn hr
  unfold limA at hL
  have w1 : 1 ≤ (T : Int) ∧ (T : Int) ≤ 12 := by omega
  have w2 : 0 ≤ (n : Int) ∧ (n : Int) ≤ T := by omega
  have e1 := trialsErr_s T
  have e2 := hitsErr_s T n
  have e3 := riskErr_s r
  rw [decide_eq_true w1, if_pos rfl] at e1
  rw [decide_eq_true w2, if_pos rfl] at e2
  rw [decide_eq_true hr, if_pos rfl] at e3
  simp only [c_blind_LimitsFor, vcV, vcD, Int.reduceEq, Int.reduceNe, Int.reduceLT, Int.reduceLE, Nat.reduceEqDiff, Nat.reduceAdd, reduceIte, reduceCtorEq, Nat.reduceLT, Nat.reduceLeDiff, eq_self, Option.bind_some, Option.map_some, List.map_cons, List.map_nil, List.length_cons, List.length_nil, Option.getD_some, Option.getD_none, List.all_cons, List.all_nil, List.set_cons_zero, List.set_cons_succ, List.replicate_succ, List.replicate_zero, List.getElem?_cons_zero, List.getElem?_cons_succ, List.drop_succ_cons, List.drop_zero, List.take_succ_cons, List.take_zero, List.map_append, List.nil_append, List.cons_append, Nat.reduceShiftRight, Nat.reduceMod]
  refine callS_of e1 ?_
  simp only [vcV, vcD, Int.reduceEq, Int.reduceNe, Int.reduceLT, Int.reduceLE, Nat.reduceEqDiff, Nat.reduceAdd, reduceIte, reduceCtorEq, Nat.reduceLT, Nat.reduceLeDiff, eq_self, Option.bind_some, Option.map_some, List.map_cons, List.map_nil, List.length_cons, List.length_nil, Option.getD_some, Option.getD_none, List.all_cons, List.all_nil, List.set_cons_zero, List.set_cons_succ, List.replicate_succ, List.replicate_zero, List.getElem?_cons_zero, List.getElem?_cons_succ, List.drop_succ_cons, List.drop_zero, List.take_succ_cons, List.take_zero, List.map_append, List.nil_append, List.cons_append, Nat.reduceShiftRight, Nat.reduceMod]
  refine callS_of e2 ?_
  simp only [vcV, vcD, Int.reduceEq, Int.reduceNe, Int.reduceLT, Int.reduceLE, Nat.reduceEqDiff, Nat.reduceAdd, reduceIte, reduceCtorEq, Nat.reduceLT, Nat.reduceLeDiff, eq_self, Option.bind_some, Option.map_some, List.map_cons, List.map_nil, List.length_cons, List.length_nil, Option.getD_some, Option.getD_none, List.all_cons, List.all_nil, List.set_cons_zero, List.set_cons_succ, List.replicate_succ, List.replicate_zero, List.getElem?_cons_zero, List.getElem?_cons_succ, List.drop_succ_cons, List.drop_zero, List.take_succ_cons, List.take_zero, List.map_append, List.nil_append, List.cons_append, Nat.reduceShiftRight, Nat.reduceMod]
  refine callS_of e3 ?_
  simp only [vcV, vcD, Int.reduceEq, Int.reduceNe, Int.reduceLT, Int.reduceLE, Nat.reduceEqDiff, Nat.reduceAdd, reduceIte, reduceCtorEq, Nat.reduceLT, Nat.reduceLeDiff, eq_self, Option.bind_some, Option.map_some, List.map_cons, List.map_nil, List.length_cons, List.length_nil, Option.getD_some, Option.getD_none, List.all_cons, List.all_nil, List.set_cons_zero, List.set_cons_succ, List.replicate_succ, List.replicate_zero, List.getElem?_cons_zero, List.getElem?_cons_succ, List.drop_succ_cons, List.drop_zero, List.take_succ_cons, List.take_zero, List.map_append, List.nil_append, List.cons_append, Nat.reduceShiftRight, Nat.reduceMod]
  refine callS_of (first3_s _ _ _) ?_
  simp only [vcV, vcD, Int.reduceEq, Int.reduceNe, Int.reduceLT, Int.reduceLE, Nat.reduceEqDiff, Nat.reduceAdd, reduceIte, reduceCtorEq, Nat.reduceLT, Nat.reduceLeDiff, eq_self, Option.bind_some, Option.map_some, List.map_cons, List.map_nil, List.length_cons, List.length_nil, Option.getD_some, Option.getD_none, List.all_cons, List.all_nil, List.set_cons_zero, List.set_cons_succ, List.replicate_succ, List.replicate_zero, List.getElem?_cons_zero, List.getElem?_cons_succ, List.drop_succ_cons, List.drop_zero, List.take_succ_cons, List.take_zero, List.map_append, List.nil_append, List.cons_append, Nat.reduceShiftRight, Nat.reduceMod]
  refine callS_of hL ?_
  by_cases hl : shs T r n 11 = []
  · rw [if_pos hl, if_pos hl]
    simp only [vcV, vcD, Int.reduceEq, Int.reduceNe, Int.reduceLT, Int.reduceLE, Nat.reduceEqDiff, Nat.reduceAdd, reduceIte, reduceCtorEq, Nat.reduceLT, Nat.reduceLeDiff, eq_self, Option.bind_some, Option.map_some, List.map_cons, List.map_nil, List.length_cons, List.length_nil, Option.getD_some, Option.getD_none, List.all_cons, List.all_nil, List.set_cons_zero, List.set_cons_succ, List.replicate_succ, List.replicate_zero, List.getElem?_cons_zero, List.getElem?_cons_succ, List.drop_succ_cons, List.drop_zero, List.take_succ_cons, List.take_zero, List.map_append, List.nil_append, List.cons_append, Nat.reduceShiftRight, Nat.reduceMod]
    refine callS_of (unless_s _ _) ?_
    simp only [vcV, vcD, Int.reduceEq, Int.reduceNe, Int.reduceLT, Int.reduceLE, Nat.reduceEqDiff, Nat.reduceAdd, reduceIte, reduceCtorEq, Nat.reduceLT, Nat.reduceLeDiff, eq_self, Option.bind_some, Option.map_some, List.map_cons, List.map_nil, List.length_cons, List.length_nil, Option.getD_some, Option.getD_none, List.all_cons, List.all_nil, List.set_cons_zero, List.set_cons_succ, List.replicate_succ, List.replicate_zero, List.getElem?_cons_zero, List.getElem?_cons_succ, List.drop_succ_cons, List.drop_zero, List.take_succ_cons, List.take_zero, List.map_append, List.nil_append, List.cons_append, Nat.reduceShiftRight, Nat.reduceMod]
  · rw [if_neg hl, if_neg hl]
    simp only [vcV, vcD, Int.reduceEq, Int.reduceNe, Int.reduceLT, Int.reduceLE, Nat.reduceEqDiff, Nat.reduceAdd, reduceIte, reduceCtorEq, Nat.reduceLT, Nat.reduceLeDiff, eq_self, Option.bind_some, Option.map_some, List.map_cons, List.map_nil, List.length_cons, List.length_nil, Option.getD_some, Option.getD_none, List.all_cons, List.all_nil, List.set_cons_zero, List.set_cons_succ, List.replicate_succ, List.replicate_zero, List.getElem?_cons_zero, List.getElem?_cons_succ, List.drop_succ_cons, List.drop_zero, List.take_succ_cons, List.take_zero, List.map_append, List.nil_append, List.cons_append, Nat.reduceShiftRight, Nat.reduceMod]
    refine callS_of (unless_s _ _) ?_
    simp only [vcV, vcD, Int.reduceEq, Int.reduceNe, Int.reduceLT, Int.reduceLE, Nat.reduceEqDiff, Nat.reduceAdd, reduceIte, reduceCtorEq, Nat.reduceLT, Nat.reduceLeDiff, eq_self, Option.bind_some, Option.map_some, List.map_cons, List.map_nil, List.length_cons, List.length_nil, Option.getD_some, Option.getD_none, List.all_cons, List.all_nil, List.set_cons_zero, List.set_cons_succ, List.replicate_succ, List.replicate_zero, List.getElem?_cons_zero, List.getElem?_cons_succ, List.drop_succ_cons, List.drop_zero, List.take_succ_cons, List.take_zero, List.map_append, List.nil_append, List.cons_append, Nat.reduceShiftRight, Nat.reduceMod]
/-- Whether the limits of so many hits hold a share. -/
def gv (T : Nat) (r : Int) (s n : Nat) : Bool := !(shs T r n 11).isEmpty && decide (mnL (shs T r n 11) ≤ s ∧ (s : Int) ≤ mxL (shs T r n 11))
theorem gv_in {T n s : Nat} {r : Int} (hs : s ≤ 10) (h1 : bLo s T r ≤ n) (h2 : n ≤ bHi s T r) : gv T r s n = true := by
  have hm := shs_mem T r n s 11 (by omega) (decide_eq_true ⟨by omega, by omega⟩)
  unfold gv
  rw [Bool.and_eq_true]
  refine ⟨?_, decide_eq_true ⟨mn_le _ _ hm, mx_ge _ _ hm⟩⟩
  cases hq : shs T r n 11 with
  | nil => rw [hq] at hm; cases hm
  | cons => rfl
def covN (T : Nat) (r : Int) (s k : Nat) : Int := sumN (fun n => (if gv T r s n then 1 else 0) * cnt s T n) k
theorem cov_bd {T s : Nat} {r : Int} (hs : s ≤ 10) {k : Nat} (hk : k ≤ T + 1) : 0 ≤ covN T r s k ∧ covN T r s k ≤ 10 ^ T := by
  have h1 : 0 ≤ covN T r s k := by
    unfold covN
    have : sumN (fun _ => (0 : Int)) k ≤ sumN (fun n => (if gv T r s n then 1 else 0) * cnt s T n) k := sumN_mono k fun i _ => by
      have := cnt_pos s T i
      split <;> simp [this]
    have h0 : ∀ k, sumN (fun _ => (0 : Int)) k = 0 := fun k => by induction k with
      | zero => rfl
      | succ k ih => rw [sumN, ih]; rfl
    rw [h0] at this; exact this
  have h2 : covN T r s k ≤ sumN (cnt s T) k := sumN_mono k fun i _ => by
    have := cnt_pos s T i
    split <;> simp [this]
  have h3 := sumN_mono_n (cnt_pos s T) (m := k) (T + 1) hk
  rw [cnt_all hs] at h3
  omega
theorem CoverageOf_s {T s : Nat} {r : Int} (hT : 1 ≤ T ∧ T ≤ 3) (hs : s ≤ 10) (hr : 0 ≤ r ∧ r ≤ 999) : Sound Try.prog 12 [.int .i64 T, .int .i64 s, .int .i64 r] (.tup [.int .i64 (covN T r s (T + 1)), .int .i64 0]) := by
  refine sound_W f_blind_CoverageOf (Nat.le_of_ble_eq_true rfl) ?_
  have w1 : 1 ≤ (T : Int) ∧ (T : Int) ≤ 12 := by omega
  have w2 : 0 ≤ (s : Int) ∧ (s : Int) ≤ 10 := by omega
  have e1 := trialsErr_s T
  have e2 := tenthsErr_s s
  have e3 := riskErr_s r
  rw [decide_eq_true w1, if_pos rfl] at e1
  rw [decide_eq_true w2, if_pos rfl] at e2
  rw [decide_eq_true hr, if_pos rfl] at e3
  have hA := pow_bd hT
  simp only [c_blind_CoverageOf, vcV, vcD, Int.reduceEq, Int.reduceNe, Int.reduceLT, Int.reduceLE, Nat.reduceEqDiff, Nat.reduceAdd, reduceIte, reduceCtorEq, Nat.reduceLT, Nat.reduceLeDiff, eq_self, Option.bind_some, Option.map_some, List.map_cons, List.map_nil, List.length_cons, List.length_nil, Option.getD_some, Option.getD_none, List.all_cons, List.all_nil, List.set_cons_zero, List.set_cons_succ, List.replicate_succ, List.replicate_zero, List.getElem?_cons_zero, List.getElem?_cons_succ, List.drop_succ_cons, List.drop_zero, List.take_succ_cons, List.take_zero, List.map_append, List.nil_append, List.cons_append, Nat.reduceShiftRight, Nat.reduceMod]
  refine callS_of e1 ?_
  simp only [vcV, vcD, Int.reduceEq, Int.reduceNe, Int.reduceLT, Int.reduceLE, Nat.reduceEqDiff, Nat.reduceAdd, reduceIte, reduceCtorEq, Nat.reduceLT, Nat.reduceLeDiff, eq_self, Option.bind_some, Option.map_some, List.map_cons, List.map_nil, List.length_cons, List.length_nil, Option.getD_some, Option.getD_none, List.all_cons, List.all_nil, List.set_cons_zero, List.set_cons_succ, List.replicate_succ, List.replicate_zero, List.getElem?_cons_zero, List.getElem?_cons_succ, List.drop_succ_cons, List.drop_zero, List.take_succ_cons, List.take_zero, List.map_append, List.nil_append, List.cons_append, Nat.reduceShiftRight, Nat.reduceMod]
  refine callS_of e2 ?_
  simp only [vcV, vcD, Int.reduceEq, Int.reduceNe, Int.reduceLT, Int.reduceLE, Nat.reduceEqDiff, Nat.reduceAdd, reduceIte, reduceCtorEq, Nat.reduceLT, Nat.reduceLeDiff, eq_self, Option.bind_some, Option.map_some, List.map_cons, List.map_nil, List.length_cons, List.length_nil, Option.getD_some, Option.getD_none, List.all_cons, List.all_nil, List.set_cons_zero, List.set_cons_succ, List.replicate_succ, List.replicate_zero, List.getElem?_cons_zero, List.getElem?_cons_succ, List.drop_succ_cons, List.drop_zero, List.take_succ_cons, List.take_zero, List.map_append, List.nil_append, List.cons_append, Nat.reduceShiftRight, Nat.reduceMod]
  refine callS_of e3 ?_
  simp only [vcV, vcD, Int.reduceEq, Int.reduceNe, Int.reduceLT, Int.reduceLE, Nat.reduceEqDiff, Nat.reduceAdd, reduceIte, reduceCtorEq, Nat.reduceLT, Nat.reduceLeDiff, eq_self, Option.bind_some, Option.map_some, List.map_cons, List.map_nil, List.length_cons, List.length_nil, Option.getD_some, Option.getD_none, List.all_cons, List.all_nil, List.set_cons_zero, List.set_cons_succ, List.replicate_succ, List.replicate_zero, List.getElem?_cons_zero, List.getElem?_cons_succ, List.drop_succ_cons, List.drop_zero, List.take_succ_cons, List.take_zero, List.map_append, List.nil_append, List.cons_append, Nat.reduceShiftRight, Nat.reduceMod]
  refine callS_of (first3_s _ _ _) ?_
  simp only [vcV, vcD, Int.reduceEq, Int.reduceNe, Int.reduceLT, Int.reduceLE, Nat.reduceEqDiff, Nat.reduceAdd, reduceIte, reduceCtorEq, Nat.reduceLT, Nat.reduceLeDiff, eq_self, Option.bind_some, Option.map_some, List.map_cons, List.map_nil, List.length_cons, List.length_nil, Option.getD_some, Option.getD_none, List.all_cons, List.all_nil, List.set_cons_zero, List.set_cons_succ, List.replicate_succ, List.replicate_zero, List.getElem?_cons_zero, List.getElem?_cons_succ, List.drop_succ_cons, List.drop_zero, List.take_succ_cons, List.take_zero, List.map_append, List.nil_append, List.cons_append, Nat.reduceShiftRight, Nat.reduceMod]
  refine ⟨by unfold I64; omega, ?_⟩
  refine W_loop (t := .mk) (α := PSigma fun i : Nat => i ≤ T + 1) (fun ⟨i, _⟩ => (envOf [(0, .int .i64 T), (1, .int .i64 s), (2, .int .i64 r), (9, .int .i64 (covN T r s i)), (25, .int .i64 ((T : Int) + 1)), (26, .int .i64 i)], stOf [])) (fun p => T + 1 - p.1) ⟨0, Nat.zero_le _⟩ ?_ (fun ⟨i, hi⟩ => ?_)
  · have z1 : covN T r s 0 = 0 := rfl
    refine weakX [] (of_decide_eq_true rfl) (of_decide_eq_true rfl) ?_
    (simp only [z1, vcW, vcV, vcD, Int.reduceEq, Int.reduceNe, Int.reduceLT, Int.reduceLE, Nat.reduceEqDiff, Nat.reduceAdd, reduceIte, reduceCtorEq, Nat.reduceLT, Nat.reduceLeDiff, eq_self, Option.bind_some, Option.map_some, List.map_cons, List.map_nil, List.length_cons, List.length_nil, Option.getD_some, Option.getD_none, List.all_cons, List.all_nil, List.set_cons_zero, List.set_cons_succ, List.replicate_succ, List.replicate_zero, List.getElem?_cons_zero, List.getElem?_cons_succ, List.drop_succ_cons, List.drop_zero, List.take_succ_cons, List.take_zero, List.map_append, List.nil_append, List.cons_append, Nat.reduceShiftRight, Nat.reduceMod])
    (repeat' first | exact trivial | (with_reducible exact RnB.fxB (ints_fxB _)) | (with_reducible rfl) | (with_reducible refine And.intro ?_ ?_) | (with_reducible refine RnB.bb ?_; simp only [vcW, vcV, vcD, Int.reduceEq, Int.reduceNe, Int.reduceLT, Int.reduceLE, Nat.reduceEqDiff, Nat.reduceAdd, reduceIte, reduceCtorEq, Nat.reduceLT, Nat.reduceLeDiff, eq_self, Option.bind_some, Option.map_some, List.map_cons, List.map_nil, List.length_cons, List.length_nil, Option.getD_some, Option.getD_none, List.all_cons, List.all_nil, List.set_cons_zero, List.set_cons_succ, List.replicate_succ, List.replicate_zero, List.getElem?_cons_zero, List.getElem?_cons_succ, List.drop_succ_cons, List.drop_zero, List.take_succ_cons, List.take_zero, List.map_append, List.nil_append, List.cons_append, Nat.reduceShiftRight, Nat.reduceMod]) | (with_reducible refine RnB.nb ?_; simp only [vcW, vcV, vcD, Int.reduceEq, Int.reduceNe, Int.reduceLT, Int.reduceLE, Nat.reduceEqDiff, Nat.reduceAdd, reduceIte, reduceCtorEq, Nat.reduceLT, Nat.reduceLeDiff, eq_self, Option.bind_some, Option.map_some, List.map_cons, List.map_nil, List.length_cons, List.length_nil, Option.getD_some, Option.getD_none, List.all_cons, List.all_nil, List.set_cons_zero, List.set_cons_succ, List.replicate_succ, List.replicate_zero, List.getElem?_cons_zero, List.getElem?_cons_succ, List.drop_succ_cons, List.drop_zero, List.take_succ_cons, List.take_zero, List.map_append, List.nil_append, List.cons_append, Nat.reduceShiftRight, Nat.reduceMod]) | (with_reducible refine RnB.ii ?_) | (with_reducible refine RnB.app ?_) | (with_reducible refine RnB.fxB ?_; simp only [vcW, vcV, vcD, Int.reduceEq, Int.reduceNe, Int.reduceLT, Int.reduceLE, Nat.reduceEqDiff, Nat.reduceAdd, reduceIte, reduceCtorEq, Nat.reduceLT, Nat.reduceLeDiff, eq_self, Option.bind_some, Option.map_some, List.map_cons, List.map_nil, List.length_cons, List.length_nil, Option.getD_some, Option.getD_none, List.all_cons, List.all_nil, List.set_cons_zero, List.set_cons_succ, List.replicate_succ, List.replicate_zero, List.getElem?_cons_zero, List.getElem?_cons_succ, List.drop_succ_cons, List.drop_zero, List.take_succ_cons, List.take_zero, List.map_append, List.nil_append, List.cons_append, Nat.reduceShiftRight, Nat.reduceMod]) | omega)
  · dsimp only at hi ⊢
    by_cases h' : i < T + 1
    · have h5 : (i : Int) < (T : Int) + 1 := by omega
      have hL := limits_s hT (show i ≤ T by omega) hr
      have hX := exactly_s hT (show i ≤ T by omega) hs
      have hsx : covN T r s (i + 1) = covN T r s i + (if gv T r s i then 1 else 0) * cnt s T i := rfl
      have c1 := cov_bd (r := r) hs (show i ≤ T + 1 by omega)
      have c2 := cov_bd (r := r) hs (show i + 1 ≤ T + 1 by omega)
      unfold limA at hL
      simp only [h5, vcV, vcD, Int.reduceEq, Int.reduceNe, Int.reduceLT, Int.reduceLE, Nat.reduceEqDiff, Nat.reduceAdd, reduceIte, reduceCtorEq, Nat.reduceLT, Nat.reduceLeDiff, eq_self, Option.bind_some, Option.map_some, List.map_cons, List.map_nil, List.length_cons, List.length_nil, Option.getD_some, Option.getD_none, List.all_cons, List.all_nil, List.set_cons_zero, List.set_cons_succ, List.replicate_succ, List.replicate_zero, List.getElem?_cons_zero, List.getElem?_cons_succ, List.drop_succ_cons, List.drop_zero, List.take_succ_cons, List.take_zero, List.map_append, List.nil_append, List.cons_append, Nat.reduceShiftRight, Nat.reduceMod]
      refine callS_of hL ?_
      by_cases hl : shs T r i 11 = []
      · have hg : gv T r s i = false := by unfold gv; rw [hl]; rfl
        rw [hg, if_neg (by decide), Int.zero_mul, Int.add_zero] at hsx
        rw [if_pos hl]
        simp only [vcV, vcD, Int.reduceEq, Int.reduceNe, Int.reduceLT, Int.reduceLE, Nat.reduceEqDiff, Nat.reduceAdd, reduceIte, reduceCtorEq, Nat.reduceLT, Nat.reduceLeDiff, eq_self, Option.bind_some, Option.map_some, List.map_cons, List.map_nil, List.length_cons, List.length_nil, Option.getD_some, Option.getD_none, List.all_cons, List.all_nil, List.set_cons_zero, List.set_cons_succ, List.replicate_succ, List.replicate_zero, List.getElem?_cons_zero, List.getElem?_cons_succ, List.drop_succ_cons, List.drop_zero, List.take_succ_cons, List.take_zero, List.map_append, List.nil_append, List.cons_append, Nat.reduceShiftRight, Nat.reduceMod]
        (repeat (with_reducible refine And.intro ?_ ?_; focus (first | omega | (unfold I64; omega))))
        refine ⟨⟨i + 1, h'⟩, by simp only; omega, ?_⟩
        refine weakX [] (of_decide_eq_true rfl) (of_decide_eq_true rfl) ?_
        (simp only [hsx, vcW, vcV, vcD, Int.reduceEq, Int.reduceNe, Int.reduceLT, Int.reduceLE, Nat.reduceEqDiff, Nat.reduceAdd, reduceIte, reduceCtorEq, Nat.reduceLT, Nat.reduceLeDiff, eq_self, Option.bind_some, Option.map_some, List.map_cons, List.map_nil, List.length_cons, List.length_nil, Option.getD_some, Option.getD_none, List.all_cons, List.all_nil, List.set_cons_zero, List.set_cons_succ, List.replicate_succ, List.replicate_zero, List.getElem?_cons_zero, List.getElem?_cons_succ, List.drop_succ_cons, List.drop_zero, List.take_succ_cons, List.take_zero, List.map_append, List.nil_append, List.cons_append, Nat.reduceShiftRight, Nat.reduceMod])
        (repeat' first | exact trivial | (with_reducible exact RnB.fxB (ints_fxB _)) | (with_reducible rfl) | (with_reducible refine And.intro ?_ ?_) | (with_reducible refine RnB.bb ?_; simp only [vcW, vcV, vcD, Int.reduceEq, Int.reduceNe, Int.reduceLT, Int.reduceLE, Nat.reduceEqDiff, Nat.reduceAdd, reduceIte, reduceCtorEq, Nat.reduceLT, Nat.reduceLeDiff, eq_self, Option.bind_some, Option.map_some, List.map_cons, List.map_nil, List.length_cons, List.length_nil, Option.getD_some, Option.getD_none, List.all_cons, List.all_nil, List.set_cons_zero, List.set_cons_succ, List.replicate_succ, List.replicate_zero, List.getElem?_cons_zero, List.getElem?_cons_succ, List.drop_succ_cons, List.drop_zero, List.take_succ_cons, List.take_zero, List.map_append, List.nil_append, List.cons_append, Nat.reduceShiftRight, Nat.reduceMod]) | (with_reducible refine RnB.nb ?_; simp only [vcW, vcV, vcD, Int.reduceEq, Int.reduceNe, Int.reduceLT, Int.reduceLE, Nat.reduceEqDiff, Nat.reduceAdd, reduceIte, reduceCtorEq, Nat.reduceLT, Nat.reduceLeDiff, eq_self, Option.bind_some, Option.map_some, List.map_cons, List.map_nil, List.length_cons, List.length_nil, Option.getD_some, Option.getD_none, List.all_cons, List.all_nil, List.set_cons_zero, List.set_cons_succ, List.replicate_succ, List.replicate_zero, List.getElem?_cons_zero, List.getElem?_cons_succ, List.drop_succ_cons, List.drop_zero, List.take_succ_cons, List.take_zero, List.map_append, List.nil_append, List.cons_append, Nat.reduceShiftRight, Nat.reduceMod]) | (with_reducible refine RnB.ii ?_) | (with_reducible refine RnB.app ?_) | (with_reducible refine RnB.fxB ?_; simp only [vcW, vcV, vcD, Int.reduceEq, Int.reduceNe, Int.reduceLT, Int.reduceLE, Nat.reduceEqDiff, Nat.reduceAdd, reduceIte, reduceCtorEq, Nat.reduceLT, Nat.reduceLeDiff, eq_self, Option.bind_some, Option.map_some, List.map_cons, List.map_nil, List.length_cons, List.length_nil, Option.getD_some, Option.getD_none, List.all_cons, List.all_nil, List.set_cons_zero, List.set_cons_succ, List.replicate_succ, List.replicate_zero, List.getElem?_cons_zero, List.getElem?_cons_succ, List.drop_succ_cons, List.drop_zero, List.take_succ_cons, List.take_zero, List.map_append, List.nil_append, List.cons_append, Nat.reduceShiftRight, Nat.reduceMod]) | omega)
      · have hg : gv T r s i = decide (mnL (shs T r i 11) ≤ s ∧ (s : Int) ≤ mxL (shs T r i 11)) := by
          unfold gv
          cases hq : shs T r i 11 with
          | nil => exact absurd hq hl
          | cons => simp
        rw [if_neg hl]
        simp only [vcV, vcD, Int.reduceEq, Int.reduceNe, Int.reduceLT, Int.reduceLE, Nat.reduceEqDiff, Nat.reduceAdd, reduceIte, reduceCtorEq, Nat.reduceLT, Nat.reduceLeDiff, eq_self, Option.bind_some, Option.map_some, List.map_cons, List.map_nil, List.length_cons, List.length_nil, Option.getD_some, Option.getD_none, List.all_cons, List.all_nil, List.set_cons_zero, List.set_cons_succ, List.replicate_succ, List.replicate_zero, List.getElem?_cons_zero, List.getElem?_cons_succ, List.drop_succ_cons, List.drop_zero, List.take_succ_cons, List.take_zero, List.map_append, List.nil_append, List.cons_append, Nat.reduceShiftRight, Nat.reduceMod]
        refine callS_of (within_s _ _ _) ?_
        by_cases hw : mnL (shs T r i 11) ≤ s ∧ (s : Int) ≤ mxL (shs T r i 11)
        · rw [hg, decide_eq_true hw, if_pos rfl, Int.one_mul] at hsx
          rw [hsx] at c2
          simp only [hw, vcV, vcD, Int.reduceEq, Int.reduceNe, Int.reduceLT, Int.reduceLE, Nat.reduceEqDiff, Nat.reduceAdd, reduceIte, reduceCtorEq, Nat.reduceLT, Nat.reduceLeDiff, eq_self, Option.bind_some, Option.map_some, List.map_cons, List.map_nil, List.length_cons, List.length_nil, Option.getD_some, Option.getD_none, List.all_cons, List.all_nil, List.set_cons_zero, List.set_cons_succ, List.replicate_succ, List.replicate_zero, List.getElem?_cons_zero, List.getElem?_cons_succ, List.drop_succ_cons, List.drop_zero, List.take_succ_cons, List.take_zero, List.map_append, List.nil_append, List.cons_append, Nat.reduceShiftRight, Nat.reduceMod]
          refine callS_of hX ?_
          simp only [vcV, vcD, Int.reduceEq, Int.reduceNe, Int.reduceLT, Int.reduceLE, Nat.reduceEqDiff, Nat.reduceAdd, reduceIte, reduceCtorEq, Nat.reduceLT, Nat.reduceLeDiff, eq_self, Option.bind_some, Option.map_some, List.map_cons, List.map_nil, List.length_cons, List.length_nil, Option.getD_some, Option.getD_none, List.all_cons, List.all_nil, List.set_cons_zero, List.set_cons_succ, List.replicate_succ, List.replicate_zero, List.getElem?_cons_zero, List.getElem?_cons_succ, List.drop_succ_cons, List.drop_zero, List.take_succ_cons, List.take_zero, List.map_append, List.nil_append, List.cons_append, Nat.reduceShiftRight, Nat.reduceMod]
          (repeat (with_reducible refine And.intro ?_ ?_; focus (first | omega | (unfold I64; omega))))
          refine ⟨⟨i + 1, h'⟩, by simp only; omega, ?_⟩
          refine weakX [] (of_decide_eq_true rfl) (of_decide_eq_true rfl) ?_
          (simp only [hsx, vcW, vcV, vcD, Int.reduceEq, Int.reduceNe, Int.reduceLT, Int.reduceLE, Nat.reduceEqDiff, Nat.reduceAdd, reduceIte, reduceCtorEq, Nat.reduceLT, Nat.reduceLeDiff, eq_self, Option.bind_some, Option.map_some, List.map_cons, List.map_nil, List.length_cons, List.length_nil, Option.getD_some, Option.getD_none, List.all_cons, List.all_nil, List.set_cons_zero, List.set_cons_succ, List.replicate_succ, List.replicate_zero, List.getElem?_cons_zero, List.getElem?_cons_succ, List.drop_succ_cons, List.drop_zero, List.take_succ_cons, List.take_zero, List.map_append, List.nil_append, List.cons_append, Nat.reduceShiftRight, Nat.reduceMod])
          (repeat' first | exact trivial | (with_reducible exact RnB.fxB (ints_fxB _)) | (with_reducible rfl) | (with_reducible refine And.intro ?_ ?_) | (with_reducible refine RnB.bb ?_; simp only [vcW, vcV, vcD, Int.reduceEq, Int.reduceNe, Int.reduceLT, Int.reduceLE, Nat.reduceEqDiff, Nat.reduceAdd, reduceIte, reduceCtorEq, Nat.reduceLT, Nat.reduceLeDiff, eq_self, Option.bind_some, Option.map_some, List.map_cons, List.map_nil, List.length_cons, List.length_nil, Option.getD_some, Option.getD_none, List.all_cons, List.all_nil, List.set_cons_zero, List.set_cons_succ, List.replicate_succ, List.replicate_zero, List.getElem?_cons_zero, List.getElem?_cons_succ, List.drop_succ_cons, List.drop_zero, List.take_succ_cons, List.take_zero, List.map_append, List.nil_append, List.cons_append, Nat.reduceShiftRight, Nat.reduceMod]) | (with_reducible refine RnB.nb ?_; simp only [vcW, vcV, vcD, Int.reduceEq, Int.reduceNe, Int.reduceLT, Int.reduceLE, Nat.reduceEqDiff, Nat.reduceAdd, reduceIte, reduceCtorEq, Nat.reduceLT, Nat.reduceLeDiff, eq_self, Option.bind_some, Option.map_some, List.map_cons, List.map_nil, List.length_cons, List.length_nil, Option.getD_some, Option.getD_none, List.all_cons, List.all_nil, List.set_cons_zero, List.set_cons_succ, List.replicate_succ, List.replicate_zero, List.getElem?_cons_zero, List.getElem?_cons_succ, List.drop_succ_cons, List.drop_zero, List.take_succ_cons, List.take_zero, List.map_append, List.nil_append, List.cons_append, Nat.reduceShiftRight, Nat.reduceMod]) | (with_reducible refine RnB.ii ?_) | (with_reducible refine RnB.app ?_) | (with_reducible refine RnB.fxB ?_; simp only [vcW, vcV, vcD, Int.reduceEq, Int.reduceNe, Int.reduceLT, Int.reduceLE, Nat.reduceEqDiff, Nat.reduceAdd, reduceIte, reduceCtorEq, Nat.reduceLT, Nat.reduceLeDiff, eq_self, Option.bind_some, Option.map_some, List.map_cons, List.map_nil, List.length_cons, List.length_nil, Option.getD_some, Option.getD_none, List.all_cons, List.all_nil, List.set_cons_zero, List.set_cons_succ, List.replicate_succ, List.replicate_zero, List.getElem?_cons_zero, List.getElem?_cons_succ, List.drop_succ_cons, List.drop_zero, List.take_succ_cons, List.take_zero, List.map_append, List.nil_append, List.cons_append, Nat.reduceShiftRight, Nat.reduceMod]) | omega)
        · rw [hg, decide_eq_false hw, if_neg (by decide), Int.zero_mul, Int.add_zero] at hsx
          simp only [hw, vcV, vcD, Int.reduceEq, Int.reduceNe, Int.reduceLT, Int.reduceLE, Nat.reduceEqDiff, Nat.reduceAdd, reduceIte, reduceCtorEq, Nat.reduceLT, Nat.reduceLeDiff, eq_self, Option.bind_some, Option.map_some, List.map_cons, List.map_nil, List.length_cons, List.length_nil, Option.getD_some, Option.getD_none, List.all_cons, List.all_nil, List.set_cons_zero, List.set_cons_succ, List.replicate_succ, List.replicate_zero, List.getElem?_cons_zero, List.getElem?_cons_succ, List.drop_succ_cons, List.drop_zero, List.take_succ_cons, List.take_zero, List.map_append, List.nil_append, List.cons_append, Nat.reduceShiftRight, Nat.reduceMod]
          (repeat (with_reducible refine And.intro ?_ ?_; focus (first | omega | (unfold I64; omega))))
          refine ⟨⟨i + 1, h'⟩, by simp only; omega, ?_⟩
          refine weakX [] (of_decide_eq_true rfl) (of_decide_eq_true rfl) ?_
          (simp only [hsx, vcW, vcV, vcD, Int.reduceEq, Int.reduceNe, Int.reduceLT, Int.reduceLE, Nat.reduceEqDiff, Nat.reduceAdd, reduceIte, reduceCtorEq, Nat.reduceLT, Nat.reduceLeDiff, eq_self, Option.bind_some, Option.map_some, List.map_cons, List.map_nil, List.length_cons, List.length_nil, Option.getD_some, Option.getD_none, List.all_cons, List.all_nil, List.set_cons_zero, List.set_cons_succ, List.replicate_succ, List.replicate_zero, List.getElem?_cons_zero, List.getElem?_cons_succ, List.drop_succ_cons, List.drop_zero, List.take_succ_cons, List.take_zero, List.map_append, List.nil_append, List.cons_append, Nat.reduceShiftRight, Nat.reduceMod])
          (repeat' first | exact trivial | (with_reducible exact RnB.fxB (ints_fxB _)) | (with_reducible rfl) | (with_reducible refine And.intro ?_ ?_) | (with_reducible refine RnB.bb ?_; simp only [vcW, vcV, vcD, Int.reduceEq, Int.reduceNe, Int.reduceLT, Int.reduceLE, Nat.reduceEqDiff, Nat.reduceAdd, reduceIte, reduceCtorEq, Nat.reduceLT, Nat.reduceLeDiff, eq_self, Option.bind_some, Option.map_some, List.map_cons, List.map_nil, List.length_cons, List.length_nil, Option.getD_some, Option.getD_none, List.all_cons, List.all_nil, List.set_cons_zero, List.set_cons_succ, List.replicate_succ, List.replicate_zero, List.getElem?_cons_zero, List.getElem?_cons_succ, List.drop_succ_cons, List.drop_zero, List.take_succ_cons, List.take_zero, List.map_append, List.nil_append, List.cons_append, Nat.reduceShiftRight, Nat.reduceMod]) | (with_reducible refine RnB.nb ?_; simp only [vcW, vcV, vcD, Int.reduceEq, Int.reduceNe, Int.reduceLT, Int.reduceLE, Nat.reduceEqDiff, Nat.reduceAdd, reduceIte, reduceCtorEq, Nat.reduceLT, Nat.reduceLeDiff, eq_self, Option.bind_some, Option.map_some, List.map_cons, List.map_nil, List.length_cons, List.length_nil, Option.getD_some, Option.getD_none, List.all_cons, List.all_nil, List.set_cons_zero, List.set_cons_succ, List.replicate_succ, List.replicate_zero, List.getElem?_cons_zero, List.getElem?_cons_succ, List.drop_succ_cons, List.drop_zero, List.take_succ_cons, List.take_zero, List.map_append, List.nil_append, List.cons_append, Nat.reduceShiftRight, Nat.reduceMod]) | (with_reducible refine RnB.ii ?_) | (with_reducible refine RnB.app ?_) | (with_reducible refine RnB.fxB ?_; simp only [vcW, vcV, vcD, Int.reduceEq, Int.reduceNe, Int.reduceLT, Int.reduceLE, Nat.reduceEqDiff, Nat.reduceAdd, reduceIte, reduceCtorEq, Nat.reduceLT, Nat.reduceLeDiff, eq_self, Option.bind_some, Option.map_some, List.map_cons, List.map_nil, List.length_cons, List.length_nil, Option.getD_some, Option.getD_none, List.all_cons, List.all_nil, List.set_cons_zero, List.set_cons_succ, List.replicate_succ, List.replicate_zero, List.getElem?_cons_zero, List.getElem?_cons_succ, List.drop_succ_cons, List.drop_zero, List.take_succ_cons, List.take_zero, List.map_append, List.nil_append, List.cons_append, Nat.reduceShiftRight, Nat.reduceMod]) | omega)
    · have h5 : ¬ (i : Int) < (T : Int) + 1 := by omega
      have hin : i = T + 1 := by omega
      subst hin
      simp only [h5, vcV, vcD, Int.reduceEq, Int.reduceNe, Int.reduceLT, Int.reduceLE, Nat.reduceEqDiff, Nat.reduceAdd, reduceIte, reduceCtorEq, Nat.reduceLT, Nat.reduceLeDiff, eq_self, Option.bind_some, Option.map_some, List.map_cons, List.map_nil, List.length_cons, List.length_nil, Option.getD_some, Option.getD_none, List.all_cons, List.all_nil, List.set_cons_zero, List.set_cons_succ, List.replicate_succ, List.replicate_zero, List.getElem?_cons_zero, List.getElem?_cons_succ, List.drop_succ_cons, List.drop_zero, List.take_succ_cons, List.take_zero, List.map_append, List.nil_append, List.cons_append, Nat.reduceShiftRight, Nat.reduceMod]
theorem WaysOf_s {T h s : Nat} (hT : 1 ≤ T ∧ T ≤ 3) (hh : h ≤ T) (hs : s ≤ 10) : Sound Try.prog 13 [.int .i64 T, .int .i64 h, .int .i64 s] (.tup [.int .i64 (wy s T h), .int .i64 0]) := by
  refine sound_W f_blind_WaysOf (Nat.le_of_ble_eq_true rfl) ?_
  have w1 : 1 ≤ (T : Int) ∧ (T : Int) ≤ 12 := by omega
  have w2 : 0 ≤ (s : Int) ∧ (s : Int) ≤ 10 := by omega
  have w3 : 0 ≤ (h : Int) ∧ (h : Int) ≤ T := by omega
  have e1 := trialsErr_s T
  have e2 := hitsErr_s T h
  have e3 := tenthsErr_s s
  rw [decide_eq_true w1, if_pos rfl] at e1
  rw [decide_eq_true w3, if_pos rfl] at e2
  rw [decide_eq_true w2, if_pos rfl] at e3
  simp only [c_blind_WaysOf, vcV, vcD, Int.reduceEq, Int.reduceNe, Int.reduceLT, Int.reduceLE, Nat.reduceEqDiff, Nat.reduceAdd, reduceIte, reduceCtorEq, Nat.reduceLT, Nat.reduceLeDiff, eq_self, Option.bind_some, Option.map_some, List.map_cons, List.map_nil, List.length_cons, List.length_nil, Option.getD_some, Option.getD_none, List.all_cons, List.all_nil, List.set_cons_zero, List.set_cons_succ, List.replicate_succ, List.replicate_zero, List.getElem?_cons_zero, List.getElem?_cons_succ, List.drop_succ_cons, List.drop_zero, List.take_succ_cons, List.take_zero, List.map_append, List.nil_append, List.cons_append, Nat.reduceShiftRight, Nat.reduceMod]
  refine callS_of e1 ?_
  simp only [vcV, vcD, Int.reduceEq, Int.reduceNe, Int.reduceLT, Int.reduceLE, Nat.reduceEqDiff, Nat.reduceAdd, reduceIte, reduceCtorEq, Nat.reduceLT, Nat.reduceLeDiff, eq_self, Option.bind_some, Option.map_some, List.map_cons, List.map_nil, List.length_cons, List.length_nil, Option.getD_some, Option.getD_none, List.all_cons, List.all_nil, List.set_cons_zero, List.set_cons_succ, List.replicate_succ, List.replicate_zero, List.getElem?_cons_zero, List.getElem?_cons_succ, List.drop_succ_cons, List.drop_zero, List.take_succ_cons, List.take_zero, List.map_append, List.nil_append, List.cons_append, Nat.reduceShiftRight, Nat.reduceMod]
  refine callS_of e2 ?_
  simp only [vcV, vcD, Int.reduceEq, Int.reduceNe, Int.reduceLT, Int.reduceLE, Nat.reduceEqDiff, Nat.reduceAdd, reduceIte, reduceCtorEq, Nat.reduceLT, Nat.reduceLeDiff, eq_self, Option.bind_some, Option.map_some, List.map_cons, List.map_nil, List.length_cons, List.length_nil, Option.getD_some, Option.getD_none, List.all_cons, List.all_nil, List.set_cons_zero, List.set_cons_succ, List.replicate_succ, List.replicate_zero, List.getElem?_cons_zero, List.getElem?_cons_succ, List.drop_succ_cons, List.drop_zero, List.take_succ_cons, List.take_zero, List.map_append, List.nil_append, List.cons_append, Nat.reduceShiftRight, Nat.reduceMod]
  refine callS_of e3 ?_
  simp only [vcV, vcD, Int.reduceEq, Int.reduceNe, Int.reduceLT, Int.reduceLE, Nat.reduceEqDiff, Nat.reduceAdd, reduceIte, reduceCtorEq, Nat.reduceLT, Nat.reduceLeDiff, eq_self, Option.bind_some, Option.map_some, List.map_cons, List.map_nil, List.length_cons, List.length_nil, Option.getD_some, Option.getD_none, List.all_cons, List.all_nil, List.set_cons_zero, List.set_cons_succ, List.replicate_succ, List.replicate_zero, List.getElem?_cons_zero, List.getElem?_cons_succ, List.drop_succ_cons, List.drop_zero, List.take_succ_cons, List.take_zero, List.map_append, List.nil_append, List.cons_append, Nat.reduceShiftRight, Nat.reduceMod]
  refine callS_of (first3_s _ _ _) ?_
  simp only [vcV, vcD, Int.reduceEq, Int.reduceNe, Int.reduceLT, Int.reduceLE, Nat.reduceEqDiff, Nat.reduceAdd, reduceIte, reduceCtorEq, Nat.reduceLT, Nat.reduceLeDiff, eq_self, Option.bind_some, Option.map_some, List.map_cons, List.map_nil, List.length_cons, List.length_nil, Option.getD_some, Option.getD_none, List.all_cons, List.all_nil, List.set_cons_zero, List.set_cons_succ, List.replicate_succ, List.replicate_zero, List.getElem?_cons_zero, List.getElem?_cons_succ, List.drop_succ_cons, List.drop_zero, List.take_succ_cons, List.take_zero, List.map_append, List.nil_append, List.cons_append, Nat.reduceShiftRight, Nat.reduceMod]
  refine callS_of (ways_s hT (by omega) hs) ?_
  simp only [vcV, vcD, Int.reduceEq, Int.reduceNe, Int.reduceLT, Int.reduceLE, Nat.reduceEqDiff, Nat.reduceAdd, reduceIte, reduceCtorEq, Nat.reduceLT, Nat.reduceLeDiff, eq_self, Option.bind_some, Option.map_some, List.map_cons, List.map_nil, List.length_cons, List.length_nil, Option.getD_some, Option.getD_none, List.all_cons, List.all_nil, List.set_cons_zero, List.set_cons_succ, List.replicate_succ, List.replicate_zero, List.getElem?_cons_zero, List.getElem?_cons_succ, List.drop_succ_cons, List.drop_zero, List.take_succ_cons, List.take_zero, List.map_append, List.nil_append, List.cons_append, Nat.reduceShiftRight, Nat.reduceMod]
end Go.Proofs.Ytngjhppgojfceaa

/- Samples and droops, in plain Lean. By an AI agent; nothing here is trusted. -/
namespace Go.Proofs.Ytngjhppgojfceaa
open Go.Av

structure Droop where
  leak : Int
  div : Int
def Droop.av (d : Droop) : AV := .agg [.int .i64 d.leak, .int .i64 d.div]
def Droop.ok (d : Droop) : Prop := (0 ≤ d.leak ∧ d.leak ≤ 1000) ∧ (1 ≤ d.div ∧ d.div ≤ 10000)
instance (d : Droop) : Decidable d.ok := by unfold Droop.ok; exact inferInstance
def Droop.e (d : Droop) : Int := if d.ok then 0 else 2

end Go.Proofs.Ytngjhppgojfceaa

/- Dead times and afterpulses, in plain Lean. By an AI agent; nothing here is trusted. -/
namespace Go.Proofs.Ytngjhppgojfceaa
open Go.Av

/-- The times that are kept of the first ones. -/
def kp (dead : Int) (l : List Int) : Nat → List Int
  | 0 => []
  | i + 1 => if kp dead l i = [] ∨ dead < l.getD i 0 - (kp dead l i).getLastD 0 then kp dead l i ++ [l.getD i 0] else kp dead l i
def kept (dead : Int) (l : List Int) : List Int := kp dead l l.length
end Go.Proofs.Ytngjhppgojfceaa

/- Hits: runs of samples from a threshold on, in plain Lean. By an AI agent; nothing here is trusted. -/
namespace Go.Proofs.Ytngjhppgojfceaa
open Go.Av

end Go.Proofs.Ytngjhppgojfceaa

/- Lowest terms, gains and charges, in plain Lean. By an AI agent; nothing here is trusted. -/
namespace Go.Proofs.Ytngjhppgojfceaa
open Go.Av

theorem i4comm (a b c d : Int) : a * b * (c * d) = a * c * (b * d) := by
  rw [Int.mul_assoc, Int.mul_assoc, Int.mul_left_comm b c d]
theorem int_dvd {y v x : Int} (h : y ∣ v * x) (hg : Int.gcd x y = 1) : y ∣ v := by
  rw [← Int.natAbs_dvd_natAbs] at h ⊢
  rw [Int.natAbs_mul] at h
  exact Nat.Coprime.dvd_of_dvd_mul_right (by unfold Nat.Coprime; rw [Nat.gcd_comm]; exact hg) h
/-- Lowest terms of a denominator above 0. -/
theorem low_parts {n d : Int} (hd : 0 < d) : ∃ g : Int, 0 < g ∧ n = g * lowN n d ∧ d = g * lowD n d ∧ Int.gcd (lowN n d) (lowD n d) = 1 := by
  have hg : 0 < Int.gcd n d := Int.gcd_pos_of_ne_zero_right _ (by omega)
  have hn : ¬ d < 0 := by omega
  have e1 : lowN n d = n / (Int.gcd n d : Int) := by
    unfold lowN lowG; rw [if_neg hn]
    exact Int.tdiv_eq_ediv_of_dvd (Int.gcd_dvd_left _ _)
  have e2 : lowD n d = d / (Int.gcd n d : Int) := by
    unfold lowD lowG; rw [if_neg hn]
    exact Int.tdiv_eq_ediv_of_dvd (Int.gcd_dvd_right _ _)
  refine ⟨Int.gcd n d, by omega, ?_, ?_, ?_⟩
  · rw [e1, Int.mul_ediv_cancel' (Int.gcd_dvd_left _ _)]
  · rw [e2, Int.mul_ediv_cancel' (Int.gcd_dvd_right _ _)]
  · rw [e1, e2]; exact Int.gcd_ediv_gcd_ediv_gcd hg
theorem low_pos {n d : Int} (hd : 0 < d) : 0 < lowD n d ∧ (0 ≤ n → 0 ≤ lowN n d) := by
  obtain ⟨g, h1, h2, h3, _⟩ := low_parts (n := n) hd
  generalize lowN n d = x at *
  generalize lowD n d = y at *
  constructor
  · by_cases hy : 0 < y
    · exact hy
    · exfalso
      have := Int.mul_nonneg (show 0 ≤ g by omega) (show 0 ≤ -y by omega)
      rw [Int.mul_neg] at this; omega
  · intro hn
    by_cases hx : 0 ≤ x
    · exact hx
    · exfalso
      have := Int.mul_le_mul_of_nonneg_left (show x ≤ -1 by omega) (show 0 ≤ g by omega)
      omega
theorem low_eq {a b c d : Int} (hb : 0 < b) (hd : 0 < d) (h : a * d = c * b) : lowN a b = lowN c d ∧ lowD a b = lowD c d := by
  obtain ⟨g, g1, g2, g3, g4⟩ := low_parts (n := a) hb
  obtain ⟨k, k1, k2, k3, k4⟩ := low_parts (n := c) hd
  have p1 := (low_pos (n := a) hb).1
  have p2 := (low_pos (n := c) hd).1
  generalize lowN a b = x at *
  generalize lowD a b = y at *
  generalize lowN c d = u at *
  generalize lowD c d = v at *
  have hx : x * v = u * y := by
    rw [g2, g3, k2, k3] at h
    have e1 : g * x * (k * v) = (g * k) * (x * v) := by rw [i4comm]
    have e2 : k * u * (g * y) = (g * k) * (u * y) := by rw [i4comm, Int.mul_comm k g]
    rw [e1, e2] at h
    exact Int.eq_of_mul_eq_mul_left (Int.mul_ne_zero (by omega) (by omega)) h
  have d1 : y ∣ v := by
    have : y ∣ v * x := ⟨u, by rw [Int.mul_comm v x, hx, Int.mul_comm]⟩
    exact int_dvd this g4
  have d2 : v ∣ y := by
    have : v ∣ y * u := ⟨x, by rw [Int.mul_comm y u, ← hx, Int.mul_comm]⟩
    exact int_dvd this k4
  have e : y = v := Int.le_antisymm (Int.le_of_dvd p2 d1) (Int.le_of_dvd p1 d2)
  subst e
  exact ⟨Int.eq_of_mul_eq_mul_right (by omega) hx, rfl⟩

end Go.Proofs.Ytngjhppgojfceaa

/- Trials of a chance; the reference's errors; lowest terms. By an AI agent; nothing here is trusted. -/
namespace Go.Proofs.Ytngjhppgojfceaa
open Go.Av

theorem gcd_one {x y : Int} (h : ∀ d : Nat, (d : Int) ∣ x → (d : Int) ∣ y → d = 1) : Int.gcd x y = 1 := h _ (Int.gcd_dvd_left _ _) (Int.gcd_dvd_right _ _)
theorem one_of {x y : Int} (h : Int.gcd x y = 1) {d : Nat} (h1 : (d : Int) ∣ x) (h2 : (d : Int) ∣ y) : d = 1 := by
  have k1 := Int.natAbs_dvd_natAbs.2 h1
  have k2 := Int.natAbs_dvd_natAbs.2 h2
  rw [Int.natAbs_natCast] at k1 k2
  have := Nat.dvd_gcd k1 k2
  have h' : Nat.gcd x.natAbs y.natAbs = 1 := h
  rw [h'] at this
  exact Nat.dvd_one.1 this
theorem gcd_diff {x y : Int} (h : Int.gcd x y = 1) : Int.gcd (y - x) y = 1 := gcd_one fun d h1 h2 => by
  refine one_of h ?_ h2
  have := Int.dvd_sub h2 h1
  rwa [show y - (y - x) = x by omega] at this
theorem gcd_sq {z y : Int} (h : Int.gcd z y = 1) : Int.gcd (z * z) (y * y) = 1 := by
  have h' : Nat.Coprime z.natAbs y.natAbs := h
  have h1 : Nat.Coprime (z.natAbs * z.natAbs) (y.natAbs * y.natAbs) := Nat.Coprime.mul_right (Nat.Coprime.mul_left h' h') (Nat.Coprime.mul_left h' h')
  unfold Int.gcd
  rw [Int.natAbs_mul, Int.natAbs_mul]
  exact h1
theorem gcd_chance {x y : Int} (h : Int.gcd x y = 1) : Int.gcd (y * y - (y - x) * (y - x)) (y * y) = 1 := gcd_one fun d h1 h2 => by
  refine one_of (gcd_sq (gcd_diff h)) ?_ h2
  have := Int.dvd_sub h2 h1
  rwa [show y * y - (y * y - (y - x) * (y - x)) = (y - x) * (y - x) by omega] at this
theorem low_coprime {m n : Int} (hn : 0 < n) (h : Int.gcd m n = 1) : lowN m n = m ∧ lowD m n = n := by
  unfold lowN lowD lowG
  rw [if_neg (by omega), h]
  exact ⟨Int.tdiv_one _, Int.tdiv_one _⟩
/-- The chance of two trials, in lowest terms. -/
theorem low_two {w A : Int} (hA : 0 < A) : lowN (A * A - (A - w) * (A - w)) (A * A) = lowD w A * lowD w A - (lowD w A - lowN w A) * (lowD w A - lowN w A) ∧ lowD (A * A - (A - w) * (A - w)) (A * A) = lowD w A * lowD w A := by
  obtain ⟨g, g1, g2, g3, g4⟩ := low_parts (n := w) hA
  have p := (low_pos (n := w) hA).1
  generalize lowN w A = x at *
  generalize lowD w A = y at *
  have hyy : 0 < y * y := Int.mul_pos p p
  have hAA : 0 < A * A := Int.mul_pos hA hA
  have e1 : A - w = g * (y - x) := by rw [g2, g3, Int.mul_sub]
  have e2 : A * A = (g * g) * (y * y) := by rw [g3, i4comm]
  have e3 : (A - w) * (A - w) = (g * g) * ((y - x) * (y - x)) := by rw [e1, i4comm]
  obtain ⟨q1, q2⟩ := low_coprime hyy (gcd_chance g4)
  have key : (A * A - (A - w) * (A - w)) * (y * y) = (y * y - (y - x) * (y - x)) * (A * A) := by
    rw [e3, e2]
    generalize y * y = Y
    generalize (y - x) * (y - x) = Z
    generalize g * g = G
    rw [← Int.mul_sub, Int.mul_comm G (Y - Z), Int.mul_assoc]
  obtain ⟨r1, r2⟩ := low_eq hAA hyy key
  exact ⟨r1.trans q1, r2.trans q2⟩
theorem pw_bd {x : Int} (hx : 0 ≤ x ∧ x ≤ 1000) : ∀ i : Nat, i ≤ 2 → 0 ≤ x ^ i ∧ x ^ i ≤ 1000000
  | 0, _ => by rw [Int.pow_zero]; omega
  | 1, _ => by rw [Int.pow_succ, Int.pow_zero, Int.one_mul]; omega
  | 2, _ => by
    rw [Int.pow_succ, Int.pow_succ, Int.pow_zero, Int.one_mul]
    exact ⟨Int.mul_nonneg hx.1 hx.1, Int.le_trans (Int.mul_le_mul hx.2 hx.2 hx.1 (by omega)) (by omega)⟩
  | n + 3, h => by omega
theorem TrialsOf_s {a d : Int} {k : Nat} (hd : 0 < d ∧ d ≤ 1000) (ha : 0 ≤ a ∧ a ≤ d) (hg : Int.gcd a d = 1) (hk : 1 ≤ k ∧ k ≤ 2) : Sound Try.prog 15 [fracA a d, .int .i64 k]
    (.tup [fracA (d ^ k - (d - a) ^ k) (d ^ k), .int .i64 0]) := by
  refine sound_W f_blind_TrialsOf (Nat.le_of_ble_eq_true rfl) ?_
  have w1 : 1 ≤ (k : Int) ∧ (k : Int) ≤ 12 := by omega
  have e1 := trialsErr_s k
  rw [decide_eq_true w1, if_pos rfl] at e1
  have hD := divisor_s a d (by unfold S63; omega) (by unfold S63; omega)
  rw [hg] at hD
  have hc : ((1 : Nat) : Int) = 1 := rfl
  have w2 : d ≤ 1000000000 := by omega
  have pb := pw_bd (x := d) ⟨by omega, hd.2⟩
  have qb := pw_bd (x := d - a) ⟨by omega, by omega⟩
  simp only [c_blind_TrialsOf, fracA, hd.1, vcV, vcD, Int.reduceEq, Int.reduceNe, Int.reduceLT, Int.reduceLE, Nat.reduceEqDiff, Nat.reduceAdd, reduceIte, reduceCtorEq, Nat.reduceLT, Nat.reduceLeDiff, eq_self, Option.bind_some, Option.map_some, List.map_cons, List.map_nil, List.length_cons, List.length_nil, Option.getD_some, Option.getD_none, List.all_cons, List.all_nil, List.set_cons_zero, List.set_cons_succ, List.replicate_succ, List.replicate_zero, List.getElem?_cons_zero, List.getElem?_cons_succ, List.drop_succ_cons, List.drop_zero, List.take_succ_cons, List.take_zero, List.map_append, List.nil_append, List.cons_append, Nat.reduceShiftRight, Nat.reduceMod]
  refine callS_of hD ?_
  simp only [hc, vcV, vcD, Int.reduceEq, Int.reduceNe, Int.reduceLT, Int.reduceLE, Nat.reduceEqDiff, Nat.reduceAdd, reduceIte, reduceCtorEq, Nat.reduceLT, Nat.reduceLeDiff, eq_self, Option.bind_some, Option.map_some, List.map_cons, List.map_nil, List.length_cons, List.length_nil, Option.getD_some, Option.getD_none, List.all_cons, List.all_nil, List.set_cons_zero, List.set_cons_succ, List.replicate_succ, List.replicate_zero, List.getElem?_cons_zero, List.getElem?_cons_succ, List.drop_succ_cons, List.drop_zero, List.take_succ_cons, List.take_zero, List.map_append, List.nil_append, List.cons_append, Nat.reduceShiftRight, Nat.reduceMod]
  refine callS_of (unless_s _ _) ?_
  simp only [vcV, vcD, Int.reduceEq, Int.reduceNe, Int.reduceLT, Int.reduceLE, Nat.reduceEqDiff, Nat.reduceAdd, reduceIte, reduceCtorEq, Nat.reduceLT, Nat.reduceLeDiff, eq_self, Option.bind_some, Option.map_some, List.map_cons, List.map_nil, List.length_cons, List.length_nil, Option.getD_some, Option.getD_none, List.all_cons, List.all_nil, List.set_cons_zero, List.set_cons_succ, List.replicate_succ, List.replicate_zero, List.getElem?_cons_zero, List.getElem?_cons_succ, List.drop_succ_cons, List.drop_zero, List.take_succ_cons, List.take_zero, List.map_append, List.nil_append, List.cons_append, Nat.reduceShiftRight, Nat.reduceMod]
  refine callS_of (within_s _ _ _) ?_
  simp only [ha, w2, vcV, vcD, Int.reduceEq, Int.reduceNe, Int.reduceLT, Int.reduceLE, Nat.reduceEqDiff, Nat.reduceAdd, reduceIte, reduceCtorEq, Nat.reduceLT, Nat.reduceLeDiff, eq_self, Option.bind_some, Option.map_some, List.map_cons, List.map_nil, List.length_cons, List.length_nil, Option.getD_some, Option.getD_none, List.all_cons, List.all_nil, List.set_cons_zero, List.set_cons_succ, List.replicate_succ, List.replicate_zero, List.getElem?_cons_zero, List.getElem?_cons_succ, List.drop_succ_cons, List.drop_zero, List.take_succ_cons, List.take_zero, List.map_append, List.nil_append, List.cons_append, Nat.reduceShiftRight, Nat.reduceMod]
  refine callS_of (unless_s _ _) ?_
  simp only [vcV, vcD, Int.reduceEq, Int.reduceNe, Int.reduceLT, Int.reduceLE, Nat.reduceEqDiff, Nat.reduceAdd, reduceIte, reduceCtorEq, Nat.reduceLT, Nat.reduceLeDiff, eq_self, Option.bind_some, Option.map_some, List.map_cons, List.map_nil, List.length_cons, List.length_nil, Option.getD_some, Option.getD_none, List.all_cons, List.all_nil, List.set_cons_zero, List.set_cons_succ, List.replicate_succ, List.replicate_zero, List.getElem?_cons_zero, List.getElem?_cons_succ, List.drop_succ_cons, List.drop_zero, List.take_succ_cons, List.take_zero, List.map_append, List.nil_append, List.cons_append, Nat.reduceShiftRight, Nat.reduceMod]
  refine callS_of e1 ?_
  simp only [vcV, vcD, Int.reduceEq, Int.reduceNe, Int.reduceLT, Int.reduceLE, Nat.reduceEqDiff, Nat.reduceAdd, reduceIte, reduceCtorEq, Nat.reduceLT, Nat.reduceLeDiff, eq_self, Option.bind_some, Option.map_some, List.map_cons, List.map_nil, List.length_cons, List.length_nil, Option.getD_some, Option.getD_none, List.all_cons, List.all_nil, List.set_cons_zero, List.set_cons_succ, List.replicate_succ, List.replicate_zero, List.getElem?_cons_zero, List.getElem?_cons_succ, List.drop_succ_cons, List.drop_zero, List.take_succ_cons, List.take_zero, List.map_append, List.nil_append, List.cons_append, Nat.reduceShiftRight, Nat.reduceMod]
  refine callS_of (first3_s _ _ _) ?_
  simp only [vcV, vcD, Int.reduceEq, Int.reduceNe, Int.reduceLT, Int.reduceLE, Nat.reduceEqDiff, Nat.reduceAdd, reduceIte, reduceCtorEq, Nat.reduceLT, Nat.reduceLeDiff, eq_self, Option.bind_some, Option.map_some, List.map_cons, List.map_nil, List.length_cons, List.length_nil, Option.getD_some, Option.getD_none, List.all_cons, List.all_nil, List.set_cons_zero, List.set_cons_succ, List.replicate_succ, List.replicate_zero, List.getElem?_cons_zero, List.getElem?_cons_succ, List.drop_succ_cons, List.drop_zero, List.take_succ_cons, List.take_zero, List.map_append, List.nil_append, List.cons_append, Nat.reduceShiftRight, Nat.reduceMod]
  refine ⟨by intro _ k hk; simp [refsL, refs, upd] at hk; subst hk; simp [upd], ?_⟩
  refine W_loop (t := .mk) (α := PSigma fun i : Nat => i ≤ k) (fun ⟨i, _⟩ => (envOf [(2, .ptr 2 0 0), (4, .ptr 4 0 0), (7, .int .i64 (d ^ i)), (8, .int .i64 ((d - a) ^ i)), (40, .int .i64 k), (41, .int .i64 i)],
    stOf [(2, ⟨35, 2, [.agg [.int .i64 a, .int .i64 d]]⟩), (4, ⟨35, 2, [.agg [.int .i64 0, .int .i64 0]]⟩)])) (fun p => k - p.1) ⟨0, Nat.zero_le _⟩ ?_ (fun ⟨i, hi⟩ => ?_)
  · refine weakX [] (of_decide_eq_true rfl) (of_decide_eq_true rfl) ?_
    (simp only [Int.pow_zero, vcW, vcV, vcD, Int.reduceEq, Int.reduceNe, Int.reduceLT, Int.reduceLE, Nat.reduceEqDiff, Nat.reduceAdd, reduceIte, reduceCtorEq, Nat.reduceLT, Nat.reduceLeDiff, eq_self, Option.bind_some, Option.map_some, List.map_cons, List.map_nil, List.length_cons, List.length_nil, Option.getD_some, Option.getD_none, List.all_cons, List.all_nil, List.set_cons_zero, List.set_cons_succ, List.replicate_succ, List.replicate_zero, List.getElem?_cons_zero, List.getElem?_cons_succ, List.drop_succ_cons, List.drop_zero, List.take_succ_cons, List.take_zero, List.map_append, List.nil_append, List.cons_append, Nat.reduceShiftRight, Nat.reduceMod])
    (repeat' first | exact trivial | (with_reducible exact RnB.fxB (ints_fxB _)) | (with_reducible rfl) | (with_reducible refine And.intro ?_ ?_) | (with_reducible refine RnB.bb ?_; simp only [vcW, vcV, vcD, Int.reduceEq, Int.reduceNe, Int.reduceLT, Int.reduceLE, Nat.reduceEqDiff, Nat.reduceAdd, reduceIte, reduceCtorEq, Nat.reduceLT, Nat.reduceLeDiff, eq_self, Option.bind_some, Option.map_some, List.map_cons, List.map_nil, List.length_cons, List.length_nil, Option.getD_some, Option.getD_none, List.all_cons, List.all_nil, List.set_cons_zero, List.set_cons_succ, List.replicate_succ, List.replicate_zero, List.getElem?_cons_zero, List.getElem?_cons_succ, List.drop_succ_cons, List.drop_zero, List.take_succ_cons, List.take_zero, List.map_append, List.nil_append, List.cons_append, Nat.reduceShiftRight, Nat.reduceMod]) | (with_reducible refine RnB.nb ?_; simp only [vcW, vcV, vcD, Int.reduceEq, Int.reduceNe, Int.reduceLT, Int.reduceLE, Nat.reduceEqDiff, Nat.reduceAdd, reduceIte, reduceCtorEq, Nat.reduceLT, Nat.reduceLeDiff, eq_self, Option.bind_some, Option.map_some, List.map_cons, List.map_nil, List.length_cons, List.length_nil, Option.getD_some, Option.getD_none, List.all_cons, List.all_nil, List.set_cons_zero, List.set_cons_succ, List.replicate_succ, List.replicate_zero, List.getElem?_cons_zero, List.getElem?_cons_succ, List.drop_succ_cons, List.drop_zero, List.take_succ_cons, List.take_zero, List.map_append, List.nil_append, List.cons_append, Nat.reduceShiftRight, Nat.reduceMod]) | (with_reducible refine RnB.ii ?_) | (with_reducible refine RnB.app ?_) | (with_reducible refine RnB.fxB ?_; simp only [vcW, vcV, vcD, Int.reduceEq, Int.reduceNe, Int.reduceLT, Int.reduceLE, Nat.reduceEqDiff, Nat.reduceAdd, reduceIte, reduceCtorEq, Nat.reduceLT, Nat.reduceLeDiff, eq_self, Option.bind_some, Option.map_some, List.map_cons, List.map_nil, List.length_cons, List.length_nil, Option.getD_some, Option.getD_none, List.all_cons, List.all_nil, List.set_cons_zero, List.set_cons_succ, List.replicate_succ, List.replicate_zero, List.getElem?_cons_zero, List.getElem?_cons_succ, List.drop_succ_cons, List.drop_zero, List.take_succ_cons, List.take_zero, List.map_append, List.nil_append, List.cons_append, Nat.reduceShiftRight, Nat.reduceMod]) | omega)
  · dsimp only at hi ⊢
    by_cases h' : i < k
    · have h5 : (i : Int) < k := by omega
      have p1 := pb (i + 1) (by omega)
      have q1 := qb (i + 1) (by omega)
      have s1 : d ^ (i + 1) = d ^ i * d := Int.pow_succ ..
      have s2 : (d - a) ^ (i + 1) = (d - a) ^ i * (d - a) := Int.pow_succ ..
      rw [s1] at p1
      rw [s2] at q1
      have hbig : ¬ 1000000000 < d ^ i * d := by omega
      simp only [h5, vcV, vcD, Int.reduceEq, Int.reduceNe, Int.reduceLT, Int.reduceLE, Nat.reduceEqDiff, Nat.reduceAdd, reduceIte, reduceCtorEq, Nat.reduceLT, Nat.reduceLeDiff, eq_self, Option.bind_some, Option.map_some, List.map_cons, List.map_nil, List.length_cons, List.length_nil, Option.getD_some, Option.getD_none, List.all_cons, List.all_nil, List.set_cons_zero, List.set_cons_succ, List.replicate_succ, List.replicate_zero, List.getElem?_cons_zero, List.getElem?_cons_succ, List.drop_succ_cons, List.drop_zero, List.take_succ_cons, List.take_zero, List.map_append, List.nil_append, List.cons_append, Nat.reduceShiftRight, Nat.reduceMod]
      (repeat (with_reducible refine And.intro ?_ ?_; focus (first | omega | (unfold I64; omega))))
      simp only [hbig, vcV, vcD, Int.reduceEq, Int.reduceNe, Int.reduceLT, Int.reduceLE, Nat.reduceEqDiff, Nat.reduceAdd, reduceIte, reduceCtorEq, Nat.reduceLT, Nat.reduceLeDiff, eq_self, Option.bind_some, Option.map_some, List.map_cons, List.map_nil, List.length_cons, List.length_nil, Option.getD_some, Option.getD_none, List.all_cons, List.all_nil, List.set_cons_zero, List.set_cons_succ, List.replicate_succ, List.replicate_zero, List.getElem?_cons_zero, List.getElem?_cons_succ, List.drop_succ_cons, List.drop_zero, List.take_succ_cons, List.take_zero, List.map_append, List.nil_append, List.cons_append, Nat.reduceShiftRight, Nat.reduceMod]
      (repeat (with_reducible refine And.intro ?_ ?_; focus (first | omega | (unfold I64; omega))))
      refine ⟨⟨i + 1, h'⟩, by simp only; omega, ?_⟩
      refine weakX [] (of_decide_eq_true rfl) (of_decide_eq_true rfl) ?_
      (simp only [s1, s2, vcW, vcV, vcD, Int.reduceEq, Int.reduceNe, Int.reduceLT, Int.reduceLE, Nat.reduceEqDiff, Nat.reduceAdd, reduceIte, reduceCtorEq, Nat.reduceLT, Nat.reduceLeDiff, eq_self, Option.bind_some, Option.map_some, List.map_cons, List.map_nil, List.length_cons, List.length_nil, Option.getD_some, Option.getD_none, List.all_cons, List.all_nil, List.set_cons_zero, List.set_cons_succ, List.replicate_succ, List.replicate_zero, List.getElem?_cons_zero, List.getElem?_cons_succ, List.drop_succ_cons, List.drop_zero, List.take_succ_cons, List.take_zero, List.map_append, List.nil_append, List.cons_append, Nat.reduceShiftRight, Nat.reduceMod])
      (repeat' first | exact trivial | (with_reducible exact RnB.fxB (ints_fxB _)) | (with_reducible rfl) | (with_reducible refine And.intro ?_ ?_) | (with_reducible refine RnB.bb ?_; simp only [vcW, vcV, vcD, Int.reduceEq, Int.reduceNe, Int.reduceLT, Int.reduceLE, Nat.reduceEqDiff, Nat.reduceAdd, reduceIte, reduceCtorEq, Nat.reduceLT, Nat.reduceLeDiff, eq_self, Option.bind_some, Option.map_some, List.map_cons, List.map_nil, List.length_cons, List.length_nil, Option.getD_some, Option.getD_none, List.all_cons, List.all_nil, List.set_cons_zero, List.set_cons_succ, List.replicate_succ, List.replicate_zero, List.getElem?_cons_zero, List.getElem?_cons_succ, List.drop_succ_cons, List.drop_zero, List.take_succ_cons, List.take_zero, List.map_append, List.nil_append, List.cons_append, Nat.reduceShiftRight, Nat.reduceMod]) | (with_reducible refine RnB.nb ?_; simp only [vcW, vcV, vcD, Int.reduceEq, Int.reduceNe, Int.reduceLT, Int.reduceLE, Nat.reduceEqDiff, Nat.reduceAdd, reduceIte, reduceCtorEq, Nat.reduceLT, Nat.reduceLeDiff, eq_self, Option.bind_some, Option.map_some, List.map_cons, List.map_nil, List.length_cons, List.length_nil, Option.getD_some, Option.getD_none, List.all_cons, List.all_nil, List.set_cons_zero, List.set_cons_succ, List.replicate_succ, List.replicate_zero, List.getElem?_cons_zero, List.getElem?_cons_succ, List.drop_succ_cons, List.drop_zero, List.take_succ_cons, List.take_zero, List.map_append, List.nil_append, List.cons_append, Nat.reduceShiftRight, Nat.reduceMod]) | (with_reducible refine RnB.ii ?_) | (with_reducible refine RnB.app ?_) | (with_reducible refine RnB.fxB ?_; simp only [vcW, vcV, vcD, Int.reduceEq, Int.reduceNe, Int.reduceLT, Int.reduceLE, Nat.reduceEqDiff, Nat.reduceAdd, reduceIte, reduceCtorEq, Nat.reduceLT, Nat.reduceLeDiff, eq_self, Option.bind_some, Option.map_some, List.map_cons, List.map_nil, List.length_cons, List.length_nil, Option.getD_some, Option.getD_none, List.all_cons, List.all_nil, List.set_cons_zero, List.set_cons_succ, List.replicate_succ, List.replicate_zero, List.getElem?_cons_zero, List.getElem?_cons_succ, List.drop_succ_cons, List.drop_zero, List.take_succ_cons, List.take_zero, List.map_append, List.nil_append, List.cons_append, Nat.reduceShiftRight, Nat.reduceMod]) | omega)
    · have h5 : ¬ (i : Int) < k := by omega
      have hin : i = k := by omega
      subst hin
      have p1 := pb i (by omega)
      have q1 := qb i (by omega)
      simp only [h5, vcV, vcD, Int.reduceEq, Int.reduceNe, Int.reduceLT, Int.reduceLE, Nat.reduceEqDiff, Nat.reduceAdd, reduceIte, reduceCtorEq, Nat.reduceLT, Nat.reduceLeDiff, eq_self, Option.bind_some, Option.map_some, List.map_cons, List.map_nil, List.length_cons, List.length_nil, Option.getD_some, Option.getD_none, List.all_cons, List.all_nil, List.set_cons_zero, List.set_cons_succ, List.replicate_succ, List.replicate_zero, List.getElem?_cons_zero, List.getElem?_cons_succ, List.drop_succ_cons, List.drop_zero, List.take_succ_cons, List.take_zero, List.map_append, List.nil_append, List.cons_append, Nat.reduceShiftRight, Nat.reduceMod]
      unfold I64
      omega
theorem CountErr_s (t : Int) : Sound Try.prog 35 [.int .i64 t] (.int .i64 (if 1 ≤ t ∧ t ≤ 12 then 0 else 2)) := by
  refine sound_W f_ref09_CountErr (Nat.le_of_ble_eq_true rfl) ?_
  simp only [c_ref09_CountErr, vcV, vcD, Int.reduceEq, Int.reduceNe, Int.reduceLT, Int.reduceLE, Nat.reduceEqDiff, Nat.reduceAdd, reduceIte, reduceCtorEq, Nat.reduceLT, Nat.reduceLeDiff, eq_self, Option.bind_some, Option.map_some, List.map_cons, List.map_nil, List.length_cons, List.length_nil, Option.getD_some, Option.getD_none, List.all_cons, List.all_nil, List.set_cons_zero, List.set_cons_succ, List.replicate_succ, List.replicate_zero, List.getElem?_cons_zero, List.getElem?_cons_succ, List.drop_succ_cons, List.drop_zero, List.take_succ_cons, List.take_zero, List.map_append, List.nil_append, List.cons_append, Nat.reduceShiftRight, Nat.reduceMod]
  refine callS_of (Within_s _ _ _) ?_
  by_cases h : 1 ≤ t ∧ t ≤ 12
  · simp only [h, vcV, vcD, Int.reduceEq, Int.reduceNe, Int.reduceLT, Int.reduceLE, Nat.reduceEqDiff, Nat.reduceAdd, reduceIte, reduceCtorEq, Nat.reduceLT, Nat.reduceLeDiff, eq_self, Option.bind_some, Option.map_some, List.map_cons, List.map_nil, List.length_cons, List.length_nil, Option.getD_some, Option.getD_none, List.all_cons, List.all_nil, List.set_cons_zero, List.set_cons_succ, List.replicate_succ, List.replicate_zero, List.getElem?_cons_zero, List.getElem?_cons_succ, List.drop_succ_cons, List.drop_zero, List.take_succ_cons, List.take_zero, List.map_append, List.nil_append, List.cons_append, Nat.reduceShiftRight, Nat.reduceMod]
  · simp only [h, vcV, vcD, Int.reduceEq, Int.reduceNe, Int.reduceLT, Int.reduceLE, Nat.reduceEqDiff, Nat.reduceAdd, reduceIte, reduceCtorEq, Nat.reduceLT, Nat.reduceLeDiff, eq_self, Option.bind_some, Option.map_some, List.map_cons, List.map_nil, List.length_cons, List.length_nil, Option.getD_some, Option.getD_none, List.all_cons, List.all_nil, List.set_cons_zero, List.set_cons_succ, List.replicate_succ, List.replicate_zero, List.getElem?_cons_zero, List.getElem?_cons_succ, List.drop_succ_cons, List.drop_zero, List.take_succ_cons, List.take_zero, List.map_append, List.nil_append, List.cons_append, Nat.reduceShiftRight, Nat.reduceMod]
theorem StudyErr_s (t n : Int) (ht : 1 ≤ t ∧ t ≤ 12) : Sound Try.prog 7 [.int .i64 t, .int .i64 n] (.int .i64 (if 0 ≤ n ∧ n ≤ t then 0 else 2)) := by
  refine sound_W f_ref09_StudyErr (Nat.le_of_ble_eq_true rfl) ?_
  have hC := CountErr_s t
  rw [if_pos ht] at hC
  simp only [c_ref09_StudyErr, vcV, vcD, Int.reduceEq, Int.reduceNe, Int.reduceLT, Int.reduceLE, Nat.reduceEqDiff, Nat.reduceAdd, reduceIte, reduceCtorEq, Nat.reduceLT, Nat.reduceLeDiff, eq_self, Option.bind_some, Option.map_some, List.map_cons, List.map_nil, List.length_cons, List.length_nil, Option.getD_some, Option.getD_none, List.all_cons, List.all_nil, List.set_cons_zero, List.set_cons_succ, List.replicate_succ, List.replicate_zero, List.getElem?_cons_zero, List.getElem?_cons_succ, List.drop_succ_cons, List.drop_zero, List.take_succ_cons, List.take_zero, List.map_append, List.nil_append, List.cons_append, Nat.reduceShiftRight, Nat.reduceMod]
  refine callS_of hC ?_
  simp only [vcV, vcD, Int.reduceEq, Int.reduceNe, Int.reduceLT, Int.reduceLE, Nat.reduceEqDiff, Nat.reduceAdd, reduceIte, reduceCtorEq, Nat.reduceLT, Nat.reduceLeDiff, eq_self, Option.bind_some, Option.map_some, List.map_cons, List.map_nil, List.length_cons, List.length_nil, Option.getD_some, Option.getD_none, List.all_cons, List.all_nil, List.set_cons_zero, List.set_cons_succ, List.replicate_succ, List.replicate_zero, List.getElem?_cons_zero, List.getElem?_cons_succ, List.drop_succ_cons, List.drop_zero, List.take_succ_cons, List.take_zero, List.map_append, List.nil_append, List.cons_append, Nat.reduceShiftRight, Nat.reduceMod]
  refine callS_of (Within_s _ _ _) ?_
  by_cases h : 0 ≤ n ∧ n ≤ t
  · simp only [h, vcV, vcD, Int.reduceEq, Int.reduceNe, Int.reduceLT, Int.reduceLE, Nat.reduceEqDiff, Nat.reduceAdd, reduceIte, reduceCtorEq, Nat.reduceLT, Nat.reduceLeDiff, eq_self, Option.bind_some, Option.map_some, List.map_cons, List.map_nil, List.length_cons, List.length_nil, Option.getD_some, Option.getD_none, List.all_cons, List.all_nil, List.set_cons_zero, List.set_cons_succ, List.replicate_succ, List.replicate_zero, List.getElem?_cons_zero, List.getElem?_cons_succ, List.drop_succ_cons, List.drop_zero, List.take_succ_cons, List.take_zero, List.map_append, List.nil_append, List.cons_append, Nat.reduceShiftRight, Nat.reduceMod]
  · simp only [h, vcV, vcD, Int.reduceEq, Int.reduceNe, Int.reduceLT, Int.reduceLE, Nat.reduceEqDiff, Nat.reduceAdd, reduceIte, reduceCtorEq, Nat.reduceLT, Nat.reduceLeDiff, eq_self, Option.bind_some, Option.map_some, List.map_cons, List.map_nil, List.length_cons, List.length_nil, Option.getD_some, Option.getD_none, List.all_cons, List.all_nil, List.set_cons_zero, List.set_cons_succ, List.replicate_succ, List.replicate_zero, List.getElem?_cons_zero, List.getElem?_cons_succ, List.drop_succ_cons, List.drop_zero, List.take_succ_cons, List.take_zero, List.map_append, List.nil_append, List.cons_append, Nat.reduceShiftRight, Nat.reduceMod]
theorem ShareErr_s (n : Int) : Sound Try.prog 8 [.int .i64 n] (.int .i64 (if 0 ≤ n ∧ n ≤ 10 then 0 else 2)) := by
  refine sound_W f_ref09_ShareErr (Nat.le_of_ble_eq_true rfl) ?_
  simp only [c_ref09_ShareErr, vcV, vcD, Int.reduceEq, Int.reduceNe, Int.reduceLT, Int.reduceLE, Nat.reduceEqDiff, Nat.reduceAdd, reduceIte, reduceCtorEq, Nat.reduceLT, Nat.reduceLeDiff, eq_self, Option.bind_some, Option.map_some, List.map_cons, List.map_nil, List.length_cons, List.length_nil, Option.getD_some, Option.getD_none, List.all_cons, List.all_nil, List.set_cons_zero, List.set_cons_succ, List.replicate_succ, List.replicate_zero, List.getElem?_cons_zero, List.getElem?_cons_succ, List.drop_succ_cons, List.drop_zero, List.take_succ_cons, List.take_zero, List.map_append, List.nil_append, List.cons_append, Nat.reduceShiftRight, Nat.reduceMod]
  refine callS_of (Within_s _ _ _) ?_
  by_cases h : 0 ≤ n ∧ n ≤ 10
  · simp only [h, vcV, vcD, Int.reduceEq, Int.reduceNe, Int.reduceLT, Int.reduceLE, Nat.reduceEqDiff, Nat.reduceAdd, reduceIte, reduceCtorEq, Nat.reduceLT, Nat.reduceLeDiff, eq_self, Option.bind_some, Option.map_some, List.map_cons, List.map_nil, List.length_cons, List.length_nil, Option.getD_some, Option.getD_none, List.all_cons, List.all_nil, List.set_cons_zero, List.set_cons_succ, List.replicate_succ, List.replicate_zero, List.getElem?_cons_zero, List.getElem?_cons_succ, List.drop_succ_cons, List.drop_zero, List.take_succ_cons, List.take_zero, List.map_append, List.nil_append, List.cons_append, Nat.reduceShiftRight, Nat.reduceMod]
  · simp only [h, vcV, vcD, Int.reduceEq, Int.reduceNe, Int.reduceLT, Int.reduceLE, Nat.reduceEqDiff, Nat.reduceAdd, reduceIte, reduceCtorEq, Nat.reduceLT, Nat.reduceLeDiff, eq_self, Option.bind_some, Option.map_some, List.map_cons, List.map_nil, List.length_cons, List.length_nil, Option.getD_some, Option.getD_none, List.all_cons, List.all_nil, List.set_cons_zero, List.set_cons_succ, List.replicate_succ, List.replicate_zero, List.getElem?_cons_zero, List.getElem?_cons_succ, List.drop_succ_cons, List.drop_zero, List.take_succ_cons, List.take_zero, List.map_append, List.nil_append, List.cons_append, Nat.reduceShiftRight, Nat.reduceMod]
theorem RiskErr_s (n : Int) : Sound Try.prog 9 [.int .i64 n] (.int .i64 (if 0 ≤ n ∧ n ≤ 999 then 0 else 2)) := by
  refine sound_W f_ref09_RiskErr (Nat.le_of_ble_eq_true rfl) ?_
  simp only [c_ref09_RiskErr, vcV, vcD, Int.reduceEq, Int.reduceNe, Int.reduceLT, Int.reduceLE, Nat.reduceEqDiff, Nat.reduceAdd, reduceIte, reduceCtorEq, Nat.reduceLT, Nat.reduceLeDiff, eq_self, Option.bind_some, Option.map_some, List.map_cons, List.map_nil, List.length_cons, List.length_nil, Option.getD_some, Option.getD_none, List.all_cons, List.all_nil, List.set_cons_zero, List.set_cons_succ, List.replicate_succ, List.replicate_zero, List.getElem?_cons_zero, List.getElem?_cons_succ, List.drop_succ_cons, List.drop_zero, List.take_succ_cons, List.take_zero, List.map_append, List.nil_append, List.cons_append, Nat.reduceShiftRight, Nat.reduceMod]
  refine callS_of (Within_s _ _ _) ?_
  by_cases h : 0 ≤ n ∧ n ≤ 999
  · simp only [h, vcV, vcD, Int.reduceEq, Int.reduceNe, Int.reduceLT, Int.reduceLE, Nat.reduceEqDiff, Nat.reduceAdd, reduceIte, reduceCtorEq, Nat.reduceLT, Nat.reduceLeDiff, eq_self, Option.bind_some, Option.map_some, List.map_cons, List.map_nil, List.length_cons, List.length_nil, Option.getD_some, Option.getD_none, List.all_cons, List.all_nil, List.set_cons_zero, List.set_cons_succ, List.replicate_succ, List.replicate_zero, List.getElem?_cons_zero, List.getElem?_cons_succ, List.drop_succ_cons, List.drop_zero, List.take_succ_cons, List.take_zero, List.map_append, List.nil_append, List.cons_append, Nat.reduceShiftRight, Nat.reduceMod]
  · simp only [h, vcV, vcD, Int.reduceEq, Int.reduceNe, Int.reduceLT, Int.reduceLE, Nat.reduceEqDiff, Nat.reduceAdd, reduceIte, reduceCtorEq, Nat.reduceLT, Nat.reduceLeDiff, eq_self, Option.bind_some, Option.map_some, List.map_cons, List.map_nil, List.length_cons, List.length_nil, Option.getD_some, Option.getD_none, List.all_cons, List.all_nil, List.set_cons_zero, List.set_cons_succ, List.replicate_succ, List.replicate_zero, List.getElem?_cons_zero, List.getElem?_cons_succ, List.drop_succ_cons, List.drop_zero, List.take_succ_cons, List.take_zero, List.map_append, List.nil_append, List.cons_append, Nat.reduceShiftRight, Nat.reduceMod]
theorem All_s {T : Nat} (hT : T ≤ 3) : Sound Try.prog 10 [.int .i64 T] (.int .i64 (10 ^ T)) := by
  refine sound_W f_ref09_All (Nat.le_of_ble_eq_true rfl) ?_
  have hp : ∀ i : Nat, i ≤ 3 → 1 ≤ (10 : Int) ^ i ∧ (10 : Int) ^ i ≤ 1000 := fun i hi => by
    rcases (by omega : i = 0 ∨ i = 1 ∨ i = 2 ∨ i = 3) with rfl | rfl | rfl | rfl <;> decide
  simp only [c_ref09_All, vcV, vcD, Int.reduceEq, Int.reduceNe, Int.reduceLT, Int.reduceLE, Nat.reduceEqDiff, Nat.reduceAdd, reduceIte, reduceCtorEq, Nat.reduceLT, Nat.reduceLeDiff, eq_self, Option.bind_some, Option.map_some, List.map_cons, List.map_nil, List.length_cons, List.length_nil, Option.getD_some, Option.getD_none, List.all_cons, List.all_nil, List.set_cons_zero, List.set_cons_succ, List.replicate_succ, List.replicate_zero, List.getElem?_cons_zero, List.getElem?_cons_succ, List.drop_succ_cons, List.drop_zero, List.take_succ_cons, List.take_zero, List.map_append, List.nil_append, List.cons_append, Nat.reduceShiftRight, Nat.reduceMod]
  refine W_loop (t := .mk) (α := PSigma fun i : Nat => i ≤ T) (fun ⟨i, _⟩ => (envOf [(0, .int .i64 T), (3, .int .i64 (10 ^ i)), (4, .int .i64 i)], stOf [])) (fun p => T - p.1) ⟨0, Nat.zero_le _⟩ ?_ (fun ⟨i, hi⟩ => ?_)
  · refine weakX [] (of_decide_eq_true rfl) (of_decide_eq_true rfl) ?_
    (simp only [Int.pow_zero, vcW, vcV, vcD, Int.reduceEq, Int.reduceNe, Int.reduceLT, Int.reduceLE, Nat.reduceEqDiff, Nat.reduceAdd, reduceIte, reduceCtorEq, Nat.reduceLT, Nat.reduceLeDiff, eq_self, Option.bind_some, Option.map_some, List.map_cons, List.map_nil, List.length_cons, List.length_nil, Option.getD_some, Option.getD_none, List.all_cons, List.all_nil, List.set_cons_zero, List.set_cons_succ, List.replicate_succ, List.replicate_zero, List.getElem?_cons_zero, List.getElem?_cons_succ, List.drop_succ_cons, List.drop_zero, List.take_succ_cons, List.take_zero, List.map_append, List.nil_append, List.cons_append, Nat.reduceShiftRight, Nat.reduceMod])
    (repeat' first | exact trivial | (with_reducible exact RnB.fxB (ints_fxB _)) | (with_reducible rfl) | (with_reducible refine And.intro ?_ ?_) | (with_reducible refine RnB.bb ?_; simp only [vcW, vcV, vcD, Int.reduceEq, Int.reduceNe, Int.reduceLT, Int.reduceLE, Nat.reduceEqDiff, Nat.reduceAdd, reduceIte, reduceCtorEq, Nat.reduceLT, Nat.reduceLeDiff, eq_self, Option.bind_some, Option.map_some, List.map_cons, List.map_nil, List.length_cons, List.length_nil, Option.getD_some, Option.getD_none, List.all_cons, List.all_nil, List.set_cons_zero, List.set_cons_succ, List.replicate_succ, List.replicate_zero, List.getElem?_cons_zero, List.getElem?_cons_succ, List.drop_succ_cons, List.drop_zero, List.take_succ_cons, List.take_zero, List.map_append, List.nil_append, List.cons_append, Nat.reduceShiftRight, Nat.reduceMod]) | (with_reducible refine RnB.nb ?_; simp only [vcW, vcV, vcD, Int.reduceEq, Int.reduceNe, Int.reduceLT, Int.reduceLE, Nat.reduceEqDiff, Nat.reduceAdd, reduceIte, reduceCtorEq, Nat.reduceLT, Nat.reduceLeDiff, eq_self, Option.bind_some, Option.map_some, List.map_cons, List.map_nil, List.length_cons, List.length_nil, Option.getD_some, Option.getD_none, List.all_cons, List.all_nil, List.set_cons_zero, List.set_cons_succ, List.replicate_succ, List.replicate_zero, List.getElem?_cons_zero, List.getElem?_cons_succ, List.drop_succ_cons, List.drop_zero, List.take_succ_cons, List.take_zero, List.map_append, List.nil_append, List.cons_append, Nat.reduceShiftRight, Nat.reduceMod]) | (with_reducible refine RnB.ii ?_) | (with_reducible refine RnB.app ?_) | (with_reducible refine RnB.fxB ?_; simp only [vcW, vcV, vcD, Int.reduceEq, Int.reduceNe, Int.reduceLT, Int.reduceLE, Nat.reduceEqDiff, Nat.reduceAdd, reduceIte, reduceCtorEq, Nat.reduceLT, Nat.reduceLeDiff, eq_self, Option.bind_some, Option.map_some, List.map_cons, List.map_nil, List.length_cons, List.length_nil, Option.getD_some, Option.getD_none, List.all_cons, List.all_nil, List.set_cons_zero, List.set_cons_succ, List.replicate_succ, List.replicate_zero, List.getElem?_cons_zero, List.getElem?_cons_succ, List.drop_succ_cons, List.drop_zero, List.take_succ_cons, List.take_zero, List.map_append, List.nil_append, List.cons_append, Nat.reduceShiftRight, Nat.reduceMod]) | omega)
  · dsimp only at hi ⊢
    by_cases h' : i < T
    · have h5 : (i : Int) < T := by omega
      have p1 := hp (i + 1) (by omega)
      have s1 : (10 : Int) ^ (i + 1) = 10 ^ i * 10 := Int.pow_succ ..
      rw [s1] at p1
      simp only [h5, vcV, vcD, Int.reduceEq, Int.reduceNe, Int.reduceLT, Int.reduceLE, Nat.reduceEqDiff, Nat.reduceAdd, reduceIte, reduceCtorEq, Nat.reduceLT, Nat.reduceLeDiff, eq_self, Option.bind_some, Option.map_some, List.map_cons, List.map_nil, List.length_cons, List.length_nil, Option.getD_some, Option.getD_none, List.all_cons, List.all_nil, List.set_cons_zero, List.set_cons_succ, List.replicate_succ, List.replicate_zero, List.getElem?_cons_zero, List.getElem?_cons_succ, List.drop_succ_cons, List.drop_zero, List.take_succ_cons, List.take_zero, List.map_append, List.nil_append, List.cons_append, Nat.reduceShiftRight, Nat.reduceMod]
      (repeat (with_reducible refine And.intro ?_ ?_; focus (first | omega | (unfold I64; omega))))
      refine ⟨⟨i + 1, h'⟩, by simp only; omega, ?_⟩
      refine weakX [] (of_decide_eq_true rfl) (of_decide_eq_true rfl) ?_
      (simp only [s1, vcW, vcV, vcD, Int.reduceEq, Int.reduceNe, Int.reduceLT, Int.reduceLE, Nat.reduceEqDiff, Nat.reduceAdd, reduceIte, reduceCtorEq, Nat.reduceLT, Nat.reduceLeDiff, eq_self, Option.bind_some, Option.map_some, List.map_cons, List.map_nil, List.length_cons, List.length_nil, Option.getD_some, Option.getD_none, List.all_cons, List.all_nil, List.set_cons_zero, List.set_cons_succ, List.replicate_succ, List.replicate_zero, List.getElem?_cons_zero, List.getElem?_cons_succ, List.drop_succ_cons, List.drop_zero, List.take_succ_cons, List.take_zero, List.map_append, List.nil_append, List.cons_append, Nat.reduceShiftRight, Nat.reduceMod])
      (repeat' first | exact trivial | (with_reducible exact RnB.fxB (ints_fxB _)) | (with_reducible rfl) | (with_reducible refine And.intro ?_ ?_) | (with_reducible refine RnB.bb ?_; simp only [vcW, vcV, vcD, Int.reduceEq, Int.reduceNe, Int.reduceLT, Int.reduceLE, Nat.reduceEqDiff, Nat.reduceAdd, reduceIte, reduceCtorEq, Nat.reduceLT, Nat.reduceLeDiff, eq_self, Option.bind_some, Option.map_some, List.map_cons, List.map_nil, List.length_cons, List.length_nil, Option.getD_some, Option.getD_none, List.all_cons, List.all_nil, List.set_cons_zero, List.set_cons_succ, List.replicate_succ, List.replicate_zero, List.getElem?_cons_zero, List.getElem?_cons_succ, List.drop_succ_cons, List.drop_zero, List.take_succ_cons, List.take_zero, List.map_append, List.nil_append, List.cons_append, Nat.reduceShiftRight, Nat.reduceMod]) | (with_reducible refine RnB.nb ?_; simp only [vcW, vcV, vcD, Int.reduceEq, Int.reduceNe, Int.reduceLT, Int.reduceLE, Nat.reduceEqDiff, Nat.reduceAdd, reduceIte, reduceCtorEq, Nat.reduceLT, Nat.reduceLeDiff, eq_self, Option.bind_some, Option.map_some, List.map_cons, List.map_nil, List.length_cons, List.length_nil, Option.getD_some, Option.getD_none, List.all_cons, List.all_nil, List.set_cons_zero, List.set_cons_succ, List.replicate_succ, List.replicate_zero, List.getElem?_cons_zero, List.getElem?_cons_succ, List.drop_succ_cons, List.drop_zero, List.take_succ_cons, List.take_zero, List.map_append, List.nil_append, List.cons_append, Nat.reduceShiftRight, Nat.reduceMod]) | (with_reducible refine RnB.ii ?_) | (with_reducible refine RnB.app ?_) | (with_reducible refine RnB.fxB ?_; simp only [vcW, vcV, vcD, Int.reduceEq, Int.reduceNe, Int.reduceLT, Int.reduceLE, Nat.reduceEqDiff, Nat.reduceAdd, reduceIte, reduceCtorEq, Nat.reduceLT, Nat.reduceLeDiff, eq_self, Option.bind_some, Option.map_some, List.map_cons, List.map_nil, List.length_cons, List.length_nil, Option.getD_some, Option.getD_none, List.all_cons, List.all_nil, List.set_cons_zero, List.set_cons_succ, List.replicate_succ, List.replicate_zero, List.getElem?_cons_zero, List.getElem?_cons_succ, List.drop_succ_cons, List.drop_zero, List.take_succ_cons, List.take_zero, List.map_append, List.nil_append, List.cons_append, Nat.reduceShiftRight, Nat.reduceMod]) | omega)
    · have h5 : ¬ (i : Int) < T := by omega
      have hin : i = T := by omega
      subst hin
      simp only [h5, vcV, vcD, Int.reduceEq, Int.reduceNe, Int.reduceLT, Int.reduceLE, Nat.reduceEqDiff, Nat.reduceAdd, reduceIte, reduceCtorEq, Nat.reduceLT, Nat.reduceLeDiff, eq_self, Option.bind_some, Option.map_some, List.map_cons, List.map_nil, List.length_cons, List.length_nil, Option.getD_some, Option.getD_none, List.all_cons, List.all_nil, List.set_cons_zero, List.set_cons_succ, List.replicate_succ, List.replicate_zero, List.getElem?_cons_zero, List.getElem?_cons_succ, List.drop_succ_cons, List.drop_zero, List.take_succ_cons, List.take_zero, List.map_append, List.nil_append, List.cons_append, Nat.reduceShiftRight, Nat.reduceMod]
end Go.Proofs.Ytngjhppgojfceaa

/- The marked code of law functions; printed by a program. By an AI agent; nothing here is trusted. -/
namespace Go.Proofs.Ytngjhppgojfceaa
open Go.Av
def cl_top_TopBlindCovers_6 : ML := (.seq (.reg 790403 [⟨none, (some 104), (.mv (.t 0))⟩, ⟨none, (some 105), (.mv (.t 1))⟩, ⟨none, (some 106), (.mv (.t 8))⟩, ⟨none, (some 107), (.call 12 [(.t 104), (.t 105), (.t 106)])⟩, ⟨none, (some 103), (.mv (.t 107))⟩, ⟨none, (some 108), (.extract (.t 103) 0)⟩, ⟨none, (some 109), (.extract (.t 103) 1)⟩, ⟨none, (some 18), (.mv (.t 108))⟩, ⟨none, (some 19), (.mv (.t 109))⟩] false []) (.seq (.reg 3936000 [⟨none, (some 111), (.mv (.t 0))⟩, ⟨none, (some 112), (.mv (.t 7))⟩, ⟨none, (some 113), (.mv (.t 1))⟩, ⟨none, (some 114), (.call 13 [(.t 111), (.t 112), (.t 113)])⟩, ⟨none, (some 110), (.mv (.t 114))⟩, ⟨none, (some 115), (.extract (.t 110) 0)⟩, ⟨none, (some 116), (.extract (.t 110) 1)⟩, ⟨none, (some 20), (.mv (.t 115))⟩, ⟨none, (some 21), (.mv (.t 116))⟩] false []) (.seq (.seq (.reg 2787593149816327892691964784081045188250112 [⟨none, (some 117), (.mv (.t 19))⟩, ⟨none, (some 118), (.bin .neq (.t 117) (.c (.int .i64 0)))⟩, ⟨none, (some 119), (.mv (.t 118))⟩, ⟨(some (119, false)), (some 120), (.mv (.t 21))⟩, ⟨(some (119, false)), (some 121), (.bin .neq (.t 120) (.c (.int .i64 0)))⟩, ⟨none, (some 122), (.pick (.t 119) (.c (.bool true)) (.t 121))⟩, ⟨none, (some 123), (.mv (.t 122))⟩, ⟨(some (123, false)), (some 124), (.mv (.t 18))⟩, ⟨(some (123, false)), (some 125), (.mv (.t 10))⟩, ⟨(some (123, false)), (some 126), (.bin .neq (.t 124) (.t 125))⟩, ⟨none, (some 127), (.pick (.t 123) (.c (.bool true)) (.t 126))⟩, ⟨none, (some 128), (.mv (.t 127))⟩, ⟨(some (128, false)), (some 129), (.mv (.t 20))⟩, ⟨(some (128, false)), (some 130), (.mv (.t 11))⟩, ⟨(some (128, false)), (some 131), (.bin .neq (.t 129) (.t 130))⟩, ⟨none, (some 132), (.pick (.t 128) (.c (.bool true)) (.t 131))⟩, ⟨none, (some 133), (.mv (.t 132))⟩, ⟨(some (133, false)), (some 134), (.mv (.t 10))⟩, ⟨(some (133, false)), (some 135), (.bin .mul (.c (.int .i64 1000)) (.t 134))⟩, ⟨(some (133, false)), (some 136), (.mv (.t 8))⟩, ⟨(some (133, false)), (some 137), (.bin .sub (.c (.int .i64 1000)) (.t 136))⟩, ⟨(some (133, false)), (some 138), (.mv (.t 9))⟩, ⟨(some (133, false)), (some 139), (.bin .mul (.t 137) (.t 138))⟩, ⟨(some (133, false)), (some 140), (.bin .lss (.t 135) (.t 139))⟩, ⟨none, (some 141), (.pick (.t 133) (.c (.bool true)) (.t 140))⟩] false []) (.cond (.t 141) (.seq (.reg 64 [⟨none, (some 6), (.mv (.c (.bool false)))⟩] false []) .ret) .skip)) (.seq (.reg 4196864 [⟨none, (some 142), (.mv (.t 11))⟩, ⟨none, (some 143), (.mv (.t 9))⟩, ⟨none, (some 144), (.call 14 [(.t 142), (.t 143)])⟩, ⟨none, (some 22), (.alloc 35 2 (.agg [(.int .i64 0), (.int .i64 0)]))⟩, ⟨none, none, (.store 2 (.t 22) (.t 144))⟩] false []) (.seq (.reg 29362688 [⟨none, (some 146), (.load (some 2) (.t 22))⟩, ⟨none, (some 147), (.call 15 [(.t 146), (.c (.int .i64 2))])⟩, ⟨none, (some 145), (.mv (.t 147))⟩, ⟨none, (some 148), (.extract (.t 145) 0)⟩, ⟨none, (some 149), (.extract (.t 145) 1)⟩, ⟨none, (some 23), (.alloc 35 2 (.agg [(.int .i64 0), (.int .i64 0)]))⟩, ⟨none, none, (.store 2 (.t 23) (.t 148))⟩, ⟨none, (some 24), (.mv (.t 149))⟩] false []) (.seq (.reg 130025984 [⟨none, (some 151), (.load (some 2) (.t 22))⟩, ⟨none, (some 152), (.call 15 [(.t 151), (.c (.int .i64 1))])⟩, ⟨none, (some 150), (.mv (.t 152))⟩, ⟨none, (some 153), (.extract (.t 150) 0)⟩, ⟨none, (some 154), (.extract (.t 150) 1)⟩, ⟨none, (some 25), (.alloc 35 2 (.agg [(.int .i64 0), (.int .i64 0)]))⟩, ⟨none, none, (.store 2 (.t 25) (.t 153))⟩, ⟨none, (some 26), (.mv (.t 154))⟩] false []) (.seq (.reg 64 [⟨none, (some 155), (.mv (.t 24))⟩, ⟨none, (some 156), (.bin .eql (.t 155) (.c (.int .i64 0)))⟩, ⟨none, (some 157), (.mv (.t 156))⟩, ⟨(some (157, true)), (some 158), (.mv (.t 26))⟩, ⟨(some (157, true)), (some 159), (.bin .eql (.t 158) (.c (.int .i64 0)))⟩, ⟨none, (some 160), (.pick (.t 157) (.t 159) (.c (.bool false)))⟩, ⟨none, (some 161), (.mv (.t 160))⟩, ⟨(some (161, true)), (some 162), (.load (some 2) (.t 25))⟩, ⟨(some (161, true)), (some 163), (.load (some 2) (.t 22))⟩, ⟨(some (161, true)), (some 164), (.eqS false [1, 1] (.t 162) (.t 163))⟩, ⟨none, (some 165), (.pick (.t 161) (.t 164) (.c (.bool false)))⟩, ⟨none, (some 166), (.mv (.t 165))⟩, ⟨(some (166, true)), (some 167), (.load (some 2) (.t 23))⟩, ⟨(some (166, true)), (some 168), (.mv (.t 9))⟩, ⟨(some (166, true)), (some 169), (.mv (.t 9))⟩, ⟨(some (166, true)), (some 170), (.bin .mul (.t 168) (.t 169))⟩, ⟨(some (166, true)), (some 171), (.mv (.t 9))⟩, ⟨(some (166, true)), (some 172), (.mv (.t 11))⟩, ⟨(some (166, true)), (some 173), (.bin .sub (.t 171) (.t 172))⟩, ⟨(some (166, true)), (some 174), (.mv (.t 9))⟩, ⟨(some (166, true)), (some 175), (.mv (.t 11))⟩, ⟨(some (166, true)), (some 176), (.bin .sub (.t 174) (.t 175))⟩, ⟨(some (166, true)), (some 177), (.bin .mul (.t 173) (.t 176))⟩, ⟨(some (166, true)), (some 178), (.bin .sub (.t 170) (.t 177))⟩, ⟨(some (166, true)), (some 179), (.mv (.t 9))⟩, ⟨(some (166, true)), (some 180), (.mv (.t 9))⟩, ⟨(some (166, true)), (some 181), (.bin .mul (.t 179) (.t 180))⟩, ⟨(some (166, true)), (some 182), (.call 14 [(.t 178), (.t 181)])⟩, ⟨(some (166, true)), (some 183), (.eqS false [1, 1] (.t 167) (.t 182))⟩, ⟨none, (some 184), (.pick (.t 166) (.t 183) (.c (.bool false)))⟩, ⟨none, (some 6), (.mv (.t 184))⟩] true []) .ret)))))))
def cl_top_TopBlindCovers_5 : ML := (.seq (.seq (.reg 8067 [⟨none, (some 12), (.mv (.c (.int .i64 0)))⟩] false []) (.block 0 (.loop (.seq (.seq (.reg 72057594037936003 [⟨none, (some 54), (.mv (.t 12))⟩, ⟨none, (some 55), (.mv (.t 9))⟩, ⟨none, (some 56), (.bin .lss (.t 54) (.t 55))⟩] false []) (.cond (.t 56) .skip (.exit 0))) (.seq (.block 1 (.seq (.reg 32643 [⟨none, (some 59), (.mv (.t 12))⟩, ⟨none, (some 13), (.mv (.c (.int .i64 0)))⟩, ⟨none, (some 14), (.mv (.t 59))⟩] false []) (.seq (.seq (.reg 65411 [⟨none, (some 15), (.mv (.c (.int .i64 0)))⟩] false []) (.block 2 (.loop (.seq (.seq (.reg 4611686018427453315 [⟨none, (some 60), (.mv (.t 15))⟩, ⟨none, (some 61), (.mv (.t 0))⟩, ⟨none, (some 62), (.bin .lss (.t 60) (.t 61))⟩] false []) (.cond (.t 62) .skip (.exit 2))) (.seq (.block 3 (.seq (.seq (.reg 295147905179352891267 [⟨none, (some 65), (.mv (.t 14))⟩, ⟨none, (some 66), (.bin .rem (.t 65) (.c (.int .i64 10)))⟩, ⟨none, (some 67), (.mv (.t 1))⟩, ⟨none, (some 68), (.bin .lss (.t 66) (.t 67))⟩] false []) (.cond (.t 68) (.reg 65411 [⟨none, (some 69), (.mv (.t 13))⟩, ⟨none, (some 70), (.bin .add (.t 69) (.c (.int .i64 1)))⟩, ⟨none, (some 13), (.mv (.t 70))⟩] false []) .skip)) (.reg 65411 [⟨none, (some 71), (.mv (.t 14))⟩, ⟨none, (some 72), (.bin .quo (.t 71) (.c (.int .i64 10)))⟩, ⟨none, (some 14), (.mv (.t 72))⟩] false []))) (.reg 65411 [⟨none, (some 63), (.mv (.t 15))⟩, ⟨none, (some 64), (.bin .add (.t 63) (.c (.int .i64 1)))⟩, ⟨none, (some 15), (.mv (.t 64))⟩] false [])))))) (.seq (.reg 212867 [⟨none, (some 74), (.mv (.t 0))⟩, ⟨none, (some 75), (.mv (.t 13))⟩, ⟨none, (some 76), (.mv (.t 8))⟩, ⟨none, (some 77), (.call 11 [(.t 74), (.t 75), (.t 76)])⟩, ⟨none, (some 73), (.mv (.t 77))⟩, ⟨none, (some 78), (.extract (.t 73) 0)⟩, ⟨none, (some 79), (.extract (.t 73) 1)⟩, ⟨none, (some 16), (.alloc 28 2 (.agg [(.int .i64 0), (.int .i64 0)]))⟩, ⟨none, none, (.store 2 (.t 16) (.t 78))⟩, ⟨none, (some 17), (.mv (.t 79))⟩] false []) (.seq (.seq (.reg 38685626227668133590810499 [⟨none, (some 80), (.mv (.t 17))⟩, ⟨none, (some 81), (.bin .neq (.t 80) (.c (.int .i64 0)))⟩, ⟨none, (some 82), (.mv (.t 81))⟩, ⟨(some (82, true)), (some 83), (.mv (.t 17))⟩, ⟨(some (82, true)), (some 84), (.bin .neq (.t 83) (.c (.int .i64 12)))⟩, ⟨none, (some 85), (.pick (.t 82) (.t 84) (.c (.bool false)))⟩] false []) (.cond (.t 85) (.seq (.reg 64 [⟨none, (some 6), (.mv (.c (.bool false)))⟩] false []) .ret) .skip)) (.seq (.seq (.reg 39614081257132168796771991427 [⟨none, (some 86), (.mv (.t 17))⟩, ⟨none, (some 87), (.bin .eql (.t 86) (.c (.int .i64 0)))⟩, ⟨none, (some 88), (.mv (.t 87))⟩, ⟨(some (88, true)), (some 89), (.mv (.t 1))⟩, ⟨(some (88, true)), (some 90), (.fieldAddr (.t 16) 0)⟩, ⟨(some (88, true)), (some 91), (.load none (.t 90))⟩, ⟨(some (88, true)), (some 92), (.fieldAddr (.t 16) 1)⟩, ⟨(some (88, true)), (some 93), (.load none (.t 92))⟩, ⟨(some (88, true)), (some 94), (.call 6 [(.t 89), (.t 91), (.t 93)])⟩, ⟨none, (some 95), (.pick (.t 88) (.t 94) (.c (.bool false)))⟩] false []) (.cond (.t 95) (.reg 16259 [⟨none, (some 96), (.mv (.t 10))⟩, ⟨none, (some 97), (.bin .add (.t 96) (.c (.int .i64 1)))⟩, ⟨none, (some 10), (.mv (.t 97))⟩] false []) .skip)) (.seq (.reg 1267650600228229401496703213443 [⟨none, (some 98), (.mv (.t 13))⟩, ⟨none, (some 99), (.mv (.t 7))⟩, ⟨none, (some 100), (.bin .geq (.t 98) (.t 99))⟩] false []) (.cond (.t 100) (.reg 8067 [⟨none, (some 101), (.mv (.t 11))⟩, ⟨none, (some 102), (.bin .add (.t 101) (.c (.int .i64 1)))⟩, ⟨none, (some 11), (.mv (.t 102))⟩] false []) .skip)))))))) (.reg 8067 [⟨none, (some 57), (.mv (.t 12))⟩, ⟨none, (some 58), (.bin .add (.t 57) (.c (.int .i64 1)))⟩, ⟨none, (some 12), (.mv (.t 58))⟩] false [])))))) (.cut cl_top_TopBlindCovers_6))
def cl_top_TopBlindCovers : ML := (.seq (.reg 35 [⟨none, (some 5), (.box 22 2 (.t 2))⟩, ⟨none, (some 6), (.mv (.c (.bool false)))⟩] false []) (.seq (.seq (.reg 268435491 [⟨none, (some 27), (.call 5 [])⟩, ⟨none, (some 28), (.un .not (.t 27))⟩] false []) (.cond (.t 28) (.seq (.reg 64 [⟨none, (some 6), (.mv (.c (.bool false)))⟩] false []) .ret) .skip)) (.seq (.reg 387 [⟨none, (some 29), (.indexArr (.t 5) (.c (.int .i64 0)) 1 2)⟩, ⟨none, (some 30), (.load none (.t 29))⟩, ⟨none, (some 31), (.indexArr (.t 5) (.c (.int .i64 1)) 1 2)⟩, ⟨none, (some 32), (.load none (.t 31))⟩, ⟨none, (some 7), (.mv (.t 30))⟩, ⟨none, (some 8), (.mv (.t 32))⟩] true []) (.seq (.seq (.reg 2251799813685635 [⟨none, (some 33), (.mv (.t 0))⟩, ⟨none, (some 34), (.call 6 [(.t 33), (.c (.int .i64 1)), (.c (.int .i64 3))])⟩, ⟨none, (some 35), (.un .not (.t 34))⟩, ⟨none, (some 36), (.mv (.t 35))⟩, ⟨(some (36, false)), (some 37), (.mv (.t 0))⟩, ⟨(some (36, false)), (some 38), (.mv (.t 7))⟩, ⟨(some (36, false)), (some 39), (.call 7 [(.t 37), (.t 38)])⟩, ⟨(some (36, false)), (some 40), (.bin .neq (.t 39) (.c (.int .i64 0)))⟩, ⟨none, (some 41), (.pick (.t 36) (.c (.bool true)) (.t 40))⟩, ⟨none, (some 42), (.mv (.t 41))⟩, ⟨(some (42, false)), (some 43), (.mv (.t 1))⟩, ⟨(some (42, false)), (some 44), (.call 8 [(.t 43)])⟩, ⟨(some (42, false)), (some 45), (.bin .neq (.t 44) (.c (.int .i64 0)))⟩, ⟨none, (some 46), (.pick (.t 42) (.c (.bool true)) (.t 45))⟩, ⟨none, (some 47), (.mv (.t 46))⟩, ⟨(some (47, false)), (some 48), (.mv (.t 8))⟩, ⟨(some (47, false)), (some 49), (.call 9 [(.t 48)])⟩, ⟨(some (47, false)), (some 50), (.bin .neq (.t 49) (.c (.int .i64 0)))⟩, ⟨none, (some 51), (.pick (.t 47) (.c (.bool true)) (.t 50))⟩] false []) (.cond (.t 51) (.seq (.reg 64 [⟨none, (some 6), (.mv (.c (.bool true)))⟩] false []) .ret) .skip)) (.seq (.reg 3971 [⟨none, (some 52), (.mv (.t 0))⟩, ⟨none, (some 53), (.call 10 [(.t 52)])⟩, ⟨none, (some 9), (.mv (.t 53))⟩, ⟨none, (some 10), (.mv (.c (.int .i64 0)))⟩, ⟨none, (some 11), (.mv (.c (.int .i64 0)))⟩] false []) (.cut cl_top_TopBlindCovers_5))))))
theorem e_top_TopBlindCovers : cl_top_TopBlindCovers.er = c_top_TopBlindCovers := rfl
end Go.Proofs.Ytngjhppgojfceaa

