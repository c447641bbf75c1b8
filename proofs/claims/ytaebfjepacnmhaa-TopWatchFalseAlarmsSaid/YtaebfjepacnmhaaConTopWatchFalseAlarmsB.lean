/- Contracts: first alarms, strengths, the strongest bin, both ways. By an AI agent; nothing here is trusted. -/
import Derived.Test.YtaebfjepacnmhaaConTopWatchFalseAlarmsA
set_option linter.defProp false
set_option linter.unusedSimpArgs false
set_option linter.unusedVariables false
namespace Go.Proofs.Ytaebfjepacnmhaa
open Go.Av

end Go.Proofs.Ytaebfjepacnmhaa

/- Contracts: fractions, strengths, the strongest bin, both ways. By an AI agent; nothing here is trusted. -/
namespace Go.Proofs.Ytaebfjepacnmhaa
open Go.Av

theorem divisor_s (a b : Int) (ha : S63 a) (hb : S63 b) : Sound Try.prog 133 [.int .i64 a, .int .i64 b] (.int .i64 (Int.gcd a b)) := by
  refine sound_W f_watch_divisor (Nat.le_of_ble_eq_true rfl) ?_
  simp only [c_watch_divisor, vcV, vcD, Int.reduceEq, Int.reduceNe, Int.reduceLT, Int.reduceLE, Nat.reduceEqDiff, Nat.reduceAdd, reduceIte, reduceCtorEq, Nat.reduceLT, Nat.reduceLeDiff, eq_self, Option.bind_some, Option.map_some, List.map_cons, List.map_nil, List.length_cons, List.length_nil, Option.getD_some, Option.getD_none, List.all_cons, List.all_nil, List.set_cons_zero, List.set_cons_succ, List.replicate_succ, List.replicate_zero, List.getElem?_cons_zero, List.getElem?_cons_succ, List.drop_succ_cons, List.drop_zero, List.take_succ_cons, List.take_zero, List.map_append, List.nil_append, List.cons_append, Nat.reduceShiftRight, Nat.reduceMod]
  refine W_loop (α := PSigma fun p : Int × Int => S63 p.1 ∧ S63 p.2 ∧ Int.gcd p.1 p.2 = Int.gcd a b) (fun p => (envOf [(0, .int .i64 p.1.1), (1, .int .i64 p.1.2)], noStore)) (fun p => p.1.2.natAbs) ⟨(a, b), ha, hb, rfl⟩ (weakE _ ?_) (fun ⟨p, h1, h2, h3⟩ => ?_)
  · simp only [vcV, vcD, Int.reduceEq, Int.reduceNe, Int.reduceLT, Int.reduceLE, Nat.reduceEqDiff, Nat.reduceAdd, reduceIte, reduceCtorEq, Nat.reduceLT, Nat.reduceLeDiff, eq_self, Option.bind_some, Option.map_some, List.map_cons, List.map_nil, List.length_cons, List.length_nil, Option.getD_some, Option.getD_none, List.all_cons, List.all_nil, List.set_cons_zero, List.set_cons_succ, List.replicate_succ, List.replicate_zero, List.getElem?_cons_zero, List.getElem?_cons_succ, List.drop_succ_cons, List.drop_zero, List.take_succ_cons, List.take_zero, List.map_append, List.nil_append, List.cons_append, Nat.reduceShiftRight, Nat.reduceMod]
  · obtain ⟨x, y⟩ := p
    simp only at h1 h2 h3
    simp only [vcV, vcD, Int.reduceEq, Int.reduceNe, Int.reduceLT, Int.reduceLE, Nat.reduceEqDiff, Nat.reduceAdd, reduceIte, reduceCtorEq, Nat.reduceLT, Nat.reduceLeDiff, eq_self, Option.bind_some, Option.map_some, List.map_cons, List.map_nil, List.length_cons, List.length_nil, Option.getD_some, Option.getD_none, List.all_cons, List.all_nil, List.set_cons_zero, List.set_cons_succ, List.replicate_succ, List.replicate_zero, List.getElem?_cons_zero, List.getElem?_cons_succ, List.drop_succ_cons, List.drop_zero, List.take_succ_cons, List.take_zero, List.map_append, List.nil_append, List.cons_append, Nat.reduceShiftRight, Nat.reduceMod]
    refine brB_split (fun h => ?_) (fun h => ?_)
    · have hy : y ≠ 0 := by simpa using h
      obtain ⟨t1, t2⟩ := tmod_S (a := x) h2 hy
      simp only [vcV, vcD, Int.reduceEq, Int.reduceNe, Int.reduceLT, Int.reduceLE, Nat.reduceEqDiff, Nat.reduceAdd, reduceIte, reduceCtorEq, Nat.reduceLT, Nat.reduceLeDiff, eq_self, Option.bind_some, Option.map_some, List.map_cons, List.map_nil, List.length_cons, List.length_nil, Option.getD_some, Option.getD_none, List.all_cons, List.all_nil, List.set_cons_zero, List.set_cons_succ, List.replicate_succ, List.replicate_zero, List.getElem?_cons_zero, List.getElem?_cons_succ, List.drop_succ_cons, List.drop_zero, List.take_succ_cons, List.take_zero, List.map_append, List.nil_append, List.cons_append, Nat.reduceShiftRight, Nat.reduceMod]
      refine ⟨hy, ⟨(y, x.tmod y), h2, t1, (gcd_tmod x y).trans h3⟩, t2, weakE _ ?_⟩
      simp only [vcV, vcD, Int.reduceEq, Int.reduceNe, Int.reduceLT, Int.reduceLE, Nat.reduceEqDiff, Nat.reduceAdd, reduceIte, reduceCtorEq, Nat.reduceLT, Nat.reduceLeDiff, eq_self, Option.bind_some, Option.map_some, List.map_cons, List.map_nil, List.length_cons, List.length_nil, Option.getD_some, Option.getD_none, List.all_cons, List.all_nil, List.set_cons_zero, List.set_cons_succ, List.replicate_succ, List.replicate_zero, List.getElem?_cons_zero, List.getElem?_cons_succ, List.drop_succ_cons, List.drop_zero, List.take_succ_cons, List.take_zero, List.map_append, List.nil_append, List.cons_append, Nat.reduceShiftRight, Nat.reduceMod]
    · have hy : y = 0 := by simpa using h
      subst hy
      unfold S63 at h1
      simp only [max_neg, vcV, vcD, Int.reduceEq, Int.reduceNe, Int.reduceLT, Int.reduceLE, Nat.reduceEqDiff, Nat.reduceAdd, reduceIte, reduceCtorEq, Nat.reduceLT, Nat.reduceLeDiff, eq_self, Option.bind_some, Option.map_some, List.map_cons, List.map_nil, List.length_cons, List.length_nil, Option.getD_some, Option.getD_none, List.all_cons, List.all_nil, List.set_cons_zero, List.set_cons_succ, List.replicate_succ, List.replicate_zero, List.getElem?_cons_zero, List.getElem?_cons_succ, List.drop_succ_cons, List.drop_zero, List.take_succ_cons, List.take_zero, List.map_append, List.nil_append, List.cons_append, Nat.reduceShiftRight, Nat.reduceMod]
      refine ⟨by (simp only [decide_eq_true_eq, decide_eq_false_iff_not, Bool.not_true, I64, Bool.not_eq_true', Bool.not_eq_false', bne_iff_ne, beq_iff_eq, ne_eq] at *; omega), ?_⟩
      rw [← h3]; simp [Int.gcd]

theorem lowest_s (num den : Int) (hn : S63 num) (hd : S63 den) (h0 : 0 < den) : Sound Try.prog 107 [.int .i64 num, .int .i64 den] (fracA (lowN num den) (lowD num den)) := by
  refine sound_W f_watch_lowest (Nat.le_of_ble_eq_true rfl) ?_
  have hne := lowG_ne (num := num) (den := den) (by omega)
  have t1 := tdiv_S (b := lowG num den) hn
  have t2 := tdiv_S (b := lowG num den) hd
  unfold lowG at t1 t2 hne
  unfold S63 at t1 t2
  rw [if_neg (by omega)] at t1 t2 hne
  simp only [c_watch_lowest, vcV, vcD, Int.reduceEq, Int.reduceNe, Int.reduceLT, Int.reduceLE, Nat.reduceEqDiff, Nat.reduceAdd, reduceIte, reduceCtorEq, Nat.reduceLT, Nat.reduceLeDiff, eq_self, Option.bind_some, Option.map_some, List.map_cons, List.map_nil, List.length_cons, List.length_nil, Option.getD_some, Option.getD_none, List.all_cons, List.all_nil, List.set_cons_zero, List.set_cons_succ, List.replicate_succ, List.replicate_zero, List.getElem?_cons_zero, List.getElem?_cons_succ, List.drop_succ_cons, List.drop_zero, List.take_succ_cons, List.take_zero, List.map_append, List.nil_append, List.cons_append, Nat.reduceShiftRight, Nat.reduceMod]
  refine callS_of (divisor_s num den hn hd) ?_
  simp only [vcV, vcD, Int.reduceEq, Int.reduceNe, Int.reduceLT, Int.reduceLE, Nat.reduceEqDiff, Nat.reduceAdd, reduceIte, reduceCtorEq, Nat.reduceLT, Nat.reduceLeDiff, eq_self, Option.bind_some, Option.map_some, List.map_cons, List.map_nil, List.length_cons, List.length_nil, Option.getD_some, Option.getD_none, List.all_cons, List.all_nil, List.set_cons_zero, List.set_cons_succ, List.replicate_succ, List.replicate_zero, List.getElem?_cons_zero, List.getElem?_cons_succ, List.drop_succ_cons, List.drop_zero, List.take_succ_cons, List.take_zero, List.map_append, List.nil_append, List.cons_append, Nat.reduceShiftRight, Nat.reduceMod]
  refine ⟨hne, by (simp only [decide_eq_true_eq, decide_eq_false_iff_not, Bool.not_true, I64, Bool.not_eq_true', Bool.not_eq_false', bne_iff_ne, beq_iff_eq, ne_eq] at *; omega), hne, by (simp only [decide_eq_true_eq, decide_eq_false_iff_not, Bool.not_true, I64, Bool.not_eq_true', Bool.not_eq_false', bne_iff_ne, beq_iff_eq, ne_eq] at *; omega), ?_⟩
  unfold fracA lowN lowD lowG
  rw [if_neg (by omega)]

theorem isSized_s (n most : Int) (hm : S63 most) : Sound Try.prog 132 [.int .i64 n, .int .i64 most] (.bool (decide (-most ≤ n ∧ n ≤ most))) := by
  refine sound_W f_watch_isSized (Nat.le_of_ble_eq_true rfl) ?_
  unfold S63 at hm
  simp only [c_watch_isSized, vcV, vcD, Int.reduceEq, Int.reduceNe, Int.reduceLT, Int.reduceLE, Nat.reduceEqDiff, Nat.reduceAdd, reduceIte, reduceCtorEq, Nat.reduceLT, Nat.reduceLeDiff, eq_self, Option.bind_some, Option.map_some, List.map_cons, List.map_nil, List.length_cons, List.length_nil, Option.getD_some, Option.getD_none, List.all_cons, List.all_nil, List.set_cons_zero, List.set_cons_succ, List.replicate_succ, List.replicate_zero, List.getElem?_cons_zero, List.getElem?_cons_succ, List.drop_succ_cons, List.drop_zero, List.take_succ_cons, List.take_zero, List.map_append, List.nil_append, List.cons_append, Nat.reduceShiftRight, Nat.reduceMod]
  refine ⟨by (simp only [decide_eq_true_eq, decide_eq_false_iff_not, Bool.not_true, I64, Bool.not_eq_true', Bool.not_eq_false', bne_iff_ne, beq_iff_eq, ne_eq] at *; omega), ?_⟩
  refine callS_of (within_s _ _ _) ?_
  simp only [vcV, vcD, Int.reduceEq, Int.reduceNe, Int.reduceLT, Int.reduceLE, Nat.reduceEqDiff, Nat.reduceAdd, reduceIte, reduceCtorEq, Nat.reduceLT, Nat.reduceLeDiff, eq_self, Option.bind_some, Option.map_some, List.map_cons, List.map_nil, List.length_cons, List.length_nil, Option.getD_some, Option.getD_none, List.all_cons, List.all_nil, List.set_cons_zero, List.set_cons_succ, List.replicate_succ, List.replicate_zero, List.getElem?_cons_zero, List.getElem?_cons_succ, List.drop_succ_cons, List.drop_zero, List.take_succ_cons, List.take_zero, List.map_append, List.nil_append, List.cons_append, Nat.reduceShiftRight, Nat.reduceMod]

theorem small_s (n d : Int) (hd : 1 ≤ d) : Sound Try.prog 106 [fracA n d] (.tup (if smallF n d then [fracA n d, .int .i64 0] else [fracA 0 0, .int .i64 8])) := by
  refine sound_W f_watch_small (Nat.le_of_ble_eq_true rfl) ?_
  unfold smallF
  simp only [c_watch_small, fracA, vcV, vcD, Int.reduceEq, Int.reduceNe, Int.reduceLT, Int.reduceLE, Nat.reduceEqDiff, Nat.reduceAdd, reduceIte, reduceCtorEq, Nat.reduceLT, Nat.reduceLeDiff, eq_self, Option.bind_some, Option.map_some, List.map_cons, List.map_nil, List.length_cons, List.length_nil, Option.getD_some, Option.getD_none, List.all_cons, List.all_nil, List.set_cons_zero, List.set_cons_succ, List.replicate_succ, List.replicate_zero, List.getElem?_cons_zero, List.getElem?_cons_succ, List.drop_succ_cons, List.drop_zero, List.take_succ_cons, List.take_zero, List.map_append, List.nil_append, List.cons_append, Nat.reduceShiftRight, Nat.reduceMod]
  refine callS_of (isSized_s _ _ (by unfold S63; omega)) ?_
  simp only [vcV, vcD, Int.reduceEq, Int.reduceNe, Int.reduceLT, Int.reduceLE, Nat.reduceEqDiff, Nat.reduceAdd, reduceIte, reduceCtorEq, Nat.reduceLT, Nat.reduceLeDiff, eq_self, Option.bind_some, Option.map_some, List.map_cons, List.map_nil, List.length_cons, List.length_nil, Option.getD_some, Option.getD_none, List.all_cons, List.all_nil, List.set_cons_zero, List.set_cons_succ, List.replicate_succ, List.replicate_zero, List.getElem?_cons_zero, List.getElem?_cons_succ, List.drop_succ_cons, List.drop_zero, List.take_succ_cons, List.take_zero, List.map_append, List.nil_append, List.cons_append, Nat.reduceShiftRight, Nat.reduceMod]
  by_cases h : -1000000000 ≤ n ∧ n ≤ 1000000000
  · by_cases h2 : d ≤ 1000000000
    · have h3 : ¬ 1000000000 < d := by omega
      simp only [h, h3, h2, hd, vcV, vcD, Int.reduceEq, Int.reduceNe, Int.reduceLT, Int.reduceLE, Nat.reduceEqDiff, Nat.reduceAdd, reduceIte, reduceCtorEq, Nat.reduceLT, Nat.reduceLeDiff, eq_self, Option.bind_some, Option.map_some, List.map_cons, List.map_nil, List.length_cons, List.length_nil, Option.getD_some, Option.getD_none, List.all_cons, List.all_nil, List.set_cons_zero, List.set_cons_succ, List.replicate_succ, List.replicate_zero, List.getElem?_cons_zero, List.getElem?_cons_succ, List.drop_succ_cons, List.drop_zero, List.take_succ_cons, List.take_zero, List.map_append, List.nil_append, List.cons_append, Nat.reduceShiftRight, Nat.reduceMod]
    · have h3 : 1000000000 < d := by omega
      have h4 : ¬ (1 ≤ d ∧ d ≤ 1000000000) := by omega
      simp only [h, h3, h4, vcV, vcD, Int.reduceEq, Int.reduceNe, Int.reduceLT, Int.reduceLE, Nat.reduceEqDiff, Nat.reduceAdd, reduceIte, reduceCtorEq, Nat.reduceLT, Nat.reduceLeDiff, eq_self, Option.bind_some, Option.map_some, List.map_cons, List.map_nil, List.length_cons, List.length_nil, Option.getD_some, Option.getD_none, List.all_cons, List.all_nil, List.set_cons_zero, List.set_cons_succ, List.replicate_succ, List.replicate_zero, List.getElem?_cons_zero, List.getElem?_cons_succ, List.drop_succ_cons, List.drop_zero, List.take_succ_cons, List.take_zero, List.map_append, List.nil_append, List.cons_append, Nat.reduceShiftRight, Nat.reduceMod]
  · simp only [h, vcV, vcD, Int.reduceEq, Int.reduceNe, Int.reduceLT, Int.reduceLE, Nat.reduceEqDiff, Nat.reduceAdd, reduceIte, reduceCtorEq, Nat.reduceLT, Nat.reduceLeDiff, eq_self, Option.bind_some, Option.map_some, List.map_cons, List.map_nil, List.length_cons, List.length_nil, Option.getD_some, Option.getD_none, List.all_cons, List.all_nil, List.set_cons_zero, List.set_cons_succ, List.replicate_succ, List.replicate_zero, List.getElem?_cons_zero, List.getElem?_cons_succ, List.drop_succ_cons, List.drop_zero, List.take_succ_cons, List.take_zero, List.map_append, List.nil_append, List.cons_append, Nat.reduceShiftRight, Nat.reduceMod]

theorem lowD_pos {num den : Int} (h0 : 0 < den) : 1 ≤ lowD num den := by
  unfold lowD lowG
  rw [if_neg (by omega)]
  have hd : ((Int.gcd num den : Nat) : Int) ∣ den := Int.gcd_dvd_right _ _
  have hge : 0 ≤ ((Int.gcd num den : Nat) : Int) := Int.natCast_nonneg _
  generalize ((Int.gcd num den : Nat) : Int) = g at *
  obtain ⟨k, hk⟩ := hd
  have hgp : 0 < g := by
    rcases Int.lt_trichotomy g 0 with h | h | h
    · omega
    · subst h; rw [Int.zero_mul] at hk; omega
    · exact h
  have : den.tdiv g = k := by
    rw [hk]; exact Int.mul_tdiv_cancel_left _ (by omega)
  rw [this]
  by_cases hk0 : 1 ≤ k
  · exact hk0
  · exfalso
    have := Int.mul_nonneg (a := g) (b := -k) (by omega) (by omega)
    rw [Int.mul_neg, ← hk] at this
    omega

def hasBin (r : Rule) (l : List Int) (bin : Int) : Prop := r.window - 1 ≤ bin ∧ bin ≤ l.length - 1
instance (r : Rule) (l : List Int) (bin : Int) : Decidable (hasBin r l bin) := by unfold hasBin; exact inferInstance

end Go.Proofs.Ytaebfjepacnmhaa

/- Contracts: the reference's cases, ways and threshold; false alarms. By an AI agent; nothing here is trusted. -/
namespace Go.Proofs.Ytaebfjepacnmhaa
open Go.Av

attribute [local irreducible] rowTo convTo conv bTo sTo upd1 mxL colTo colsTo mx0
def falN (s : List (List Int)) (b n : Nat) : Int := lowN ((bTo s b).drop n).sum (bTo s b).sum
def falD (s : List (List Int)) (b n : Nat) : Int := lowD ((bTo s b).drop n).sum (bTo s b).sum
def falL (s : List (List Int)) (b n : Nat) : List AV := if smallF (falN s b n) (falD s b n) then [fracA (falN s b n) (falD s b n), .int .i64 0] else [fracA 0 0, .int .i64 8]
theorem FalseAlarms_s (s : List (List Int)) (b n : Nat) (hs : s.length < 4000000000000000000) (hl : ∀ l ∈ s, l.length < 4000000000000000000) (hE : skyTE s b n = 0) :
    Sound Try.prog 45 [skyA s, .int .i64 b, .int .i64 n] (.tup (falL s b n)) := by
  refine sound_W f_watch_FalseAlarms (Nat.le_of_ble_eq_true rfl) ?_
  simp only [c_watch_FalseAlarms, skyA, vcV, vcD, Int.reduceEq, Int.reduceNe, Int.reduceLT, Int.reduceLE, Nat.reduceEqDiff, Nat.reduceAdd, reduceIte, reduceCtorEq, Nat.reduceLT, Nat.reduceLeDiff, eq_self, Option.bind_some, Option.map_some, List.map_cons, List.map_nil, List.length_cons, List.length_nil, Option.getD_some, Option.getD_none, List.all_cons, List.all_nil, List.set_cons_zero, List.set_cons_succ, List.replicate_succ, List.replicate_zero, List.getElem?_cons_zero, List.getElem?_cons_succ, List.drop_succ_cons, List.drop_zero, List.take_succ_cons, List.take_zero, List.map_append, List.nil_append, List.cons_append, Nat.reduceShiftRight, Nat.reduceMod]
  refine callS_of (binsErr_s s b hs hl) ?_
  simp only [vcV, vcD, Int.reduceEq, Int.reduceNe, Int.reduceLT, Int.reduceLE, Nat.reduceEqDiff, Nat.reduceAdd, reduceIte, reduceCtorEq, Nat.reduceLT, Nat.reduceLeDiff, eq_self, Option.bind_some, Option.map_some, List.map_cons, List.map_nil, List.length_cons, List.length_nil, Option.getD_some, Option.getD_none, List.all_cons, List.all_nil, List.set_cons_zero, List.set_cons_succ, List.replicate_succ, List.replicate_zero, List.getElem?_cons_zero, List.getElem?_cons_succ, List.drop_succ_cons, List.drop_zero, List.take_succ_cons, List.take_zero, List.map_append, List.nil_append, List.cons_append, Nat.reduceShiftRight, Nat.reduceMod]
  refine callS_of (thresholdErr_s n) ?_
  simp only [vcV, vcD, Int.reduceEq, Int.reduceNe, Int.reduceLT, Int.reduceLE, Nat.reduceEqDiff, Nat.reduceAdd, reduceIte, reduceCtorEq, Nat.reduceLT, Nat.reduceLeDiff, eq_self, Option.bind_some, Option.map_some, List.map_cons, List.map_nil, List.length_cons, List.length_nil, Option.getD_some, Option.getD_none, List.all_cons, List.all_nil, List.set_cons_zero, List.set_cons_succ, List.replicate_succ, List.replicate_zero, List.getElem?_cons_zero, List.getElem?_cons_succ, List.drop_succ_cons, List.drop_zero, List.take_succ_cons, List.take_zero, List.map_append, List.nil_append, List.cons_append, Nat.reduceShiftRight, Nat.reduceMod]
  refine callS_of (first2_s _ _) ?_
  simp only [vcV, vcD, Int.reduceEq, Int.reduceNe, Int.reduceLT, Int.reduceLE, Nat.reduceEqDiff, Nat.reduceAdd, reduceIte, reduceCtorEq, Nat.reduceLT, Nat.reduceLeDiff, eq_self, Option.bind_some, Option.map_some, List.map_cons, List.map_nil, List.length_cons, List.length_nil, Option.getD_some, Option.getD_none, List.all_cons, List.all_nil, List.set_cons_zero, List.set_cons_succ, List.replicate_succ, List.replicate_zero, List.getElem?_cons_zero, List.getElem?_cons_succ, List.drop_succ_cons, List.drop_zero, List.take_succ_cons, List.take_zero, List.map_append, List.nil_append, List.cons_append, Nat.reduceShiftRight, Nat.reduceMod]
  rw [show (if (skyE s).2 ≠ 0 then (skyE s).2 else binsE b) = skyBE s b from rfl, show (if 0 ≤ (n : Int) ∧ (n : Int) ≤ 100000 then (0 : Int) else 2) = thrE n from rfl, show (if skyBE s b ≠ 0 then skyBE s b else thrE n) = skyTE s b n from rfl]
  have hB : skyBE s b = 0 ∧ thrE n = 0 := by
    unfold skyTE at hE
    by_cases hB : skyBE s b = 0
    · rw [if_neg (by simpa using hB)] at hE; exact ⟨hB, hE⟩
    · rw [if_pos hB] at hE; exact absurd hE hB
  obtain ⟨hok, b1, b2⟩ := skyBE_ok hB.1
  have hT : (n : Int) ≤ 100000 := by
    have h2 := hB.2
    unfold thrE at h2
    by_cases hT : 0 ≤ (n : Int) ∧ (n : Int) ≤ 100000
    · exact hT.2
    · rw [if_neg hT] at h2; omega
  obtain ⟨f1, f2, f3, f4⟩ := bTo_facts hok (show b ≤ 3 by omega)
  have hpos := bTo_sum_pos hok.2 b
  have hdb := drop_sum_bound f1 n
  have hF : falL s b n = if smallF (falN s b n) (falD s b n) then [fracA (falN s b n) (falD s b n), .int .i64 0] else [fracA 0 0, .int .i64 8] := rfl
  have hN : falN s b n = lowN ((bTo s b).drop n).sum (bTo s b).sum := rfl
  have hD : falD s b n = lowD ((bTo s b).drop n).sum (bTo s b).sum := rfl
  simp only [hE, vcV, vcD, Int.reduceEq, Int.reduceNe, Int.reduceLT, Int.reduceLE, Nat.reduceEqDiff, Nat.reduceAdd, reduceIte, reduceCtorEq, Nat.reduceLT, Nat.reduceLeDiff, eq_self, Option.bind_some, Option.map_some, List.map_cons, List.map_nil, List.length_cons, List.length_nil, Option.getD_some, Option.getD_none, List.all_cons, List.all_nil, List.set_cons_zero, List.set_cons_succ, List.replicate_succ, List.replicate_zero, List.getElem?_cons_zero, List.getElem?_cons_succ, List.drop_succ_cons, List.drop_zero, List.take_succ_cons, List.take_zero, List.map_append, List.nil_append, List.cons_append, Nat.reduceShiftRight, Nat.reduceMod]
  refine callS_of (sums_s s hok b (by omega)) ?_
  simp only [vcV, vcD, Int.reduceEq, Int.reduceNe, Int.reduceLT, Int.reduceLE, Nat.reduceEqDiff, Nat.reduceAdd, reduceIte, reduceCtorEq, Nat.reduceLT, Nat.reduceLeDiff, eq_self, Option.bind_some, Option.map_some, List.map_cons, List.map_nil, List.length_cons, List.length_nil, Option.getD_some, Option.getD_none, List.all_cons, List.all_nil, List.set_cons_zero, List.set_cons_succ, List.replicate_succ, List.replicate_zero, List.getElem?_cons_zero, List.getElem?_cons_succ, List.drop_succ_cons, List.drop_zero, List.take_succ_cons, List.take_zero, List.map_append, List.nil_append, List.cons_append, Nat.reduceShiftRight, Nat.reduceMod]
  refine callS_of (from_s _ f1 (by omega) (by omega) n (by omega)) ?_
  simp only [vcV, vcD, Int.reduceEq, Int.reduceNe, Int.reduceLT, Int.reduceLE, Nat.reduceEqDiff, Nat.reduceAdd, reduceIte, reduceCtorEq, Nat.reduceLT, Nat.reduceLeDiff, eq_self, Option.bind_some, Option.map_some, List.map_cons, List.map_nil, List.length_cons, List.length_nil, Option.getD_some, Option.getD_none, List.all_cons, List.all_nil, List.set_cons_zero, List.set_cons_succ, List.replicate_succ, List.replicate_zero, List.getElem?_cons_zero, List.getElem?_cons_succ, List.drop_succ_cons, List.drop_zero, List.take_succ_cons, List.take_zero, List.map_append, List.nil_append, List.cons_append, Nat.reduceShiftRight, Nat.reduceMod]
  refine callS_of (from_s _ f1 (by omega) (by omega) 0 (by omega)) ?_
  simp only [List.drop_zero, vcV, vcD, Int.reduceEq, Int.reduceNe, Int.reduceLT, Int.reduceLE, Nat.reduceEqDiff, Nat.reduceAdd, reduceIte, reduceCtorEq, Nat.reduceLT, Nat.reduceLeDiff, eq_self, Option.bind_some, Option.map_some, List.map_cons, List.map_nil, List.length_cons, List.length_nil, Option.getD_some, Option.getD_none, List.all_cons, List.all_nil, List.set_cons_zero, List.set_cons_succ, List.replicate_succ, List.replicate_zero, List.getElem?_cons_zero, List.getElem?_cons_succ, List.drop_succ_cons, List.drop_zero, List.take_succ_cons, List.take_zero, List.map_append, List.nil_append, List.cons_append, Nat.reduceShiftRight, Nat.reduceMod]
  refine callS_of (lowest_s _ _ (by unfold S63; omega) (by unfold S63; omega) (by omega)) ?_
  simp only [fracA, vcV, vcD, Int.reduceEq, Int.reduceNe, Int.reduceLT, Int.reduceLE, Nat.reduceEqDiff, Nat.reduceAdd, reduceIte, reduceCtorEq, Nat.reduceLT, Nat.reduceLeDiff, eq_self, Option.bind_some, Option.map_some, List.map_cons, List.map_nil, List.length_cons, List.length_nil, Option.getD_some, Option.getD_none, List.all_cons, List.all_nil, List.set_cons_zero, List.set_cons_succ, List.replicate_succ, List.replicate_zero, List.getElem?_cons_zero, List.getElem?_cons_succ, List.drop_succ_cons, List.drop_zero, List.take_succ_cons, List.take_zero, List.map_append, List.nil_append, List.cons_append, Nat.reduceShiftRight, Nat.reduceMod]
  refine callS_of (small_s _ _ (lowD_pos (by omega))) ?_
  rw [← hN, ← hD, hF]
  by_cases hsm : smallF (falN s b n) (falD s b n) = true
  · rw [if_pos hsm]
    simp only [fracA, vcV, vcD, Int.reduceEq, Int.reduceNe, Int.reduceLT, Int.reduceLE, Nat.reduceEqDiff, Nat.reduceAdd, reduceIte, reduceCtorEq, Nat.reduceLT, Nat.reduceLeDiff, eq_self, Option.bind_some, Option.map_some, List.map_cons, List.map_nil, List.length_cons, List.length_nil, Option.getD_some, Option.getD_none, List.all_cons, List.all_nil, List.set_cons_zero, List.set_cons_succ, List.replicate_succ, List.replicate_zero, List.getElem?_cons_zero, List.getElem?_cons_succ, List.drop_succ_cons, List.drop_zero, List.take_succ_cons, List.take_zero, List.map_append, List.nil_append, List.cons_append, Nat.reduceShiftRight, Nat.reduceMod]
  · rw [if_neg hsm]
    simp only [fracA, vcV, vcD, Int.reduceEq, Int.reduceNe, Int.reduceLT, Int.reduceLE, Nat.reduceEqDiff, Nat.reduceAdd, reduceIte, reduceCtorEq, Nat.reduceLT, Nat.reduceLeDiff, eq_self, Option.bind_some, Option.map_some, List.map_cons, List.map_nil, List.length_cons, List.length_nil, Option.getD_some, Option.getD_none, List.all_cons, List.all_nil, List.set_cons_zero, List.set_cons_succ, List.replicate_succ, List.replicate_zero, List.getElem?_cons_zero, List.getElem?_cons_succ, List.drop_succ_cons, List.drop_zero, List.take_succ_cons, List.take_zero, List.map_append, List.nil_append, List.cons_append, Nat.reduceShiftRight, Nat.reduceMod]
end Go.Proofs.Ytaebfjepacnmhaa

/- Contracts: rises. By an AI agent; nothing here is trusted. -/
namespace Go.Proofs.Ytaebfjepacnmhaa
open Go.Av

end Go.Proofs.Ytaebfjepacnmhaa

/- Contracts: rises that are never missed. By an AI agent; nothing here is trusted. -/
namespace Go.Proofs.Ytaebfjepacnmhaa
open Go.Av

end Go.Proofs.Ytaebfjepacnmhaa

/- Two ways to count false alarms: parts, and the plain law. By an AI agent; nothing here is trusted. -/
namespace Go.Proofs.Ytaebfjepacnmhaa
open Go.Av

def tabT : List (Nat × Nat × Nat × MC × List (Nat × Option (Option Nat))) := [(23, 56, 3, c_watch_ThresholdFor, [(6, none), (7, none)]), (31, 16, 2, c_watch_AlarmsIn, [(4, none), (5, none)]), (42, 26, 2, c_base_Ints, [(4, none)]), (44, 50, 1, c_watch_CheckSky, [(2, none), (3, none)]), (59, 31, 0, c_top_watchAwake, [(0, none)]), (65, 24, 1, c_watch_CheckRule, [(2, none)]), (83, 2, 0, c_law08_Rule, [(0, (some (some 4)))]), (84, 5, 0, c_law08_Sky, [(0, (some (some 1)))]), (86, 18, 2, c_watch_binsErr, [(4, none)]), (87, 21, 2, c_watch_from, [(4, none)]), (88, 58, 2, c_watch_sums, [(4, none)]), (89, 15, 1, c_watch_first, [(2, none)]), (91, 7, 2, c_watch_unless, [(4, none)]), (92, 15, 3, c_watch_within, [(6, none)]), (95, 11, 2, c_watch_bothErr, [(4, none)]), (96, 38, 2, c_watch_alarms, [(4, none)]), (100, 9, 2, c_slices_ContainsFunc_int_int, [(4, none)]), (105, 8, 2, c_watch_odd, [(4, none)]), (111, 6, 2, c_watch_windows, [(4, none)]), (127, 25, 1, c_slices_Max_int_int, [(2, none)]), (128, 13, 1, c_watch_countsErr, [(2, none)]), (129, 19, 2, c_slices_IndexFunc_int_int, [(4, none)]), (131, 8, 2, c_watch_odd_1, [(3, none)]), (135, 49, 3, c_watch_windows_1, [])]
theorem tabT_ok : ∀ f c, lookC tabT f = some c → cFun Try.prog f = some c := by
  refine lookC_ok ?_
  unfold tabT
  simp only [List.forall_mem_cons]
  exact ⟨f_watch_ThresholdFor, f_watch_AlarmsIn, f_base_Ints, f_watch_CheckSky, f_top_watchAwake, f_watch_CheckRule, f_law08_Rule, f_law08_Sky, f_watch_binsErr, f_watch_from, f_watch_sums, f_watch_first, f_watch_unless, f_watch_within, f_watch_bothErr, f_watch_alarms, f_slices_ContainsFunc_int_int, f_watch_odd, f_watch_windows, f_slices_Max_int_int, f_watch_countsErr, f_slices_IndexFunc_int_int, f_watch_odd_1, f_watch_windows_1, fun p hp => by cases hp⟩
theorem awakeT_run : callN noExt itW (lookC tabT) 100 30 59 [] = some (.bool true) := by kernel_rfl
theorem watchAwake_s : Sound Try.prog 59 [] (.bool true) := callN_sound noExt_ok itW_ok tabT_ok 30 _ _ _ awakeT_run

def smallW (s : List (List Int)) : Bool := decide (s.length ≤ 4) && (s.all fun l => decide (l.length ≤ 4) && l.all fun c => decide (0 ≤ c ∧ c ≤ 60)) && decide ((skyE s).2 = 0)
set_option maxHeartbeats 4000000 in
theorem watchSmall_s (s : List (List Int)) :
    Sound Try.prog 60 [skyA s] (.bool (smallW s)) := by
  refine sound_W f_top_watchSmall (Nat.le_of_ble_eq_true rfl) ?_
  by_cases h4 : s.length ≤ 4
  case neg =>
    have h4' : (4 : Int) < s.length := by omega
    have : smallW s = false := by unfold smallW; rw [decide_eq_false h4]; rfl
    simp only [c_top_watchSmall, skyA, skyL_length, h4', this, vcV, vcD, Int.reduceEq, Int.reduceNe, Int.reduceLT, Int.reduceLE, Nat.reduceEqDiff, Nat.reduceAdd, reduceIte, reduceCtorEq, Nat.reduceLT, Nat.reduceLeDiff, eq_self, Option.bind_some, Option.map_some, List.map_cons, List.map_nil, List.length_cons, List.length_nil, Option.getD_some, Option.getD_none, List.all_cons, List.all_nil, List.set_cons_zero, List.set_cons_succ, List.replicate_succ, List.replicate_zero, List.getElem?_cons_zero, List.getElem?_cons_succ, List.drop_succ_cons, List.drop_zero, List.take_succ_cons, List.take_zero, List.map_append, List.nil_append, List.cons_append, Nat.reduceShiftRight, Nat.reduceMod]
  have h4' : ¬ (4 : Int) < s.length := by omega
  simp only [c_top_watchSmall, skyA, skyL_length, h4', vcV, vcD, Int.reduceEq, Int.reduceNe, Int.reduceLT, Int.reduceLE, Nat.reduceEqDiff, Nat.reduceAdd, reduceIte, reduceCtorEq, Nat.reduceLT, Nat.reduceLeDiff, eq_self, Option.bind_some, Option.map_some, List.map_cons, List.map_nil, List.length_cons, List.length_nil, Option.getD_some, Option.getD_none, List.all_cons, List.all_nil, List.set_cons_zero, List.set_cons_succ, List.replicate_succ, List.replicate_zero, List.getElem?_cons_zero, List.getElem?_cons_succ, List.drop_succ_cons, List.drop_zero, List.take_succ_cons, List.take_zero, List.map_append, List.nil_append, List.cons_append, Nat.reduceShiftRight, Nat.reduceMod]
  refine W_loop (t := .mk) (α := PSigma fun i : Nat => i ≤ s.length ∧ ((s.take i).all (fun l => decide (l.length ≤ 4) && l.all fun c => decide (0 ≤ c ∧ c ≤ 60)) = true)) (fun ⟨i, _⟩ => ((envOf [(1, .ptr 1 0 0), (3, .int .i64 i)], stOf [(1, ⟨24, 1, [.agg [.sl (skyL s)]]⟩)]))) (fun i => s.length - i.1) ⟨0, Nat.zero_le _, ?_⟩ ?_ (fun ⟨i, hi, hn⟩ => ?_)
  · rfl
  · refine weakX [] (of_decide_eq_true rfl) (of_decide_eq_true rfl) ?_
    (simp only [vcW, vcV, vcD, Int.reduceEq, Int.reduceNe, Int.reduceLT, Int.reduceLE, Nat.reduceEqDiff, Nat.reduceAdd, reduceIte, reduceCtorEq, Nat.reduceLT, Nat.reduceLeDiff, eq_self, Option.bind_some, Option.map_some, List.map_cons, List.map_nil, List.length_cons, List.length_nil, Option.getD_some, Option.getD_none, List.all_cons, List.all_nil, List.set_cons_zero, List.set_cons_succ, List.replicate_succ, List.replicate_zero, List.getElem?_cons_zero, List.getElem?_cons_succ, List.drop_succ_cons, List.drop_zero, List.take_succ_cons, List.take_zero, List.map_append, List.nil_append, List.cons_append, Nat.reduceShiftRight, Nat.reduceMod])
    (repeat' first | exact trivial | (with_reducible exact RnB.fxB (ints_fxB _)) | (with_reducible rfl) | (with_reducible refine And.intro ?_ ?_) | (with_reducible refine RnB.bb ?_; simp only [vcW, vcV, vcD, Int.reduceEq, Int.reduceNe, Int.reduceLT, Int.reduceLE, Nat.reduceEqDiff, Nat.reduceAdd, reduceIte, reduceCtorEq, Nat.reduceLT, Nat.reduceLeDiff, eq_self, Option.bind_some, Option.map_some, List.map_cons, List.map_nil, List.length_cons, List.length_nil, Option.getD_some, Option.getD_none, List.all_cons, List.all_nil, List.set_cons_zero, List.set_cons_succ, List.replicate_succ, List.replicate_zero, List.getElem?_cons_zero, List.getElem?_cons_succ, List.drop_succ_cons, List.drop_zero, List.take_succ_cons, List.take_zero, List.map_append, List.nil_append, List.cons_append, Nat.reduceShiftRight, Nat.reduceMod]) | (with_reducible refine RnB.nb ?_; simp only [vcW, vcV, vcD, Int.reduceEq, Int.reduceNe, Int.reduceLT, Int.reduceLE, Nat.reduceEqDiff, Nat.reduceAdd, reduceIte, reduceCtorEq, Nat.reduceLT, Nat.reduceLeDiff, eq_self, Option.bind_some, Option.map_some, List.map_cons, List.map_nil, List.length_cons, List.length_nil, Option.getD_some, Option.getD_none, List.all_cons, List.all_nil, List.set_cons_zero, List.set_cons_succ, List.replicate_succ, List.replicate_zero, List.getElem?_cons_zero, List.getElem?_cons_succ, List.drop_succ_cons, List.drop_zero, List.take_succ_cons, List.take_zero, List.map_append, List.nil_append, List.cons_append, Nat.reduceShiftRight, Nat.reduceMod]) | (with_reducible refine RnB.ii ?_) | (with_reducible refine RnB.app ?_) | (with_reducible refine RnB.fxB ?_; simp only [vcW, vcV, vcD, Int.reduceEq, Int.reduceNe, Int.reduceLT, Int.reduceLE, Nat.reduceEqDiff, Nat.reduceAdd, reduceIte, reduceCtorEq, Nat.reduceLT, Nat.reduceLeDiff, eq_self, Option.bind_some, Option.map_some, List.map_cons, List.map_nil, List.length_cons, List.length_nil, Option.getD_some, Option.getD_none, List.all_cons, List.all_nil, List.set_cons_zero, List.set_cons_succ, List.replicate_succ, List.replicate_zero, List.getElem?_cons_zero, List.getElem?_cons_succ, List.drop_succ_cons, List.drop_zero, List.take_succ_cons, List.take_zero, List.map_append, List.nil_append, List.cons_append, Nat.reduceShiftRight, Nat.reduceMod]) | omega)
  · simp only [skyL_length, vcV, vcD, Int.reduceEq, Int.reduceNe, Int.reduceLT, Int.reduceLE, Nat.reduceEqDiff, Nat.reduceAdd, reduceIte, reduceCtorEq, Nat.reduceLT, Nat.reduceLeDiff, eq_self, Option.bind_some, Option.map_some, List.map_cons, List.map_nil, List.length_cons, List.length_nil, Option.getD_some, Option.getD_none, List.all_cons, List.all_nil, List.set_cons_zero, List.set_cons_succ, List.replicate_succ, List.replicate_zero, List.getElem?_cons_zero, List.getElem?_cons_succ, List.drop_succ_cons, List.drop_zero, List.take_succ_cons, List.take_zero, List.map_append, List.nil_append, List.cons_append, Nat.reduceShiftRight, Nat.reduceMod]
    refine brB_split (fun h => ?_) (fun h => ?_)
    · have h' : i < s.length := by (simp only [decide_eq_true_eq, decide_eq_false_iff_not, Bool.not_true, I64, Bool.not_eq_true', Bool.not_eq_false', bne_iff_ne, beq_iff_eq, ne_eq] at *; omega)
      clear h
      have hg := skyL_get s i h'
      have hnx : s[i].length ≤ 4 → (s[i].all fun c => decide (0 ≤ c ∧ c ≤ 60)) = true → (s.take (i + 1)).all (fun l => decide (l.length ≤ 4) && l.all fun c => decide (0 ≤ c ∧ c ≤ 60)) = true := by
        intro h1 h2
        rw [List.take_succ_eq_append_getElem h', List.all_append, hn]
        simp only [List.all_cons, List.all_nil, decide_eq_true h1, h2]; rfl
      have hbad : (decide (s[i].length ≤ 4) && s[i].all fun c => decide (0 ≤ c ∧ c ≤ 60)) = false → smallW s = false := by
        intro hz
        unfold smallW
        have : (s.all fun l => decide (l.length ≤ 4) && l.all fun c => decide (0 ≤ c ∧ c ≤ 60)) = false := List.all_eq_false.2 ⟨s[i], List.getElem_mem h', by rw [hz]; simp⟩
        rw [this, Bool.and_false, Bool.false_and]
      generalize s[i] = l at *
      by_cases h5 : l.length ≤ 4
      case neg =>
        have h5' : (4 : Int) < l.length := by omega
        have hz := hbad (by rw [decide_eq_false h5]; rfl)
        simp only [hg, ints_length, h5', hz, vcV, vcD, Int.reduceEq, Int.reduceNe, Int.reduceLT, Int.reduceLE, Nat.reduceEqDiff, Nat.reduceAdd, reduceIte, reduceCtorEq, Nat.reduceLT, Nat.reduceLeDiff, eq_self, Option.bind_some, Option.map_some, List.map_cons, List.map_nil, List.length_cons, List.length_nil, Option.getD_some, Option.getD_none, List.all_cons, List.all_nil, List.set_cons_zero, List.set_cons_succ, List.replicate_succ, List.replicate_zero, List.getElem?_cons_zero, List.getElem?_cons_succ, List.drop_succ_cons, List.drop_zero, List.take_succ_cons, List.take_zero, List.map_append, List.nil_append, List.cons_append, Nat.reduceShiftRight, Nat.reduceMod]
        omega
      have h5' : ¬ (4 : Int) < l.length := by omega
      simp only [hg, ints_length, h5', vcV, vcD, Int.reduceEq, Int.reduceNe, Int.reduceLT, Int.reduceLE, Nat.reduceEqDiff, Nat.reduceAdd, reduceIte, reduceCtorEq, Nat.reduceLT, Nat.reduceLeDiff, eq_self, Option.bind_some, Option.map_some, List.map_cons, List.map_nil, List.length_cons, List.length_nil, Option.getD_some, Option.getD_none, List.all_cons, List.all_nil, List.set_cons_zero, List.set_cons_succ, List.replicate_succ, List.replicate_zero, List.getElem?_cons_zero, List.getElem?_cons_succ, List.drop_succ_cons, List.drop_zero, List.take_succ_cons, List.take_zero, List.map_append, List.nil_append, List.cons_append, Nat.reduceShiftRight, Nat.reduceMod]
      (repeat (with_reducible refine And.intro ?_ ?_; focus (first | omega | (unfold I64; omega))))
      refine W_loop (t := .mk) (α := PSigma fun k : Nat => k ≤ l.length ∧ ((l.take k).all fun c => decide (0 ≤ c ∧ c ≤ 60)) = true) (fun ⟨k, _⟩ => (envOf [(1, .ptr 1 0 0), (3, .int .i64 i), (4, .int .i64 k)], stOf [(1, ⟨24, 1, [.agg [.sl (skyL s)]]⟩)])) (fun k => l.length - k.1) ⟨0, Nat.zero_le _, rfl⟩ ?_ (fun ⟨k, hk, ho⟩ => ?_)
      · refine weakX [] (of_decide_eq_true rfl) (of_decide_eq_true rfl) ?_
        (simp only [vcW, vcV, vcD, Int.reduceEq, Int.reduceNe, Int.reduceLT, Int.reduceLE, Nat.reduceEqDiff, Nat.reduceAdd, reduceIte, reduceCtorEq, Nat.reduceLT, Nat.reduceLeDiff, eq_self, Option.bind_some, Option.map_some, List.map_cons, List.map_nil, List.length_cons, List.length_nil, Option.getD_some, Option.getD_none, List.all_cons, List.all_nil, List.set_cons_zero, List.set_cons_succ, List.replicate_succ, List.replicate_zero, List.getElem?_cons_zero, List.getElem?_cons_succ, List.drop_succ_cons, List.drop_zero, List.take_succ_cons, List.take_zero, List.map_append, List.nil_append, List.cons_append, Nat.reduceShiftRight, Nat.reduceMod])
        (repeat' first | exact trivial | (with_reducible exact RnB.fxB (ints_fxB _)) | (with_reducible rfl) | (with_reducible refine And.intro ?_ ?_) | (with_reducible refine RnB.bb ?_; simp only [vcW, vcV, vcD, Int.reduceEq, Int.reduceNe, Int.reduceLT, Int.reduceLE, Nat.reduceEqDiff, Nat.reduceAdd, reduceIte, reduceCtorEq, Nat.reduceLT, Nat.reduceLeDiff, eq_self, Option.bind_some, Option.map_some, List.map_cons, List.map_nil, List.length_cons, List.length_nil, Option.getD_some, Option.getD_none, List.all_cons, List.all_nil, List.set_cons_zero, List.set_cons_succ, List.replicate_succ, List.replicate_zero, List.getElem?_cons_zero, List.getElem?_cons_succ, List.drop_succ_cons, List.drop_zero, List.take_succ_cons, List.take_zero, List.map_append, List.nil_append, List.cons_append, Nat.reduceShiftRight, Nat.reduceMod]) | (with_reducible refine RnB.nb ?_; simp only [vcW, vcV, vcD, Int.reduceEq, Int.reduceNe, Int.reduceLT, Int.reduceLE, Nat.reduceEqDiff, Nat.reduceAdd, reduceIte, reduceCtorEq, Nat.reduceLT, Nat.reduceLeDiff, eq_self, Option.bind_some, Option.map_some, List.map_cons, List.map_nil, List.length_cons, List.length_nil, Option.getD_some, Option.getD_none, List.all_cons, List.all_nil, List.set_cons_zero, List.set_cons_succ, List.replicate_succ, List.replicate_zero, List.getElem?_cons_zero, List.getElem?_cons_succ, List.drop_succ_cons, List.drop_zero, List.take_succ_cons, List.take_zero, List.map_append, List.nil_append, List.cons_append, Nat.reduceShiftRight, Nat.reduceMod]) | (with_reducible refine RnB.ii ?_) | (with_reducible refine RnB.app ?_) | (with_reducible refine RnB.fxB ?_; simp only [vcW, vcV, vcD, Int.reduceEq, Int.reduceNe, Int.reduceLT, Int.reduceLE, Nat.reduceEqDiff, Nat.reduceAdd, reduceIte, reduceCtorEq, Nat.reduceLT, Nat.reduceLeDiff, eq_self, Option.bind_some, Option.map_some, List.map_cons, List.map_nil, List.length_cons, List.length_nil, Option.getD_some, Option.getD_none, List.all_cons, List.all_nil, List.set_cons_zero, List.set_cons_succ, List.replicate_succ, List.replicate_zero, List.getElem?_cons_zero, List.getElem?_cons_succ, List.drop_succ_cons, List.drop_zero, List.take_succ_cons, List.take_zero, List.map_append, List.nil_append, List.cons_append, Nat.reduceShiftRight, Nat.reduceMod]) | omega)
      · simp only [hg, ints_length, vcV, vcD, Int.reduceEq, Int.reduceNe, Int.reduceLT, Int.reduceLE, Nat.reduceEqDiff, Nat.reduceAdd, reduceIte, reduceCtorEq, Nat.reduceLT, Nat.reduceLeDiff, eq_self, Option.bind_some, Option.map_some, List.map_cons, List.map_nil, List.length_cons, List.length_nil, Option.getD_some, Option.getD_none, List.all_cons, List.all_nil, List.set_cons_zero, List.set_cons_succ, List.replicate_succ, List.replicate_zero, List.getElem?_cons_zero, List.getElem?_cons_succ, List.drop_succ_cons, List.drop_zero, List.take_succ_cons, List.take_zero, List.map_append, List.nil_append, List.cons_append, Nat.reduceShiftRight, Nat.reduceMod]
        (repeat (with_reducible refine And.intro ?_ ?_; focus (first | omega | (unfold I64; omega))))
        refine brB_split (fun h => ?_) (fun h => ?_)
        · have hk' : k < l.length := by (simp only [decide_eq_true_eq, decide_eq_false_iff_not, Bool.not_true, I64, Bool.not_eq_true', Bool.not_eq_false', bne_iff_ne, beq_iff_eq, ne_eq] at *; omega)
          clear h
          simp only [hg, ints_get l k hk', vcV, vcD, Int.reduceEq, Int.reduceNe, Int.reduceLT, Int.reduceLE, Nat.reduceEqDiff, Nat.reduceAdd, reduceIte, reduceCtorEq, Nat.reduceLT, Nat.reduceLeDiff, eq_self, Option.bind_some, Option.map_some, List.map_cons, List.map_nil, List.length_cons, List.length_nil, Option.getD_some, Option.getD_none, List.all_cons, List.all_nil, List.set_cons_zero, List.set_cons_succ, List.replicate_succ, List.replicate_zero, List.getElem?_cons_zero, List.getElem?_cons_succ, List.drop_succ_cons, List.drop_zero, List.take_succ_cons, List.take_zero, List.map_append, List.nil_append, List.cons_append, Nat.reduceShiftRight, Nat.reduceMod]
          (repeat (with_reducible refine And.intro ?_ ?_; focus (first | omega | (unfold I64; omega))))
          refine callS_of (Within_s _ _ _) ?_
          by_cases hc : 0 ≤ l[k] ∧ l[k] ≤ 60
          · simp only [hc, vcV, vcD, Int.reduceEq, Int.reduceNe, Int.reduceLT, Int.reduceLE, Nat.reduceEqDiff, Nat.reduceAdd, reduceIte, reduceCtorEq, Nat.reduceLT, Nat.reduceLeDiff, eq_self, Option.bind_some, Option.map_some, List.map_cons, List.map_nil, List.length_cons, List.length_nil, Option.getD_some, Option.getD_none, List.all_cons, List.all_nil, List.set_cons_zero, List.set_cons_succ, List.replicate_succ, List.replicate_zero, List.getElem?_cons_zero, List.getElem?_cons_succ, List.drop_succ_cons, List.drop_zero, List.take_succ_cons, List.take_zero, List.map_append, List.nil_append, List.cons_append, Nat.reduceShiftRight, Nat.reduceMod]
            (repeat (with_reducible refine And.intro ?_ ?_; focus (first | omega | (unfold I64; omega))))
            refine ⟨⟨k + 1, hk', ?_⟩, by simp only; omega, ?_⟩
            · rw [List.take_succ_eq_append_getElem hk', List.all_append, ho]
              simp [hc]
            · refine weakX [] (of_decide_eq_true rfl) (of_decide_eq_true rfl) ?_
              (simp only [vcW, vcV, vcD, Int.reduceEq, Int.reduceNe, Int.reduceLT, Int.reduceLE, Nat.reduceEqDiff, Nat.reduceAdd, reduceIte, reduceCtorEq, Nat.reduceLT, Nat.reduceLeDiff, eq_self, Option.bind_some, Option.map_some, List.map_cons, List.map_nil, List.length_cons, List.length_nil, Option.getD_some, Option.getD_none, List.all_cons, List.all_nil, List.set_cons_zero, List.set_cons_succ, List.replicate_succ, List.replicate_zero, List.getElem?_cons_zero, List.getElem?_cons_succ, List.drop_succ_cons, List.drop_zero, List.take_succ_cons, List.take_zero, List.map_append, List.nil_append, List.cons_append, Nat.reduceShiftRight, Nat.reduceMod])
              (repeat' first | exact trivial | (with_reducible exact RnB.fxB (ints_fxB _)) | (with_reducible rfl) | (with_reducible refine And.intro ?_ ?_) | (with_reducible refine RnB.bb ?_; simp only [vcW, vcV, vcD, Int.reduceEq, Int.reduceNe, Int.reduceLT, Int.reduceLE, Nat.reduceEqDiff, Nat.reduceAdd, reduceIte, reduceCtorEq, Nat.reduceLT, Nat.reduceLeDiff, eq_self, Option.bind_some, Option.map_some, List.map_cons, List.map_nil, List.length_cons, List.length_nil, Option.getD_some, Option.getD_none, List.all_cons, List.all_nil, List.set_cons_zero, List.set_cons_succ, List.replicate_succ, List.replicate_zero, List.getElem?_cons_zero, List.getElem?_cons_succ, List.drop_succ_cons, List.drop_zero, List.take_succ_cons, List.take_zero, List.map_append, List.nil_append, List.cons_append, Nat.reduceShiftRight, Nat.reduceMod]) | (with_reducible refine RnB.nb ?_; simp only [vcW, vcV, vcD, Int.reduceEq, Int.reduceNe, Int.reduceLT, Int.reduceLE, Nat.reduceEqDiff, Nat.reduceAdd, reduceIte, reduceCtorEq, Nat.reduceLT, Nat.reduceLeDiff, eq_self, Option.bind_some, Option.map_some, List.map_cons, List.map_nil, List.length_cons, List.length_nil, Option.getD_some, Option.getD_none, List.all_cons, List.all_nil, List.set_cons_zero, List.set_cons_succ, List.replicate_succ, List.replicate_zero, List.getElem?_cons_zero, List.getElem?_cons_succ, List.drop_succ_cons, List.drop_zero, List.take_succ_cons, List.take_zero, List.map_append, List.nil_append, List.cons_append, Nat.reduceShiftRight, Nat.reduceMod]) | (with_reducible refine RnB.ii ?_) | (with_reducible refine RnB.app ?_) | (with_reducible refine RnB.fxB ?_; simp only [vcW, vcV, vcD, Int.reduceEq, Int.reduceNe, Int.reduceLT, Int.reduceLE, Nat.reduceEqDiff, Nat.reduceAdd, reduceIte, reduceCtorEq, Nat.reduceLT, Nat.reduceLeDiff, eq_self, Option.bind_some, Option.map_some, List.map_cons, List.map_nil, List.length_cons, List.length_nil, Option.getD_some, Option.getD_none, List.all_cons, List.all_nil, List.set_cons_zero, List.set_cons_succ, List.replicate_succ, List.replicate_zero, List.getElem?_cons_zero, List.getElem?_cons_succ, List.drop_succ_cons, List.drop_zero, List.take_succ_cons, List.take_zero, List.map_append, List.nil_append, List.cons_append, Nat.reduceShiftRight, Nat.reduceMod]) | omega)
          · have hz := hbad (by
              have : (l.all fun c => decide (0 ≤ c ∧ c ≤ 60)) = false := List.all_eq_false.2 ⟨l[k], List.getElem_mem hk', by simpa using hc⟩
              rw [this, Bool.and_false])
            simp only [hc, hz, vcV, vcD, Int.reduceEq, Int.reduceNe, Int.reduceLT, Int.reduceLE, Nat.reduceEqDiff, Nat.reduceAdd, reduceIte, reduceCtorEq, Nat.reduceLT, Nat.reduceLeDiff, eq_self, Option.bind_some, Option.map_some, List.map_cons, List.map_nil, List.length_cons, List.length_nil, Option.getD_some, Option.getD_none, List.all_cons, List.all_nil, List.set_cons_zero, List.set_cons_succ, List.replicate_succ, List.replicate_zero, List.getElem?_cons_zero, List.getElem?_cons_succ, List.drop_succ_cons, List.drop_zero, List.take_succ_cons, List.take_zero, List.map_append, List.nil_append, List.cons_append, Nat.reduceShiftRight, Nat.reduceMod]
        · have hkl : k = l.length := by (simp only [decide_eq_true_eq, decide_eq_false_iff_not, Bool.not_true, I64, Bool.not_eq_true', Bool.not_eq_false', bne_iff_ne, beq_iff_eq, ne_eq] at *; omega)
          cases hkl
          rw [List.take_length] at ho
          simp only [vcV, vcD, Int.reduceEq, Int.reduceNe, Int.reduceLT, Int.reduceLE, Nat.reduceEqDiff, Nat.reduceAdd, reduceIte, reduceCtorEq, Nat.reduceLT, Nat.reduceLeDiff, eq_self, Option.bind_some, Option.map_some, List.map_cons, List.map_nil, List.length_cons, List.length_nil, Option.getD_some, Option.getD_none, List.all_cons, List.all_nil, List.set_cons_zero, List.set_cons_succ, List.replicate_succ, List.replicate_zero, List.getElem?_cons_zero, List.getElem?_cons_succ, List.drop_succ_cons, List.drop_zero, List.take_succ_cons, List.take_zero, List.map_append, List.nil_append, List.cons_append, Nat.reduceShiftRight, Nat.reduceMod]
          (repeat (with_reducible refine And.intro ?_ ?_; focus (first | omega | (unfold I64; omega))))
          refine ⟨⟨i + 1, h', hnx h5 ho⟩, by simp only; omega, ?_⟩
          refine weakX [] (of_decide_eq_true rfl) (of_decide_eq_true rfl) ?_
          (simp only [vcW, vcV, vcD, Int.reduceEq, Int.reduceNe, Int.reduceLT, Int.reduceLE, Nat.reduceEqDiff, Nat.reduceAdd, reduceIte, reduceCtorEq, Nat.reduceLT, Nat.reduceLeDiff, eq_self, Option.bind_some, Option.map_some, List.map_cons, List.map_nil, List.length_cons, List.length_nil, Option.getD_some, Option.getD_none, List.all_cons, List.all_nil, List.set_cons_zero, List.set_cons_succ, List.replicate_succ, List.replicate_zero, List.getElem?_cons_zero, List.getElem?_cons_succ, List.drop_succ_cons, List.drop_zero, List.take_succ_cons, List.take_zero, List.map_append, List.nil_append, List.cons_append, Nat.reduceShiftRight, Nat.reduceMod])
          (repeat' first | exact trivial | (with_reducible exact RnB.fxB (ints_fxB _)) | (with_reducible rfl) | (with_reducible refine And.intro ?_ ?_) | (with_reducible refine RnB.bb ?_; simp only [vcW, vcV, vcD, Int.reduceEq, Int.reduceNe, Int.reduceLT, Int.reduceLE, Nat.reduceEqDiff, Nat.reduceAdd, reduceIte, reduceCtorEq, Nat.reduceLT, Nat.reduceLeDiff, eq_self, Option.bind_some, Option.map_some, List.map_cons, List.map_nil, List.length_cons, List.length_nil, Option.getD_some, Option.getD_none, List.all_cons, List.all_nil, List.set_cons_zero, List.set_cons_succ, List.replicate_succ, List.replicate_zero, List.getElem?_cons_zero, List.getElem?_cons_succ, List.drop_succ_cons, List.drop_zero, List.take_succ_cons, List.take_zero, List.map_append, List.nil_append, List.cons_append, Nat.reduceShiftRight, Nat.reduceMod]) | (with_reducible refine RnB.nb ?_; simp only [vcW, vcV, vcD, Int.reduceEq, Int.reduceNe, Int.reduceLT, Int.reduceLE, Nat.reduceEqDiff, Nat.reduceAdd, reduceIte, reduceCtorEq, Nat.reduceLT, Nat.reduceLeDiff, eq_self, Option.bind_some, Option.map_some, List.map_cons, List.map_nil, List.length_cons, List.length_nil, Option.getD_some, Option.getD_none, List.all_cons, List.all_nil, List.set_cons_zero, List.set_cons_succ, List.replicate_succ, List.replicate_zero, List.getElem?_cons_zero, List.getElem?_cons_succ, List.drop_succ_cons, List.drop_zero, List.take_succ_cons, List.take_zero, List.map_append, List.nil_append, List.cons_append, Nat.reduceShiftRight, Nat.reduceMod]) | (with_reducible refine RnB.ii ?_) | (with_reducible refine RnB.app ?_) | (with_reducible refine RnB.fxB ?_; simp only [vcW, vcV, vcD, Int.reduceEq, Int.reduceNe, Int.reduceLT, Int.reduceLE, Nat.reduceEqDiff, Nat.reduceAdd, reduceIte, reduceCtorEq, Nat.reduceLT, Nat.reduceLeDiff, eq_self, Option.bind_some, Option.map_some, List.map_cons, List.map_nil, List.length_cons, List.length_nil, Option.getD_some, Option.getD_none, List.all_cons, List.all_nil, List.set_cons_zero, List.set_cons_succ, List.replicate_succ, List.replicate_zero, List.getElem?_cons_zero, List.getElem?_cons_succ, List.drop_succ_cons, List.drop_zero, List.take_succ_cons, List.take_zero, List.map_append, List.nil_append, List.cons_append, Nat.reduceShiftRight, Nat.reduceMod]) | omega)
    · have hi' : i = s.length := by (simp only [decide_eq_true_eq, decide_eq_false_iff_not, Bool.not_true, I64, Bool.not_eq_true', Bool.not_eq_false', bne_iff_ne, beq_iff_eq, ne_eq] at *; omega)
      cases hi'
      rw [List.take_length] at hn
      have hsm : smallW s = decide ((skyE s).2 = 0) := by unfold smallW; rw [hn, decide_eq_true h4]; rfl
      simp only [vcV, vcD, Int.reduceEq, Int.reduceNe, Int.reduceLT, Int.reduceLE, Nat.reduceEqDiff, Nat.reduceAdd, reduceIte, reduceCtorEq, Nat.reduceLT, Nat.reduceLeDiff, eq_self, Option.bind_some, Option.map_some, List.map_cons, List.map_nil, List.length_cons, List.length_nil, Option.getD_some, Option.getD_none, List.all_cons, List.all_nil, List.set_cons_zero, List.set_cons_succ, List.replicate_succ, List.replicate_zero, List.getElem?_cons_zero, List.getElem?_cons_succ, List.drop_succ_cons, List.drop_zero, List.take_succ_cons, List.take_zero, List.map_append, List.nil_append, List.cons_append, Nat.reduceShiftRight, Nat.reduceMod]
      refine callS_of (SkyErr_s s (by omega) (fun l h => by have := List.all_eq_true.1 hn l h; simp at this; omega)) ?_
      simp only [hsm, vcV, vcD, Int.reduceEq, Int.reduceNe, Int.reduceLT, Int.reduceLE, Nat.reduceEqDiff, Nat.reduceAdd, reduceIte, reduceCtorEq, Nat.reduceLT, Nat.reduceLeDiff, eq_self, Option.bind_some, Option.map_some, List.map_cons, List.map_nil, List.length_cons, List.length_nil, Option.getD_some, Option.getD_none, List.all_cons, List.all_nil, List.set_cons_zero, List.set_cons_succ, List.replicate_succ, List.replicate_zero, List.getElem?_cons_zero, List.getElem?_cons_succ, List.drop_succ_cons, List.drop_zero, List.take_succ_cons, List.take_zero, List.map_append, List.nil_append, List.cons_append, Nat.reduceShiftRight, Nat.reduceMod]

/-- Counts of a single window: it is an alarm, or not. -/
def oneA (r : Rule) (x : Int) : Bool := decide (isAlarm r (x - r.window * r.mean))
theorem wins_one (r : Rule) (l : List Int) (hw : 1 ≤ r.window) (hl : (l.length : Int) = r.window) : wins r l = [(l.length - 1, l.sum - r.window * r.mean)] := by
  unfold wins winsTo
  have hn : r.window.toNat = l.length := by omega
  have hf : (List.range l.length).filter (fun b => decide (r.window.toNat ≤ b + 1)) = [l.length - 1] := by
    obtain ⟨k, hk⟩ : ∃ k, l.length = k + 1 := ⟨l.length - 1, by omega⟩
    rw [hn, hk, List.range_succ, List.filter_append]
    have h1 : (List.range k).filter (fun b => decide (k + 1 ≤ b + 1)) = [] := List.filter_eq_nil_iff.2 fun b hb => by have := List.mem_range.1 hb; simp; omega
    rw [h1]; simp
  rw [hf]
  have he : excess r l (l.length - 1) = l.sum - r.window * r.mean := by
    unfold excess preSum
    rw [show l.length - 1 + 1 = l.length by omega, hn, Nat.sub_self, List.take_length, ← hl]; simp
  simp [he]
theorem alarms_one (r : Rule) (l : List Int) (hw : 1 ≤ r.window) (hl : (l.length : Int) = r.window) : (alarmsL r (wins r l)).length = if oneA r l.sum then 1 else 0 := by
  rw [wins_one r l hw hl]
  unfold alarmsL oneA
  by_cases h : isAlarm r (l.sum - r.window * r.mean)
  · rw [List.filter_cons_of_pos (by simpa using h)]; simp [h]
  · rw [List.filter_cons_of_neg (by simpa using h)]; simp [h]
theorem One_s (r : Rule) (l : List Int) (hr : r.ok) (hl : (l.length : Int) = r.window) (hc : countsE l = 0) : ∃ a : List Int, a.length = (if oneA r l.sum then 1 else 0) ∧ Sound Try.prog 31 [r.av, .sl (ints l)] (.tup [.sl (ints a), .int .i64 0]) := by
  have h := AlarmsIn_s r l (by have := hr.2.2.1; omega)
  have hE : ruleE r = 0 := if_pos hr
  rw [if_neg (by simp [hE, hc])] at h
  exact ⟨_, alarms_one r l hr.2.2.1.1 hl, h⟩
theorem countsE_of {l : List Int} (h1 : l.length ≤ 60) (h2 : ∀ x ∈ l, 0 ≤ x ∧ x ≤ 1000000) : countsE l = 0 := by
  unfold countsE
  have : (l.all fun n => decide (0 ≤ n ∧ n ≤ 1000000)) = true := by simpa using h2
  rw [if_neg (by omega), if_pos this]
theorem alarm_mono {r : Rule} (hr : r.ok) {a b : Int} (h : oneA r a = true) (hab : a ≤ b) : oneA r b = true := by
  unfold oneA at *
  simp only [decide_eq_true_eq] at *
  unfold isAlarm at *
  obtain ⟨h1, h2⟩ := h
  refine ⟨by omega, ?_⟩
  generalize hx : a - r.window * r.mean = x at *
  generalize hy : b - r.window * r.mean = y at *
  have hxy : x ≤ y := by omega
  have e1 : x * x ≤ y * y := Int.mul_le_mul hxy hxy (by omega) (by omega)
  have e2 : 100 * x * x = 100 * (x * x) := by rw [Int.mul_assoc]
  have e3 : 100 * y * y = 100 * (y * y) := by rw [Int.mul_assoc]
  omega
end Go.Proofs.Ytaebfjepacnmhaa

/- All cases counted, in plain Lean. By an AI agent; nothing here is trusted. -/
namespace Go.Proofs.Ytaebfjepacnmhaa
open Go.Av

def sumTo (g : Nat → Int) : Nat → Int
  | 0 => 0
  | n + 1 => sumTo g n + g n
theorem sumTo_congr {g h : Nat → Int} : ∀ {n : Nat}, (∀ i, i < n → g i = h i) → sumTo g n = sumTo h n
  | 0, _ => rfl
  | n + 1, e => by rw [sumTo, sumTo, sumTo_congr (fun i hi => e i (by omega)), e n (by omega)]
theorem sumTo_add (g h : Nat → Int) : ∀ n, sumTo (fun i => g i + h i) n = sumTo g n + sumTo h n
  | 0 => rfl
  | n + 1 => by simp only [sumTo, sumTo_add g h n]; omega
theorem sumTo_zero : ∀ n, sumTo (fun _ => 0) n = 0
  | 0 => rfl
  | n + 1 => by simp only [sumTo, sumTo_zero n]; rfl
theorem sumTo_split (g : Nat → Int) (a : Nat) : ∀ b, sumTo g (a + b) = sumTo g a + sumTo (fun k => g (a + k)) b
  | 0 => by simp [sumTo]
  | b + 1 => by
    have : sumTo g (a + (b + 1)) = sumTo g (a + b) + g (a + b) := rfl
    rw [this, sumTo_split g a b, sumTo]; omega
theorem sumTo_mul (g : Nat → Int) (m : Nat) : ∀ q, sumTo g (m * q) = sumTo (fun c => sumTo (fun k => g (m * c + k)) m) q
  | 0 => by simp [sumTo]
  | q + 1 => by rw [Nat.mul_succ, sumTo_split, sumTo_mul g m q, sumTo]
theorem sumTo_swap (g : Nat → Nat → Int) (m : Nat) : ∀ q, sumTo (fun c => sumTo (fun k => g c k) m) q = sumTo (fun k => sumTo (fun c => g c k) q) m
  | 0 => by simp only [sumTo]; rw [sumTo_zero]
  | q + 1 => by simp only [sumTo]; rw [sumTo_swap g m q, ← sumTo_add]
theorem sumTo_list (f : Int → Int) (l : List Int) : sumTo (fun k => f (l.getD k 0)) l.length = (l.map f).sum := by
  have key : ∀ n, n ≤ l.length → sumTo (fun k => f (l.getD k 0)) n = ((l.take n).map f).sum := by
    intro n
    induction n with
    | zero => intro _; simp [sumTo]
    | succ n ih =>
      intro hn
      rw [sumTo, ih (by omega), List.take_succ_eq_append_getElem (show n < l.length from hn), List.map_append, List.sum_append]
      simp [List.getD, List.getElem?_eq_getElem (show n < l.length from hn)]
  rw [key _ (Nat.le_refl _), List.take_length]

/-- The sum of a case, its number read digit by digit. -/
def dsum : List (List Int) → Nat → Int
  | [], _ => 0
  | l :: r, c => l.getD (c % l.length) 0 + dsum r (c / l.length)
def dcnt : List (List Int) → Nat
  | [] => 1
  | l :: r => l.length * dcnt r
def drest : List (List Int) → Nat → Nat
  | [], c => c
  | l :: r, c => drest r (c / l.length)
theorem dsum_append : ∀ (a b : List (List Int)) (c : Nat), dsum (a ++ b) c = dsum a c + dsum b (drest a c)
  | [], b, c => by simp [dsum, drest]
  | l :: a, b, c => by simp only [List.cons_append, dsum, drest, dsum_append a b]; omega
theorem drest_append : ∀ (a b : List (List Int)) (c : Nat), drest (a ++ b) c = drest b (drest a c)
  | [], b, c => rfl
  | l :: a, b, c => by simp only [List.cons_append, drest, drest_append a b]
theorem lin_cases : ∀ (ls : List (List Int)) (v : List Int) (f : Int → Int), (∀ l ∈ ls, 0 < l.length ∧ ∀ c ∈ l, 0 ≤ c) → lin (ls.foldl conv v) f = lin v (fun x => sumTo (fun c => f (x + dsum ls c)) (dcnt ls))
  | [], v, f, _ => by simp [dsum, dcnt, sumTo]
  | l :: r, v, f, h => by
    have hl := h l List.mem_cons_self
    rw [List.foldl_cons, lin_cases r _ f (fun x hx => h x (List.mem_cons_of_mem _ hx)), lin_conv v l hl.2]
    congr 1
    funext x
    rw [dcnt, sumTo_mul, ← sumTo_list, sumTo_swap]
    refine sumTo_congr fun q hq => ?_
    refine sumTo_congr fun k hk => ?_
    rw [dsum, Nat.mul_add_mod, Nat.mod_eq_of_lt hk, Nat.mul_add_div hl.1, Nat.div_eq_of_lt hk, Nat.add_zero, Int.add_assoc]
/-- The sensors of some bins, one bin after the other. -/
def binsL (s : List (List Int)) : Nat → List (List Int)
  | 0 => []
  | b + 1 => binsL s b ++ s
theorem bTo_bins (s : List (List Int)) : ∀ b, bTo s b = (binsL s b).foldl conv [1]
  | 0 => rfl
  | b + 1 => by rw [binsL, List.foldl_append, ← bTo_bins s b]; rfl
theorem binsL_mem {s : List (List Int)} {x : List Int} : ∀ {b : Nat}, x ∈ binsL s b → x ∈ s
  | 0, h => by simp [binsL] at h
  | b + 1, h => by
    rcases List.mem_append.1 h with e | e
    · exact binsL_mem e
    · exact e
theorem lin_bTo {s : List (List Int)} (hs : ∀ l ∈ s, sensE l = 0) (b : Nat) (f : Int → Int) : lin (bTo s b) f = sumTo (fun c => f (dsum (binsL s b) c)) (dcnt (binsL s b)) := by
  rw [bTo_bins, lin_cases]
  · simp [lin]
  · intro l hl
    obtain ⟨h1, h2, h3⟩ := sensE_ok (hs l (binsL_mem hl))
    exact ⟨h1, fun c hc => (h3 c hc).1⟩
theorem sumTo_one : ∀ n, sumTo (fun _ => 1) n = n
  | 0 => rfl
  | n + 1 => by rw [sumTo, sumTo_one n]; omega
theorem bTo_count {s : List (List Int)} (hs : ∀ l ∈ s, sensE l = 0) (b : Nat) : (bTo s b).sum = dcnt (binsL s b) := by
  rw [← lin_one, lin_bTo hs, sumTo_one]
theorem ways_count {s : List (List Int)} (hs : ∀ l ∈ s, sensE l = 0) (b F : Nat) : ((bTo s b).drop F).sum = sumTo (fun c => if (F : Int) ≤ dsum (binsL s b) c then 1 else 0) (dcnt (binsL s b)) := by
  rw [← lin_tail, lin_bTo hs]; rfl
theorem dsum_bound {m : Int} (hm : 0 ≤ m) : ∀ (ls : List (List Int)) (c : Nat), (∀ l ∈ ls, 0 < l.length ∧ ∀ x ∈ l, 0 ≤ x ∧ x ≤ m) → 0 ≤ dsum ls c ∧ dsum ls c ≤ m * ls.length
  | [], c, _ => by simp [dsum]
  | l :: r, c, h => by
    have ih := dsum_bound hm r (c / l.length) fun x hx => h x (List.mem_cons_of_mem _ hx)
    obtain ⟨h1, h2⟩ := h l List.mem_cons_self
    have hk : c % l.length < l.length := Nat.mod_lt _ h1
    have he : l.getD (c % l.length) 0 = l[c % l.length] := by simp [List.getD, List.getElem?_eq_getElem hk]
    have hx := h2 _ (List.getElem_mem hk)
    rw [dsum, he, List.length_cons, Int.natCast_add, Int.mul_add]
    simp only [Int.natCast_one, Int.mul_one]
    omega
theorem dcnt_bound : ∀ (ls : List (List Int)), (∀ l ∈ ls, 0 < l.length ∧ l.length ≤ 3) → 1 ≤ dcnt ls ∧ dcnt ls ≤ 3 ^ ls.length
  | [], _ => by simp [dcnt]
  | l :: r, h => by
    obtain ⟨i1, i2⟩ := dcnt_bound r fun x hx => h x (List.mem_cons_of_mem _ hx)
    obtain ⟨h1, h2⟩ := h l List.mem_cons_self
    rw [dcnt, List.length_cons, Nat.pow_succ]
    exact ⟨Nat.mul_pos h1 i1, by have := Nat.mul_le_mul h2 i2; omega⟩
theorem binsL_length (s : List (List Int)) : ∀ b, (binsL s b).length = b * s.length
  | 0 => by simp [binsL]
  | b + 1 => by rw [binsL, List.length_append, binsL_length s b, Nat.succ_mul]

/-- The first number from which on it holds, at most so far. -/
def fromA (p : Nat → Bool) : Nat → Nat → Nat
  | 0, f => f
  | n + 1, f => if p f then f else fromA p n (f + 1)
theorem fromA_spec (p : Nat → Bool) : ∀ (n f : Nat), f ≤ fromA p n f ∧ fromA p n f ≤ f + n ∧ (∀ g, f ≤ g → g < fromA p n f → p g = false) ∧ (fromA p n f < f + n → p (fromA p n f) = true)
  | 0, f => ⟨Nat.le_refl _, Nat.le_refl _, fun g h1 h2 => by simp only [fromA] at h2; omega, fun h => by simp only [fromA] at h; omega⟩
  | n + 1, f => by
    obtain ⟨h1, h2, h3, h4⟩ := fromA_spec p n (f + 1)
    unfold fromA
    by_cases hp : p f = true
    · rw [if_pos hp]; exact ⟨Nat.le_refl _, by omega, fun g h1 h2 => by omega, fun _ => hp⟩
    · rw [if_neg hp]
      refine ⟨by omega, by omega, fun g g1 g2 => ?_, fun h => h4 (by omega)⟩
      by_cases e : g = f
      · subst e; simpa using hp
      · exact h3 g (by omega) g2
def frF (r : Rule) : Nat := fromA (fun f => oneA r f) 400 0
theorem frF_iff {r : Rule} (hr : r.ok) {x : Int} (h0 : 0 ≤ x) (h1 : x < 400) : oneA r x = true ↔ (frF r : Int) ≤ x := by
  obtain ⟨q1, q2, q3, q4⟩ := fromA_spec (fun f => oneA r f) 400 0
  constructor
  · intro h
    by_cases hc : (frF r : Int) ≤ x
    · exact hc
    · have := q3 x.toNat (by omega) (by unfold frF at hc; omega)
      simp only [show ((x.toNat : Nat) : Int) = x by omega] at this
      rw [this] at h; cases h
  · intro h
    have := q4 (by unfold frF at h; omega)
    exact alarm_mono hr this h
theorem frF_le (r : Rule) : frF r ≤ 400 := by
  have := (fromA_spec (fun f => oneA r f) 400 0).2.1
  unfold frF; omega
theorem frF_mono {r r' : Rule} (h : ∀ x : Int, oneA r' x = true → oneA r x = true) : frF r ≤ frF r' := by
  obtain ⟨q1, q2, q3, q4⟩ := fromA_spec (fun f => oneA r f) 400 0
  obtain ⟨p1, p2, p3, p4⟩ := fromA_spec (fun f => oneA r' f) 400 0
  by_cases hc : frF r ≤ frF r'
  · exact hc
  · have h1 := q3 (frF r') (by omega) (by unfold frF at hc ⊢; omega)
    have h2 := p4 (by unfold frF at hc; omega)
    have := h _ h2
    unfold frF at h1
    rw [this] at h1; cases h1
/-- A part in lowest terms is the same part. -/
theorem low_part (a b : Int) (hb : 0 < b) : lowN a b * b = a * lowD a b := by
  unfold lowN lowD lowG
  rw [if_neg (by omega)]
  have h1 : ((Int.gcd a b : Nat) : Int) ∣ a := Int.gcd_dvd_left _ _
  have h2 : ((Int.gcd a b : Nat) : Int) ∣ b := Int.gcd_dvd_right _ _
  have hg : ((Int.gcd a b : Nat) : Int) ≠ 0 := by
    have := Int.gcd_pos_of_ne_zero_right a (show b ≠ 0 by omega)
    omega
  generalize ((Int.gcd a b : Nat) : Int) = g at *
  obtain ⟨x, hx⟩ := h1
  obtain ⟨y, hy⟩ := h2
  have e1 : a.tdiv g = x := by rw [hx]; exact Int.mul_tdiv_cancel_left _ hg
  have e2 : b.tdiv g = y := by rw [hy]; exact Int.mul_tdiv_cancel_left _ hg
  rw [e1, e2, hx, hy]
  rw [Int.mul_comm g x, Int.mul_assoc, ← Int.mul_assoc, Int.mul_comm x g, Int.mul_assoc]
end Go.Proofs.Ytaebfjepacnmhaa

/- Contracts: a single window that is raised. By an AI agent; nothing here is trusted. -/
namespace Go.Proofs.Ytaebfjepacnmhaa
open Go.Av

theorem watchRaises_s (r : Rule) (hr : r.ok) (f : Nat) (hf : f ≤ 400) : Sound Try.prog 61 [r.av, .int .i64 f] (.bool (oneA r f)) := by
  refine sound_W f_top_watchRaises (Nat.le_of_ble_eq_true rfl) ?_
  obtain ⟨hr1, hr2, hr3, hr4⟩ := id hr
  obtain ⟨w, hw⟩ : ∃ w : Nat, r.window = (w : Int) := ⟨r.window.toNat, by omega⟩
  have hav : r.av = .agg [.int .i64 r.mean, .int .i64 r.spread, .int .i64 w, .int .i64 r.limit] := by rw [← hw]; rfl
  obtain ⟨l, hl⟩ : ∃ l : List Int, l = (List.replicate w (0 : Int)).set 0 (f : Int) := ⟨_, rfl⟩
  have hlen : l.length = w := by rw [hl]; simp
  have hsum : l.sum = f := by
    rw [hl]
    obtain ⟨k, hk⟩ : ∃ k, w = k + 1 := ⟨w - 1, by omega⟩
    rw [hk, List.replicate_succ, List.set_cons_zero, List.sum_cons]
    simp
  have hc : countsE l = 0 := countsE_of (by omega) fun x hx => by
    rw [hl] at hx
    rcases List.mem_or_eq_of_mem_set hx with e | e
    · rw [List.eq_of_mem_replicate e]; omega
    · omega
  obtain ⟨a, ha, hA⟩ := One_s r l hr (by omega) hc
  rw [hsum] at ha
  rw [hav] at hA ⊢
  have hmax := maxLen_big
  have hset : (List.replicate w (AV.int .i64 0)).set 0 (.int .i64 f) = ints l := by rw [hl, ints_zero, ints_set]
  have hset' : (List.replicate w (AV.int .i64 0)).set 0 (putIn (.int .i64 0) 0 (.int .i64 f)) = ints l := hset
  have hz0 : Int.toNat 0 = 0 := rfl
  have hg0 : (List.replicate w (AV.int .i64 0))[0]? = some (.int .i64 0) := by rw [List.getElem?_replicate, if_pos (by omega)]
  have hlr : (List.replicate w (AV.int .i64 0)).length = w := by simp
  simp only [c_top_watchRaises, vcV, vcD, Int.reduceEq, Int.reduceNe, Int.reduceLT, Int.reduceLE, Nat.reduceEqDiff, Nat.reduceAdd, reduceIte, reduceCtorEq, Nat.reduceLT, Nat.reduceLeDiff, eq_self, Option.bind_some, Option.map_some, List.map_cons, List.map_nil, List.length_cons, List.length_nil, Option.getD_some, Option.getD_none, List.all_cons, List.all_nil, List.set_cons_zero, List.set_cons_succ, List.replicate_succ, List.replicate_zero, List.getElem?_cons_zero, List.getElem?_cons_succ, List.drop_succ_cons, List.drop_zero, List.take_succ_cons, List.take_zero, List.map_append, List.nil_append, List.cons_append, Nat.reduceShiftRight, Nat.reduceMod]
  (repeat (with_reducible refine And.intro ?_ ?_; focus (first | omega | (unfold I64; omega))))
  refine ⟨mkOk_zero _, ?_⟩
  simp only [hz0, hg0, hlr, vcV, vcD, Int.reduceEq, Int.reduceNe, Int.reduceLT, Int.reduceLE, Nat.reduceEqDiff, Nat.reduceAdd, reduceIte, reduceCtorEq, Nat.reduceLT, Nat.reduceLeDiff, eq_self, Option.bind_some, Option.map_some, List.map_cons, List.map_nil, List.length_cons, List.length_nil, Option.getD_some, Option.getD_none, List.all_cons, List.all_nil, List.set_cons_zero, List.set_cons_succ, List.replicate_succ, List.replicate_zero, List.getElem?_cons_zero, List.getElem?_cons_succ, List.drop_succ_cons, List.drop_zero, List.take_succ_cons, List.take_zero, List.map_append, List.nil_append, List.cons_append, Nat.reduceShiftRight, Nat.reduceMod]
  (repeat (with_reducible refine And.intro ?_ ?_; focus (first | omega | (unfold I64; omega))))
  rw [hset, borB_good _ _ _ _ _ (by rw [ints_length, hlen]) (ints_fx _)]
  refine callS_of hA ?_
  simp only [ints_length, vcV, vcD, Int.reduceEq, Int.reduceNe, Int.reduceLT, Int.reduceLE, Nat.reduceEqDiff, Nat.reduceAdd, reduceIte, reduceCtorEq, Nat.reduceLT, Nat.reduceLeDiff, eq_self, Option.bind_some, Option.map_some, List.map_cons, List.map_nil, List.length_cons, List.length_nil, Option.getD_some, Option.getD_none, List.all_cons, List.all_nil, List.set_cons_zero, List.set_cons_succ, List.replicate_succ, List.replicate_zero, List.getElem?_cons_zero, List.getElem?_cons_succ, List.drop_succ_cons, List.drop_zero, List.take_succ_cons, List.take_zero, List.map_append, List.nil_append, List.cons_append, Nat.reduceShiftRight, Nat.reduceMod]
  rw [ha]
  cases oneA r f <;> simp
end Go.Proofs.Ytaebfjepacnmhaa

/- The law TopWatchFalseAlarms: its inner loops. By an AI agent; nothing here is trusted. -/
namespace Go.Av
/-- A loop whose end is said by itself. -/
theorem WL_loopX {P : Program} {N : Nat} {Q : Exit → Env → Store → Prop} {e : Env} {s : Store} {α : Type} (st : α → Env × Store) (mu : α → Nat) (x0 : α) {b : ML} {t} (id : Nat) (R : Env → Store → Prop) (h0 : Weak (e, s) (st x0))
    (hb : ∀ x, WL P N b (fun ex e' s' => match ex with
      | .normal => ∃ y, mu y < mu x ∧ Weak (e', s') (st y)
      | .exit j => j = id ∧ R e' s'
      | _ => False) (st x).1 (st x).2 .mk) (hR : ∀ e s, R e s → Q (.exit id) e s) : WL P N (.loop b) Q e s t :=
  AWM.loop st mu x0 h0 fun x => (WL_sound (hb x)).mono fun ex e s h => by
    cases ex with
    | normal => exact h
    | exit j => obtain ⟨rfl, h⟩ := h; exact hR _ _ h
    | _ => exact h.elim
end Go.Av
namespace Go.Proofs.Ytaebfjepacnmhaa
open Go.Av

def cl_top_TopWatchFalseAlarms_b10 : ML := (.seq (.seq (.reg 85070591730234615865843651857944149276 [⟨none, (some 122), (.mv (.t 20))⟩, ⟨none, (some 123), (.fieldAddr (.t 3) 0)⟩, ⟨none, (some 124), (.load none (.t 123))⟩, ⟨none, (some 125), (.len false (.t 124))⟩, ⟨none, (some 126), (.bin .lss (.t 122) (.t 125))⟩] false []) (.cond (.t 126) .skip (.exit 10))) (.seq (.block 11 (.seq (.reg 2096412 [⟨none, (some 129), (.mv (.t 19))⟩, ⟨none, (some 130), (.fieldAddr (.t 3) 0)⟩, ⟨none, (some 131), (.load none (.t 130))⟩, ⟨none, (some 132), (.mv (.t 20))⟩, ⟨none, (some 133), (.indexAddr (.t 131) (.t 132) 1)⟩, ⟨none, (some 134), (.load none (.t 133))⟩, ⟨none, (some 135), (.mv (.t 17))⟩, ⟨none, (some 136), (.fieldAddr (.t 3) 0)⟩, ⟨none, (some 137), (.load none (.t 136))⟩, ⟨none, (some 138), (.mv (.t 20))⟩, ⟨none, (some 139), (.indexAddr (.t 137) (.t 138) 1)⟩, ⟨none, (some 140), (.load none (.t 139))⟩, ⟨none, (some 141), (.len false (.t 140))⟩, ⟨none, (some 142), (.bin .rem (.t 135) (.t 141))⟩, ⟨none, (some 143), (.indexAddr (.t 134) (.t 142) 1)⟩, ⟨none, (some 144), (.load none (.t 143))⟩, ⟨none, (some 145), (.bin .add (.t 129) (.t 144))⟩, ⟨none, (some 19), (.mv (.t 145))⟩] true []) (.reg 2096412 [⟨none, (some 146), (.mv (.t 17))⟩, ⟨none, (some 147), (.fieldAddr (.t 3) 0)⟩, ⟨none, (some 148), (.load none (.t 147))⟩, ⟨none, (some 149), (.mv (.t 20))⟩, ⟨none, (some 150), (.indexAddr (.t 148) (.t 149) 1)⟩, ⟨none, (some 151), (.load none (.t 150))⟩, ⟨none, (some 152), (.len false (.t 151))⟩, ⟨none, (some 153), (.bin .quo (.t 146) (.t 152))⟩, ⟨none, (some 17), (.mv (.t 153))⟩] false []))) (.reg 2096412 [⟨none, (some 127), (.mv (.t 20))⟩, ⟨none, (some 128), (.bin .add (.t 127) (.c (.int .i64 1)))⟩, ⟨none, (some 20), (.mv (.t 128))⟩] false [])))
def cl_top_TopWatchFalseAlarms_b8 : ML := (.seq (.seq (.reg 664613997892457936451903530140695836 [⟨none, (some 116), (.mv (.t 18))⟩, ⟨none, (some 117), (.fieldAddr (.t 4) 2)⟩, ⟨none, (some 118), (.load none (.t 117))⟩, ⟨none, (some 119), (.bin .lss (.t 116) (.t 118))⟩] false []) (.cond (.t 119) .skip (.exit 8))) (.seq (.block 9 (.seq (.reg 1047836 [⟨none, (some 19), (.mv (.c (.int .i64 0)))⟩] false []) (.seq (.seq (.reg 2096412 [⟨none, (some 20), (.mv (.c (.int .i64 0)))⟩] false []) (.block 10 (.loop cl_top_TopWatchFalseAlarms_b10))) (.reg 523548 [⟨none, (some 154), (.mv (.t 16))⟩, ⟨none, (some 155), (.mv (.t 19))⟩, ⟨none, (some 156), (.buildSlice 3 1 1 (.int .i64 0) [(0, (.t 155))])⟩, ⟨none, (some 157), (.append 3 1 8 (.int .i64 0) (.t 154) (.t 156))⟩, ⟨none, (some 16), (.mv (.t 157))⟩] false [])))) (.reg 523548 [⟨none, (some 120), (.mv (.t 18))⟩, ⟨none, (some 121), (.bin .add (.t 120) (.c (.int .i64 1)))⟩, ⟨none, (some 18), (.mv (.t 121))⟩] false [])))
def cl_top_TopWatchFalseAlarms_b6 : ML := (.seq (.seq (.reg 5192296858534827628530496329284892 [⟨none, (some 110), (.mv (.t 15))⟩, ⟨none, (some 111), (.mv (.t 8))⟩, ⟨none, (some 112), (.bin .lss (.t 110) (.t 111))⟩] false []) (.cond (.t 112) .skip (.exit 6))) (.seq (.block 7 (.seq (.reg 130332 [⟨none, (some 16), (.mv (.c .nils))⟩] false []) (.seq (.reg 261404 [⟨none, (some 115), (.mv (.t 15))⟩, ⟨none, (some 17), (.mv (.t 115))⟩] false []) (.seq (.seq (.reg 523548 [⟨none, (some 18), (.mv (.c (.int .i64 0)))⟩] false []) (.block 8 (.loop cl_top_TopWatchFalseAlarms_b8))) (.seq (.reg 6356252 [⟨none, (some 159), (.load (some 4) (.t 12))⟩, ⟨none, (some 160), (.mv (.t 16))⟩, ⟨none, (some 161), (.call 31 [(.t 159), (.t 160)])⟩, ⟨none, (some 158), (.mv (.t 161))⟩, ⟨none, (some 162), (.extract (.t 158) 0)⟩, ⟨none, (some 163), (.extract (.t 158) 1)⟩, ⟨none, (some 21), (.mv (.t 162))⟩, ⟨none, (some 22), (.mv (.t 163))⟩] false []) (.seq (.seq (.reg 1496577676626844588240573268701473812127674926169372 [⟨none, (some 164), (.mv (.t 22))⟩, ⟨none, (some 165), (.bin .neq (.t 164) (.c (.int .i64 0)))⟩, ⟨none, (some 166), (.mv (.t 165))⟩, ⟨(some (166, false)), (some 167), (.mv (.t 21))⟩, ⟨(some (166, false)), (some 168), (.len false (.t 167))⟩, ⟨(some (166, false)), (some 169), (.bin .gtr (.t 168) (.c (.int .i64 1)))⟩, ⟨none, (some 170), (.pick (.t 166) (.c (.bool true)) (.t 169))⟩] false []) (.cond (.t 170) (.seq (.reg 64 [⟨none, (some 6), (.mv (.c (.bool false)))⟩] false []) .ret) .skip)) (.reg 64796 [⟨none, (some 171), (.mv (.t 14))⟩, ⟨none, (some 172), (.mv (.t 21))⟩, ⟨none, (some 173), (.len false (.t 172))⟩, ⟨none, (some 174), (.bin .add (.t 171) (.t 173))⟩, ⟨none, (some 14), (.mv (.t 174))⟩] false []))))))) (.reg 64796 [⟨none, (some 113), (.mv (.t 15))⟩, ⟨none, (some 114), (.bin .add (.t 113) (.c (.int .i64 1)))⟩, ⟨none, (some 15), (.mv (.t 114))⟩] false [])))
def cl_top_TopWatchFalseAlarms_b4 : ML := (.seq (.seq (.reg 162259276829213363391578010303772 [⟨none, (some 100), (.mv (.t 13))⟩, ⟨none, (some 101), (.bin .lss (.t 100) (.c (.int .i64 400)))⟩, ⟨none, (some 102), (.mv (.t 101))⟩, ⟨(some (102, true)), (some 103), (.load (some 4) (.t 12))⟩, ⟨(some (102, true)), (some 104), (.mv (.t 13))⟩, ⟨(some (102, true)), (some 105), (.call 61 [(.t 103), (.t 104)])⟩, ⟨(some (102, true)), (some 106), (.un .not (.t 105))⟩, ⟨none, (some 107), (.pick (.t 102) (.t 106) (.c (.bool false)))⟩] false []) (.cond (.t 107) .skip (.exit 4))) (.block 5 (.reg 15644 [⟨none, (some 108), (.mv (.t 13))⟩, ⟨none, (some 109), (.bin .add (.t 108) (.c (.int .i64 1)))⟩, ⟨none, (some 13), (.mv (.t 109))⟩] false [])))
def cl_top_TopWatchFalseAlarms_b2 : ML := (.seq (.seq (.reg 309485009821345068724784412 [⟨none, (some 87), (.mv (.t 11))⟩, ⟨none, (some 88), (.bin .lss (.t 87) (.c (.int .i64 2)))⟩] false []) (.cond (.t 88) .skip (.exit 2))) (.seq (.block 3 (.seq (.reg 7452 [⟨none, (some 91), (.load (some 4) (.t 4))⟩, ⟨none, (some 12), (.alloc 49 4 (.agg [(.int .i64 0), (.int .i64 0), (.int .i64 0), (.int .i64 0)]))⟩, ⟨none, none, (.store 4 (.t 12) (.t 91))⟩] false []) (.seq (.reg 7452 [⟨none, (some 92), (.fieldAddr (.t 4) 3)⟩, ⟨none, (some 93), (.load none (.t 92))⟩, ⟨none, (some 94), (.mv (.t 11))⟩, ⟨none, (some 95), (.mv (.t 2))⟩, ⟨none, (some 96), (.bin .mul (.t 94) (.t 95))⟩, ⟨none, (some 97), (.bin .add (.t 93) (.t 96))⟩, ⟨none, (some 98), (.min [(.c (.int .i64 1000)), (.t 97)])⟩, ⟨none, (some 99), (.fieldAddr (.t 12) 3)⟩, ⟨none, none, (.store 1 (.t 99) (.t 98))⟩] false []) (.seq (.reg 15644 [⟨none, (some 13), (.mv (.c (.int .i64 0)))⟩] false []) (.seq (.block 4 (.loop cl_top_TopWatchFalseAlarms_b4)) (.seq (.reg 32028 [⟨none, (some 14), (.mv (.c (.int .i64 0)))⟩] false []) (.seq (.seq (.reg 64796 [⟨none, (some 15), (.mv (.c (.int .i64 0)))⟩] false []) (.block 6 (.loop cl_top_TopWatchFalseAlarms_b6))) (.seq (.reg 25193756 [⟨none, (some 176), (.load (some 1) (.t 3))⟩, ⟨none, (some 177), (.call 21 [(.t 176)])⟩, ⟨none, (some 178), (.fieldAddr (.t 4) 2)⟩, ⟨none, (some 179), (.load none (.t 178))⟩, ⟨none, (some 180), (.mv (.t 13))⟩, ⟨none, (some 181), (.call 22 [(.t 177), (.t 179), (.t 180)])⟩, ⟨none, (some 175), (.mv (.t 181))⟩, ⟨none, (some 182), (.extract (.t 175) 0)⟩, ⟨none, (some 183), (.extract (.t 175) 1)⟩, ⟨none, (some 23), (.mv (.t 182))⟩, ⟨none, (some 24), (.mv (.t 183))⟩] true []) (.seq (.reg 125848860 [⟨none, (some 185), (.load (some 1) (.t 3))⟩, ⟨none, (some 186), (.call 21 [(.t 185)])⟩, ⟨none, (some 187), (.fieldAddr (.t 4) 2)⟩, ⟨none, (some 188), (.load none (.t 187))⟩, ⟨none, (some 189), (.mv (.t 13))⟩, ⟨none, (some 190), (.call 45 [(.t 186), (.t 188), (.t 189)])⟩, ⟨none, (some 184), (.mv (.t 190))⟩, ⟨none, (some 191), (.extract (.t 184) 0)⟩, ⟨none, (some 192), (.extract (.t 184) 1)⟩, ⟨none, (some 25), (.alloc 77 2 (.agg [(.int .i64 0), (.int .i64 0)]))⟩, ⟨none, none, (.store 2 (.t 25) (.t 191))⟩, ⟨none, (some 26), (.mv (.t 192))⟩] true [(⟨none, (some 185), (.load (some 1) (.t 3))⟩, ⟨none, (some 25), (.alloc 77 2 (.agg [(.int .i64 0), (.int .i64 0)]))⟩), (⟨none, (some 186), (.call 21 [(.t 185)])⟩, ⟨none, (some 25), (.alloc 77 2 (.agg [(.int .i64 0), (.int .i64 0)]))⟩), (⟨none, (some 187), (.fieldAddr (.t 4) 2)⟩, ⟨none, (some 25), (.alloc 77 2 (.agg [(.int .i64 0), (.int .i64 0)]))⟩), (⟨none, (some 188), (.load none (.t 187))⟩, ⟨none, (some 25), (.alloc 77 2 (.agg [(.int .i64 0), (.int .i64 0)]))⟩), (⟨none, (some 190), (.call 45 [(.t 186), (.t 188), (.t 189)])⟩, ⟨none, (some 25), (.alloc 77 2 (.agg [(.int .i64 0), (.int .i64 0)]))⟩)]) (.seq (.seq (.reg 842498333348457493583344221469363458551160763204392890034496212252 [⟨none, (some 193), (.mv (.t 24))⟩, ⟨none, (some 194), (.bin .neq (.t 193) (.c (.int .i64 0)))⟩, ⟨none, (some 195), (.mv (.t 194))⟩, ⟨(some (195, false)), (some 196), (.mv (.t 26))⟩, ⟨(some (195, false)), (some 197), (.bin .neq (.t 196) (.c (.int .i64 0)))⟩, ⟨none, (some 198), (.pick (.t 195) (.c (.bool true)) (.t 197))⟩, ⟨none, (some 199), (.mv (.t 198))⟩, ⟨(some (199, false)), (some 200), (.mv (.t 23))⟩, ⟨(some (199, false)), (some 201), (.mv (.t 14))⟩, ⟨(some (199, false)), (some 202), (.bin .neq (.t 200) (.t 201))⟩, ⟨none, (some 203), (.pick (.t 199) (.c (.bool true)) (.t 202))⟩, ⟨none, (some 204), (.mv (.t 203))⟩, ⟨(some (204, false)), (some 205), (.load (some 2) (.t 25))⟩, ⟨(some (204, false)), (some 206), (.call 52 [(.t 205)])⟩, ⟨(some (204, false)), (some 207), (.un .not (.t 206))⟩, ⟨none, (some 208), (.pick (.t 204) (.c (.bool true)) (.t 207))⟩, ⟨none, (some 209), (.mv (.t 208))⟩, ⟨(some (209, false)), (some 210), (.fieldAddr (.t 25) 0)⟩, ⟨(some (209, false)), (some 211), (.load none (.t 210))⟩, ⟨(some (209, false)), (some 212), (.mv (.t 8))⟩, ⟨(some (209, false)), (some 213), (.bin .mul (.t 211) (.t 212))⟩, ⟨(some (209, false)), (some 214), (.mv (.t 23))⟩, ⟨(some (209, false)), (some 215), (.fieldAddr (.t 25) 1)⟩, ⟨(some (209, false)), (some 216), (.load none (.t 215))⟩, ⟨(some (209, false)), (some 217), (.bin .mul (.t 214) (.t 216))⟩, ⟨(some (209, false)), (some 218), (.bin .neq (.t 213) (.t 217))⟩, ⟨none, (some 219), (.pick (.t 209) (.c (.bool true)) (.t 218))⟩] false []) (.cond (.t 219) (.seq (.reg 64 [⟨none, (some 6), (.mv (.c (.bool false)))⟩] false []) .ret) .skip)) (.reg 3356 [⟨none, (some 220), (.mv (.t 11))⟩, ⟨none, (some 221), (.mv (.t 23))⟩, ⟨none, (some 222), (.indexArr (.t 10) (.t 220) 1 2)⟩, ⟨none, none, (.store 1 (.t 222) (.t 221))⟩] false []))))))))))) (.reg 3356 [⟨none, (some 89), (.mv (.t 11))⟩, ⟨none, (some 90), (.bin .add (.t 89) (.c (.int .i64 1)))⟩, ⟨none, (some 11), (.mv (.t 90))⟩] false [])))
def cl_top_TopWatchFalseAlarms_b0 : ML := (.seq (.seq (.reg 4611686018427388060 [⟨none, (some 58), (.mv (.t 7))⟩, ⟨none, (some 59), (.fieldAddr (.t 3) 0)⟩, ⟨none, (some 60), (.load none (.t 59))⟩, ⟨none, (some 61), (.len false (.t 60))⟩, ⟨none, (some 62), (.bin .lss (.t 58) (.t 61))⟩] false []) (.cond (.t 62) .skip (.exit 0))) (.seq (.block 1 (.seq (.reg 2361183241434822607004 [⟨none, (some 65), (.fieldAddr (.t 3) 0)⟩, ⟨none, (some 66), (.load none (.t 65))⟩, ⟨none, (some 67), (.mv (.t 7))⟩, ⟨none, (some 68), (.indexAddr (.t 66) (.t 67) 1)⟩, ⟨none, (some 69), (.load none (.t 68))⟩, ⟨none, (some 70), (.len false (.t 69))⟩, ⟨none, (some 71), (.bin .gtr (.t 70) (.c (.int .i64 3)))⟩] false []) (.cond (.t 71) (.seq (.reg 64 [⟨none, (some 6), (.mv (.c (.bool true)))⟩] false []) .ret) .skip))) (.reg 156 [⟨none, (some 63), (.mv (.t 7))⟩, ⟨none, (some 64), (.bin .add (.t 63) (.c (.int .i64 1)))⟩, ⟨none, (some 7), (.mv (.t 64))⟩] false [])))
def cl_top_TopWatchFalseAlarms_8 : ML := (.seq (.reg 64 [⟨none, (some 223), (.indexArr (.t 10) (.c (.int .i64 1)) 1 2)⟩, ⟨none, (some 224), (.load none (.t 223))⟩, ⟨none, (some 225), (.indexArr (.t 10) (.c (.int .i64 0)) 1 2)⟩, ⟨none, (some 226), (.load none (.t 225))⟩, ⟨none, (some 227), (.bin .leq (.t 224) (.t 226))⟩, ⟨none, (some 6), (.mv (.t 227))⟩] false []) .ret)
def cl_top_TopWatchFalseAlarms_7 : ML := (.seq (.seq (.reg 3356 [⟨none, (some 11), (.mv (.c (.int .i64 0)))⟩] false []) (.block 2 (.loop cl_top_TopWatchFalseAlarms_b2))) (.cut cl_top_TopWatchFalseAlarms_8))
def cl_top_TopWatchFalseAlarms_4 : ML := (.seq (.reg 796 [⟨none, (some 73), (.load (some 1) (.t 3))⟩, ⟨none, (some 74), (.call 21 [(.t 73)])⟩, ⟨none, (some 75), (.fieldAddr (.t 4) 2)⟩, ⟨none, (some 76), (.load none (.t 75))⟩, ⟨none, (some 77), (.call 20 [(.t 74), (.t 76)])⟩, ⟨none, (some 72), (.mv (.t 77))⟩, ⟨none, (some 78), (.extract (.t 72) 0)⟩, ⟨none, (some 79), (.extract (.t 72) 1)⟩, ⟨none, (some 8), (.mv (.t 78))⟩, ⟨none, (some 9), (.mv (.t 79))⟩] true []) (.seq (.seq (.reg 77371252455336267181195548 [⟨none, (some 80), (.mv (.t 9))⟩, ⟨none, (some 81), (.bin .neq (.t 80) (.c (.int .i64 0)))⟩, ⟨none, (some 82), (.mv (.t 81))⟩, ⟨(some (82, false)), (some 83), (.mv (.t 8))⟩, ⟨(some (82, false)), (some 84), (.call 19 [(.t 83), (.c (.int .i64 1)), (.c (.int .i64 729))])⟩, ⟨(some (82, false)), (some 85), (.un .not (.t 84))⟩, ⟨none, (some 86), (.pick (.t 82) (.c (.bool true)) (.t 85))⟩] false []) (.cond (.t 86) (.seq (.reg 64 [⟨none, (some 6), (.mv (.c (.bool false)))⟩] false []) .ret) .skip)) (.seq (.reg 1308 [⟨none, (some 10), (.alloc 25 2 (.agg [(.int .i64 0), (.int .i64 0)]))⟩] false []) (.cut cl_top_TopWatchFalseAlarms_7))))
def cl_top_TopWatchFalseAlarms_3 : ML := (.seq (.seq (.reg 156 [⟨none, (some 7), (.mv (.c (.int .i64 0)))⟩] false []) (.block 0 (.loop cl_top_TopWatchFalseAlarms_b0))) (.cut cl_top_TopWatchFalseAlarms_4))
def cl_top_TopWatchFalseAlarms : ML := (.seq (.reg 28 [⟨none, (some 3), (.box 24 1 (.t 0))⟩, ⟨none, (some 4), (.box 49 4 (.t 1))⟩, ⟨none, (some 6), (.mv (.c (.bool false)))⟩] false []) (.seq (.seq (.reg 268435484 [⟨none, (some 27), (.call 59 [])⟩, ⟨none, (some 28), (.un .not (.t 27))⟩] false []) (.cond (.t 28) (.seq (.reg 64 [⟨none, (some 6), (.mv (.c (.bool false)))⟩] false []) .ret) .skip)) (.seq (.seq (.reg 144115188075855900 [⟨none, (some 29), (.load (some 1) (.t 3))⟩, ⟨none, (some 30), (.call 60 [(.t 29)])⟩, ⟨none, (some 31), (.un .not (.t 30))⟩, ⟨none, (some 32), (.mv (.t 31))⟩, ⟨(some (32, false)), (some 33), (.fieldAddr (.t 3) 0)⟩, ⟨(some (32, false)), (some 34), (.load none (.t 33))⟩, ⟨(some (32, false)), (some 35), (.len false (.t 34))⟩, ⟨(some (32, false)), (some 36), (.bin .gtr (.t 35) (.c (.int .i64 3)))⟩, ⟨none, (some 37), (.pick (.t 32) (.c (.bool true)) (.t 36))⟩, ⟨none, (some 38), (.mv (.t 37))⟩, ⟨(some (38, false)), (some 39), (.load (some 4) (.t 4))⟩, ⟨(some (38, false)), (some 40), (.call 29 [(.t 39)])⟩, ⟨(some (38, false)), (some 41), (.bin .neq (.t 40) (.c (.int .i64 0)))⟩, ⟨none, (some 42), (.pick (.t 38) (.c (.bool true)) (.t 41))⟩, ⟨none, (some 43), (.mv (.t 42))⟩, ⟨(some (43, false)), (some 44), (.fieldAddr (.t 4) 2)⟩, ⟨(some (43, false)), (some 45), (.load none (.t 44))⟩, ⟨(some (43, false)), (some 46), (.bin .gtr (.t 45) (.c (.int .i64 2)))⟩, ⟨none, (some 47), (.pick (.t 43) (.c (.bool true)) (.t 46))⟩, ⟨none, (some 48), (.mv (.t 47))⟩, ⟨(some (48, false)), (some 49), (.fieldAddr (.t 4) 0)⟩, ⟨(some (48, false)), (some 50), (.load none (.t 49))⟩, ⟨(some (48, false)), (some 51), (.bin .gtr (.t 50) (.c (.int .i64 200)))⟩, ⟨none, (some 52), (.pick (.t 48) (.c (.bool true)) (.t 51))⟩, ⟨none, (some 53), (.mv (.t 52))⟩, ⟨(some (53, false)), (some 54), (.mv (.t 2))⟩, ⟨(some (53, false)), (some 55), (.call 19 [(.t 54), (.c (.int .i64 0)), (.c (.int .i64 100))])⟩, ⟨(some (53, false)), (some 56), (.un .not (.t 55))⟩, ⟨none, (some 57), (.pick (.t 53) (.c (.bool true)) (.t 56))⟩] false []) (.cond (.t 57) (.seq (.reg 64 [⟨none, (some 6), (.mv (.c (.bool true)))⟩] false []) .ret) .skip)) (.cut cl_top_TopWatchFalseAlarms_3))))
theorem e_top_TopWatchFalseAlarms : cl_top_TopWatchFalseAlarms.er = c_top_TopWatchFalseAlarms := rfl

theorem drest_le : ∀ (ls : List (List Int)) (c : Nat), drest ls c ≤ c
  | [], c => Nat.le_refl _
  | l :: r, c => Nat.le_trans (drest_le r _) (Nat.div_le_self _ _)
/-- The counts of a case, bin by bin. -/
def cntL (s : List (List Int)) (c : Nat) : Nat → List Int
  | 0 => []
  | b + 1 => cntL s c b ++ [dsum s (drest (binsL s b) c)]
theorem cntL_length (s : List (List Int)) (c : Nat) : ∀ b, (cntL s c b).length = b
  | 0 => rfl
  | b + 1 => by rw [cntL, List.length_append, cntL_length s c b]; rfl
theorem cntL_sum (s : List (List Int)) (c : Nat) : ∀ b, (cntL s c b).sum = dsum (binsL s b) c
  | 0 => rfl
  | b + 1 => by rw [cntL, List.sum_append, cntL_sum s c b, binsL, dsum_append]; simp
theorem cntL_mem (s : List (List Int)) (c : Nat) : ∀ b, ∀ x ∈ cntL s c b, ∃ q, x = dsum s q
  | 0 => by simp [cntL]
  | b + 1 => by
    intro x hx
    rcases List.mem_append.1 hx with e | e
    · exact cntL_mem s c b x e
    · exact ⟨_, List.mem_singleton.1 e⟩
theorem sumTo_bit (p : Nat → Bool) : ∀ n, 0 ≤ sumTo (fun c => if p c = true then 1 else 0) n ∧ sumTo (fun c => if p c = true then 1 else 0) n ≤ n
  | 0 => by simp [sumTo]
  | n + 1 => by
    have := sumTo_bit p n
    simp only [sumTo]
    split <;> omega

set_option maxHeartbeats 4000000 in
theorem TF_b10 (s : List (List Int)) (r : Rule) (more L S0 x0 x1 : Int) (w N k F c b q : Nat) (cs : List Int) (hok : skyOk s) (hs3 : s.length ≤ 3) (h60 : ∀ l ∈ s, ∀ c ∈ l, 0 ≤ c ∧ c ≤ 60) (hq : q ≤ 1000) (i : Nat) (hi : i ≤ s.length) :
    WL Try.prog 228 cl_top_TopWatchFalseAlarms_b10 (fun ex e' s' => match ex with | .normal => ∃ y : PSigma (fun i : Nat => i ≤ s.length ∧ True), s.length - y.1 < s.length - i ∧ Weak (e', s') ((fun i : Nat => (envOf [(2, .int .i64 more), (3, .ptr 3 0 0), (4, .ptr 4 0 0), (8, .int .i64 N), (10, .ptr 10 0 0), (11, .int .i64 k), (12, .ptr 12 0 0), (13, .int .i64 F), (14, .int .i64 S0), (15, .int .i64 c), (16, .buf 100 b), (17, .int .i64 (drest (s.take i) q : Nat)), (18, .int .i64 b), (19, .int .i64 (dsum (s.take i) q)), (20, .int .i64 i)], stOf [(3, ⟨24, 1, [.agg [.sl (skyL s)]]⟩), (4, ⟨49, 4, [.agg [.int .i64 r.mean, .int .i64 r.spread, .int .i64 w, .int .i64 r.limit]]⟩), (10, ⟨25, 2, [.agg [.int .i64 x0, .int .i64 x1]]⟩), (12, ⟨49, 4, [.agg [.int .i64 r.mean, .int .i64 r.spread, .int .i64 w, .int .i64 L]]⟩), (100, ⟨3, 1, ints cs⟩)])) y.1) | .exit j => j = 10 ∧ s' = stOf [(3, ⟨24, 1, [.agg [.sl (skyL s)]]⟩), (4, ⟨49, 4, [.agg [.int .i64 r.mean, .int .i64 r.spread, .int .i64 w, .int .i64 r.limit]]⟩), (10, ⟨25, 2, [.agg [.int .i64 x0, .int .i64 x1]]⟩), (12, ⟨49, 4, [.agg [.int .i64 r.mean, .int .i64 r.spread, .int .i64 w, .int .i64 L]]⟩), (100, ⟨3, 1, ints cs⟩)] ∧ e' 2 = .int .i64 more ∧ e' 3 = .ptr 3 0 0 ∧ e' 4 = .ptr 4 0 0 ∧ e' 8 = .int .i64 N ∧ e' 10 = .ptr 10 0 0 ∧ e' 11 = .int .i64 k ∧ e' 12 = .ptr 12 0 0 ∧ e' 13 = .int .i64 F ∧ e' 14 = .int .i64 S0 ∧ e' 15 = .int .i64 c ∧ e' 16 = .buf 100 b ∧ e' 17 = .int .i64 (drest s q : Nat) ∧ e' 18 = .int .i64 b ∧ e' 19 = .int .i64 (dsum s q) | _ => False) (envOf [(2, .int .i64 more), (3, .ptr 3 0 0), (4, .ptr 4 0 0), (8, .int .i64 N), (10, .ptr 10 0 0), (11, .int .i64 k), (12, .ptr 12 0 0), (13, .int .i64 F), (14, .int .i64 S0), (15, .int .i64 c), (16, .buf 100 b), (17, .int .i64 (drest (s.take i) q : Nat)), (18, .int .i64 b), (19, .int .i64 (dsum (s.take i) q)), (20, .int .i64 i)]) (stOf [(3, ⟨24, 1, [.agg [.sl (skyL s)]]⟩), (4, ⟨49, 4, [.agg [.int .i64 r.mean, .int .i64 r.spread, .int .i64 w, .int .i64 r.limit]]⟩), (10, ⟨25, 2, [.agg [.int .i64 x0, .int .i64 x1]]⟩), (12, ⟨49, 4, [.agg [.int .i64 r.mean, .int .i64 r.spread, .int .i64 w, .int .i64 L]]⟩), (100, ⟨3, 1, ints cs⟩)]) .mk := by
  simp only [cl_top_TopWatchFalseAlarms_b10, skyL_length, vcV, vcD, Int.reduceEq, Int.reduceNe, Int.reduceLT, Int.reduceLE, Nat.reduceEqDiff, Nat.reduceAdd, reduceIte, reduceCtorEq, Nat.reduceLT, Nat.reduceLeDiff, eq_self, Option.bind_some, Option.map_some, List.map_cons, List.map_nil, List.length_cons, List.length_nil, Option.getD_some, Option.getD_none, List.all_cons, List.all_nil, List.set_cons_zero, List.set_cons_succ, List.replicate_succ, List.replicate_zero, List.getElem?_cons_zero, List.getElem?_cons_succ, List.drop_succ_cons, List.drop_zero, List.take_succ_cons, List.take_zero, List.map_append, List.nil_append, List.cons_append, Nat.reduceShiftRight, Nat.reduceMod]
  refine brB_split (fun h => ?_) (fun h => ?_)
  · have hi' : i < s.length := by (simp only [decide_eq_true_eq, decide_eq_false_iff_not, Bool.not_true, I64, Bool.not_eq_true', Bool.not_eq_false', bne_iff_ne, beq_iff_eq, ne_eq] at *; omega)
    clear h
    obtain ⟨l1, l2, l3⟩ := sensE_ok (hok.2 _ (List.getElem_mem hi'))
    have l4 := h60 _ (List.getElem_mem hi')
    have hg := skyL_get s i hi'
    have d1 : dsum (s.take (i + 1)) q = dsum (s.take i) q + s[i].getD (drest (s.take i) q % s[i].length) 0 := by
      rw [List.take_succ_eq_append_getElem hi', dsum_append]; simp [dsum]
    have d2 : drest (s.take (i + 1)) q = drest (s.take i) q / s[i].length := by
      rw [List.take_succ_eq_append_getElem hi', drest_append]; rfl
    have d3 := dsum_bound (m := 60) (by omega) (s.take i) q fun l hl => ⟨(sensE_ok (hok.2 _ (List.mem_of_mem_take hl))).1, h60 _ (List.mem_of_mem_take hl)⟩
    have d4 : (s.take i).length ≤ 3 := by rw [List.length_take]; omega
    have d5 : drest (s.take i) q ≤ q := drest_le _ _
    generalize drest (s.take i) q = x at *
    generalize dsum (s.take i) q = y at *
    generalize s[i] = l at *
    have hk : x % l.length < l.length := Nat.mod_lt _ l1
    have hgd : l.getD (x % l.length) 0 = l[x % l.length] := by simp [List.getD, List.getElem?_eq_getElem hk]
    rw [hgd] at d1
    have l5 := l4 _ (List.getElem_mem hk)
    have hgk := ints_get l (x % l.length) hk
    have t1 : Int.tmod (x : Int) (l.length : Int) = ((x % l.length : Nat) : Int) := rfl
    have t2 : Int.tdiv (x : Int) (l.length : Int) = ((x / l.length : Nat) : Int) := rfl
    have t3 : x / l.length ≤ x := Nat.div_le_self _ _
    have t4 : 0 ≤ (y + l[x % l.length]) := by omega
    generalize l[x % l.length] = v at *
    generalize x % l.length = xm at *
    generalize x / l.length = xd at *
    simp only [hg, ints_length, t1, t2, hgk, vcV, vcD, Int.reduceEq, Int.reduceNe, Int.reduceLT, Int.reduceLE, Nat.reduceEqDiff, Nat.reduceAdd, reduceIte, reduceCtorEq, Nat.reduceLT, Nat.reduceLeDiff, eq_self, Option.bind_some, Option.map_some, List.map_cons, List.map_nil, List.length_cons, List.length_nil, Option.getD_some, Option.getD_none, List.all_cons, List.all_nil, List.set_cons_zero, List.set_cons_succ, List.replicate_succ, List.replicate_zero, List.getElem?_cons_zero, List.getElem?_cons_succ, List.drop_succ_cons, List.drop_zero, List.take_succ_cons, List.take_zero, List.map_append, List.nil_append, List.cons_append, Nat.reduceShiftRight, Nat.reduceMod]
    (repeat (with_reducible refine And.intro ?_ ?_; focus (first | omega | (unfold I64; omega))))
    refine ⟨⟨i + 1, hi', trivial⟩, by simp only; omega, ?_⟩
    refine weakX [(100, some 100)] (of_decide_eq_true rfl) (of_decide_eq_true rfl) ?_
    (simp only [d1, d2, vcW, vcV, vcD, Int.reduceEq, Int.reduceNe, Int.reduceLT, Int.reduceLE, Nat.reduceEqDiff, Nat.reduceAdd, reduceIte, reduceCtorEq, Nat.reduceLT, Nat.reduceLeDiff, eq_self, Option.bind_some, Option.map_some, List.map_cons, List.map_nil, List.length_cons, List.length_nil, Option.getD_some, Option.getD_none, List.all_cons, List.all_nil, List.set_cons_zero, List.set_cons_succ, List.replicate_succ, List.replicate_zero, List.getElem?_cons_zero, List.getElem?_cons_succ, List.drop_succ_cons, List.drop_zero, List.take_succ_cons, List.take_zero, List.map_append, List.nil_append, List.cons_append, Nat.reduceShiftRight, Nat.reduceMod])
    (repeat' first | exact trivial | (with_reducible exact RnB.fxB (ints_fxB _)) | (with_reducible rfl) | (with_reducible refine And.intro ?_ ?_) | (with_reducible refine RnB.bb ?_; simp only [vcW, vcV, vcD, Int.reduceEq, Int.reduceNe, Int.reduceLT, Int.reduceLE, Nat.reduceEqDiff, Nat.reduceAdd, reduceIte, reduceCtorEq, Nat.reduceLT, Nat.reduceLeDiff, eq_self, Option.bind_some, Option.map_some, List.map_cons, List.map_nil, List.length_cons, List.length_nil, Option.getD_some, Option.getD_none, List.all_cons, List.all_nil, List.set_cons_zero, List.set_cons_succ, List.replicate_succ, List.replicate_zero, List.getElem?_cons_zero, List.getElem?_cons_succ, List.drop_succ_cons, List.drop_zero, List.take_succ_cons, List.take_zero, List.map_append, List.nil_append, List.cons_append, Nat.reduceShiftRight, Nat.reduceMod]) | (with_reducible refine RnB.nb ?_; simp only [vcW, vcV, vcD, Int.reduceEq, Int.reduceNe, Int.reduceLT, Int.reduceLE, Nat.reduceEqDiff, Nat.reduceAdd, reduceIte, reduceCtorEq, Nat.reduceLT, Nat.reduceLeDiff, eq_self, Option.bind_some, Option.map_some, List.map_cons, List.map_nil, List.length_cons, List.length_nil, Option.getD_some, Option.getD_none, List.all_cons, List.all_nil, List.set_cons_zero, List.set_cons_succ, List.replicate_succ, List.replicate_zero, List.getElem?_cons_zero, List.getElem?_cons_succ, List.drop_succ_cons, List.drop_zero, List.take_succ_cons, List.take_zero, List.map_append, List.nil_append, List.cons_append, Nat.reduceShiftRight, Nat.reduceMod]) | (with_reducible refine RnB.ii ?_) | (with_reducible refine RnB.app ?_) | (with_reducible refine RnB.fxB ?_; simp only [vcW, vcV, vcD, Int.reduceEq, Int.reduceNe, Int.reduceLT, Int.reduceLE, Nat.reduceEqDiff, Nat.reduceAdd, reduceIte, reduceCtorEq, Nat.reduceLT, Nat.reduceLeDiff, eq_self, Option.bind_some, Option.map_some, List.map_cons, List.map_nil, List.length_cons, List.length_nil, Option.getD_some, Option.getD_none, List.all_cons, List.all_nil, List.set_cons_zero, List.set_cons_succ, List.replicate_succ, List.replicate_zero, List.getElem?_cons_zero, List.getElem?_cons_succ, List.drop_succ_cons, List.drop_zero, List.take_succ_cons, List.take_zero, List.map_append, List.nil_append, List.cons_append, Nat.reduceShiftRight, Nat.reduceMod]) | omega)
  · have hil : i = s.length := by (simp only [decide_eq_true_eq, decide_eq_false_iff_not, Bool.not_true, I64, Bool.not_eq_true', Bool.not_eq_false', bne_iff_ne, beq_iff_eq, ne_eq] at *; omega)
    cases hil
    rw [List.take_length]
    simp only [vcV, vcD, Int.reduceEq, Int.reduceNe, Int.reduceLT, Int.reduceLE, Nat.reduceEqDiff, Nat.reduceAdd, reduceIte, reduceCtorEq, Nat.reduceLT, Nat.reduceLeDiff, eq_self, Option.bind_some, Option.map_some, List.map_cons, List.map_nil, List.length_cons, List.length_nil, Option.getD_some, Option.getD_none, List.all_cons, List.all_nil, List.set_cons_zero, List.set_cons_succ, List.replicate_succ, List.replicate_zero, List.getElem?_cons_zero, List.getElem?_cons_succ, List.drop_succ_cons, List.drop_zero, List.take_succ_cons, List.take_zero, List.map_append, List.nil_append, List.cons_append, Nat.reduceShiftRight, Nat.reduceMod]

set_option maxHeartbeats 4000000 in
theorem TF_b8 (s : List (List Int)) (r : Rule) (more L S0 x0 x1 : Int) (w N k F c : Nat) (hok : skyOk s) (hs3 : s.length ≤ 3) (h60 : ∀ l ∈ s, ∀ c ∈ l, 0 ≤ c ∧ c ≤ 60) (hw2 : w ≤ 2) (hcn : c ≤ 1000) (b : Nat) (hb : b ≤ w) :
    WL Try.prog 228 cl_top_TopWatchFalseAlarms_b8 (fun ex e' s' => match ex with | .normal => ∃ y : PSigma (fun b : Nat => b ≤ w ∧ True), w - y.1 < w - b ∧ Weak (e', s') ((fun b : Nat => (envOf [(2, .int .i64 more), (3, .ptr 3 0 0), (4, .ptr 4 0 0), (8, .int .i64 N), (10, .ptr 10 0 0), (11, .int .i64 k), (12, .ptr 12 0 0), (13, .int .i64 F), (14, .int .i64 S0), (15, .int .i64 c), (16, .buf 100 b), (17, .int .i64 (drest (binsL s b) c : Nat)), (18, .int .i64 b)], stOf [(3, ⟨24, 1, [.agg [.sl (skyL s)]]⟩), (4, ⟨49, 4, [.agg [.int .i64 r.mean, .int .i64 r.spread, .int .i64 w, .int .i64 r.limit]]⟩), (10, ⟨25, 2, [.agg [.int .i64 x0, .int .i64 x1]]⟩), (12, ⟨49, 4, [.agg [.int .i64 r.mean, .int .i64 r.spread, .int .i64 w, .int .i64 L]]⟩), (100, ⟨3, 1, ints (cntL s c b)⟩)])) y.1) | .exit j => j = 8 ∧ s' = stOf [(3, ⟨24, 1, [.agg [.sl (skyL s)]]⟩), (4, ⟨49, 4, [.agg [.int .i64 r.mean, .int .i64 r.spread, .int .i64 w, .int .i64 r.limit]]⟩), (10, ⟨25, 2, [.agg [.int .i64 x0, .int .i64 x1]]⟩), (12, ⟨49, 4, [.agg [.int .i64 r.mean, .int .i64 r.spread, .int .i64 w, .int .i64 L]]⟩), (100, ⟨3, 1, ints (cntL s c w)⟩)] ∧ e' 2 = .int .i64 more ∧ e' 3 = .ptr 3 0 0 ∧ e' 4 = .ptr 4 0 0 ∧ e' 8 = .int .i64 N ∧ e' 10 = .ptr 10 0 0 ∧ e' 11 = .int .i64 k ∧ e' 12 = .ptr 12 0 0 ∧ e' 13 = .int .i64 F ∧ e' 14 = .int .i64 S0 ∧ e' 15 = .int .i64 c ∧ e' 16 = .buf 100 w | _ => False) (envOf [(2, .int .i64 more), (3, .ptr 3 0 0), (4, .ptr 4 0 0), (8, .int .i64 N), (10, .ptr 10 0 0), (11, .int .i64 k), (12, .ptr 12 0 0), (13, .int .i64 F), (14, .int .i64 S0), (15, .int .i64 c), (16, .buf 100 b), (17, .int .i64 (drest (binsL s b) c : Nat)), (18, .int .i64 b)]) (stOf [(3, ⟨24, 1, [.agg [.sl (skyL s)]]⟩), (4, ⟨49, 4, [.agg [.int .i64 r.mean, .int .i64 r.spread, .int .i64 w, .int .i64 r.limit]]⟩), (10, ⟨25, 2, [.agg [.int .i64 x0, .int .i64 x1]]⟩), (12, ⟨49, 4, [.agg [.int .i64 r.mean, .int .i64 r.spread, .int .i64 w, .int .i64 L]]⟩), (100, ⟨3, 1, ints (cntL s c b)⟩)]) .mk := by
  have hmax := maxLen_big
  simp only [cl_top_TopWatchFalseAlarms_b8, vcV, vcD, Int.reduceEq, Int.reduceNe, Int.reduceLT, Int.reduceLE, Nat.reduceEqDiff, Nat.reduceAdd, reduceIte, reduceCtorEq, Nat.reduceLT, Nat.reduceLeDiff, eq_self, Option.bind_some, Option.map_some, List.map_cons, List.map_nil, List.length_cons, List.length_nil, Option.getD_some, Option.getD_none, List.all_cons, List.all_nil, List.set_cons_zero, List.set_cons_succ, List.replicate_succ, List.replicate_zero, List.getElem?_cons_zero, List.getElem?_cons_succ, List.drop_succ_cons, List.drop_zero, List.take_succ_cons, List.take_zero, List.map_append, List.nil_append, List.cons_append, Nat.reduceShiftRight, Nat.reduceMod]
  refine brB_split (fun h => ?_) (fun h => ?_)
  · have hb' : b < w := by (simp only [decide_eq_true_eq, decide_eq_false_iff_not, Bool.not_true, I64, Bool.not_eq_true', Bool.not_eq_false', bne_iff_ne, beq_iff_eq, ne_eq] at *; omega)
    clear h
    obtain ⟨q, hq⟩ : ∃ q, q = drest (binsL s b) c := ⟨_, rfl⟩
    have hqc : q ≤ c := by rw [hq]; exact drest_le _ _
    have hs1 : drest (binsL s (b + 1)) c = drest s q := by rw [binsL, drest_append, hq]
    have hs2 : cntL s c (b + 1) = cntL s c b ++ [dsum s q] := by rw [cntL, hq]
    have hcl : (cntL s c b).length = b := cntL_length s c b
    rw [← hq]
    generalize cntL s c b = cs at *
    simp only [skyL_length, vcV, vcD, Int.reduceEq, Int.reduceNe, Int.reduceLT, Int.reduceLE, Nat.reduceEqDiff, Nat.reduceAdd, reduceIte, reduceCtorEq, Nat.reduceLT, Nat.reduceLeDiff, eq_self, Option.bind_some, Option.map_some, List.map_cons, List.map_nil, List.length_cons, List.length_nil, Option.getD_some, Option.getD_none, List.all_cons, List.all_nil, List.set_cons_zero, List.set_cons_succ, List.replicate_succ, List.replicate_zero, List.getElem?_cons_zero, List.getElem?_cons_succ, List.drop_succ_cons, List.drop_zero, List.take_succ_cons, List.take_zero, List.map_append, List.nil_append, List.cons_append, Nat.reduceShiftRight, Nat.reduceMod]
    refine WL_loopX (t := .mk) (α := PSigma fun i : Nat => i ≤ s.length ∧ True) (fun x => (fun i : Nat => (envOf [(2, .int .i64 more), (3, .ptr 3 0 0), (4, .ptr 4 0 0), (8, .int .i64 N), (10, .ptr 10 0 0), (11, .int .i64 k), (12, .ptr 12 0 0), (13, .int .i64 F), (14, .int .i64 S0), (15, .int .i64 c), (16, .buf 100 b), (17, .int .i64 (drest (s.take i) q : Nat)), (18, .int .i64 b), (19, .int .i64 (dsum (s.take i) q)), (20, .int .i64 i)], stOf [(3, ⟨24, 1, [.agg [.sl (skyL s)]]⟩), (4, ⟨49, 4, [.agg [.int .i64 r.mean, .int .i64 r.spread, .int .i64 w, .int .i64 r.limit]]⟩), (10, ⟨25, 2, [.agg [.int .i64 x0, .int .i64 x1]]⟩), (12, ⟨49, 4, [.agg [.int .i64 r.mean, .int .i64 r.spread, .int .i64 w, .int .i64 L]]⟩), (100, ⟨3, 1, ints cs⟩)])) x.1) (fun x => s.length - x.1) ⟨0, Nat.zero_le _, trivial⟩ 10 (fun e' s' => s' = stOf [(3, ⟨24, 1, [.agg [.sl (skyL s)]]⟩), (4, ⟨49, 4, [.agg [.int .i64 r.mean, .int .i64 r.spread, .int .i64 w, .int .i64 r.limit]]⟩), (10, ⟨25, 2, [.agg [.int .i64 x0, .int .i64 x1]]⟩), (12, ⟨49, 4, [.agg [.int .i64 r.mean, .int .i64 r.spread, .int .i64 w, .int .i64 L]]⟩), (100, ⟨3, 1, ints cs⟩)] ∧ e' 2 = .int .i64 more ∧ e' 3 = .ptr 3 0 0 ∧ e' 4 = .ptr 4 0 0 ∧ e' 8 = .int .i64 N ∧ e' 10 = .ptr 10 0 0 ∧ e' 11 = .int .i64 k ∧ e' 12 = .ptr 12 0 0 ∧ e' 13 = .int .i64 F ∧ e' 14 = .int .i64 S0 ∧ e' 15 = .int .i64 c ∧ e' 16 = .buf 100 b ∧ e' 17 = .int .i64 (drest s q : Nat) ∧ e' 18 = .int .i64 b ∧ e' 19 = .int .i64 (dsum s q)) ?_ (fun ⟨i, hi, _⟩ => TF_b10 s r more L S0 x0 x1 w N k F c b q cs hok hs3 h60 (by omega) i hi) (fun e st ⟨hst, h2, h3, h4, h8, h10, h11, h12, h13, h14, h15, h16, h17, h18, h19⟩ => ?_)
    · have hz1 : drest [] q = q := rfl
      have hz2 : dsum [] q = 0 := rfl
      refine weakX [(100, some 100)] (of_decide_eq_true rfl) (of_decide_eq_true rfl) ?_
      (simp only [hz1, hz2, vcW, vcV, vcD, Int.reduceEq, Int.reduceNe, Int.reduceLT, Int.reduceLE, Nat.reduceEqDiff, Nat.reduceAdd, reduceIte, reduceCtorEq, Nat.reduceLT, Nat.reduceLeDiff, eq_self, Option.bind_some, Option.map_some, List.map_cons, List.map_nil, List.length_cons, List.length_nil, Option.getD_some, Option.getD_none, List.all_cons, List.all_nil, List.set_cons_zero, List.set_cons_succ, List.replicate_succ, List.replicate_zero, List.getElem?_cons_zero, List.getElem?_cons_succ, List.drop_succ_cons, List.drop_zero, List.take_succ_cons, List.take_zero, List.map_append, List.nil_append, List.cons_append, Nat.reduceShiftRight, Nat.reduceMod])
      (repeat' first | exact trivial | (with_reducible exact RnB.fxB (ints_fxB _)) | (with_reducible rfl) | (with_reducible refine And.intro ?_ ?_) | (with_reducible refine RnB.bb ?_; simp only [vcW, vcV, vcD, Int.reduceEq, Int.reduceNe, Int.reduceLT, Int.reduceLE, Nat.reduceEqDiff, Nat.reduceAdd, reduceIte, reduceCtorEq, Nat.reduceLT, Nat.reduceLeDiff, eq_self, Option.bind_some, Option.map_some, List.map_cons, List.map_nil, List.length_cons, List.length_nil, Option.getD_some, Option.getD_none, List.all_cons, List.all_nil, List.set_cons_zero, List.set_cons_succ, List.replicate_succ, List.replicate_zero, List.getElem?_cons_zero, List.getElem?_cons_succ, List.drop_succ_cons, List.drop_zero, List.take_succ_cons, List.take_zero, List.map_append, List.nil_append, List.cons_append, Nat.reduceShiftRight, Nat.reduceMod]) | (with_reducible refine RnB.nb ?_; simp only [vcW, vcV, vcD, Int.reduceEq, Int.reduceNe, Int.reduceLT, Int.reduceLE, Nat.reduceEqDiff, Nat.reduceAdd, reduceIte, reduceCtorEq, Nat.reduceLT, Nat.reduceLeDiff, eq_self, Option.bind_some, Option.map_some, List.map_cons, List.map_nil, List.length_cons, List.length_nil, Option.getD_some, Option.getD_none, List.all_cons, List.all_nil, List.set_cons_zero, List.set_cons_succ, List.replicate_succ, List.replicate_zero, List.getElem?_cons_zero, List.getElem?_cons_succ, List.drop_succ_cons, List.drop_zero, List.take_succ_cons, List.take_zero, List.map_append, List.nil_append, List.cons_append, Nat.reduceShiftRight, Nat.reduceMod]) | (with_reducible refine RnB.ii ?_) | (with_reducible refine RnB.app ?_) | (with_reducible refine RnB.fxB ?_; simp only [vcW, vcV, vcD, Int.reduceEq, Int.reduceNe, Int.reduceLT, Int.reduceLE, Nat.reduceEqDiff, Nat.reduceAdd, reduceIte, reduceCtorEq, Nat.reduceLT, Nat.reduceLeDiff, eq_self, Option.bind_some, Option.map_some, List.map_cons, List.map_nil, List.length_cons, List.length_nil, Option.getD_some, Option.getD_none, List.all_cons, List.all_nil, List.set_cons_zero, List.set_cons_succ, List.replicate_succ, List.replicate_zero, List.getElem?_cons_zero, List.getElem?_cons_succ, List.drop_succ_cons, List.drop_zero, List.take_succ_cons, List.take_zero, List.map_append, List.nil_append, List.cons_append, Nat.reduceShiftRight, Nat.reduceMod]) | omega)
    · subst hst
      have hia : ints (cs ++ [dsum s q]) = ints cs ++ [.int .i64 (dsum s q)] := ints_append _ _
      simp only [ints_length, h2, h3, h4, h8, h10, h11, h12, h13, h14, h15, h16, h17, h18, h19, vcV, vcD, Int.reduceEq, Int.reduceNe, Int.reduceLT, Int.reduceLE, Nat.reduceEqDiff, Nat.reduceAdd, reduceIte, reduceCtorEq, Nat.reduceLT, Nat.reduceLeDiff, eq_self, Option.bind_some, Option.map_some, List.map_cons, List.map_nil, List.length_cons, List.length_nil, Option.getD_some, Option.getD_none, List.all_cons, List.all_nil, List.set_cons_zero, List.set_cons_succ, List.replicate_succ, List.replicate_zero, List.getElem?_cons_zero, List.getElem?_cons_succ, List.drop_succ_cons, List.drop_zero, List.take_succ_cons, List.take_zero, List.map_append, List.nil_append, List.cons_append, Nat.reduceShiftRight, Nat.reduceMod]
      (repeat (with_reducible refine And.intro ?_ ?_; focus (first | omega | (unfold I64; omega))))
      refine ⟨⟨b + 1, hb', trivial⟩, by simp only; omega, ?_⟩
      refine weakX [(100, some 157)] (of_decide_eq_true rfl) (of_decide_eq_true rfl) ?_
      (simp only [hs1, hs2, hia, h2, h3, h4, h8, h10, h11, h12, h13, h14, h15, h16, h17, h18, h19, vcW, vcV, vcD, Int.reduceEq, Int.reduceNe, Int.reduceLT, Int.reduceLE, Nat.reduceEqDiff, Nat.reduceAdd, reduceIte, reduceCtorEq, Nat.reduceLT, Nat.reduceLeDiff, eq_self, Option.bind_some, Option.map_some, List.map_cons, List.map_nil, List.length_cons, List.length_nil, Option.getD_some, Option.getD_none, List.all_cons, List.all_nil, List.set_cons_zero, List.set_cons_succ, List.replicate_succ, List.replicate_zero, List.getElem?_cons_zero, List.getElem?_cons_succ, List.drop_succ_cons, List.drop_zero, List.take_succ_cons, List.take_zero, List.map_append, List.nil_append, List.cons_append, Nat.reduceShiftRight, Nat.reduceMod])
      (repeat' first | exact trivial | (with_reducible exact RnB.fxB (ints_fxB _)) | (with_reducible rfl) | (with_reducible refine And.intro ?_ ?_) | (with_reducible refine RnB.bb ?_; simp only [vcW, vcV, vcD, Int.reduceEq, Int.reduceNe, Int.reduceLT, Int.reduceLE, Nat.reduceEqDiff, Nat.reduceAdd, reduceIte, reduceCtorEq, Nat.reduceLT, Nat.reduceLeDiff, eq_self, Option.bind_some, Option.map_some, List.map_cons, List.map_nil, List.length_cons, List.length_nil, Option.getD_some, Option.getD_none, List.all_cons, List.all_nil, List.set_cons_zero, List.set_cons_succ, List.replicate_succ, List.replicate_zero, List.getElem?_cons_zero, List.getElem?_cons_succ, List.drop_succ_cons, List.drop_zero, List.take_succ_cons, List.take_zero, List.map_append, List.nil_append, List.cons_append, Nat.reduceShiftRight, Nat.reduceMod]) | (with_reducible refine RnB.nb ?_; simp only [vcW, vcV, vcD, Int.reduceEq, Int.reduceNe, Int.reduceLT, Int.reduceLE, Nat.reduceEqDiff, Nat.reduceAdd, reduceIte, reduceCtorEq, Nat.reduceLT, Nat.reduceLeDiff, eq_self, Option.bind_some, Option.map_some, List.map_cons, List.map_nil, List.length_cons, List.length_nil, Option.getD_some, Option.getD_none, List.all_cons, List.all_nil, List.set_cons_zero, List.set_cons_succ, List.replicate_succ, List.replicate_zero, List.getElem?_cons_zero, List.getElem?_cons_succ, List.drop_succ_cons, List.drop_zero, List.take_succ_cons, List.take_zero, List.map_append, List.nil_append, List.cons_append, Nat.reduceShiftRight, Nat.reduceMod]) | (with_reducible refine RnB.ii ?_) | (with_reducible refine RnB.app ?_) | (with_reducible refine RnB.fxB ?_; simp only [vcW, vcV, vcD, Int.reduceEq, Int.reduceNe, Int.reduceLT, Int.reduceLE, Nat.reduceEqDiff, Nat.reduceAdd, reduceIte, reduceCtorEq, Nat.reduceLT, Nat.reduceLeDiff, eq_self, Option.bind_some, Option.map_some, List.map_cons, List.map_nil, List.length_cons, List.length_nil, Option.getD_some, Option.getD_none, List.all_cons, List.all_nil, List.set_cons_zero, List.set_cons_succ, List.replicate_succ, List.replicate_zero, List.getElem?_cons_zero, List.getElem?_cons_succ, List.drop_succ_cons, List.drop_zero, List.take_succ_cons, List.take_zero, List.map_append, List.nil_append, List.cons_append, Nat.reduceShiftRight, Nat.reduceMod]) | omega)
      all_goals first | exact hia.symm | exact RnB.fxB (by rw [← hia]; exact ints_fxB _)
  · have hbw : b = w := by (simp only [decide_eq_true_eq, decide_eq_false_iff_not, Bool.not_true, I64, Bool.not_eq_true', Bool.not_eq_false', bne_iff_ne, beq_iff_eq, ne_eq] at *; omega)
    cases hbw
    simp only [vcV, vcD, Int.reduceEq, Int.reduceNe, Int.reduceLT, Int.reduceLE, Nat.reduceEqDiff, Nat.reduceAdd, reduceIte, reduceCtorEq, Nat.reduceLT, Nat.reduceLeDiff, eq_self, Option.bind_some, Option.map_some, List.map_cons, List.map_nil, List.length_cons, List.length_nil, Option.getD_some, Option.getD_none, List.all_cons, List.all_nil, List.set_cons_zero, List.set_cons_succ, List.replicate_succ, List.replicate_zero, List.getElem?_cons_zero, List.getElem?_cons_succ, List.drop_succ_cons, List.drop_zero, List.take_succ_cons, List.take_zero, List.map_append, List.nil_append, List.cons_append, Nat.reduceShiftRight, Nat.reduceMod]

set_option maxHeartbeats 4000000 in
theorem TF_b6 (s : List (List Int)) (r : Rule) (more L x0 x1 : Int) (w N k F : Nat) (W : Nat → Int) (hok : skyOk s) (hs3 : s.length ≤ 3) (h60 : ∀ l ∈ s, ∀ c ∈ l, 0 ≤ c ∧ c ≤ 60) (hw2 : w ≤ 2) (hw1 : 1 ≤ w) (hN : N ≤ 729) (rk : Rule) (hrk : rk.ok) (hwin : rk.window = w) (hrav : rk.av = .agg [.int .i64 r.mean, .int .i64 r.spread, .int .i64 w, .int .i64 L]) (hF : F = frF rk) (hWk : sumTo (fun c => if (F : Int) ≤ dsum (binsL s w) c then 1 else 0) N = W k) (c : Nat) (hc : c ≤ N) :
    WL Try.prog 228 cl_top_TopWatchFalseAlarms_b6 (fun ex e' s' => match ex with | .normal => ∃ y : PSigma (fun c : Nat => c ≤ N ∧ True), N - y.1 < N - c ∧ Weak (e', s') ((fun c : Nat => (envOf [(2, .int .i64 more), (3, .ptr 3 0 0), (4, .ptr 4 0 0), (8, .int .i64 N), (10, .ptr 10 0 0), (11, .int .i64 k), (12, .ptr 12 0 0), (13, .int .i64 F), (14, .int .i64 (sumTo (fun c => if (F : Int) ≤ dsum (binsL s w) c then 1 else 0) c)), (15, .int .i64 c)], stOf [(3, ⟨24, 1, [.agg [.sl (skyL s)]]⟩), (4, ⟨49, 4, [.agg [.int .i64 r.mean, .int .i64 r.spread, .int .i64 w, .int .i64 r.limit]]⟩), (10, ⟨25, 2, [.agg [.int .i64 x0, .int .i64 x1]]⟩), (12, ⟨49, 4, [.agg [.int .i64 r.mean, .int .i64 r.spread, .int .i64 w, .int .i64 L]]⟩)])) y.1) | .exit j => j = 6 ∧ s' = stOf [(3, ⟨24, 1, [.agg [.sl (skyL s)]]⟩), (4, ⟨49, 4, [.agg [.int .i64 r.mean, .int .i64 r.spread, .int .i64 w, .int .i64 r.limit]]⟩), (10, ⟨25, 2, [.agg [.int .i64 x0, .int .i64 x1]]⟩), (12, ⟨49, 4, [.agg [.int .i64 r.mean, .int .i64 r.spread, .int .i64 w, .int .i64 L]]⟩)] ∧ e' 2 = .int .i64 more ∧ e' 3 = .ptr 3 0 0 ∧ e' 4 = .ptr 4 0 0 ∧ e' 8 = .int .i64 N ∧ e' 10 = .ptr 10 0 0 ∧ e' 11 = .int .i64 k ∧ e' 13 = .int .i64 F ∧ e' 14 = .int .i64 (W k) | _ => False) (envOf [(2, .int .i64 more), (3, .ptr 3 0 0), (4, .ptr 4 0 0), (8, .int .i64 N), (10, .ptr 10 0 0), (11, .int .i64 k), (12, .ptr 12 0 0), (13, .int .i64 F), (14, .int .i64 (sumTo (fun c => if (F : Int) ≤ dsum (binsL s w) c then 1 else 0) c)), (15, .int .i64 c)]) (stOf [(3, ⟨24, 1, [.agg [.sl (skyL s)]]⟩), (4, ⟨49, 4, [.agg [.int .i64 r.mean, .int .i64 r.spread, .int .i64 w, .int .i64 r.limit]]⟩), (10, ⟨25, 2, [.agg [.int .i64 x0, .int .i64 x1]]⟩), (12, ⟨49, 4, [.agg [.int .i64 r.mean, .int .i64 r.spread, .int .i64 w, .int .i64 L]]⟩)]) .mk := by
  simp only [cl_top_TopWatchFalseAlarms_b6, vcV, vcD, Int.reduceEq, Int.reduceNe, Int.reduceLT, Int.reduceLE, Nat.reduceEqDiff, Nat.reduceAdd, reduceIte, reduceCtorEq, Nat.reduceLT, Nat.reduceLeDiff, eq_self, Option.bind_some, Option.map_some, List.map_cons, List.map_nil, List.length_cons, List.length_nil, Option.getD_some, Option.getD_none, List.all_cons, List.all_nil, List.set_cons_zero, List.set_cons_succ, List.replicate_succ, List.replicate_zero, List.getElem?_cons_zero, List.getElem?_cons_succ, List.drop_succ_cons, List.drop_zero, List.take_succ_cons, List.take_zero, List.map_append, List.nil_append, List.cons_append, Nat.reduceShiftRight, Nat.reduceMod]
  refine brB_split (fun h => ?_) (fun h => ?_)
  · have hc' : c < N := by (simp only [decide_eq_true_eq, decide_eq_false_iff_not, Bool.not_true, I64, Bool.not_eq_true', Bool.not_eq_false', bne_iff_ne, beq_iff_eq, ne_eq] at *; omega)
    clear h
    have hsm : sumTo (fun c => if (F : Int) ≤ dsum (binsL s w) c then 1 else 0) (c + 1) = sumTo (fun c => if (F : Int) ≤ dsum (binsL s w) c then 1 else 0) c + (if (F : Int) ≤ dsum (binsL s w) c then 1 else 0) := rfl
    have hsb := sumTo_bit (fun c => decide ((F : Int) ≤ dsum (binsL s w) c)) c
    simp only [decide_eq_true_eq] at hsb
    generalize sumTo (fun c => if (F : Int) ≤ dsum (binsL s w) c then 1 else 0) c = S0 at *
    simp only [vcV, vcD, Int.reduceEq, Int.reduceNe, Int.reduceLT, Int.reduceLE, Nat.reduceEqDiff, Nat.reduceAdd, reduceIte, reduceCtorEq, Nat.reduceLT, Nat.reduceLeDiff, eq_self, Option.bind_some, Option.map_some, List.map_cons, List.map_nil, List.length_cons, List.length_nil, Option.getD_some, Option.getD_none, List.all_cons, List.all_nil, List.set_cons_zero, List.set_cons_succ, List.replicate_succ, List.replicate_zero, List.getElem?_cons_zero, List.getElem?_cons_succ, List.drop_succ_cons, List.drop_zero, List.take_succ_cons, List.take_zero, List.map_append, List.nil_append, List.cons_append, Nat.reduceShiftRight, Nat.reduceMod]
    refine WL_loopX (t := .mk) (α := PSigma fun b : Nat => b ≤ w ∧ True) (fun x => (fun b : Nat => (envOf [(2, .int .i64 more), (3, .ptr 3 0 0), (4, .ptr 4 0 0), (8, .int .i64 N), (10, .ptr 10 0 0), (11, .int .i64 k), (12, .ptr 12 0 0), (13, .int .i64 F), (14, .int .i64 S0), (15, .int .i64 c), (16, .buf 100 b), (17, .int .i64 (drest (binsL s b) c : Nat)), (18, .int .i64 b)], stOf [(3, ⟨24, 1, [.agg [.sl (skyL s)]]⟩), (4, ⟨49, 4, [.agg [.int .i64 r.mean, .int .i64 r.spread, .int .i64 w, .int .i64 r.limit]]⟩), (10, ⟨25, 2, [.agg [.int .i64 x0, .int .i64 x1]]⟩), (12, ⟨49, 4, [.agg [.int .i64 r.mean, .int .i64 r.spread, .int .i64 w, .int .i64 L]]⟩), (100, ⟨3, 1, ints (cntL s c b)⟩)])) x.1) (fun x => w - x.1) ⟨0, Nat.zero_le _, trivial⟩ 8 (fun e' s' => s' = stOf [(3, ⟨24, 1, [.agg [.sl (skyL s)]]⟩), (4, ⟨49, 4, [.agg [.int .i64 r.mean, .int .i64 r.spread, .int .i64 w, .int .i64 r.limit]]⟩), (10, ⟨25, 2, [.agg [.int .i64 x0, .int .i64 x1]]⟩), (12, ⟨49, 4, [.agg [.int .i64 r.mean, .int .i64 r.spread, .int .i64 w, .int .i64 L]]⟩), (100, ⟨3, 1, ints (cntL s c w)⟩)] ∧ e' 2 = .int .i64 more ∧ e' 3 = .ptr 3 0 0 ∧ e' 4 = .ptr 4 0 0 ∧ e' 8 = .int .i64 N ∧ e' 10 = .ptr 10 0 0 ∧ e' 11 = .int .i64 k ∧ e' 12 = .ptr 12 0 0 ∧ e' 13 = .int .i64 F ∧ e' 14 = .int .i64 S0 ∧ e' 15 = .int .i64 c ∧ e' 16 = .buf 100 w) ?_ (fun ⟨b, hb, _⟩ => TF_b8 s r more L S0 x0 x1 w N k F c hok hs3 h60 hw2 (by omega) b hb) (fun e st ⟨hst, h2, h3, h4, h8, h10, h11, h12, h13, h14, h15, h16⟩ => ?_)
    · have hz1 : drest (binsL s 0) c = c := rfl
      have hz2 : cntL s c 0 = [] := rfl
      have hz3 : ints [] = [] := rfl
      refine weakX [(100, none)] (of_decide_eq_true rfl) (of_decide_eq_true rfl) ?_
      (simp only [hz1, hz2, hz3, vcW, vcV, vcD, Int.reduceEq, Int.reduceNe, Int.reduceLT, Int.reduceLE, Nat.reduceEqDiff, Nat.reduceAdd, reduceIte, reduceCtorEq, Nat.reduceLT, Nat.reduceLeDiff, eq_self, Option.bind_some, Option.map_some, List.map_cons, List.map_nil, List.length_cons, List.length_nil, Option.getD_some, Option.getD_none, List.all_cons, List.all_nil, List.set_cons_zero, List.set_cons_succ, List.replicate_succ, List.replicate_zero, List.getElem?_cons_zero, List.getElem?_cons_succ, List.drop_succ_cons, List.drop_zero, List.take_succ_cons, List.take_zero, List.map_append, List.nil_append, List.cons_append, Nat.reduceShiftRight, Nat.reduceMod])
      (repeat' first | exact trivial | (with_reducible exact RnB.fxB (ints_fxB _)) | (with_reducible rfl) | (with_reducible refine And.intro ?_ ?_) | (with_reducible refine RnB.bb ?_; simp only [vcW, vcV, vcD, Int.reduceEq, Int.reduceNe, Int.reduceLT, Int.reduceLE, Nat.reduceEqDiff, Nat.reduceAdd, reduceIte, reduceCtorEq, Nat.reduceLT, Nat.reduceLeDiff, eq_self, Option.bind_some, Option.map_some, List.map_cons, List.map_nil, List.length_cons, List.length_nil, Option.getD_some, Option.getD_none, List.all_cons, List.all_nil, List.set_cons_zero, List.set_cons_succ, List.replicate_succ, List.replicate_zero, List.getElem?_cons_zero, List.getElem?_cons_succ, List.drop_succ_cons, List.drop_zero, List.take_succ_cons, List.take_zero, List.map_append, List.nil_append, List.cons_append, Nat.reduceShiftRight, Nat.reduceMod]) | (with_reducible refine RnB.nb ?_; simp only [vcW, vcV, vcD, Int.reduceEq, Int.reduceNe, Int.reduceLT, Int.reduceLE, Nat.reduceEqDiff, Nat.reduceAdd, reduceIte, reduceCtorEq, Nat.reduceLT, Nat.reduceLeDiff, eq_self, Option.bind_some, Option.map_some, List.map_cons, List.map_nil, List.length_cons, List.length_nil, Option.getD_some, Option.getD_none, List.all_cons, List.all_nil, List.set_cons_zero, List.set_cons_succ, List.replicate_succ, List.replicate_zero, List.getElem?_cons_zero, List.getElem?_cons_succ, List.drop_succ_cons, List.drop_zero, List.take_succ_cons, List.take_zero, List.map_append, List.nil_append, List.cons_append, Nat.reduceShiftRight, Nat.reduceMod]) | (with_reducible refine RnB.ii ?_) | (with_reducible refine RnB.app ?_) | (with_reducible refine RnB.fxB ?_; simp only [vcW, vcV, vcD, Int.reduceEq, Int.reduceNe, Int.reduceLT, Int.reduceLE, Nat.reduceEqDiff, Nat.reduceAdd, reduceIte, reduceCtorEq, Nat.reduceLT, Nat.reduceLeDiff, eq_self, Option.bind_some, Option.map_some, List.map_cons, List.map_nil, List.length_cons, List.length_nil, Option.getD_some, Option.getD_none, List.all_cons, List.all_nil, List.set_cons_zero, List.set_cons_succ, List.replicate_succ, List.replicate_zero, List.getElem?_cons_zero, List.getElem?_cons_succ, List.drop_succ_cons, List.drop_zero, List.take_succ_cons, List.take_zero, List.map_append, List.nil_append, List.cons_append, Nat.reduceShiftRight, Nat.reduceMod]) | omega)
    · subst hst
      have hcl : (cntL s c w).length = w := cntL_length s c w
      have hcs := cntL_sum s c w
      have hcm := cntL_mem s c w
      have hdb := dsum_bound (m := 60) (by omega) (binsL s w) c fun l hl => ⟨(sensE_ok (hok.2 _ (binsL_mem hl))).1, h60 _ (binsL_mem hl)⟩
      have hbl := binsL_length s w
      have hbl3 : w * s.length ≤ 2 * 3 := Nat.mul_le_mul (by omega) (by omega)
      have hone := One_s rk (cntL s c w) hrk (by rw [hcl]; exact hwin.symm) (countsE_of (by omega) fun x hx => by
        obtain ⟨q, rfl⟩ := hcm x hx
        have := dsum_bound (m := 60) (by omega) s q fun l hl => ⟨(sensE_ok (hok.2 _ hl)).1, h60 _ hl⟩
        omega)
      obtain ⟨a, ha, hA⟩ := hone
      rw [hcs] at ha
      have hiff := frF_iff hrk hdb.1 (by omega)
      rw [← hF] at hiff
      have ha' : a.length = if (F : Int) ≤ dsum (binsL s w) c then 1 else 0 := by
        rw [ha]
        by_cases hO : oneA rk (dsum (binsL s w) c) = true
        · rw [if_pos hO, if_pos (hiff.1 hO)]
        · rw [if_neg hO, if_neg (fun h => hO (hiff.2 h))]
      have ha1 : a.length ≤ 1 := by rw [ha']; split <;> omega
      have hal : sumTo (fun c => if (F : Int) ≤ dsum (binsL s w) c then 1 else 0) (c + 1) = S0 + a.length := by
        rw [hsm, ha']; split <;> simp
      rw [hrav] at hA
      generalize cntL s c w = cs at *
      have hn1 : ¬ (1 : Int) < (a.length : Int) := by omega
      have hbg := borB_good (s := stOf [(3, ⟨24, 1, [.agg [.sl (skyL s)]]⟩), (4, ⟨49, 4, [.agg [.int .i64 r.mean, .int .i64 r.spread, .int .i64 w, .int .i64 r.limit]]⟩), (10, ⟨25, 2, [.agg [.int .i64 x0, .int .i64 x1]]⟩), (12, ⟨49, 4, [.agg [.int .i64 r.mean, .int .i64 r.spread, .int .i64 w, .int .i64 L]]⟩), (100, ⟨3, 1, ints cs⟩)]) 4 w 3 1 (ints cs) (by rw [ints_length, hcl]) (ints_fx _)
      simp only [h2, h3, h4, h8, h10, h11, h12, h13, h14, h15, h16, vcV, vcD, Int.reduceEq, Int.reduceNe, Int.reduceLT, Int.reduceLE, Nat.reduceEqDiff, Nat.reduceAdd, reduceIte, reduceCtorEq, Nat.reduceLT, Nat.reduceLeDiff, eq_self, Option.bind_some, Option.map_some, List.map_cons, List.map_nil, List.length_cons, List.length_nil, Option.getD_some, Option.getD_none, List.all_cons, List.all_nil, List.set_cons_zero, List.set_cons_succ, List.replicate_succ, List.replicate_zero, List.getElem?_cons_zero, List.getElem?_cons_succ, List.drop_succ_cons, List.drop_zero, List.take_succ_cons, List.take_zero, List.map_append, List.nil_append, List.cons_append, Nat.reduceShiftRight, Nat.reduceMod]
      rw [hbg]
      refine callS_of hA ?_
      simp only [vcX, ints_length, hn1, h2, h3, h4, h8, h10, h11, h12, h13, h14, h15, h16, vcV, vcD, Int.reduceEq, Int.reduceNe, Int.reduceLT, Int.reduceLE, Nat.reduceEqDiff, Nat.reduceAdd, reduceIte, reduceCtorEq, Nat.reduceLT, Nat.reduceLeDiff, eq_self, Option.bind_some, Option.map_some, List.map_cons, List.map_nil, List.length_cons, List.length_nil, Option.getD_some, Option.getD_none, List.all_cons, List.all_nil, List.set_cons_zero, List.set_cons_succ, List.replicate_succ, List.replicate_zero, List.getElem?_cons_zero, List.getElem?_cons_succ, List.drop_succ_cons, List.drop_zero, List.take_succ_cons, List.take_zero, List.map_append, List.nil_append, List.cons_append, Nat.reduceShiftRight, Nat.reduceMod]
      (repeat (with_reducible refine And.intro ?_ ?_; focus (first | omega | (unfold I64; omega))))
      refine ⟨⟨c + 1, hc', trivial⟩, by simp only; omega, ?_⟩
      refine weakX [] (of_decide_eq_true rfl) (of_decide_eq_true rfl) ?_
      (simp only [vcX, hal, h2, h3, h4, h8, h10, h11, h12, h13, h14, h15, h16, vcW, vcV, vcD, Int.reduceEq, Int.reduceNe, Int.reduceLT, Int.reduceLE, Nat.reduceEqDiff, Nat.reduceAdd, reduceIte, reduceCtorEq, Nat.reduceLT, Nat.reduceLeDiff, eq_self, Option.bind_some, Option.map_some, List.map_cons, List.map_nil, List.length_cons, List.length_nil, Option.getD_some, Option.getD_none, List.all_cons, List.all_nil, List.set_cons_zero, List.set_cons_succ, List.replicate_succ, List.replicate_zero, List.getElem?_cons_zero, List.getElem?_cons_succ, List.drop_succ_cons, List.drop_zero, List.take_succ_cons, List.take_zero, List.map_append, List.nil_append, List.cons_append, Nat.reduceShiftRight, Nat.reduceMod])
      (repeat' first | exact trivial | (with_reducible exact RnB.fxB (ints_fxB _)) | (with_reducible rfl) | (with_reducible refine And.intro ?_ ?_) | (with_reducible refine RnB.bb ?_; simp only [vcW, vcV, vcD, Int.reduceEq, Int.reduceNe, Int.reduceLT, Int.reduceLE, Nat.reduceEqDiff, Nat.reduceAdd, reduceIte, reduceCtorEq, Nat.reduceLT, Nat.reduceLeDiff, eq_self, Option.bind_some, Option.map_some, List.map_cons, List.map_nil, List.length_cons, List.length_nil, Option.getD_some, Option.getD_none, List.all_cons, List.all_nil, List.set_cons_zero, List.set_cons_succ, List.replicate_succ, List.replicate_zero, List.getElem?_cons_zero, List.getElem?_cons_succ, List.drop_succ_cons, List.drop_zero, List.take_succ_cons, List.take_zero, List.map_append, List.nil_append, List.cons_append, Nat.reduceShiftRight, Nat.reduceMod]) | (with_reducible refine RnB.nb ?_; simp only [vcW, vcV, vcD, Int.reduceEq, Int.reduceNe, Int.reduceLT, Int.reduceLE, Nat.reduceEqDiff, Nat.reduceAdd, reduceIte, reduceCtorEq, Nat.reduceLT, Nat.reduceLeDiff, eq_self, Option.bind_some, Option.map_some, List.map_cons, List.map_nil, List.length_cons, List.length_nil, Option.getD_some, Option.getD_none, List.all_cons, List.all_nil, List.set_cons_zero, List.set_cons_succ, List.replicate_succ, List.replicate_zero, List.getElem?_cons_zero, List.getElem?_cons_succ, List.drop_succ_cons, List.drop_zero, List.take_succ_cons, List.take_zero, List.map_append, List.nil_append, List.cons_append, Nat.reduceShiftRight, Nat.reduceMod]) | (with_reducible refine RnB.ii ?_) | (with_reducible refine RnB.app ?_) | (with_reducible refine RnB.fxB ?_; simp only [vcW, vcV, vcD, Int.reduceEq, Int.reduceNe, Int.reduceLT, Int.reduceLE, Nat.reduceEqDiff, Nat.reduceAdd, reduceIte, reduceCtorEq, Nat.reduceLT, Nat.reduceLeDiff, eq_self, Option.bind_some, Option.map_some, List.map_cons, List.map_nil, List.length_cons, List.length_nil, Option.getD_some, Option.getD_none, List.all_cons, List.all_nil, List.set_cons_zero, List.set_cons_succ, List.replicate_succ, List.replicate_zero, List.getElem?_cons_zero, List.getElem?_cons_succ, List.drop_succ_cons, List.drop_zero, List.take_succ_cons, List.take_zero, List.map_append, List.nil_append, List.cons_append, Nat.reduceShiftRight, Nat.reduceMod]) | omega)
  · have hcN : c = N := by (simp only [decide_eq_true_eq, decide_eq_false_iff_not, Bool.not_true, I64, Bool.not_eq_true', Bool.not_eq_false', bne_iff_ne, beq_iff_eq, ne_eq] at *; omega)
    cases hcN
    rw [hWk]
    simp only [vcV, vcD, Int.reduceEq, Int.reduceNe, Int.reduceLT, Int.reduceLE, Nat.reduceEqDiff, Nat.reduceAdd, reduceIte, reduceCtorEq, Nat.reduceLT, Nat.reduceLeDiff, eq_self, Option.bind_some, Option.map_some, List.map_cons, List.map_nil, List.length_cons, List.length_nil, Option.getD_some, Option.getD_none, List.all_cons, List.all_nil, List.set_cons_zero, List.set_cons_succ, List.replicate_succ, List.replicate_zero, List.getElem?_cons_zero, List.getElem?_cons_succ, List.drop_succ_cons, List.drop_zero, List.take_succ_cons, List.take_zero, List.map_append, List.nil_append, List.cons_append, Nat.reduceShiftRight, Nat.reduceMod]
end Go.Proofs.Ytaebfjepacnmhaa

/- The law TopWatchFalseAlarms: it answers true. By an AI agent; nothing here is trusted. -/
namespace Go.Proofs.Ytaebfjepacnmhaa
open Go.Av

theorem low_bound {a b : Int} (ha : 0 ≤ a) (hb : 0 < b) : (0 ≤ lowN a b ∧ lowN a b ≤ a) ∧ (1 ≤ lowD a b ∧ lowD a b ≤ b) := by
  have h1 := lowD_pos (num := a) hb
  unfold lowN lowD lowG at *
  rw [if_neg (by omega)] at *
  generalize hg : ((Int.gcd a b : Nat) : Int) = g at *
  have hg0 : 0 ≤ g := by omega
  have e1 : (a.tdiv g).natAbs ≤ a.natAbs := by rw [Int.natAbs_tdiv]; exact Nat.div_le_self _ _
  have e2 : (b.tdiv g).natAbs ≤ b.natAbs := by rw [Int.natAbs_tdiv]; exact Nat.div_le_self _ _
  have e3 : 0 ≤ a.tdiv g := Int.tdiv_nonneg ha hg0
  omega
def rkF (r : Rule) (k : Nat) (more : Int) : Rule := ⟨r.mean, r.spread, r.window, min 1000 (r.limit + k * more)⟩

set_option maxHeartbeats 8000000 in
theorem TF_b2 (s : List (List Int)) (r : Rule) (more : Int) (w N : Nat) (hok : skyOk s) (hE : (skyE s).2 = 0) (hs3 : s.length ≤ 3) (hl3 : ∀ l ∈ s, l.length ≤ 3) (h60 : ∀ l ∈ s, ∀ c ∈ l, 0 ≤ c ∧ c ≤ 60) (hr : r.ok) (hwin : r.window = w) (hw2 : w ≤ 2) (hw1 : 1 ≤ w) (hm : 0 ≤ more ∧ more ≤ 100)
    (hN : N = dcnt (binsL s w)) (hN1 : 1 ≤ N ∧ N ≤ 729) (W : Nat → Int) (hW : W = fun k => ((bTo s w).drop (frF (rkF r k more))).sum) (k : Nat) (hk : k ≤ 2) :
    WL Try.prog 228 cl_top_TopWatchFalseAlarms_b2 (fun ex e' s' => match ex with | .normal => ∃ y : PSigma (fun k : Nat => k ≤ 2 ∧ True), 2 - y.1 < 2 - k ∧ Weak (e', s') ((fun k : Nat => (envOf [(2, .int .i64 more), (3, .ptr 3 0 0), (4, .ptr 4 0 0), (8, .int .i64 N), (10, .ptr 10 0 0), (11, .int .i64 k)], stOf [(3, ⟨24, 1, [.agg [.sl (skyL s)]]⟩), (4, ⟨49, 4, [.agg [.int .i64 r.mean, .int .i64 r.spread, .int .i64 w, .int .i64 r.limit]]⟩), (10, ⟨25, 2, [.agg [.int .i64 (if 0 < k then W 0 else 0), .int .i64 (if 1 < k then W 1 else 0)]]⟩)])) y.1) | .exit j => j = 2 ∧ e' 10 = .ptr 10 0 0 ∧ s' 10 = some (some ⟨25, 2, [.agg [.int .i64 (W 0), .int .i64 (W 1)]]⟩) | _ => False) (envOf [(2, .int .i64 more), (3, .ptr 3 0 0), (4, .ptr 4 0 0), (8, .int .i64 N), (10, .ptr 10 0 0), (11, .int .i64 k)]) (stOf [(3, ⟨24, 1, [.agg [.sl (skyL s)]]⟩), (4, ⟨49, 4, [.agg [.int .i64 r.mean, .int .i64 r.spread, .int .i64 w, .int .i64 r.limit]]⟩), (10, ⟨25, 2, [.agg [.int .i64 (if 0 < k then W 0 else 0), .int .i64 (if 1 < k then W 1 else 0)]]⟩)]) .mk := by
  obtain ⟨hr1, hr2, hr3, hr4⟩ := id hr
  have hmax := maxLen_big
  have hs1 : s.length < 4000000000000000000 := by omega
  have hl1 : ∀ l ∈ s, l.length < 4000000000000000000 := fun l hl => by have := hl3 l hl; omega
  have hCS := CopySky_s s (by omega) (fun l hl => by have := hl3 l hl; omega)
  have hbE : binsE w = 0 := by unfold binsE; rw [if_pos (by omega)]
  obtain ⟨f1, f2, f3, f4⟩ := bTo_facts hok (show w ≤ 3 by omega)
  have hsum := bTo_count hok.2 w
  rw [← hN] at hsum
  simp only [cl_top_TopWatchFalseAlarms_b2, vcV, vcD, Int.reduceEq, Int.reduceNe, Int.reduceLT, Int.reduceLE, Nat.reduceEqDiff, Nat.reduceAdd, reduceIte, reduceCtorEq, Nat.reduceLT, Nat.reduceLeDiff, eq_self, Option.bind_some, Option.map_some, List.map_cons, List.map_nil, List.length_cons, List.length_nil, Option.getD_some, Option.getD_none, List.all_cons, List.all_nil, List.set_cons_zero, List.set_cons_succ, List.replicate_succ, List.replicate_zero, List.getElem?_cons_zero, List.getElem?_cons_succ, List.drop_succ_cons, List.drop_zero, List.take_succ_cons, List.take_zero, List.map_append, List.nil_append, List.cons_append, Nat.reduceShiftRight, Nat.reduceMod]
  refine brB_split (fun h => ?_) (fun h => ?_)
  · have hk' : k < 2 := by (simp only [decide_eq_true_eq, decide_eq_false_iff_not, Bool.not_true, I64, Bool.not_eq_true', Bool.not_eq_false', bne_iff_ne, beq_iff_eq, ne_eq] at *; omega)
    clear h
    have hkm := mul_bound (a := (k : Int)) (b := more) (A := 1) (B := 100) (by omega) (by omega) hm.1 hm.2
    have hrk : (rkF r k more).ok := by unfold rkF Rule.ok; simp only; omega
    have hwk : (rkF r k more).window = w := hwin
    obtain ⟨L, hL⟩ : ∃ L : Int, L = min 1000 (r.limit + k * more) := ⟨_, rfl⟩
    have hrav : (rkF r k more).av = .agg [.int .i64 r.mean, .int .i64 r.spread, .int .i64 w, .int .i64 L] := by rw [hL, ← hwin]; rfl
    obtain ⟨F, hF⟩ : ∃ F : Nat, F = frF (rkF r k more) := ⟨_, rfl⟩
    have hF4 : F ≤ 400 := by rw [hF]; exact frF_le _
    have hraise := fun f hf => watchRaises_s (rkF r k more) hrk f hf
    rw [hrav] at hraise
    have hlow : ∀ f : Nat, f < F → oneA (rkF r k more) f = false := by
      intro f hf
      cases hO : oneA (rkF r k more) f with
      | false => rfl
      | true =>
        have := (frF_iff hrk (by omega) (by omega)).1 hO
        rw [← hF] at this; omega
    have htop : F < 400 → oneA (rkF r k more) F = true := fun h => (frF_iff hrk (by omega) (by omega)).2 (by rw [← hF]; exact Int.le_refl _)
    have hWk : sumTo (fun c => if (F : Int) ≤ dsum (binsL s w) c then 1 else 0) N = W k := by rw [hW, hN, hF]; exact (ways_count hok.2 w _).symm
    have hBE : skyBE s w = 0 := by unfold skyBE; rw [if_neg (by simpa using hE)]; exact hbE
    have hTE : skyTE s w F = 0 := by unfold skyTE thrE; rw [if_neg (by simpa using hBE), if_pos (by omega)]
    have hWs := WaysOf_s s w F hs1 hl1
    rw [if_pos hTE, hTE, show (w : Int).toNat = w from rfl, show (F : Int).toNat = F from rfl, show ((bTo s w).drop F).sum = W k by rw [hW, hF]] at hWs
    have hFA := FalseAlarms_s s w F hs1 hl1 hTE
    have hdb := drop_sum_bound f1 F
    rw [hsum] at hdb
    have hWb : 0 ≤ W k ∧ W k ≤ N := by rw [hW]; simp only; rw [← hF]; exact hdb
    have hfN : falN s w F = lowN (W k) N := by unfold falN; rw [hsum, hW, hF]
    have hfD : falD s w F = lowD (W k) N := by unfold falD; rw [hsum, hW, hF]
    have hlb := low_bound hWb.1 (show (0 : Int) < N by omega)
    have hpart : lowN (W k) N * N = W k * lowD (W k) N := low_part _ _ (by omega)
    have hsmall : smallF (lowN (W k) N) (lowD (W k) N) = true := by
      unfold smallF
      rw [decide_eq_true (by omega), decide_eq_true (by omega)]; rfl
    unfold falL at hFA
    rw [hfN, hfD, if_pos hsmall] at hFA
    have hp1 := mul_bound (a := lowN (W k) N) (b := (N : Int)) (A := 729) (B := 729) (by omega) (by omega) (by omega) (by omega)
    have hp2 := mul_bound (a := W k) (b := lowD (W k) N) (A := 729) (B := 729) (by omega) (by omega) (by omega) (by omega)
    have hIS := IsSmall_s (lowN (W k) N) (lowD (W k) N)
    rw [hsmall] at hIS
    have hW01 : ∀ j, k = j → W j = W k := fun j h => by rw [h]
    generalize lowN (W k) N = fn at *
    generalize lowD (W k) N = fd at *
    have i00 : (0 + 0 * 1 : Nat) = 0 := rfl
    have i11 : (0 + 1 * 1 : Nat) = 1 := rfl
    obtain ⟨x0, hx0⟩ : ∃ x0, x0 = if 0 < k then W 0 else 0 := ⟨_, rfl⟩
    obtain ⟨x1, hx1⟩ : ∃ x1, x1 = if 1 < k then W 1 else 0 := ⟨_, rfl⟩
    rw [← hx0, ← hx1]
    simp only [vcV, vcD, Int.reduceEq, Int.reduceNe, Int.reduceLT, Int.reduceLE, Nat.reduceEqDiff, Nat.reduceAdd, reduceIte, reduceCtorEq, Nat.reduceLT, Nat.reduceLeDiff, eq_self, Option.bind_some, Option.map_some, List.map_cons, List.map_nil, List.length_cons, List.length_nil, Option.getD_some, Option.getD_none, List.all_cons, List.all_nil, List.set_cons_zero, List.set_cons_succ, List.replicate_succ, List.replicate_zero, List.getElem?_cons_zero, List.getElem?_cons_succ, List.drop_succ_cons, List.drop_zero, List.take_succ_cons, List.take_zero, List.map_append, List.nil_append, List.cons_append, Nat.reduceShiftRight, Nat.reduceMod]
    (repeat (with_reducible refine And.intro ?_ ?_; focus (first | omega | (unfold I64; omega))))
    rw [← hL]
    refine WL_loopX (t := .mk) (α := PSigma fun f : Nat => f ≤ F ∧ True) (fun x => (fun f : Nat => (envOf [(2, .int .i64 more), (3, .ptr 3 0 0), (4, .ptr 4 0 0), (8, .int .i64 N), (10, .ptr 10 0 0), (11, .int .i64 k), (12, .ptr 12 0 0), (13, .int .i64 f)], stOf [(3, ⟨24, 1, [.agg [.sl (skyL s)]]⟩), (4, ⟨49, 4, [.agg [.int .i64 r.mean, .int .i64 r.spread, .int .i64 w, .int .i64 r.limit]]⟩), (10, ⟨25, 2, [.agg [.int .i64 x0, .int .i64 x1]]⟩), (12, ⟨49, 4, [.agg [.int .i64 r.mean, .int .i64 r.spread, .int .i64 w, .int .i64 L]]⟩)])) x.1) (fun x => F - x.1) ⟨0, Nat.zero_le _, trivial⟩ 4 (fun e' s' => s' = stOf [(3, ⟨24, 1, [.agg [.sl (skyL s)]]⟩), (4, ⟨49, 4, [.agg [.int .i64 r.mean, .int .i64 r.spread, .int .i64 w, .int .i64 r.limit]]⟩), (10, ⟨25, 2, [.agg [.int .i64 x0, .int .i64 x1]]⟩), (12, ⟨49, 4, [.agg [.int .i64 r.mean, .int .i64 r.spread, .int .i64 w, .int .i64 L]]⟩)] ∧ e' 2 = .int .i64 more ∧ e' 3 = .ptr 3 0 0 ∧ e' 4 = .ptr 4 0 0 ∧ e' 8 = .int .i64 N ∧ e' 10 = .ptr 10 0 0 ∧ e' 11 = .int .i64 k ∧ e' 12 = .ptr 12 0 0 ∧ e' 13 = .int .i64 F) ?_ (fun ⟨f, hf, _⟩ => ?_) (fun e st ⟨hst, h2, h3, h4, h8, h10, h11, h12, h13⟩ => ?_)
    · refine weakX [] (of_decide_eq_true rfl) (of_decide_eq_true rfl) ?_
      (simp only [vcW, vcV, vcD, Int.reduceEq, Int.reduceNe, Int.reduceLT, Int.reduceLE, Nat.reduceEqDiff, Nat.reduceAdd, reduceIte, reduceCtorEq, Nat.reduceLT, Nat.reduceLeDiff, eq_self, Option.bind_some, Option.map_some, List.map_cons, List.map_nil, List.length_cons, List.length_nil, Option.getD_some, Option.getD_none, List.all_cons, List.all_nil, List.set_cons_zero, List.set_cons_succ, List.replicate_succ, List.replicate_zero, List.getElem?_cons_zero, List.getElem?_cons_succ, List.drop_succ_cons, List.drop_zero, List.take_succ_cons, List.take_zero, List.map_append, List.nil_append, List.cons_append, Nat.reduceShiftRight, Nat.reduceMod])
      (repeat' first | exact trivial | (with_reducible exact RnB.fxB (ints_fxB _)) | (with_reducible rfl) | (with_reducible refine And.intro ?_ ?_) | (with_reducible refine RnB.bb ?_; simp only [vcW, vcV, vcD, Int.reduceEq, Int.reduceNe, Int.reduceLT, Int.reduceLE, Nat.reduceEqDiff, Nat.reduceAdd, reduceIte, reduceCtorEq, Nat.reduceLT, Nat.reduceLeDiff, eq_self, Option.bind_some, Option.map_some, List.map_cons, List.map_nil, List.length_cons, List.length_nil, Option.getD_some, Option.getD_none, List.all_cons, List.all_nil, List.set_cons_zero, List.set_cons_succ, List.replicate_succ, List.replicate_zero, List.getElem?_cons_zero, List.getElem?_cons_succ, List.drop_succ_cons, List.drop_zero, List.take_succ_cons, List.take_zero, List.map_append, List.nil_append, List.cons_append, Nat.reduceShiftRight, Nat.reduceMod]) | (with_reducible refine RnB.nb ?_; simp only [vcW, vcV, vcD, Int.reduceEq, Int.reduceNe, Int.reduceLT, Int.reduceLE, Nat.reduceEqDiff, Nat.reduceAdd, reduceIte, reduceCtorEq, Nat.reduceLT, Nat.reduceLeDiff, eq_self, Option.bind_some, Option.map_some, List.map_cons, List.map_nil, List.length_cons, List.length_nil, Option.getD_some, Option.getD_none, List.all_cons, List.all_nil, List.set_cons_zero, List.set_cons_succ, List.replicate_succ, List.replicate_zero, List.getElem?_cons_zero, List.getElem?_cons_succ, List.drop_succ_cons, List.drop_zero, List.take_succ_cons, List.take_zero, List.map_append, List.nil_append, List.cons_append, Nat.reduceShiftRight, Nat.reduceMod]) | (with_reducible refine RnB.ii ?_) | (with_reducible refine RnB.app ?_) | (with_reducible refine RnB.fxB ?_; simp only [vcW, vcV, vcD, Int.reduceEq, Int.reduceNe, Int.reduceLT, Int.reduceLE, Nat.reduceEqDiff, Nat.reduceAdd, reduceIte, reduceCtorEq, Nat.reduceLT, Nat.reduceLeDiff, eq_self, Option.bind_some, Option.map_some, List.map_cons, List.map_nil, List.length_cons, List.length_nil, Option.getD_some, Option.getD_none, List.all_cons, List.all_nil, List.set_cons_zero, List.set_cons_succ, List.replicate_succ, List.replicate_zero, List.getElem?_cons_zero, List.getElem?_cons_succ, List.drop_succ_cons, List.drop_zero, List.take_succ_cons, List.take_zero, List.map_append, List.nil_append, List.cons_append, Nat.reduceShiftRight, Nat.reduceMod]) | omega)
    · simp only [cl_top_TopWatchFalseAlarms_b4, vcV, vcD, Int.reduceEq, Int.reduceNe, Int.reduceLT, Int.reduceLE, Nat.reduceEqDiff, Nat.reduceAdd, reduceIte, reduceCtorEq, Nat.reduceLT, Nat.reduceLeDiff, eq_self, Option.bind_some, Option.map_some, List.map_cons, List.map_nil, List.length_cons, List.length_nil, Option.getD_some, Option.getD_none, List.all_cons, List.all_nil, List.set_cons_zero, List.set_cons_succ, List.replicate_succ, List.replicate_zero, List.getElem?_cons_zero, List.getElem?_cons_succ, List.drop_succ_cons, List.drop_zero, List.take_succ_cons, List.take_zero, List.map_append, List.nil_append, List.cons_append, Nat.reduceShiftRight, Nat.reduceMod]
      by_cases hfF : f < F
      · have hf4 : (f : Int) < 400 := by omega
        have hra := hraise f (by omega)
        rw [hlow f hfF] at hra
        simp only [hf4, vcV, vcD, Int.reduceEq, Int.reduceNe, Int.reduceLT, Int.reduceLE, Nat.reduceEqDiff, Nat.reduceAdd, reduceIte, reduceCtorEq, Nat.reduceLT, Nat.reduceLeDiff, eq_self, Option.bind_some, Option.map_some, List.map_cons, List.map_nil, List.length_cons, List.length_nil, Option.getD_some, Option.getD_none, List.all_cons, List.all_nil, List.set_cons_zero, List.set_cons_succ, List.replicate_succ, List.replicate_zero, List.getElem?_cons_zero, List.getElem?_cons_succ, List.drop_succ_cons, List.drop_zero, List.take_succ_cons, List.take_zero, List.map_append, List.nil_append, List.cons_append, Nat.reduceShiftRight, Nat.reduceMod]
        refine callS_of hra ?_
        simp only [vcV, vcD, Int.reduceEq, Int.reduceNe, Int.reduceLT, Int.reduceLE, Nat.reduceEqDiff, Nat.reduceAdd, reduceIte, reduceCtorEq, Nat.reduceLT, Nat.reduceLeDiff, eq_self, Option.bind_some, Option.map_some, List.map_cons, List.map_nil, List.length_cons, List.length_nil, Option.getD_some, Option.getD_none, List.all_cons, List.all_nil, List.set_cons_zero, List.set_cons_succ, List.replicate_succ, List.replicate_zero, List.getElem?_cons_zero, List.getElem?_cons_succ, List.drop_succ_cons, List.drop_zero, List.take_succ_cons, List.take_zero, List.map_append, List.nil_append, List.cons_append, Nat.reduceShiftRight, Nat.reduceMod]
        (repeat (with_reducible refine And.intro ?_ ?_; focus (first | omega | (unfold I64; omega))))
        refine ⟨⟨f + 1, hfF, trivial⟩, by simp only; omega, ?_⟩
        refine weakX [] (of_decide_eq_true rfl) (of_decide_eq_true rfl) ?_
        (simp only [vcW, vcV, vcD, Int.reduceEq, Int.reduceNe, Int.reduceLT, Int.reduceLE, Nat.reduceEqDiff, Nat.reduceAdd, reduceIte, reduceCtorEq, Nat.reduceLT, Nat.reduceLeDiff, eq_self, Option.bind_some, Option.map_some, List.map_cons, List.map_nil, List.length_cons, List.length_nil, Option.getD_some, Option.getD_none, List.all_cons, List.all_nil, List.set_cons_zero, List.set_cons_succ, List.replicate_succ, List.replicate_zero, List.getElem?_cons_zero, List.getElem?_cons_succ, List.drop_succ_cons, List.drop_zero, List.take_succ_cons, List.take_zero, List.map_append, List.nil_append, List.cons_append, Nat.reduceShiftRight, Nat.reduceMod])
        (repeat' first | exact trivial | (with_reducible exact RnB.fxB (ints_fxB _)) | (with_reducible rfl) | (with_reducible refine And.intro ?_ ?_) | (with_reducible refine RnB.bb ?_; simp only [vcW, vcV, vcD, Int.reduceEq, Int.reduceNe, Int.reduceLT, Int.reduceLE, Nat.reduceEqDiff, Nat.reduceAdd, reduceIte, reduceCtorEq, Nat.reduceLT, Nat.reduceLeDiff, eq_self, Option.bind_some, Option.map_some, List.map_cons, List.map_nil, List.length_cons, List.length_nil, Option.getD_some, Option.getD_none, List.all_cons, List.all_nil, List.set_cons_zero, List.set_cons_succ, List.replicate_succ, List.replicate_zero, List.getElem?_cons_zero, List.getElem?_cons_succ, List.drop_succ_cons, List.drop_zero, List.take_succ_cons, List.take_zero, List.map_append, List.nil_append, List.cons_append, Nat.reduceShiftRight, Nat.reduceMod]) | (with_reducible refine RnB.nb ?_; simp only [vcW, vcV, vcD, Int.reduceEq, Int.reduceNe, Int.reduceLT, Int.reduceLE, Nat.reduceEqDiff, Nat.reduceAdd, reduceIte, reduceCtorEq, Nat.reduceLT, Nat.reduceLeDiff, eq_self, Option.bind_some, Option.map_some, List.map_cons, List.map_nil, List.length_cons, List.length_nil, Option.getD_some, Option.getD_none, List.all_cons, List.all_nil, List.set_cons_zero, List.set_cons_succ, List.replicate_succ, List.replicate_zero, List.getElem?_cons_zero, List.getElem?_cons_succ, List.drop_succ_cons, List.drop_zero, List.take_succ_cons, List.take_zero, List.map_append, List.nil_append, List.cons_append, Nat.reduceShiftRight, Nat.reduceMod]) | (with_reducible refine RnB.ii ?_) | (with_reducible refine RnB.app ?_) | (with_reducible refine RnB.fxB ?_; simp only [vcW, vcV, vcD, Int.reduceEq, Int.reduceNe, Int.reduceLT, Int.reduceLE, Nat.reduceEqDiff, Nat.reduceAdd, reduceIte, reduceCtorEq, Nat.reduceLT, Nat.reduceLeDiff, eq_self, Option.bind_some, Option.map_some, List.map_cons, List.map_nil, List.length_cons, List.length_nil, Option.getD_some, Option.getD_none, List.all_cons, List.all_nil, List.set_cons_zero, List.set_cons_succ, List.replicate_succ, List.replicate_zero, List.getElem?_cons_zero, List.getElem?_cons_succ, List.drop_succ_cons, List.drop_zero, List.take_succ_cons, List.take_zero, List.map_append, List.nil_append, List.cons_append, Nat.reduceShiftRight, Nat.reduceMod]) | omega)
      · have hfe : f = F := by omega
        cases hfe
        by_cases h4 : (F : Int) < 400
        · have hra := hraise F (by omega)
          rw [htop (by omega)] at hra
          simp only [h4, vcV, vcD, Int.reduceEq, Int.reduceNe, Int.reduceLT, Int.reduceLE, Nat.reduceEqDiff, Nat.reduceAdd, reduceIte, reduceCtorEq, Nat.reduceLT, Nat.reduceLeDiff, eq_self, Option.bind_some, Option.map_some, List.map_cons, List.map_nil, List.length_cons, List.length_nil, Option.getD_some, Option.getD_none, List.all_cons, List.all_nil, List.set_cons_zero, List.set_cons_succ, List.replicate_succ, List.replicate_zero, List.getElem?_cons_zero, List.getElem?_cons_succ, List.drop_succ_cons, List.drop_zero, List.take_succ_cons, List.take_zero, List.map_append, List.nil_append, List.cons_append, Nat.reduceShiftRight, Nat.reduceMod]
          refine callS_of hra ?_
          simp only [vcV, vcD, Int.reduceEq, Int.reduceNe, Int.reduceLT, Int.reduceLE, Nat.reduceEqDiff, Nat.reduceAdd, reduceIte, reduceCtorEq, Nat.reduceLT, Nat.reduceLeDiff, eq_self, Option.bind_some, Option.map_some, List.map_cons, List.map_nil, List.length_cons, List.length_nil, Option.getD_some, Option.getD_none, List.all_cons, List.all_nil, List.set_cons_zero, List.set_cons_succ, List.replicate_succ, List.replicate_zero, List.getElem?_cons_zero, List.getElem?_cons_succ, List.drop_succ_cons, List.drop_zero, List.take_succ_cons, List.take_zero, List.map_append, List.nil_append, List.cons_append, Nat.reduceShiftRight, Nat.reduceMod]
        · simp only [h4, vcV, vcD, Int.reduceEq, Int.reduceNe, Int.reduceLT, Int.reduceLE, Nat.reduceEqDiff, Nat.reduceAdd, reduceIte, reduceCtorEq, Nat.reduceLT, Nat.reduceLeDiff, eq_self, Option.bind_some, Option.map_some, List.map_cons, List.map_nil, List.length_cons, List.length_nil, Option.getD_some, Option.getD_none, List.all_cons, List.all_nil, List.set_cons_zero, List.set_cons_succ, List.replicate_succ, List.replicate_zero, List.getElem?_cons_zero, List.getElem?_cons_succ, List.drop_succ_cons, List.drop_zero, List.take_succ_cons, List.take_zero, List.map_append, List.nil_append, List.cons_append, Nat.reduceShiftRight, Nat.reduceMod]
    · subst hst
      have hz : sumTo (fun c => if (F : Int) ≤ dsum (binsL s w) c then 1 else 0) 0 = 0 := rfl
      simp only [h2, h3, h4, h8, h10, h11, h12, h13, vcV, vcD, Int.reduceEq, Int.reduceNe, Int.reduceLT, Int.reduceLE, Nat.reduceEqDiff, Nat.reduceAdd, reduceIte, reduceCtorEq, Nat.reduceLT, Nat.reduceLeDiff, eq_self, Option.bind_some, Option.map_some, List.map_cons, List.map_nil, List.length_cons, List.length_nil, Option.getD_some, Option.getD_none, List.all_cons, List.all_nil, List.set_cons_zero, List.set_cons_succ, List.replicate_succ, List.replicate_zero, List.getElem?_cons_zero, List.getElem?_cons_succ, List.drop_succ_cons, List.drop_zero, List.take_succ_cons, List.take_zero, List.map_append, List.nil_append, List.cons_append, Nat.reduceShiftRight, Nat.reduceMod]
      refine WL_loopX (t := .mk) (α := PSigma fun c : Nat => c ≤ N ∧ True) (fun x => (fun c : Nat => (envOf [(2, .int .i64 more), (3, .ptr 3 0 0), (4, .ptr 4 0 0), (8, .int .i64 N), (10, .ptr 10 0 0), (11, .int .i64 k), (12, .ptr 12 0 0), (13, .int .i64 F), (14, .int .i64 (sumTo (fun c => if (F : Int) ≤ dsum (binsL s w) c then 1 else 0) c)), (15, .int .i64 c)], stOf [(3, ⟨24, 1, [.agg [.sl (skyL s)]]⟩), (4, ⟨49, 4, [.agg [.int .i64 r.mean, .int .i64 r.spread, .int .i64 w, .int .i64 r.limit]]⟩), (10, ⟨25, 2, [.agg [.int .i64 x0, .int .i64 x1]]⟩), (12, ⟨49, 4, [.agg [.int .i64 r.mean, .int .i64 r.spread, .int .i64 w, .int .i64 L]]⟩)])) x.1) (fun x => N - x.1) ⟨0, Nat.zero_le _, trivial⟩ 6 (fun e' s' => s' = stOf [(3, ⟨24, 1, [.agg [.sl (skyL s)]]⟩), (4, ⟨49, 4, [.agg [.int .i64 r.mean, .int .i64 r.spread, .int .i64 w, .int .i64 r.limit]]⟩), (10, ⟨25, 2, [.agg [.int .i64 x0, .int .i64 x1]]⟩), (12, ⟨49, 4, [.agg [.int .i64 r.mean, .int .i64 r.spread, .int .i64 w, .int .i64 L]]⟩)] ∧ e' 2 = .int .i64 more ∧ e' 3 = .ptr 3 0 0 ∧ e' 4 = .ptr 4 0 0 ∧ e' 8 = .int .i64 N ∧ e' 10 = .ptr 10 0 0 ∧ e' 11 = .int .i64 k ∧ e' 13 = .int .i64 F ∧ e' 14 = .int .i64 (W k)) ?_ (fun ⟨c, hc, _⟩ => TF_b6 s r more L x0 x1 w N k F W hok hs3 h60 hw2 hw1 hN1.2 (rkF r k more) hrk hwk hrav hF hWk c hc) (fun e st ⟨hst, h2, h3, h4, h8, h10, h11, h13, h14⟩ => ?_)
      · refine weakX [] (of_decide_eq_true rfl) (of_decide_eq_true rfl) ?_
        (simp only [hz, h2, h3, h4, h8, h10, h11, h12, h13, vcW, vcV, vcD, Int.reduceEq, Int.reduceNe, Int.reduceLT, Int.reduceLE, Nat.reduceEqDiff, Nat.reduceAdd, reduceIte, reduceCtorEq, Nat.reduceLT, Nat.reduceLeDiff, eq_self, Option.bind_some, Option.map_some, List.map_cons, List.map_nil, List.length_cons, List.length_nil, Option.getD_some, Option.getD_none, List.all_cons, List.all_nil, List.set_cons_zero, List.set_cons_succ, List.replicate_succ, List.replicate_zero, List.getElem?_cons_zero, List.getElem?_cons_succ, List.drop_succ_cons, List.drop_zero, List.take_succ_cons, List.take_zero, List.map_append, List.nil_append, List.cons_append, Nat.reduceShiftRight, Nat.reduceMod])
        (repeat' first | exact trivial | (with_reducible exact RnB.fxB (ints_fxB _)) | (with_reducible rfl) | (with_reducible refine And.intro ?_ ?_) | (with_reducible refine RnB.bb ?_; simp only [vcW, vcV, vcD, Int.reduceEq, Int.reduceNe, Int.reduceLT, Int.reduceLE, Nat.reduceEqDiff, Nat.reduceAdd, reduceIte, reduceCtorEq, Nat.reduceLT, Nat.reduceLeDiff, eq_self, Option.bind_some, Option.map_some, List.map_cons, List.map_nil, List.length_cons, List.length_nil, Option.getD_some, Option.getD_none, List.all_cons, List.all_nil, List.set_cons_zero, List.set_cons_succ, List.replicate_succ, List.replicate_zero, List.getElem?_cons_zero, List.getElem?_cons_succ, List.drop_succ_cons, List.drop_zero, List.take_succ_cons, List.take_zero, List.map_append, List.nil_append, List.cons_append, Nat.reduceShiftRight, Nat.reduceMod]) | (with_reducible refine RnB.nb ?_; simp only [vcW, vcV, vcD, Int.reduceEq, Int.reduceNe, Int.reduceLT, Int.reduceLE, Nat.reduceEqDiff, Nat.reduceAdd, reduceIte, reduceCtorEq, Nat.reduceLT, Nat.reduceLeDiff, eq_self, Option.bind_some, Option.map_some, List.map_cons, List.map_nil, List.length_cons, List.length_nil, Option.getD_some, Option.getD_none, List.all_cons, List.all_nil, List.set_cons_zero, List.set_cons_succ, List.replicate_succ, List.replicate_zero, List.getElem?_cons_zero, List.getElem?_cons_succ, List.drop_succ_cons, List.drop_zero, List.take_succ_cons, List.take_zero, List.map_append, List.nil_append, List.cons_append, Nat.reduceShiftRight, Nat.reduceMod]) | (with_reducible refine RnB.ii ?_) | (with_reducible refine RnB.app ?_) | (with_reducible refine RnB.fxB ?_; simp only [vcW, vcV, vcD, Int.reduceEq, Int.reduceNe, Int.reduceLT, Int.reduceLE, Nat.reduceEqDiff, Nat.reduceAdd, reduceIte, reduceCtorEq, Nat.reduceLT, Nat.reduceLeDiff, eq_self, Option.bind_some, Option.map_some, List.map_cons, List.map_nil, List.length_cons, List.length_nil, Option.getD_some, Option.getD_none, List.all_cons, List.all_nil, List.set_cons_zero, List.set_cons_succ, List.replicate_succ, List.replicate_zero, List.getElem?_cons_zero, List.getElem?_cons_succ, List.drop_succ_cons, List.drop_zero, List.take_succ_cons, List.take_zero, List.map_append, List.nil_append, List.cons_append, Nat.reduceShiftRight, Nat.reduceMod]) | omega)
      · subst hst
        simp only [h2, h3, h4, h8, h10, h11, h13, h14, vcV, vcD, Int.reduceEq, Int.reduceNe, Int.reduceLT, Int.reduceLE, Nat.reduceEqDiff, Nat.reduceAdd, reduceIte, reduceCtorEq, Nat.reduceLT, Nat.reduceLeDiff, eq_self, Option.bind_some, Option.map_some, List.map_cons, List.map_nil, List.length_cons, List.length_nil, Option.getD_some, Option.getD_none, List.all_cons, List.all_nil, List.set_cons_zero, List.set_cons_succ, List.replicate_succ, List.replicate_zero, List.getElem?_cons_zero, List.getElem?_cons_succ, List.drop_succ_cons, List.drop_zero, List.take_succ_cons, List.take_zero, List.map_append, List.nil_append, List.cons_append, Nat.reduceShiftRight, Nat.reduceMod]
        refine callS_of hCS ?_
        simp only [skyA, h2, h3, h4, h8, h10, h11, h13, h14, vcV, vcD, Int.reduceEq, Int.reduceNe, Int.reduceLT, Int.reduceLE, Nat.reduceEqDiff, Nat.reduceAdd, reduceIte, reduceCtorEq, Nat.reduceLT, Nat.reduceLeDiff, eq_self, Option.bind_some, Option.map_some, List.map_cons, List.map_nil, List.length_cons, List.length_nil, Option.getD_some, Option.getD_none, List.all_cons, List.all_nil, List.set_cons_zero, List.set_cons_succ, List.replicate_succ, List.replicate_zero, List.getElem?_cons_zero, List.getElem?_cons_succ, List.drop_succ_cons, List.drop_zero, List.take_succ_cons, List.take_zero, List.map_append, List.nil_append, List.cons_append, Nat.reduceShiftRight, Nat.reduceMod]
        refine callS_of hWs ?_
        simp only [h2, h3, h4, h8, h10, h11, h13, h14, vcV, vcD, Int.reduceEq, Int.reduceNe, Int.reduceLT, Int.reduceLE, Nat.reduceEqDiff, Nat.reduceAdd, reduceIte, reduceCtorEq, Nat.reduceLT, Nat.reduceLeDiff, eq_self, Option.bind_some, Option.map_some, List.map_cons, List.map_nil, List.length_cons, List.length_nil, Option.getD_some, Option.getD_none, List.all_cons, List.all_nil, List.set_cons_zero, List.set_cons_succ, List.replicate_succ, List.replicate_zero, List.getElem?_cons_zero, List.getElem?_cons_succ, List.drop_succ_cons, List.drop_zero, List.take_succ_cons, List.take_zero, List.map_append, List.nil_append, List.cons_append, Nat.reduceShiftRight, Nat.reduceMod]
        refine callS_of hCS ?_
        simp only [skyA, h2, h3, h4, h8, h10, h11, h13, h14, vcV, vcD, Int.reduceEq, Int.reduceNe, Int.reduceLT, Int.reduceLE, Nat.reduceEqDiff, Nat.reduceAdd, reduceIte, reduceCtorEq, Nat.reduceLT, Nat.reduceLeDiff, eq_self, Option.bind_some, Option.map_some, List.map_cons, List.map_nil, List.length_cons, List.length_nil, Option.getD_some, Option.getD_none, List.all_cons, List.all_nil, List.set_cons_zero, List.set_cons_succ, List.replicate_succ, List.replicate_zero, List.getElem?_cons_zero, List.getElem?_cons_succ, List.drop_succ_cons, List.drop_zero, List.take_succ_cons, List.take_zero, List.map_append, List.nil_append, List.cons_append, Nat.reduceShiftRight, Nat.reduceMod]
        refine callS_of hFA ?_
        simp only [fracA, h2, h3, h4, h8, h10, h11, h13, h14, vcV, vcD, Int.reduceEq, Int.reduceNe, Int.reduceLT, Int.reduceLE, Nat.reduceEqDiff, Nat.reduceAdd, reduceIte, reduceCtorEq, Nat.reduceLT, Nat.reduceLeDiff, eq_self, Option.bind_some, Option.map_some, List.map_cons, List.map_nil, List.length_cons, List.length_nil, Option.getD_some, Option.getD_none, List.all_cons, List.all_nil, List.set_cons_zero, List.set_cons_succ, List.replicate_succ, List.replicate_zero, List.getElem?_cons_zero, List.getElem?_cons_succ, List.drop_succ_cons, List.drop_zero, List.take_succ_cons, List.take_zero, List.map_append, List.nil_append, List.cons_append, Nat.reduceShiftRight, Nat.reduceMod]
        refine callS_of hIS ?_
        simp only [hpart, h2, h3, h4, h8, h10, h11, h13, h14, vcV, vcD, Int.reduceEq, Int.reduceNe, Int.reduceLT, Int.reduceLE, Nat.reduceEqDiff, Nat.reduceAdd, reduceIte, reduceCtorEq, Nat.reduceLT, Nat.reduceLeDiff, eq_self, Option.bind_some, Option.map_some, List.map_cons, List.map_nil, List.length_cons, List.length_nil, Option.getD_some, Option.getD_none, List.all_cons, List.all_nil, List.set_cons_zero, List.set_cons_succ, List.replicate_succ, List.replicate_zero, List.getElem?_cons_zero, List.getElem?_cons_succ, List.drop_succ_cons, List.drop_zero, List.take_succ_cons, List.take_zero, List.map_append, List.nil_append, List.cons_append, Nat.reduceShiftRight, Nat.reduceMod]
        (repeat (with_reducible refine And.intro ?_ ?_; focus (first | omega | (unfold I64; omega))))
        have hseg : setSeg [AV.int IntKind.i64 x0, AV.int IntKind.i64 x1] (0 + k * 1) [AV.int IntKind.i64 (W k)] = [AV.int IntKind.i64 (if 0 < k + 1 then W 0 else 0), AV.int IntKind.i64 (if 1 < k + 1 then W 1 else 0)] := by
          rw [hx0, hx1]
          rcases (show k = 0 ∨ k = 1 by omega) with rfl | rfl <;> rfl
        rw [hseg]
        refine ⟨⟨k + 1, hk', trivial⟩, by simp only; omega, ?_⟩
        refine weakX [] (of_decide_eq_true rfl) (of_decide_eq_true rfl) ?_
        (simp only [h2, h3, h4, h8, h10, h11, h13, h14, vcW, vcV, vcD, Int.reduceEq, Int.reduceNe, Int.reduceLT, Int.reduceLE, Nat.reduceEqDiff, Nat.reduceAdd, reduceIte, reduceCtorEq, Nat.reduceLT, Nat.reduceLeDiff, eq_self, Option.bind_some, Option.map_some, List.map_cons, List.map_nil, List.length_cons, List.length_nil, Option.getD_some, Option.getD_none, List.all_cons, List.all_nil, List.set_cons_zero, List.set_cons_succ, List.replicate_succ, List.replicate_zero, List.getElem?_cons_zero, List.getElem?_cons_succ, List.drop_succ_cons, List.drop_zero, List.take_succ_cons, List.take_zero, List.map_append, List.nil_append, List.cons_append, Nat.reduceShiftRight, Nat.reduceMod])
        (repeat' first | exact trivial | (with_reducible exact RnB.fxB (ints_fxB _)) | (with_reducible rfl) | (with_reducible refine And.intro ?_ ?_) | (with_reducible refine RnB.bb ?_; simp only [vcW, vcV, vcD, Int.reduceEq, Int.reduceNe, Int.reduceLT, Int.reduceLE, Nat.reduceEqDiff, Nat.reduceAdd, reduceIte, reduceCtorEq, Nat.reduceLT, Nat.reduceLeDiff, eq_self, Option.bind_some, Option.map_some, List.map_cons, List.map_nil, List.length_cons, List.length_nil, Option.getD_some, Option.getD_none, List.all_cons, List.all_nil, List.set_cons_zero, List.set_cons_succ, List.replicate_succ, List.replicate_zero, List.getElem?_cons_zero, List.getElem?_cons_succ, List.drop_succ_cons, List.drop_zero, List.take_succ_cons, List.take_zero, List.map_append, List.nil_append, List.cons_append, Nat.reduceShiftRight, Nat.reduceMod]) | (with_reducible refine RnB.nb ?_; simp only [vcW, vcV, vcD, Int.reduceEq, Int.reduceNe, Int.reduceLT, Int.reduceLE, Nat.reduceEqDiff, Nat.reduceAdd, reduceIte, reduceCtorEq, Nat.reduceLT, Nat.reduceLeDiff, eq_self, Option.bind_some, Option.map_some, List.map_cons, List.map_nil, List.length_cons, List.length_nil, Option.getD_some, Option.getD_none, List.all_cons, List.all_nil, List.set_cons_zero, List.set_cons_succ, List.replicate_succ, List.replicate_zero, List.getElem?_cons_zero, List.getElem?_cons_succ, List.drop_succ_cons, List.drop_zero, List.take_succ_cons, List.take_zero, List.map_append, List.nil_append, List.cons_append, Nat.reduceShiftRight, Nat.reduceMod]) | (with_reducible refine RnB.ii ?_) | (with_reducible refine RnB.app ?_) | (with_reducible refine RnB.fxB ?_; simp only [vcW, vcV, vcD, Int.reduceEq, Int.reduceNe, Int.reduceLT, Int.reduceLE, Nat.reduceEqDiff, Nat.reduceAdd, reduceIte, reduceCtorEq, Nat.reduceLT, Nat.reduceLeDiff, eq_self, Option.bind_some, Option.map_some, List.map_cons, List.map_nil, List.length_cons, List.length_nil, Option.getD_some, Option.getD_none, List.all_cons, List.all_nil, List.set_cons_zero, List.set_cons_succ, List.replicate_succ, List.replicate_zero, List.getElem?_cons_zero, List.getElem?_cons_succ, List.drop_succ_cons, List.drop_zero, List.take_succ_cons, List.take_zero, List.map_append, List.nil_append, List.cons_append, Nat.reduceShiftRight, Nat.reduceMod]) | omega)
  · have hk2 : k = 2 := by (simp only [decide_eq_true_eq, decide_eq_false_iff_not, Bool.not_true, I64, Bool.not_eq_true', Bool.not_eq_false', bne_iff_ne, beq_iff_eq, ne_eq] at *; omega)
    cases hk2
    simp only [vcV, vcD, Int.reduceEq, Int.reduceNe, Int.reduceLT, Int.reduceLE, Nat.reduceEqDiff, Nat.reduceAdd, reduceIte, reduceCtorEq, Nat.reduceLT, Nat.reduceLeDiff, eq_self, Option.bind_some, Option.map_some, List.map_cons, List.map_nil, List.length_cons, List.length_nil, Option.getD_some, Option.getD_none, List.all_cons, List.all_nil, List.set_cons_zero, List.set_cons_succ, List.replicate_succ, List.replicate_zero, List.getElem?_cons_zero, List.getElem?_cons_succ, List.drop_succ_cons, List.drop_zero, List.take_succ_cons, List.take_zero, List.map_append, List.nil_append, List.cons_append, Nat.reduceShiftRight, Nat.reduceMod]

theorem alarm_limit {r : Rule} (hr : r.ok) {more : Int} (hm : 0 ≤ more ∧ more ≤ 100) (x : Int) (h : oneA (rkF r 1 more) x = true) : oneA (rkF r 0 more) x = true := by
  obtain ⟨hr1, hr2, hr3, hr4⟩ := hr
  unfold oneA at *
  simp only [decide_eq_true_eq] at *
  unfold isAlarm rkF at *
  simp only at *
  refine ⟨h.1, ?_⟩
  have h2 := h.2
  have e0 : min 1000 (r.limit + ((0 : Nat) : Int) * more) = r.limit := by simp; omega
  have e1 : r.limit ≤ min 1000 (r.limit + ((1 : Nat) : Int) * more) := by simp; omega
  rw [e0]
  generalize min 1000 (r.limit + ((1 : Nat) : Int) * more) = L at *
  have q1 : r.limit * r.limit ≤ L * L := Int.mul_le_mul e1 e1 (by omega) (by omega)
  have q2 : r.limit * r.limit * r.window ≤ L * L * r.window := Int.mul_le_mul_of_nonneg_right q1 (by omega)
  have q3 : r.limit * r.limit * r.window * r.spread ≤ L * L * r.window * r.spread := Int.mul_le_mul_of_nonneg_right q2 (by omega)
  omega
theorem drop_mono {v : List Int} (hv : ∀ x ∈ v, 0 ≤ x) {a b : Nat} (h : a ≤ b) : (v.drop b).sum ≤ (v.drop a).sum := by
  have := (drop_sum_bound (v := v.drop a) (fun x hx => hv x (List.mem_of_mem_drop hx)) (b - a)).2
  rw [List.drop_drop, show a + (b - a) = b by omega] at this
  exact this

set_option maxHeartbeats 8000000 in
theorem TF_4 (s : List (List Int)) (r : Rule) (more : Int) (hok : skyOk s) (hE : (skyE s).2 = 0) (hs3 : s.length ≤ 3) (hl3 : ∀ l ∈ s, l.length ≤ 3) (h60 : ∀ l ∈ s, ∀ c ∈ l, 0 ≤ c ∧ c ≤ 60) (hr : r.ok) (hw2 : r.window ≤ 2) (hm : 0 ≤ more ∧ more ≤ 100) :
    WL Try.prog 228 cl_top_TopWatchFalseAlarms_4 (endQ [(6, none)] (.bool true)) (envOf [(2, .int .i64 more), (3, .ptr 3 0 0), (4, .ptr 4 0 0)]) (stOf [(3, ⟨24, 1, [.agg [.sl (skyL s)]]⟩), (4, ⟨49, 4, [.agg [.int .i64 r.mean, .int .i64 r.spread, .int .i64 r.window, .int .i64 r.limit]]⟩)]) .mk := by
  obtain ⟨hr1, hr2, hr3, hr4⟩ := id hr
  obtain ⟨w, hwin⟩ : ∃ w : Nat, r.window = (w : Int) := ⟨r.window.toNat, by omega⟩
  rw [hwin]
  have hs1 : s.length < 4000000000000000000 := by omega
  have hl1 : ∀ l ∈ s, l.length < 4000000000000000000 := fun l hl => by have := hl3 l hl; omega
  have hCS := CopySky_s s (by omega) (fun l hl => by have := hl3 l hl; omega)
  have hbE : binsE w = 0 := by unfold binsE; rw [if_pos (by omega)]
  have hBE : skyBE s w = 0 := by unfold skyBE; rw [if_neg (by simpa using hE)]; exact hbE
  have hC := CasesOf_s s w hs1 hl1
  rw [if_pos hBE, hBE, show (w : Int).toNat = w from rfl, bTo_count hok.2 w] at hC
  obtain ⟨N, hN⟩ : ∃ N, N = dcnt (binsL s w) := ⟨_, rfl⟩
  have hb := dcnt_bound (binsL s w) fun l hl => ⟨(sensE_ok (hok.2 _ (binsL_mem hl))).1, hl3 _ (binsL_mem hl)⟩
  have hbl := binsL_length s w
  have hbl3 : w * s.length ≤ 2 * 3 := Nat.mul_le_mul (by omega) (by omega)
  have hpw : (3 : Nat) ^ (binsL s w).length ≤ 3 ^ 6 := Nat.pow_le_pow_right (by omega) (by omega)
  have hN1 : 1 ≤ N ∧ N ≤ 729 := by rw [hN]; exact ⟨hb.1, by have := hb.2; omega⟩
  obtain ⟨f1, f2, f3, f4⟩ := bTo_facts hok (show w ≤ 3 by omega)
  rw [← hN] at hC
  obtain ⟨W, hW⟩ : ∃ W : Nat → Int, W = fun k => ((bTo s w).drop (frF (rkF r k more))).sum := ⟨_, rfl⟩
  have hmono : W 1 ≤ W 0 := by rw [hW]; exact drop_mono f1 (frF_mono fun x h => alarm_limit hr hm x h)
  have hNw : 1 ≤ (N : Int) ∧ (N : Int) ≤ 729 := by omega
  have i0 : (0 + Int.toNat 0 * 1 : Nat) = 0 := rfl
  have i1 : (0 + Int.toNat 1 * 1 : Nat) = 1 := rfl
  have j0 : ((0 : Int) < ((2 : Nat) : Int)) = True := eq_true (by decide)
  have j1 : ((1 : Int) < ((2 : Nat) : Int)) = True := eq_true (by decide)
  have g0 : [AV.int IntKind.i64 (W 0), AV.int IntKind.i64 (W 1)][0]? = some (AV.int IntKind.i64 (W 0)) := rfl
  have g1 : [AV.int IntKind.i64 (W 0), AV.int IntKind.i64 (W 1)][1]? = some (AV.int IntKind.i64 (W 1)) := rfl
  simp only [cl_top_TopWatchFalseAlarms_4, vcV, vcD, Int.reduceEq, Int.reduceNe, Int.reduceLT, Int.reduceLE, Nat.reduceEqDiff, Nat.reduceAdd, reduceIte, reduceCtorEq, Nat.reduceLT, Nat.reduceLeDiff, eq_self, Option.bind_some, Option.map_some, List.map_cons, List.map_nil, List.length_cons, List.length_nil, Option.getD_some, Option.getD_none, List.all_cons, List.all_nil, List.set_cons_zero, List.set_cons_succ, List.replicate_succ, List.replicate_zero, List.getElem?_cons_zero, List.getElem?_cons_succ, List.drop_succ_cons, List.drop_zero, List.take_succ_cons, List.take_zero, List.map_append, List.nil_append, List.cons_append, Nat.reduceShiftRight, Nat.reduceMod]
  refine callS_of hCS ?_
  simp only [skyA, vcV, vcD, Int.reduceEq, Int.reduceNe, Int.reduceLT, Int.reduceLE, Nat.reduceEqDiff, Nat.reduceAdd, reduceIte, reduceCtorEq, Nat.reduceLT, Nat.reduceLeDiff, eq_self, Option.bind_some, Option.map_some, List.map_cons, List.map_nil, List.length_cons, List.length_nil, Option.getD_some, Option.getD_none, List.all_cons, List.all_nil, List.set_cons_zero, List.set_cons_succ, List.replicate_succ, List.replicate_zero, List.getElem?_cons_zero, List.getElem?_cons_succ, List.drop_succ_cons, List.drop_zero, List.take_succ_cons, List.take_zero, List.map_append, List.nil_append, List.cons_append, Nat.reduceShiftRight, Nat.reduceMod]
  refine callS_of hC ?_
  simp only [vcV, vcD, Int.reduceEq, Int.reduceNe, Int.reduceLT, Int.reduceLE, Nat.reduceEqDiff, Nat.reduceAdd, reduceIte, reduceCtorEq, Nat.reduceLT, Nat.reduceLeDiff, eq_self, Option.bind_some, Option.map_some, List.map_cons, List.map_nil, List.length_cons, List.length_nil, Option.getD_some, Option.getD_none, List.all_cons, List.all_nil, List.set_cons_zero, List.set_cons_succ, List.replicate_succ, List.replicate_zero, List.getElem?_cons_zero, List.getElem?_cons_succ, List.drop_succ_cons, List.drop_zero, List.take_succ_cons, List.take_zero, List.map_append, List.nil_append, List.cons_append, Nat.reduceShiftRight, Nat.reduceMod]
  refine callS_of (Within_s _ _ _) ?_
  simp only [hNw, vcV, vcD, Int.reduceEq, Int.reduceNe, Int.reduceLT, Int.reduceLE, Nat.reduceEqDiff, Nat.reduceAdd, reduceIte, reduceCtorEq, Nat.reduceLT, Nat.reduceLeDiff, eq_self, Option.bind_some, Option.map_some, List.map_cons, List.map_nil, List.length_cons, List.length_nil, Option.getD_some, Option.getD_none, List.all_cons, List.all_nil, List.set_cons_zero, List.set_cons_succ, List.replicate_succ, List.replicate_zero, List.getElem?_cons_zero, List.getElem?_cons_succ, List.drop_succ_cons, List.drop_zero, List.take_succ_cons, List.take_zero, List.map_append, List.nil_append, List.cons_append, Nat.reduceShiftRight, Nat.reduceMod]
  refine WL_cut ?_
  simp only [cl_top_TopWatchFalseAlarms_7, vcV, vcD, Int.reduceEq, Int.reduceNe, Int.reduceLT, Int.reduceLE, Nat.reduceEqDiff, Nat.reduceAdd, reduceIte, reduceCtorEq, Nat.reduceLT, Nat.reduceLeDiff, eq_self, Option.bind_some, Option.map_some, List.map_cons, List.map_nil, List.length_cons, List.length_nil, Option.getD_some, Option.getD_none, List.all_cons, List.all_nil, List.set_cons_zero, List.set_cons_succ, List.replicate_succ, List.replicate_zero, List.getElem?_cons_zero, List.getElem?_cons_succ, List.drop_succ_cons, List.drop_zero, List.take_succ_cons, List.take_zero, List.map_append, List.nil_append, List.cons_append, Nat.reduceShiftRight, Nat.reduceMod]
  refine WL_loopX (t := .mk) (α := PSigma fun k : Nat => k ≤ 2 ∧ True) (fun x => (fun k : Nat => (envOf [(2, .int .i64 more), (3, .ptr 3 0 0), (4, .ptr 4 0 0), (8, .int .i64 N), (10, .ptr 10 0 0), (11, .int .i64 k)], stOf [(3, ⟨24, 1, [.agg [.sl (skyL s)]]⟩), (4, ⟨49, 4, [.agg [.int .i64 r.mean, .int .i64 r.spread, .int .i64 w, .int .i64 r.limit]]⟩), (10, ⟨25, 2, [.agg [.int .i64 (if 0 < k then W 0 else 0), .int .i64 (if 1 < k then W 1 else 0)]]⟩)])) x.1) (fun x => 2 - x.1) ⟨0, Nat.zero_le _, trivial⟩ 2 (fun e' s' => e' 10 = .ptr 10 0 0 ∧ s' 10 = some (some ⟨25, 2, [.agg [.int .i64 (W 0), .int .i64 (W 1)]]⟩)) ?_ (fun ⟨k, hk, _⟩ => TF_b2 s r more w N hok hE hs3 hl3 h60 hr hwin (by omega) (by omega) hm hN hN1 W hW k hk) (fun e st ⟨h10, hst⟩ => ?_)
  · have q0 : (if 0 < 0 then W 0 else 0) = 0 := rfl
    have q1 : (if 1 < 0 then W 1 else 0) = 0 := rfl
    refine weakX [] (of_decide_eq_true rfl) (of_decide_eq_true rfl) ?_
    (simp only [q0, q1, vcW, vcV, vcD, Int.reduceEq, Int.reduceNe, Int.reduceLT, Int.reduceLE, Nat.reduceEqDiff, Nat.reduceAdd, reduceIte, reduceCtorEq, Nat.reduceLT, Nat.reduceLeDiff, eq_self, Option.bind_some, Option.map_some, List.map_cons, List.map_nil, List.length_cons, List.length_nil, Option.getD_some, Option.getD_none, List.all_cons, List.all_nil, List.set_cons_zero, List.set_cons_succ, List.replicate_succ, List.replicate_zero, List.getElem?_cons_zero, List.getElem?_cons_succ, List.drop_succ_cons, List.drop_zero, List.take_succ_cons, List.take_zero, List.map_append, List.nil_append, List.cons_append, Nat.reduceShiftRight, Nat.reduceMod])
    (repeat' first | exact trivial | (with_reducible exact RnB.fxB (ints_fxB _)) | (with_reducible rfl) | (with_reducible refine And.intro ?_ ?_) | (with_reducible refine RnB.bb ?_; simp only [vcW, vcV, vcD, Int.reduceEq, Int.reduceNe, Int.reduceLT, Int.reduceLE, Nat.reduceEqDiff, Nat.reduceAdd, reduceIte, reduceCtorEq, Nat.reduceLT, Nat.reduceLeDiff, eq_self, Option.bind_some, Option.map_some, List.map_cons, List.map_nil, List.length_cons, List.length_nil, Option.getD_some, Option.getD_none, List.all_cons, List.all_nil, List.set_cons_zero, List.set_cons_succ, List.replicate_succ, List.replicate_zero, List.getElem?_cons_zero, List.getElem?_cons_succ, List.drop_succ_cons, List.drop_zero, List.take_succ_cons, List.take_zero, List.map_append, List.nil_append, List.cons_append, Nat.reduceShiftRight, Nat.reduceMod]) | (with_reducible refine RnB.nb ?_; simp only [vcW, vcV, vcD, Int.reduceEq, Int.reduceNe, Int.reduceLT, Int.reduceLE, Nat.reduceEqDiff, Nat.reduceAdd, reduceIte, reduceCtorEq, Nat.reduceLT, Nat.reduceLeDiff, eq_self, Option.bind_some, Option.map_some, List.map_cons, List.map_nil, List.length_cons, List.length_nil, Option.getD_some, Option.getD_none, List.all_cons, List.all_nil, List.set_cons_zero, List.set_cons_succ, List.replicate_succ, List.replicate_zero, List.getElem?_cons_zero, List.getElem?_cons_succ, List.drop_succ_cons, List.drop_zero, List.take_succ_cons, List.take_zero, List.map_append, List.nil_append, List.cons_append, Nat.reduceShiftRight, Nat.reduceMod]) | (with_reducible refine RnB.ii ?_) | (with_reducible refine RnB.app ?_) | (with_reducible refine RnB.fxB ?_; simp only [vcW, vcV, vcD, Int.reduceEq, Int.reduceNe, Int.reduceLT, Int.reduceLE, Nat.reduceEqDiff, Nat.reduceAdd, reduceIte, reduceCtorEq, Nat.reduceLT, Nat.reduceLeDiff, eq_self, Option.bind_some, Option.map_some, List.map_cons, List.map_nil, List.length_cons, List.length_nil, Option.getD_some, Option.getD_none, List.all_cons, List.all_nil, List.set_cons_zero, List.set_cons_succ, List.replicate_succ, List.replicate_zero, List.getElem?_cons_zero, List.getElem?_cons_succ, List.drop_succ_cons, List.drop_zero, List.take_succ_cons, List.take_zero, List.map_append, List.nil_append, List.cons_append, Nat.reduceShiftRight, Nat.reduceMod]) | omega)
  · simp only [vcV, vcD, Int.reduceEq, Int.reduceNe, Int.reduceLT, Int.reduceLE, Nat.reduceEqDiff, Nat.reduceAdd, reduceIte, reduceCtorEq, Nat.reduceLT, Nat.reduceLeDiff, eq_self, Option.bind_some, Option.map_some, List.map_cons, List.map_nil, List.length_cons, List.length_nil, Option.getD_some, Option.getD_none, List.all_cons, List.all_nil, List.set_cons_zero, List.set_cons_succ, List.replicate_succ, List.replicate_zero, List.getElem?_cons_zero, List.getElem?_cons_succ, List.drop_succ_cons, List.drop_zero, List.take_succ_cons, List.take_zero, List.map_append, List.nil_append, List.cons_append, Nat.reduceShiftRight, Nat.reduceMod]
    refine WL_cut ?_
    simp only [cl_top_TopWatchFalseAlarms_8, h10, hst, i0, i1, j0, j1, g0, g1, hmono, vcV, vcD, Int.reduceEq, Int.reduceNe, Int.reduceLT, Int.reduceLE, Nat.reduceEqDiff, Nat.reduceAdd, reduceIte, reduceCtorEq, Nat.reduceLT, Nat.reduceLeDiff, eq_self, Option.bind_some, Option.map_some, List.map_cons, List.map_nil, List.length_cons, List.length_nil, Option.getD_some, Option.getD_none, List.all_cons, List.all_nil, List.set_cons_zero, List.set_cons_succ, List.replicate_succ, List.replicate_zero, List.getElem?_cons_zero, List.getElem?_cons_succ, List.drop_succ_cons, List.drop_zero, List.take_succ_cons, List.take_zero, List.map_append, List.nil_append, List.cons_append, Nat.reduceShiftRight, Nat.reduceMod]
end Go.Proofs.Ytaebfjepacnmhaa

/- The law TopWatchFalseAlarms: it answers true. By an AI agent; nothing here is trusted. -/
namespace Go.Proofs.Ytaebfjepacnmhaa
open Go.Av

theorem smallW_ok {s : List (List Int)} (h : smallW s = true) : s.length ≤ 4 ∧ (∀ l ∈ s, ∀ c ∈ l, 0 ≤ c ∧ c ≤ 60) ∧ (skyE s).2 = 0 := by
  unfold smallW at h
  simp only [Bool.and_eq_true, decide_eq_true_eq, List.all_eq_true] at h
  obtain ⟨⟨h1, h2⟩, h3⟩ := h
  exact ⟨h1, fun l hl c hc => (h2 l hl).2 c hc, h3⟩
set_option maxHeartbeats 8000000 in
theorem TF_3 (s : List (List Int)) (r : Rule) (more : Int) (hok : skyOk s) (hE : (skyE s).2 = 0) (hs3 : s.length ≤ 3) (h60 : ∀ l ∈ s, ∀ c ∈ l, 0 ≤ c ∧ c ≤ 60) (hr : r.ok) (hw2 : r.window ≤ 2) (hm : 0 ≤ more ∧ more ≤ 100) :
    WL Try.prog 228 cl_top_TopWatchFalseAlarms_3 (endQ [(6, none)] (.bool true)) (envOf [(2, .int .i64 more), (3, .ptr 3 0 0), (4, .ptr 4 0 0)]) (stOf [(3, ⟨24, 1, [.agg [.sl (skyL s)]]⟩), (4, ⟨49, 4, [.agg [.int .i64 r.mean, .int .i64 r.spread, .int .i64 r.window, .int .i64 r.limit]]⟩)]) .mk := by
  simp only [cl_top_TopWatchFalseAlarms_3, cl_top_TopWatchFalseAlarms_b0, vcV, vcD, Int.reduceEq, Int.reduceNe, Int.reduceLT, Int.reduceLE, Nat.reduceEqDiff, Nat.reduceAdd, reduceIte, reduceCtorEq, Nat.reduceLT, Nat.reduceLeDiff, eq_self, Option.bind_some, Option.map_some, List.map_cons, List.map_nil, List.length_cons, List.length_nil, Option.getD_some, Option.getD_none, List.all_cons, List.all_nil, List.set_cons_zero, List.set_cons_succ, List.replicate_succ, List.replicate_zero, List.getElem?_cons_zero, List.getElem?_cons_succ, List.drop_succ_cons, List.drop_zero, List.take_succ_cons, List.take_zero, List.map_append, List.nil_append, List.cons_append, Nat.reduceShiftRight, Nat.reduceMod]
  refine WL_loop (t := .mk) (α := PSigma fun i : Nat => i ≤ s.length ∧ ∀ l ∈ s.take i, l.length ≤ 3) (fun ⟨i, _⟩ => (envOf [(2, .int .i64 more), (3, .ptr 3 0 0), (4, .ptr 4 0 0), (7, .int .i64 i)], stOf [(3, ⟨24, 1, [.agg [.sl (skyL s)]]⟩), (4, ⟨49, 4, [.agg [.int .i64 r.mean, .int .i64 r.spread, .int .i64 r.window, .int .i64 r.limit]]⟩)])) (fun i => s.length - i.1) ⟨0, Nat.zero_le _, by simp⟩ ?_ (fun ⟨i, hi, hn⟩ => ?_)
  · refine weakX [] (of_decide_eq_true rfl) (of_decide_eq_true rfl) ?_
    (simp only [vcW, vcV, vcD, Int.reduceEq, Int.reduceNe, Int.reduceLT, Int.reduceLE, Nat.reduceEqDiff, Nat.reduceAdd, reduceIte, reduceCtorEq, Nat.reduceLT, Nat.reduceLeDiff, eq_self, Option.bind_some, Option.map_some, List.map_cons, List.map_nil, List.length_cons, List.length_nil, Option.getD_some, Option.getD_none, List.all_cons, List.all_nil, List.set_cons_zero, List.set_cons_succ, List.replicate_succ, List.replicate_zero, List.getElem?_cons_zero, List.getElem?_cons_succ, List.drop_succ_cons, List.drop_zero, List.take_succ_cons, List.take_zero, List.map_append, List.nil_append, List.cons_append, Nat.reduceShiftRight, Nat.reduceMod])
    (repeat' first | exact trivial | (with_reducible exact RnB.fxB (ints_fxB _)) | (with_reducible rfl) | (with_reducible refine And.intro ?_ ?_) | (with_reducible refine RnB.bb ?_; simp only [vcW, vcV, vcD, Int.reduceEq, Int.reduceNe, Int.reduceLT, Int.reduceLE, Nat.reduceEqDiff, Nat.reduceAdd, reduceIte, reduceCtorEq, Nat.reduceLT, Nat.reduceLeDiff, eq_self, Option.bind_some, Option.map_some, List.map_cons, List.map_nil, List.length_cons, List.length_nil, Option.getD_some, Option.getD_none, List.all_cons, List.all_nil, List.set_cons_zero, List.set_cons_succ, List.replicate_succ, List.replicate_zero, List.getElem?_cons_zero, List.getElem?_cons_succ, List.drop_succ_cons, List.drop_zero, List.take_succ_cons, List.take_zero, List.map_append, List.nil_append, List.cons_append, Nat.reduceShiftRight, Nat.reduceMod]) | (with_reducible refine RnB.nb ?_; simp only [vcW, vcV, vcD, Int.reduceEq, Int.reduceNe, Int.reduceLT, Int.reduceLE, Nat.reduceEqDiff, Nat.reduceAdd, reduceIte, reduceCtorEq, Nat.reduceLT, Nat.reduceLeDiff, eq_self, Option.bind_some, Option.map_some, List.map_cons, List.map_nil, List.length_cons, List.length_nil, Option.getD_some, Option.getD_none, List.all_cons, List.all_nil, List.set_cons_zero, List.set_cons_succ, List.replicate_succ, List.replicate_zero, List.getElem?_cons_zero, List.getElem?_cons_succ, List.drop_succ_cons, List.drop_zero, List.take_succ_cons, List.take_zero, List.map_append, List.nil_append, List.cons_append, Nat.reduceShiftRight, Nat.reduceMod]) | (with_reducible refine RnB.ii ?_) | (with_reducible refine RnB.app ?_) | (with_reducible refine RnB.fxB ?_; simp only [vcW, vcV, vcD, Int.reduceEq, Int.reduceNe, Int.reduceLT, Int.reduceLE, Nat.reduceEqDiff, Nat.reduceAdd, reduceIte, reduceCtorEq, Nat.reduceLT, Nat.reduceLeDiff, eq_self, Option.bind_some, Option.map_some, List.map_cons, List.map_nil, List.length_cons, List.length_nil, Option.getD_some, Option.getD_none, List.all_cons, List.all_nil, List.set_cons_zero, List.set_cons_succ, List.replicate_succ, List.replicate_zero, List.getElem?_cons_zero, List.getElem?_cons_succ, List.drop_succ_cons, List.drop_zero, List.take_succ_cons, List.take_zero, List.map_append, List.nil_append, List.cons_append, Nat.reduceShiftRight, Nat.reduceMod]) | omega)
  · simp only [skyL_length, vcV, vcD, Int.reduceEq, Int.reduceNe, Int.reduceLT, Int.reduceLE, Nat.reduceEqDiff, Nat.reduceAdd, reduceIte, reduceCtorEq, Nat.reduceLT, Nat.reduceLeDiff, eq_self, Option.bind_some, Option.map_some, List.map_cons, List.map_nil, List.length_cons, List.length_nil, Option.getD_some, Option.getD_none, List.all_cons, List.all_nil, List.set_cons_zero, List.set_cons_succ, List.replicate_succ, List.replicate_zero, List.getElem?_cons_zero, List.getElem?_cons_succ, List.drop_succ_cons, List.drop_zero, List.take_succ_cons, List.take_zero, List.map_append, List.nil_append, List.cons_append, Nat.reduceShiftRight, Nat.reduceMod]
    refine brB_split (fun h => ?_) (fun h => ?_)
    · have h' : i < s.length := by (simp only [decide_eq_true_eq, decide_eq_false_iff_not, Bool.not_true, I64, Bool.not_eq_true', Bool.not_eq_false', bne_iff_ne, beq_iff_eq, ne_eq] at *; omega)
      clear h
      have hg := skyL_get s i h'
      by_cases h3 : (3 : Int) < s[i].length
      · simp only [hg, ints_length, h3, vcV, vcD, Int.reduceEq, Int.reduceNe, Int.reduceLT, Int.reduceLE, Nat.reduceEqDiff, Nat.reduceAdd, reduceIte, reduceCtorEq, Nat.reduceLT, Nat.reduceLeDiff, eq_self, Option.bind_some, Option.map_some, List.map_cons, List.map_nil, List.length_cons, List.length_nil, Option.getD_some, Option.getD_none, List.all_cons, List.all_nil, List.set_cons_zero, List.set_cons_succ, List.replicate_succ, List.replicate_zero, List.getElem?_cons_zero, List.getElem?_cons_succ, List.drop_succ_cons, List.drop_zero, List.take_succ_cons, List.take_zero, List.map_append, List.nil_append, List.cons_append, Nat.reduceShiftRight, Nat.reduceMod]
        omega
      · simp only [hg, ints_length, h3, vcV, vcD, Int.reduceEq, Int.reduceNe, Int.reduceLT, Int.reduceLE, Nat.reduceEqDiff, Nat.reduceAdd, reduceIte, reduceCtorEq, Nat.reduceLT, Nat.reduceLeDiff, eq_self, Option.bind_some, Option.map_some, List.map_cons, List.map_nil, List.length_cons, List.length_nil, Option.getD_some, Option.getD_none, List.all_cons, List.all_nil, List.set_cons_zero, List.set_cons_succ, List.replicate_succ, List.replicate_zero, List.getElem?_cons_zero, List.getElem?_cons_succ, List.drop_succ_cons, List.drop_zero, List.take_succ_cons, List.take_zero, List.map_append, List.nil_append, List.cons_append, Nat.reduceShiftRight, Nat.reduceMod]
        (repeat (with_reducible refine And.intro ?_ ?_; focus (first | omega | (unfold I64; omega))))
        refine ⟨⟨i + 1, h', ?_⟩, by simp only; omega, ?_⟩
        · rw [List.take_succ_eq_append_getElem h']
          intro x hx
          rcases List.mem_append.1 hx with q | q
          · exact hn x q
          · simp at q; rw [q]; omega
        · refine weakX [] (of_decide_eq_true rfl) (of_decide_eq_true rfl) ?_
          (simp only [vcW, vcV, vcD, Int.reduceEq, Int.reduceNe, Int.reduceLT, Int.reduceLE, Nat.reduceEqDiff, Nat.reduceAdd, reduceIte, reduceCtorEq, Nat.reduceLT, Nat.reduceLeDiff, eq_self, Option.bind_some, Option.map_some, List.map_cons, List.map_nil, List.length_cons, List.length_nil, Option.getD_some, Option.getD_none, List.all_cons, List.all_nil, List.set_cons_zero, List.set_cons_succ, List.replicate_succ, List.replicate_zero, List.getElem?_cons_zero, List.getElem?_cons_succ, List.drop_succ_cons, List.drop_zero, List.take_succ_cons, List.take_zero, List.map_append, List.nil_append, List.cons_append, Nat.reduceShiftRight, Nat.reduceMod])
          (repeat' first | exact trivial | (with_reducible exact RnB.fxB (ints_fxB _)) | (with_reducible rfl) | (with_reducible refine And.intro ?_ ?_) | (with_reducible refine RnB.bb ?_; simp only [vcW, vcV, vcD, Int.reduceEq, Int.reduceNe, Int.reduceLT, Int.reduceLE, Nat.reduceEqDiff, Nat.reduceAdd, reduceIte, reduceCtorEq, Nat.reduceLT, Nat.reduceLeDiff, eq_self, Option.bind_some, Option.map_some, List.map_cons, List.map_nil, List.length_cons, List.length_nil, Option.getD_some, Option.getD_none, List.all_cons, List.all_nil, List.set_cons_zero, List.set_cons_succ, List.replicate_succ, List.replicate_zero, List.getElem?_cons_zero, List.getElem?_cons_succ, List.drop_succ_cons, List.drop_zero, List.take_succ_cons, List.take_zero, List.map_append, List.nil_append, List.cons_append, Nat.reduceShiftRight, Nat.reduceMod]) | (with_reducible refine RnB.nb ?_; simp only [vcW, vcV, vcD, Int.reduceEq, Int.reduceNe, Int.reduceLT, Int.reduceLE, Nat.reduceEqDiff, Nat.reduceAdd, reduceIte, reduceCtorEq, Nat.reduceLT, Nat.reduceLeDiff, eq_self, Option.bind_some, Option.map_some, List.map_cons, List.map_nil, List.length_cons, List.length_nil, Option.getD_some, Option.getD_none, List.all_cons, List.all_nil, List.set_cons_zero, List.set_cons_succ, List.replicate_succ, List.replicate_zero, List.getElem?_cons_zero, List.getElem?_cons_succ, List.drop_succ_cons, List.drop_zero, List.take_succ_cons, List.take_zero, List.map_append, List.nil_append, List.cons_append, Nat.reduceShiftRight, Nat.reduceMod]) | (with_reducible refine RnB.ii ?_) | (with_reducible refine RnB.app ?_) | (with_reducible refine RnB.fxB ?_; simp only [vcW, vcV, vcD, Int.reduceEq, Int.reduceNe, Int.reduceLT, Int.reduceLE, Nat.reduceEqDiff, Nat.reduceAdd, reduceIte, reduceCtorEq, Nat.reduceLT, Nat.reduceLeDiff, eq_self, Option.bind_some, Option.map_some, List.map_cons, List.map_nil, List.length_cons, List.length_nil, Option.getD_some, Option.getD_none, List.all_cons, List.all_nil, List.set_cons_zero, List.set_cons_succ, List.replicate_succ, List.replicate_zero, List.getElem?_cons_zero, List.getElem?_cons_succ, List.drop_succ_cons, List.drop_zero, List.take_succ_cons, List.take_zero, List.map_append, List.nil_append, List.cons_append, Nat.reduceShiftRight, Nat.reduceMod]) | omega)
    · have hi' : i = s.length := by (simp only [decide_eq_true_eq, decide_eq_false_iff_not, Bool.not_true, I64, Bool.not_eq_true', Bool.not_eq_false', bne_iff_ne, beq_iff_eq, ne_eq] at *; omega)
      cases hi'
      rw [List.take_length] at hn
      simp only [vcV, vcD, Int.reduceEq, Int.reduceNe, Int.reduceLT, Int.reduceLE, Nat.reduceEqDiff, Nat.reduceAdd, reduceIte, reduceCtorEq, Nat.reduceLT, Nat.reduceLeDiff, eq_self, Option.bind_some, Option.map_some, List.map_cons, List.map_nil, List.length_cons, List.length_nil, Option.getD_some, Option.getD_none, List.all_cons, List.all_nil, List.set_cons_zero, List.set_cons_succ, List.replicate_succ, List.replicate_zero, List.getElem?_cons_zero, List.getElem?_cons_succ, List.drop_succ_cons, List.drop_zero, List.take_succ_cons, List.take_zero, List.map_append, List.nil_append, List.cons_append, Nat.reduceShiftRight, Nat.reduceMod]
      refine WL_cutW (envOf [(2, .int .i64 more), (3, .ptr 3 0 0), (4, .ptr 4 0 0)], stOf [(3, ⟨24, 1, [.agg [.sl (skyL s)]]⟩), (4, ⟨49, 4, [.agg [.int .i64 r.mean, .int .i64 r.spread, .int .i64 r.window, .int .i64 r.limit]]⟩)]) rfl ?_ (TF_4 s r more hok hE hs3 hn h60 hr hw2 hm)
      refine weakX [] (of_decide_eq_true rfl) (of_decide_eq_true rfl) ?_
      (simp only [vcW, vcV, vcD, Int.reduceEq, Int.reduceNe, Int.reduceLT, Int.reduceLE, Nat.reduceEqDiff, Nat.reduceAdd, reduceIte, reduceCtorEq, Nat.reduceLT, Nat.reduceLeDiff, eq_self, Option.bind_some, Option.map_some, List.map_cons, List.map_nil, List.length_cons, List.length_nil, Option.getD_some, Option.getD_none, List.all_cons, List.all_nil, List.set_cons_zero, List.set_cons_succ, List.replicate_succ, List.replicate_zero, List.getElem?_cons_zero, List.getElem?_cons_succ, List.drop_succ_cons, List.drop_zero, List.take_succ_cons, List.take_zero, List.map_append, List.nil_append, List.cons_append, Nat.reduceShiftRight, Nat.reduceMod])
      (repeat' first | exact trivial | (with_reducible exact RnB.fxB (ints_fxB _)) | (with_reducible rfl) | (with_reducible refine And.intro ?_ ?_) | (with_reducible refine RnB.bb ?_; simp only [vcW, vcV, vcD, Int.reduceEq, Int.reduceNe, Int.reduceLT, Int.reduceLE, Nat.reduceEqDiff, Nat.reduceAdd, reduceIte, reduceCtorEq, Nat.reduceLT, Nat.reduceLeDiff, eq_self, Option.bind_some, Option.map_some, List.map_cons, List.map_nil, List.length_cons, List.length_nil, Option.getD_some, Option.getD_none, List.all_cons, List.all_nil, List.set_cons_zero, List.set_cons_succ, List.replicate_succ, List.replicate_zero, List.getElem?_cons_zero, List.getElem?_cons_succ, List.drop_succ_cons, List.drop_zero, List.take_succ_cons, List.take_zero, List.map_append, List.nil_append, List.cons_append, Nat.reduceShiftRight, Nat.reduceMod]) | (with_reducible refine RnB.nb ?_; simp only [vcW, vcV, vcD, Int.reduceEq, Int.reduceNe, Int.reduceLT, Int.reduceLE, Nat.reduceEqDiff, Nat.reduceAdd, reduceIte, reduceCtorEq, Nat.reduceLT, Nat.reduceLeDiff, eq_self, Option.bind_some, Option.map_some, List.map_cons, List.map_nil, List.length_cons, List.length_nil, Option.getD_some, Option.getD_none, List.all_cons, List.all_nil, List.set_cons_zero, List.set_cons_succ, List.replicate_succ, List.replicate_zero, List.getElem?_cons_zero, List.getElem?_cons_succ, List.drop_succ_cons, List.drop_zero, List.take_succ_cons, List.take_zero, List.map_append, List.nil_append, List.cons_append, Nat.reduceShiftRight, Nat.reduceMod]) | (with_reducible refine RnB.ii ?_) | (with_reducible refine RnB.app ?_) | (with_reducible refine RnB.fxB ?_; simp only [vcW, vcV, vcD, Int.reduceEq, Int.reduceNe, Int.reduceLT, Int.reduceLE, Nat.reduceEqDiff, Nat.reduceAdd, reduceIte, reduceCtorEq, Nat.reduceLT, Nat.reduceLeDiff, eq_self, Option.bind_some, Option.map_some, List.map_cons, List.map_nil, List.length_cons, List.length_nil, Option.getD_some, Option.getD_none, List.all_cons, List.all_nil, List.set_cons_zero, List.set_cons_succ, List.replicate_succ, List.replicate_zero, List.getElem?_cons_zero, List.getElem?_cons_succ, List.drop_succ_cons, List.drop_zero, List.take_succ_cons, List.take_zero, List.map_append, List.nil_append, List.cons_append, Nat.reduceShiftRight, Nat.reduceMod]) | omega)
set_option maxHeartbeats 8000000 in
theorem TopWatchFalseAlarms_s (s : List (List Int)) (r : Rule) (more : Int) : Sound Try.prog 11 [skyA s, r.av, .int .i64 more] (.bool true) := by
  refine sound_WL f_top_TopWatchFalseAlarms e_top_TopWatchFalseAlarms (Nat.le_of_ble_eq_true rfl) ?_
  simp only [cl_top_TopWatchFalseAlarms, skyA, Rule.av, vcV, vcD, Int.reduceEq, Int.reduceNe, Int.reduceLT, Int.reduceLE, Nat.reduceEqDiff, Nat.reduceAdd, reduceIte, reduceCtorEq, Nat.reduceLT, Nat.reduceLeDiff, eq_self, Option.bind_some, Option.map_some, List.map_cons, List.map_nil, List.length_cons, List.length_nil, Option.getD_some, Option.getD_none, List.all_cons, List.all_nil, List.set_cons_zero, List.set_cons_succ, List.replicate_succ, List.replicate_zero, List.getElem?_cons_zero, List.getElem?_cons_succ, List.drop_succ_cons, List.drop_zero, List.take_succ_cons, List.take_zero, List.map_append, List.nil_append, List.cons_append, Nat.reduceShiftRight, Nat.reduceMod]
  refine callS_of watchAwake_s ?_
  simp only [vcV, vcD, Int.reduceEq, Int.reduceNe, Int.reduceLT, Int.reduceLE, Nat.reduceEqDiff, Nat.reduceAdd, reduceIte, reduceCtorEq, Nat.reduceLT, Nat.reduceLeDiff, eq_self, Option.bind_some, Option.map_some, List.map_cons, List.map_nil, List.length_cons, List.length_nil, Option.getD_some, Option.getD_none, List.all_cons, List.all_nil, List.set_cons_zero, List.set_cons_succ, List.replicate_succ, List.replicate_zero, List.getElem?_cons_zero, List.getElem?_cons_succ, List.drop_succ_cons, List.drop_zero, List.take_succ_cons, List.take_zero, List.map_append, List.nil_append, List.cons_append, Nat.reduceShiftRight, Nat.reduceMod]
  refine callS_of (watchSmall_s s) ?_
  by_cases hS : smallW s = true
  case neg =>
    have hS' : smallW s = false := by simpa using hS
    simp only [hS', vcV, vcD, Int.reduceEq, Int.reduceNe, Int.reduceLT, Int.reduceLE, Nat.reduceEqDiff, Nat.reduceAdd, reduceIte, reduceCtorEq, Nat.reduceLT, Nat.reduceLeDiff, eq_self, Option.bind_some, Option.map_some, List.map_cons, List.map_nil, List.length_cons, List.length_nil, Option.getD_some, Option.getD_none, List.all_cons, List.all_nil, List.set_cons_zero, List.set_cons_succ, List.replicate_succ, List.replicate_zero, List.getElem?_cons_zero, List.getElem?_cons_succ, List.drop_succ_cons, List.drop_zero, List.take_succ_cons, List.take_zero, List.map_append, List.nil_append, List.cons_append, Nat.reduceShiftRight, Nat.reduceMod]
  obtain ⟨h4, h60, hE⟩ := smallW_ok hS
  have hok := skyE_ok hE
  by_cases h3 : (3 : Int) < s.length
  · simp only [hS, skyL_length, h3, vcV, vcD, Int.reduceEq, Int.reduceNe, Int.reduceLT, Int.reduceLE, Nat.reduceEqDiff, Nat.reduceAdd, reduceIte, reduceCtorEq, Nat.reduceLT, Nat.reduceLeDiff, eq_self, Option.bind_some, Option.map_some, List.map_cons, List.map_nil, List.length_cons, List.length_nil, Option.getD_some, Option.getD_none, List.all_cons, List.all_nil, List.set_cons_zero, List.set_cons_succ, List.replicate_succ, List.replicate_zero, List.getElem?_cons_zero, List.getElem?_cons_succ, List.drop_succ_cons, List.drop_zero, List.take_succ_cons, List.take_zero, List.map_append, List.nil_append, List.cons_append, Nat.reduceShiftRight, Nat.reduceMod]
  simp only [hS, skyL_length, h3, vcV, vcD, Int.reduceEq, Int.reduceNe, Int.reduceLT, Int.reduceLE, Nat.reduceEqDiff, Nat.reduceAdd, reduceIte, reduceCtorEq, Nat.reduceLT, Nat.reduceLeDiff, eq_self, Option.bind_some, Option.map_some, List.map_cons, List.map_nil, List.length_cons, List.length_nil, Option.getD_some, Option.getD_none, List.all_cons, List.all_nil, List.set_cons_zero, List.set_cons_succ, List.replicate_succ, List.replicate_zero, List.getElem?_cons_zero, List.getElem?_cons_succ, List.drop_succ_cons, List.drop_zero, List.take_succ_cons, List.take_zero, List.map_append, List.nil_append, List.cons_append, Nat.reduceShiftRight, Nat.reduceMod]
  refine callS_of (RuleErr_s r) ?_
  by_cases hR : ruleE r = 0
  case neg => simp only [hR, vcV, vcD, Int.reduceEq, Int.reduceNe, Int.reduceLT, Int.reduceLE, Nat.reduceEqDiff, Nat.reduceAdd, reduceIte, reduceCtorEq, Nat.reduceLT, Nat.reduceLeDiff, eq_self, Option.bind_some, Option.map_some, List.map_cons, List.map_nil, List.length_cons, List.length_nil, Option.getD_some, Option.getD_none, List.all_cons, List.all_nil, List.set_cons_zero, List.set_cons_succ, List.replicate_succ, List.replicate_zero, List.getElem?_cons_zero, List.getElem?_cons_succ, List.drop_succ_cons, List.drop_zero, List.take_succ_cons, List.take_zero, List.map_append, List.nil_append, List.cons_append, Nat.reduceShiftRight, Nat.reduceMod]
  have hr := ruleE_ok hR
  by_cases hw : (2 : Int) < r.window
  · simp only [hR, hw, vcV, vcD, Int.reduceEq, Int.reduceNe, Int.reduceLT, Int.reduceLE, Nat.reduceEqDiff, Nat.reduceAdd, reduceIte, reduceCtorEq, Nat.reduceLT, Nat.reduceLeDiff, eq_self, Option.bind_some, Option.map_some, List.map_cons, List.map_nil, List.length_cons, List.length_nil, Option.getD_some, Option.getD_none, List.all_cons, List.all_nil, List.set_cons_zero, List.set_cons_succ, List.replicate_succ, List.replicate_zero, List.getElem?_cons_zero, List.getElem?_cons_succ, List.drop_succ_cons, List.drop_zero, List.take_succ_cons, List.take_zero, List.map_append, List.nil_append, List.cons_append, Nat.reduceShiftRight, Nat.reduceMod]
  by_cases hme : (200 : Int) < r.mean
  · simp only [hR, hw, hme, vcV, vcD, Int.reduceEq, Int.reduceNe, Int.reduceLT, Int.reduceLE, Nat.reduceEqDiff, Nat.reduceAdd, reduceIte, reduceCtorEq, Nat.reduceLT, Nat.reduceLeDiff, eq_self, Option.bind_some, Option.map_some, List.map_cons, List.map_nil, List.length_cons, List.length_nil, Option.getD_some, Option.getD_none, List.all_cons, List.all_nil, List.set_cons_zero, List.set_cons_succ, List.replicate_succ, List.replicate_zero, List.getElem?_cons_zero, List.getElem?_cons_succ, List.drop_succ_cons, List.drop_zero, List.take_succ_cons, List.take_zero, List.map_append, List.nil_append, List.cons_append, Nat.reduceShiftRight, Nat.reduceMod]
  simp only [hR, hw, hme, vcV, vcD, Int.reduceEq, Int.reduceNe, Int.reduceLT, Int.reduceLE, Nat.reduceEqDiff, Nat.reduceAdd, reduceIte, reduceCtorEq, Nat.reduceLT, Nat.reduceLeDiff, eq_self, Option.bind_some, Option.map_some, List.map_cons, List.map_nil, List.length_cons, List.length_nil, Option.getD_some, Option.getD_none, List.all_cons, List.all_nil, List.set_cons_zero, List.set_cons_succ, List.replicate_succ, List.replicate_zero, List.getElem?_cons_zero, List.getElem?_cons_succ, List.drop_succ_cons, List.drop_zero, List.take_succ_cons, List.take_zero, List.map_append, List.nil_append, List.cons_append, Nat.reduceShiftRight, Nat.reduceMod]
  refine callS_of (Within_s _ _ _) ?_
  by_cases hm : 0 ≤ more ∧ more ≤ 100
  case neg => simp only [hm, vcV, vcD, Int.reduceEq, Int.reduceNe, Int.reduceLT, Int.reduceLE, Nat.reduceEqDiff, Nat.reduceAdd, reduceIte, reduceCtorEq, Nat.reduceLT, Nat.reduceLeDiff, eq_self, Option.bind_some, Option.map_some, List.map_cons, List.map_nil, List.length_cons, List.length_nil, Option.getD_some, Option.getD_none, List.all_cons, List.all_nil, List.set_cons_zero, List.set_cons_succ, List.replicate_succ, List.replicate_zero, List.getElem?_cons_zero, List.getElem?_cons_succ, List.drop_succ_cons, List.drop_zero, List.take_succ_cons, List.take_zero, List.map_append, List.nil_append, List.cons_append, Nat.reduceShiftRight, Nat.reduceMod]
  simp only [hm, vcV, vcD, Int.reduceEq, Int.reduceNe, Int.reduceLT, Int.reduceLE, Nat.reduceEqDiff, Nat.reduceAdd, reduceIte, reduceCtorEq, Nat.reduceLT, Nat.reduceLeDiff, eq_self, Option.bind_some, Option.map_some, List.map_cons, List.map_nil, List.length_cons, List.length_nil, Option.getD_some, Option.getD_none, List.all_cons, List.all_nil, List.set_cons_zero, List.set_cons_succ, List.replicate_succ, List.replicate_zero, List.getElem?_cons_zero, List.getElem?_cons_succ, List.drop_succ_cons, List.drop_zero, List.take_succ_cons, List.take_zero, List.map_append, List.nil_append, List.cons_append, Nat.reduceShiftRight, Nat.reduceMod]
  refine WL_cutW (envOf [(2, .int .i64 more), (3, .ptr 3 0 0), (4, .ptr 4 0 0)], stOf [(3, ⟨24, 1, [.agg [.sl (skyL s)]]⟩), (4, ⟨49, 4, [.agg [.int .i64 r.mean, .int .i64 r.spread, .int .i64 r.window, .int .i64 r.limit]]⟩)]) rfl ?_ (TF_3 s r more hok hE (by omega) h60 hr (by omega) hm)
  refine weakX [] (of_decide_eq_true rfl) (of_decide_eq_true rfl) ?_
  (simp only [vcW, vcV, vcD, Int.reduceEq, Int.reduceNe, Int.reduceLT, Int.reduceLE, Nat.reduceEqDiff, Nat.reduceAdd, reduceIte, reduceCtorEq, Nat.reduceLT, Nat.reduceLeDiff, eq_self, Option.bind_some, Option.map_some, List.map_cons, List.map_nil, List.length_cons, List.length_nil, Option.getD_some, Option.getD_none, List.all_cons, List.all_nil, List.set_cons_zero, List.set_cons_succ, List.replicate_succ, List.replicate_zero, List.getElem?_cons_zero, List.getElem?_cons_succ, List.drop_succ_cons, List.drop_zero, List.take_succ_cons, List.take_zero, List.map_append, List.nil_append, List.cons_append, Nat.reduceShiftRight, Nat.reduceMod])
  (repeat' first | exact trivial | (with_reducible exact RnB.fxB (ints_fxB _)) | (with_reducible rfl) | (with_reducible refine And.intro ?_ ?_) | (with_reducible refine RnB.bb ?_; simp only [vcW, vcV, vcD, Int.reduceEq, Int.reduceNe, Int.reduceLT, Int.reduceLE, Nat.reduceEqDiff, Nat.reduceAdd, reduceIte, reduceCtorEq, Nat.reduceLT, Nat.reduceLeDiff, eq_self, Option.bind_some, Option.map_some, List.map_cons, List.map_nil, List.length_cons, List.length_nil, Option.getD_some, Option.getD_none, List.all_cons, List.all_nil, List.set_cons_zero, List.set_cons_succ, List.replicate_succ, List.replicate_zero, List.getElem?_cons_zero, List.getElem?_cons_succ, List.drop_succ_cons, List.drop_zero, List.take_succ_cons, List.take_zero, List.map_append, List.nil_append, List.cons_append, Nat.reduceShiftRight, Nat.reduceMod]) | (with_reducible refine RnB.nb ?_; simp only [vcW, vcV, vcD, Int.reduceEq, Int.reduceNe, Int.reduceLT, Int.reduceLE, Nat.reduceEqDiff, Nat.reduceAdd, reduceIte, reduceCtorEq, Nat.reduceLT, Nat.reduceLeDiff, eq_self, Option.bind_some, Option.map_some, List.map_cons, List.map_nil, List.length_cons, List.length_nil, Option.getD_some, Option.getD_none, List.all_cons, List.all_nil, List.set_cons_zero, List.set_cons_succ, List.replicate_succ, List.replicate_zero, List.getElem?_cons_zero, List.getElem?_cons_succ, List.drop_succ_cons, List.drop_zero, List.take_succ_cons, List.take_zero, List.map_append, List.nil_append, List.cons_append, Nat.reduceShiftRight, Nat.reduceMod]) | (with_reducible refine RnB.ii ?_) | (with_reducible refine RnB.app ?_) | (with_reducible refine RnB.fxB ?_; simp only [vcW, vcV, vcD, Int.reduceEq, Int.reduceNe, Int.reduceLT, Int.reduceLE, Nat.reduceEqDiff, Nat.reduceAdd, reduceIte, reduceCtorEq, Nat.reduceLT, Nat.reduceLeDiff, eq_self, Option.bind_some, Option.map_some, List.map_cons, List.map_nil, List.length_cons, List.length_nil, Option.getD_some, Option.getD_none, List.all_cons, List.all_nil, List.set_cons_zero, List.set_cons_succ, List.replicate_succ, List.replicate_zero, List.getElem?_cons_zero, List.getElem?_cons_succ, List.drop_succ_cons, List.drop_zero, List.take_succ_cons, List.take_zero, List.map_append, List.nil_append, List.cons_append, Nat.reduceShiftRight, Nat.reduceMod]) | omega)
end Go.Proofs.Ytaebfjepacnmhaa

