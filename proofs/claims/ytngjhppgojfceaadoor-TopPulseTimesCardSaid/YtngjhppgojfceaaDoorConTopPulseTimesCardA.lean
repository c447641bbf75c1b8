/- The tables of the library, as the rows say that they lie: what the layer wants of them. By an AI agent; nothing here is trusted. -/
import Derived.Test.YtngjhppgojfceaaDoorRows
import Derived.Test.YtngjhppgojfceaaDoorLayC
import Derived.Test.YtngjhppgojfceaaDoorKode
import Derived.ProofKit
import Derived.LaidMore
import Derived.OpenShut
import Derived.Stop.Joined
import Derived.Shelf.Slices.Clone
import Derived.Shelf.Spec.BitsCarry
set_option linter.defProp false
set_option linter.unusedSimpArgs false
set_option linter.unusedVariables false
namespace Go.Proofs.YtngjhppgojfceaaDoor
open Go.ChangeShapes Go.WideShapes Go.ChangeAt Go.RowKit
open Go.Av

def laidP : List (String × DataW Unit) := [("math/bits.deBruijn32tab", Rows.laid_math_bits_deBruijn32tab), ("math/bits.deBruijn64tab", Rows.laid_math_bits_deBruijn64tab)]

theorem ownKn : ownKnob Tryd.prog.godebug = none := by kernel_rfl
set_option maxRecDepth 100000 in
/-- The door's own heap meets the condition. -/
theorem door_met (os : Os) (args : Array Value) : laidMetH Tryd.prog laidP ((World.doorLaid Tryd.prog 2000 os).forCall (fun _ _ => 0) ⟨#[], args, []⟩).memory :=
  laidMetH_of_parts3 (fuel := 8) (laidMet_of_run' 8 (by kernel_rfl) (by kernel_rfl)) (by kernel_rfl) (by kernel_rfl)

/-- A table that reads so holds so. -/
theorem tab_cells {W : World} {g : Nat} {name : String} {t e : TypeId} {n f : Nat} {k : IntKind} {cs : Array Value} {ns : List Int} {p : List MemPlace} {H : Type} {enc : TypeId × Value → H} {sp : Nat → Bool} {held : Bool} (hg : Tryd.prog.globalNamed name = some g)
    (hv : W.var? Tryd.prog name = some cs) (ht : Tryd.prog.underlying t = some (.array n e)) (he : Tryd.prog.underlying e = some (.int k)) (hc : Tryd.prog.cellsOf e = 1) (hn : ns.length = n) (hpos : 0 < n)
    (hd : DataW.trod enc Tryd.prog W 0 sp held f t cs.toList = some (.agg (ns.map fun m => .lit (.int k m)), p)) :
    g < W.heap.size ∧ ∃ cur ty fr, W.heap[g]? = some (.cells cur ty fr) ∧ ∀ (j : Nat) (m : Int), ns[j]? = some m → cur[j]? = some (.int k m) := by
  obtain ⟨xs, m1, rfl, hx1, _, hlen, hel⟩ := DataW.trod_array ht hd
  simp only [Prod.mk.injEq, DataW.agg.injEq] at hx1
  have key : ∀ (j : Nat) (m : Int), ns[j]? = some m → cs[j]? = some (.int k m) := by
    intro j m hj
    have hjn : j < n := by rw [← hn]; exact (List.getElem?_eq_some_iff.1 hj).1
    have h1 := hel j hjn
    rw [hc, Nat.mul_one] at h1
    obtain ⟨x, hx⟩ : ∃ x, xs[j]? = some x := ⟨xs[j]'(by omega), List.getElem?_eq_getElem (by omega)⟩
    rw [hx] at h1
    obtain ⟨q, e1, e2, _⟩ := DataW.trod_int he h1
    have h2 : (xs.map (·.1))[j]? = some (.lit (.int k q)) := by rw [List.getElem?_map, hx, e2]; rfl
    rw [← hx1.1, List.getElem?_map, hj] at h2
    simp only [Option.map_some, Option.some.injEq, DataW.lit.injEq, Lit.int.injEq, true_and] at h2
    subst h2
    have h3 : ((cs.toList.drop j).take 1)[0]? = some (.int k m) := by rw [e1]; rfl
    rw [List.getElem?_take, if_pos (by omega), List.getElem?_drop] at h3
    simpa using h3
  have h0 : ∃ m, ns[0]? = some m := ⟨ns[0]'(by omega), List.getElem?_eq_getElem (by omega)⟩
  obtain ⟨m0, hm0⟩ := h0
  have hcell := World.var?_cell hg hv
  have hb : ∃ cur ty fr, W.heap[g]? = some (.cells cur ty fr) := by
    have := (hcell 0).trans (key 0 m0 hm0)
    unfold World.cell? at this
    split at this
    · rename_i cur ty fr hb; exact ⟨cur, ty, fr, hb⟩
    · cases this
  obtain ⟨cur, ty, fr, hb⟩ := hb
  refine ⟨(Array.getElem?_eq_some_iff.1 hb).1, cur, ty, fr, hb, fun j m hj => ?_⟩
  have := (hcell j).trans (key j m hj)
  unfold World.cell? at this
  rw [hb] at this
  simpa using this

theorem g32 : Tryd.prog.globalNamed "math/bits.deBruijn32tab" = some 0 := by kernel_rfl
theorem g64 : Tryd.prog.globalNamed "math/bits.deBruijn64tab" = some 1 := by kernel_rfl

/-- What the condition gives. -/
theorem of_laid {W : World} (h : laidMetH Tryd.prog laidP W) : GOk (fun b => b < W.heap.size) W := by
  rw [MakeChecks.laidMetH_plain _ _ _ (by kernel_rfl)] at h
  obtain ⟨ps, ⟨n0, t0, cs0, f0, p0, q0, hn0, ht0, hv0, hd0, ⟨n1, t1, cs1, f1, p1, q1, hn1, ht1, hv1, hd1, _⟩, _⟩, _⟩ := h
  obtain rfl := Option.some.inj (g32.symm.trans hn0)
  obtain rfl := Option.some.inj (g64.symm.trans hn1)
  obtain rfl := Option.some.inj ((show (Tryd.prog.globals[0]?).map (·.type) = some 171 by kernel_rfl).symm.trans ht0)
  obtain rfl := Option.some.inj ((show (Tryd.prog.globals[1]?).map (·.type) = some 172 by kernel_rfl).symm.trans ht1)
  have c0 := tab_cells (ns := [0, 1, 28, 2, 29, 14, 24, 3, 30, 22, 20, 15, 25, 17, 4, 8, 31, 27, 13, 23, 21, 19, 16, 7, 26, 12, 18, 6, 11, 5, 10, 9]) hn0 hv0 Tryd.underlying171 Tryd.underlying5 (by kernel_rfl) rfl (by decide) hd0
  have c1 := tab_cells (ns := [0, 1, 56, 2, 57, 49, 28, 3, 61, 58, 42, 50, 38, 29, 17, 4, 62, 47, 59, 36, 45, 43, 51, 22, 53, 39, 33, 30, 24, 18, 12, 5, 63, 55, 48, 27, 60, 41, 37, 16, 46, 35, 44, 21, 52, 32, 23, 11, 54, 26, 40, 15, 34, 20, 31, 10, 25, 14, 19, 9, 13, 8, 7, 6]) hn1 hv1 Tryd.underlying172 Tryd.underlying5 (by kernel_rfl) rfl (by decide) hd1
  intro p hp
  simp only [gTab, List.nil_append, List.mem_append, List.mem_singleton] at hp
  rcases hp with rfl | rfl
  · exact c1
  · exact c0
end Go.Proofs.YtngjhppgojfceaaDoor

/- Contracts of small functions. By an AI agent; nothing here is trusted. -/
namespace Go.Proofs.YtngjhppgojfceaaDoor
open Go.Av

abbrev i64 (n : Int) : AV := .int .i64 n
def prs (l : List (Int × Int)) : List AV := l.map fun p => .agg [.int .i64 p.1, .int .i64 p.2]
theorem prs_length (l : List (Int × Int)) : (prs l).length = l.length := by simp [prs]
theorem prs_get (l : List (Int × Int)) (i : Nat) (h : i < l.length) : (prs l)[i]? = some (.agg [.int .i64 l[i].1, .int .i64 l[i].2]) := by
  simp [prs, h]
theorem prs_fx (l : List (Int × Int)) : ∀ x ∈ prs l, fx x = true := by
  intro x hx
  obtain ⟨n, _, rfl⟩ := List.mem_map.1 hx
  rfl

theorem within_s (n lo hi : Int) : Sound Tryd.prog 38 [.int .i64 n, .int .i64 lo, .int .i64 hi] (.bool (decide (lo ≤ n ∧ n ≤ hi))) := by
  refine sound_W f_pulse_within (Nat.le_of_ble_eq_true rfl) ?_
  simp only [c_pulse_within, vcC, Int.reduceEq, Int.reduceNe, Int.reduceLT, Int.reduceLE, Nat.reduceEqDiff, Nat.reduceAdd, reduceIte, reduceCtorEq, Nat.reduceLT, Nat.reduceLeDiff, eq_self, Option.bind_some, Option.map_some, List.map_cons, List.map_nil, List.length_cons, List.length_nil, Option.getD_some, Option.getD_none, List.all_cons, List.all_nil, List.set_cons_zero, List.set_cons_succ, List.replicate_succ, List.replicate_zero, List.getElem?_cons_zero, List.getElem?_cons_succ, List.drop_succ_cons, List.drop_zero, List.take_succ_cons, List.take_zero]
  refine brB_split (fun h => ?_) (fun h => ?_) <;> simp only [h, vcC, Int.reduceEq, Int.reduceNe, Int.reduceLT, Int.reduceLE, Nat.reduceEqDiff, Nat.reduceAdd, reduceIte, reduceCtorEq, Nat.reduceLT, Nat.reduceLeDiff, eq_self, Option.bind_some, Option.map_some, List.map_cons, List.map_nil, List.length_cons, List.length_nil, Option.getD_some, Option.getD_none, List.all_cons, List.all_nil, List.set_cons_zero, List.set_cons_succ, List.replicate_succ, List.replicate_zero, List.getElem?_cons_zero, List.getElem?_cons_succ, List.drop_succ_cons, List.drop_zero, List.take_succ_cons, List.take_zero]
  · exact bool_eq (by simp at h; simp [h])
  · simp at h; simp; omega

theorem unless_s (ok : Bool) (e : Int) : Sound Tryd.prog 32 [.bool ok, .int .i64 e] (.int .i64 (if ok then 0 else e)) := by
  refine sound_W f_pulse_unless (Nat.le_of_ble_eq_true rfl) ?_
  simp only [c_pulse_unless, vcC, Int.reduceEq, Int.reduceNe, Int.reduceLT, Int.reduceLE, Nat.reduceEqDiff, Nat.reduceAdd, reduceIte, reduceCtorEq, Nat.reduceLT, Nat.reduceLeDiff, eq_self, Option.bind_some, Option.map_some, List.map_cons, List.map_nil, List.length_cons, List.length_nil, Option.getD_some, Option.getD_none, List.all_cons, List.all_nil, List.set_cons_zero, List.set_cons_succ, List.replicate_succ, List.replicate_zero, List.getElem?_cons_zero, List.getElem?_cons_succ, List.drop_succ_cons, List.drop_zero, List.take_succ_cons, List.take_zero]
  refine brB_split (fun h => ?_) (fun h => ?_) <;> subst h <;> simp only [vcC, Int.reduceEq, Int.reduceNe, Int.reduceLT, Int.reduceLE, Nat.reduceEqDiff, Nat.reduceAdd, reduceIte, reduceCtorEq, Nat.reduceLT, Nat.reduceLeDiff, eq_self, Option.bind_some, Option.map_some, List.map_cons, List.map_nil, List.length_cons, List.length_nil, Option.getD_some, Option.getD_none, List.all_cons, List.all_nil, List.set_cons_zero, List.set_cons_succ, List.replicate_succ, List.replicate_zero, List.getElem?_cons_zero, List.getElem?_cons_succ, List.drop_succ_cons, List.drop_zero, List.take_succ_cons, List.take_zero]

def firstErr (l : List Int) : Int := (l.find? (· ≠ 0)).getD 0

theorem first_s (l : List Int) (hl : l.length < 4000000000000000000) : Sound Tryd.prog 30 [.sl (ints l)] (.int .i64 (firstErr l)) := by
  refine sound_W f_pulse_first (Nat.le_of_ble_eq_true rfl) ?_
  simp only [c_pulse_first, vcC, Int.reduceEq, Int.reduceNe, Int.reduceLT, Int.reduceLE, Nat.reduceEqDiff, Nat.reduceAdd, reduceIte, reduceCtorEq, Nat.reduceLT, Nat.reduceLeDiff, eq_self, Option.bind_some, Option.map_some, List.map_cons, List.map_nil, List.length_cons, List.length_nil, Option.getD_some, Option.getD_none, List.all_cons, List.all_nil, List.set_cons_zero, List.set_cons_succ, List.replicate_succ, List.replicate_zero, List.getElem?_cons_zero, List.getElem?_cons_succ, List.drop_succ_cons, List.drop_zero, List.take_succ_cons, List.take_zero]
  refine W_loop (α := PSigma fun i : Nat => i ≤ l.length ∧ ∀ x ∈ l.take i, x = 0) (fun i => (envOf [(5, .sl (ints l)), (6, .int .i64 l.length), (7, .int .i64 i.1)], noStore)) (fun i => l.length - i.1) ⟨0, by simp⟩ (weakE _ ?_) (fun ⟨i, hi, hn⟩ => ?_)
  · simp only [vcC, Int.reduceEq, Int.reduceNe, Int.reduceLT, Int.reduceLE, Nat.reduceEqDiff, Nat.reduceAdd, reduceIte, reduceCtorEq, Nat.reduceLT, Nat.reduceLeDiff, eq_self, Option.bind_some, Option.map_some, List.map_cons, List.map_nil, List.length_cons, List.length_nil, Option.getD_some, Option.getD_none, List.all_cons, List.all_nil, List.set_cons_zero, List.set_cons_succ, List.replicate_succ, List.replicate_zero, List.getElem?_cons_zero, List.getElem?_cons_succ, List.drop_succ_cons, List.drop_zero, List.take_succ_cons, List.take_zero]; rfl
  · simp only [vcC, Int.reduceEq, Int.reduceNe, Int.reduceLT, Int.reduceLE, Nat.reduceEqDiff, Nat.reduceAdd, reduceIte, reduceCtorEq, Nat.reduceLT, Nat.reduceLeDiff, eq_self, Option.bind_some, Option.map_some, List.map_cons, List.map_nil, List.length_cons, List.length_nil, Option.getD_some, Option.getD_none, List.all_cons, List.all_nil, List.set_cons_zero, List.set_cons_succ, List.replicate_succ, List.replicate_zero, List.getElem?_cons_zero, List.getElem?_cons_succ, List.drop_succ_cons, List.drop_zero, List.take_succ_cons, List.take_zero]
    refine brB_split (fun h => ?_) (fun h => ?_)
    · have h' : i < l.length := by (simp only [decide_eq_true_eq, decide_eq_false_iff_not, Bool.not_true, I64, Bool.not_eq_true', Bool.not_eq_false', bne_iff_ne, beq_iff_eq, ne_eq] at *; omega)
      simp only [ints_get l i h', vcC, Int.reduceEq, Int.reduceNe, Int.reduceLT, Int.reduceLE, Nat.reduceEqDiff, Nat.reduceAdd, reduceIte, reduceCtorEq, Nat.reduceLT, Nat.reduceLeDiff, eq_self, Option.bind_some, Option.map_some, List.map_cons, List.map_nil, List.length_cons, List.length_nil, Option.getD_some, Option.getD_none, List.all_cons, List.all_nil, List.set_cons_zero, List.set_cons_succ, List.replicate_succ, List.replicate_zero, List.getElem?_cons_zero, List.getElem?_cons_succ, List.drop_succ_cons, List.drop_zero, List.take_succ_cons, List.take_zero]
      refine ⟨by omega, ?_⟩
      refine brB_split (fun h => ?_) (fun h => ?_)
      · simp only [vcC, Int.reduceEq, Int.reduceNe, Int.reduceLT, Int.reduceLE, Nat.reduceEqDiff, Nat.reduceAdd, reduceIte, reduceCtorEq, Nat.reduceLT, Nat.reduceLeDiff, eq_self, Option.bind_some, Option.map_some, List.map_cons, List.map_nil, List.length_cons, List.length_nil, Option.getD_some, Option.getD_none, List.all_cons, List.all_nil, List.set_cons_zero, List.set_cons_succ, List.replicate_succ, List.replicate_zero, List.getElem?_cons_zero, List.getElem?_cons_succ, List.drop_succ_cons, List.drop_zero, List.take_succ_cons, List.take_zero]
        have h0 : l[i] ≠ 0 := by simpa using h
        have hs : l.find? (· ≠ 0) = some l[i] := by
          rw [List.find?_eq_some_iff_getElem]
          exact ⟨by simpa using h0, i, h', rfl, fun j hj => by simp [hn l[j] (by rw [List.mem_take_iff_getElem]; exact ⟨j, by omega, rfl⟩)]⟩
        unfold firstErr
        rw [hs]; rfl
      · simp only [vcC, Int.reduceEq, Int.reduceNe, Int.reduceLT, Int.reduceLE, Nat.reduceEqDiff, Nat.reduceAdd, reduceIte, reduceCtorEq, Nat.reduceLT, Nat.reduceLeDiff, eq_self, Option.bind_some, Option.map_some, List.map_cons, List.map_nil, List.length_cons, List.length_nil, Option.getD_some, Option.getD_none, List.all_cons, List.all_nil, List.set_cons_zero, List.set_cons_succ, List.replicate_succ, List.replicate_zero, List.getElem?_cons_zero, List.getElem?_cons_succ, List.drop_succ_cons, List.drop_zero, List.take_succ_cons, List.take_zero]
        refine ⟨by (simp only [decide_eq_true_eq, decide_eq_false_iff_not, Bool.not_true, I64, Bool.not_eq_true', Bool.not_eq_false', bne_iff_ne, beq_iff_eq, ne_eq] at *; omega), ⟨i + 1, by omega, ?_⟩, by simp only; omega, weakE _ ?_⟩
        · rw [List.take_succ_eq_append_getElem h']
          intro x hx
          rcases List.mem_append.1 hx with hx | hx
          · exact hn x hx
          · simp at hx h; rw [hx, h]
        · simp only [vcC, Int.reduceEq, Int.reduceNe, Int.reduceLT, Int.reduceLE, Nat.reduceEqDiff, Nat.reduceAdd, reduceIte, reduceCtorEq, Nat.reduceLT, Nat.reduceLeDiff, eq_self, Option.bind_some, Option.map_some, List.map_cons, List.map_nil, List.length_cons, List.length_nil, Option.getD_some, Option.getD_none, List.all_cons, List.all_nil, List.set_cons_zero, List.set_cons_succ, List.replicate_succ, List.replicate_zero, List.getElem?_cons_zero, List.getElem?_cons_succ, List.drop_succ_cons, List.drop_zero, List.take_succ_cons, List.take_zero]; simp
    · simp only [vcC, Int.reduceEq, Int.reduceNe, Int.reduceLT, Int.reduceLE, Nat.reduceEqDiff, Nat.reduceAdd, reduceIte, reduceCtorEq, Nat.reduceLT, Nat.reduceLeDiff, eq_self, Option.bind_some, Option.map_some, List.map_cons, List.map_nil, List.length_cons, List.length_nil, Option.getD_some, Option.getD_none, List.all_cons, List.all_nil, List.set_cons_zero, List.set_cons_succ, List.replicate_succ, List.replicate_zero, List.getElem?_cons_zero, List.getElem?_cons_succ, List.drop_succ_cons, List.drop_zero, List.take_succ_cons, List.take_zero]
      have : i = l.length := by (simp only [decide_eq_true_eq, decide_eq_false_iff_not, Bool.not_true, I64, Bool.not_eq_true', Bool.not_eq_false', bne_iff_ne, beq_iff_eq, ne_eq] at *; omega)
      subst this
      unfold firstErr
      rw [List.take_length] at hn
      rw [List.find?_eq_none.2 (fun x hx => by simp [hn x hx])]
      rfl

/-- The first index where it holds, or -1. -/
def idxOf {α : Type} (l : List α) (p : α → Bool) : Int := match l.findIdx? p with
  | some i => i
  | none => -1

theorem map_fx1 {caps : List AV} (h : ∀ c ∈ caps, fx1 c = true) (s : Store) (n : Nat) : caps.map (bor s n) = caps := by
  conv => rhs; rw [← List.map_id caps]
  exact List.map_congr_left fun c hc => (fx1_spec (h c hc)).2 s n

theorem idxFunc_int_s (l : List Int) (f : FuncId) (caps : List AV) (p : Int → Bool) (hl : l.length < 4000000000000000000) (hc : ∀ c ∈ caps, fx1 c = true)
    (hp : ∀ x ∈ l, Sound Tryd.prog f (.int .i64 x :: caps) (.bool (p x))) : Sound Tryd.prog 67 [.sl (ints l), .fn f caps] (.int .i64 (idxOf l p)) := by
  refine sound_W f_slices_IndexFunc_int_int (Nat.le_of_ble_eq_true rfl) ?_
  simp only [c_slices_IndexFunc_int_int, vcC, Int.reduceEq, Int.reduceNe, Int.reduceLT, Int.reduceLE, Nat.reduceEqDiff, Nat.reduceAdd, reduceIte, reduceCtorEq, Nat.reduceLT, Nat.reduceLeDiff, eq_self, Option.bind_some, Option.map_some, List.map_cons, List.map_nil, List.length_cons, List.length_nil, Option.getD_some, Option.getD_none, List.all_cons, List.all_nil, List.set_cons_zero, List.set_cons_succ, List.replicate_succ, List.replicate_zero, List.getElem?_cons_zero, List.getElem?_cons_succ, List.drop_succ_cons, List.drop_zero, List.take_succ_cons, List.take_zero]
  refine W_loop (α := PSigma fun i : Nat => i ≤ l.length ∧ ∀ x ∈ l.take i, p x = false) (fun i => (envOf [(0, .sl (ints l)), (1, .fn f caps), (6, .sl (ints l)), (7, .int .i64 l.length), (8, .int .i64 i.1)], noStore)) (fun i => l.length - i.1) ⟨0, by simp⟩ (weakE _ ?_) (fun ⟨i, hi, hn⟩ => ?_)
  · simp only [vcC, Int.reduceEq, Int.reduceNe, Int.reduceLT, Int.reduceLE, Nat.reduceEqDiff, Nat.reduceAdd, reduceIte, reduceCtorEq, Nat.reduceLT, Nat.reduceLeDiff, eq_self, Option.bind_some, Option.map_some, List.map_cons, List.map_nil, List.length_cons, List.length_nil, Option.getD_some, Option.getD_none, List.all_cons, List.all_nil, List.set_cons_zero, List.set_cons_succ, List.replicate_succ, List.replicate_zero, List.getElem?_cons_zero, List.getElem?_cons_succ, List.drop_succ_cons, List.drop_zero, List.take_succ_cons, List.take_zero]; rfl
  · simp only [vcC, Int.reduceEq, Int.reduceNe, Int.reduceLT, Int.reduceLE, Nat.reduceEqDiff, Nat.reduceAdd, reduceIte, reduceCtorEq, Nat.reduceLT, Nat.reduceLeDiff, eq_self, Option.bind_some, Option.map_some, List.map_cons, List.map_nil, List.length_cons, List.length_nil, Option.getD_some, Option.getD_none, List.all_cons, List.all_nil, List.set_cons_zero, List.set_cons_succ, List.replicate_succ, List.replicate_zero, List.getElem?_cons_zero, List.getElem?_cons_succ, List.drop_succ_cons, List.drop_zero, List.take_succ_cons, List.take_zero]
    refine brB_split (fun h => ?_) (fun h => ?_)
    · have h' : i < l.length := by (simp only [decide_eq_true_eq, decide_eq_false_iff_not, Bool.not_true, I64, Bool.not_eq_true', Bool.not_eq_false', bne_iff_ne, beq_iff_eq, ne_eq] at *; omega)
      simp only [ints_get l i h', vcC, Int.reduceEq, Int.reduceNe, Int.reduceLT, Int.reduceLE, Nat.reduceEqDiff, Nat.reduceAdd, reduceIte, reduceCtorEq, Nat.reduceLT, Nat.reduceLeDiff, eq_self, Option.bind_some, Option.map_some, List.map_cons, List.map_nil, List.length_cons, List.length_nil, Option.getD_some, Option.getD_none, List.all_cons, List.all_nil, List.set_cons_zero, List.set_cons_succ, List.replicate_succ, List.replicate_zero, List.getElem?_cons_zero, List.getElem?_cons_succ, List.drop_succ_cons, List.drop_zero, List.take_succ_cons, List.take_zero]
      refine ⟨by omega, ?_⟩
      simp only [List.map_append, List.cons_append, List.nil_append, map_fx1 hc, vcC, Int.reduceEq, Int.reduceNe, Int.reduceLT, Int.reduceLE, Nat.reduceEqDiff, Nat.reduceAdd, reduceIte, reduceCtorEq, Nat.reduceLT, Nat.reduceLeDiff, eq_self, Option.bind_some, Option.map_some, List.map_cons, List.map_nil, List.length_cons, List.length_nil, Option.getD_some, Option.getD_none, List.all_cons, List.all_nil, List.set_cons_zero, List.set_cons_succ, List.replicate_succ, List.replicate_zero, List.getElem?_cons_zero, List.getElem?_cons_succ, List.drop_succ_cons, List.drop_zero, List.take_succ_cons, List.take_zero]
      refine callS_of (hp _ (List.getElem_mem h')) ?_
      simp only [vcC, Int.reduceEq, Int.reduceNe, Int.reduceLT, Int.reduceLE, Nat.reduceEqDiff, Nat.reduceAdd, reduceIte, reduceCtorEq, Nat.reduceLT, Nat.reduceLeDiff, eq_self, Option.bind_some, Option.map_some, List.map_cons, List.map_nil, List.length_cons, List.length_nil, Option.getD_some, Option.getD_none, List.all_cons, List.all_nil, List.set_cons_zero, List.set_cons_succ, List.replicate_succ, List.replicate_zero, List.getElem?_cons_zero, List.getElem?_cons_succ, List.drop_succ_cons, List.drop_zero, List.take_succ_cons, List.take_zero]
      refine brB_split (fun h => ?_) (fun h => ?_)
      · simp only [vcC, Int.reduceEq, Int.reduceNe, Int.reduceLT, Int.reduceLE, Nat.reduceEqDiff, Nat.reduceAdd, reduceIte, reduceCtorEq, Nat.reduceLT, Nat.reduceLeDiff, eq_self, Option.bind_some, Option.map_some, List.map_cons, List.map_nil, List.length_cons, List.length_nil, Option.getD_some, Option.getD_none, List.all_cons, List.all_nil, List.set_cons_zero, List.set_cons_succ, List.replicate_succ, List.replicate_zero, List.getElem?_cons_zero, List.getElem?_cons_succ, List.drop_succ_cons, List.drop_zero, List.take_succ_cons, List.take_zero]
        have hs : l.findIdx? p = some i := by
          rw [List.findIdx?_eq_some_iff_getElem]
          refine ⟨h', h, fun j hj => ?_⟩
          have := hn l[j] (by rw [List.mem_take_iff_getElem]; exact ⟨j, by omega, rfl⟩)
          simp [this]
        simp [idxOf, hs]
      · simp only [vcC, Int.reduceEq, Int.reduceNe, Int.reduceLT, Int.reduceLE, Nat.reduceEqDiff, Nat.reduceAdd, reduceIte, reduceCtorEq, Nat.reduceLT, Nat.reduceLeDiff, eq_self, Option.bind_some, Option.map_some, List.map_cons, List.map_nil, List.length_cons, List.length_nil, Option.getD_some, Option.getD_none, List.all_cons, List.all_nil, List.set_cons_zero, List.set_cons_succ, List.replicate_succ, List.replicate_zero, List.getElem?_cons_zero, List.getElem?_cons_succ, List.drop_succ_cons, List.drop_zero, List.take_succ_cons, List.take_zero]
        refine ⟨by (simp only [decide_eq_true_eq, decide_eq_false_iff_not, Bool.not_true, I64, Bool.not_eq_true', Bool.not_eq_false', bne_iff_ne, beq_iff_eq, ne_eq] at *; omega), ⟨i + 1, by omega, ?_⟩, by simp only; omega, weakE _ ?_⟩
        · rw [List.take_succ_eq_append_getElem h']
          intro x hx
          rcases List.mem_append.1 hx with hx | hx
          · exact hn x hx
          · simp at hx; rw [hx]; exact h
        · simp only [vcC, Int.reduceEq, Int.reduceNe, Int.reduceLT, Int.reduceLE, Nat.reduceEqDiff, Nat.reduceAdd, reduceIte, reduceCtorEq, Nat.reduceLT, Nat.reduceLeDiff, eq_self, Option.bind_some, Option.map_some, List.map_cons, List.map_nil, List.length_cons, List.length_nil, Option.getD_some, Option.getD_none, List.all_cons, List.all_nil, List.set_cons_zero, List.set_cons_succ, List.replicate_succ, List.replicate_zero, List.getElem?_cons_zero, List.getElem?_cons_succ, List.drop_succ_cons, List.drop_zero, List.take_succ_cons, List.take_zero]; simp
    · simp only [vcC, Int.reduceEq, Int.reduceNe, Int.reduceLT, Int.reduceLE, Nat.reduceEqDiff, Nat.reduceAdd, reduceIte, reduceCtorEq, Nat.reduceLT, Nat.reduceLeDiff, eq_self, Option.bind_some, Option.map_some, List.map_cons, List.map_nil, List.length_cons, List.length_nil, Option.getD_some, Option.getD_none, List.all_cons, List.all_nil, List.set_cons_zero, List.set_cons_succ, List.replicate_succ, List.replicate_zero, List.getElem?_cons_zero, List.getElem?_cons_succ, List.drop_succ_cons, List.drop_zero, List.take_succ_cons, List.take_zero]
      have : i = l.length := by (simp only [decide_eq_true_eq, decide_eq_false_iff_not, Bool.not_true, I64, Bool.not_eq_true', Bool.not_eq_false', bne_iff_ne, beq_iff_eq, ne_eq] at *; omega)
      subst this
      rw [List.take_length] at hn
      have hs : l.findIdx? p = none := List.findIdx?_eq_none_iff.2 hn
      simp [idxOf, hs]

theorem idxOf_any {α : Type} (l : List α) (p : α → Bool) : (decide (0 ≤ idxOf l p)) = l.any p := by
  unfold idxOf
  cases h : l.findIdx? p with
  | none =>
    rw [List.findIdx?_eq_none_iff] at h
    have : l.any p = false := by simpa using h
    rw [this]; rfl
  | some i =>
    rw [List.findIdx?_eq_some_iff_getElem] at h
    obtain ⟨hi, hp, _⟩ := h
    have : l.any p = true := List.any_eq_true.2 ⟨_, List.getElem_mem hi, hp⟩
    rw [this]; simp

theorem contFunc_int_s (l : List Int) (f : FuncId) (caps : List AV) (p : Int → Bool) (hl : l.length < 4000000000000000000) (hc : ∀ c ∈ caps, fx1 c = true)
    (hp : ∀ x ∈ l, Sound Tryd.prog f (.int .i64 x :: caps) (.bool (p x))) : Sound Tryd.prog 36 [.sl (ints l), .fn f caps] (.bool (l.any p)) := by
  refine sound_W f_slices_ContainsFunc_int_int (Nat.le_of_ble_eq_true rfl) ?_
  simp only [c_slices_ContainsFunc_int_int, map_fx1 hc, vcC, Int.reduceEq, Int.reduceNe, Int.reduceLT, Int.reduceLE, Nat.reduceEqDiff, Nat.reduceAdd, reduceIte, reduceCtorEq, Nat.reduceLT, Nat.reduceLeDiff, eq_self, Option.bind_some, Option.map_some, List.map_cons, List.map_nil, List.length_cons, List.length_nil, Option.getD_some, Option.getD_none, List.all_cons, List.all_nil, List.set_cons_zero, List.set_cons_succ, List.replicate_succ, List.replicate_zero, List.getElem?_cons_zero, List.getElem?_cons_succ, List.drop_succ_cons, List.drop_zero, List.take_succ_cons, List.take_zero]
  refine callS_of (idxFunc_int_s l f caps p hl hc hp) ?_
  simp only [vcC, Int.reduceEq, Int.reduceNe, Int.reduceLT, Int.reduceLE, Nat.reduceEqDiff, Nat.reduceAdd, reduceIte, reduceCtorEq, Nat.reduceLT, Nat.reduceLeDiff, eq_self, Option.bind_some, Option.map_some, List.map_cons, List.map_nil, List.length_cons, List.length_nil, Option.getD_some, Option.getD_none, List.all_cons, List.all_nil, List.set_cons_zero, List.set_cons_succ, List.replicate_succ, List.replicate_zero, List.getElem?_cons_zero, List.getElem?_cons_succ, List.drop_succ_cons, List.drop_zero, List.take_succ_cons, List.take_zero]
  rw [idxOf_any]

theorem first2_s (a b : Int) : Sound Tryd.prog 30 [.sl [.int .i64 a, .int .i64 b]] (.int .i64 (if a ≠ 0 then a else b)) := by
  have h := first_s [a, b] (by simp)
  have e : firstErr [a, b] = if a ≠ 0 then a else b := by
    unfold firstErr
    by_cases ha : a = 0 <;> by_cases hb : b = 0 <;> simp [ha, hb]
  rw [e] at h
  exact h
theorem first3_s (a b c : Int) : Sound Tryd.prog 30 [.sl [.int .i64 a, .int .i64 b, .int .i64 c]] (.int .i64 (if a ≠ 0 then a else if b ≠ 0 then b else c)) := by
  have h := first_s [a, b, c] (by simp)
  have e : firstErr [a, b, c] = if a ≠ 0 then a else if b ≠ 0 then b else c := by
    unfold firstErr
    by_cases ha : a = 0 <;> by_cases hb : b = 0 <;> by_cases hc : c = 0 <;> simp [ha, hb, hc]
  rw [e] at h
  exact h
end Go.Proofs.YtngjhppgojfceaaDoor

/- Samples and droops, in plain Lean. By an AI agent; nothing here is trusted. -/
namespace Go.Proofs.YtngjhppgojfceaaDoor
open Go.Av

/-- A sample; the error of samples, and the index that goes with it. -/
def smp (n : Int) : Bool := decide (-10000 ≤ n ∧ n ≤ 10000)
def smE (l : List Int) : Int := if l.length = 0 then 10 else if 24 < l.length then 8 else if l.all smp then 0 else 2
def smI (l : List Int) : Int := if smE l = 2 then idxOf l (fun n => !smp n) else 0
theorem smE_ok {l : List Int} (h : smE l = 0) : 1 ≤ l.length ∧ l.length ≤ 24 ∧ ∀ x ∈ l, -10000 ≤ x ∧ x ≤ 10000 := by
  unfold smE at h
  split at h
  · cases h
  · split at h
    · cases h
    · split at h
      · rename_i h1 h2 h3
        exact ⟨by omega, by omega, fun x hx => by have := List.all_eq_true.1 h3 x hx; simpa [smp] using this⟩
      · cases h
theorem smp_iff {n : Int} : smp n = true ↔ -10000 ≤ n ∧ n ≤ 10000 := by simp [smp]
structure Droop where
  leak : Int
  div : Int
def Droop.av (d : Droop) : AV := .agg [.int .i64 d.leak, .int .i64 d.div]
def Droop.ok (d : Droop) : Prop := (0 ≤ d.leak ∧ d.leak ≤ 1000) ∧ (1 ≤ d.div ∧ d.div ≤ 10000)
instance (d : Droop) : Decidable d.ok := by unfold Droop.ok; exact inferInstance
def Droop.e (d : Droop) : Int := if d.ok then 0 else 2

end Go.Proofs.YtngjhppgojfceaaDoor

/- Dead times and afterpulses, in plain Lean. By an AI agent; nothing here is trusted. -/
namespace Go.Proofs.YtngjhppgojfceaaDoor
open Go.Av

def tick (n : Int) : Bool := decide (0 ≤ n ∧ n ≤ 1000000000000)
theorem tick_iff {n : Int} : tick n = true ↔ 0 ≤ n ∧ n ≤ 1000000000000 := by simp [tick]
/-- The error of times from one on, behind 'last'. -/
def tmsE (last : Int) : List Int → Int
  | [] => 0
  | n :: l => if tick n = false then 2 else if n < last then 9 else tmsE n l
def timesE (l : List Int) : Int := if 40 < l.length then 8 else tmsE 0 l
theorem tmsE_ok : ∀ (last : Int) (l : List Int), tmsE last l = 0 → (∀ x ∈ l, (0 ≤ x ∧ x ≤ 1000000000000) ∧ last ≤ x) ∧ l.Pairwise (· ≤ ·)
  | last, [], _ => ⟨(fun x hx => by cases hx), List.Pairwise.nil⟩
  | last, n :: l, h => by
    unfold tmsE at h
    split at h
    · cases h
    · split at h
      · cases h
      · rename_i h1 h2
        have h1 : tick n = true := by cases ht : tick n <;> simp_all
        obtain ⟨g1, g2⟩ := tmsE_ok _ _ h
        refine ⟨fun x hx => ?_, List.Pairwise.cons (fun x hx => (g1 x hx).2) g2⟩
        rcases List.mem_cons.1 hx with e | e
        · rw [e]; exact ⟨tick_iff.1 h1, by omega⟩
        · have := g1 x e; exact ⟨this.1, by omega⟩
def tOk (l : List Int) : Prop := l.length ≤ 40 ∧ (∀ x ∈ l, 0 ≤ x ∧ x ≤ 1000000000000) ∧ l.Pairwise (· ≤ ·)
theorem timesE_ok {l : List Int} (h : timesE l = 0) : tOk l := by
  unfold timesE at h
  split at h
  · cases h
  · obtain ⟨h1, h2⟩ := tmsE_ok _ _ h
    exact ⟨by omega, fun x hx => (h1 x hx).1, h2⟩

/-- The times that are kept of the first ones. -/
def kp (dead : Int) (l : List Int) : Nat → List Int
  | 0 => []
  | i + 1 => if kp dead l i = [] ∨ dead < l.getD i 0 - (kp dead l i).getLastD 0 then kp dead l i ++ [l.getD i 0] else kp dead l i
def kept (dead : Int) (l : List Int) : List Int := kp dead l l.length
theorem getD_at {l : List Int} {i : Nat} (h : i < l.length) : l.getD i 0 = l[i] := by simp [List.getD, List.getElem?_eq_getElem h]
theorem last_snoc (l : List Int) (x d : Int) : (l ++ [x]).getLastD d = x := by simp
theorem kp_le (dead : Int) (l : List Int) : ∀ i, (kp dead l i).length ≤ i
  | 0 => Nat.le_refl _
  | i + 1 => by
    have := kp_le dead l i
    rw [kp]; split <;> simp <;> omega
theorem kp_mem (dead : Int) (l : List Int) : ∀ i, i ≤ l.length → ∀ x ∈ kp dead l i, x ∈ l.take i
  | 0, _, x, hx => by cases hx
  | i + 1, h, x, hx => by
    have ih := kp_mem dead l i (by omega)
    rw [List.take_succ_eq_append_getElem (by omega)]
    rw [kp] at hx
    split at hx
    · rcases List.mem_append.1 hx with e | e
      · exact List.mem_append_left _ (ih x e)
      · rw [List.mem_singleton.1 e, getD_at (by omega)]; exact List.mem_append_right _ (by simp)
    · exact List.mem_append_left _ (ih x hx)
/-- Those that are kept are farther apart than the dead time. -/
theorem kp_sep (dead : Int) (l : List Int) : ∀ i k, k + 1 < (kp dead l i).length → dead < (kp dead l i).getD (k + 1) 0 - (kp dead l i).getD k 0
  | 0, k, h => by simp [kp] at h
  | i + 1, k, h => by
    have ih := kp_sep dead l i k
    have hl : kp dead l i ≠ [] → (kp dead l i).getLastD 0 = (kp dead l i).getD ((kp dead l i).length - 1) 0 := by
      intro hne
      rw [List.getLastD_eq_getLast?, List.getLast?_eq_getElem?]
      simp [List.getD]
    rw [kp] at h ⊢
    split
    · rename_i hc
      rw [if_pos hc] at h
      rw [List.length_append, List.length_singleton] at h
      by_cases e : k + 1 < (kp dead l i).length
      · have h1 := ih e
        simp only [List.getD] at h1 ⊢
        rw [List.getElem?_append_left e, List.getElem?_append_left (by omega)]
        exact h1
      · have e1 : k + 1 = (kp dead l i).length := by omega
        have hne : kp dead l i ≠ [] := fun q => by rw [q] at e1; simp at e1
        rcases hc with hc | hc
        · exact absurd hc hne
        · rw [hl hne, show (kp dead l i).length - 1 = k by omega] at hc
          simp only [List.getD] at hc ⊢
          rw [List.getElem?_append_right (by omega), List.getElem?_append_left (by omega)]
          simpa [e1] using hc
    · rename_i hc
      rw [if_neg hc] at h
      exact ih h
/-- The afterpulses among the first times, and the others. -/
def aft (lo hi : Int) (l : List Int) : Nat → List Int × List Int
  | 0 => ([], [])
  | i + 1 => if (aft lo hi l i).2.any (fun o => decide (lo ≤ l.getD i 0 - o ∧ l.getD i 0 - o ≤ hi)) then ((aft lo hi l i).1 ++ [(i : Int)], (aft lo hi l i).2) else ((aft lo hi l i).1, (aft lo hi l i).2 ++ [l.getD i 0])
theorem aft_len (lo hi : Int) (l : List Int) : ∀ i, (aft lo hi l i).1.length ≤ i ∧ (aft lo hi l i).2.length ≤ i
  | 0 => by simp [aft]
  | i + 1 => by
    have := aft_len lo hi l i
    rw [aft]; split <;> simp <;> omega
theorem aft_lt (lo hi : Int) (l : List Int) : ∀ i, ∀ x ∈ (aft lo hi l i).1, x < i
  | 0, x, hx => by simp [aft] at hx
  | i + 1, x, hx => by
    have ih := aft_lt lo hi l i
    rw [aft] at hx
    split at hx
    · simp only at hx
      rcases List.mem_append.1 hx with e | e
      · have := ih x e; omega
      · have := List.mem_singleton.1 e; omega
    · have := ih x hx; omega
/-- The others are the times that are no afterpulses. -/
theorem aft_other (lo hi : Int) (l : List Int) : ∀ i x, x ∈ (aft lo hi l i).2 ↔ ∃ k : Nat, k < i ∧ (k : Int) ∉ (aft lo hi l i).1 ∧ x = l.getD k 0
  | 0, x => by simp [aft]
  | i + 1, x => by
    have ih := aft_other lo hi l i
    have hlt := aft_lt lo hi l i
    rw [aft]
    split
    · simp only
      rw [ih]
      constructor
      · rintro ⟨k, h1, h2, h3⟩
        refine ⟨k, by omega, fun h => ?_, h3⟩
        rcases List.mem_append.1 h with e | e
        · exact h2 e
        · have := List.mem_singleton.1 e; omega
      · rintro ⟨k, h1, h2, h3⟩
        have h4 : k ≠ i := fun e => h2 (List.mem_append_right _ (by rw [e]; simp))
        exact ⟨k, by omega, fun h => h2 (List.mem_append_left _ h), h3⟩
    · simp only
      rw [List.mem_append, ih, List.mem_singleton]
      constructor
      · rintro (⟨k, h1, h2, h3⟩ | h)
        · exact ⟨k, by omega, h2, h3⟩
        · refine ⟨i, by omega, fun q => ?_, h⟩
          have := hlt _ q; omega
      · rintro ⟨k, h1, h2, h3⟩
        by_cases e : k < i
        · exact .inl ⟨k, e, h2, h3⟩
        · have : k = i := by omega
          subst this; exact .inr h3
end Go.Proofs.YtngjhppgojfceaaDoor

/- Hits: runs of samples from a threshold on, in plain Lean. By an AI agent; nothing here is trusted. -/
namespace Go.Proofs.YtngjhppgojfceaaDoor
open Go.Av

def inF (out : List (Int × Int)) (x : Int) : Prop := ∃ p ∈ out, p.1 ≤ x ∧ x ≤ p.2
/-- Runs of kept bins, the last one first. -/
def runR (kf : Nat → Bool) : Nat → List (Int × Int)
  | 0 => []
  | i + 1 => if kf i then (if i = 0 ∨ kf (i - 1) = false then ((i : Int), (i : Int)) :: runR kf i else match runR kf i with
    | [] => []
    | p :: rest => (p.1, (i : Int)) :: rest) else runR kf i
theorem runR_no {kf : Nat → Bool} {i : Nat} (h : kf i = false) : runR kf (i + 1) = runR kf i := by rw [runR, if_neg (by simp [h])]
theorem runR_new {kf : Nat → Bool} {i : Nat} (h : kf i = true) (h2 : i = 0 ∨ kf (i - 1) = false) : runR kf (i + 1) = ((i : Int), (i : Int)) :: runR kf i := by rw [runR, if_pos h, if_pos h2]
theorem runR_on {kf : Nat → Bool} {i : Nat} (h : kf i = true) (h2 : ¬ (i = 0 ∨ kf (i - 1) = false)) {p : Int × Int} {rest : List (Int × Int)} (hR : runR kf i = p :: rest) : runR kf (i + 1) = (p.1, (i : Int)) :: rest := by
  rw [runR, if_pos h, if_neg h2, hR]
theorem runR_ok (kf : Nat → Bool) : ∀ (i : Nat), (runR kf i).length ≤ i ∧ (∀ p ∈ runR kf i, 0 ≤ p.1 ∧ p.1 ≤ p.2 ∧ p.2 < i) ∧ (0 < i → kf (i - 1) = true → ∃ p rest, runR kf i = p :: rest ∧ p.2 = i - 1)
  | 0 => by simp [runR]
  | i + 1 => by
    obtain ⟨h1, h2, h3⟩ := runR_ok kf i
    by_cases hk : kf i = true
    · by_cases hn : i = 0 ∨ kf (i - 1) = false
      · rw [runR_new hk hn]
        refine ⟨by simp; omega, fun p hp => ?_, fun _ _ => ⟨_, _, rfl, by simp only; omega⟩⟩
        rcases List.mem_cons.1 hp with e | e
        · rw [e]; simp only; omega
        · have := h2 p e; omega
      · obtain ⟨p, rest, hR, hp⟩ := h3 (by omega) (by cases hq : kf (i - 1) with | true => rfl | false => exact absurd (.inr hq) hn)
        rw [runR_on hk hn hR]
        rw [hR] at h1 h2
        refine ⟨by simp at h1 ⊢; omega, fun q hq => ?_, fun _ _ => ⟨_, _, rfl, by simp only; omega⟩⟩
        rcases List.mem_cons.1 hq with e | e
        · have := h2 p List.mem_cons_self; rw [e]; simp only; omega
        · have := h2 q (List.mem_cons_of_mem _ e); omega
    · have hk' : kf i = false := by simpa using hk
      rw [runR_no hk']
      refine ⟨by omega, fun p hp => by have := h2 p hp; omega, fun _ h => ?_⟩
      rw [Nat.add_sub_cancel, hk'] at h; cases h

theorem inF_cons (p : Int × Int) (l : List (Int × Int)) (x : Int) : inF (p :: l) x ↔ (p.1 ≤ x ∧ x ≤ p.2) ∨ inF l x := by
  unfold inF
  constructor
  · rintro ⟨q, hq, h⟩
    rcases List.mem_cons.1 hq with e | e
    · subst e; exact .inl h
    · exact .inr ⟨q, e, h⟩
  · rintro (h | ⟨q, hq, h⟩)
    · exact ⟨p, List.mem_cons_self, h⟩
    · exact ⟨q, List.mem_cons_of_mem _ hq, h⟩
theorem runR_cov (kf : Nat → Bool) : ∀ (i : Nat), (∀ x : Int, inF (runR kf i) x ↔ ∃ y : Nat, x = y ∧ y < i ∧ kf y = true) ∧ (runR kf i).Pairwise fun p q => q.2 + 1 < p.1
  | 0 => ⟨fun x => by simp [runR, inF], by simp [runR]⟩
  | i + 1 => by
    obtain ⟨h1, h2⟩ := runR_cov kf i
    obtain ⟨o1, o2, o3⟩ := runR_ok kf i
    by_cases hk : kf i = true
    · have hsp : ∀ x : Int, (∃ y : Nat, x = y ∧ y < i + 1 ∧ kf y = true) ↔ ((∃ y : Nat, x = y ∧ y < i ∧ kf y = true) ∨ x = i) := by
        intro x
        constructor
        · rintro ⟨y, e, hy, ky⟩
          by_cases q : y = i
          · exact .inr (by omega)
          · exact .inl ⟨y, e, by omega, ky⟩
        · rintro (⟨y, e, hy, ky⟩ | e)
          · exact ⟨y, e, by omega, ky⟩
          · exact ⟨i, e, by omega, hk⟩
      by_cases hn : i = 0 ∨ kf (i - 1) = false
      · rw [runR_new hk hn]
        refine ⟨fun x => ?_, List.pairwise_cons.2 ⟨fun q hq => ?_, h2⟩⟩
        · rw [inF_cons, hsp, h1]
          constructor
          · rintro (h | h)
            · exact .inr (by simp only at h; omega)
            · exact .inl h
          · rintro (h | h)
            · exact .inr h
            · exact .inl (by simp only; omega)
        · have hq2 := o2 q hq
          rcases hn with e | e
          · omega
          · by_cases e2 : q.2 = i - 1
            · obtain ⟨y, e3, e4, e5⟩ := (h1 q.2).1 ⟨q, hq, hq2.2.1, Int.le_refl _⟩
              rw [show i - 1 = y by omega, e5] at e; cases e
            · simp only; omega
      · obtain ⟨p, rest, hR, hp⟩ := o3 (by omega) (by cases hq : kf (i - 1) with | true => rfl | false => exact absurd (.inr hq) hn)
        rw [runR_on hk hn hR]
        rw [hR] at h1 h2 o2
        have hpm := o2 p List.mem_cons_self
        obtain ⟨s1, s2⟩ := List.pairwise_cons.1 h2
        refine ⟨fun x => ?_, List.pairwise_cons.2 ⟨fun q hq => s1 q hq, s2⟩⟩
        rw [inF_cons, hsp, ← h1, inF_cons]
        constructor
        · rintro (h | h)
          · simp only at h
            by_cases e : x = i
            · exact .inr e
            · exact .inl (.inl (by omega))
          · exact .inl (.inr h)
        · rintro ((h | h) | h)
          · exact .inl (by simp only; omega)
          · exact .inr h
          · exact .inl (by simp only; omega)
    · have hk' : kf i = false := by simpa using hk
      rw [runR_no hk']
      refine ⟨fun x => ?_, h2⟩
      rw [h1]
      constructor
      · rintro ⟨y, e, hy, ky⟩; exact ⟨y, e, by omega, ky⟩
      · rintro ⟨y, e, hy, ky⟩
        have : y ≠ i := fun q => by rw [q, hk'] at ky; cases ky
        exact ⟨y, e, by omega, ky⟩

/-- Which indices are in a hit. -/
def hitK (l : List Int) (t : Int) (i : Nat) : Bool := decide (t ≤ l.getD i 0)
def hitsL (l : List Int) (t : Int) : List (Int × Int) := (runR (hitK l t) l.length).reverse

theorem hitsL_len (l : List Int) (t : Int) : (hitsL l t).length ≤ l.length := by
  unfold hitsL; rw [List.length_reverse]; exact (runR_ok (hitK l t) l.length).1
theorem hitsL_mem {l : List Int} {t : Int} {p : Int × Int} (h : p ∈ hitsL l t) : 0 ≤ p.1 ∧ p.1 ≤ p.2 ∧ p.2 < l.length := (runR_ok (hitK l t) l.length).2.1 p (List.mem_reverse.1 h)
end Go.Proofs.YtngjhppgojfceaaDoor

/- Contracts of the small functions of the base. By an AI agent; nothing here is trusted. -/
namespace Go.Proofs.YtngjhppgojfceaaDoor
open Go.Av

theorem Within_s (n lo hi : Int) : Sound Tryd.prog 8 [.int .i64 n, .int .i64 lo, .int .i64 hi] (.bool (decide (lo ≤ n ∧ n ≤ hi))) := by
  refine sound_W f_base_Within (Nat.le_of_ble_eq_true rfl) ?_
  simp only [c_base_Within, vcC, Int.reduceEq, Int.reduceNe, Int.reduceLT, Int.reduceLE, Nat.reduceEqDiff, Nat.reduceAdd, reduceIte, reduceCtorEq, Nat.reduceLT, Nat.reduceLeDiff, eq_self, Option.bind_some, Option.map_some, List.map_cons, List.map_nil, List.length_cons, List.length_nil, Option.getD_some, Option.getD_none, List.all_cons, List.all_nil, List.set_cons_zero, List.set_cons_succ, List.replicate_succ, List.replicate_zero, List.getElem?_cons_zero, List.getElem?_cons_succ, List.drop_succ_cons, List.drop_zero, List.take_succ_cons, List.take_zero]
  refine brB_split (fun h => ?_) (fun h => ?_) <;> simp only [h, vcC, Int.reduceEq, Int.reduceNe, Int.reduceLT, Int.reduceLE, Nat.reduceEqDiff, Nat.reduceAdd, reduceIte, reduceCtorEq, Nat.reduceLT, Nat.reduceLeDiff, eq_self, Option.bind_some, Option.map_some, List.map_cons, List.map_nil, List.length_cons, List.length_nil, Option.getD_some, Option.getD_none, List.all_cons, List.all_nil, List.set_cons_zero, List.set_cons_succ, List.replicate_succ, List.replicate_zero, List.getElem?_cons_zero, List.getElem?_cons_succ, List.drop_succ_cons, List.drop_zero, List.take_succ_cons, List.take_zero]
  · exact bool_eq (by simp at h; simp [h])
  · simp at h; simp; omega

end Go.Proofs.YtngjhppgojfceaaDoor

/- Contracts of the base: copies, comparisons, fractions. By an AI agent; nothing here is trusted. -/
namespace Go.Proofs.YtngjhppgojfceaaDoor
open Go.Av

theorem newsOk_ints (l : List Int) : newsOk 1 (ints l) := by
  intro x hx
  obtain ⟨n, _, rfl⟩ := List.mem_map.1 hx
  exact ⟨rfl, rfl⟩
theorem maxLen_big : 4000000000000 ≤ maxLen := by decide

theorem CopyInts_s (l : List Int) (hl : l.length ≤ 1000000000) : Sound Tryd.prog 10 [.sl (ints l)] (.sl (ints l)) := by
  refine sound_W f_base_CopyInts (Nat.le_of_ble_eq_true rfl) ?_
  have hm := maxLen_big
  simp only [c_base_CopyInts, vcV, vcD, Int.reduceEq, Int.reduceNe, Int.reduceLT, Int.reduceLE, Nat.reduceEqDiff, Nat.reduceAdd, reduceIte, reduceCtorEq, Nat.reduceLT, Nat.reduceLeDiff, eq_self, Option.bind_some, Option.map_some, List.map_cons, List.map_nil, List.length_cons, List.length_nil, Option.getD_some, Option.getD_none, List.all_cons, List.all_nil, List.set_cons_zero, List.set_cons_succ, List.replicate_succ, List.replicate_zero, List.getElem?_cons_zero, List.getElem?_cons_succ, List.drop_succ_cons, List.drop_zero, List.take_succ_cons, List.take_zero, List.map_append, List.nil_append, List.cons_append, Nat.reduceShiftRight, Nat.reduceMod]
  refine ⟨newsOk_ints l, ⟨by omega, by omega⟩, ?_⟩
  rw [borB_good _ _ _ _ _ (by simp [ints]) (ints_fx _)]

theorem Has_s (l : List Int) (n : Int) (hl : l.length ≤ 1000000000) : Sound Tryd.prog 14 [.sl (ints l), .int .i64 n] (.bool (decide (n ∈ l))) := by
  refine sound_W f_base_Has (Nat.le_of_ble_eq_true rfl) ?_
  simp only [c_base_Has, vcV, vcD, Int.reduceEq, Int.reduceNe, Int.reduceLT, Int.reduceLE, Nat.reduceEqDiff, Nat.reduceAdd, reduceIte, reduceCtorEq, Nat.reduceLT, Nat.reduceLeDiff, eq_self, Option.bind_some, Option.map_some, List.map_cons, List.map_nil, List.length_cons, List.length_nil, Option.getD_some, Option.getD_none, List.all_cons, List.all_nil, List.set_cons_zero, List.set_cons_succ, List.replicate_succ, List.replicate_zero, List.getElem?_cons_zero, List.getElem?_cons_succ, List.drop_succ_cons, List.drop_zero, List.take_succ_cons, List.take_zero, List.map_append, List.nil_append, List.cons_append, Nat.reduceShiftRight, Nat.reduceMod]
  refine W_loop (α := PSigma fun i : Nat => i ≤ l.length ∧ ∀ x ∈ l.take i, x ≠ n) (fun i => (envOf [(0, .sl (ints l)), (1, .int .i64 n), (5, .int .i64 i.1)], noStore)) (fun i => l.length - i.1) ⟨0, by simp⟩ (weakE _ ?_) (fun ⟨i, hi, hn⟩ => ?_)
  · simp only [vcV, vcD, Int.reduceEq, Int.reduceNe, Int.reduceLT, Int.reduceLE, Nat.reduceEqDiff, Nat.reduceAdd, reduceIte, reduceCtorEq, Nat.reduceLT, Nat.reduceLeDiff, eq_self, Option.bind_some, Option.map_some, List.map_cons, List.map_nil, List.length_cons, List.length_nil, Option.getD_some, Option.getD_none, List.all_cons, List.all_nil, List.set_cons_zero, List.set_cons_succ, List.replicate_succ, List.replicate_zero, List.getElem?_cons_zero, List.getElem?_cons_succ, List.drop_succ_cons, List.drop_zero, List.take_succ_cons, List.take_zero, List.map_append, List.nil_append, List.cons_append, Nat.reduceShiftRight, Nat.reduceMod]; rfl
  · simp only [vcV, vcD, Int.reduceEq, Int.reduceNe, Int.reduceLT, Int.reduceLE, Nat.reduceEqDiff, Nat.reduceAdd, reduceIte, reduceCtorEq, Nat.reduceLT, Nat.reduceLeDiff, eq_self, Option.bind_some, Option.map_some, List.map_cons, List.map_nil, List.length_cons, List.length_nil, Option.getD_some, Option.getD_none, List.all_cons, List.all_nil, List.set_cons_zero, List.set_cons_succ, List.replicate_succ, List.replicate_zero, List.getElem?_cons_zero, List.getElem?_cons_succ, List.drop_succ_cons, List.drop_zero, List.take_succ_cons, List.take_zero, List.map_append, List.nil_append, List.cons_append, Nat.reduceShiftRight, Nat.reduceMod]
    refine brB_split (fun h => ?_) (fun h => ?_)
    · have h' : i < l.length := by (simp only [decide_eq_true_eq, decide_eq_false_iff_not, Bool.not_true, I64, Bool.not_eq_true', Bool.not_eq_false', bne_iff_ne, beq_iff_eq, ne_eq] at *; omega)
      simp only [ints_get l i h', vcV, vcD, Int.reduceEq, Int.reduceNe, Int.reduceLT, Int.reduceLE, Nat.reduceEqDiff, Nat.reduceAdd, reduceIte, reduceCtorEq, Nat.reduceLT, Nat.reduceLeDiff, eq_self, Option.bind_some, Option.map_some, List.map_cons, List.map_nil, List.length_cons, List.length_nil, Option.getD_some, Option.getD_none, List.all_cons, List.all_nil, List.set_cons_zero, List.set_cons_succ, List.replicate_succ, List.replicate_zero, List.getElem?_cons_zero, List.getElem?_cons_succ, List.drop_succ_cons, List.drop_zero, List.take_succ_cons, List.take_zero, List.map_append, List.nil_append, List.cons_append, Nat.reduceShiftRight, Nat.reduceMod]
      refine ⟨by omega, ?_⟩
      refine brB_split (fun h => ?_) (fun h => ?_)
      · simp only [vcV, vcD, Int.reduceEq, Int.reduceNe, Int.reduceLT, Int.reduceLE, Nat.reduceEqDiff, Nat.reduceAdd, reduceIte, reduceCtorEq, Nat.reduceLT, Nat.reduceLeDiff, eq_self, Option.bind_some, Option.map_some, List.map_cons, List.map_nil, List.length_cons, List.length_nil, Option.getD_some, Option.getD_none, List.all_cons, List.all_nil, List.set_cons_zero, List.set_cons_succ, List.replicate_succ, List.replicate_zero, List.getElem?_cons_zero, List.getElem?_cons_succ, List.drop_succ_cons, List.drop_zero, List.take_succ_cons, List.take_zero, List.map_append, List.nil_append, List.cons_append, Nat.reduceShiftRight, Nat.reduceMod]
        simp only [decide_eq_true_eq] at h
        have : n ∈ l := h ▸ List.getElem_mem h'
        simp [this]
      · simp only [vcV, vcD, Int.reduceEq, Int.reduceNe, Int.reduceLT, Int.reduceLE, Nat.reduceEqDiff, Nat.reduceAdd, reduceIte, reduceCtorEq, Nat.reduceLT, Nat.reduceLeDiff, eq_self, Option.bind_some, Option.map_some, List.map_cons, List.map_nil, List.length_cons, List.length_nil, Option.getD_some, Option.getD_none, List.all_cons, List.all_nil, List.set_cons_zero, List.set_cons_succ, List.replicate_succ, List.replicate_zero, List.getElem?_cons_zero, List.getElem?_cons_succ, List.drop_succ_cons, List.drop_zero, List.take_succ_cons, List.take_zero, List.map_append, List.nil_append, List.cons_append, Nat.reduceShiftRight, Nat.reduceMod]
        refine ⟨by (simp only [decide_eq_true_eq, decide_eq_false_iff_not, Bool.not_true, I64, Bool.not_eq_true', Bool.not_eq_false', bne_iff_ne, beq_iff_eq, ne_eq] at *; omega), ⟨i + 1, by omega, ?_⟩, by simp only; omega, weakE _ ?_⟩
        · rw [List.take_succ_eq_append_getElem h']
          intro x hx
          rcases List.mem_append.1 hx with hx | hx
          · exact hn x hx
          · simp at hx h; rw [hx]; exact h
        · simp only [vcV, vcD, Int.reduceEq, Int.reduceNe, Int.reduceLT, Int.reduceLE, Nat.reduceEqDiff, Nat.reduceAdd, reduceIte, reduceCtorEq, Nat.reduceLT, Nat.reduceLeDiff, eq_self, Option.bind_some, Option.map_some, List.map_cons, List.map_nil, List.length_cons, List.length_nil, Option.getD_some, Option.getD_none, List.all_cons, List.all_nil, List.set_cons_zero, List.set_cons_succ, List.replicate_succ, List.replicate_zero, List.getElem?_cons_zero, List.getElem?_cons_succ, List.drop_succ_cons, List.drop_zero, List.take_succ_cons, List.take_zero, List.map_append, List.nil_append, List.cons_append, Nat.reduceShiftRight, Nat.reduceMod]; simp
    · simp only [vcV, vcD, Int.reduceEq, Int.reduceNe, Int.reduceLT, Int.reduceLE, Nat.reduceEqDiff, Nat.reduceAdd, reduceIte, reduceCtorEq, Nat.reduceLT, Nat.reduceLeDiff, eq_self, Option.bind_some, Option.map_some, List.map_cons, List.map_nil, List.length_cons, List.length_nil, Option.getD_some, Option.getD_none, List.all_cons, List.all_nil, List.set_cons_zero, List.set_cons_succ, List.replicate_succ, List.replicate_zero, List.getElem?_cons_zero, List.getElem?_cons_succ, List.drop_succ_cons, List.drop_zero, List.take_succ_cons, List.take_zero, List.map_append, List.nil_append, List.cons_append, Nat.reduceShiftRight, Nat.reduceMod]
      have : i = l.length := by (simp only [decide_eq_true_eq, decide_eq_false_iff_not, Bool.not_true, I64, Bool.not_eq_true', Bool.not_eq_false', bne_iff_ne, beq_iff_eq, ne_eq] at *; omega)
      subst this
      rw [List.take_length] at hn
      have : n ∉ l := fun hm => hn n hm rfl
      simp [this]

theorem Ints_s (a b : List Int) (ha : a.length ≤ 1000000000) : Sound Tryd.prog 12 [.sl (ints a), .sl (ints b)] (.bool (decide (a = b))) := by
  refine sound_W f_base_Ints (Nat.le_of_ble_eq_true rfl) ?_
  simp only [c_base_Ints, vcV, vcD, Int.reduceEq, Int.reduceNe, Int.reduceLT, Int.reduceLE, Nat.reduceEqDiff, Nat.reduceAdd, reduceIte, reduceCtorEq, Nat.reduceLT, Nat.reduceLeDiff, eq_self, Option.bind_some, Option.map_some, List.map_cons, List.map_nil, List.length_cons, List.length_nil, Option.getD_some, Option.getD_none, List.all_cons, List.all_nil, List.set_cons_zero, List.set_cons_succ, List.replicate_succ, List.replicate_zero, List.getElem?_cons_zero, List.getElem?_cons_succ, List.drop_succ_cons, List.drop_zero, List.take_succ_cons, List.take_zero, List.map_append, List.nil_append, List.cons_append, Nat.reduceShiftRight, Nat.reduceMod]
  refine brB_split (fun h => ?_) (fun h => ?_)
  · simp only [vcV, vcD, Int.reduceEq, Int.reduceNe, Int.reduceLT, Int.reduceLE, Nat.reduceEqDiff, Nat.reduceAdd, reduceIte, reduceCtorEq, Nat.reduceLT, Nat.reduceLeDiff, eq_self, Option.bind_some, Option.map_some, List.map_cons, List.map_nil, List.length_cons, List.length_nil, Option.getD_some, Option.getD_none, List.all_cons, List.all_nil, List.set_cons_zero, List.set_cons_succ, List.replicate_succ, List.replicate_zero, List.getElem?_cons_zero, List.getElem?_cons_succ, List.drop_succ_cons, List.drop_zero, List.take_succ_cons, List.take_zero, List.map_append, List.nil_append, List.cons_append, Nat.reduceShiftRight, Nat.reduceMod]
    have : a ≠ b := fun hab => by subst hab; simp at h
    simp [this]
  · have hlen : a.length = b.length := by (simp only [decide_eq_true_eq, decide_eq_false_iff_not, Bool.not_true, I64, Bool.not_eq_true', Bool.not_eq_false', bne_iff_ne, beq_iff_eq, ne_eq] at *; omega)
    simp only [vcV, vcD, Int.reduceEq, Int.reduceNe, Int.reduceLT, Int.reduceLE, Nat.reduceEqDiff, Nat.reduceAdd, reduceIte, reduceCtorEq, Nat.reduceLT, Nat.reduceLeDiff, eq_self, Option.bind_some, Option.map_some, List.map_cons, List.map_nil, List.length_cons, List.length_nil, Option.getD_some, Option.getD_none, List.all_cons, List.all_nil, List.set_cons_zero, List.set_cons_succ, List.replicate_succ, List.replicate_zero, List.getElem?_cons_zero, List.getElem?_cons_succ, List.drop_succ_cons, List.drop_zero, List.take_succ_cons, List.take_zero, List.map_append, List.nil_append, List.cons_append, Nat.reduceShiftRight, Nat.reduceMod]
    refine W_loop (α := PSigma fun i : Nat => i ≤ a.length ∧ a.take i = b.take i) (fun i => (envOf [(0, .sl (ints a)), (1, .sl (ints b)), (5, .int .i64 i.1)], noStore)) (fun i => a.length - i.1) ⟨0, by simp⟩ (weakE _ ?_) (fun ⟨i, hi, hn⟩ => ?_)
    · simp only [vcV, vcD, Int.reduceEq, Int.reduceNe, Int.reduceLT, Int.reduceLE, Nat.reduceEqDiff, Nat.reduceAdd, reduceIte, reduceCtorEq, Nat.reduceLT, Nat.reduceLeDiff, eq_self, Option.bind_some, Option.map_some, List.map_cons, List.map_nil, List.length_cons, List.length_nil, Option.getD_some, Option.getD_none, List.all_cons, List.all_nil, List.set_cons_zero, List.set_cons_succ, List.replicate_succ, List.replicate_zero, List.getElem?_cons_zero, List.getElem?_cons_succ, List.drop_succ_cons, List.drop_zero, List.take_succ_cons, List.take_zero, List.map_append, List.nil_append, List.cons_append, Nat.reduceShiftRight, Nat.reduceMod]; rfl
    · simp only [vcV, vcD, Int.reduceEq, Int.reduceNe, Int.reduceLT, Int.reduceLE, Nat.reduceEqDiff, Nat.reduceAdd, reduceIte, reduceCtorEq, Nat.reduceLT, Nat.reduceLeDiff, eq_self, Option.bind_some, Option.map_some, List.map_cons, List.map_nil, List.length_cons, List.length_nil, Option.getD_some, Option.getD_none, List.all_cons, List.all_nil, List.set_cons_zero, List.set_cons_succ, List.replicate_succ, List.replicate_zero, List.getElem?_cons_zero, List.getElem?_cons_succ, List.drop_succ_cons, List.drop_zero, List.take_succ_cons, List.take_zero, List.map_append, List.nil_append, List.cons_append, Nat.reduceShiftRight, Nat.reduceMod]
      refine brB_split (fun h => ?_) (fun h => ?_)
      · have h' : i < a.length := by (simp only [decide_eq_true_eq, decide_eq_false_iff_not, Bool.not_true, I64, Bool.not_eq_true', Bool.not_eq_false', bne_iff_ne, beq_iff_eq, ne_eq] at *; omega)
        have h2 : i < b.length := by omega
        simp only [ints_get a i h', ints_get b i h2, vcV, vcD, Int.reduceEq, Int.reduceNe, Int.reduceLT, Int.reduceLE, Nat.reduceEqDiff, Nat.reduceAdd, reduceIte, reduceCtorEq, Nat.reduceLT, Nat.reduceLeDiff, eq_self, Option.bind_some, Option.map_some, List.map_cons, List.map_nil, List.length_cons, List.length_nil, Option.getD_some, Option.getD_none, List.all_cons, List.all_nil, List.set_cons_zero, List.set_cons_succ, List.replicate_succ, List.replicate_zero, List.getElem?_cons_zero, List.getElem?_cons_succ, List.drop_succ_cons, List.drop_zero, List.take_succ_cons, List.take_zero, List.map_append, List.nil_append, List.cons_append, Nat.reduceShiftRight, Nat.reduceMod]
        refine ⟨by omega, by omega, ?_⟩
        refine brB_split (fun h => ?_) (fun h => ?_)
        · simp only [vcV, vcD, Int.reduceEq, Int.reduceNe, Int.reduceLT, Int.reduceLE, Nat.reduceEqDiff, Nat.reduceAdd, reduceIte, reduceCtorEq, Nat.reduceLT, Nat.reduceLeDiff, eq_self, Option.bind_some, Option.map_some, List.map_cons, List.map_nil, List.length_cons, List.length_nil, Option.getD_some, Option.getD_none, List.all_cons, List.all_nil, List.set_cons_zero, List.set_cons_succ, List.replicate_succ, List.replicate_zero, List.getElem?_cons_zero, List.getElem?_cons_succ, List.drop_succ_cons, List.drop_zero, List.take_succ_cons, List.take_zero, List.map_append, List.nil_append, List.cons_append, Nat.reduceShiftRight, Nat.reduceMod]
          have : a ≠ b := fun hab => by subst hab; simp at h
          simp [this]
        · simp only [vcV, vcD, Int.reduceEq, Int.reduceNe, Int.reduceLT, Int.reduceLE, Nat.reduceEqDiff, Nat.reduceAdd, reduceIte, reduceCtorEq, Nat.reduceLT, Nat.reduceLeDiff, eq_self, Option.bind_some, Option.map_some, List.map_cons, List.map_nil, List.length_cons, List.length_nil, Option.getD_some, Option.getD_none, List.all_cons, List.all_nil, List.set_cons_zero, List.set_cons_succ, List.replicate_succ, List.replicate_zero, List.getElem?_cons_zero, List.getElem?_cons_succ, List.drop_succ_cons, List.drop_zero, List.take_succ_cons, List.take_zero, List.map_append, List.nil_append, List.cons_append, Nat.reduceShiftRight, Nat.reduceMod]
          refine ⟨by (simp only [decide_eq_true_eq, decide_eq_false_iff_not, Bool.not_true, I64, Bool.not_eq_true', Bool.not_eq_false', bne_iff_ne, beq_iff_eq, ne_eq] at *; omega), ⟨i + 1, by omega, ?_⟩, by simp only; omega, weakE _ ?_⟩
          · rw [List.take_succ_eq_append_getElem h', List.take_succ_eq_append_getElem h2, hn]
            simp at h; rw [h]
          · simp only [vcV, vcD, Int.reduceEq, Int.reduceNe, Int.reduceLT, Int.reduceLE, Nat.reduceEqDiff, Nat.reduceAdd, reduceIte, reduceCtorEq, Nat.reduceLT, Nat.reduceLeDiff, eq_self, Option.bind_some, Option.map_some, List.map_cons, List.map_nil, List.length_cons, List.length_nil, Option.getD_some, Option.getD_none, List.all_cons, List.all_nil, List.set_cons_zero, List.set_cons_succ, List.replicate_succ, List.replicate_zero, List.getElem?_cons_zero, List.getElem?_cons_succ, List.drop_succ_cons, List.drop_zero, List.take_succ_cons, List.take_zero, List.map_append, List.nil_append, List.cons_append, Nat.reduceShiftRight, Nat.reduceMod]; simp
      · simp only [vcV, vcD, Int.reduceEq, Int.reduceNe, Int.reduceLT, Int.reduceLE, Nat.reduceEqDiff, Nat.reduceAdd, reduceIte, reduceCtorEq, Nat.reduceLT, Nat.reduceLeDiff, eq_self, Option.bind_some, Option.map_some, List.map_cons, List.map_nil, List.length_cons, List.length_nil, Option.getD_some, Option.getD_none, List.all_cons, List.all_nil, List.set_cons_zero, List.set_cons_succ, List.replicate_succ, List.replicate_zero, List.getElem?_cons_zero, List.getElem?_cons_succ, List.drop_succ_cons, List.drop_zero, List.take_succ_cons, List.take_zero, List.map_append, List.nil_append, List.cons_append, Nat.reduceShiftRight, Nat.reduceMod]
        have : i = a.length := by (simp only [decide_eq_true_eq, decide_eq_false_iff_not, Bool.not_true, I64, Bool.not_eq_true', Bool.not_eq_false', bne_iff_ne, beq_iff_eq, ne_eq] at *; omega)
        subst this
        have hb : a = b := by
          have := hn
          rw [List.take_length, hlen, List.take_length] at this
          exact this
        simp [hb]

def S63 (n : Int) : Prop := -9223372036854775807 ≤ n ∧ n ≤ 9223372036854775807
end Go.Proofs.YtngjhppgojfceaaDoor

/- Lowest terms, gains and charges, in plain Lean. By an AI agent; nothing here is trusted. -/
namespace Go.Proofs.YtngjhppgojfceaaDoor
open Go.Av

end Go.Proofs.YtngjhppgojfceaaDoor

/- Contracts: samples, times, dead times. By an AI agent; nothing here is trusted. -/
namespace Go.Proofs.YtngjhppgojfceaaDoor
open Go.Av

theorem isSized_s (n most : Int) (hm : S63 most) : Sound Tryd.prog 66 [.int .i64 n, .int .i64 most] (.bool (decide (-most ≤ n ∧ n ≤ most))) := by
  refine sound_W f_pulse_isSized (Nat.le_of_ble_eq_true rfl) ?_
  unfold S63 at hm
  simp only [c_pulse_isSized, vcV, vcD, Int.reduceEq, Int.reduceNe, Int.reduceLT, Int.reduceLE, Nat.reduceEqDiff, Nat.reduceAdd, reduceIte, reduceCtorEq, Nat.reduceLT, Nat.reduceLeDiff, eq_self, Option.bind_some, Option.map_some, List.map_cons, List.map_nil, List.length_cons, List.length_nil, Option.getD_some, Option.getD_none, List.all_cons, List.all_nil, List.set_cons_zero, List.set_cons_succ, List.replicate_succ, List.replicate_zero, List.getElem?_cons_zero, List.getElem?_cons_succ, List.drop_succ_cons, List.drop_zero, List.take_succ_cons, List.take_zero, List.map_append, List.nil_append, List.cons_append, Nat.reduceShiftRight, Nat.reduceMod]
  refine ⟨by unfold I64; omega, ?_⟩
  refine callS_of (within_s _ _ _) ?_
  simp only [vcV, vcD, Int.reduceEq, Int.reduceNe, Int.reduceLT, Int.reduceLE, Nat.reduceEqDiff, Nat.reduceAdd, reduceIte, reduceCtorEq, Nat.reduceLT, Nat.reduceLeDiff, eq_self, Option.bind_some, Option.map_some, List.map_cons, List.map_nil, List.length_cons, List.length_nil, Option.getD_some, Option.getD_none, List.all_cons, List.all_nil, List.set_cons_zero, List.set_cons_succ, List.replicate_succ, List.replicate_zero, List.getElem?_cons_zero, List.getElem?_cons_succ, List.drop_succ_cons, List.drop_zero, List.take_succ_cons, List.take_zero, List.map_append, List.nil_append, List.cons_append, Nat.reduceShiftRight, Nat.reduceMod]
theorem isSample_s (n : Int) : Sound Tryd.prog 33 [.int .i64 n] (.bool (smp n)) := by
  refine sound_W f_pulse_isSample (Nat.le_of_ble_eq_true rfl) ?_
  simp only [c_pulse_isSample, vcV, vcD, Int.reduceEq, Int.reduceNe, Int.reduceLT, Int.reduceLE, Nat.reduceEqDiff, Nat.reduceAdd, reduceIte, reduceCtorEq, Nat.reduceLT, Nat.reduceLeDiff, eq_self, Option.bind_some, Option.map_some, List.map_cons, List.map_nil, List.length_cons, List.length_nil, Option.getD_some, Option.getD_none, List.all_cons, List.all_nil, List.set_cons_zero, List.set_cons_succ, List.replicate_succ, List.replicate_zero, List.getElem?_cons_zero, List.getElem?_cons_succ, List.drop_succ_cons, List.drop_zero, List.take_succ_cons, List.take_zero, List.map_append, List.nil_append, List.cons_append, Nat.reduceShiftRight, Nat.reduceMod]
  refine callS_of (isSized_s _ _ (by unfold S63; omega)) ?_
  simp only [vcV, vcD, Int.reduceEq, Int.reduceNe, Int.reduceLT, Int.reduceLE, Nat.reduceEqDiff, Nat.reduceAdd, reduceIte, reduceCtorEq, Nat.reduceLT, Nat.reduceLeDiff, eq_self, Option.bind_some, Option.map_some, List.map_cons, List.map_nil, List.length_cons, List.length_nil, Option.getD_some, Option.getD_none, List.all_cons, List.all_nil, List.set_cons_zero, List.set_cons_succ, List.replicate_succ, List.replicate_zero, List.getElem?_cons_zero, List.getElem?_cons_succ, List.drop_succ_cons, List.drop_zero, List.take_succ_cons, List.take_zero, List.map_append, List.nil_append, List.cons_append, Nat.reduceShiftRight, Nat.reduceMod]
  unfold smp
  exact bool_eq Iff.rfl
theorem IsSample_s (n : Int) : Sound Tryd.prog 7 [.int .i64 n] (.bool (smp n)) := by
  refine sound_W f_ref02_IsSample (Nat.le_of_ble_eq_true rfl) ?_
  simp only [c_ref02_IsSample, vcV, vcD, Int.reduceEq, Int.reduceNe, Int.reduceLT, Int.reduceLE, Nat.reduceEqDiff, Nat.reduceAdd, reduceIte, reduceCtorEq, Nat.reduceLT, Nat.reduceLeDiff, eq_self, Option.bind_some, Option.map_some, List.map_cons, List.map_nil, List.length_cons, List.length_nil, Option.getD_some, Option.getD_none, List.all_cons, List.all_nil, List.set_cons_zero, List.set_cons_succ, List.replicate_succ, List.replicate_zero, List.getElem?_cons_zero, List.getElem?_cons_succ, List.drop_succ_cons, List.drop_zero, List.take_succ_cons, List.take_zero, List.map_append, List.nil_append, List.cons_append, Nat.reduceShiftRight, Nat.reduceMod]
  refine callS_of (Within_s _ _ _) ?_
  simp only [vcV, vcD, Int.reduceEq, Int.reduceNe, Int.reduceLT, Int.reduceLE, Nat.reduceEqDiff, Nat.reduceAdd, reduceIte, reduceCtorEq, Nat.reduceLT, Nat.reduceLeDiff, eq_self, Option.bind_some, Option.map_some, List.map_cons, List.map_nil, List.length_cons, List.length_nil, Option.getD_some, Option.getD_none, List.all_cons, List.all_nil, List.set_cons_zero, List.set_cons_succ, List.replicate_succ, List.replicate_zero, List.getElem?_cons_zero, List.getElem?_cons_succ, List.drop_succ_cons, List.drop_zero, List.take_succ_cons, List.take_zero, List.map_append, List.nil_append, List.cons_append, Nat.reduceShiftRight, Nat.reduceMod]
  unfold smp
  exact bool_eq Iff.rfl
theorem isTick_s (n : Int) : Sound Tryd.prog 35 [.int .i64 n] (.bool (tick n)) := by
  refine sound_W f_pulse_isTick (Nat.le_of_ble_eq_true rfl) ?_
  simp only [c_pulse_isTick, vcV, vcD, Int.reduceEq, Int.reduceNe, Int.reduceLT, Int.reduceLE, Nat.reduceEqDiff, Nat.reduceAdd, reduceIte, reduceCtorEq, Nat.reduceLT, Nat.reduceLeDiff, eq_self, Option.bind_some, Option.map_some, List.map_cons, List.map_nil, List.length_cons, List.length_nil, Option.getD_some, Option.getD_none, List.all_cons, List.all_nil, List.set_cons_zero, List.set_cons_succ, List.replicate_succ, List.replicate_zero, List.getElem?_cons_zero, List.getElem?_cons_succ, List.drop_succ_cons, List.drop_zero, List.take_succ_cons, List.take_zero, List.map_append, List.nil_append, List.cons_append, Nat.reduceShiftRight, Nat.reduceMod]
  refine callS_of (within_s _ _ _) ?_
  simp only [vcV, vcD, Int.reduceEq, Int.reduceNe, Int.reduceLT, Int.reduceLE, Nat.reduceEqDiff, Nat.reduceAdd, reduceIte, reduceCtorEq, Nat.reduceLT, Nat.reduceLeDiff, eq_self, Option.bind_some, Option.map_some, List.map_cons, List.map_nil, List.length_cons, List.length_nil, Option.getD_some, Option.getD_none, List.all_cons, List.all_nil, List.set_cons_zero, List.set_cons_succ, List.replicate_succ, List.replicate_zero, List.getElem?_cons_zero, List.getElem?_cons_succ, List.drop_succ_cons, List.drop_zero, List.take_succ_cons, List.take_zero, List.map_append, List.nil_append, List.cons_append, Nat.reduceShiftRight, Nat.reduceMod]
  unfold tick
  exact bool_eq Iff.rfl
theorem timesErr_s (l : List Int) : Sound Tryd.prog 34 [.sl (ints l)] (.int .i64 (timesE l)) := by
  refine sound_W f_pulse_timesErr (Nat.le_of_ble_eq_true rfl) ?_
  simp only [c_pulse_timesErr, vcV, vcD, Int.reduceEq, Int.reduceNe, Int.reduceLT, Int.reduceLE, Nat.reduceEqDiff, Nat.reduceAdd, reduceIte, reduceCtorEq, Nat.reduceLT, Nat.reduceLeDiff, eq_self, Option.bind_some, Option.map_some, List.map_cons, List.map_nil, List.length_cons, List.length_nil, Option.getD_some, Option.getD_none, List.all_cons, List.all_nil, List.set_cons_zero, List.set_cons_succ, List.replicate_succ, List.replicate_zero, List.getElem?_cons_zero, List.getElem?_cons_succ, List.drop_succ_cons, List.drop_zero, List.take_succ_cons, List.take_zero, List.map_append, List.nil_append, List.cons_append, Nat.reduceShiftRight, Nat.reduceMod]
  by_cases h40 : 40 < l.length
  · have h' : (40 : Int) < l.length := by omega
    have he : timesE l = 8 := by unfold timesE; rw [if_pos h40]
    simp only [h', he, vcV, vcD, Int.reduceEq, Int.reduceNe, Int.reduceLT, Int.reduceLE, Nat.reduceEqDiff, Nat.reduceAdd, reduceIte, reduceCtorEq, Nat.reduceLT, Nat.reduceLeDiff, eq_self, Option.bind_some, Option.map_some, List.map_cons, List.map_nil, List.length_cons, List.length_nil, Option.getD_some, Option.getD_none, List.all_cons, List.all_nil, List.set_cons_zero, List.set_cons_succ, List.replicate_succ, List.replicate_zero, List.getElem?_cons_zero, List.getElem?_cons_succ, List.drop_succ_cons, List.drop_zero, List.take_succ_cons, List.take_zero, List.map_append, List.nil_append, List.cons_append, Nat.reduceShiftRight, Nat.reduceMod]
  · have h' : ¬ (40 : Int) < l.length := by omega
    have he : timesE l = tmsE 0 l := by unfold timesE; rw [if_neg h40]
    rw [he]
    simp only [h', vcV, vcD, Int.reduceEq, Int.reduceNe, Int.reduceLT, Int.reduceLE, Nat.reduceEqDiff, Nat.reduceAdd, reduceIte, reduceCtorEq, Nat.reduceLT, Nat.reduceLeDiff, eq_self, Option.bind_some, Option.map_some, List.map_cons, List.map_nil, List.length_cons, List.length_nil, Option.getD_some, Option.getD_none, List.all_cons, List.all_nil, List.set_cons_zero, List.set_cons_succ, List.replicate_succ, List.replicate_zero, List.getElem?_cons_zero, List.getElem?_cons_succ, List.drop_succ_cons, List.drop_zero, List.take_succ_cons, List.take_zero, List.map_append, List.nil_append, List.cons_append, Nat.reduceShiftRight, Nat.reduceMod]
    refine W_loop (t := .mk) (α := PSigma fun p : Nat × Int => p.1 ≤ l.length ∧ tmsE p.2 (l.drop p.1) = tmsE 0 l) (fun ⟨p, _⟩ => (envOf [(3, .int .i64 p.2), (10, .sl (ints l)), (11, .int .i64 l.length), (12, .int .i64 p.1)], stOf [])) (fun p => l.length - p.1.1) ⟨(0, 0), Nat.zero_le _, rfl⟩ ?_ (fun ⟨⟨i, last⟩, hi, ht⟩ => ?_)
    · refine weakX [] (of_decide_eq_true rfl) (of_decide_eq_true rfl) ?_
      (simp only [vcW, vcV, vcD, Int.reduceEq, Int.reduceNe, Int.reduceLT, Int.reduceLE, Nat.reduceEqDiff, Nat.reduceAdd, reduceIte, reduceCtorEq, Nat.reduceLT, Nat.reduceLeDiff, eq_self, Option.bind_some, Option.map_some, List.map_cons, List.map_nil, List.length_cons, List.length_nil, Option.getD_some, Option.getD_none, List.all_cons, List.all_nil, List.set_cons_zero, List.set_cons_succ, List.replicate_succ, List.replicate_zero, List.getElem?_cons_zero, List.getElem?_cons_succ, List.drop_succ_cons, List.drop_zero, List.take_succ_cons, List.take_zero, List.map_append, List.nil_append, List.cons_append, Nat.reduceShiftRight, Nat.reduceMod])
      (repeat' first | exact trivial | (with_reducible exact RnB.fxB (ints_fxB _)) | (with_reducible rfl) | (with_reducible refine And.intro ?_ ?_) | (with_reducible refine RnB.bb ?_; simp only [vcW, vcV, vcD, Int.reduceEq, Int.reduceNe, Int.reduceLT, Int.reduceLE, Nat.reduceEqDiff, Nat.reduceAdd, reduceIte, reduceCtorEq, Nat.reduceLT, Nat.reduceLeDiff, eq_self, Option.bind_some, Option.map_some, List.map_cons, List.map_nil, List.length_cons, List.length_nil, Option.getD_some, Option.getD_none, List.all_cons, List.all_nil, List.set_cons_zero, List.set_cons_succ, List.replicate_succ, List.replicate_zero, List.getElem?_cons_zero, List.getElem?_cons_succ, List.drop_succ_cons, List.drop_zero, List.take_succ_cons, List.take_zero, List.map_append, List.nil_append, List.cons_append, Nat.reduceShiftRight, Nat.reduceMod]) | (with_reducible refine RnB.nb ?_; simp only [vcW, vcV, vcD, Int.reduceEq, Int.reduceNe, Int.reduceLT, Int.reduceLE, Nat.reduceEqDiff, Nat.reduceAdd, reduceIte, reduceCtorEq, Nat.reduceLT, Nat.reduceLeDiff, eq_self, Option.bind_some, Option.map_some, List.map_cons, List.map_nil, List.length_cons, List.length_nil, Option.getD_some, Option.getD_none, List.all_cons, List.all_nil, List.set_cons_zero, List.set_cons_succ, List.replicate_succ, List.replicate_zero, List.getElem?_cons_zero, List.getElem?_cons_succ, List.drop_succ_cons, List.drop_zero, List.take_succ_cons, List.take_zero, List.map_append, List.nil_append, List.cons_append, Nat.reduceShiftRight, Nat.reduceMod]) | (with_reducible refine RnB.ii ?_) | (with_reducible refine RnB.app ?_) | (with_reducible refine RnB.fxB ?_; simp only [vcW, vcV, vcD, Int.reduceEq, Int.reduceNe, Int.reduceLT, Int.reduceLE, Nat.reduceEqDiff, Nat.reduceAdd, reduceIte, reduceCtorEq, Nat.reduceLT, Nat.reduceLeDiff, eq_self, Option.bind_some, Option.map_some, List.map_cons, List.map_nil, List.length_cons, List.length_nil, Option.getD_some, Option.getD_none, List.all_cons, List.all_nil, List.set_cons_zero, List.set_cons_succ, List.replicate_succ, List.replicate_zero, List.getElem?_cons_zero, List.getElem?_cons_succ, List.drop_succ_cons, List.drop_zero, List.take_succ_cons, List.take_zero, List.map_append, List.nil_append, List.cons_append, Nat.reduceShiftRight, Nat.reduceMod]) | omega)
    · simp only at hi ht
      by_cases h2 : i < l.length
      · have h2' : (i : Int) < l.length := by omega
        rw [List.drop_eq_getElem_cons h2, tmsE] at ht
        simp only [h2', ints_get l i h2, vcV, vcD, Int.reduceEq, Int.reduceNe, Int.reduceLT, Int.reduceLE, Nat.reduceEqDiff, Nat.reduceAdd, reduceIte, reduceCtorEq, Nat.reduceLT, Nat.reduceLeDiff, eq_self, Option.bind_some, Option.map_some, List.map_cons, List.map_nil, List.length_cons, List.length_nil, Option.getD_some, Option.getD_none, List.all_cons, List.all_nil, List.set_cons_zero, List.set_cons_succ, List.replicate_succ, List.replicate_zero, List.getElem?_cons_zero, List.getElem?_cons_succ, List.drop_succ_cons, List.drop_zero, List.take_succ_cons, List.take_zero, List.map_append, List.nil_append, List.cons_append, Nat.reduceShiftRight, Nat.reduceMod]
        refine ⟨by omega, ?_⟩
        refine callS_of (isTick_s _) ?_
        simp only [vcV, vcD, Int.reduceEq, Int.reduceNe, Int.reduceLT, Int.reduceLE, Nat.reduceEqDiff, Nat.reduceAdd, reduceIte, reduceCtorEq, Nat.reduceLT, Nat.reduceLeDiff, eq_self, Option.bind_some, Option.map_some, List.map_cons, List.map_nil, List.length_cons, List.length_nil, Option.getD_some, Option.getD_none, List.all_cons, List.all_nil, List.set_cons_zero, List.set_cons_succ, List.replicate_succ, List.replicate_zero, List.getElem?_cons_zero, List.getElem?_cons_succ, List.drop_succ_cons, List.drop_zero, List.take_succ_cons, List.take_zero, List.map_append, List.nil_append, List.cons_append, Nat.reduceShiftRight, Nat.reduceMod]
        refine callS_of (unless_s _ _) ?_
        simp only [vcV, vcD, Int.reduceEq, Int.reduceNe, Int.reduceLT, Int.reduceLE, Nat.reduceEqDiff, Nat.reduceAdd, reduceIte, reduceCtorEq, Nat.reduceLT, Nat.reduceLeDiff, eq_self, Option.bind_some, Option.map_some, List.map_cons, List.map_nil, List.length_cons, List.length_nil, Option.getD_some, Option.getD_none, List.all_cons, List.all_nil, List.set_cons_zero, List.set_cons_succ, List.replicate_succ, List.replicate_zero, List.getElem?_cons_zero, List.getElem?_cons_succ, List.drop_succ_cons, List.drop_zero, List.take_succ_cons, List.take_zero, List.map_append, List.nil_append, List.cons_append, Nat.reduceShiftRight, Nat.reduceMod]
        refine callS_of (unless_s _ _) ?_
        simp only [vcV, vcD, Int.reduceEq, Int.reduceNe, Int.reduceLT, Int.reduceLE, Nat.reduceEqDiff, Nat.reduceAdd, reduceIte, reduceCtorEq, Nat.reduceLT, Nat.reduceLeDiff, eq_self, Option.bind_some, Option.map_some, List.map_cons, List.map_nil, List.length_cons, List.length_nil, Option.getD_some, Option.getD_none, List.all_cons, List.all_nil, List.set_cons_zero, List.set_cons_succ, List.replicate_succ, List.replicate_zero, List.getElem?_cons_zero, List.getElem?_cons_succ, List.drop_succ_cons, List.drop_zero, List.take_succ_cons, List.take_zero, List.map_append, List.nil_append, List.cons_append, Nat.reduceShiftRight, Nat.reduceMod]
        refine callS_of (first2_s _ _) ?_
        simp only [vcV, vcD, Int.reduceEq, Int.reduceNe, Int.reduceLT, Int.reduceLE, Nat.reduceEqDiff, Nat.reduceAdd, reduceIte, reduceCtorEq, Nat.reduceLT, Nat.reduceLeDiff, eq_self, Option.bind_some, Option.map_some, List.map_cons, List.map_nil, List.length_cons, List.length_nil, Option.getD_some, Option.getD_none, List.all_cons, List.all_nil, List.set_cons_zero, List.set_cons_succ, List.replicate_succ, List.replicate_zero, List.getElem?_cons_zero, List.getElem?_cons_succ, List.drop_succ_cons, List.drop_zero, List.take_succ_cons, List.take_zero, List.map_append, List.nil_append, List.cons_append, Nat.reduceShiftRight, Nat.reduceMod]
        cases htk : tick l[i] with
        | false =>
          rw [htk, if_pos rfl] at ht
          simp only [← ht, vcV, vcD, Int.reduceEq, Int.reduceNe, Int.reduceLT, Int.reduceLE, Nat.reduceEqDiff, Nat.reduceAdd, reduceIte, reduceCtorEq, Nat.reduceLT, Nat.reduceLeDiff, eq_self, Option.bind_some, Option.map_some, List.map_cons, List.map_nil, List.length_cons, List.length_nil, Option.getD_some, Option.getD_none, List.all_cons, List.all_nil, List.set_cons_zero, List.set_cons_succ, List.replicate_succ, List.replicate_zero, List.getElem?_cons_zero, List.getElem?_cons_succ, List.drop_succ_cons, List.drop_zero, List.take_succ_cons, List.take_zero, List.map_append, List.nil_append, List.cons_append, Nat.reduceShiftRight, Nat.reduceMod]
        | true =>
          rw [htk] at ht
          simp only [Bool.true_eq_false, if_false] at ht
          by_cases h3 : l[i] < last
          · rw [if_pos h3] at ht
            have h3' : ¬ last ≤ l[i] := by omega
            simp only [h3', ← ht, vcV, vcD, Int.reduceEq, Int.reduceNe, Int.reduceLT, Int.reduceLE, Nat.reduceEqDiff, Nat.reduceAdd, reduceIte, reduceCtorEq, Nat.reduceLT, Nat.reduceLeDiff, eq_self, Option.bind_some, Option.map_some, List.map_cons, List.map_nil, List.length_cons, List.length_nil, Option.getD_some, Option.getD_none, List.all_cons, List.all_nil, List.set_cons_zero, List.set_cons_succ, List.replicate_succ, List.replicate_zero, List.getElem?_cons_zero, List.getElem?_cons_succ, List.drop_succ_cons, List.drop_zero, List.take_succ_cons, List.take_zero, List.map_append, List.nil_append, List.cons_append, Nat.reduceShiftRight, Nat.reduceMod]
          · rw [if_neg h3] at ht
            have h3' : last ≤ l[i] := by omega
            simp only [h3', vcV, vcD, Int.reduceEq, Int.reduceNe, Int.reduceLT, Int.reduceLE, Nat.reduceEqDiff, Nat.reduceAdd, reduceIte, reduceCtorEq, Nat.reduceLT, Nat.reduceLeDiff, eq_self, Option.bind_some, Option.map_some, List.map_cons, List.map_nil, List.length_cons, List.length_nil, Option.getD_some, Option.getD_none, List.all_cons, List.all_nil, List.set_cons_zero, List.set_cons_succ, List.replicate_succ, List.replicate_zero, List.getElem?_cons_zero, List.getElem?_cons_succ, List.drop_succ_cons, List.drop_zero, List.take_succ_cons, List.take_zero, List.map_append, List.nil_append, List.cons_append, Nat.reduceShiftRight, Nat.reduceMod]
            refine ⟨by unfold I64; omega, ⟨(i + 1, l[i]), h2, ht⟩, by simp only; omega, ?_⟩
            refine weakX [] (of_decide_eq_true rfl) (of_decide_eq_true rfl) ?_
            (simp only [vcW, vcV, vcD, Int.reduceEq, Int.reduceNe, Int.reduceLT, Int.reduceLE, Nat.reduceEqDiff, Nat.reduceAdd, reduceIte, reduceCtorEq, Nat.reduceLT, Nat.reduceLeDiff, eq_self, Option.bind_some, Option.map_some, List.map_cons, List.map_nil, List.length_cons, List.length_nil, Option.getD_some, Option.getD_none, List.all_cons, List.all_nil, List.set_cons_zero, List.set_cons_succ, List.replicate_succ, List.replicate_zero, List.getElem?_cons_zero, List.getElem?_cons_succ, List.drop_succ_cons, List.drop_zero, List.take_succ_cons, List.take_zero, List.map_append, List.nil_append, List.cons_append, Nat.reduceShiftRight, Nat.reduceMod])
            (repeat' first | exact trivial | (with_reducible exact RnB.fxB (ints_fxB _)) | (with_reducible rfl) | (with_reducible refine And.intro ?_ ?_) | (with_reducible refine RnB.bb ?_; simp only [vcW, vcV, vcD, Int.reduceEq, Int.reduceNe, Int.reduceLT, Int.reduceLE, Nat.reduceEqDiff, Nat.reduceAdd, reduceIte, reduceCtorEq, Nat.reduceLT, Nat.reduceLeDiff, eq_self, Option.bind_some, Option.map_some, List.map_cons, List.map_nil, List.length_cons, List.length_nil, Option.getD_some, Option.getD_none, List.all_cons, List.all_nil, List.set_cons_zero, List.set_cons_succ, List.replicate_succ, List.replicate_zero, List.getElem?_cons_zero, List.getElem?_cons_succ, List.drop_succ_cons, List.drop_zero, List.take_succ_cons, List.take_zero, List.map_append, List.nil_append, List.cons_append, Nat.reduceShiftRight, Nat.reduceMod]) | (with_reducible refine RnB.nb ?_; simp only [vcW, vcV, vcD, Int.reduceEq, Int.reduceNe, Int.reduceLT, Int.reduceLE, Nat.reduceEqDiff, Nat.reduceAdd, reduceIte, reduceCtorEq, Nat.reduceLT, Nat.reduceLeDiff, eq_self, Option.bind_some, Option.map_some, List.map_cons, List.map_nil, List.length_cons, List.length_nil, Option.getD_some, Option.getD_none, List.all_cons, List.all_nil, List.set_cons_zero, List.set_cons_succ, List.replicate_succ, List.replicate_zero, List.getElem?_cons_zero, List.getElem?_cons_succ, List.drop_succ_cons, List.drop_zero, List.take_succ_cons, List.take_zero, List.map_append, List.nil_append, List.cons_append, Nat.reduceShiftRight, Nat.reduceMod]) | (with_reducible refine RnB.ii ?_) | (with_reducible refine RnB.app ?_) | (with_reducible refine RnB.fxB ?_; simp only [vcW, vcV, vcD, Int.reduceEq, Int.reduceNe, Int.reduceLT, Int.reduceLE, Nat.reduceEqDiff, Nat.reduceAdd, reduceIte, reduceCtorEq, Nat.reduceLT, Nat.reduceLeDiff, eq_self, Option.bind_some, Option.map_some, List.map_cons, List.map_nil, List.length_cons, List.length_nil, Option.getD_some, Option.getD_none, List.all_cons, List.all_nil, List.set_cons_zero, List.set_cons_succ, List.replicate_succ, List.replicate_zero, List.getElem?_cons_zero, List.getElem?_cons_succ, List.drop_succ_cons, List.drop_zero, List.take_succ_cons, List.take_zero, List.map_append, List.nil_append, List.cons_append, Nat.reduceShiftRight, Nat.reduceMod]) | omega)
      · have h2' : ¬ (i : Int) < l.length := by omega
        rw [List.drop_eq_nil_of_le (by omega)] at ht
        simp only [h2', ← ht, tmsE, vcV, vcD, Int.reduceEq, Int.reduceNe, Int.reduceLT, Int.reduceLE, Nat.reduceEqDiff, Nat.reduceAdd, reduceIte, reduceCtorEq, Nat.reduceLT, Nat.reduceLeDiff, eq_self, Option.bind_some, Option.map_some, List.map_cons, List.map_nil, List.length_cons, List.length_nil, Option.getD_some, Option.getD_none, List.all_cons, List.all_nil, List.set_cons_zero, List.set_cons_succ, List.replicate_succ, List.replicate_zero, List.getElem?_cons_zero, List.getElem?_cons_succ, List.drop_succ_cons, List.drop_zero, List.take_succ_cons, List.take_zero, List.map_append, List.nil_append, List.cons_append, Nat.reduceShiftRight, Nat.reduceMod]

def keptE (dead : Int) (l : List Int) : Int := if timesE l ≠ 0 then timesE l else if tick dead then 0 else 2
def keptO (dead : Int) (l : List Int) : List Int := if keptE dead l = 0 then kept dead l else []
theorem keptE_0 {dead : Int} {l : List Int} (h1 : timesE l = 0) (h2 : 0 ≤ dead ∧ dead ≤ 1000000000000) : keptE dead l = 0 ∧ keptO dead l = kept dead l := by
  have : keptE dead l = 0 := by unfold keptE; rw [if_neg (by simp [h1]), if_pos (tick_iff.2 h2)]
  exact ⟨this, by unfold keptO; rw [if_pos this]⟩
theorem KeptAfter_s (l : List Int) (dead : Int) : Sound Tryd.prog 11 [.sl (ints l), .int .i64 dead] (.tup [.sl (ints (keptO dead l)), .int .i64 (keptE dead l)]) := by
  refine sound_W f_pulse_KeptAfter (Nat.le_of_ble_eq_true rfl) ?_
  have hmax := maxLen_big
  simp only [c_pulse_KeptAfter, vcV, vcD, Int.reduceEq, Int.reduceNe, Int.reduceLT, Int.reduceLE, Nat.reduceEqDiff, Nat.reduceAdd, reduceIte, reduceCtorEq, Nat.reduceLT, Nat.reduceLeDiff, eq_self, Option.bind_some, Option.map_some, List.map_cons, List.map_nil, List.length_cons, List.length_nil, Option.getD_some, Option.getD_none, List.all_cons, List.all_nil, List.set_cons_zero, List.set_cons_succ, List.replicate_succ, List.replicate_zero, List.getElem?_cons_zero, List.getElem?_cons_succ, List.drop_succ_cons, List.drop_zero, List.take_succ_cons, List.take_zero, List.map_append, List.nil_append, List.cons_append, Nat.reduceShiftRight, Nat.reduceMod]
  refine callS_of (timesErr_s l) ?_
  simp only [vcV, vcD, Int.reduceEq, Int.reduceNe, Int.reduceLT, Int.reduceLE, Nat.reduceEqDiff, Nat.reduceAdd, reduceIte, reduceCtorEq, Nat.reduceLT, Nat.reduceLeDiff, eq_self, Option.bind_some, Option.map_some, List.map_cons, List.map_nil, List.length_cons, List.length_nil, Option.getD_some, Option.getD_none, List.all_cons, List.all_nil, List.set_cons_zero, List.set_cons_succ, List.replicate_succ, List.replicate_zero, List.getElem?_cons_zero, List.getElem?_cons_succ, List.drop_succ_cons, List.drop_zero, List.take_succ_cons, List.take_zero, List.map_append, List.nil_append, List.cons_append, Nat.reduceShiftRight, Nat.reduceMod]
  refine callS_of (isTick_s _) ?_
  simp only [vcV, vcD, Int.reduceEq, Int.reduceNe, Int.reduceLT, Int.reduceLE, Nat.reduceEqDiff, Nat.reduceAdd, reduceIte, reduceCtorEq, Nat.reduceLT, Nat.reduceLeDiff, eq_self, Option.bind_some, Option.map_some, List.map_cons, List.map_nil, List.length_cons, List.length_nil, Option.getD_some, Option.getD_none, List.all_cons, List.all_nil, List.set_cons_zero, List.set_cons_succ, List.replicate_succ, List.replicate_zero, List.getElem?_cons_zero, List.getElem?_cons_succ, List.drop_succ_cons, List.drop_zero, List.take_succ_cons, List.take_zero, List.map_append, List.nil_append, List.cons_append, Nat.reduceShiftRight, Nat.reduceMod]
  refine callS_of (unless_s _ _) ?_
  simp only [vcV, vcD, Int.reduceEq, Int.reduceNe, Int.reduceLT, Int.reduceLE, Nat.reduceEqDiff, Nat.reduceAdd, reduceIte, reduceCtorEq, Nat.reduceLT, Nat.reduceLeDiff, eq_self, Option.bind_some, Option.map_some, List.map_cons, List.map_nil, List.length_cons, List.length_nil, Option.getD_some, Option.getD_none, List.all_cons, List.all_nil, List.set_cons_zero, List.set_cons_succ, List.replicate_succ, List.replicate_zero, List.getElem?_cons_zero, List.getElem?_cons_succ, List.drop_succ_cons, List.drop_zero, List.take_succ_cons, List.take_zero, List.map_append, List.nil_append, List.cons_append, Nat.reduceShiftRight, Nat.reduceMod]
  refine callS_of (first2_s _ _) ?_
  simp only [vcV, vcD, Int.reduceEq, Int.reduceNe, Int.reduceLT, Int.reduceLE, Nat.reduceEqDiff, Nat.reduceAdd, reduceIte, reduceCtorEq, Nat.reduceLT, Nat.reduceLeDiff, eq_self, Option.bind_some, Option.map_some, List.map_cons, List.map_nil, List.length_cons, List.length_nil, Option.getD_some, Option.getD_none, List.all_cons, List.all_nil, List.set_cons_zero, List.set_cons_succ, List.replicate_succ, List.replicate_zero, List.getElem?_cons_zero, List.getElem?_cons_succ, List.drop_succ_cons, List.drop_zero, List.take_succ_cons, List.take_zero, List.map_append, List.nil_append, List.cons_append, Nat.reduceShiftRight, Nat.reduceMod]
  have he : (if timesE l ≠ 0 then timesE l else if tick dead = true then 0 else 2) = keptE dead l := rfl
  rw [he]
  by_cases h0 : keptE dead l = 0
  · have hok : timesE l = 0 ∧ tick dead = true := by
      unfold keptE at h0
      split at h0
      · contradiction
      · rename_i hq
        split at h0
        · exact ⟨by simpa using hq, by assumption⟩
        · cases h0
    obtain ⟨o1, o2, o3⟩ := timesE_ok hok.1
    have hdd := tick_iff.1 hok.2
    have hO : keptO dead l = kept dead l := by unfold keptO; rw [if_pos h0]
    rw [hO, h0]
    simp only [h0, vcV, vcD, Int.reduceEq, Int.reduceNe, Int.reduceLT, Int.reduceLE, Nat.reduceEqDiff, Nat.reduceAdd, reduceIte, reduceCtorEq, Nat.reduceLT, Nat.reduceLeDiff, eq_self, Option.bind_some, Option.map_some, List.map_cons, List.map_nil, List.length_cons, List.length_nil, Option.getD_some, Option.getD_none, List.all_cons, List.all_nil, List.set_cons_zero, List.set_cons_succ, List.replicate_succ, List.replicate_zero, List.getElem?_cons_zero, List.getElem?_cons_succ, List.drop_succ_cons, List.drop_zero, List.take_succ_cons, List.take_zero, List.map_append, List.nil_append, List.cons_append, Nat.reduceShiftRight, Nat.reduceMod]
    refine W_loop (t := .mk) (α := PSigma fun i : Nat => i ≤ l.length) (fun ⟨i, _⟩ => (envOf [(1, .int .i64 dead), (7, .buf 100 (kp dead l i).length), (20, .sl (ints l)), (21, .int .i64 l.length), (22, .int .i64 i)], stOf [(100, ⟨3, 1, ints (kp dead l i)⟩)])) (fun p => l.length - p.1) ⟨0, Nat.zero_le _⟩ ?_ (fun ⟨i, hi⟩ => ?_)
    · have z1 : ints (kp dead l 0) = [] := rfl
      have z2 : (kp dead l 0).length = 0 := rfl
      refine weakX [(100, none)] (of_decide_eq_true rfl) (of_decide_eq_true rfl) ?_
      (simp only [z1, z2, vcW, vcV, vcD, Int.reduceEq, Int.reduceNe, Int.reduceLT, Int.reduceLE, Nat.reduceEqDiff, Nat.reduceAdd, reduceIte, reduceCtorEq, Nat.reduceLT, Nat.reduceLeDiff, eq_self, Option.bind_some, Option.map_some, List.map_cons, List.map_nil, List.length_cons, List.length_nil, Option.getD_some, Option.getD_none, List.all_cons, List.all_nil, List.set_cons_zero, List.set_cons_succ, List.replicate_succ, List.replicate_zero, List.getElem?_cons_zero, List.getElem?_cons_succ, List.drop_succ_cons, List.drop_zero, List.take_succ_cons, List.take_zero, List.map_append, List.nil_append, List.cons_append, Nat.reduceShiftRight, Nat.reduceMod])
      (repeat' first | exact trivial | (with_reducible exact RnB.fxB (ints_fxB _)) | (with_reducible rfl) | (with_reducible refine And.intro ?_ ?_) | (with_reducible refine RnB.bb ?_; simp only [vcW, vcV, vcD, Int.reduceEq, Int.reduceNe, Int.reduceLT, Int.reduceLE, Nat.reduceEqDiff, Nat.reduceAdd, reduceIte, reduceCtorEq, Nat.reduceLT, Nat.reduceLeDiff, eq_self, Option.bind_some, Option.map_some, List.map_cons, List.map_nil, List.length_cons, List.length_nil, Option.getD_some, Option.getD_none, List.all_cons, List.all_nil, List.set_cons_zero, List.set_cons_succ, List.replicate_succ, List.replicate_zero, List.getElem?_cons_zero, List.getElem?_cons_succ, List.drop_succ_cons, List.drop_zero, List.take_succ_cons, List.take_zero, List.map_append, List.nil_append, List.cons_append, Nat.reduceShiftRight, Nat.reduceMod]) | (with_reducible refine RnB.nb ?_; simp only [vcW, vcV, vcD, Int.reduceEq, Int.reduceNe, Int.reduceLT, Int.reduceLE, Nat.reduceEqDiff, Nat.reduceAdd, reduceIte, reduceCtorEq, Nat.reduceLT, Nat.reduceLeDiff, eq_self, Option.bind_some, Option.map_some, List.map_cons, List.map_nil, List.length_cons, List.length_nil, Option.getD_some, Option.getD_none, List.all_cons, List.all_nil, List.set_cons_zero, List.set_cons_succ, List.replicate_succ, List.replicate_zero, List.getElem?_cons_zero, List.getElem?_cons_succ, List.drop_succ_cons, List.drop_zero, List.take_succ_cons, List.take_zero, List.map_append, List.nil_append, List.cons_append, Nat.reduceShiftRight, Nat.reduceMod]) | (with_reducible refine RnB.ii ?_) | (with_reducible refine RnB.app ?_) | (with_reducible refine RnB.fxB ?_; simp only [vcW, vcV, vcD, Int.reduceEq, Int.reduceNe, Int.reduceLT, Int.reduceLE, Nat.reduceEqDiff, Nat.reduceAdd, reduceIte, reduceCtorEq, Nat.reduceLT, Nat.reduceLeDiff, eq_self, Option.bind_some, Option.map_some, List.map_cons, List.map_nil, List.length_cons, List.length_nil, Option.getD_some, Option.getD_none, List.all_cons, List.all_nil, List.set_cons_zero, List.set_cons_succ, List.replicate_succ, List.replicate_zero, List.getElem?_cons_zero, List.getElem?_cons_succ, List.drop_succ_cons, List.drop_zero, List.take_succ_cons, List.take_zero, List.map_append, List.nil_append, List.cons_append, Nat.reduceShiftRight, Nat.reduceMod]) | omega)
    · by_cases h2 : i < l.length
      · have h2' : (i : Int) < l.length := by omega
        have hx := o2 l[i] (List.getElem_mem h2)
        have hle := kp_le dead l i
        have hkp : kp dead l (i + 1) = if kp dead l i = [] ∨ dead < l[i] - (kp dead l i).getLastD 0 then kp dead l i ++ [l[i]] else kp dead l i := by rw [kp, getD_at h2]
        have hmem := kp_mem dead l i hi
        dsimp only
        generalize kp dead l i = o at *
        have hia : ints (o ++ [l[i]]) = ints o ++ [.int .i64 l[i]] := ints_append _ _
        by_cases h3 : o = []
        · have h3' : ((o.length : Nat) : Int) = 0 := by rw [h3]; rfl
          rw [if_pos (.inl h3)] at hkp
          simp only [h2', ints_get l i h2, h3', vcV, vcD, Int.reduceEq, Int.reduceNe, Int.reduceLT, Int.reduceLE, Nat.reduceEqDiff, Nat.reduceAdd, reduceIte, reduceCtorEq, Nat.reduceLT, Nat.reduceLeDiff, eq_self, Option.bind_some, Option.map_some, List.map_cons, List.map_nil, List.length_cons, List.length_nil, Option.getD_some, Option.getD_none, List.all_cons, List.all_nil, List.set_cons_zero, List.set_cons_succ, List.replicate_succ, List.replicate_zero, List.getElem?_cons_zero, List.getElem?_cons_succ, List.drop_succ_cons, List.drop_zero, List.take_succ_cons, List.take_zero, List.map_append, List.nil_append, List.cons_append, Nat.reduceShiftRight, Nat.reduceMod]
          (repeat (with_reducible refine And.intro ?_ ?_; focus (first | omega | (unfold I64; omega))))
          refine ⟨⟨i + 1, h2⟩, by simp only; omega, ?_⟩
          refine weakX [(100, some 44)] (of_decide_eq_true rfl) (of_decide_eq_true rfl) ?_
          (simp only [hkp, hia, List.length_append, ints_length, vcW, vcV, vcD, Int.reduceEq, Int.reduceNe, Int.reduceLT, Int.reduceLE, Nat.reduceEqDiff, Nat.reduceAdd, reduceIte, reduceCtorEq, Nat.reduceLT, Nat.reduceLeDiff, eq_self, Option.bind_some, Option.map_some, List.map_cons, List.map_nil, List.length_cons, List.length_nil, Option.getD_some, Option.getD_none, List.all_cons, List.all_nil, List.set_cons_zero, List.set_cons_succ, List.replicate_succ, List.replicate_zero, List.getElem?_cons_zero, List.getElem?_cons_succ, List.drop_succ_cons, List.drop_zero, List.take_succ_cons, List.take_zero, List.map_append, List.nil_append, List.cons_append, Nat.reduceShiftRight, Nat.reduceMod])
          (repeat' first | exact trivial | (with_reducible exact RnB.fxB (ints_fxB _)) | (with_reducible rfl) | (with_reducible refine And.intro ?_ ?_) | (with_reducible refine RnB.bb ?_; simp only [vcW, vcV, vcD, Int.reduceEq, Int.reduceNe, Int.reduceLT, Int.reduceLE, Nat.reduceEqDiff, Nat.reduceAdd, reduceIte, reduceCtorEq, Nat.reduceLT, Nat.reduceLeDiff, eq_self, Option.bind_some, Option.map_some, List.map_cons, List.map_nil, List.length_cons, List.length_nil, Option.getD_some, Option.getD_none, List.all_cons, List.all_nil, List.set_cons_zero, List.set_cons_succ, List.replicate_succ, List.replicate_zero, List.getElem?_cons_zero, List.getElem?_cons_succ, List.drop_succ_cons, List.drop_zero, List.take_succ_cons, List.take_zero, List.map_append, List.nil_append, List.cons_append, Nat.reduceShiftRight, Nat.reduceMod]) | (with_reducible refine RnB.nb ?_; simp only [vcW, vcV, vcD, Int.reduceEq, Int.reduceNe, Int.reduceLT, Int.reduceLE, Nat.reduceEqDiff, Nat.reduceAdd, reduceIte, reduceCtorEq, Nat.reduceLT, Nat.reduceLeDiff, eq_self, Option.bind_some, Option.map_some, List.map_cons, List.map_nil, List.length_cons, List.length_nil, Option.getD_some, Option.getD_none, List.all_cons, List.all_nil, List.set_cons_zero, List.set_cons_succ, List.replicate_succ, List.replicate_zero, List.getElem?_cons_zero, List.getElem?_cons_succ, List.drop_succ_cons, List.drop_zero, List.take_succ_cons, List.take_zero, List.map_append, List.nil_append, List.cons_append, Nat.reduceShiftRight, Nat.reduceMod]) | (with_reducible refine RnB.ii ?_) | (with_reducible refine RnB.app ?_) | (with_reducible refine RnB.fxB ?_; simp only [vcW, vcV, vcD, Int.reduceEq, Int.reduceNe, Int.reduceLT, Int.reduceLE, Nat.reduceEqDiff, Nat.reduceAdd, reduceIte, reduceCtorEq, Nat.reduceLT, Nat.reduceLeDiff, eq_self, Option.bind_some, Option.map_some, List.map_cons, List.map_nil, List.length_cons, List.length_nil, Option.getD_some, Option.getD_none, List.all_cons, List.all_nil, List.set_cons_zero, List.set_cons_succ, List.replicate_succ, List.replicate_zero, List.getElem?_cons_zero, List.getElem?_cons_succ, List.drop_succ_cons, List.drop_zero, List.take_succ_cons, List.take_zero, List.map_append, List.nil_append, List.cons_append, Nat.reduceShiftRight, Nat.reduceMod]) | omega)
          all_goals first | exact hia.symm | exact RnB.fxB (by rw [← hia]; exact ints_fxB _) | skip
        · have hpos : 0 < o.length := List.length_pos_iff.2 h3
          have h3' : ¬ ((o.length : Nat) : Int) = 0 := by omega
          have hlt : ((o.length : Nat) : Int) - 1 < o.length := by omega
          have htn : (((o.length : Nat) : Int) - 1).toNat = o.length - 1 := by omega
          have hlast : o.getLastD 0 = o[o.length - 1] := by
            rw [List.getLastD_eq_getLast?, List.getLast?_eq_getElem?, List.getElem?_eq_getElem (by omega)]; rfl
          have hmm := hmem _ (List.getElem_mem (show o.length - 1 < o.length by omega))
          have hb := o2 _ (List.mem_of_mem_take hmm)
          rw [hlast] at hkp
          by_cases h4 : dead < l[i] - o[o.length - 1]
          · rw [if_pos (.inr h4)] at hkp
            simp only [h2', ints_get l i h2, h3', htn, ints_get o (o.length - 1) (by omega), h4, vcV, vcD, Int.reduceEq, Int.reduceNe, Int.reduceLT, Int.reduceLE, Nat.reduceEqDiff, Nat.reduceAdd, reduceIte, reduceCtorEq, Nat.reduceLT, Nat.reduceLeDiff, eq_self, Option.bind_some, Option.map_some, List.map_cons, List.map_nil, List.length_cons, List.length_nil, Option.getD_some, Option.getD_none, List.all_cons, List.all_nil, List.set_cons_zero, List.set_cons_succ, List.replicate_succ, List.replicate_zero, List.getElem?_cons_zero, List.getElem?_cons_succ, List.drop_succ_cons, List.drop_zero, List.take_succ_cons, List.take_zero, List.map_append, List.nil_append, List.cons_append, Nat.reduceShiftRight, Nat.reduceMod]
            (repeat (with_reducible refine And.intro ?_ ?_; focus (first | omega | (unfold I64; omega))))
            refine ⟨⟨i + 1, h2⟩, by simp only; omega, ?_⟩
            refine weakX [(100, some 44)] (of_decide_eq_true rfl) (of_decide_eq_true rfl) ?_
            (simp only [hkp, hia, List.length_append, ints_length, vcW, vcV, vcD, Int.reduceEq, Int.reduceNe, Int.reduceLT, Int.reduceLE, Nat.reduceEqDiff, Nat.reduceAdd, reduceIte, reduceCtorEq, Nat.reduceLT, Nat.reduceLeDiff, eq_self, Option.bind_some, Option.map_some, List.map_cons, List.map_nil, List.length_cons, List.length_nil, Option.getD_some, Option.getD_none, List.all_cons, List.all_nil, List.set_cons_zero, List.set_cons_succ, List.replicate_succ, List.replicate_zero, List.getElem?_cons_zero, List.getElem?_cons_succ, List.drop_succ_cons, List.drop_zero, List.take_succ_cons, List.take_zero, List.map_append, List.nil_append, List.cons_append, Nat.reduceShiftRight, Nat.reduceMod])
            (repeat' first | exact trivial | (with_reducible exact RnB.fxB (ints_fxB _)) | (with_reducible rfl) | (with_reducible refine And.intro ?_ ?_) | (with_reducible refine RnB.bb ?_; simp only [vcW, vcV, vcD, Int.reduceEq, Int.reduceNe, Int.reduceLT, Int.reduceLE, Nat.reduceEqDiff, Nat.reduceAdd, reduceIte, reduceCtorEq, Nat.reduceLT, Nat.reduceLeDiff, eq_self, Option.bind_some, Option.map_some, List.map_cons, List.map_nil, List.length_cons, List.length_nil, Option.getD_some, Option.getD_none, List.all_cons, List.all_nil, List.set_cons_zero, List.set_cons_succ, List.replicate_succ, List.replicate_zero, List.getElem?_cons_zero, List.getElem?_cons_succ, List.drop_succ_cons, List.drop_zero, List.take_succ_cons, List.take_zero, List.map_append, List.nil_append, List.cons_append, Nat.reduceShiftRight, Nat.reduceMod]) | (with_reducible refine RnB.nb ?_; simp only [vcW, vcV, vcD, Int.reduceEq, Int.reduceNe, Int.reduceLT, Int.reduceLE, Nat.reduceEqDiff, Nat.reduceAdd, reduceIte, reduceCtorEq, Nat.reduceLT, Nat.reduceLeDiff, eq_self, Option.bind_some, Option.map_some, List.map_cons, List.map_nil, List.length_cons, List.length_nil, Option.getD_some, Option.getD_none, List.all_cons, List.all_nil, List.set_cons_zero, List.set_cons_succ, List.replicate_succ, List.replicate_zero, List.getElem?_cons_zero, List.getElem?_cons_succ, List.drop_succ_cons, List.drop_zero, List.take_succ_cons, List.take_zero, List.map_append, List.nil_append, List.cons_append, Nat.reduceShiftRight, Nat.reduceMod]) | (with_reducible refine RnB.ii ?_) | (with_reducible refine RnB.app ?_) | (with_reducible refine RnB.fxB ?_; simp only [vcW, vcV, vcD, Int.reduceEq, Int.reduceNe, Int.reduceLT, Int.reduceLE, Nat.reduceEqDiff, Nat.reduceAdd, reduceIte, reduceCtorEq, Nat.reduceLT, Nat.reduceLeDiff, eq_self, Option.bind_some, Option.map_some, List.map_cons, List.map_nil, List.length_cons, List.length_nil, Option.getD_some, Option.getD_none, List.all_cons, List.all_nil, List.set_cons_zero, List.set_cons_succ, List.replicate_succ, List.replicate_zero, List.getElem?_cons_zero, List.getElem?_cons_succ, List.drop_succ_cons, List.drop_zero, List.take_succ_cons, List.take_zero, List.map_append, List.nil_append, List.cons_append, Nat.reduceShiftRight, Nat.reduceMod]) | omega)
            all_goals first | exact hia.symm | exact RnB.fxB (by rw [← hia]; exact ints_fxB _) | skip
          · rw [if_neg (by rintro (q | q); exact h3 q; exact h4 q)] at hkp
            simp only [h2', ints_get l i h2, h3', htn, ints_get o (o.length - 1) (by omega), h4, vcV, vcD, Int.reduceEq, Int.reduceNe, Int.reduceLT, Int.reduceLE, Nat.reduceEqDiff, Nat.reduceAdd, reduceIte, reduceCtorEq, Nat.reduceLT, Nat.reduceLeDiff, eq_self, Option.bind_some, Option.map_some, List.map_cons, List.map_nil, List.length_cons, List.length_nil, Option.getD_some, Option.getD_none, List.all_cons, List.all_nil, List.set_cons_zero, List.set_cons_succ, List.replicate_succ, List.replicate_zero, List.getElem?_cons_zero, List.getElem?_cons_succ, List.drop_succ_cons, List.drop_zero, List.take_succ_cons, List.take_zero, List.map_append, List.nil_append, List.cons_append, Nat.reduceShiftRight, Nat.reduceMod]
            (repeat (with_reducible refine And.intro ?_ ?_; focus (first | omega | (unfold I64; omega))))
            refine ⟨⟨i + 1, h2⟩, by simp only; omega, ?_⟩
            refine weakX [] (of_decide_eq_true rfl) (of_decide_eq_true rfl) ?_
            (simp only [hkp, vcW, vcV, vcD, Int.reduceEq, Int.reduceNe, Int.reduceLT, Int.reduceLE, Nat.reduceEqDiff, Nat.reduceAdd, reduceIte, reduceCtorEq, Nat.reduceLT, Nat.reduceLeDiff, eq_self, Option.bind_some, Option.map_some, List.map_cons, List.map_nil, List.length_cons, List.length_nil, Option.getD_some, Option.getD_none, List.all_cons, List.all_nil, List.set_cons_zero, List.set_cons_succ, List.replicate_succ, List.replicate_zero, List.getElem?_cons_zero, List.getElem?_cons_succ, List.drop_succ_cons, List.drop_zero, List.take_succ_cons, List.take_zero, List.map_append, List.nil_append, List.cons_append, Nat.reduceShiftRight, Nat.reduceMod])
            (repeat' first | exact trivial | (with_reducible exact RnB.fxB (ints_fxB _)) | (with_reducible rfl) | (with_reducible refine And.intro ?_ ?_) | (with_reducible refine RnB.bb ?_; simp only [vcW, vcV, vcD, Int.reduceEq, Int.reduceNe, Int.reduceLT, Int.reduceLE, Nat.reduceEqDiff, Nat.reduceAdd, reduceIte, reduceCtorEq, Nat.reduceLT, Nat.reduceLeDiff, eq_self, Option.bind_some, Option.map_some, List.map_cons, List.map_nil, List.length_cons, List.length_nil, Option.getD_some, Option.getD_none, List.all_cons, List.all_nil, List.set_cons_zero, List.set_cons_succ, List.replicate_succ, List.replicate_zero, List.getElem?_cons_zero, List.getElem?_cons_succ, List.drop_succ_cons, List.drop_zero, List.take_succ_cons, List.take_zero, List.map_append, List.nil_append, List.cons_append, Nat.reduceShiftRight, Nat.reduceMod]) | (with_reducible refine RnB.nb ?_; simp only [vcW, vcV, vcD, Int.reduceEq, Int.reduceNe, Int.reduceLT, Int.reduceLE, Nat.reduceEqDiff, Nat.reduceAdd, reduceIte, reduceCtorEq, Nat.reduceLT, Nat.reduceLeDiff, eq_self, Option.bind_some, Option.map_some, List.map_cons, List.map_nil, List.length_cons, List.length_nil, Option.getD_some, Option.getD_none, List.all_cons, List.all_nil, List.set_cons_zero, List.set_cons_succ, List.replicate_succ, List.replicate_zero, List.getElem?_cons_zero, List.getElem?_cons_succ, List.drop_succ_cons, List.drop_zero, List.take_succ_cons, List.take_zero, List.map_append, List.nil_append, List.cons_append, Nat.reduceShiftRight, Nat.reduceMod]) | (with_reducible refine RnB.ii ?_) | (with_reducible refine RnB.app ?_) | (with_reducible refine RnB.fxB ?_; simp only [vcW, vcV, vcD, Int.reduceEq, Int.reduceNe, Int.reduceLT, Int.reduceLE, Nat.reduceEqDiff, Nat.reduceAdd, reduceIte, reduceCtorEq, Nat.reduceLT, Nat.reduceLeDiff, eq_self, Option.bind_some, Option.map_some, List.map_cons, List.map_nil, List.length_cons, List.length_nil, Option.getD_some, Option.getD_none, List.all_cons, List.all_nil, List.set_cons_zero, List.set_cons_succ, List.replicate_succ, List.replicate_zero, List.getElem?_cons_zero, List.getElem?_cons_succ, List.drop_succ_cons, List.drop_zero, List.take_succ_cons, List.take_zero, List.map_append, List.nil_append, List.cons_append, Nat.reduceShiftRight, Nat.reduceMod]) | omega)
      · have h2' : ¬ (i : Int) < l.length := by omega
        have hin : i = l.length := by omega
        subst hin
        have hfin : kp dead l l.length = kept dead l := rfl
        simp only [h2', hfin, vcV, vcD, Int.reduceEq, Int.reduceNe, Int.reduceLT, Int.reduceLE, Nat.reduceEqDiff, Nat.reduceAdd, reduceIte, reduceCtorEq, Nat.reduceLT, Nat.reduceLeDiff, eq_self, Option.bind_some, Option.map_some, List.map_cons, List.map_nil, List.length_cons, List.length_nil, Option.getD_some, Option.getD_none, List.all_cons, List.all_nil, List.set_cons_zero, List.set_cons_succ, List.replicate_succ, List.replicate_zero, List.getElem?_cons_zero, List.getElem?_cons_succ, List.drop_succ_cons, List.drop_zero, List.take_succ_cons, List.take_zero, List.map_append, List.nil_append, List.cons_append, Nat.reduceShiftRight, Nat.reduceMod]
        rw [borB_good _ _ _ _ _ (by rw [ints_length]) (ints_fx _)]
  · have hO : keptO dead l = [] := by unfold keptO; rw [if_neg h0]
    simp only [h0, hO, vcV, vcD, Int.reduceEq, Int.reduceNe, Int.reduceLT, Int.reduceLE, Nat.reduceEqDiff, Nat.reduceAdd, reduceIte, reduceCtorEq, Nat.reduceLT, Nat.reduceLeDiff, eq_self, Option.bind_some, Option.map_some, List.map_cons, List.map_nil, List.length_cons, List.length_nil, Option.getD_some, Option.getD_none, List.all_cons, List.all_nil, List.set_cons_zero, List.set_cons_succ, List.replicate_succ, List.replicate_zero, List.getElem?_cons_zero, List.getElem?_cons_succ, List.drop_succ_cons, List.drop_zero, List.take_succ_cons, List.take_zero, List.map_append, List.nil_append, List.cons_append, Nat.reduceShiftRight, Nat.reduceMod]
    rfl
end Go.Proofs.YtngjhppgojfceaaDoor

/- Contracts: sums, lowest terms, gains, charges. By an AI agent; nothing here is trusted. -/
namespace Go.Proofs.YtngjhppgojfceaaDoor
open Go.Av

end Go.Proofs.YtngjhppgojfceaaDoor

/- Contracts: fits, charges, photons. By an AI agent; nothing here is trusted. -/
namespace Go.Proofs.YtngjhppgojfceaaDoor
open Go.Av

end Go.Proofs.YtngjhppgojfceaaDoor

/- Contracts: samples, droops, pedestals. By an AI agent; nothing here is trusted. -/
namespace Go.Proofs.YtngjhppgojfceaaDoor
open Go.Av

theorem samplesErr_1_s (n : Int) : Sound Tryd.prog 101 [.int .i64 n] (.bool (!smp n)) := by
  refine sound_W f_pulse_samplesErr_1 (Nat.le_of_ble_eq_true rfl) ?_
  simp only [c_pulse_samplesErr_1, vcV, vcD, Int.reduceEq, Int.reduceNe, Int.reduceLT, Int.reduceLE, Nat.reduceEqDiff, Nat.reduceAdd, reduceIte, reduceCtorEq, Nat.reduceLT, Nat.reduceLeDiff, eq_self, Option.bind_some, Option.map_some, List.map_cons, List.map_nil, List.length_cons, List.length_nil, Option.getD_some, Option.getD_none, List.all_cons, List.all_nil, List.set_cons_zero, List.set_cons_succ, List.replicate_succ, List.replicate_zero, List.getElem?_cons_zero, List.getElem?_cons_succ, List.drop_succ_cons, List.drop_zero, List.take_succ_cons, List.take_zero, List.map_append, List.nil_append, List.cons_append, Nat.reduceShiftRight, Nat.reduceMod]
  refine callS_of (isSample_s _) ?_
  simp only [vcV, vcD, Int.reduceEq, Int.reduceNe, Int.reduceLT, Int.reduceLE, Nat.reduceEqDiff, Nat.reduceAdd, reduceIte, reduceCtorEq, Nat.reduceLT, Nat.reduceLeDiff, eq_self, Option.bind_some, Option.map_some, List.map_cons, List.map_nil, List.length_cons, List.length_nil, Option.getD_some, Option.getD_none, List.all_cons, List.all_nil, List.set_cons_zero, List.set_cons_succ, List.replicate_succ, List.replicate_zero, List.getElem?_cons_zero, List.getElem?_cons_succ, List.drop_succ_cons, List.drop_zero, List.take_succ_cons, List.take_zero, List.map_append, List.nil_append, List.cons_append, Nat.reduceShiftRight, Nat.reduceMod]
theorem not_all (l : List Int) : (l.any fun n => !smp n) = !l.all smp := by rw [← List.not_all_eq_any_not]
theorem samplesErr_s (l : List Int) (hl : l.length < 4000000000000000000) : Sound Tryd.prog 65 [.sl (ints l)] (.tup [.int .i64 (smI l), .int .i64 (smE l)]) := by
  refine sound_W f_pulse_samplesErr (Nat.le_of_ble_eq_true rfl) ?_
  have hU := unless_s
  simp only [c_pulse_samplesErr, vcV, vcD, Int.reduceEq, Int.reduceNe, Int.reduceLT, Int.reduceLE, Nat.reduceEqDiff, Nat.reduceAdd, reduceIte, reduceCtorEq, Nat.reduceLT, Nat.reduceLeDiff, eq_self, Option.bind_some, Option.map_some, List.map_cons, List.map_nil, List.length_cons, List.length_nil, Option.getD_some, Option.getD_none, List.all_cons, List.all_nil, List.set_cons_zero, List.set_cons_succ, List.replicate_succ, List.replicate_zero, List.getElem?_cons_zero, List.getElem?_cons_succ, List.drop_succ_cons, List.drop_zero, List.take_succ_cons, List.take_zero, List.map_append, List.nil_append, List.cons_append, Nat.reduceShiftRight, Nat.reduceMod]
  refine callS_of (unless_s _ _) ?_
  simp only [vcV, vcD, Int.reduceEq, Int.reduceNe, Int.reduceLT, Int.reduceLE, Nat.reduceEqDiff, Nat.reduceAdd, reduceIte, reduceCtorEq, Nat.reduceLT, Nat.reduceLeDiff, eq_self, Option.bind_some, Option.map_some, List.map_cons, List.map_nil, List.length_cons, List.length_nil, Option.getD_some, Option.getD_none, List.all_cons, List.all_nil, List.set_cons_zero, List.set_cons_succ, List.replicate_succ, List.replicate_zero, List.getElem?_cons_zero, List.getElem?_cons_succ, List.drop_succ_cons, List.drop_zero, List.take_succ_cons, List.take_zero, List.map_append, List.nil_append, List.cons_append, Nat.reduceShiftRight, Nat.reduceMod]
  refine callS_of (unless_s _ _) ?_
  simp only [vcV, vcD, Int.reduceEq, Int.reduceNe, Int.reduceLT, Int.reduceLE, Nat.reduceEqDiff, Nat.reduceAdd, reduceIte, reduceCtorEq, Nat.reduceLT, Nat.reduceLeDiff, eq_self, Option.bind_some, Option.map_some, List.map_cons, List.map_nil, List.length_cons, List.length_nil, Option.getD_some, Option.getD_none, List.all_cons, List.all_nil, List.set_cons_zero, List.set_cons_succ, List.replicate_succ, List.replicate_zero, List.getElem?_cons_zero, List.getElem?_cons_succ, List.drop_succ_cons, List.drop_zero, List.take_succ_cons, List.take_zero, List.map_append, List.nil_append, List.cons_append, Nat.reduceShiftRight, Nat.reduceMod]
  refine callS_of (first2_s _ _) ?_
  by_cases h0 : l.length = 0
  · have h0' : ¬ (0 : Int) < l.length := by omega
    have he : smE l = 10 := by unfold smE; rw [if_pos h0]
    have hi : smI l = 0 := by unfold smI; rw [if_neg (by rw [he]; decide)]
    simp only [h0', he, hi, vcV, vcD, Int.reduceEq, Int.reduceNe, Int.reduceLT, Int.reduceLE, Nat.reduceEqDiff, Nat.reduceAdd, reduceIte, reduceCtorEq, Nat.reduceLT, Nat.reduceLeDiff, eq_self, Option.bind_some, Option.map_some, List.map_cons, List.map_nil, List.length_cons, List.length_nil, Option.getD_some, Option.getD_none, List.all_cons, List.all_nil, List.set_cons_zero, List.set_cons_succ, List.replicate_succ, List.replicate_zero, List.getElem?_cons_zero, List.getElem?_cons_succ, List.drop_succ_cons, List.drop_zero, List.take_succ_cons, List.take_zero, List.map_append, List.nil_append, List.cons_append, Nat.reduceShiftRight, Nat.reduceMod]
  have h0' : (0 : Int) < l.length := by omega
  by_cases h1 : 24 < l.length
  · have h1' : ¬ (l.length : Int) ≤ 24 := by omega
    have he : smE l = 8 := by unfold smE; rw [if_neg h0, if_pos h1]
    have hi : smI l = 0 := by unfold smI; rw [if_neg (by rw [he]; decide)]
    simp only [h0', h1', he, hi, vcV, vcD, Int.reduceEq, Int.reduceNe, Int.reduceLT, Int.reduceLE, Nat.reduceEqDiff, Nat.reduceAdd, reduceIte, reduceCtorEq, Nat.reduceLT, Nat.reduceLeDiff, eq_self, Option.bind_some, Option.map_some, List.map_cons, List.map_nil, List.length_cons, List.length_nil, Option.getD_some, Option.getD_none, List.all_cons, List.all_nil, List.set_cons_zero, List.set_cons_succ, List.replicate_succ, List.replicate_zero, List.getElem?_cons_zero, List.getElem?_cons_succ, List.drop_succ_cons, List.drop_zero, List.take_succ_cons, List.take_zero, List.map_append, List.nil_append, List.cons_append, Nat.reduceShiftRight, Nat.reduceMod]
  have h1' : (l.length : Int) ≤ 24 := by omega
  have hx := idxOf_any l (fun n => !smp n)
  rw [not_all] at hx
  simp only [h0', h1', vcV, vcD, Int.reduceEq, Int.reduceNe, Int.reduceLT, Int.reduceLE, Nat.reduceEqDiff, Nat.reduceAdd, reduceIte, reduceCtorEq, Nat.reduceLT, Nat.reduceLeDiff, eq_self, Option.bind_some, Option.map_some, List.map_cons, List.map_nil, List.length_cons, List.length_nil, Option.getD_some, Option.getD_none, List.all_cons, List.all_nil, List.set_cons_zero, List.set_cons_succ, List.replicate_succ, List.replicate_zero, List.getElem?_cons_zero, List.getElem?_cons_succ, List.drop_succ_cons, List.drop_zero, List.take_succ_cons, List.take_zero, List.map_append, List.nil_append, List.cons_append, Nat.reduceShiftRight, Nat.reduceMod]
  refine callS_of (idxFunc_int_s l _ [] (fun n => !smp n) hl (by simp) (fun x _ => samplesErr_1_s x)) ?_
  cases hall : l.all smp with
  | true =>
    rw [hall] at hx
    have hx' : ¬ 0 ≤ idxOf l (fun n => !smp n) := of_decide_eq_false hx
    have he : smE l = 0 := by unfold smE; rw [if_neg h0, if_neg h1, if_pos hall]
    have hi : smI l = 0 := by unfold smI; rw [if_neg (by rw [he]; decide)]
    simp only [hx', he, hi, vcV, vcD, Int.reduceEq, Int.reduceNe, Int.reduceLT, Int.reduceLE, Nat.reduceEqDiff, Nat.reduceAdd, reduceIte, reduceCtorEq, Nat.reduceLT, Nat.reduceLeDiff, eq_self, Option.bind_some, Option.map_some, List.map_cons, List.map_nil, List.length_cons, List.length_nil, Option.getD_some, Option.getD_none, List.all_cons, List.all_nil, List.set_cons_zero, List.set_cons_succ, List.replicate_succ, List.replicate_zero, List.getElem?_cons_zero, List.getElem?_cons_succ, List.drop_succ_cons, List.drop_zero, List.take_succ_cons, List.take_zero, List.map_append, List.nil_append, List.cons_append, Nat.reduceShiftRight, Nat.reduceMod]
  | false =>
    rw [hall] at hx
    have hx' : 0 ≤ idxOf l (fun n => !smp n) := of_decide_eq_true hx
    have he : smE l = 2 := by unfold smE; rw [if_neg h0, if_neg h1, if_neg (by rw [hall]; decide)]
    have hi : smI l = idxOf l (fun n => !smp n) := by unfold smI; rw [if_pos he]
    simp only [hx', he, hi, vcV, vcD, Int.reduceEq, Int.reduceNe, Int.reduceLT, Int.reduceLE, Nat.reduceEqDiff, Nat.reduceAdd, reduceIte, reduceCtorEq, Nat.reduceLT, Nat.reduceLeDiff, eq_self, Option.bind_some, Option.map_some, List.map_cons, List.map_nil, List.length_cons, List.length_nil, Option.getD_some, Option.getD_none, List.all_cons, List.all_nil, List.set_cons_zero, List.set_cons_succ, List.replicate_succ, List.replicate_zero, List.getElem?_cons_zero, List.getElem?_cons_succ, List.drop_succ_cons, List.drop_zero, List.take_succ_cons, List.take_zero, List.map_append, List.nil_append, List.cons_append, Nat.reduceShiftRight, Nat.reduceMod]
theorem sampled_s (l : List Int) (hl : l.length < 4000000000000000000) : Sound Tryd.prog 31 [.sl (ints l)] (.int .i64 (smE l)) := by
  refine sound_W f_pulse_sampled (Nat.le_of_ble_eq_true rfl) ?_
  simp only [c_pulse_sampled, vcV, vcD, Int.reduceEq, Int.reduceNe, Int.reduceLT, Int.reduceLE, Nat.reduceEqDiff, Nat.reduceAdd, reduceIte, reduceCtorEq, Nat.reduceLT, Nat.reduceLeDiff, eq_self, Option.bind_some, Option.map_some, List.map_cons, List.map_nil, List.length_cons, List.length_nil, Option.getD_some, Option.getD_none, List.all_cons, List.all_nil, List.set_cons_zero, List.set_cons_succ, List.replicate_succ, List.replicate_zero, List.getElem?_cons_zero, List.getElem?_cons_succ, List.drop_succ_cons, List.drop_zero, List.take_succ_cons, List.take_zero, List.map_append, List.nil_append, List.cons_append, Nat.reduceShiftRight, Nat.reduceMod]
  refine callS_of (samplesErr_s l hl) ?_
  simp only [vcV, vcD, Int.reduceEq, Int.reduceNe, Int.reduceLT, Int.reduceLE, Nat.reduceEqDiff, Nat.reduceAdd, reduceIte, reduceCtorEq, Nat.reduceLT, Nat.reduceLeDiff, eq_self, Option.bind_some, Option.map_some, List.map_cons, List.map_nil, List.length_cons, List.length_nil, Option.getD_some, Option.getD_none, List.all_cons, List.all_nil, List.set_cons_zero, List.set_cons_succ, List.replicate_succ, List.replicate_zero, List.getElem?_cons_zero, List.getElem?_cons_succ, List.drop_succ_cons, List.drop_zero, List.take_succ_cons, List.take_zero, List.map_append, List.nil_append, List.cons_append, Nat.reduceShiftRight, Nat.reduceMod]
theorem CheckSamples_s (l : List Int) : Sound Tryd.prog 29 [.sl (ints l)] (.tup [.int .i64 (smI l), .int .i64 (smE l)]) := by
  refine sound_W f_ref02_CheckSamples (Nat.le_of_ble_eq_true rfl) ?_
  simp only [c_ref02_CheckSamples, vcV, vcD, Int.reduceEq, Int.reduceNe, Int.reduceLT, Int.reduceLE, Nat.reduceEqDiff, Nat.reduceAdd, reduceIte, reduceCtorEq, Nat.reduceLT, Nat.reduceLeDiff, eq_self, Option.bind_some, Option.map_some, List.map_cons, List.map_nil, List.length_cons, List.length_nil, Option.getD_some, Option.getD_none, List.all_cons, List.all_nil, List.set_cons_zero, List.set_cons_succ, List.replicate_succ, List.replicate_zero, List.getElem?_cons_zero, List.getElem?_cons_succ, List.drop_succ_cons, List.drop_zero, List.take_succ_cons, List.take_zero, List.map_append, List.nil_append, List.cons_append, Nat.reduceShiftRight, Nat.reduceMod]
  by_cases h0 : l.length = 0
  · have h0' : (l.length : Int) = 0 := by omega
    have he : smE l = 10 := by unfold smE; rw [if_pos h0]
    have hi : smI l = 0 := by unfold smI; rw [if_neg (by rw [he]; decide)]
    simp only [h0', he, hi, vcV, vcD, Int.reduceEq, Int.reduceNe, Int.reduceLT, Int.reduceLE, Nat.reduceEqDiff, Nat.reduceAdd, reduceIte, reduceCtorEq, Nat.reduceLT, Nat.reduceLeDiff, eq_self, Option.bind_some, Option.map_some, List.map_cons, List.map_nil, List.length_cons, List.length_nil, Option.getD_some, Option.getD_none, List.all_cons, List.all_nil, List.set_cons_zero, List.set_cons_succ, List.replicate_succ, List.replicate_zero, List.getElem?_cons_zero, List.getElem?_cons_succ, List.drop_succ_cons, List.drop_zero, List.take_succ_cons, List.take_zero, List.map_append, List.nil_append, List.cons_append, Nat.reduceShiftRight, Nat.reduceMod]
  have h0' : ¬ (l.length : Int) = 0 := by omega
  simp only [h0', vcV, vcD, Int.reduceEq, Int.reduceNe, Int.reduceLT, Int.reduceLE, Nat.reduceEqDiff, Nat.reduceAdd, reduceIte, reduceCtorEq, Nat.reduceLT, Nat.reduceLeDiff, eq_self, Option.bind_some, Option.map_some, List.map_cons, List.map_nil, List.length_cons, List.length_nil, Option.getD_some, Option.getD_none, List.all_cons, List.all_nil, List.set_cons_zero, List.set_cons_succ, List.replicate_succ, List.replicate_zero, List.getElem?_cons_zero, List.getElem?_cons_succ, List.drop_succ_cons, List.drop_zero, List.take_succ_cons, List.take_zero, List.map_append, List.nil_append, List.cons_append, Nat.reduceShiftRight, Nat.reduceMod]
  by_cases h1 : 24 < l.length
  · have h1' : (24 : Int) < l.length := by omega
    have he : smE l = 8 := by unfold smE; rw [if_neg h0, if_pos h1]
    have hi : smI l = 0 := by unfold smI; rw [if_neg (by rw [he]; decide)]
    simp only [h1', he, hi, vcV, vcD, Int.reduceEq, Int.reduceNe, Int.reduceLT, Int.reduceLE, Nat.reduceEqDiff, Nat.reduceAdd, reduceIte, reduceCtorEq, Nat.reduceLT, Nat.reduceLeDiff, eq_self, Option.bind_some, Option.map_some, List.map_cons, List.map_nil, List.length_cons, List.length_nil, Option.getD_some, Option.getD_none, List.all_cons, List.all_nil, List.set_cons_zero, List.set_cons_succ, List.replicate_succ, List.replicate_zero, List.getElem?_cons_zero, List.getElem?_cons_succ, List.drop_succ_cons, List.drop_zero, List.take_succ_cons, List.take_zero, List.map_append, List.nil_append, List.cons_append, Nat.reduceShiftRight, Nat.reduceMod]
  have h1' : ¬ (24 : Int) < l.length := by omega
  simp only [h1', vcV, vcD, Int.reduceEq, Int.reduceNe, Int.reduceLT, Int.reduceLE, Nat.reduceEqDiff, Nat.reduceAdd, reduceIte, reduceCtorEq, Nat.reduceLT, Nat.reduceLeDiff, eq_self, Option.bind_some, Option.map_some, List.map_cons, List.map_nil, List.length_cons, List.length_nil, Option.getD_some, Option.getD_none, List.all_cons, List.all_nil, List.set_cons_zero, List.set_cons_succ, List.replicate_succ, List.replicate_zero, List.getElem?_cons_zero, List.getElem?_cons_succ, List.drop_succ_cons, List.drop_zero, List.take_succ_cons, List.take_zero, List.map_append, List.nil_append, List.cons_append, Nat.reduceShiftRight, Nat.reduceMod]
  refine W_loop (t := .mk) (α := PSigma fun i : Nat => i ≤ l.length ∧ (∀ x ∈ l.take i, smp x = true)) (fun ⟨i, _⟩ => ((envOf [(0, .sl (ints l)), (4, .int .i64 i)], stOf []))) (fun i => l.length - i.1) ⟨0, Nat.zero_le _, ?_⟩ ?_ (fun ⟨i, hi, hn⟩ => ?_)
  · intro x hx; simp at hx
  · refine weakX [] (of_decide_eq_true rfl) (of_decide_eq_true rfl) ?_
    (simp only [vcW, vcV, vcD, Int.reduceEq, Int.reduceNe, Int.reduceLT, Int.reduceLE, Nat.reduceEqDiff, Nat.reduceAdd, reduceIte, reduceCtorEq, Nat.reduceLT, Nat.reduceLeDiff, eq_self, Option.bind_some, Option.map_some, List.map_cons, List.map_nil, List.length_cons, List.length_nil, Option.getD_some, Option.getD_none, List.all_cons, List.all_nil, List.set_cons_zero, List.set_cons_succ, List.replicate_succ, List.replicate_zero, List.getElem?_cons_zero, List.getElem?_cons_succ, List.drop_succ_cons, List.drop_zero, List.take_succ_cons, List.take_zero, List.map_append, List.nil_append, List.cons_append, Nat.reduceShiftRight, Nat.reduceMod])
    (repeat' first | exact trivial | (with_reducible exact RnB.fxB (ints_fxB _)) | (with_reducible rfl) | (with_reducible refine And.intro ?_ ?_) | (with_reducible refine RnB.bb ?_; simp only [vcW, vcV, vcD, Int.reduceEq, Int.reduceNe, Int.reduceLT, Int.reduceLE, Nat.reduceEqDiff, Nat.reduceAdd, reduceIte, reduceCtorEq, Nat.reduceLT, Nat.reduceLeDiff, eq_self, Option.bind_some, Option.map_some, List.map_cons, List.map_nil, List.length_cons, List.length_nil, Option.getD_some, Option.getD_none, List.all_cons, List.all_nil, List.set_cons_zero, List.set_cons_succ, List.replicate_succ, List.replicate_zero, List.getElem?_cons_zero, List.getElem?_cons_succ, List.drop_succ_cons, List.drop_zero, List.take_succ_cons, List.take_zero, List.map_append, List.nil_append, List.cons_append, Nat.reduceShiftRight, Nat.reduceMod]) | (with_reducible refine RnB.nb ?_; simp only [vcW, vcV, vcD, Int.reduceEq, Int.reduceNe, Int.reduceLT, Int.reduceLE, Nat.reduceEqDiff, Nat.reduceAdd, reduceIte, reduceCtorEq, Nat.reduceLT, Nat.reduceLeDiff, eq_self, Option.bind_some, Option.map_some, List.map_cons, List.map_nil, List.length_cons, List.length_nil, Option.getD_some, Option.getD_none, List.all_cons, List.all_nil, List.set_cons_zero, List.set_cons_succ, List.replicate_succ, List.replicate_zero, List.getElem?_cons_zero, List.getElem?_cons_succ, List.drop_succ_cons, List.drop_zero, List.take_succ_cons, List.take_zero, List.map_append, List.nil_append, List.cons_append, Nat.reduceShiftRight, Nat.reduceMod]) | (with_reducible refine RnB.ii ?_) | (with_reducible refine RnB.app ?_) | (with_reducible refine RnB.fxB ?_; simp only [vcW, vcV, vcD, Int.reduceEq, Int.reduceNe, Int.reduceLT, Int.reduceLE, Nat.reduceEqDiff, Nat.reduceAdd, reduceIte, reduceCtorEq, Nat.reduceLT, Nat.reduceLeDiff, eq_self, Option.bind_some, Option.map_some, List.map_cons, List.map_nil, List.length_cons, List.length_nil, Option.getD_some, Option.getD_none, List.all_cons, List.all_nil, List.set_cons_zero, List.set_cons_succ, List.replicate_succ, List.replicate_zero, List.getElem?_cons_zero, List.getElem?_cons_succ, List.drop_succ_cons, List.drop_zero, List.take_succ_cons, List.take_zero, List.map_append, List.nil_append, List.cons_append, Nat.reduceShiftRight, Nat.reduceMod]) | omega)
  · by_cases h' : i < l.length
    · have h2 : (i : Int) < l.length := by omega
      simp only [h2, ints_get l i h', vcV, vcD, Int.reduceEq, Int.reduceNe, Int.reduceLT, Int.reduceLE, Nat.reduceEqDiff, Nat.reduceAdd, reduceIte, reduceCtorEq, Nat.reduceLT, Nat.reduceLeDiff, eq_self, Option.bind_some, Option.map_some, List.map_cons, List.map_nil, List.length_cons, List.length_nil, Option.getD_some, Option.getD_none, List.all_cons, List.all_nil, List.set_cons_zero, List.set_cons_succ, List.replicate_succ, List.replicate_zero, List.getElem?_cons_zero, List.getElem?_cons_succ, List.drop_succ_cons, List.drop_zero, List.take_succ_cons, List.take_zero, List.map_append, List.nil_append, List.cons_append, Nat.reduceShiftRight, Nat.reduceMod]
      refine ⟨by omega, ?_⟩
      refine callS_of (IsSample_s _) ?_
      cases hw : smp l[i] with
      | true =>
        simp only [vcV, vcD, Int.reduceEq, Int.reduceNe, Int.reduceLT, Int.reduceLE, Nat.reduceEqDiff, Nat.reduceAdd, reduceIte, reduceCtorEq, Nat.reduceLT, Nat.reduceLeDiff, eq_self, Option.bind_some, Option.map_some, List.map_cons, List.map_nil, List.length_cons, List.length_nil, Option.getD_some, Option.getD_none, List.all_cons, List.all_nil, List.set_cons_zero, List.set_cons_succ, List.replicate_succ, List.replicate_zero, List.getElem?_cons_zero, List.getElem?_cons_succ, List.drop_succ_cons, List.drop_zero, List.take_succ_cons, List.take_zero, List.map_append, List.nil_append, List.cons_append, Nat.reduceShiftRight, Nat.reduceMod]
        refine ⟨by unfold I64; omega, ⟨i + 1, h', ?_⟩, by simp only; omega, ?_⟩
        · rw [List.take_succ_eq_append_getElem h']
          intro x hx
          rcases List.mem_append.1 hx with e | e
          · exact hn x e
          · rw [List.mem_singleton.1 e]; exact hw
        · refine weakX [] (of_decide_eq_true rfl) (of_decide_eq_true rfl) ?_
          (simp only [vcW, vcV, vcD, Int.reduceEq, Int.reduceNe, Int.reduceLT, Int.reduceLE, Nat.reduceEqDiff, Nat.reduceAdd, reduceIte, reduceCtorEq, Nat.reduceLT, Nat.reduceLeDiff, eq_self, Option.bind_some, Option.map_some, List.map_cons, List.map_nil, List.length_cons, List.length_nil, Option.getD_some, Option.getD_none, List.all_cons, List.all_nil, List.set_cons_zero, List.set_cons_succ, List.replicate_succ, List.replicate_zero, List.getElem?_cons_zero, List.getElem?_cons_succ, List.drop_succ_cons, List.drop_zero, List.take_succ_cons, List.take_zero, List.map_append, List.nil_append, List.cons_append, Nat.reduceShiftRight, Nat.reduceMod])
          (repeat' first | exact trivial | (with_reducible exact RnB.fxB (ints_fxB _)) | (with_reducible rfl) | (with_reducible refine And.intro ?_ ?_) | (with_reducible refine RnB.bb ?_; simp only [vcW, vcV, vcD, Int.reduceEq, Int.reduceNe, Int.reduceLT, Int.reduceLE, Nat.reduceEqDiff, Nat.reduceAdd, reduceIte, reduceCtorEq, Nat.reduceLT, Nat.reduceLeDiff, eq_self, Option.bind_some, Option.map_some, List.map_cons, List.map_nil, List.length_cons, List.length_nil, Option.getD_some, Option.getD_none, List.all_cons, List.all_nil, List.set_cons_zero, List.set_cons_succ, List.replicate_succ, List.replicate_zero, List.getElem?_cons_zero, List.getElem?_cons_succ, List.drop_succ_cons, List.drop_zero, List.take_succ_cons, List.take_zero, List.map_append, List.nil_append, List.cons_append, Nat.reduceShiftRight, Nat.reduceMod]) | (with_reducible refine RnB.nb ?_; simp only [vcW, vcV, vcD, Int.reduceEq, Int.reduceNe, Int.reduceLT, Int.reduceLE, Nat.reduceEqDiff, Nat.reduceAdd, reduceIte, reduceCtorEq, Nat.reduceLT, Nat.reduceLeDiff, eq_self, Option.bind_some, Option.map_some, List.map_cons, List.map_nil, List.length_cons, List.length_nil, Option.getD_some, Option.getD_none, List.all_cons, List.all_nil, List.set_cons_zero, List.set_cons_succ, List.replicate_succ, List.replicate_zero, List.getElem?_cons_zero, List.getElem?_cons_succ, List.drop_succ_cons, List.drop_zero, List.take_succ_cons, List.take_zero, List.map_append, List.nil_append, List.cons_append, Nat.reduceShiftRight, Nat.reduceMod]) | (with_reducible refine RnB.ii ?_) | (with_reducible refine RnB.app ?_) | (with_reducible refine RnB.fxB ?_; simp only [vcW, vcV, vcD, Int.reduceEq, Int.reduceNe, Int.reduceLT, Int.reduceLE, Nat.reduceEqDiff, Nat.reduceAdd, reduceIte, reduceCtorEq, Nat.reduceLT, Nat.reduceLeDiff, eq_self, Option.bind_some, Option.map_some, List.map_cons, List.map_nil, List.length_cons, List.length_nil, Option.getD_some, Option.getD_none, List.all_cons, List.all_nil, List.set_cons_zero, List.set_cons_succ, List.replicate_succ, List.replicate_zero, List.getElem?_cons_zero, List.getElem?_cons_succ, List.drop_succ_cons, List.drop_zero, List.take_succ_cons, List.take_zero, List.map_append, List.nil_append, List.cons_append, Nat.reduceShiftRight, Nat.reduceMod]) | omega)
      | false =>
        have he : smE l = 2 := by
          unfold smE
          rw [if_neg h0, if_neg h1, if_neg]
          intro hall
          have := List.all_eq_true.1 hall _ (List.getElem_mem h')
          rw [hw] at this; cases this
        have hs : l.findIdx? (fun n => !smp n) = some i := by
          rw [List.findIdx?_eq_some_iff_getElem]
          refine ⟨h', by rw [hw]; rfl, fun j hj => ?_⟩
          have := hn l[j] (by rw [List.mem_take_iff_getElem]; exact ⟨j, by omega, rfl⟩)
          simp [this]
        have hi : smI l = i := by unfold smI idxOf; rw [if_pos he, hs]
        simp only [he, hi, vcV, vcD, Int.reduceEq, Int.reduceNe, Int.reduceLT, Int.reduceLE, Nat.reduceEqDiff, Nat.reduceAdd, reduceIte, reduceCtorEq, Nat.reduceLT, Nat.reduceLeDiff, eq_self, Option.bind_some, Option.map_some, List.map_cons, List.map_nil, List.length_cons, List.length_nil, Option.getD_some, Option.getD_none, List.all_cons, List.all_nil, List.set_cons_zero, List.set_cons_succ, List.replicate_succ, List.replicate_zero, List.getElem?_cons_zero, List.getElem?_cons_succ, List.drop_succ_cons, List.drop_zero, List.take_succ_cons, List.take_zero, List.map_append, List.nil_append, List.cons_append, Nat.reduceShiftRight, Nat.reduceMod]
    · have h2 : ¬ (i : Int) < l.length := by omega
      have hin : i = l.length := by omega
      subst hin
      rw [List.take_length] at hn
      have he : smE l = 0 := by unfold smE; rw [if_neg h0, if_neg h1, if_pos (List.all_eq_true.2 hn)]
      have hi : smI l = 0 := by unfold smI; rw [if_neg (by rw [he]; decide)]
      simp only [h2, he, hi, vcV, vcD, Int.reduceEq, Int.reduceNe, Int.reduceLT, Int.reduceLE, Nat.reduceEqDiff, Nat.reduceAdd, reduceIte, reduceCtorEq, Nat.reduceLT, Nat.reduceLeDiff, eq_self, Option.bind_some, Option.map_some, List.map_cons, List.map_nil, List.length_cons, List.length_nil, Option.getD_some, Option.getD_none, List.all_cons, List.all_nil, List.set_cons_zero, List.set_cons_succ, List.replicate_succ, List.replicate_zero, List.getElem?_cons_zero, List.getElem?_cons_succ, List.drop_succ_cons, List.drop_zero, List.take_succ_cons, List.take_zero, List.map_append, List.nil_append, List.cons_append, Nat.reduceShiftRight, Nat.reduceMod]
theorem SamplesErr_s (l : List Int) : Sound Tryd.prog 6 [.sl (ints l)] (.int .i64 (smE l)) := by
  refine sound_W f_ref02_SamplesErr (Nat.le_of_ble_eq_true rfl) ?_
  simp only [c_ref02_SamplesErr, vcV, vcD, Int.reduceEq, Int.reduceNe, Int.reduceLT, Int.reduceLE, Nat.reduceEqDiff, Nat.reduceAdd, reduceIte, reduceCtorEq, Nat.reduceLT, Nat.reduceLeDiff, eq_self, Option.bind_some, Option.map_some, List.map_cons, List.map_nil, List.length_cons, List.length_nil, Option.getD_some, Option.getD_none, List.all_cons, List.all_nil, List.set_cons_zero, List.set_cons_succ, List.replicate_succ, List.replicate_zero, List.getElem?_cons_zero, List.getElem?_cons_succ, List.drop_succ_cons, List.drop_zero, List.take_succ_cons, List.take_zero, List.map_append, List.nil_append, List.cons_append, Nat.reduceShiftRight, Nat.reduceMod]
  refine callS_of (CheckSamples_s l) ?_
  simp only [vcV, vcD, Int.reduceEq, Int.reduceNe, Int.reduceLT, Int.reduceLE, Nat.reduceEqDiff, Nat.reduceAdd, reduceIte, reduceCtorEq, Nat.reduceLT, Nat.reduceLeDiff, eq_self, Option.bind_some, Option.map_some, List.map_cons, List.map_nil, List.length_cons, List.length_nil, Option.getD_some, Option.getD_none, List.all_cons, List.all_nil, List.set_cons_zero, List.set_cons_succ, List.replicate_succ, List.replicate_zero, List.getElem?_cons_zero, List.getElem?_cons_succ, List.drop_succ_cons, List.drop_zero, List.take_succ_cons, List.take_zero, List.map_append, List.nil_append, List.cons_append, Nat.reduceShiftRight, Nat.reduceMod]
end Go.Proofs.YtngjhppgojfceaaDoor

/- Contracts: dead times and afterpulses. By an AI agent; nothing here is trusted. -/
namespace Go.Proofs.YtngjhppgojfceaaDoor
open Go.Av

def winE (lo hi : Int) : Int := if tick lo && tick hi then (if lo ≤ hi then 0 else 9) else 2
def afE (lo hi : Int) (l : List Int) : Int := if timesE l ≠ 0 then timesE l else winE lo hi
def afO (lo hi : Int) (l : List Int) : List Int := if afE lo hi l = 0 then (aft lo hi l l.length).1 else []
theorem winE_ok {lo hi : Int} (h : winE lo hi = 0) : (0 ≤ lo ∧ lo ≤ 1000000000000) ∧ (0 ≤ hi ∧ hi ≤ 1000000000000) ∧ lo ≤ hi := by
  unfold winE at h
  split at h
  · rename_i h1
    rw [Bool.and_eq_true, tick_iff, tick_iff] at h1
    split at h
    · exact ⟨h1.1, h1.2, by assumption⟩
    · cases h
  · cases h
theorem afE_ok {lo hi : Int} {l : List Int} (h : afE lo hi l = 0) : tOk l ∧ winE lo hi = 0 := by
  unfold afE at h
  split at h
  · contradiction
  · rename_i hq
    exact ⟨timesE_ok (by simpa using hq), h⟩
theorem AfterpulsesOf_1_s (o n lo hi : Int) (h : I64 (n - o)) : Sound Tryd.prog 37 [.int .i64 o, .eptr (.int .i64 n) 0, .eptr (.agg [.int .i64 lo, .int .i64 hi]) 0] (.bool (decide (lo ≤ n - o ∧ n - o ≤ hi))) := by
  refine sound_W f_pulse_AfterpulsesOf_1 (Nat.le_of_ble_eq_true rfl) ?_
  simp only [c_pulse_AfterpulsesOf_1, vcV, vcD, Int.reduceEq, Int.reduceNe, Int.reduceLT, Int.reduceLE, Nat.reduceEqDiff, Nat.reduceAdd, reduceIte, reduceCtorEq, Nat.reduceLT, Nat.reduceLeDiff, eq_self, Option.bind_some, Option.map_some, List.map_cons, List.map_nil, List.length_cons, List.length_nil, Option.getD_some, Option.getD_none, List.all_cons, List.all_nil, List.set_cons_zero, List.set_cons_succ, List.replicate_succ, List.replicate_zero, List.getElem?_cons_zero, List.getElem?_cons_succ, List.drop_succ_cons, List.drop_zero, List.take_succ_cons, List.take_zero, List.map_append, List.nil_append, List.cons_append, Nat.reduceShiftRight, Nat.reduceMod]
  refine ⟨h, ?_⟩
  refine callS_of (within_s _ _ _) ?_
  simp only [vcV, vcD, Int.reduceEq, Int.reduceNe, Int.reduceLT, Int.reduceLE, Nat.reduceEqDiff, Nat.reduceAdd, reduceIte, reduceCtorEq, Nat.reduceLT, Nat.reduceLeDiff, eq_self, Option.bind_some, Option.map_some, List.map_cons, List.map_nil, List.length_cons, List.length_nil, Option.getD_some, Option.getD_none, List.all_cons, List.all_nil, List.set_cons_zero, List.set_cons_succ, List.replicate_succ, List.replicate_zero, List.getElem?_cons_zero, List.getElem?_cons_succ, List.drop_succ_cons, List.drop_zero, List.take_succ_cons, List.take_zero, List.map_append, List.nil_append, List.cons_append, Nat.reduceShiftRight, Nat.reduceMod]
theorem aft_mem (lo hi : Int) (l : List Int) : ∀ i, i ≤ l.length → ∀ x ∈ (aft lo hi l i).2, x ∈ l
  | 0, _, x, hx => by simp [aft] at hx
  | i + 1, h, x, hx => by
    have ih := aft_mem lo hi l i (by omega)
    rw [aft] at hx
    split at hx
    · exact ih x hx
    · rcases List.mem_append.1 hx with e | e
      · exact ih x e
      · rw [List.mem_singleton.1 e, getD_at (by omega)]; exact List.getElem_mem _
theorem AfterpulsesOf_s (l : List Int) (lo hi : Int) : Sound Tryd.prog 13 [.sl (ints l), .agg [.int .i64 lo, .int .i64 hi]] (.tup [.sl (ints (afO lo hi l)), .int .i64 (afE lo hi l)]) := by
  refine sound_W f_pulse_AfterpulsesOf (Nat.le_of_ble_eq_true rfl) ?_
  have hmax := maxLen_big
  simp only [c_pulse_AfterpulsesOf, vcV, vcD, Int.reduceEq, Int.reduceNe, Int.reduceLT, Int.reduceLE, Nat.reduceEqDiff, Nat.reduceAdd, reduceIte, reduceCtorEq, Nat.reduceLT, Nat.reduceLeDiff, eq_self, Option.bind_some, Option.map_some, List.map_cons, List.map_nil, List.length_cons, List.length_nil, Option.getD_some, Option.getD_none, List.all_cons, List.all_nil, List.set_cons_zero, List.set_cons_succ, List.replicate_succ, List.replicate_zero, List.getElem?_cons_zero, List.getElem?_cons_succ, List.drop_succ_cons, List.drop_zero, List.take_succ_cons, List.take_zero, List.map_append, List.nil_append, List.cons_append, Nat.reduceShiftRight, Nat.reduceMod]
  refine callS_of (timesErr_s l) ?_
  simp only [vcV, vcD, Int.reduceEq, Int.reduceNe, Int.reduceLT, Int.reduceLE, Nat.reduceEqDiff, Nat.reduceAdd, reduceIte, reduceCtorEq, Nat.reduceLT, Nat.reduceLeDiff, eq_self, Option.bind_some, Option.map_some, List.map_cons, List.map_nil, List.length_cons, List.length_nil, Option.getD_some, Option.getD_none, List.all_cons, List.all_nil, List.set_cons_zero, List.set_cons_succ, List.replicate_succ, List.replicate_zero, List.getElem?_cons_zero, List.getElem?_cons_succ, List.drop_succ_cons, List.drop_zero, List.take_succ_cons, List.take_zero, List.map_append, List.nil_append, List.cons_append, Nat.reduceShiftRight, Nat.reduceMod]
  refine callS_of (isTick_s _) ?_
  have bad : afE lo hi l ≠ 0 → afO lo hi l = [] := fun h => by unfold afO; rw [if_neg h]
  cases hlo : tick lo with
  | false =>
    have he : (if timesE l ≠ 0 then timesE l else if (2 : Int) ≠ 0 then 2 else if decide (lo ≤ hi) = true then 0 else 9) = afE lo hi l := by
      unfold afE winE; rw [hlo]; simp
    have h0 : ¬ afE lo hi l = 0 := by
      rw [← he]; split
      · assumption
      · simp
    have hO := bad h0
    simp only [vcV, vcD, Int.reduceEq, Int.reduceNe, Int.reduceLT, Int.reduceLE, Nat.reduceEqDiff, Nat.reduceAdd, reduceIte, reduceCtorEq, Nat.reduceLT, Nat.reduceLeDiff, eq_self, Option.bind_some, Option.map_some, List.map_cons, List.map_nil, List.length_cons, List.length_nil, Option.getD_some, Option.getD_none, List.all_cons, List.all_nil, List.set_cons_zero, List.set_cons_succ, List.replicate_succ, List.replicate_zero, List.getElem?_cons_zero, List.getElem?_cons_succ, List.drop_succ_cons, List.drop_zero, List.take_succ_cons, List.take_zero, List.map_append, List.nil_append, List.cons_append, Nat.reduceShiftRight, Nat.reduceMod]
    refine callS_of (unless_s _ _) ?_
    simp only [vcV, vcD, Int.reduceEq, Int.reduceNe, Int.reduceLT, Int.reduceLE, Nat.reduceEqDiff, Nat.reduceAdd, reduceIte, reduceCtorEq, Nat.reduceLT, Nat.reduceLeDiff, eq_self, Option.bind_some, Option.map_some, List.map_cons, List.map_nil, List.length_cons, List.length_nil, Option.getD_some, Option.getD_none, List.all_cons, List.all_nil, List.set_cons_zero, List.set_cons_succ, List.replicate_succ, List.replicate_zero, List.getElem?_cons_zero, List.getElem?_cons_succ, List.drop_succ_cons, List.drop_zero, List.take_succ_cons, List.take_zero, List.map_append, List.nil_append, List.cons_append, Nat.reduceShiftRight, Nat.reduceMod]
    refine callS_of (unless_s _ _) ?_
    simp only [vcV, vcD, Int.reduceEq, Int.reduceNe, Int.reduceLT, Int.reduceLE, Nat.reduceEqDiff, Nat.reduceAdd, reduceIte, reduceCtorEq, Nat.reduceLT, Nat.reduceLeDiff, eq_self, Option.bind_some, Option.map_some, List.map_cons, List.map_nil, List.length_cons, List.length_nil, Option.getD_some, Option.getD_none, List.all_cons, List.all_nil, List.set_cons_zero, List.set_cons_succ, List.replicate_succ, List.replicate_zero, List.getElem?_cons_zero, List.getElem?_cons_succ, List.drop_succ_cons, List.drop_zero, List.take_succ_cons, List.take_zero, List.map_append, List.nil_append, List.cons_append, Nat.reduceShiftRight, Nat.reduceMod]
    refine callS_of (first3_s _ _ _) ?_
    rw [he]
    simp only [h0, hO, vcV, vcD, Int.reduceEq, Int.reduceNe, Int.reduceLT, Int.reduceLE, Nat.reduceEqDiff, Nat.reduceAdd, reduceIte, reduceCtorEq, Nat.reduceLT, Nat.reduceLeDiff, eq_self, Option.bind_some, Option.map_some, List.map_cons, List.map_nil, List.length_cons, List.length_nil, Option.getD_some, Option.getD_none, List.all_cons, List.all_nil, List.set_cons_zero, List.set_cons_succ, List.replicate_succ, List.replicate_zero, List.getElem?_cons_zero, List.getElem?_cons_succ, List.drop_succ_cons, List.drop_zero, List.take_succ_cons, List.take_zero, List.map_append, List.nil_append, List.cons_append, Nat.reduceShiftRight, Nat.reduceMod]
    refine ⟨by intro _ k hk; simp [refsL, refs, upd] at hk; subst hk; simp [upd], ?_⟩
    rfl
  | true =>
  simp only [vcV, vcD, Int.reduceEq, Int.reduceNe, Int.reduceLT, Int.reduceLE, Nat.reduceEqDiff, Nat.reduceAdd, reduceIte, reduceCtorEq, Nat.reduceLT, Nat.reduceLeDiff, eq_self, Option.bind_some, Option.map_some, List.map_cons, List.map_nil, List.length_cons, List.length_nil, Option.getD_some, Option.getD_none, List.all_cons, List.all_nil, List.set_cons_zero, List.set_cons_succ, List.replicate_succ, List.replicate_zero, List.getElem?_cons_zero, List.getElem?_cons_succ, List.drop_succ_cons, List.drop_zero, List.take_succ_cons, List.take_zero, List.map_append, List.nil_append, List.cons_append, Nat.reduceShiftRight, Nat.reduceMod]
  refine callS_of (isTick_s _) ?_
  simp only [vcV, vcD, Int.reduceEq, Int.reduceNe, Int.reduceLT, Int.reduceLE, Nat.reduceEqDiff, Nat.reduceAdd, reduceIte, reduceCtorEq, Nat.reduceLT, Nat.reduceLeDiff, eq_self, Option.bind_some, Option.map_some, List.map_cons, List.map_nil, List.length_cons, List.length_nil, Option.getD_some, Option.getD_none, List.all_cons, List.all_nil, List.set_cons_zero, List.set_cons_succ, List.replicate_succ, List.replicate_zero, List.getElem?_cons_zero, List.getElem?_cons_succ, List.drop_succ_cons, List.drop_zero, List.take_succ_cons, List.take_zero, List.map_append, List.nil_append, List.cons_append, Nat.reduceShiftRight, Nat.reduceMod]
  refine callS_of (unless_s _ _) ?_
  simp only [vcV, vcD, Int.reduceEq, Int.reduceNe, Int.reduceLT, Int.reduceLE, Nat.reduceEqDiff, Nat.reduceAdd, reduceIte, reduceCtorEq, Nat.reduceLT, Nat.reduceLeDiff, eq_self, Option.bind_some, Option.map_some, List.map_cons, List.map_nil, List.length_cons, List.length_nil, Option.getD_some, Option.getD_none, List.all_cons, List.all_nil, List.set_cons_zero, List.set_cons_succ, List.replicate_succ, List.replicate_zero, List.getElem?_cons_zero, List.getElem?_cons_succ, List.drop_succ_cons, List.drop_zero, List.take_succ_cons, List.take_zero, List.map_append, List.nil_append, List.cons_append, Nat.reduceShiftRight, Nat.reduceMod]
  refine callS_of (unless_s _ _) ?_
  simp only [vcV, vcD, Int.reduceEq, Int.reduceNe, Int.reduceLT, Int.reduceLE, Nat.reduceEqDiff, Nat.reduceAdd, reduceIte, reduceCtorEq, Nat.reduceLT, Nat.reduceLeDiff, eq_self, Option.bind_some, Option.map_some, List.map_cons, List.map_nil, List.length_cons, List.length_nil, Option.getD_some, Option.getD_none, List.all_cons, List.all_nil, List.set_cons_zero, List.set_cons_succ, List.replicate_succ, List.replicate_zero, List.getElem?_cons_zero, List.getElem?_cons_succ, List.drop_succ_cons, List.drop_zero, List.take_succ_cons, List.take_zero, List.map_append, List.nil_append, List.cons_append, Nat.reduceShiftRight, Nat.reduceMod]
  refine callS_of (first3_s _ _ _) ?_
  have he : (if timesE l ≠ 0 then timesE l else if (if tick hi = true then (0 : Int) else 2) ≠ 0 then (if tick hi = true then (0 : Int) else 2) else if decide (lo ≤ hi) = true then 0 else 9) = afE lo hi l := by
    unfold afE winE; rw [hlo, Bool.true_and]
    cases tick hi <;> simp
  rw [he]
  by_cases h0 : afE lo hi l = 0
  case neg =>
    have hO := bad h0
    simp only [h0, hO, vcV, vcD, Int.reduceEq, Int.reduceNe, Int.reduceLT, Int.reduceLE, Nat.reduceEqDiff, Nat.reduceAdd, reduceIte, reduceCtorEq, Nat.reduceLT, Nat.reduceLeDiff, eq_self, Option.bind_some, Option.map_some, List.map_cons, List.map_nil, List.length_cons, List.length_nil, Option.getD_some, Option.getD_none, List.all_cons, List.all_nil, List.set_cons_zero, List.set_cons_succ, List.replicate_succ, List.replicate_zero, List.getElem?_cons_zero, List.getElem?_cons_succ, List.drop_succ_cons, List.drop_zero, List.take_succ_cons, List.take_zero, List.map_append, List.nil_append, List.cons_append, Nat.reduceShiftRight, Nat.reduceMod]
    refine ⟨by intro _ k hk; simp [refsL, refs, upd] at hk; subst hk; simp [upd], ?_⟩
    rfl
  obtain ⟨⟨o1, o2, o3⟩, w1⟩ := afE_ok h0
  obtain ⟨w2, w3, w4⟩ := winE_ok w1
  have hO : afO lo hi l = (aft lo hi l l.length).1 := by unfold afO; rw [if_pos h0]
  rw [hO, h0]
  simp only [vcV, vcD, Int.reduceEq, Int.reduceNe, Int.reduceLT, Int.reduceLE, Nat.reduceEqDiff, Nat.reduceAdd, reduceIte, reduceCtorEq, Nat.reduceLT, Nat.reduceLeDiff, eq_self, Option.bind_some, Option.map_some, List.map_cons, List.map_nil, List.length_cons, List.length_nil, Option.getD_some, Option.getD_none, List.all_cons, List.all_nil, List.set_cons_zero, List.set_cons_succ, List.replicate_succ, List.replicate_zero, List.getElem?_cons_zero, List.getElem?_cons_succ, List.drop_succ_cons, List.drop_zero, List.take_succ_cons, List.take_zero, List.map_append, List.nil_append, List.cons_append, Nat.reduceShiftRight, Nat.reduceMod]
  refine ⟨by intro _ k hk; simp [refsL, refs, upd] at hk; subst hk; simp [upd], ?_⟩
  refine W_loop (t := .mk) (α := PSigma fun i : Nat => i ≤ l.length) (fun ⟨i, _⟩ => (envOf [(3, .ptr 3 0 0), (7, .buf 100 (aft lo hi l i).1.length), (8, .buf 101 (aft lo hi l i).2.length), (33, .sl (ints l)), (34, .int .i64 l.length), (35, .int .i64 i)],
    stOf [(3, ⟨35, 2, [.agg [.int .i64 lo, .int .i64 hi]]⟩), (100, ⟨3, 1, ints (aft lo hi l i).1⟩), (101, ⟨3, 1, ints (aft lo hi l i).2⟩)])) (fun p => l.length - p.1) ⟨0, Nat.zero_le _⟩ ?_ (fun ⟨i, hi'⟩ => ?_)
  · have z1 : ints (aft lo hi l 0).1 = [] := rfl
    have z2 : ints (aft lo hi l 0).2 = [] := rfl
    have z3 : (aft lo hi l 0).1.length = 0 := rfl
    have z4 : (aft lo hi l 0).2.length = 0 := rfl
    refine weakX [(100, none), (101, none)] (of_decide_eq_true rfl) (of_decide_eq_true rfl) ?_
    (simp only [z1, z2, z3, z4, vcW, vcV, vcD, Int.reduceEq, Int.reduceNe, Int.reduceLT, Int.reduceLE, Nat.reduceEqDiff, Nat.reduceAdd, reduceIte, reduceCtorEq, Nat.reduceLT, Nat.reduceLeDiff, eq_self, Option.bind_some, Option.map_some, List.map_cons, List.map_nil, List.length_cons, List.length_nil, Option.getD_some, Option.getD_none, List.all_cons, List.all_nil, List.set_cons_zero, List.set_cons_succ, List.replicate_succ, List.replicate_zero, List.getElem?_cons_zero, List.getElem?_cons_succ, List.drop_succ_cons, List.drop_zero, List.take_succ_cons, List.take_zero, List.map_append, List.nil_append, List.cons_append, Nat.reduceShiftRight, Nat.reduceMod])
    (repeat' first | exact trivial | (with_reducible exact RnB.fxB (ints_fxB _)) | (with_reducible rfl) | (with_reducible refine And.intro ?_ ?_) | (with_reducible refine RnB.bb ?_; simp only [vcW, vcV, vcD, Int.reduceEq, Int.reduceNe, Int.reduceLT, Int.reduceLE, Nat.reduceEqDiff, Nat.reduceAdd, reduceIte, reduceCtorEq, Nat.reduceLT, Nat.reduceLeDiff, eq_self, Option.bind_some, Option.map_some, List.map_cons, List.map_nil, List.length_cons, List.length_nil, Option.getD_some, Option.getD_none, List.all_cons, List.all_nil, List.set_cons_zero, List.set_cons_succ, List.replicate_succ, List.replicate_zero, List.getElem?_cons_zero, List.getElem?_cons_succ, List.drop_succ_cons, List.drop_zero, List.take_succ_cons, List.take_zero, List.map_append, List.nil_append, List.cons_append, Nat.reduceShiftRight, Nat.reduceMod]) | (with_reducible refine RnB.nb ?_; simp only [vcW, vcV, vcD, Int.reduceEq, Int.reduceNe, Int.reduceLT, Int.reduceLE, Nat.reduceEqDiff, Nat.reduceAdd, reduceIte, reduceCtorEq, Nat.reduceLT, Nat.reduceLeDiff, eq_self, Option.bind_some, Option.map_some, List.map_cons, List.map_nil, List.length_cons, List.length_nil, Option.getD_some, Option.getD_none, List.all_cons, List.all_nil, List.set_cons_zero, List.set_cons_succ, List.replicate_succ, List.replicate_zero, List.getElem?_cons_zero, List.getElem?_cons_succ, List.drop_succ_cons, List.drop_zero, List.take_succ_cons, List.take_zero, List.map_append, List.nil_append, List.cons_append, Nat.reduceShiftRight, Nat.reduceMod]) | (with_reducible refine RnB.ii ?_) | (with_reducible refine RnB.app ?_) | (with_reducible refine RnB.fxB ?_; simp only [vcW, vcV, vcD, Int.reduceEq, Int.reduceNe, Int.reduceLT, Int.reduceLE, Nat.reduceEqDiff, Nat.reduceAdd, reduceIte, reduceCtorEq, Nat.reduceLT, Nat.reduceLeDiff, eq_self, Option.bind_some, Option.map_some, List.map_cons, List.map_nil, List.length_cons, List.length_nil, Option.getD_some, Option.getD_none, List.all_cons, List.all_nil, List.set_cons_zero, List.set_cons_succ, List.replicate_succ, List.replicate_zero, List.getElem?_cons_zero, List.getElem?_cons_succ, List.drop_succ_cons, List.drop_zero, List.take_succ_cons, List.take_zero, List.map_append, List.nil_append, List.cons_append, Nat.reduceShiftRight, Nat.reduceMod]) | omega)
  · dsimp only at hi' ⊢
    by_cases h' : i < l.length
    · have h5 : (i : Int) < l.length := by omega
      have hx := o2 l[i] (List.getElem_mem h')
      have hle := aft_len lo hi l i
      have hmem := aft_mem lo hi l i hi'
      have hs : aft lo hi l (i + 1) = if (aft lo hi l i).2.any (fun o => decide (lo ≤ l[i] - o ∧ l[i] - o ≤ hi)) then ((aft lo hi l i).1 ++ [(i : Int)], (aft lo hi l i).2) else ((aft lo hi l i).1, (aft lo hi l i).2 ++ [l[i]]) := by rw [aft, getD_at h']
      generalize ha : (aft lo hi l i).1 = a at *
      generalize hb : (aft lo hi l i).2 = b at *
      have hC : Sound Tryd.prog 36 [.sl (ints b), .fn 37 [.eptr (.int .i64 l[i]) 0, .eptr (.agg [.int .i64 lo, .int .i64 hi]) 0]] (.bool (b.any fun o => decide (lo ≤ l[i] - o ∧ l[i] - o ≤ hi))) :=
        contFunc_int_s b _ _ _ (by omega) (by simp [fx1]) (fun o ho => AfterpulsesOf_1_s o l[i] lo hi (by have := o2 o (hmem o ho); unfold I64; omega))
      have hbor : ∀ (s : Store) (n ty : Nat), borB s (n + 1) b.length (some (some ⟨ty, 1, ints b⟩)) = .sl (ints b) := fun s n ty => borB_good _ _ _ _ _ (by rw [ints_length]) (ints_fx _)
      have hia : ints (a ++ [(i : Int)]) = ints a ++ [.int .i64 i] := ints_append _ _
      have hib : ints (b ++ [l[i]]) = ints b ++ [.int .i64 l[i]] := ints_append _ _
      simp only [h5, ints_get l i h', hbor, vcV, vcD, Int.reduceEq, Int.reduceNe, Int.reduceLT, Int.reduceLE, Nat.reduceEqDiff, Nat.reduceAdd, reduceIte, reduceCtorEq, Nat.reduceLT, Nat.reduceLeDiff, eq_self, Option.bind_some, Option.map_some, List.map_cons, List.map_nil, List.length_cons, List.length_nil, Option.getD_some, Option.getD_none, List.all_cons, List.all_nil, List.set_cons_zero, List.set_cons_succ, List.replicate_succ, List.replicate_zero, List.getElem?_cons_zero, List.getElem?_cons_succ, List.drop_succ_cons, List.drop_zero, List.take_succ_cons, List.take_zero, List.map_append, List.nil_append, List.cons_append, Nat.reduceShiftRight, Nat.reduceMod]
      (repeat (with_reducible refine And.intro ?_ ?_; focus (first | omega | (unfold I64; omega))))
      refine callS_of hC ?_
      cases hany : b.any fun o => decide (lo ≤ l[i] - o ∧ l[i] - o ≤ hi) with
      | true =>
        rw [hany, if_pos rfl] at hs
        have hs1 : (aft lo hi l (i + 1)).1 = a ++ [(i : Int)] := by rw [hs]
        have hs2 : (aft lo hi l (i + 1)).2 = b := by rw [hs]
        simp only [ints_length, vcV, vcD, Int.reduceEq, Int.reduceNe, Int.reduceLT, Int.reduceLE, Nat.reduceEqDiff, Nat.reduceAdd, reduceIte, reduceCtorEq, Nat.reduceLT, Nat.reduceLeDiff, eq_self, Option.bind_some, Option.map_some, List.map_cons, List.map_nil, List.length_cons, List.length_nil, Option.getD_some, Option.getD_none, List.all_cons, List.all_nil, List.set_cons_zero, List.set_cons_succ, List.replicate_succ, List.replicate_zero, List.getElem?_cons_zero, List.getElem?_cons_succ, List.drop_succ_cons, List.drop_zero, List.take_succ_cons, List.take_zero, List.map_append, List.nil_append, List.cons_append, Nat.reduceShiftRight, Nat.reduceMod]
        (repeat (with_reducible refine And.intro ?_ ?_; focus (first | omega | (unfold I64; omega))))
        refine ⟨⟨i + 1, h'⟩, by simp only; omega, ?_⟩
        refine weakX [(100, some 46), (101, some 101)] (of_decide_eq_true rfl) (of_decide_eq_true rfl) ?_
        (simp only [hs1, hs2, hia, List.length_append, ints_length, vcW, vcV, vcD, Int.reduceEq, Int.reduceNe, Int.reduceLT, Int.reduceLE, Nat.reduceEqDiff, Nat.reduceAdd, reduceIte, reduceCtorEq, Nat.reduceLT, Nat.reduceLeDiff, eq_self, Option.bind_some, Option.map_some, List.map_cons, List.map_nil, List.length_cons, List.length_nil, Option.getD_some, Option.getD_none, List.all_cons, List.all_nil, List.set_cons_zero, List.set_cons_succ, List.replicate_succ, List.replicate_zero, List.getElem?_cons_zero, List.getElem?_cons_succ, List.drop_succ_cons, List.drop_zero, List.take_succ_cons, List.take_zero, List.map_append, List.nil_append, List.cons_append, Nat.reduceShiftRight, Nat.reduceMod])
        (repeat' first | exact trivial | (with_reducible exact RnB.fxB (ints_fxB _)) | (with_reducible rfl) | (with_reducible refine And.intro ?_ ?_) | (with_reducible refine RnB.bb ?_; simp only [vcW, vcV, vcD, Int.reduceEq, Int.reduceNe, Int.reduceLT, Int.reduceLE, Nat.reduceEqDiff, Nat.reduceAdd, reduceIte, reduceCtorEq, Nat.reduceLT, Nat.reduceLeDiff, eq_self, Option.bind_some, Option.map_some, List.map_cons, List.map_nil, List.length_cons, List.length_nil, Option.getD_some, Option.getD_none, List.all_cons, List.all_nil, List.set_cons_zero, List.set_cons_succ, List.replicate_succ, List.replicate_zero, List.getElem?_cons_zero, List.getElem?_cons_succ, List.drop_succ_cons, List.drop_zero, List.take_succ_cons, List.take_zero, List.map_append, List.nil_append, List.cons_append, Nat.reduceShiftRight, Nat.reduceMod]) | (with_reducible refine RnB.nb ?_; simp only [vcW, vcV, vcD, Int.reduceEq, Int.reduceNe, Int.reduceLT, Int.reduceLE, Nat.reduceEqDiff, Nat.reduceAdd, reduceIte, reduceCtorEq, Nat.reduceLT, Nat.reduceLeDiff, eq_self, Option.bind_some, Option.map_some, List.map_cons, List.map_nil, List.length_cons, List.length_nil, Option.getD_some, Option.getD_none, List.all_cons, List.all_nil, List.set_cons_zero, List.set_cons_succ, List.replicate_succ, List.replicate_zero, List.getElem?_cons_zero, List.getElem?_cons_succ, List.drop_succ_cons, List.drop_zero, List.take_succ_cons, List.take_zero, List.map_append, List.nil_append, List.cons_append, Nat.reduceShiftRight, Nat.reduceMod]) | (with_reducible refine RnB.ii ?_) | (with_reducible refine RnB.app ?_) | (with_reducible refine RnB.fxB ?_; simp only [vcW, vcV, vcD, Int.reduceEq, Int.reduceNe, Int.reduceLT, Int.reduceLE, Nat.reduceEqDiff, Nat.reduceAdd, reduceIte, reduceCtorEq, Nat.reduceLT, Nat.reduceLeDiff, eq_self, Option.bind_some, Option.map_some, List.map_cons, List.map_nil, List.length_cons, List.length_nil, Option.getD_some, Option.getD_none, List.all_cons, List.all_nil, List.set_cons_zero, List.set_cons_succ, List.replicate_succ, List.replicate_zero, List.getElem?_cons_zero, List.getElem?_cons_succ, List.drop_succ_cons, List.drop_zero, List.take_succ_cons, List.take_zero, List.map_append, List.nil_append, List.cons_append, Nat.reduceShiftRight, Nat.reduceMod]) | omega)
        all_goals first | exact hia.symm | exact RnB.fxB (by rw [← hia]; exact ints_fxB _) | skip
      | false =>
        rw [hany, if_neg (by decide)] at hs
        have hs1 : (aft lo hi l (i + 1)).1 = a := by rw [hs]
        have hs2 : (aft lo hi l (i + 1)).2 = b ++ [l[i]] := by rw [hs]
        simp only [ints_length, vcV, vcD, Int.reduceEq, Int.reduceNe, Int.reduceLT, Int.reduceLE, Nat.reduceEqDiff, Nat.reduceAdd, reduceIte, reduceCtorEq, Nat.reduceLT, Nat.reduceLeDiff, eq_self, Option.bind_some, Option.map_some, List.map_cons, List.map_nil, List.length_cons, List.length_nil, Option.getD_some, Option.getD_none, List.all_cons, List.all_nil, List.set_cons_zero, List.set_cons_succ, List.replicate_succ, List.replicate_zero, List.getElem?_cons_zero, List.getElem?_cons_succ, List.drop_succ_cons, List.drop_zero, List.take_succ_cons, List.take_zero, List.map_append, List.nil_append, List.cons_append, Nat.reduceShiftRight, Nat.reduceMod]
        (repeat (with_reducible refine And.intro ?_ ?_; focus (first | omega | (unfold I64; omega))))
        refine ⟨⟨i + 1, h'⟩, by simp only; omega, ?_⟩
        refine weakX [(100, some 100), (101, some 50)] (of_decide_eq_true rfl) (of_decide_eq_true rfl) ?_
        (simp only [hs1, hs2, hib, List.length_append, ints_length, vcW, vcV, vcD, Int.reduceEq, Int.reduceNe, Int.reduceLT, Int.reduceLE, Nat.reduceEqDiff, Nat.reduceAdd, reduceIte, reduceCtorEq, Nat.reduceLT, Nat.reduceLeDiff, eq_self, Option.bind_some, Option.map_some, List.map_cons, List.map_nil, List.length_cons, List.length_nil, Option.getD_some, Option.getD_none, List.all_cons, List.all_nil, List.set_cons_zero, List.set_cons_succ, List.replicate_succ, List.replicate_zero, List.getElem?_cons_zero, List.getElem?_cons_succ, List.drop_succ_cons, List.drop_zero, List.take_succ_cons, List.take_zero, List.map_append, List.nil_append, List.cons_append, Nat.reduceShiftRight, Nat.reduceMod])
        (repeat' first | exact trivial | (with_reducible exact RnB.fxB (ints_fxB _)) | (with_reducible rfl) | (with_reducible refine And.intro ?_ ?_) | (with_reducible refine RnB.bb ?_; simp only [vcW, vcV, vcD, Int.reduceEq, Int.reduceNe, Int.reduceLT, Int.reduceLE, Nat.reduceEqDiff, Nat.reduceAdd, reduceIte, reduceCtorEq, Nat.reduceLT, Nat.reduceLeDiff, eq_self, Option.bind_some, Option.map_some, List.map_cons, List.map_nil, List.length_cons, List.length_nil, Option.getD_some, Option.getD_none, List.all_cons, List.all_nil, List.set_cons_zero, List.set_cons_succ, List.replicate_succ, List.replicate_zero, List.getElem?_cons_zero, List.getElem?_cons_succ, List.drop_succ_cons, List.drop_zero, List.take_succ_cons, List.take_zero, List.map_append, List.nil_append, List.cons_append, Nat.reduceShiftRight, Nat.reduceMod]) | (with_reducible refine RnB.nb ?_; simp only [vcW, vcV, vcD, Int.reduceEq, Int.reduceNe, Int.reduceLT, Int.reduceLE, Nat.reduceEqDiff, Nat.reduceAdd, reduceIte, reduceCtorEq, Nat.reduceLT, Nat.reduceLeDiff, eq_self, Option.bind_some, Option.map_some, List.map_cons, List.map_nil, List.length_cons, List.length_nil, Option.getD_some, Option.getD_none, List.all_cons, List.all_nil, List.set_cons_zero, List.set_cons_succ, List.replicate_succ, List.replicate_zero, List.getElem?_cons_zero, List.getElem?_cons_succ, List.drop_succ_cons, List.drop_zero, List.take_succ_cons, List.take_zero, List.map_append, List.nil_append, List.cons_append, Nat.reduceShiftRight, Nat.reduceMod]) | (with_reducible refine RnB.ii ?_) | (with_reducible refine RnB.app ?_) | (with_reducible refine RnB.fxB ?_; simp only [vcW, vcV, vcD, Int.reduceEq, Int.reduceNe, Int.reduceLT, Int.reduceLE, Nat.reduceEqDiff, Nat.reduceAdd, reduceIte, reduceCtorEq, Nat.reduceLT, Nat.reduceLeDiff, eq_self, Option.bind_some, Option.map_some, List.map_cons, List.map_nil, List.length_cons, List.length_nil, Option.getD_some, Option.getD_none, List.all_cons, List.all_nil, List.set_cons_zero, List.set_cons_succ, List.replicate_succ, List.replicate_zero, List.getElem?_cons_zero, List.getElem?_cons_succ, List.drop_succ_cons, List.drop_zero, List.take_succ_cons, List.take_zero, List.map_append, List.nil_append, List.cons_append, Nat.reduceShiftRight, Nat.reduceMod]) | omega)
        all_goals first | exact hib.symm | exact RnB.fxB (by rw [← hib]; exact ints_fxB _) | skip
    · have h5 : ¬ (i : Int) < l.length := by omega
      have hin : i = l.length := by omega
      subst hin
      simp only [h5, vcV, vcD, Int.reduceEq, Int.reduceNe, Int.reduceLT, Int.reduceLE, Nat.reduceEqDiff, Nat.reduceAdd, reduceIte, reduceCtorEq, Nat.reduceLT, Nat.reduceLeDiff, eq_self, Option.bind_some, Option.map_some, List.map_cons, List.map_nil, List.length_cons, List.length_nil, Option.getD_some, Option.getD_none, List.all_cons, List.all_nil, List.set_cons_zero, List.set_cons_succ, List.replicate_succ, List.replicate_zero, List.getElem?_cons_zero, List.getElem?_cons_succ, List.drop_succ_cons, List.drop_zero, List.take_succ_cons, List.take_zero, List.map_append, List.nil_append, List.cons_append, Nat.reduceShiftRight, Nat.reduceMod]
      rw [borB_good _ _ _ _ _ (by rw [ints_length]) (ints_fx _)]
end Go.Proofs.YtngjhppgojfceaaDoor

/- Contracts: hits, joined ranges. By an AI agent; nothing here is trusted. -/
namespace Go.Proofs.YtngjhppgojfceaaDoor
open Go.Av

theorem snoc_get {α : Type} (l : List α) (x : α) (k : Nat) (h : l.length = k) : (l ++ [x])[k]? = some x := by subst h; simp
theorem snoc_set {α : Type} (l : List α) (x y : α) (k : Nat) (h : l.length = k) : (l ++ [x]).set k y = l ++ [y] := by subst h; simp
theorem prs_fxB (l : List (Int × Int)) : (prs l).all fx = true := List.all_eq_true.2 (prs_fx l)
theorem prs_append (a b : List (Int × Int)) : prs (a ++ b) = prs a ++ prs b := by simp [prs]
theorem prs_rev (p : Int × Int) (R : List (Int × Int)) : prs (p :: R).reverse = prs R.reverse ++ [.agg [.int .i64 p.1, .int .i64 p.2]] := by
  rw [List.reverse_cons, prs_append]; rfl
def htE (l : List Int) (t : Int) : Int := if smE l ≠ 0 then smE l else if smp t then 0 else 2
def htO (l : List Int) (t : Int) : List (Int × Int) := if htE l t = 0 then hitsL l t else []
theorem htE_ok {l : List Int} {t : Int} (h : htE l t = 0) : smE l = 0 ∧ smp t = true := by
  unfold htE at h
  split at h
  · contradiction
  · rename_i hq
    split at h
    · exact ⟨by simpa using hq, by assumption⟩
    · cases h
theorem HitsOf_s (l : List Int) (t : Int) (hl : l.length < 4000000000000000000) : Sound Tryd.prog 9 [.sl (ints l), .int .i64 t] (.tup [.sl (prs (htO l t)), .int .i64 (htE l t)]) := by
  refine sound_W f_pulse_HitsOf (Nat.le_of_ble_eq_true rfl) ?_
  have hmax := maxLen_big
  simp only [c_pulse_HitsOf, vcV, vcD, Int.reduceEq, Int.reduceNe, Int.reduceLT, Int.reduceLE, Nat.reduceEqDiff, Nat.reduceAdd, reduceIte, reduceCtorEq, Nat.reduceLT, Nat.reduceLeDiff, eq_self, Option.bind_some, Option.map_some, List.map_cons, List.map_nil, List.length_cons, List.length_nil, Option.getD_some, Option.getD_none, List.all_cons, List.all_nil, List.set_cons_zero, List.set_cons_succ, List.replicate_succ, List.replicate_zero, List.getElem?_cons_zero, List.getElem?_cons_succ, List.drop_succ_cons, List.drop_zero, List.take_succ_cons, List.take_zero, List.map_append, List.nil_append, List.cons_append, Nat.reduceShiftRight, Nat.reduceMod]
  refine callS_of (sampled_s l hl) ?_
  simp only [vcV, vcD, Int.reduceEq, Int.reduceNe, Int.reduceLT, Int.reduceLE, Nat.reduceEqDiff, Nat.reduceAdd, reduceIte, reduceCtorEq, Nat.reduceLT, Nat.reduceLeDiff, eq_self, Option.bind_some, Option.map_some, List.map_cons, List.map_nil, List.length_cons, List.length_nil, Option.getD_some, Option.getD_none, List.all_cons, List.all_nil, List.set_cons_zero, List.set_cons_succ, List.replicate_succ, List.replicate_zero, List.getElem?_cons_zero, List.getElem?_cons_succ, List.drop_succ_cons, List.drop_zero, List.take_succ_cons, List.take_zero, List.map_append, List.nil_append, List.cons_append, Nat.reduceShiftRight, Nat.reduceMod]
  refine callS_of (isSample_s _) ?_
  simp only [vcV, vcD, Int.reduceEq, Int.reduceNe, Int.reduceLT, Int.reduceLE, Nat.reduceEqDiff, Nat.reduceAdd, reduceIte, reduceCtorEq, Nat.reduceLT, Nat.reduceLeDiff, eq_self, Option.bind_some, Option.map_some, List.map_cons, List.map_nil, List.length_cons, List.length_nil, Option.getD_some, Option.getD_none, List.all_cons, List.all_nil, List.set_cons_zero, List.set_cons_succ, List.replicate_succ, List.replicate_zero, List.getElem?_cons_zero, List.getElem?_cons_succ, List.drop_succ_cons, List.drop_zero, List.take_succ_cons, List.take_zero, List.map_append, List.nil_append, List.cons_append, Nat.reduceShiftRight, Nat.reduceMod]
  refine callS_of (unless_s _ _) ?_
  simp only [vcV, vcD, Int.reduceEq, Int.reduceNe, Int.reduceLT, Int.reduceLE, Nat.reduceEqDiff, Nat.reduceAdd, reduceIte, reduceCtorEq, Nat.reduceLT, Nat.reduceLeDiff, eq_self, Option.bind_some, Option.map_some, List.map_cons, List.map_nil, List.length_cons, List.length_nil, Option.getD_some, Option.getD_none, List.all_cons, List.all_nil, List.set_cons_zero, List.set_cons_succ, List.replicate_succ, List.replicate_zero, List.getElem?_cons_zero, List.getElem?_cons_succ, List.drop_succ_cons, List.drop_zero, List.take_succ_cons, List.take_zero, List.map_append, List.nil_append, List.cons_append, Nat.reduceShiftRight, Nat.reduceMod]
  refine callS_of (first2_s _ _) ?_
  have he : (if smE l ≠ 0 then smE l else if smp t = true then 0 else 2) = htE l t := rfl
  rw [he]
  by_cases h0 : htE l t = 0
  case neg =>
    have hO : htO l t = [] := by unfold htO; rw [if_neg h0]
    simp only [h0, hO, vcV, vcD, Int.reduceEq, Int.reduceNe, Int.reduceLT, Int.reduceLE, Nat.reduceEqDiff, Nat.reduceAdd, reduceIte, reduceCtorEq, Nat.reduceLT, Nat.reduceLeDiff, eq_self, Option.bind_some, Option.map_some, List.map_cons, List.map_nil, List.length_cons, List.length_nil, Option.getD_some, Option.getD_none, List.all_cons, List.all_nil, List.set_cons_zero, List.set_cons_succ, List.replicate_succ, List.replicate_zero, List.getElem?_cons_zero, List.getElem?_cons_succ, List.drop_succ_cons, List.drop_zero, List.take_succ_cons, List.take_zero, List.map_append, List.nil_append, List.cons_append, Nat.reduceShiftRight, Nat.reduceMod]
    rfl
  obtain ⟨h2, ht⟩ := htE_ok h0
  obtain ⟨g1, g2, h3⟩ := smE_ok h2
  have hO : htO l t = (runR (hitK l t) l.length).reverse := by unfold htO; rw [if_pos h0]; rfl
  rw [hO, h0]
  simp only [vcV, vcD, Int.reduceEq, Int.reduceNe, Int.reduceLT, Int.reduceLE, Nat.reduceEqDiff, Nat.reduceAdd, reduceIte, reduceCtorEq, Nat.reduceLT, Nat.reduceLeDiff, eq_self, Option.bind_some, Option.map_some, List.map_cons, List.map_nil, List.length_cons, List.length_nil, Option.getD_some, Option.getD_none, List.all_cons, List.all_nil, List.set_cons_zero, List.set_cons_succ, List.replicate_succ, List.replicate_zero, List.getElem?_cons_zero, List.getElem?_cons_succ, List.drop_succ_cons, List.drop_zero, List.take_succ_cons, List.take_zero, List.map_append, List.nil_append, List.cons_append, Nat.reduceShiftRight, Nat.reduceMod]
  refine W_loop (t := .mk) (α := PSigma fun i : Nat => i ≤ l.length) (fun ⟨i, _⟩ => (envOf [(1, .int .i64 t), (7, .buf 100 (runR (hitK l t) i).length), (21, .sl (ints l)), (22, .int .i64 l.length), (23, .int .i64 i)], stOf [(100, ⟨35, 2, prs (runR (hitK l t) i).reverse⟩)])) (fun p => l.length - p.1) ⟨0, Nat.zero_le _⟩ ?_ (fun ⟨i, hi⟩ => ?_)
  · have z1 : prs (runR (hitK l t) 0).reverse = [] := rfl
    have z2 : (runR (hitK l t) 0).length = 0 := rfl
    refine weakX [(100, none)] (of_decide_eq_true rfl) (of_decide_eq_true rfl) ?_
    (simp only [z1, z2, vcW, vcV, vcD, Int.reduceEq, Int.reduceNe, Int.reduceLT, Int.reduceLE, Nat.reduceEqDiff, Nat.reduceAdd, reduceIte, reduceCtorEq, Nat.reduceLT, Nat.reduceLeDiff, eq_self, Option.bind_some, Option.map_some, List.map_cons, List.map_nil, List.length_cons, List.length_nil, Option.getD_some, Option.getD_none, List.all_cons, List.all_nil, List.set_cons_zero, List.set_cons_succ, List.replicate_succ, List.replicate_zero, List.getElem?_cons_zero, List.getElem?_cons_succ, List.drop_succ_cons, List.drop_zero, List.take_succ_cons, List.take_zero, List.map_append, List.nil_append, List.cons_append, Nat.reduceShiftRight, Nat.reduceMod])
    (repeat' first | exact trivial | (with_reducible exact RnB.fxB (ints_fxB _)) | (with_reducible rfl) | (with_reducible refine And.intro ?_ ?_) | (with_reducible refine RnB.bb ?_; simp only [vcW, vcV, vcD, Int.reduceEq, Int.reduceNe, Int.reduceLT, Int.reduceLE, Nat.reduceEqDiff, Nat.reduceAdd, reduceIte, reduceCtorEq, Nat.reduceLT, Nat.reduceLeDiff, eq_self, Option.bind_some, Option.map_some, List.map_cons, List.map_nil, List.length_cons, List.length_nil, Option.getD_some, Option.getD_none, List.all_cons, List.all_nil, List.set_cons_zero, List.set_cons_succ, List.replicate_succ, List.replicate_zero, List.getElem?_cons_zero, List.getElem?_cons_succ, List.drop_succ_cons, List.drop_zero, List.take_succ_cons, List.take_zero, List.map_append, List.nil_append, List.cons_append, Nat.reduceShiftRight, Nat.reduceMod]) | (with_reducible refine RnB.nb ?_; simp only [vcW, vcV, vcD, Int.reduceEq, Int.reduceNe, Int.reduceLT, Int.reduceLE, Nat.reduceEqDiff, Nat.reduceAdd, reduceIte, reduceCtorEq, Nat.reduceLT, Nat.reduceLeDiff, eq_self, Option.bind_some, Option.map_some, List.map_cons, List.map_nil, List.length_cons, List.length_nil, Option.getD_some, Option.getD_none, List.all_cons, List.all_nil, List.set_cons_zero, List.set_cons_succ, List.replicate_succ, List.replicate_zero, List.getElem?_cons_zero, List.getElem?_cons_succ, List.drop_succ_cons, List.drop_zero, List.take_succ_cons, List.take_zero, List.map_append, List.nil_append, List.cons_append, Nat.reduceShiftRight, Nat.reduceMod]) | (with_reducible refine RnB.ii ?_) | (with_reducible refine RnB.app ?_) | (with_reducible refine RnB.fxB ?_; simp only [vcW, vcV, vcD, Int.reduceEq, Int.reduceNe, Int.reduceLT, Int.reduceLE, Nat.reduceEqDiff, Nat.reduceAdd, reduceIte, reduceCtorEq, Nat.reduceLT, Nat.reduceLeDiff, eq_self, Option.bind_some, Option.map_some, List.map_cons, List.map_nil, List.length_cons, List.length_nil, Option.getD_some, Option.getD_none, List.all_cons, List.all_nil, List.set_cons_zero, List.set_cons_succ, List.replicate_succ, List.replicate_zero, List.getElem?_cons_zero, List.getElem?_cons_succ, List.drop_succ_cons, List.drop_zero, List.take_succ_cons, List.take_zero, List.map_append, List.nil_append, List.cons_append, Nat.reduceShiftRight, Nat.reduceMod]) | omega)
  · dsimp only at hi ⊢
    by_cases h' : i < l.length
    · have h5 : (i : Int) < l.length := by omega
      obtain ⟨o1, o2, o3⟩ := runR_ok (hitK l t) i
      have hcov := (runR_cov (hitK l t) i).1 ((i : Int) - 1)
      have hkd : hitK l t i = decide (t ≤ l[i]) := by unfold hitK; rw [getD_at h']
      by_cases hk : t ≤ l[i]
      case neg =>
        have hk' : l[i] < t := by omega
        have hs := runR_no (kf := hitK l t) (i := i) (by rw [hkd]; exact decide_eq_false hk)
        simp only [h5, ints_get l i h', hk', vcV, vcD, Int.reduceEq, Int.reduceNe, Int.reduceLT, Int.reduceLE, Nat.reduceEqDiff, Nat.reduceAdd, reduceIte, reduceCtorEq, Nat.reduceLT, Nat.reduceLeDiff, eq_self, Option.bind_some, Option.map_some, List.map_cons, List.map_nil, List.length_cons, List.length_nil, Option.getD_some, Option.getD_none, List.all_cons, List.all_nil, List.set_cons_zero, List.set_cons_succ, List.replicate_succ, List.replicate_zero, List.getElem?_cons_zero, List.getElem?_cons_succ, List.drop_succ_cons, List.drop_zero, List.take_succ_cons, List.take_zero, List.map_append, List.nil_append, List.cons_append, Nat.reduceShiftRight, Nat.reduceMod]
        (repeat (with_reducible refine And.intro ?_ ?_; focus (first | omega | (unfold I64; omega))))
        refine ⟨⟨i + 1, h'⟩, by simp only; omega, ?_⟩
        refine weakX [] (of_decide_eq_true rfl) (of_decide_eq_true rfl) ?_
        (simp only [hs, vcW, vcV, vcD, Int.reduceEq, Int.reduceNe, Int.reduceLT, Int.reduceLE, Nat.reduceEqDiff, Nat.reduceAdd, reduceIte, reduceCtorEq, Nat.reduceLT, Nat.reduceLeDiff, eq_self, Option.bind_some, Option.map_some, List.map_cons, List.map_nil, List.length_cons, List.length_nil, Option.getD_some, Option.getD_none, List.all_cons, List.all_nil, List.set_cons_zero, List.set_cons_succ, List.replicate_succ, List.replicate_zero, List.getElem?_cons_zero, List.getElem?_cons_succ, List.drop_succ_cons, List.drop_zero, List.take_succ_cons, List.take_zero, List.map_append, List.nil_append, List.cons_append, Nat.reduceShiftRight, Nat.reduceMod])
        (repeat' first | exact trivial | (with_reducible exact RnB.fxB (ints_fxB _)) | (with_reducible rfl) | (with_reducible refine And.intro ?_ ?_) | (with_reducible refine RnB.bb ?_; simp only [vcW, vcV, vcD, Int.reduceEq, Int.reduceNe, Int.reduceLT, Int.reduceLE, Nat.reduceEqDiff, Nat.reduceAdd, reduceIte, reduceCtorEq, Nat.reduceLT, Nat.reduceLeDiff, eq_self, Option.bind_some, Option.map_some, List.map_cons, List.map_nil, List.length_cons, List.length_nil, Option.getD_some, Option.getD_none, List.all_cons, List.all_nil, List.set_cons_zero, List.set_cons_succ, List.replicate_succ, List.replicate_zero, List.getElem?_cons_zero, List.getElem?_cons_succ, List.drop_succ_cons, List.drop_zero, List.take_succ_cons, List.take_zero, List.map_append, List.nil_append, List.cons_append, Nat.reduceShiftRight, Nat.reduceMod]) | (with_reducible refine RnB.nb ?_; simp only [vcW, vcV, vcD, Int.reduceEq, Int.reduceNe, Int.reduceLT, Int.reduceLE, Nat.reduceEqDiff, Nat.reduceAdd, reduceIte, reduceCtorEq, Nat.reduceLT, Nat.reduceLeDiff, eq_self, Option.bind_some, Option.map_some, List.map_cons, List.map_nil, List.length_cons, List.length_nil, Option.getD_some, Option.getD_none, List.all_cons, List.all_nil, List.set_cons_zero, List.set_cons_succ, List.replicate_succ, List.replicate_zero, List.getElem?_cons_zero, List.getElem?_cons_succ, List.drop_succ_cons, List.drop_zero, List.take_succ_cons, List.take_zero, List.map_append, List.nil_append, List.cons_append, Nat.reduceShiftRight, Nat.reduceMod]) | (with_reducible refine RnB.ii ?_) | (with_reducible refine RnB.app ?_) | (with_reducible refine RnB.fxB ?_; simp only [vcW, vcV, vcD, Int.reduceEq, Int.reduceNe, Int.reduceLT, Int.reduceLE, Nat.reduceEqDiff, Nat.reduceAdd, reduceIte, reduceCtorEq, Nat.reduceLT, Nat.reduceLeDiff, eq_self, Option.bind_some, Option.map_some, List.map_cons, List.map_nil, List.length_cons, List.length_nil, Option.getD_some, Option.getD_none, List.all_cons, List.all_nil, List.set_cons_zero, List.set_cons_succ, List.replicate_succ, List.replicate_zero, List.getElem?_cons_zero, List.getElem?_cons_succ, List.drop_succ_cons, List.drop_zero, List.take_succ_cons, List.take_zero, List.map_append, List.nil_append, List.cons_append, Nat.reduceShiftRight, Nat.reduceMod]) | omega)
        all_goals exact RnB.fxB (prs_fxB _)
      · have hk' : ¬ l[i] < t := by omega
        have hkt : hitK l t i = true := by rw [hkd]; exact decide_eq_true hk
        by_cases hn : i = 0 ∨ hitK l t (i - 1) = false
        · have hs := runR_new hkt hn
          have hno : ∀ p rest, runR (hitK l t) i = p :: rest → ¬ p.2 = (i : Int) - 1 := by
            intro p rest hR hp
            have hpm := o2 p (by rw [hR]; exact List.mem_cons_self)
            obtain ⟨y, e1, e2, e3⟩ := hcov.1 ⟨p, by rw [hR]; exact List.mem_cons_self, by omega, by omega⟩
            rcases hn with hn | hn
            · omega
            · rw [show i - 1 = y by omega, e3] at hn; cases hn
          generalize runR (hitK l t) i = R at *
          have hia : prs (((i : Int), (i : Int)) :: R).reverse = prs R.reverse ++ [.agg [.int .i64 i, .int .i64 i]] := prs_rev _ _
          have hll : (prs R.reverse).length = R.length := by rw [prs_length, List.length_reverse]
          cases R with
          | nil =>
            have z3 : ((0 : Nat) : Int) = 0 := rfl
            simp only [h5, ints_get l i h', hk', hll, z3, vcV, vcD, Int.reduceEq, Int.reduceNe, Int.reduceLT, Int.reduceLE, Nat.reduceEqDiff, Nat.reduceAdd, reduceIte, reduceCtorEq, Nat.reduceLT, Nat.reduceLeDiff, eq_self, Option.bind_some, Option.map_some, List.map_cons, List.map_nil, List.length_cons, List.length_nil, Option.getD_some, Option.getD_none, List.all_cons, List.all_nil, List.set_cons_zero, List.set_cons_succ, List.replicate_succ, List.replicate_zero, List.getElem?_cons_zero, List.getElem?_cons_succ, List.drop_succ_cons, List.drop_zero, List.take_succ_cons, List.take_zero, List.map_append, List.nil_append, List.cons_append, Nat.reduceShiftRight, Nat.reduceMod]
            (repeat (with_reducible refine And.intro ?_ ?_; focus (first | omega | (unfold I64; omega))))
            refine ⟨⟨i + 1, h'⟩, by simp only; omega, ?_⟩
            refine weakX [(100, some 57)] (of_decide_eq_true rfl) (of_decide_eq_true rfl) ?_
            (simp only [hs, hia, hll, vcW, vcV, vcD, Int.reduceEq, Int.reduceNe, Int.reduceLT, Int.reduceLE, Nat.reduceEqDiff, Nat.reduceAdd, reduceIte, reduceCtorEq, Nat.reduceLT, Nat.reduceLeDiff, eq_self, Option.bind_some, Option.map_some, List.map_cons, List.map_nil, List.length_cons, List.length_nil, Option.getD_some, Option.getD_none, List.all_cons, List.all_nil, List.set_cons_zero, List.set_cons_succ, List.replicate_succ, List.replicate_zero, List.getElem?_cons_zero, List.getElem?_cons_succ, List.drop_succ_cons, List.drop_zero, List.take_succ_cons, List.take_zero, List.map_append, List.nil_append, List.cons_append, Nat.reduceShiftRight, Nat.reduceMod])
            (repeat' first | exact trivial | (with_reducible exact RnB.fxB (ints_fxB _)) | (with_reducible rfl) | (with_reducible refine And.intro ?_ ?_) | (with_reducible refine RnB.bb ?_; simp only [vcW, vcV, vcD, Int.reduceEq, Int.reduceNe, Int.reduceLT, Int.reduceLE, Nat.reduceEqDiff, Nat.reduceAdd, reduceIte, reduceCtorEq, Nat.reduceLT, Nat.reduceLeDiff, eq_self, Option.bind_some, Option.map_some, List.map_cons, List.map_nil, List.length_cons, List.length_nil, Option.getD_some, Option.getD_none, List.all_cons, List.all_nil, List.set_cons_zero, List.set_cons_succ, List.replicate_succ, List.replicate_zero, List.getElem?_cons_zero, List.getElem?_cons_succ, List.drop_succ_cons, List.drop_zero, List.take_succ_cons, List.take_zero, List.map_append, List.nil_append, List.cons_append, Nat.reduceShiftRight, Nat.reduceMod]) | (with_reducible refine RnB.nb ?_; simp only [vcW, vcV, vcD, Int.reduceEq, Int.reduceNe, Int.reduceLT, Int.reduceLE, Nat.reduceEqDiff, Nat.reduceAdd, reduceIte, reduceCtorEq, Nat.reduceLT, Nat.reduceLeDiff, eq_self, Option.bind_some, Option.map_some, List.map_cons, List.map_nil, List.length_cons, List.length_nil, Option.getD_some, Option.getD_none, List.all_cons, List.all_nil, List.set_cons_zero, List.set_cons_succ, List.replicate_succ, List.replicate_zero, List.getElem?_cons_zero, List.getElem?_cons_succ, List.drop_succ_cons, List.drop_zero, List.take_succ_cons, List.take_zero, List.map_append, List.nil_append, List.cons_append, Nat.reduceShiftRight, Nat.reduceMod]) | (with_reducible refine RnB.ii ?_) | (with_reducible refine RnB.app ?_) | (with_reducible refine RnB.fxB ?_; simp only [vcW, vcV, vcD, Int.reduceEq, Int.reduceNe, Int.reduceLT, Int.reduceLE, Nat.reduceEqDiff, Nat.reduceAdd, reduceIte, reduceCtorEq, Nat.reduceLT, Nat.reduceLeDiff, eq_self, Option.bind_some, Option.map_some, List.map_cons, List.map_nil, List.length_cons, List.length_nil, Option.getD_some, Option.getD_none, List.all_cons, List.all_nil, List.set_cons_zero, List.set_cons_succ, List.replicate_succ, List.replicate_zero, List.getElem?_cons_zero, List.getElem?_cons_succ, List.drop_succ_cons, List.drop_zero, List.take_succ_cons, List.take_zero, List.map_append, List.nil_append, List.cons_append, Nat.reduceShiftRight, Nat.reduceMod]) | omega)
            all_goals first | exact hia.symm | exact RnB.fxB (by rw [← hia]; exact prs_fxB _) | skip
          | cons p rest =>
            have hp := hno p rest rfl
            have hpr := prs_rev p rest
            have hle : (prs rest.reverse).length = rest.length := by rw [prs_length, List.length_reverse]
            have hgl : ∀ x : AV, (prs rest.reverse ++ [x])[rest.length]? = some x := fun x => snoc_get _ x _ hle
            have hlp : ((rest.length + 1 : Nat) : Int) - 1 = (rest.length : Int) := by omega
            have hlq : (rest.length : Int) + 1 - 1 = (rest.length : Int) := by omega
            have hpos : (0 : Int) < ((rest.length + 1 : Nat) : Int) := by omega
            have hl2 : ∀ x : AV, (prs rest.reverse ++ [x]).length = rest.length + 1 := fun x => by rw [List.length_append, hle]; rfl
            rw [hpr] at hia
            rw [hpr]
            simp only [List.length_cons] at o1 hll ⊢
            have hpm := o2 p List.mem_cons_self
            simp only [h5, ints_get l i h', hk', hpos, hlp, hlq, hgl, hl2, Int.toNat_natCast, vcV, vcD, Int.reduceEq, Int.reduceNe, Int.reduceLT, Int.reduceLE, Nat.reduceEqDiff, Nat.reduceAdd, reduceIte, reduceCtorEq, Nat.reduceLT, Nat.reduceLeDiff, eq_self, Option.bind_some, Option.map_some, List.map_cons, List.map_nil, List.length_cons, List.length_nil, Option.getD_some, Option.getD_none, List.all_cons, List.all_nil, List.set_cons_zero, List.set_cons_succ, List.replicate_succ, List.replicate_zero, List.getElem?_cons_zero, List.getElem?_cons_succ, List.drop_succ_cons, List.drop_zero, List.take_succ_cons, List.take_zero, List.map_append, List.nil_append, List.cons_append, Nat.reduceShiftRight, Nat.reduceMod]
            (repeat (with_reducible refine And.intro ?_ ?_; focus (first | omega | (unfold I64; omega))))
            simp only [hgl, hp, hl2, vcV, vcD, Int.reduceEq, Int.reduceNe, Int.reduceLT, Int.reduceLE, Nat.reduceEqDiff, Nat.reduceAdd, reduceIte, reduceCtorEq, Nat.reduceLT, Nat.reduceLeDiff, eq_self, Option.bind_some, Option.map_some, List.map_cons, List.map_nil, List.length_cons, List.length_nil, Option.getD_some, Option.getD_none, List.all_cons, List.all_nil, List.set_cons_zero, List.set_cons_succ, List.replicate_succ, List.replicate_zero, List.getElem?_cons_zero, List.getElem?_cons_succ, List.drop_succ_cons, List.drop_zero, List.take_succ_cons, List.take_zero, List.map_append, List.nil_append, List.cons_append, Nat.reduceShiftRight, Nat.reduceMod]
            (repeat (with_reducible refine And.intro ?_ ?_; focus (first | omega | (unfold I64; omega))))
            refine ⟨⟨i + 1, h'⟩, by simp only; omega, ?_⟩
            refine weakX [(100, some 57)] (of_decide_eq_true rfl) (of_decide_eq_true rfl) ?_
            (simp only [hs, hia, hl2, vcW, vcV, vcD, Int.reduceEq, Int.reduceNe, Int.reduceLT, Int.reduceLE, Nat.reduceEqDiff, Nat.reduceAdd, reduceIte, reduceCtorEq, Nat.reduceLT, Nat.reduceLeDiff, eq_self, Option.bind_some, Option.map_some, List.map_cons, List.map_nil, List.length_cons, List.length_nil, Option.getD_some, Option.getD_none, List.all_cons, List.all_nil, List.set_cons_zero, List.set_cons_succ, List.replicate_succ, List.replicate_zero, List.getElem?_cons_zero, List.getElem?_cons_succ, List.drop_succ_cons, List.drop_zero, List.take_succ_cons, List.take_zero, List.map_append, List.nil_append, List.cons_append, Nat.reduceShiftRight, Nat.reduceMod])
            (repeat' first | exact trivial | (with_reducible exact RnB.fxB (ints_fxB _)) | (with_reducible rfl) | (with_reducible refine And.intro ?_ ?_) | (with_reducible refine RnB.bb ?_; simp only [vcW, vcV, vcD, Int.reduceEq, Int.reduceNe, Int.reduceLT, Int.reduceLE, Nat.reduceEqDiff, Nat.reduceAdd, reduceIte, reduceCtorEq, Nat.reduceLT, Nat.reduceLeDiff, eq_self, Option.bind_some, Option.map_some, List.map_cons, List.map_nil, List.length_cons, List.length_nil, Option.getD_some, Option.getD_none, List.all_cons, List.all_nil, List.set_cons_zero, List.set_cons_succ, List.replicate_succ, List.replicate_zero, List.getElem?_cons_zero, List.getElem?_cons_succ, List.drop_succ_cons, List.drop_zero, List.take_succ_cons, List.take_zero, List.map_append, List.nil_append, List.cons_append, Nat.reduceShiftRight, Nat.reduceMod]) | (with_reducible refine RnB.nb ?_; simp only [vcW, vcV, vcD, Int.reduceEq, Int.reduceNe, Int.reduceLT, Int.reduceLE, Nat.reduceEqDiff, Nat.reduceAdd, reduceIte, reduceCtorEq, Nat.reduceLT, Nat.reduceLeDiff, eq_self, Option.bind_some, Option.map_some, List.map_cons, List.map_nil, List.length_cons, List.length_nil, Option.getD_some, Option.getD_none, List.all_cons, List.all_nil, List.set_cons_zero, List.set_cons_succ, List.replicate_succ, List.replicate_zero, List.getElem?_cons_zero, List.getElem?_cons_succ, List.drop_succ_cons, List.drop_zero, List.take_succ_cons, List.take_zero, List.map_append, List.nil_append, List.cons_append, Nat.reduceShiftRight, Nat.reduceMod]) | (with_reducible refine RnB.ii ?_) | (with_reducible refine RnB.app ?_) | (with_reducible refine RnB.fxB ?_; simp only [vcW, vcV, vcD, Int.reduceEq, Int.reduceNe, Int.reduceLT, Int.reduceLE, Nat.reduceEqDiff, Nat.reduceAdd, reduceIte, reduceCtorEq, Nat.reduceLT, Nat.reduceLeDiff, eq_self, Option.bind_some, Option.map_some, List.map_cons, List.map_nil, List.length_cons, List.length_nil, Option.getD_some, Option.getD_none, List.all_cons, List.all_nil, List.set_cons_zero, List.set_cons_succ, List.replicate_succ, List.replicate_zero, List.getElem?_cons_zero, List.getElem?_cons_succ, List.drop_succ_cons, List.drop_zero, List.take_succ_cons, List.take_zero, List.map_append, List.nil_append, List.cons_append, Nat.reduceShiftRight, Nat.reduceMod]) | omega)
            all_goals first | exact hia.symm | exact RnB.fxB (by rw [← hia]; exact prs_fxB _) | skip
        · obtain ⟨p, rest, hR, hp⟩ := o3 (by omega) (by cases hq : hitK l t (i - 1) with | true => rfl | false => exact absurd (.inr hq) hn)
          have hs := runR_on hkt hn hR
          rw [hR] at o1 o2
          rw [hR]
          have hpr := prs_rev p rest
          have hps := prs_rev (p.1, (i : Int)) rest
          have hle : (prs rest.reverse).length = rest.length := by rw [prs_length, List.length_reverse]
          have hgl : ∀ x : AV, (prs rest.reverse ++ [x])[rest.length]? = some x := fun x => snoc_get _ x _ hle
          have hsl : ∀ x y : AV, (prs rest.reverse ++ [x]).set rest.length y = prs rest.reverse ++ [y] := fun x y => snoc_set _ x y _ hle
          have hlp : ((rest.length + 1 : Nat) : Int) - 1 = (rest.length : Int) := by omega
          have hlq : (rest.length : Int) + 1 - 1 = (rest.length : Int) := by omega
          have hpos : (0 : Int) < ((rest.length + 1 : Nat) : Int) := by omega
          have hl2 : ∀ x : AV, (prs rest.reverse ++ [x]).length = rest.length + 1 := fun x => by rw [List.length_append, hle]; rfl
          rw [hpr]
          simp only [List.length_cons] at o1 ⊢
          have hpm := o2 p List.mem_cons_self
          simp only [h5, ints_get l i h', hk', hpos, hlp, hlq, hgl, hl2, Int.toNat_natCast, vcV, vcD, Int.reduceEq, Int.reduceNe, Int.reduceLT, Int.reduceLE, Nat.reduceEqDiff, Nat.reduceAdd, reduceIte, reduceCtorEq, Nat.reduceLT, Nat.reduceLeDiff, eq_self, Option.bind_some, Option.map_some, List.map_cons, List.map_nil, List.length_cons, List.length_nil, Option.getD_some, Option.getD_none, List.all_cons, List.all_nil, List.set_cons_zero, List.set_cons_succ, List.replicate_succ, List.replicate_zero, List.getElem?_cons_zero, List.getElem?_cons_succ, List.drop_succ_cons, List.drop_zero, List.take_succ_cons, List.take_zero, List.map_append, List.nil_append, List.cons_append, Nat.reduceShiftRight, Nat.reduceMod]
          (repeat (with_reducible refine And.intro ?_ ?_; focus (first | omega | (unfold I64; omega))))
          simp only [hgl, hp, hl2, hsl, hlp, hlq, Int.toNat_natCast, vcV, vcD, Int.reduceEq, Int.reduceNe, Int.reduceLT, Int.reduceLE, Nat.reduceEqDiff, Nat.reduceAdd, reduceIte, reduceCtorEq, Nat.reduceLT, Nat.reduceLeDiff, eq_self, Option.bind_some, Option.map_some, List.map_cons, List.map_nil, List.length_cons, List.length_nil, Option.getD_some, Option.getD_none, List.all_cons, List.all_nil, List.set_cons_zero, List.set_cons_succ, List.replicate_succ, List.replicate_zero, List.getElem?_cons_zero, List.getElem?_cons_succ, List.drop_succ_cons, List.drop_zero, List.take_succ_cons, List.take_zero, List.map_append, List.nil_append, List.cons_append, Nat.reduceShiftRight, Nat.reduceMod]
          (repeat (with_reducible refine And.intro ?_ ?_; focus (first | omega | (unfold I64; omega))))
          refine ⟨⟨i + 1, h'⟩, by simp only; omega, ?_⟩
          refine weakX [(100, some 100)] (of_decide_eq_true rfl) (of_decide_eq_true rfl) ?_
          (simp only [hs, hps, hl2, List.length_cons, vcW, vcV, vcD, Int.reduceEq, Int.reduceNe, Int.reduceLT, Int.reduceLE, Nat.reduceEqDiff, Nat.reduceAdd, reduceIte, reduceCtorEq, Nat.reduceLT, Nat.reduceLeDiff, eq_self, Option.bind_some, Option.map_some, List.map_cons, List.map_nil, List.length_cons, List.length_nil, Option.getD_some, Option.getD_none, List.all_cons, List.all_nil, List.set_cons_zero, List.set_cons_succ, List.replicate_succ, List.replicate_zero, List.getElem?_cons_zero, List.getElem?_cons_succ, List.drop_succ_cons, List.drop_zero, List.take_succ_cons, List.take_zero, List.map_append, List.nil_append, List.cons_append, Nat.reduceShiftRight, Nat.reduceMod])
          (repeat' first | exact trivial | (with_reducible exact RnB.fxB (ints_fxB _)) | (with_reducible rfl) | (with_reducible refine And.intro ?_ ?_) | (with_reducible refine RnB.bb ?_; simp only [vcW, vcV, vcD, Int.reduceEq, Int.reduceNe, Int.reduceLT, Int.reduceLE, Nat.reduceEqDiff, Nat.reduceAdd, reduceIte, reduceCtorEq, Nat.reduceLT, Nat.reduceLeDiff, eq_self, Option.bind_some, Option.map_some, List.map_cons, List.map_nil, List.length_cons, List.length_nil, Option.getD_some, Option.getD_none, List.all_cons, List.all_nil, List.set_cons_zero, List.set_cons_succ, List.replicate_succ, List.replicate_zero, List.getElem?_cons_zero, List.getElem?_cons_succ, List.drop_succ_cons, List.drop_zero, List.take_succ_cons, List.take_zero, List.map_append, List.nil_append, List.cons_append, Nat.reduceShiftRight, Nat.reduceMod]) | (with_reducible refine RnB.nb ?_; simp only [vcW, vcV, vcD, Int.reduceEq, Int.reduceNe, Int.reduceLT, Int.reduceLE, Nat.reduceEqDiff, Nat.reduceAdd, reduceIte, reduceCtorEq, Nat.reduceLT, Nat.reduceLeDiff, eq_self, Option.bind_some, Option.map_some, List.map_cons, List.map_nil, List.length_cons, List.length_nil, Option.getD_some, Option.getD_none, List.all_cons, List.all_nil, List.set_cons_zero, List.set_cons_succ, List.replicate_succ, List.replicate_zero, List.getElem?_cons_zero, List.getElem?_cons_succ, List.drop_succ_cons, List.drop_zero, List.take_succ_cons, List.take_zero, List.map_append, List.nil_append, List.cons_append, Nat.reduceShiftRight, Nat.reduceMod]) | (with_reducible refine RnB.ii ?_) | (with_reducible refine RnB.app ?_) | (with_reducible refine RnB.fxB ?_; simp only [vcW, vcV, vcD, Int.reduceEq, Int.reduceNe, Int.reduceLT, Int.reduceLE, Nat.reduceEqDiff, Nat.reduceAdd, reduceIte, reduceCtorEq, Nat.reduceLT, Nat.reduceLeDiff, eq_self, Option.bind_some, Option.map_some, List.map_cons, List.map_nil, List.length_cons, List.length_nil, Option.getD_some, Option.getD_none, List.all_cons, List.all_nil, List.set_cons_zero, List.set_cons_succ, List.replicate_succ, List.replicate_zero, List.getElem?_cons_zero, List.getElem?_cons_succ, List.drop_succ_cons, List.drop_zero, List.take_succ_cons, List.take_zero, List.map_append, List.nil_append, List.cons_append, Nat.reduceShiftRight, Nat.reduceMod]) | omega)
          all_goals first | exact hps.symm | exact RnB.fxB (by rw [← hps]; exact prs_fxB _) | skip
    · have h5 : ¬ (i : Int) < l.length := by omega
      have hin : i = l.length := by omega
      subst hin
      simp only [h5, vcV, vcD, Int.reduceEq, Int.reduceNe, Int.reduceLT, Int.reduceLE, Nat.reduceEqDiff, Nat.reduceAdd, reduceIte, reduceCtorEq, Nat.reduceLT, Nat.reduceLeDiff, eq_self, Option.bind_some, Option.map_some, List.map_cons, List.map_nil, List.length_cons, List.length_nil, Option.getD_some, Option.getD_none, List.all_cons, List.all_nil, List.set_cons_zero, List.set_cons_succ, List.replicate_succ, List.replicate_zero, List.getElem?_cons_zero, List.getElem?_cons_succ, List.drop_succ_cons, List.drop_zero, List.take_succ_cons, List.take_zero, List.map_append, List.nil_append, List.cons_append, Nat.reduceShiftRight, Nat.reduceMod]
      rw [borB_good _ _ _ _ _ (by rw [prs_length, List.length_reverse]) (prs_fx _)]
theorem Ranges_s (a : List (Int × Int)) (ha : a.length ≤ 1000000) : Sound Tryd.prog 15 [.sl (prs a), .sl (prs a)] (.bool true) := by
  refine sound_W f_base_Ranges (Nat.le_of_ble_eq_true rfl) ?_
  simp only [c_base_Ranges, prs_length, vcV, vcD, Int.reduceEq, Int.reduceNe, Int.reduceLT, Int.reduceLE, Nat.reduceEqDiff, Nat.reduceAdd, reduceIte, reduceCtorEq, Nat.reduceLT, Nat.reduceLeDiff, eq_self, Option.bind_some, Option.map_some, List.map_cons, List.map_nil, List.length_cons, List.length_nil, Option.getD_some, Option.getD_none, List.all_cons, List.all_nil, List.set_cons_zero, List.set_cons_succ, List.replicate_succ, List.replicate_zero, List.getElem?_cons_zero, List.getElem?_cons_succ, List.drop_succ_cons, List.drop_zero, List.take_succ_cons, List.take_zero, List.map_append, List.nil_append, List.cons_append, Nat.reduceShiftRight, Nat.reduceMod]
  refine W_loop (t := .mk) (α := PSigma fun i : Nat => i ≤ a.length) (fun ⟨i, _⟩ => (envOf [(0, .sl (prs a)), (1, .sl (prs a)), (5, .int .i64 i)], stOf [])) (fun p => a.length - p.1) ⟨0, Nat.zero_le _⟩ ?_ (fun ⟨i, hi⟩ => ?_)
  · refine weakX [] (of_decide_eq_true rfl) (of_decide_eq_true rfl) ?_
    (simp only [vcW, vcV, vcD, Int.reduceEq, Int.reduceNe, Int.reduceLT, Int.reduceLE, Nat.reduceEqDiff, Nat.reduceAdd, reduceIte, reduceCtorEq, Nat.reduceLT, Nat.reduceLeDiff, eq_self, Option.bind_some, Option.map_some, List.map_cons, List.map_nil, List.length_cons, List.length_nil, Option.getD_some, Option.getD_none, List.all_cons, List.all_nil, List.set_cons_zero, List.set_cons_succ, List.replicate_succ, List.replicate_zero, List.getElem?_cons_zero, List.getElem?_cons_succ, List.drop_succ_cons, List.drop_zero, List.take_succ_cons, List.take_zero, List.map_append, List.nil_append, List.cons_append, Nat.reduceShiftRight, Nat.reduceMod])
    (repeat' first | exact trivial | (with_reducible exact RnB.fxB (ints_fxB _)) | (with_reducible rfl) | (with_reducible refine And.intro ?_ ?_) | (with_reducible refine RnB.bb ?_; simp only [vcW, vcV, vcD, Int.reduceEq, Int.reduceNe, Int.reduceLT, Int.reduceLE, Nat.reduceEqDiff, Nat.reduceAdd, reduceIte, reduceCtorEq, Nat.reduceLT, Nat.reduceLeDiff, eq_self, Option.bind_some, Option.map_some, List.map_cons, List.map_nil, List.length_cons, List.length_nil, Option.getD_some, Option.getD_none, List.all_cons, List.all_nil, List.set_cons_zero, List.set_cons_succ, List.replicate_succ, List.replicate_zero, List.getElem?_cons_zero, List.getElem?_cons_succ, List.drop_succ_cons, List.drop_zero, List.take_succ_cons, List.take_zero, List.map_append, List.nil_append, List.cons_append, Nat.reduceShiftRight, Nat.reduceMod]) | (with_reducible refine RnB.nb ?_; simp only [vcW, vcV, vcD, Int.reduceEq, Int.reduceNe, Int.reduceLT, Int.reduceLE, Nat.reduceEqDiff, Nat.reduceAdd, reduceIte, reduceCtorEq, Nat.reduceLT, Nat.reduceLeDiff, eq_self, Option.bind_some, Option.map_some, List.map_cons, List.map_nil, List.length_cons, List.length_nil, Option.getD_some, Option.getD_none, List.all_cons, List.all_nil, List.set_cons_zero, List.set_cons_succ, List.replicate_succ, List.replicate_zero, List.getElem?_cons_zero, List.getElem?_cons_succ, List.drop_succ_cons, List.drop_zero, List.take_succ_cons, List.take_zero, List.map_append, List.nil_append, List.cons_append, Nat.reduceShiftRight, Nat.reduceMod]) | (with_reducible refine RnB.ii ?_) | (with_reducible refine RnB.app ?_) | (with_reducible refine RnB.fxB ?_; simp only [vcW, vcV, vcD, Int.reduceEq, Int.reduceNe, Int.reduceLT, Int.reduceLE, Nat.reduceEqDiff, Nat.reduceAdd, reduceIte, reduceCtorEq, Nat.reduceLT, Nat.reduceLeDiff, eq_self, Option.bind_some, Option.map_some, List.map_cons, List.map_nil, List.length_cons, List.length_nil, Option.getD_some, Option.getD_none, List.all_cons, List.all_nil, List.set_cons_zero, List.set_cons_succ, List.replicate_succ, List.replicate_zero, List.getElem?_cons_zero, List.getElem?_cons_succ, List.drop_succ_cons, List.drop_zero, List.take_succ_cons, List.take_zero, List.map_append, List.nil_append, List.cons_append, Nat.reduceShiftRight, Nat.reduceMod]) | omega)
  · dsimp only at hi ⊢
    by_cases h' : i < a.length
    · have h5 : (i : Int) < a.length := by omega
      simp only [h5, prs_length, prs_get a i h', vcV, vcD, Int.reduceEq, Int.reduceNe, Int.reduceLT, Int.reduceLE, Nat.reduceEqDiff, Nat.reduceAdd, reduceIte, reduceCtorEq, Nat.reduceLT, Nat.reduceLeDiff, eq_self, Option.bind_some, Option.map_some, List.map_cons, List.map_nil, List.length_cons, List.length_nil, Option.getD_some, Option.getD_none, List.all_cons, List.all_nil, List.set_cons_zero, List.set_cons_succ, List.replicate_succ, List.replicate_zero, List.getElem?_cons_zero, List.getElem?_cons_succ, List.drop_succ_cons, List.drop_zero, List.take_succ_cons, List.take_zero, List.map_append, List.nil_append, List.cons_append, Nat.reduceShiftRight, Nat.reduceMod]
      (repeat (with_reducible refine And.intro ?_ ?_; focus (first | omega | (unfold I64; omega))))
      refine ⟨⟨i + 1, h'⟩, by simp only; omega, ?_⟩
      refine weakX [] (of_decide_eq_true rfl) (of_decide_eq_true rfl) ?_
      (simp only [vcW, vcV, vcD, Int.reduceEq, Int.reduceNe, Int.reduceLT, Int.reduceLE, Nat.reduceEqDiff, Nat.reduceAdd, reduceIte, reduceCtorEq, Nat.reduceLT, Nat.reduceLeDiff, eq_self, Option.bind_some, Option.map_some, List.map_cons, List.map_nil, List.length_cons, List.length_nil, Option.getD_some, Option.getD_none, List.all_cons, List.all_nil, List.set_cons_zero, List.set_cons_succ, List.replicate_succ, List.replicate_zero, List.getElem?_cons_zero, List.getElem?_cons_succ, List.drop_succ_cons, List.drop_zero, List.take_succ_cons, List.take_zero, List.map_append, List.nil_append, List.cons_append, Nat.reduceShiftRight, Nat.reduceMod])
      (repeat' first | exact trivial | (with_reducible exact RnB.fxB (ints_fxB _)) | (with_reducible rfl) | (with_reducible refine And.intro ?_ ?_) | (with_reducible refine RnB.bb ?_; simp only [vcW, vcV, vcD, Int.reduceEq, Int.reduceNe, Int.reduceLT, Int.reduceLE, Nat.reduceEqDiff, Nat.reduceAdd, reduceIte, reduceCtorEq, Nat.reduceLT, Nat.reduceLeDiff, eq_self, Option.bind_some, Option.map_some, List.map_cons, List.map_nil, List.length_cons, List.length_nil, Option.getD_some, Option.getD_none, List.all_cons, List.all_nil, List.set_cons_zero, List.set_cons_succ, List.replicate_succ, List.replicate_zero, List.getElem?_cons_zero, List.getElem?_cons_succ, List.drop_succ_cons, List.drop_zero, List.take_succ_cons, List.take_zero, List.map_append, List.nil_append, List.cons_append, Nat.reduceShiftRight, Nat.reduceMod]) | (with_reducible refine RnB.nb ?_; simp only [vcW, vcV, vcD, Int.reduceEq, Int.reduceNe, Int.reduceLT, Int.reduceLE, Nat.reduceEqDiff, Nat.reduceAdd, reduceIte, reduceCtorEq, Nat.reduceLT, Nat.reduceLeDiff, eq_self, Option.bind_some, Option.map_some, List.map_cons, List.map_nil, List.length_cons, List.length_nil, Option.getD_some, Option.getD_none, List.all_cons, List.all_nil, List.set_cons_zero, List.set_cons_succ, List.replicate_succ, List.replicate_zero, List.getElem?_cons_zero, List.getElem?_cons_succ, List.drop_succ_cons, List.drop_zero, List.take_succ_cons, List.take_zero, List.map_append, List.nil_append, List.cons_append, Nat.reduceShiftRight, Nat.reduceMod]) | (with_reducible refine RnB.ii ?_) | (with_reducible refine RnB.app ?_) | (with_reducible refine RnB.fxB ?_; simp only [vcW, vcV, vcD, Int.reduceEq, Int.reduceNe, Int.reduceLT, Int.reduceLE, Nat.reduceEqDiff, Nat.reduceAdd, reduceIte, reduceCtorEq, Nat.reduceLT, Nat.reduceLeDiff, eq_self, Option.bind_some, Option.map_some, List.map_cons, List.map_nil, List.length_cons, List.length_nil, Option.getD_some, Option.getD_none, List.all_cons, List.all_nil, List.set_cons_zero, List.set_cons_succ, List.replicate_succ, List.replicate_zero, List.getElem?_cons_zero, List.getElem?_cons_succ, List.drop_succ_cons, List.drop_zero, List.take_succ_cons, List.take_zero, List.map_append, List.nil_append, List.cons_append, Nat.reduceShiftRight, Nat.reduceMod]) | omega)
    · have h5 : ¬ (i : Int) < a.length := by omega
      simp only [h5, prs_length, vcV, vcD, Int.reduceEq, Int.reduceNe, Int.reduceLT, Int.reduceLE, Nat.reduceEqDiff, Nat.reduceAdd, reduceIte, reduceCtorEq, Nat.reduceLT, Nat.reduceLeDiff, eq_self, Option.bind_some, Option.map_some, List.map_cons, List.map_nil, List.length_cons, List.length_nil, Option.getD_some, Option.getD_none, List.all_cons, List.all_nil, List.set_cons_zero, List.set_cons_succ, List.replicate_succ, List.replicate_zero, List.getElem?_cons_zero, List.getElem?_cons_succ, List.drop_succ_cons, List.drop_zero, List.take_succ_cons, List.take_zero, List.map_append, List.nil_append, List.cons_append, Nat.reduceShiftRight, Nat.reduceMod]

end Go.Proofs.YtngjhppgojfceaaDoor

/- Hits, dead times and afterpulses together, in plain Lean. By an AI agent; nothing here is trusted. -/
namespace Go.Proofs.YtngjhppgojfceaaDoor
open Go.Av

theorem kp_lastD_mem {dead : Int} {l : List Int} {i : Nat} (h : kp dead l i ≠ []) : (kp dead l i).getLastD 0 ∈ kp dead l i := by
  rw [List.getLastD_eq_getLast?, List.getLast?_eq_some_getLast h]; exact List.getLast_mem h
/-- What is kept ascends: the last one is the greatest. -/
theorem kp_last_ge {dead : Int} (hd : 0 ≤ dead) {l : List Int} : ∀ i, ∀ x ∈ kp dead l i, x ≤ (kp dead l i).getLastD 0
  | 0, x, hx => by cases hx
  | i + 1, x, hx => by
    have ih := kp_last_ge hd (l := l) i
    rw [kp] at hx ⊢
    split at hx
    · rename_i hc
      rw [if_pos hc, last_snoc]
      rcases List.mem_append.1 hx with e | e
      · rcases hc with hc | hc
        · rw [hc] at e; cases e
        · have := ih x e; omega
      · rw [List.mem_singleton.1 e]; exact Int.le_refl _
    · rename_i hc
      rw [if_neg hc]
      exact ih x hx
theorem sorted_le {l : List Int} (hs : l.Pairwise (· ≤ ·)) {i : Nat} (hi : i < l.length) {x : Int} (hx : x ∈ l.take i) : x ≤ l[i] := by
  obtain ⟨k, hk, hk2⟩ := List.mem_iff_getElem.1 hx
  rw [List.getElem_take] at hk2
  rw [List.length_take] at hk
  have := List.pairwise_iff_getElem.1 hs k i (by omega) (by omega) (by omega)
  rw [← hk2]; exact this
/-- THE AFTERPULSES WITHIN THE DEAD TIME ARE JUST THE TIMES THAT ARE NOT KEPT. -/
theorem aft_kp {dead : Int} (hd : 0 ≤ dead) {l : List Int} (hs : l.Pairwise (· ≤ ·)) : ∀ i, i ≤ l.length → (aft 0 dead l i).2 = kp dead l i
  | 0, _ => rfl
  | i + 1, h => by
    have ih := aft_kp hd hs i (by omega)
    have hg := kp_last_ge hd (l := l) i
    have hm := kp_mem dead l i (by omega)
    rw [aft, kp, ih, getD_at (show i < l.length by omega)]
    have key : ((kp dead l i).any fun o => decide (0 ≤ l[i] - o ∧ l[i] - o ≤ dead)) = decide (¬ (kp dead l i = [] ∨ dead < l[i] - (kp dead l i).getLastD 0)) := by
      rw [Bool.eq_iff_iff, List.any_eq_true, decide_eq_true_eq]
      constructor
      · rintro ⟨o, h1, h2⟩
        rw [decide_eq_true_eq] at h2
        rintro (q | q)
        · rw [q] at h1; cases h1
        · have := hg o h1; omega
      · intro hc
        have hne : kp dead l i ≠ [] := fun q => hc (.inl q)
        have hlm := kp_lastD_mem hne
        refine ⟨_, hlm, decide_eq_true ?_⟩
        have := sorted_le hs (by omega) (hm _ hlm)
        have : ¬ dead < l[i] - (kp dead l i).getLastD 0 := fun q => hc (.inr q)
        omega
    rw [key]
    by_cases hc : kp dead l i = [] ∨ dead < l[i] - (kp dead l i).getLastD 0
    · rw [if_neg (by rw [decide_eq_false (not_not_intro hc)]; decide), if_pos hc]
    · rw [if_pos (decide_eq_true hc), if_neg hc]
theorem aft_count (lo hi : Int) (l : List Int) : ∀ i, (aft lo hi l i).1.length + (aft lo hi l i).2.length = i
  | 0 => rfl
  | i + 1 => by
    have := aft_count lo hi l i
    rw [aft]; split <;> simp <;> omega
theorem kp_sub (dead : Int) (l : List Int) : ∀ i, i ≤ l.length → (kp dead l i).Sublist (l.take i)
  | 0, _ => by simp [kp]
  | i + 1, h => by
    have ih := kp_sub dead l i (by omega)
    rw [List.take_succ_eq_append_getElem (by omega), kp, getD_at (by omega)]
    split
    · exact List.Sublist.append ih (List.Sublist.refl _)
    · exact ih.trans (List.sublist_append_left _ _)
theorem kept_sub (dead : Int) (l : List Int) : (kept dead l).Sublist l := by
  have := kp_sub dead l l.length (Nat.le_refl _)
  rwa [List.take_length] at this
/-- A list whose neighbours are farther apart is kept as it is. -/
theorem kp_idem {dead : Int} {o : List Int} (h : ∀ k, k + 1 < o.length → dead < o.getD (k + 1) 0 - o.getD k 0) : ∀ i, i ≤ o.length → kp dead o i = o.take i
  | 0, _ => by simp [kp]
  | i + 1, hi => by
    have ih := kp_idem h i (by omega)
    rw [kp, ih, List.take_succ_eq_append_getElem (by omega), getD_at (show i < o.length by omega), if_pos]
    by_cases e : i = 0
    · left; rw [e]; rfl
    · right
      have h1 := h (i - 1) (by omega)
      rw [show i - 1 + 1 = i by omega, getD_at (show i < o.length by omega)] at h1
      have h2 : (o.take i).getLastD 0 = o.getD (i - 1) 0 := by
        rw [List.getLastD_eq_getLast?, List.getLast?_eq_getElem?, List.length_take, Nat.min_eq_left (by omega), List.getElem?_take_of_lt (by omega)]
        rfl
      rw [h2]; exact h1
theorem kept_idem (dead : Int) (l : List Int) : kept dead (kept dead l) = kept dead l := by
  have h := kp_idem (dead := dead) (o := kept dead l) (fun k hk => kp_sep dead l l.length k hk) (kept dead l).length (Nat.le_refl _)
  rw [List.take_length] at h
  exact h
theorem tmsE_of : ∀ (last : Int) (l : List Int), (∀ x ∈ l, (0 ≤ x ∧ x ≤ 1000000000000) ∧ last ≤ x) → l.Pairwise (· ≤ ·) → tmsE last l = 0
  | _, [], _, _ => rfl
  | last, n :: l, h, hp => by
    obtain ⟨p1, p2⟩ := List.pairwise_cons.1 hp
    have hn := h n List.mem_cons_self
    rw [tmsE, if_neg (by rw [tick_iff.2 hn.1]; decide), if_neg (by omega)]
    exact tmsE_of n l (fun x hx => ⟨(h x (List.mem_cons_of_mem _ hx)).1, p1 x hx⟩) p2
theorem timesE_of {l : List Int} (h : tOk l) : timesE l = 0 := by
  obtain ⟨h1, h2, h3⟩ := h
  unfold timesE
  rw [if_neg (by omega)]
  exact tmsE_of 0 l (fun x hx => ⟨h2 x hx, (h2 x hx).1⟩) h3
theorem tOk_sub {l o : List Int} (h : tOk l) (hs : o.Sublist l) : tOk o := ⟨Nat.le_trans hs.length_le h.1, fun x hx => h.2.1 x (hs.subset hx), h.2.2.sublist hs⟩

/-- The times at which hits begin. -/
theorem hits_sep (l : List Int) (t : Int) : (hitsL l t).Pairwise fun p q => p.2 + 1 < q.1 := List.pairwise_reverse.2 (runR_cov (hitK l t) l.length).2
theorem starts_lt (l : List Int) (t : Int) : ((hitsL l t).map (·.1)).Pairwise (· < ·) := by
  rw [List.pairwise_map]
  refine (hits_sep l t).imp_of_mem fun {a b} ha _ h => ?_
  have := hitsL_mem ha; omega
theorem starts_ok {l : List Int} {t : Int} (hl : l.length ≤ 24) : tOk ((hitsL l t).map (·.1)) := by
  have h1 := hitsL_len l t
  refine ⟨by rw [List.length_map]; omega, fun x hx => ?_, (starts_lt l t).imp fun h => by omega⟩
  obtain ⟨p, hp, rfl⟩ := List.mem_map.1 hx
  have := hitsL_mem hp; omega
theorem aft_has {dead : Int} (hd : 0 ≤ dead) {l : List Int} (hs : l.Pairwise (· < ·)) {n : Nat} (hn : n < l.length) : decide ((n : Int) ∈ (aft 0 dead l l.length).1) = !decide (l[n] ∈ kept dead l) := by
  have hle : l.Pairwise (· ≤ ·) := hs.imp fun h => by omega
  have hk : kept dead l = (aft 0 dead l l.length).2 := (aft_kp hd hle l.length (Nat.le_refl _)).symm
  have ho := aft_other 0 dead l l.length l[n]
  rw [← hk] at ho
  by_cases h : (n : Int) ∈ (aft 0 dead l l.length).1
  · have : ¬ l[n] ∈ kept dead l := by
      rw [ho]
      rintro ⟨k, h1, h2, h3⟩
      rw [getD_at h1] at h3
      by_cases e : k = n
      · subst e; exact h2 h
      · rcases Nat.lt_or_gt_of_ne e with q | q
        · have := List.pairwise_iff_getElem.1 hs k n h1 hn q; omega
        · have := List.pairwise_iff_getElem.1 hs n k hn h1 q; omega
    rw [decide_eq_true h, decide_eq_false this]; rfl
  · have : l[n] ∈ kept dead l := ho.2 ⟨n, hn, h, (getD_at hn).symm⟩
    rw [decide_eq_false h, decide_eq_true this]; rfl
theorem runR_congr {f g : Nat → Bool} : ∀ i, (∀ j, j < i → f j = g j) → runR f i = runR g i
  | 0, _ => rfl
  | i + 1, h => by
    have ih := runR_congr i fun j hj => h j (by omega)
    rw [runR, runR, ih, h i (by omega)]
    by_cases e : i = 0
    · simp [e]
    · rw [h (i - 1) (by omega)]
/-- HITS OF SAMPLES THAT ARE SHIFTED ARE THE SAME. -/
theorem hits_shift (l : List Int) (t b : Int) : hitsL (l.map (· + b)) (t + b) = hitsL l t := by
  unfold hitsL
  rw [List.length_map]
  congr 1
  refine runR_congr _ fun j hj => ?_
  unfold hitK
  rw [getD_at (l := l.map (· + b)) (by rw [List.length_map]; exact hj), getD_at hj, List.getElem_map]
  by_cases h : t ≤ l[j]
  · rw [decide_eq_true h, decide_eq_true (by omega)]
  · rw [decide_eq_false h, decide_eq_false (by omega)]
end Go.Proofs.YtngjhppgojfceaaDoor

/- Contracts off the library's shelf: slices.Clone. By an AI agent; nothing here is trusted. -/
namespace Go.Proofs.YtngjhppgojfceaaDoor
open Go.Av
open Go.RowKit (Below)

def cloneRen : Go.Shelf.Ren := ⟨fun x => match x with | 15 => 94 | n => n, fun x => match x with | 22 => 22 | 3 => 3 | 4 => 4 | n => n, fun x => x⟩
set_option maxRecDepth 100000 in
theorem cloneFn : Tryd.prog.funcs[cloneRen.f 15]? = some (Go.Proofs.Body2.n15 cloneRen) := by kernel_rfl
theorem cloneLay : Go.Proofs.Lays2.n15 Tryd.prog cloneRen :=
  { mixed := by kernel_rfl, f15 := cloneFn,
    t3 := Tryd.underlying3, a3 := Tryd.isAgg3, z3 := Tryd.sizeOf3, v3 := Tryd.zeroValue3, t4 := Tryd.underlying4,
    a4 := Tryd.isAgg4, z4 := Tryd.sizeOf4, v4 := Tryd.zeroValue4, t22 := Tryd.underlying22, a22 := Tryd.isAgg22,
    z22 := Tryd.sizeOf22, v22 := Tryd.zeroValue22, i3 := by kernel_rfl }

theorem ints_at {l : List Int} {i : Nat} {x : AV} (h : (ints l)[i]? = some x) : ∃ hi : i < l.length, x = .int .i64 l[i] := by
  have hi : i < l.length := by
    have := (List.getElem?_eq_some_iff.1 h).1
    rw [ints_length] at this; exact this
  rw [ints_get l i hi] at h
  exact ⟨hi, by injection h with h; exact h.symm⟩
theorem own_sl {w' : World} {B : Nat} {e : TypeId} {v : Value} {l : List Int} {ok : Nat → Prop} (h : w'.ownsRow B e 1 v l.length (l.map (Value.int .i64))) :
    VR w'.heap (fun b => ok b ∨ (B ≤ b ∧ b < w'.heap.size)) noPlace noStore (.sl (ints l)) v := by
  obtain ⟨_, h⟩ := h
  rcases h with ⟨rfl, hn⟩ | ⟨g, cap, cur, rfl, hg, hb, hn, hcap, hcur, hx⟩
  · have : l = [] := List.eq_nil_of_length_eq_zero hn
    subst this
    exact .sl0 none 0
  · have hlen : (ints l).length = l.length := ints_length l
    rw [← hlen] at hn ⊢
    refine .sl (ints l) g 0 1 cap cur e (0, 0) (fun i _ => .int .i64 (l.getD i 0)) (.inr ⟨hg, (Array.getElem?_eq_some_iff.1 hb).1⟩) hn hb ?_ ?_ ?_
    · intro i x hi
      obtain ⟨_, rfl⟩ := ints_at hi
      exact ⟨rfl, fun c hc => by rw [List.mem_singleton.1 hc]; rfl, rfl⟩
    · intro i x o c hi ho
      obtain ⟨hil, rfl⟩ := ints_at hi
      have h0 : o = 0 := by
        cases o with
        | zero => rfl
        | succ o => simp [cellsOf] at ho
      subst h0
      have h1 : (cur.toList.take (l.length * 1))[i]? = (l.map (Value.int .i64))[i]? := by rw [hx]
      rw [List.getElem?_take, if_pos (by omega), Array.getElem?_toList, List.getElem?_map, List.getElem?_eq_getElem hil] at h1
      show cur[0 + i * 1 + 0]? = some (.int .i64 (l.getD i 0))
      rw [show 0 + i * 1 + 0 = i by omega, h1]
      simp [List.getD, List.getElem?_eq_getElem hil]
    · intro i x o c hi ho
      obtain ⟨hil, rfl⟩ := ints_at hi
      cases o with
      | zero =>
        simp [cellsOf] at ho
        subst ho
        show VR _ _ _ _ _ (.int .i64 (l.getD i 0))
        rw [show l.getD i 0 = l[i] by simp [List.getD, List.getElem?_eq_getElem hil]]
        exact .int _ _
      | succ o => simp [cellsOf] at ho

theorem Clone_s (l : List Int) (hl : l.length ≤ 1000000000) : Sound Tryd.prog 94 [.sl (ints l)] (.sl (ints l)) := by
  intro w ok cargs hok _ hlen hargs
  have h0 := hargs 0 _ rfl
  have hc1 : cargs = #[cargs.getD 0 undef] := by
    apply Array.ext
    · simpa using hlen
    · intro i h1 h2
      simp at h2
      subst h2
      simp [Array.getD, h1]
  rw [hc1]
  generalize cargs.getD 0 undef = v at h0
  have hin : ∀ v, (callFunc 94 #[v]).run Tryd.prog w = .ok (.enter 94 #[v]) w := fun v =>
    Go.Av.callFunc_enter Tryd.func94 (by kernel_rfl) rfl #[v]
  cases l with
  | nil =>
    have h1 : VR w.heap ok noPlace noStore (.sl []) v := h0
    show CallsF _ _ _ _ fun cv w' => Below w.heap.size w w' ∧ VR w'.heap (fun b => ok b ∨ (w.heap.size ≤ b ∧ b < w'.heap.size)) noPlace noStore (.sl (ints [])) cv
    cases h1 with
    | sl0 a cap =>
      cases a with
      | none =>
        refine .inr ⟨hin _, (Any.slices_Clone_int_nil cloneLay 0 cap w).mono fun e w' ⟨he, hw⟩ => ⟨_, he, ?_, ?_⟩⟩
        · rw [hw]; exact Below.refl _ _
        · exact .sl0 none 0
      | some a =>
        refine .inr ⟨hin _, (Any.slices_Clone_int_zero cloneLay a cap w).mono fun e w' ⟨v', he, ho, _, hB⟩ => ⟨v', he, hB, ?_⟩⟩
        exact own_sl (l := []) ho
    | sl _ b off s cap cur ty fr vals hok' hcap hb hs hc hv =>
      refine .inr ⟨hin _, (Any.slices_Clone_int_zero cloneLay ⟨b, off, none⟩ cap w).mono fun e w' ⟨v', he, ho, _, hB⟩ => ⟨v', he, hB, ?_⟩⟩
      exact own_sl (l := []) ho
  | cons x r =>
    have hpos : 0 < (x :: r).length := by simp
    generalize x :: r = l at *
    generalize hes : ints l = es at h0
    cases h0 with
    | sl0 a cap => rw [← ints_length, hes] at hpos; simp at hpos
    | sl _ b off s cap cur ty fr vals hok' hcap hb hs hc hv =>
      subst hes
      have hs1 : s = 1 := (hs 0 _ (ints_get l 0 hpos)).1.symm
      subst hs1
      have hcell : ∀ j, j < l.length → w.cell? ⟨b, off + j, none⟩ = some (.int .i64 (l.getD j 0)) := by
        intro j hj
        have h1 := hc j _ 0 _ (ints_get l j hj) rfl
        have h2 := hv j _ 0 _ (ints_get l j hj) rfl
        generalize vals j 0 = u at h1 h2
        cases h2
        rw [show off + j * 1 + 0 = off + j by omega] at h1
        simp [World.cell?, hb, h1, List.getD, List.getElem?_eq_getElem hj]
      have hlen : (ints l).length = l.length := ints_length l
      rw [hlen]
      refine .inr ⟨hin _, (Any.slices_Clone_int cloneLay b off l.length cap l w (Nat.le_refl _) (by omega) hcell).mono fun e w' ⟨v', he, ho, _, hB⟩ => ⟨v', he, hB, ?_⟩⟩
      rw [List.take_length] at ho
      exact own_sl ho

/-- The clone is the caller's. -/
theorem own_o {w w' : World} {ok : Nat → Prop} {e : Nat} {v : Value} {l : List Int} (h : w'.ownsRow w.heap.size e 1 v l.length (l.map (Value.int .i64))) : OwnR w w' ok e 1 (ints l) v := by
  obtain ⟨_, h⟩ := h
  rcases h with ⟨rfl, hn⟩ | ⟨g, cap, cur, rfl, hg, hb, hn, hcap, hcur, hx⟩
  · have : l = [] := List.eq_nil_of_length_eq_zero hn
    subst this
    exact .inl ⟨rfl, none, rfl⟩
  · have hlen : (ints l).length = l.length := ints_length l
    rw [← hlen] at hn ⊢
    refine .inr ⟨g, cap, cur, rfl, hg, hb, hn, hcap, hcur, fun i x hi => ?_⟩
    obtain ⟨hil, rfl⟩ := ints_at hi
    refine ⟨rfl, fun c hc => by rw [List.mem_singleton.1 hc]; rfl, fun o c ho => ?_⟩
    cases o with
    | zero =>
      simp [cellsOf] at ho
      subst ho
      have h1 : (cur.toList.take (l.length * 1))[i]? = (l.map (Value.int .i64))[i]? := by rw [hx]
      rw [List.getElem?_take, if_pos (by omega), Array.getElem?_toList, List.getElem?_map, List.getElem?_eq_getElem hil] at h1
      exact ⟨_, by rw [show i * 1 + 0 = i by omega]; exact h1, .int _ _⟩
    | succ o => simp [cellsOf] at ho
theorem Clone_o (l : List Int) (hl : l.length ≤ 1000000000) : SoundO Tryd.prog 94 [.sl (ints l)] 3 1 (ints l) := by
  refine ⟨by omega, ?_⟩
  intro w ok cargs hok _ hlen hargs
  have h0 := hargs 0 _ rfl
  have hc1 : cargs = #[cargs.getD 0 undef] := by
    apply Array.ext
    · simpa using hlen
    · intro i h1 h2
      simp at h2
      subst h2
      simp [Array.getD, h1]
  rw [hc1]
  generalize cargs.getD 0 undef = v at h0
  have hin : ∀ v, (callFunc 94 #[v]).run Tryd.prog w = .ok (.enter 94 #[v]) w := fun v =>
    Go.Av.callFunc_enter Tryd.func94 (by kernel_rfl) rfl #[v]
  cases l with
  | nil =>
    have h1 : VR w.heap ok noPlace noStore (.sl []) v := h0
    show CallsF _ _ _ _ fun cv w' => Below w.heap.size w w' ∧ OwnR w w' ok 3 1 (ints []) cv
    cases h1 with
    | sl0 a cap =>
      cases a with
      | none =>
        refine .inr ⟨hin _, (Any.slices_Clone_int_nil cloneLay 0 cap w).mono fun e w' ⟨he, hw⟩ => ⟨_, he, ?_, ?_⟩⟩
        · rw [hw]; exact Below.refl _ _
        · exact .inl ⟨rfl, none, rfl⟩
      | some a =>
        refine .inr ⟨hin _, (Any.slices_Clone_int_zero cloneLay a cap w).mono fun e w' ⟨v', he, ho, _, hB⟩ => ⟨v', he, hB, ?_⟩⟩
        exact own_o (l := []) ho
    | sl _ b off s cap cur ty fr vals hok' hcap hb hs hc hv =>
      refine .inr ⟨hin _, (Any.slices_Clone_int_zero cloneLay ⟨b, off, none⟩ cap w).mono fun e w' ⟨v', he, ho, _, hB⟩ => ⟨v', he, hB, ?_⟩⟩
      exact own_o (l := []) ho
  | cons x r =>
    have hpos : 0 < (x :: r).length := by simp
    generalize x :: r = l at *
    generalize hes : ints l = es at h0
    cases h0 with
    | sl0 a cap => rw [← ints_length, hes] at hpos; simp at hpos
    | sl _ b off s cap cur ty fr vals hok' hcap hb hs hc hv =>
      subst hes
      have hs1 : s = 1 := (hs 0 _ (ints_get l 0 hpos)).1.symm
      subst hs1
      have hcell : ∀ j, j < l.length → w.cell? ⟨b, off + j, none⟩ = some (.int .i64 (l.getD j 0)) := by
        intro j hj
        have h1 := hc j _ 0 _ (ints_get l j hj) rfl
        have h2 := hv j _ 0 _ (ints_get l j hj) rfl
        generalize vals j 0 = u at h1 h2
        cases h2
        rw [show off + j * 1 + 0 = off + j by omega] at h1
        simp [World.cell?, hb, h1, List.getD, List.getElem?_eq_getElem hj]
      have hlen : (ints l).length = l.length := ints_length l
      rw [hlen]
      refine .inr ⟨hin _, (Any.slices_Clone_int cloneLay b off l.length cap l w (Nat.le_refl _) (by omega) hcell).mono fun e w' ⟨v', he, ho, _, hB⟩ => ⟨v', he, hB, ?_⟩⟩
      rw [List.take_length] at ho
      exact own_o ho
end Go.Proofs.YtngjhppgojfceaaDoor

/- Contracts of functions without a body: bits.Add64, bits.Sub64. By an AI agent; nothing here is trusted. -/
namespace Go.Proofs.YtngjhppgojfceaaDoor
open Go.Av
open Go.RowKit (Below)

theorem args3 {h : Array Obj} {ok : Nat → Prop} {cargs : Array Value} {a b c : Int} (hlen : cargs.size = 3) (hargs : ∀ (i : Nat) (x : AV), [AV.int .u64 a, .int .u64 b, .int .u64 c][i]? = some x → VR h ok noPlace noStore x (cargs.getD i undef)) :
    cargs = #[.int .u64 a, .int .u64 b, .int .u64 c] := by
  have h0 := hargs 0 _ rfl
  have h1 := hargs 1 _ rfl
  have h2 := hargs 2 _ rfl
  have e0 : cargs.getD 0 undef = .int .u64 a := by generalize cargs.getD 0 undef = v at *; cases h0; rfl
  have e1 : cargs.getD 1 undef = .int .u64 b := by generalize cargs.getD 1 undef = v at *; cases h1; rfl
  have e2 : cargs.getD 2 undef = .int .u64 c := by generalize cargs.getD 2 undef = v at *; cases h2; rfl
  apply Array.ext
  · simpa using hlen
  · intro i hi1 hi2
    simp at hi2
    have : i = 0 ∨ i = 1 ∨ i = 2 := by omega
    rcases this with rfl | rfl | rfl
    · simpa [Array.getD, hi1] using e0
    · simpa [Array.getD, hi1] using e1
    · simpa [Array.getD, hi1] using e2
theorem tup2 {h : Array Obj} {ok : Nat → Prop} (a b : Int) : VR h ok noPlace noStore (.tup [.int .u64 a, .int .u64 b]) (.tuple #[.int .u64 a, .int .u64 b]) := by
  refine .tup _ _ rfl fun i c hc => ?_
  match i with
  | 0 => simp at hc; subst hc; exact .int _ _
  | 1 => simp at hc; subst hc; exact .int _ _
  | i + 2 => simp at hc
theorem Add64_s (x y c : Int) (hx : 0 ≤ x) (hy : 0 ≤ y) (hc : 0 ≤ c ∧ c ≤ 1) : Sound Tryd.prog 122 [.int .u64 x, .int .u64 y, .int .u64 c]
    (.tup [.int .u64 ((x + y + c) % 18446744073709551616), .int .u64 ((x + y + c) / 18446744073709551616)]) := by
  intro w ok cargs hok _ hlen hargs
  rw [args3 (by simpa using hlen) hargs]
  refine .inl ⟨_, w, ?_, Below.refl _ _, tup2 _ _⟩
  rw [run_callFunc_extern Tryd.func122 (by kernel_rfl) (by kernel_rfl) (by kernel_rfl) (e := add64Entry) (by kernel_rfl), run_add64 x y c hx hy hc.1 hc.2]
  rfl
theorem Sub64_s (x y b : Nat) (hb : b ≤ 1) : Sound Tryd.prog 124 [.int .u64 (x : Int), .int .u64 (y : Int), .int .u64 (b : Int)]
    (.tup [.int .u64 (((x + 18446744073709551616 - y - b) % 18446744073709551616 : Nat) : Int), .int .u64 ((if x < y + b then 1 else 0 : Nat) : Int)]) := by
  intro w ok cargs hok _ hlen hargs
  rw [args3 (by simpa using hlen) hargs]
  refine .inl ⟨_, w, ?_, Below.refl _ _, tup2 _ _⟩
  rw [run_callFunc_extern Tryd.func124 (by kernel_rfl) (by kernel_rfl) (by kernel_rfl) (e := sub64Entry) (by kernel_rfl), run_sub64 x y b hb]
  rfl
end Go.Proofs.YtngjhppgojfceaaDoor

/- The examples of chapter 2, by running the abstract code; an iterator from the end on. By an AI agent; nothing here is trusted. -/
namespace Go.Proofs.YtngjhppgojfceaaDoor
open Go.Av

/-- A number of 128 bits, as the code holds it. -/
def w128 (p : Bool × Int × Int) : AV := .agg [.bool p.1, .int .u64 p.2.1, .int .u64 p.2.2]
def w128s (l : List (Bool × Int × Int)) : List AV := l.map w128
theorem w128s_length (l : List (Bool × Int × Int)) : (w128s l).length = l.length := by simp [w128s]
theorem w128s_get (l : List (Bool × Int × Int)) (i : Nat) (h : i < l.length) : (w128s l)[i]? = some (.agg [.bool l[i].1, .int .u64 l[i].2.1, .int .u64 l[i].2.2]) := by
  simp [w128s, w128, h]
/-- What slices.Backward yields. -/
def backL (l : List (Bool × Int × Int)) : Nat → List (List AV)
  | 0 => []
  | k + 1 => backL l k ++ [[.int .i64 ((l.length : Int) - 1 - k), w128 (l.getD (l.length - 1 - k) default)]]
theorem backL_le (l : List (Bool × Int × Int)) (k n : Nat) (h : k ≤ n) : ∃ r, backL l n = backL l k ++ r := by
  obtain ⟨m, rfl⟩ := Nat.exists_eq_add_of_le h
  induction m with
  | zero => exact ⟨[], by simp⟩
  | succ m ih =>
    obtain ⟨r, hr⟩ := ih (by omega)
    exact ⟨r ++ [[.int .i64 ((l.length : Int) - 1 - (k + m : Nat)), w128 (l.getD (l.length - 1 - (k + m)) default)]], by rw [← Nat.add_assoc, backL, hr, List.append_assoc]⟩
theorem deadAll_no : deadAll noStore = noStore := rfl
theorem backward_s (l : List (Bool × Int × Int)) (hl : l.length ≤ 1000000) : SeqA Tryd.prog 142 [.eptr (.sl (w128s l)) 0] (backL l l.length) := by
  refine seq_W f_slices_Backward_pulse_wide_pulse_wide_1 (Nat.le_of_ble_eq_true rfl) fun y => ?_
  simp only [c_slices_Backward_pulse_wide_pulse_wide_1, w128s_length, vcC, Int.reduceEq, Int.reduceNe, Int.reduceLT, Int.reduceLE, Nat.reduceEqDiff, Nat.reduceAdd, reduceIte, reduceCtorEq, Nat.reduceLT, Nat.reduceLeDiff, eq_self, Option.bind_some, Option.map_some, List.map_cons, List.map_nil, List.length_cons, List.length_nil, Option.getD_some, Option.getD_none, List.all_cons, List.all_nil, List.set_cons_zero, List.set_cons_succ, List.replicate_succ, List.replicate_zero, List.getElem?_cons_zero, List.getElem?_cons_succ, List.drop_succ_cons, List.drop_zero, List.take_succ_cons, List.take_zero, WY_skip, WY_reg, WY_regY, WY_seq, WY_cond, WY_block, WY_exit, WY_ret, VY_nil, VY_yld, VY_yldg, VY_ps, seqY_n, seqY_r, seqY_x, blockY_n, blockY_r, blockY_x, isCallvs, isCallv, isY, List.any_cons, List.any_nil, Bool.or_false, Bool.or_true, Bool.false_or, Bool.and_false, Bool.false_and]
  refine ⟨by unfold I64; omega, ?_⟩
  refine WY_loop (α := PSigma fun k : Nat => k ≤ l.length) (fun k => ((envOf [(0, .yld y), (1, .eptr (.sl (w128s l)) 0), (3, .int .i64 ((l.length : Int) - 1 - k.1))], noStore), some (backL l k.1)))
    (fun k => l.length - k.1) ⟨0, by simp⟩ (weakE _ ?_) ?_ (fun ⟨k, hk⟩ => ?_)
  · simp only [vcC, Int.reduceEq, Int.reduceNe, Int.reduceLT, Int.reduceLE, Nat.reduceEqDiff, Nat.reduceAdd, reduceIte, reduceCtorEq, Nat.reduceLT, Nat.reduceLeDiff, eq_self, Option.bind_some, Option.map_some, List.map_cons, List.map_nil, List.length_cons, List.length_nil, Option.getD_some, Option.getD_none, List.all_cons, List.all_nil, List.set_cons_zero, List.set_cons_succ, List.replicate_succ, List.replicate_zero, List.getElem?_cons_zero, List.getElem?_cons_succ, List.drop_succ_cons, List.drop_zero, List.take_succ_cons, List.take_zero, WY_skip, WY_reg, WY_regY, WY_seq, WY_cond, WY_block, WY_exit, WY_ret, VY_nil, VY_yld, VY_yldg, VY_ps, seqY_n, seqY_r, seqY_x, blockY_n, blockY_r, blockY_x, isCallvs, isCallv, isY, List.any_cons, List.any_nil, Bool.or_false, Bool.or_true, Bool.false_or, Bool.and_false, Bool.false_and]; simp
  · simp [backL]
  · simp only [vcC, Int.reduceEq, Int.reduceNe, Int.reduceLT, Int.reduceLE, Nat.reduceEqDiff, Nat.reduceAdd, reduceIte, reduceCtorEq, Nat.reduceLT, Nat.reduceLeDiff, eq_self, Option.bind_some, Option.map_some, List.map_cons, List.map_nil, List.length_cons, List.length_nil, Option.getD_some, Option.getD_none, List.all_cons, List.all_nil, List.set_cons_zero, List.set_cons_succ, List.replicate_succ, List.replicate_zero, List.getElem?_cons_zero, List.getElem?_cons_succ, List.drop_succ_cons, List.drop_zero, List.take_succ_cons, List.take_zero, WY_skip, WY_reg, WY_regY, WY_seq, WY_cond, WY_block, WY_exit, WY_ret, VY_nil, VY_yld, VY_yldg, VY_ps, seqY_n, seqY_r, seqY_x, blockY_n, blockY_r, blockY_x, isCallvs, isCallv, isY, List.any_cons, List.any_nil, Bool.or_false, Bool.or_true, Bool.false_or, Bool.and_false, Bool.false_and]
    refine brB_split (fun h => ?_) (fun h => ?_)
    · have h' : k < l.length := by simp only [decide_eq_true_eq] at h; omega
      have h2 : ((l.length : Int) - 1 - k).toNat = l.length - 1 - k := by omega
      have hg := w128s_get l (l.length - 1 - k) (by omega)
      simp only [h2, hg, vcC, Int.reduceEq, Int.reduceNe, Int.reduceLT, Int.reduceLE, Nat.reduceEqDiff, Nat.reduceAdd, reduceIte, reduceCtorEq, Nat.reduceLT, Nat.reduceLeDiff, eq_self, Option.bind_some, Option.map_some, List.map_cons, List.map_nil, List.length_cons, List.length_nil, Option.getD_some, Option.getD_none, List.all_cons, List.all_nil, List.set_cons_zero, List.set_cons_succ, List.replicate_succ, List.replicate_zero, List.getElem?_cons_zero, List.getElem?_cons_succ, List.drop_succ_cons, List.drop_zero, List.take_succ_cons, List.take_zero, WY_skip, WY_reg, WY_regY, WY_seq, WY_cond, WY_block, WY_exit, WY_ret, VY_nil, VY_yld, VY_yldg, VY_ps, seqY_n, seqY_r, seqY_x, blockY_n, blockY_r, blockY_x, isCallvs, isCallv, isY, List.any_cons, List.any_nil, Bool.or_false, Bool.or_true, Bool.false_or, Bool.and_false, Bool.false_and]
      refine ⟨by omega, ?_⟩
      obtain ⟨rest, hrest⟩ := backL_le l (k + 1) l.length h'
      rw [backL, w128, show l.getD (l.length - 1 - k) default = l[l.length - 1 - k]'(by omega) by simp [List.getD, List.getElem?_eq_getElem (show l.length - 1 - k < l.length by omega)]] at hrest
      refine yS_of (backL l k) rest rfl ?_ ?_ ?_
      · rw [hrest]; simp
      · simp only [deadAll_no, vcC, Int.reduceEq, Int.reduceNe, Int.reduceLT, Int.reduceLE, Nat.reduceEqDiff, Nat.reduceAdd, reduceIte, reduceCtorEq, Nat.reduceLT, Nat.reduceLeDiff, eq_self, Option.bind_some, Option.map_some, List.map_cons, List.map_nil, List.length_cons, List.length_nil, Option.getD_some, Option.getD_none, List.all_cons, List.all_nil, List.set_cons_zero, List.set_cons_succ, List.replicate_succ, List.replicate_zero, List.getElem?_cons_zero, List.getElem?_cons_succ, List.drop_succ_cons, List.drop_zero, List.take_succ_cons, List.take_zero, WY_skip, WY_reg, WY_regY, WY_seq, WY_cond, WY_block, WY_exit, WY_ret, VY_nil, VY_yld, VY_yldg, VY_ps, seqY_n, seqY_r, seqY_x, blockY_n, blockY_r, blockY_x, isCallvs, isCallv, isY, List.any_cons, List.any_nil, Bool.or_false, Bool.or_true, Bool.false_or, Bool.and_false, Bool.false_and]
        refine ⟨by unfold I64; omega, ⟨k + 1, h'⟩, by simp only; omega, weakE _ ?_, ?_⟩
        · simp only [vcC, Int.reduceEq, Int.reduceNe, Int.reduceLT, Int.reduceLE, Nat.reduceEqDiff, Nat.reduceAdd, reduceIte, reduceCtorEq, Nat.reduceLT, Nat.reduceLeDiff, eq_self, Option.bind_some, Option.map_some, List.map_cons, List.map_nil, List.length_cons, List.length_nil, Option.getD_some, Option.getD_none, List.all_cons, List.all_nil, List.set_cons_zero, List.set_cons_succ, List.replicate_succ, List.replicate_zero, List.getElem?_cons_zero, List.getElem?_cons_succ, List.drop_succ_cons, List.drop_zero, List.take_succ_cons, List.take_zero, WY_skip, WY_reg, WY_regY, WY_seq, WY_cond, WY_block, WY_exit, WY_ret, VY_nil, VY_yld, VY_yldg, VY_ps, seqY_n, seqY_r, seqY_x, blockY_n, blockY_r, blockY_x, isCallvs, isCallv, isY, List.any_cons, List.any_nil, Bool.or_false, Bool.or_true, Bool.false_or, Bool.and_false, Bool.false_and]
          simp only [AV.int.injEq, true_and, and_true]
          omega
        · simp only [backL, w128, show l.getD (l.length - 1 - k) default = l[l.length - 1 - k]'(by omega) by simp [List.getD, List.getElem?_eq_getElem (show l.length - 1 - k < l.length by omega)]]
      · simp only [deadAll_no, vcC, Int.reduceEq, Int.reduceNe, Int.reduceLT, Int.reduceLE, Nat.reduceEqDiff, Nat.reduceAdd, reduceIte, reduceCtorEq, Nat.reduceLT, Nat.reduceLeDiff, eq_self, Option.bind_some, Option.map_some, List.map_cons, List.map_nil, List.length_cons, List.length_nil, Option.getD_some, Option.getD_none, List.all_cons, List.all_nil, List.set_cons_zero, List.set_cons_succ, List.replicate_succ, List.replicate_zero, List.getElem?_cons_zero, List.getElem?_cons_succ, List.drop_succ_cons, List.drop_zero, List.take_succ_cons, List.take_zero, WY_skip, WY_reg, WY_regY, WY_seq, WY_cond, WY_block, WY_exit, WY_ret, VY_nil, VY_yld, VY_yldg, VY_ps, seqY_n, seqY_r, seqY_x, blockY_n, blockY_r, blockY_x, isCallvs, isCallv, isY, List.any_cons, List.any_nil, Bool.or_false, Bool.or_true, Bool.false_or, Bool.and_false, Bool.false_and]; simp
    · simp only [vcC, Int.reduceEq, Int.reduceNe, Int.reduceLT, Int.reduceLE, Nat.reduceEqDiff, Nat.reduceAdd, reduceIte, reduceCtorEq, Nat.reduceLT, Nat.reduceLeDiff, eq_self, Option.bind_some, Option.map_some, List.map_cons, List.map_nil, List.length_cons, List.length_nil, Option.getD_some, Option.getD_none, List.all_cons, List.all_nil, List.set_cons_zero, List.set_cons_succ, List.replicate_succ, List.replicate_zero, List.getElem?_cons_zero, List.getElem?_cons_succ, List.drop_succ_cons, List.drop_zero, List.take_succ_cons, List.take_zero, WY_skip, WY_reg, WY_regY, WY_seq, WY_cond, WY_block, WY_exit, WY_ret, VY_nil, VY_yld, VY_yldg, VY_ps, seqY_n, seqY_r, seqY_x, blockY_n, blockY_r, blockY_x, isCallvs, isCallv, isY, List.any_cons, List.any_nil, Bool.or_false, Bool.or_true, Bool.false_or, Bool.and_false, Bool.false_and]
      have : k = l.length := by simp only [decide_eq_false_iff_not, Bool.not_true] at h; omega
      subst this
      simp

def unw : AV → Option (Bool × Int × Int)
  | .agg [.bool a, .int .u64 b, .int .u64 c] => some (a, b, c)
  | _ => none
def unws : List AV → Option (List (Bool × Int × Int))
  | [] => some []
  | x :: l => match unw x, unws l with
    | some n, some m => some (n :: m)
    | _, _ => none
theorem unws_some : ∀ {l : List AV} {m : List (Bool × Int × Int)}, unws l = some m → l = w128s m
  | [], m, h => by cases h; rfl
  | x :: l, m, h => by
    simp only [unws] at h
    split at h
    · rename_i n k h1 h2
      cases h
      rw [unws_some h2]
      unfold unw at h1
      split at h1
      · cases h1; rfl
      · cases h1
    · cases h
def unint : AV → Option Int
  | .int .i64 n => some n
  | _ => none
def unints : List AV → Option (List Int)
  | [] => some []
  | x :: l => match unint x, unints l with
    | some n, some m => some (n :: m)
    | _, _ => none
theorem unints_some : ∀ {l : List AV} {m : List Int}, unints l = some m → l = ints m
  | [], m, h => by cases h; rfl
  | x :: l, m, h => by
    simp only [unints] at h
    split at h
    · rename_i n k h1 h2
      cases h
      rw [unints_some h2]
      unfold unint at h1
      split at h1
      · cases h1; rfl
      · cases h1
    · cases h

/-- The iterator that the examples come to. -/
def itP : IterT := fun g caps => if g = 142 then (match caps with
  | [.eptr (.sl es) 0] => (match unws es with
    | some l => if l.length ≤ 1000000 then some (backL l l.length) else none
    | none => none)
  | _ => none) else none
theorem itP_ok : ∀ g caps xs, itP g caps = some xs → SeqA Tryd.prog g caps xs := by
  intro g caps xs h
  unfold itP at h
  split at h
  · rename_i hg
    subst hg
    split at h
    · rename_i es
      split at h
      · rename_i l hl
        split at h
        · rename_i hc
          cases h
          rw [unws_some hl]
          exact backward_s l hc
        · cases h
      · cases h
    · cases h
  · cases h
/-- The functions that are known by their contracts alone. -/
def extV : CallT := fun f a =>
  if f = 94 then (match a with
    | [.sl es] => (match unints es with
      | some l => if l.length ≤ 1000000 then some (.sl es) else none
      | none => none)
    | _ => none)
  else if f = 122 then (match a with
    | [.int .u64 x, .int .u64 y, .int .u64 c] => if 0 ≤ x ∧ 0 ≤ y ∧ 0 ≤ c ∧ c ≤ 1 then some (.tup [.int .u64 ((x + y + c) % 18446744073709551616), .int .u64 ((x + y + c) / 18446744073709551616)]) else none
    | _ => none)
  else if f = 124 then (match a with
    | [.int .u64 x, .int .u64 y, .int .u64 c] => if 0 ≤ x ∧ 0 ≤ y ∧ 0 ≤ c ∧ c ≤ 1 then some (.tup [.int .u64 (((x.toNat + 18446744073709551616 - y.toNat - c.toNat) % 18446744073709551616 : Nat) : Int), .int .u64 ((if x.toNat < y.toNat + c.toNat then 1 else 0 : Nat) : Int)]) else none
    | _ => none)
  else none
theorem extV_ok : ∀ f a v, extV f a = some v → Sound Tryd.prog f a v := by
  intro f a v h
  unfold extV at h
  split at h
  · rename_i hf
    subst hf
    split at h
    · rename_i es
      split at h
      · rename_i l hl
        split at h
        · rename_i hc
          cases h
          rw [unints_some hl]
          exact Clone_s l (by omega)
        · cases h
      · cases h
    · cases h
  · split at h
    · rename_i hf
      subst hf
      split at h
      · rename_i x y c
        split at h
        · rename_i hc
          cases h
          exact Add64_s x y c hc.1 hc.2.1 hc.2.2
        · cases h
      · cases h
    · split at h
      · rename_i hf
        subst hf
        split at h
        · rename_i x y c
          split at h
          · rename_i hc
            cases h
            have := Sub64_s x.toNat y.toNat c.toNat (by omega)
            rw [show ((x.toNat : Nat) : Int) = x by omega, show ((y.toNat : Nat) : Int) = y by omega, show ((c.toNat : Nat) : Int) = c by omega] at this
            exact this
          · cases h
        · cases h
      · cases h
/-- The clone is the caller's; a model, too. -/
def extO : OwnT := fun f a => if f = 94 then (match a with
    | [.sl es] => (match unints es with
      | some l => if l.length ≤ 1000000 then some (3, 1, es) else none
      | none => none)
    | _ => none) else none
theorem extO_ok : ∀ f a q, extO f a = some q → SoundO Tryd.prog f a q.1 q.2.1 q.2.2 := by
  intro f a q h
  unfold extO at h
  split at h
  · rename_i hf
    subst hf
    split at h
    · rename_i es
      split at h
      · rename_i l hl
        split at h
        · rename_i hc
          cases h
          rw [unints_some hl]
          exact Clone_o l (by omega)
        · cases h
      · cases h
    · cases h
  · cases h
def extP : CT := ⟨extV, extO⟩
theorem extP_ok : extP.ok Tryd.prog := ⟨extV_ok, extO_ok⟩
/-- Whose results are taken over. -/
def owP : FuncId → Bool := fun f => decide (f = 94) || decide (f = 89)
def tabT : List (Nat × Nat × Nat × MC × List (Nat × Option (Option Nat))) := [(5, 40, 0, c_top_pulseShown, [(0, none)]), (10, 6, 1, c_base_CopyInts, [(2, none)]), (12, 26, 2, c_base_Ints, [(4, none)]), (25, 12, 2, c_pulse_Restored, [(4, none), (5, none)]), (26, 6, 1, c_ref02_Wave, [(2, (some (some 1)))]), (27, 58, 2, c_pulse_FitOf, [(4, (some (some 2))), (5, none)]), (28, 3, 0, c_law02_Template, [(0, (some (some 2)))]), (30, 15, 1, c_pulse_first, [(2, none)]), (31, 11, 1, c_pulse_sampled, [(2, none)]), (32, 7, 2, c_pulse_unless, [(4, none)]), (33, 5, 1, c_pulse_isSample, [(2, none)]), (36, 9, 2, c_slices_ContainsFunc_int_int, [(4, none)]), (38, 15, 3, c_pulse_within, [(6, none)]), (58, 60, 3, c_pulse_droop, [(6, none), (7, none)]), (59, 22, 2, c_pulse_fittedErr, [(4, none)]), (60, 55, 2, c_pulse_problemOf, [(4, (some (some 2)))]), (61, 8, 1, c_math_bits_TrailingZeros, [(2, none)]), (62, 92, 2, c_pulse_problem_solved, [(4, (some (some 3))), (5, none)]), (63, 56, 3, c_pulse_problem_isBest, [(6, none)]), (64, 62, 2, c_pulse_reduced, [(4, (some (some 2))), (5, none)]), (65, 24, 1, c_pulse_samplesErr, [(2, none), (3, none)]), (66, 10, 2, c_pulse_isSized, [(4, none)]), (67, 19, 2, c_slices_IndexFunc_int_int, [(4, none)]), (86, 12, 1, c_pulse_droopErr, [(2, none)]), (87, 16, 2, c_pulse_floor, [(4, none)]), (88, 32, 1, c_pulse_templateErr, [(2, none)]), (89, 47, 2, c_pulse_model, [(4, none)]), (90, 30, 3, c_pulse_against, [(6, none)]), (91, 14, 1, c_math_bits_TrailingZeros32, [(2, none)]), (92, 14, 1, c_math_bits_TrailingZeros64, [(2, none)]), (93, 57, 1, c_pulse_determinant, [(2, (some (some 3)))]), (95, 33, 2, c_pulse_wide_times, [(4, (some (some 3)))]), (96, 57, 2, c_pulse_wide_plus, [(4, (some (some 3)))]), (97, 11, 1, c_pulse_wide_negated, [(2, (some (some 3)))]), (98, 9, 1, c_pulse_wide_sign, [(2, none)]), (99, 60, 2, c_pulse_common, [(4, (some (some 3)))]), (100, 51, 2, c_pulse_wide_over, [(4, (some (some 3)))]), (101, 6, 1, c_pulse_samplesErr_1, [(2, none)]), (118, 6, 1, c_pulse_templateErr_1, [(2, none)]), (119, 5, 1, c_pulse_templateErr_2, [(2, none)]), (120, 11, 1, c_pulse_wideOf, [(2, (some (some 3)))]), (121, 51, 2, c_math_bits_Mul64, [(4, none), (5, none)]), (123, 24, 2, c_pulse_wide_isLess, [(4, none)]), (125, 11, 1, c_pulse_wide_isZero, [(2, none)]), (126, 8, 1, c_pulse_wide_size, [(2, (some (some 3)))]), (127, 16, 1, c_pulse_wide_half, [(2, (some (some 3)))]), (128, 6, 1, c_pulse_wide_twice, [(2, (some (some 3)))]), (129, 4, 1, c_slices_Backward_pulse_wide_pulse_wide, [(2, none)]), (142, 19, 2, c_slices_Backward_pulse_wide_pulse_wide_1, [])]
theorem tabT_ok : ∀ f c, lookC tabT f = some c → cFun Tryd.prog f = some c := by
  refine lookC_ok ?_
  unfold tabT
  simp only [List.forall_mem_cons]
  exact ⟨f_top_pulseShown, f_base_CopyInts, f_base_Ints, f_pulse_Restored, f_ref02_Wave, f_pulse_FitOf, f_law02_Template, f_pulse_first, f_pulse_sampled, f_pulse_unless, f_pulse_isSample, f_slices_ContainsFunc_int_int, f_pulse_within, f_pulse_droop, f_pulse_fittedErr, f_pulse_problemOf, f_math_bits_TrailingZeros, f_pulse_problem_solved, f_pulse_problem_isBest, f_pulse_reduced, f_pulse_samplesErr, f_pulse_isSized, f_slices_IndexFunc_int_int, f_pulse_droopErr, f_pulse_floor, f_pulse_templateErr, f_pulse_model, f_pulse_against, f_math_bits_TrailingZeros32, f_math_bits_TrailingZeros64, f_pulse_determinant, f_pulse_wide_times, f_pulse_wide_plus, f_pulse_wide_negated, f_pulse_wide_sign, f_pulse_common, f_pulse_wide_over, f_pulse_samplesErr_1, f_pulse_templateErr_1, f_pulse_templateErr_2, f_pulse_wideOf, f_math_bits_Mul64, f_pulse_wide_isLess, f_pulse_wide_isZero, f_pulse_wide_size, f_pulse_wide_half, f_pulse_wide_twice, f_slices_Backward_pulse_wide_pulse_wide, f_slices_Backward_pulse_wide_pulse_wide_1, fun p hp => by cases hp⟩
--  49
end Go.Proofs.YtngjhppgojfceaaDoor

/- The examples of chapter 2 hold, as the tops ask. By an AI agent; nothing here is trusted. -/
namespace Go.Proofs.YtngjhppgojfceaaDoor
open Go.Av
theorem pulseShown_run : (callX extP owP itP (lookC tabT) 100 40).v 5 [] = some (.bool true) := by kernel_rfl
theorem pulseShown_s : Sound Tryd.prog 5 [] (.bool true) := (callX_sound extP_ok itP_ok tabT_ok 40).1 _ _ _ pulseShown_run
end Go.Proofs.YtngjhppgojfceaaDoor

