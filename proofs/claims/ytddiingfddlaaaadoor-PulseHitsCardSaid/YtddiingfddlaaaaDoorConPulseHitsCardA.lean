/- The tables of the library, as the rows say that they lie: what the layer wants of them. By an AI agent; nothing here is trusted. -/
import Derived.Test.YtddiingfddlaaaaDoorRows
import Derived.Test.YtddiingfddlaaaaDoorLayC
import Derived.Test.YtddiingfddlaaaaDoorKode
import Derived.ProofKit
import Derived.LaidMore
import Derived.OpenShut
import Derived.Stop.Joined
import Derived.Shelf.Slices.Clone
import Derived.Shelf.Spec.BitsCarry
set_option linter.defProp false
set_option linter.unusedSimpArgs false
set_option linter.unusedVariables false
namespace Go.Proofs.YtddiingfddlaaaaDoor
open Go.ChangeShapes Go.WideShapes Go.ChangeAt Go.RowKit
open Go.Av

def laidP : List (String × DataW Unit) := [("math/bits.deBruijn32tab", Rows.laid_math_bits_deBruijn32tab), ("math/bits.deBruijn64tab", Rows.laid_math_bits_deBruijn64tab), ("internal/strconv.uint64pow10", Rows.laid_internal_strconv_uint64pow10)]

theorem ownKn : ownKnob Tryd.prog.godebug = none := by kernel_rfl
set_option maxRecDepth 100000 in
/-- The door's own heap meets the condition. -/
theorem door_met (os : Os) (args : Array Value) : laidMetH Tryd.prog laidP ((World.doorLaid Tryd.prog 2000 os).forCall (fun _ _ => 0) ⟨#[], args, []⟩).memory :=
  laidMetH_of_parts3 (fuel := 8) (laidMet_of_run' 8 (by kernel_rfl) (by kernel_rfl)) (by kernel_rfl) (by kernel_rfl)

/-- A table that reads so holds so. -/
theorem tab_cells {W : World} {g : Nat} {name : String} {t e : TypeId} {n f : Nat} {k : IntKind} {cs : Array Value} {ns : List Int} {p : List MemPlace} {H : Type} {enc : TypeId × Value → H} {sp : Nat → Bool} {held : Bool} (hg : Tryd.prog.globalNamed name = some g)
    (hv : W.var? Tryd.prog name = some cs) (ht : Tryd.prog.underlying t = some (.array n e)) (he : Tryd.prog.underlying e = some (.int k)) (hc : Tryd.prog.cellsOf e = 1) (hn : ns.length = n) (hpos : 0 < n)
    (hd : DataW.trod enc Tryd.prog W 0 sp held f t cs.toList = some (.agg (ns.map fun m => .lit (.int k m)), p)) :
    g < W.heap.size ∧ ∃ cur ty fr, W.heap[g]? = some (.cells cur ty fr) ∧ ∀ (j : Nat) (m : Int), ns[j]? = some m → cur[j]? = some (.int k m) := by
  obtain ⟨xs, m1, rfl, hx1, _, hlen, hel⟩ := DataW.trod_array ht hd
  simp only [Prod.mk.injEq, DataW.agg.injEq] at hx1
  have key : ∀ (j : Nat) (m : Int), ns[j]? = some m → cs[j]? = some (.int k m) := by
    intro j m hj
    have hjn : j < n := by rw [← hn]; exact (List.getElem?_eq_some_iff.1 hj).1
    have h1 := hel j hjn
    rw [hc, Nat.mul_one] at h1
    obtain ⟨x, hx⟩ : ∃ x, xs[j]? = some x := ⟨xs[j]'(by omega), List.getElem?_eq_getElem (by omega)⟩
    rw [hx] at h1
    obtain ⟨q, e1, e2, _⟩ := DataW.trod_int he h1
    have h2 : (xs.map (·.1))[j]? = some (.lit (.int k q)) := by rw [List.getElem?_map, hx, e2]; rfl
    rw [← hx1.1, List.getElem?_map, hj] at h2
    simp only [Option.map_some, Option.some.injEq, DataW.lit.injEq, Lit.int.injEq, true_and] at h2
    subst h2
    have h3 : ((cs.toList.drop j).take 1)[0]? = some (.int k m) := by rw [e1]; rfl
    rw [List.getElem?_take, if_pos (by omega), List.getElem?_drop] at h3
    simpa using h3
  have h0 : ∃ m, ns[0]? = some m := ⟨ns[0]'(by omega), List.getElem?_eq_getElem (by omega)⟩
  obtain ⟨m0, hm0⟩ := h0
  have hcell := World.var?_cell hg hv
  have hb : ∃ cur ty fr, W.heap[g]? = some (.cells cur ty fr) := by
    have := (hcell 0).trans (key 0 m0 hm0)
    unfold World.cell? at this
    split at this
    · rename_i cur ty fr hb; exact ⟨cur, ty, fr, hb⟩
    · cases this
  obtain ⟨cur, ty, fr, hb⟩ := hb
  refine ⟨(Array.getElem?_eq_some_iff.1 hb).1, cur, ty, fr, hb, fun j m hj => ?_⟩
  have := (hcell j).trans (key j m hj)
  unfold World.cell? at this
  rw [hb] at this
  simpa using this

theorem g32 : Tryd.prog.globalNamed "math/bits.deBruijn32tab" = some 0 := by kernel_rfl
theorem g64 : Tryd.prog.globalNamed "math/bits.deBruijn64tab" = some 1 := by kernel_rfl
theorem g10 : Tryd.prog.globalNamed "internal/strconv.uint64pow10" = some 4 := by kernel_rfl

/-- What the condition gives. -/
theorem of_laid {W : World} (h : laidMetH Tryd.prog laidP W) : GOk (fun b => b < W.heap.size) W := by
  rw [MakeChecks.laidMetH_plain _ _ _ (by kernel_rfl)] at h
  obtain ⟨ps, ⟨n0, t0, cs0, f0, p0, q0, hn0, ht0, hv0, hd0, ⟨n1, t1, cs1, f1, p1, q1, hn1, ht1, hv1, hd1, ⟨n2, t2, cs2, f2, p2, q2, hn2, ht2, hv2, hd2, _⟩, _⟩, _⟩, _⟩ := h
  obtain rfl := Option.some.inj (g32.symm.trans hn0)
  obtain rfl := Option.some.inj (g64.symm.trans hn1)
  obtain rfl := Option.some.inj (g10.symm.trans hn2)
  obtain rfl := Option.some.inj ((show (Tryd.prog.globals[0]?).map (·.type) = some 146 by kernel_rfl).symm.trans ht0)
  obtain rfl := Option.some.inj ((show (Tryd.prog.globals[1]?).map (·.type) = some 147 by kernel_rfl).symm.trans ht1)
  obtain rfl := Option.some.inj ((show (Tryd.prog.globals[4]?).map (·.type) = some 161 by kernel_rfl).symm.trans ht2)
  have c0 := tab_cells (ns := [0, 1, 28, 2, 29, 14, 24, 3, 30, 22, 20, 15, 25, 17, 4, 8, 31, 27, 13, 23, 21, 19, 16, 7, 26, 12, 18, 6, 11, 5, 10, 9]) hn0 hv0 Tryd.underlying146 Tryd.underlying5 (by kernel_rfl) rfl (by decide) hd0
  have c1 := tab_cells (ns := [0, 1, 56, 2, 57, 49, 28, 3, 61, 58, 42, 50, 38, 29, 17, 4, 62, 47, 59, 36, 45, 43, 51, 22, 53, 39, 33, 30, 24, 18, 12, 5, 63, 55, 48, 27, 60, 41, 37, 16, 46, 35, 44, 21, 52, 32, 23, 11, 54, 26, 40, 15, 34, 20, 31, 10, 25, 14, 19, 9, 13, 8, 7, 6]) hn1 hv1 Tryd.underlying147 Tryd.underlying5 (by kernel_rfl) rfl (by decide) hd1
  have c2 := tab_cells (ns := [1, 10, 100, 1000, 10000, 100000, 1000000, 10000000, 100000000, 1000000000, 10000000000, 100000000000, 1000000000000, 10000000000000, 100000000000000, 1000000000000000, 10000000000000000, 100000000000000000, 1000000000000000000, 10000000000000000000]) hn2 hv2 Tryd.underlying161 Tryd.underlying114 (by kernel_rfl) rfl (by decide) hd2
  intro p hp
  simp only [gTab, List.nil_append, List.mem_append, List.mem_singleton] at hp
  rcases hp with (rfl | rfl) | rfl
  · exact c1
  · exact c0
  · exact c2
end Go.Proofs.YtddiingfddlaaaaDoor

/- Contracts of small functions. By an AI agent; nothing here is trusted. -/
namespace Go.Proofs.YtddiingfddlaaaaDoor
open Go.Av

abbrev i64 (n : Int) : AV := .int .i64 n
def prs (l : List (Int × Int)) : List AV := l.map fun p => .agg [.int .i64 p.1, .int .i64 p.2]
theorem prs_length (l : List (Int × Int)) : (prs l).length = l.length := by simp [prs]
theorem prs_get (l : List (Int × Int)) (i : Nat) (h : i < l.length) : (prs l)[i]? = some (.agg [.int .i64 l[i].1, .int .i64 l[i].2]) := by
  simp [prs, h]
theorem prs_fx (l : List (Int × Int)) : ∀ x ∈ prs l, fx x = true := by
  intro x hx
  obtain ⟨n, _, rfl⟩ := List.mem_map.1 hx
  rfl

theorem within_s (n lo hi : Int) : Sound Tryd.prog 63 [.int .i64 n, .int .i64 lo, .int .i64 hi] (.bool (decide (lo ≤ n ∧ n ≤ hi))) := by
  refine sound_W f_pulse_within (Nat.le_of_ble_eq_true rfl) ?_
  simp only [c_pulse_within, vcC, Int.reduceEq, Int.reduceNe, Int.reduceLT, Int.reduceLE, Nat.reduceEqDiff, Nat.reduceAdd, reduceIte, reduceCtorEq, Nat.reduceLT, Nat.reduceLeDiff, eq_self, Option.bind_some, Option.map_some, List.map_cons, List.map_nil, List.length_cons, List.length_nil, Option.getD_some, Option.getD_none, List.all_cons, List.all_nil, List.set_cons_zero, List.set_cons_succ, List.replicate_succ, List.replicate_zero, List.getElem?_cons_zero, List.getElem?_cons_succ, List.drop_succ_cons, List.drop_zero, List.take_succ_cons, List.take_zero]
  refine brB_split (fun h => ?_) (fun h => ?_) <;> simp only [h, vcC, Int.reduceEq, Int.reduceNe, Int.reduceLT, Int.reduceLE, Nat.reduceEqDiff, Nat.reduceAdd, reduceIte, reduceCtorEq, Nat.reduceLT, Nat.reduceLeDiff, eq_self, Option.bind_some, Option.map_some, List.map_cons, List.map_nil, List.length_cons, List.length_nil, Option.getD_some, Option.getD_none, List.all_cons, List.all_nil, List.set_cons_zero, List.set_cons_succ, List.replicate_succ, List.replicate_zero, List.getElem?_cons_zero, List.getElem?_cons_succ, List.drop_succ_cons, List.drop_zero, List.take_succ_cons, List.take_zero]
  · exact bool_eq (by simp at h; simp [h])
  · simp at h; simp; omega

theorem unless_s (ok : Bool) (e : Int) : Sound Tryd.prog 59 [.bool ok, .int .i64 e] (.int .i64 (if ok then 0 else e)) := by
  refine sound_W f_pulse_unless (Nat.le_of_ble_eq_true rfl) ?_
  simp only [c_pulse_unless, vcC, Int.reduceEq, Int.reduceNe, Int.reduceLT, Int.reduceLE, Nat.reduceEqDiff, Nat.reduceAdd, reduceIte, reduceCtorEq, Nat.reduceLT, Nat.reduceLeDiff, eq_self, Option.bind_some, Option.map_some, List.map_cons, List.map_nil, List.length_cons, List.length_nil, Option.getD_some, Option.getD_none, List.all_cons, List.all_nil, List.set_cons_zero, List.set_cons_succ, List.replicate_succ, List.replicate_zero, List.getElem?_cons_zero, List.getElem?_cons_succ, List.drop_succ_cons, List.drop_zero, List.take_succ_cons, List.take_zero]
  refine brB_split (fun h => ?_) (fun h => ?_) <;> subst h <;> simp only [vcC, Int.reduceEq, Int.reduceNe, Int.reduceLT, Int.reduceLE, Nat.reduceEqDiff, Nat.reduceAdd, reduceIte, reduceCtorEq, Nat.reduceLT, Nat.reduceLeDiff, eq_self, Option.bind_some, Option.map_some, List.map_cons, List.map_nil, List.length_cons, List.length_nil, Option.getD_some, Option.getD_none, List.all_cons, List.all_nil, List.set_cons_zero, List.set_cons_succ, List.replicate_succ, List.replicate_zero, List.getElem?_cons_zero, List.getElem?_cons_succ, List.drop_succ_cons, List.drop_zero, List.take_succ_cons, List.take_zero]

def firstErr (l : List Int) : Int := (l.find? (· ≠ 0)).getD 0

theorem first_s (l : List Int) (hl : l.length < 4000000000000000000) : Sound Tryd.prog 57 [.sl (ints l)] (.int .i64 (firstErr l)) := by
  refine sound_W f_pulse_first (Nat.le_of_ble_eq_true rfl) ?_
  simp only [c_pulse_first, vcC, Int.reduceEq, Int.reduceNe, Int.reduceLT, Int.reduceLE, Nat.reduceEqDiff, Nat.reduceAdd, reduceIte, reduceCtorEq, Nat.reduceLT, Nat.reduceLeDiff, eq_self, Option.bind_some, Option.map_some, List.map_cons, List.map_nil, List.length_cons, List.length_nil, Option.getD_some, Option.getD_none, List.all_cons, List.all_nil, List.set_cons_zero, List.set_cons_succ, List.replicate_succ, List.replicate_zero, List.getElem?_cons_zero, List.getElem?_cons_succ, List.drop_succ_cons, List.drop_zero, List.take_succ_cons, List.take_zero]
  refine W_loop (α := PSigma fun i : Nat => i ≤ l.length ∧ ∀ x ∈ l.take i, x = 0) (fun i => (envOf [(5, .sl (ints l)), (6, .int .i64 l.length), (7, .int .i64 i.1)], noStore)) (fun i => l.length - i.1) ⟨0, by simp⟩ (weakE _ ?_) (fun ⟨i, hi, hn⟩ => ?_)
  · simp only [vcC, Int.reduceEq, Int.reduceNe, Int.reduceLT, Int.reduceLE, Nat.reduceEqDiff, Nat.reduceAdd, reduceIte, reduceCtorEq, Nat.reduceLT, Nat.reduceLeDiff, eq_self, Option.bind_some, Option.map_some, List.map_cons, List.map_nil, List.length_cons, List.length_nil, Option.getD_some, Option.getD_none, List.all_cons, List.all_nil, List.set_cons_zero, List.set_cons_succ, List.replicate_succ, List.replicate_zero, List.getElem?_cons_zero, List.getElem?_cons_succ, List.drop_succ_cons, List.drop_zero, List.take_succ_cons, List.take_zero]; rfl
  · simp only [vcC, Int.reduceEq, Int.reduceNe, Int.reduceLT, Int.reduceLE, Nat.reduceEqDiff, Nat.reduceAdd, reduceIte, reduceCtorEq, Nat.reduceLT, Nat.reduceLeDiff, eq_self, Option.bind_some, Option.map_some, List.map_cons, List.map_nil, List.length_cons, List.length_nil, Option.getD_some, Option.getD_none, List.all_cons, List.all_nil, List.set_cons_zero, List.set_cons_succ, List.replicate_succ, List.replicate_zero, List.getElem?_cons_zero, List.getElem?_cons_succ, List.drop_succ_cons, List.drop_zero, List.take_succ_cons, List.take_zero]
    refine brB_split (fun h => ?_) (fun h => ?_)
    · have h' : i < l.length := by (simp only [decide_eq_true_eq, decide_eq_false_iff_not, Bool.not_true, I64, Bool.not_eq_true', Bool.not_eq_false', bne_iff_ne, beq_iff_eq, ne_eq] at *; omega)
      simp only [ints_get l i h', vcC, Int.reduceEq, Int.reduceNe, Int.reduceLT, Int.reduceLE, Nat.reduceEqDiff, Nat.reduceAdd, reduceIte, reduceCtorEq, Nat.reduceLT, Nat.reduceLeDiff, eq_self, Option.bind_some, Option.map_some, List.map_cons, List.map_nil, List.length_cons, List.length_nil, Option.getD_some, Option.getD_none, List.all_cons, List.all_nil, List.set_cons_zero, List.set_cons_succ, List.replicate_succ, List.replicate_zero, List.getElem?_cons_zero, List.getElem?_cons_succ, List.drop_succ_cons, List.drop_zero, List.take_succ_cons, List.take_zero]
      refine ⟨by omega, ?_⟩
      refine brB_split (fun h => ?_) (fun h => ?_)
      · simp only [vcC, Int.reduceEq, Int.reduceNe, Int.reduceLT, Int.reduceLE, Nat.reduceEqDiff, Nat.reduceAdd, reduceIte, reduceCtorEq, Nat.reduceLT, Nat.reduceLeDiff, eq_self, Option.bind_some, Option.map_some, List.map_cons, List.map_nil, List.length_cons, List.length_nil, Option.getD_some, Option.getD_none, List.all_cons, List.all_nil, List.set_cons_zero, List.set_cons_succ, List.replicate_succ, List.replicate_zero, List.getElem?_cons_zero, List.getElem?_cons_succ, List.drop_succ_cons, List.drop_zero, List.take_succ_cons, List.take_zero]
        have h0 : l[i] ≠ 0 := by simpa using h
        have hs : l.find? (· ≠ 0) = some l[i] := by
          rw [List.find?_eq_some_iff_getElem]
          exact ⟨by simpa using h0, i, h', rfl, fun j hj => by simp [hn l[j] (by rw [List.mem_take_iff_getElem]; exact ⟨j, by omega, rfl⟩)]⟩
        unfold firstErr
        rw [hs]; rfl
      · simp only [vcC, Int.reduceEq, Int.reduceNe, Int.reduceLT, Int.reduceLE, Nat.reduceEqDiff, Nat.reduceAdd, reduceIte, reduceCtorEq, Nat.reduceLT, Nat.reduceLeDiff, eq_self, Option.bind_some, Option.map_some, List.map_cons, List.map_nil, List.length_cons, List.length_nil, Option.getD_some, Option.getD_none, List.all_cons, List.all_nil, List.set_cons_zero, List.set_cons_succ, List.replicate_succ, List.replicate_zero, List.getElem?_cons_zero, List.getElem?_cons_succ, List.drop_succ_cons, List.drop_zero, List.take_succ_cons, List.take_zero]
        refine ⟨by (simp only [decide_eq_true_eq, decide_eq_false_iff_not, Bool.not_true, I64, Bool.not_eq_true', Bool.not_eq_false', bne_iff_ne, beq_iff_eq, ne_eq] at *; omega), ⟨i + 1, by omega, ?_⟩, by simp only; omega, weakE _ ?_⟩
        · rw [List.take_succ_eq_append_getElem h']
          intro x hx
          rcases List.mem_append.1 hx with hx | hx
          · exact hn x hx
          · simp at hx h; rw [hx, h]
        · simp only [vcC, Int.reduceEq, Int.reduceNe, Int.reduceLT, Int.reduceLE, Nat.reduceEqDiff, Nat.reduceAdd, reduceIte, reduceCtorEq, Nat.reduceLT, Nat.reduceLeDiff, eq_self, Option.bind_some, Option.map_some, List.map_cons, List.map_nil, List.length_cons, List.length_nil, Option.getD_some, Option.getD_none, List.all_cons, List.all_nil, List.set_cons_zero, List.set_cons_succ, List.replicate_succ, List.replicate_zero, List.getElem?_cons_zero, List.getElem?_cons_succ, List.drop_succ_cons, List.drop_zero, List.take_succ_cons, List.take_zero]; simp
    · simp only [vcC, Int.reduceEq, Int.reduceNe, Int.reduceLT, Int.reduceLE, Nat.reduceEqDiff, Nat.reduceAdd, reduceIte, reduceCtorEq, Nat.reduceLT, Nat.reduceLeDiff, eq_self, Option.bind_some, Option.map_some, List.map_cons, List.map_nil, List.length_cons, List.length_nil, Option.getD_some, Option.getD_none, List.all_cons, List.all_nil, List.set_cons_zero, List.set_cons_succ, List.replicate_succ, List.replicate_zero, List.getElem?_cons_zero, List.getElem?_cons_succ, List.drop_succ_cons, List.drop_zero, List.take_succ_cons, List.take_zero]
      have : i = l.length := by (simp only [decide_eq_true_eq, decide_eq_false_iff_not, Bool.not_true, I64, Bool.not_eq_true', Bool.not_eq_false', bne_iff_ne, beq_iff_eq, ne_eq] at *; omega)
      subst this
      unfold firstErr
      rw [List.take_length] at hn
      rw [List.find?_eq_none.2 (fun x hx => by simp [hn x hx])]
      rfl

/-- The first index where it holds, or -1. -/
def idxOf {α : Type} (l : List α) (p : α → Bool) : Int := match l.findIdx? p with
  | some i => i
  | none => -1

theorem map_fx1 {caps : List AV} (h : ∀ c ∈ caps, fx1 c = true) (s : Store) (n : Nat) : caps.map (bor s n) = caps := by
  conv => rhs; rw [← List.map_id caps]
  exact List.map_congr_left fun c hc => (fx1_spec (h c hc)).2 s n

theorem idxFunc_int_s (l : List Int) (f : FuncId) (caps : List AV) (p : Int → Bool) (hl : l.length < 4000000000000000000) (hc : ∀ c ∈ caps, fx1 c = true)
    (hp : ∀ x ∈ l, Sound Tryd.prog f (.int .i64 x :: caps) (.bool (p x))) : Sound Tryd.prog 91 [.sl (ints l), .fn f caps] (.int .i64 (idxOf l p)) := by
  refine sound_W f_slices_IndexFunc_int_int (Nat.le_of_ble_eq_true rfl) ?_
  simp only [c_slices_IndexFunc_int_int, vcC, Int.reduceEq, Int.reduceNe, Int.reduceLT, Int.reduceLE, Nat.reduceEqDiff, Nat.reduceAdd, reduceIte, reduceCtorEq, Nat.reduceLT, Nat.reduceLeDiff, eq_self, Option.bind_some, Option.map_some, List.map_cons, List.map_nil, List.length_cons, List.length_nil, Option.getD_some, Option.getD_none, List.all_cons, List.all_nil, List.set_cons_zero, List.set_cons_succ, List.replicate_succ, List.replicate_zero, List.getElem?_cons_zero, List.getElem?_cons_succ, List.drop_succ_cons, List.drop_zero, List.take_succ_cons, List.take_zero]
  refine W_loop (α := PSigma fun i : Nat => i ≤ l.length ∧ ∀ x ∈ l.take i, p x = false) (fun i => (envOf [(0, .sl (ints l)), (1, .fn f caps), (6, .sl (ints l)), (7, .int .i64 l.length), (8, .int .i64 i.1)], noStore)) (fun i => l.length - i.1) ⟨0, by simp⟩ (weakE _ ?_) (fun ⟨i, hi, hn⟩ => ?_)
  · simp only [vcC, Int.reduceEq, Int.reduceNe, Int.reduceLT, Int.reduceLE, Nat.reduceEqDiff, Nat.reduceAdd, reduceIte, reduceCtorEq, Nat.reduceLT, Nat.reduceLeDiff, eq_self, Option.bind_some, Option.map_some, List.map_cons, List.map_nil, List.length_cons, List.length_nil, Option.getD_some, Option.getD_none, List.all_cons, List.all_nil, List.set_cons_zero, List.set_cons_succ, List.replicate_succ, List.replicate_zero, List.getElem?_cons_zero, List.getElem?_cons_succ, List.drop_succ_cons, List.drop_zero, List.take_succ_cons, List.take_zero]; rfl
  · simp only [vcC, Int.reduceEq, Int.reduceNe, Int.reduceLT, Int.reduceLE, Nat.reduceEqDiff, Nat.reduceAdd, reduceIte, reduceCtorEq, Nat.reduceLT, Nat.reduceLeDiff, eq_self, Option.bind_some, Option.map_some, List.map_cons, List.map_nil, List.length_cons, List.length_nil, Option.getD_some, Option.getD_none, List.all_cons, List.all_nil, List.set_cons_zero, List.set_cons_succ, List.replicate_succ, List.replicate_zero, List.getElem?_cons_zero, List.getElem?_cons_succ, List.drop_succ_cons, List.drop_zero, List.take_succ_cons, List.take_zero]
    refine brB_split (fun h => ?_) (fun h => ?_)
    · have h' : i < l.length := by (simp only [decide_eq_true_eq, decide_eq_false_iff_not, Bool.not_true, I64, Bool.not_eq_true', Bool.not_eq_false', bne_iff_ne, beq_iff_eq, ne_eq] at *; omega)
      simp only [ints_get l i h', vcC, Int.reduceEq, Int.reduceNe, Int.reduceLT, Int.reduceLE, Nat.reduceEqDiff, Nat.reduceAdd, reduceIte, reduceCtorEq, Nat.reduceLT, Nat.reduceLeDiff, eq_self, Option.bind_some, Option.map_some, List.map_cons, List.map_nil, List.length_cons, List.length_nil, Option.getD_some, Option.getD_none, List.all_cons, List.all_nil, List.set_cons_zero, List.set_cons_succ, List.replicate_succ, List.replicate_zero, List.getElem?_cons_zero, List.getElem?_cons_succ, List.drop_succ_cons, List.drop_zero, List.take_succ_cons, List.take_zero]
      refine ⟨by omega, ?_⟩
      simp only [List.map_append, List.cons_append, List.nil_append, map_fx1 hc, vcC, Int.reduceEq, Int.reduceNe, Int.reduceLT, Int.reduceLE, Nat.reduceEqDiff, Nat.reduceAdd, reduceIte, reduceCtorEq, Nat.reduceLT, Nat.reduceLeDiff, eq_self, Option.bind_some, Option.map_some, List.map_cons, List.map_nil, List.length_cons, List.length_nil, Option.getD_some, Option.getD_none, List.all_cons, List.all_nil, List.set_cons_zero, List.set_cons_succ, List.replicate_succ, List.replicate_zero, List.getElem?_cons_zero, List.getElem?_cons_succ, List.drop_succ_cons, List.drop_zero, List.take_succ_cons, List.take_zero]
      refine callS_of (hp _ (List.getElem_mem h')) ?_
      simp only [vcC, Int.reduceEq, Int.reduceNe, Int.reduceLT, Int.reduceLE, Nat.reduceEqDiff, Nat.reduceAdd, reduceIte, reduceCtorEq, Nat.reduceLT, Nat.reduceLeDiff, eq_self, Option.bind_some, Option.map_some, List.map_cons, List.map_nil, List.length_cons, List.length_nil, Option.getD_some, Option.getD_none, List.all_cons, List.all_nil, List.set_cons_zero, List.set_cons_succ, List.replicate_succ, List.replicate_zero, List.getElem?_cons_zero, List.getElem?_cons_succ, List.drop_succ_cons, List.drop_zero, List.take_succ_cons, List.take_zero]
      refine brB_split (fun h => ?_) (fun h => ?_)
      · simp only [vcC, Int.reduceEq, Int.reduceNe, Int.reduceLT, Int.reduceLE, Nat.reduceEqDiff, Nat.reduceAdd, reduceIte, reduceCtorEq, Nat.reduceLT, Nat.reduceLeDiff, eq_self, Option.bind_some, Option.map_some, List.map_cons, List.map_nil, List.length_cons, List.length_nil, Option.getD_some, Option.getD_none, List.all_cons, List.all_nil, List.set_cons_zero, List.set_cons_succ, List.replicate_succ, List.replicate_zero, List.getElem?_cons_zero, List.getElem?_cons_succ, List.drop_succ_cons, List.drop_zero, List.take_succ_cons, List.take_zero]
        have hs : l.findIdx? p = some i := by
          rw [List.findIdx?_eq_some_iff_getElem]
          refine ⟨h', h, fun j hj => ?_⟩
          have := hn l[j] (by rw [List.mem_take_iff_getElem]; exact ⟨j, by omega, rfl⟩)
          simp [this]
        simp [idxOf, hs]
      · simp only [vcC, Int.reduceEq, Int.reduceNe, Int.reduceLT, Int.reduceLE, Nat.reduceEqDiff, Nat.reduceAdd, reduceIte, reduceCtorEq, Nat.reduceLT, Nat.reduceLeDiff, eq_self, Option.bind_some, Option.map_some, List.map_cons, List.map_nil, List.length_cons, List.length_nil, Option.getD_some, Option.getD_none, List.all_cons, List.all_nil, List.set_cons_zero, List.set_cons_succ, List.replicate_succ, List.replicate_zero, List.getElem?_cons_zero, List.getElem?_cons_succ, List.drop_succ_cons, List.drop_zero, List.take_succ_cons, List.take_zero]
        refine ⟨by (simp only [decide_eq_true_eq, decide_eq_false_iff_not, Bool.not_true, I64, Bool.not_eq_true', Bool.not_eq_false', bne_iff_ne, beq_iff_eq, ne_eq] at *; omega), ⟨i + 1, by omega, ?_⟩, by simp only; omega, weakE _ ?_⟩
        · rw [List.take_succ_eq_append_getElem h']
          intro x hx
          rcases List.mem_append.1 hx with hx | hx
          · exact hn x hx
          · simp at hx; rw [hx]; exact h
        · simp only [vcC, Int.reduceEq, Int.reduceNe, Int.reduceLT, Int.reduceLE, Nat.reduceEqDiff, Nat.reduceAdd, reduceIte, reduceCtorEq, Nat.reduceLT, Nat.reduceLeDiff, eq_self, Option.bind_some, Option.map_some, List.map_cons, List.map_nil, List.length_cons, List.length_nil, Option.getD_some, Option.getD_none, List.all_cons, List.all_nil, List.set_cons_zero, List.set_cons_succ, List.replicate_succ, List.replicate_zero, List.getElem?_cons_zero, List.getElem?_cons_succ, List.drop_succ_cons, List.drop_zero, List.take_succ_cons, List.take_zero]; simp
    · simp only [vcC, Int.reduceEq, Int.reduceNe, Int.reduceLT, Int.reduceLE, Nat.reduceEqDiff, Nat.reduceAdd, reduceIte, reduceCtorEq, Nat.reduceLT, Nat.reduceLeDiff, eq_self, Option.bind_some, Option.map_some, List.map_cons, List.map_nil, List.length_cons, List.length_nil, Option.getD_some, Option.getD_none, List.all_cons, List.all_nil, List.set_cons_zero, List.set_cons_succ, List.replicate_succ, List.replicate_zero, List.getElem?_cons_zero, List.getElem?_cons_succ, List.drop_succ_cons, List.drop_zero, List.take_succ_cons, List.take_zero]
      have : i = l.length := by (simp only [decide_eq_true_eq, decide_eq_false_iff_not, Bool.not_true, I64, Bool.not_eq_true', Bool.not_eq_false', bne_iff_ne, beq_iff_eq, ne_eq] at *; omega)
      subst this
      rw [List.take_length] at hn
      have hs : l.findIdx? p = none := List.findIdx?_eq_none_iff.2 hn
      simp [idxOf, hs]

theorem idxOf_any {α : Type} (l : List α) (p : α → Bool) : (decide (0 ≤ idxOf l p)) = l.any p := by
  unfold idxOf
  cases h : l.findIdx? p with
  | none =>
    rw [List.findIdx?_eq_none_iff] at h
    have : l.any p = false := by simpa using h
    rw [this]; rfl
  | some i =>
    rw [List.findIdx?_eq_some_iff_getElem] at h
    obtain ⟨hi, hp, _⟩ := h
    have : l.any p = true := List.any_eq_true.2 ⟨_, List.getElem_mem hi, hp⟩
    rw [this]; simp

theorem first2_s (a b : Int) : Sound Tryd.prog 57 [.sl [.int .i64 a, .int .i64 b]] (.int .i64 (if a ≠ 0 then a else b)) := by
  have h := first_s [a, b] (by simp)
  have e : firstErr [a, b] = if a ≠ 0 then a else b := by
    unfold firstErr
    by_cases ha : a = 0 <;> by_cases hb : b = 0 <;> simp [ha, hb]
  rw [e] at h
  exact h
end Go.Proofs.YtddiingfddlaaaaDoor

/- Samples and droops, in plain Lean. By an AI agent; nothing here is trusted. -/
namespace Go.Proofs.YtddiingfddlaaaaDoor
open Go.Av

/-- A sample; the error of samples, and the index that goes with it. -/
def smp (n : Int) : Bool := decide (-10000 ≤ n ∧ n ≤ 10000)
def smE (l : List Int) : Int := if l.length = 0 then 10 else if 24 < l.length then 8 else if l.all smp then 0 else 2
def smI (l : List Int) : Int := if smE l = 2 then idxOf l (fun n => !smp n) else 0
theorem smE_ok {l : List Int} (h : smE l = 0) : 1 ≤ l.length ∧ l.length ≤ 24 ∧ ∀ x ∈ l, -10000 ≤ x ∧ x ≤ 10000 := by
  unfold smE at h
  split at h
  · cases h
  · split at h
    · cases h
    · split at h
      · rename_i h1 h2 h3
        exact ⟨by omega, by omega, fun x hx => by have := List.all_eq_true.1 h3 x hx; simpa [smp] using this⟩
      · cases h
theorem smp_iff {n : Int} : smp n = true ↔ -10000 ≤ n ∧ n ≤ 10000 := by simp [smp]
structure Droop where
  leak : Int
  div : Int
def Droop.av (d : Droop) : AV := .agg [.int .i64 d.leak, .int .i64 d.div]
def Droop.ok (d : Droop) : Prop := (0 ≤ d.leak ∧ d.leak ≤ 1000) ∧ (1 ≤ d.div ∧ d.div ≤ 10000)
instance (d : Droop) : Decidable d.ok := by unfold Droop.ok; exact inferInstance
def Droop.e (d : Droop) : Int := if d.ok then 0 else 2

end Go.Proofs.YtddiingfddlaaaaDoor

/- Dead times and afterpulses, in plain Lean. By an AI agent; nothing here is trusted. -/
namespace Go.Proofs.YtddiingfddlaaaaDoor
open Go.Av

/-- The times that are kept of the first ones. -/
def kp (dead : Int) (l : List Int) : Nat → List Int
  | 0 => []
  | i + 1 => if kp dead l i = [] ∨ dead < l.getD i 0 - (kp dead l i).getLastD 0 then kp dead l i ++ [l.getD i 0] else kp dead l i
def kept (dead : Int) (l : List Int) : List Int := kp dead l l.length
theorem getD_at {l : List Int} {i : Nat} (h : i < l.length) : l.getD i 0 = l[i] := by simp [List.getD, List.getElem?_eq_getElem h]
end Go.Proofs.YtddiingfddlaaaaDoor

/- Hits: runs of samples from a threshold on, in plain Lean. By an AI agent; nothing here is trusted. -/
namespace Go.Proofs.YtddiingfddlaaaaDoor
open Go.Av

def inF (out : List (Int × Int)) (x : Int) : Prop := ∃ p ∈ out, p.1 ≤ x ∧ x ≤ p.2
/-- Runs of kept bins, the last one first. -/
def runR (kf : Nat → Bool) : Nat → List (Int × Int)
  | 0 => []
  | i + 1 => if kf i then (if i = 0 ∨ kf (i - 1) = false then ((i : Int), (i : Int)) :: runR kf i else match runR kf i with
    | [] => []
    | p :: rest => (p.1, (i : Int)) :: rest) else runR kf i
theorem runR_no {kf : Nat → Bool} {i : Nat} (h : kf i = false) : runR kf (i + 1) = runR kf i := by rw [runR, if_neg (by simp [h])]
theorem runR_new {kf : Nat → Bool} {i : Nat} (h : kf i = true) (h2 : i = 0 ∨ kf (i - 1) = false) : runR kf (i + 1) = ((i : Int), (i : Int)) :: runR kf i := by rw [runR, if_pos h, if_pos h2]
theorem runR_on {kf : Nat → Bool} {i : Nat} (h : kf i = true) (h2 : ¬ (i = 0 ∨ kf (i - 1) = false)) {p : Int × Int} {rest : List (Int × Int)} (hR : runR kf i = p :: rest) : runR kf (i + 1) = (p.1, (i : Int)) :: rest := by
  rw [runR, if_pos h, if_neg h2, hR]
theorem runR_ok (kf : Nat → Bool) : ∀ (i : Nat), (runR kf i).length ≤ i ∧ (∀ p ∈ runR kf i, 0 ≤ p.1 ∧ p.1 ≤ p.2 ∧ p.2 < i) ∧ (0 < i → kf (i - 1) = true → ∃ p rest, runR kf i = p :: rest ∧ p.2 = i - 1)
  | 0 => by simp [runR]
  | i + 1 => by
    obtain ⟨h1, h2, h3⟩ := runR_ok kf i
    by_cases hk : kf i = true
    · by_cases hn : i = 0 ∨ kf (i - 1) = false
      · rw [runR_new hk hn]
        refine ⟨by simp; omega, fun p hp => ?_, fun _ _ => ⟨_, _, rfl, by simp only; omega⟩⟩
        rcases List.mem_cons.1 hp with e | e
        · rw [e]; simp only; omega
        · have := h2 p e; omega
      · obtain ⟨p, rest, hR, hp⟩ := h3 (by omega) (by cases hq : kf (i - 1) with | true => rfl | false => exact absurd (.inr hq) hn)
        rw [runR_on hk hn hR]
        rw [hR] at h1 h2
        refine ⟨by simp at h1 ⊢; omega, fun q hq => ?_, fun _ _ => ⟨_, _, rfl, by simp only; omega⟩⟩
        rcases List.mem_cons.1 hq with e | e
        · have := h2 p List.mem_cons_self; rw [e]; simp only; omega
        · have := h2 q (List.mem_cons_of_mem _ e); omega
    · have hk' : kf i = false := by simpa using hk
      rw [runR_no hk']
      refine ⟨by omega, fun p hp => by have := h2 p hp; omega, fun _ h => ?_⟩
      rw [Nat.add_sub_cancel, hk'] at h; cases h

theorem inF_cons (p : Int × Int) (l : List (Int × Int)) (x : Int) : inF (p :: l) x ↔ (p.1 ≤ x ∧ x ≤ p.2) ∨ inF l x := by
  unfold inF
  constructor
  · rintro ⟨q, hq, h⟩
    rcases List.mem_cons.1 hq with e | e
    · subst e; exact .inl h
    · exact .inr ⟨q, e, h⟩
  · rintro (h | ⟨q, hq, h⟩)
    · exact ⟨p, List.mem_cons_self, h⟩
    · exact ⟨q, List.mem_cons_of_mem _ hq, h⟩
theorem runs_uniq : ∀ (A B : List (Int × Int)), (∀ p ∈ A, p.1 ≤ p.2) → (∀ p ∈ B, p.1 ≤ p.2) → (A.Pairwise fun p q => p.2 + 1 < q.1) → (B.Pairwise fun p q => p.2 + 1 < q.1) → (∀ x, inF A x ↔ inF B x) → A = B
  | [], [], _, _, _, _, _ => rfl
  | [], b :: B, _, hb, _, _, h => by
    have := (h b.1).2 ⟨b, List.mem_cons_self, Int.le_refl _, hb b List.mem_cons_self⟩
    obtain ⟨q, hq, _⟩ := this; cases hq
  | a :: A, [], ha, _, _, _, h => by
    have := (h a.1).1 ⟨a, List.mem_cons_self, Int.le_refl _, ha a List.mem_cons_self⟩
    obtain ⟨q, hq, _⟩ := this; cases hq
  | a :: A, b :: B, ha, hb, sa, sb, h => by
    obtain ⟨sa1, sa2⟩ := List.pairwise_cons.1 sa
    obtain ⟨sb1, sb2⟩ := List.pairwise_cons.1 sb
    have la := ha a List.mem_cons_self
    have lb := hb b List.mem_cons_self
    have la' : ∀ q ∈ A, a.2 + 1 < q.1 ∧ q.1 ≤ q.2 := fun q hq => ⟨sa1 q hq, ha q (List.mem_cons_of_mem _ hq)⟩
    have lb' : ∀ q ∈ B, b.2 + 1 < q.1 ∧ q.1 ≤ q.2 := fun q hq => ⟨sb1 q hq, hb q (List.mem_cons_of_mem _ hq)⟩
    have e1 : a.1 = b.1 := by
      have h1 := (h a.1).1 ⟨a, List.mem_cons_self, Int.le_refl _, la⟩
      have h2 := (h b.1).2 ⟨b, List.mem_cons_self, Int.le_refl _, lb⟩
      rw [inF_cons] at h1 h2
      have g1 : b.1 ≤ a.1 := by
        rcases h1 with h1 | ⟨q, hq, h1⟩
        · omega
        · have := lb' q hq; omega
      have g2 : a.1 ≤ b.1 := by
        rcases h2 with h2 | ⟨q, hq, h2⟩
        · omega
        · have := la' q hq; omega
      omega
    have e2 : a.2 = b.2 := by
      have g1 : ¬ a.2 < b.2 := by
        intro hlt
        have h1 := (h (a.2 + 1)).2 ⟨b, List.mem_cons_self, by omega, by omega⟩
        rw [inF_cons] at h1
        rcases h1 with h1 | ⟨q, hq, h1⟩
        · omega
        · have := la' q hq; omega
      have g2 : ¬ b.2 < a.2 := by
        intro hlt
        have h1 := (h (b.2 + 1)).1 ⟨a, List.mem_cons_self, by omega, by omega⟩
        rw [inF_cons] at h1
        rcases h1 with h1 | ⟨q, hq, h1⟩
        · omega
        · have := lb' q hq; omega
      omega
    have e : a = b := Prod.ext e1 e2
    subst e
    congr 1
    refine runs_uniq A B (fun p hp => ha p (List.mem_cons_of_mem _ hp)) (fun p hp => hb p (List.mem_cons_of_mem _ hp)) sa2 sb2 fun x => ?_
    have hx := h x
    rw [inF_cons, inF_cons] at hx
    constructor
    · rintro ⟨q, hq, h1⟩
      have := la' q hq
      rcases hx.1 (.inr ⟨q, hq, h1⟩) with h2 | h2
      · omega
      · exact h2
    · rintro ⟨q, hq, h1⟩
      have := lb' q hq
      rcases hx.2 (.inr ⟨q, hq, h1⟩) with h2 | h2
      · omega
      · exact h2
theorem runR_cov (kf : Nat → Bool) : ∀ (i : Nat), (∀ x : Int, inF (runR kf i) x ↔ ∃ y : Nat, x = y ∧ y < i ∧ kf y = true) ∧ (runR kf i).Pairwise fun p q => q.2 + 1 < p.1
  | 0 => ⟨fun x => by simp [runR, inF], by simp [runR]⟩
  | i + 1 => by
    obtain ⟨h1, h2⟩ := runR_cov kf i
    obtain ⟨o1, o2, o3⟩ := runR_ok kf i
    by_cases hk : kf i = true
    · have hsp : ∀ x : Int, (∃ y : Nat, x = y ∧ y < i + 1 ∧ kf y = true) ↔ ((∃ y : Nat, x = y ∧ y < i ∧ kf y = true) ∨ x = i) := by
        intro x
        constructor
        · rintro ⟨y, e, hy, ky⟩
          by_cases q : y = i
          · exact .inr (by omega)
          · exact .inl ⟨y, e, by omega, ky⟩
        · rintro (⟨y, e, hy, ky⟩ | e)
          · exact ⟨y, e, by omega, ky⟩
          · exact ⟨i, e, by omega, hk⟩
      by_cases hn : i = 0 ∨ kf (i - 1) = false
      · rw [runR_new hk hn]
        refine ⟨fun x => ?_, List.pairwise_cons.2 ⟨fun q hq => ?_, h2⟩⟩
        · rw [inF_cons, hsp, h1]
          constructor
          · rintro (h | h)
            · exact .inr (by simp only at h; omega)
            · exact .inl h
          · rintro (h | h)
            · exact .inr h
            · exact .inl (by simp only; omega)
        · have hq2 := o2 q hq
          rcases hn with e | e
          · omega
          · by_cases e2 : q.2 = i - 1
            · obtain ⟨y, e3, e4, e5⟩ := (h1 q.2).1 ⟨q, hq, hq2.2.1, Int.le_refl _⟩
              rw [show i - 1 = y by omega, e5] at e; cases e
            · simp only; omega
      · obtain ⟨p, rest, hR, hp⟩ := o3 (by omega) (by cases hq : kf (i - 1) with | true => rfl | false => exact absurd (.inr hq) hn)
        rw [runR_on hk hn hR]
        rw [hR] at h1 h2 o2
        have hpm := o2 p List.mem_cons_self
        obtain ⟨s1, s2⟩ := List.pairwise_cons.1 h2
        refine ⟨fun x => ?_, List.pairwise_cons.2 ⟨fun q hq => s1 q hq, s2⟩⟩
        rw [inF_cons, hsp, ← h1, inF_cons]
        constructor
        · rintro (h | h)
          · simp only at h
            by_cases e : x = i
            · exact .inr e
            · exact .inl (.inl (by omega))
          · exact .inl (.inr h)
        · rintro ((h | h) | h)
          · exact .inl (by simp only; omega)
          · exact .inr h
          · exact .inl (by simp only; omega)
    · have hk' : kf i = false := by simpa using hk
      rw [runR_no hk']
      refine ⟨fun x => ?_, h2⟩
      rw [h1]
      constructor
      · rintro ⟨y, e, hy, ky⟩; exact ⟨y, e, by omega, ky⟩
      · rintro ⟨y, e, hy, ky⟩
        have : y ≠ i := fun q => by rw [q, hk'] at ky; cases ky
        exact ⟨y, e, by omega, ky⟩

/-- Which indices are in a hit. -/
def hitK (l : List Int) (t : Int) (i : Nat) : Bool := decide (t ≤ l.getD i 0)
def hitsL (l : List Int) (t : Int) : List (Int × Int) := (runR (hitK l t) l.length).reverse

/-- The last index of a run, as the reference looks for it. -/
def endR (kf : Nat → Bool) (n i : Nat) : Nat → Nat
  | 0 => i
  | k + 1 => if endR kf n i k + 1 < n ∧ kf (endR kf n i k + 1) = true then endR kf n i k + 1 else endR kf n i k
theorem endR_stay {kf : Nat → Bool} {n i k : Nat} (h : ¬ (endR kf n i k + 1 < n ∧ kf (endR kf n i k + 1) = true)) : ∀ m, k ≤ m → endR kf n i m = endR kf n i k
  | 0, h0 => by rw [show k = 0 by omega]
  | m + 1, h0 => by
    by_cases e : k = m + 1
    · rw [e]
    · have ih := endR_stay h m (by omega)
      rw [endR, ih, if_neg h]
/-- All of a run is kept, and behind it nothing. -/
theorem endR_spec {kf : Nat → Bool} {n i : Nat} (hi : i < n) (hk : kf i = true) : i ≤ endR kf n i n ∧ endR kf n i n < n ∧ (∀ y, i ≤ y → y ≤ endR kf n i n → kf y = true) ∧ (endR kf n i n + 1 < n → kf (endR kf n i n + 1) = false) := by
  have key : ∀ k, i ≤ endR kf n i k ∧ endR kf n i k < n ∧ (∀ y, i ≤ y → y ≤ endR kf n i k → kf y = true) ∧ (endR kf n i k = i + k ∨ ¬ (endR kf n i k + 1 < n ∧ kf (endR kf n i k + 1) = true)) := by
    intro k
    induction k with
    | zero => exact ⟨Nat.le_refl _, hi, fun y h1 h2 => by have : y = i := by simp only [endR] at h2; omega
                                                          rw [this]; exact hk, .inl rfl⟩
    | succ k ih =>
      obtain ⟨h1, h2, h3, h4⟩ := ih
      by_cases hc : endR kf n i k + 1 < n ∧ kf (endR kf n i k + 1) = true
      · have e : endR kf n i (k + 1) = endR kf n i k + 1 := by rw [endR, if_pos hc]
        rw [e]
        refine ⟨by omega, by omega, fun y g1 g2 => ?_, ?_⟩
        · by_cases q : y = endR kf n i k + 1
          · rw [q]; exact hc.2
          · exact h3 y g1 (by omega)
        · rcases h4 with h4 | h4
          · left; omega
          · exact absurd hc h4
      · have e : endR kf n i (k + 1) = endR kf n i k := by rw [endR, if_neg hc]
        rw [e]
        exact ⟨h1, h2, h3, .inr hc⟩
  obtain ⟨h1, h2, h3, h4⟩ := key n
  refine ⟨h1, h2, h3, fun h => ?_⟩
  rcases h4 with h4 | h4
  · omega
  · cases hq : kf (endR kf n i n + 1) with
    | false => rfl
    | true => exact absurd ⟨h, hq⟩ h4
/-- The runs as the reference writes them. -/
def refR (kf : Nat → Bool) (n : Nat) : Nat → List (Int × Int)
  | 0 => []
  | i + 1 => if kf i = false ∨ (0 < i ∧ kf (i - 1) = true) then refR kf n i else refR kf n i ++ [((i : Int), (endR kf n i n : Int))]
theorem refR_mem {kf : Nat → Bool} {n : Nat} : ∀ {i : Nat} {p : Int × Int}, p ∈ refR kf n i → ∃ s : Nat, s < i ∧ p = ((s : Int), (endR kf n s n : Int)) ∧ kf s = true ∧ (s = 0 ∨ kf (s - 1) = false)
  | 0, p, h => by cases h
  | i + 1, p, h => by
    rw [refR] at h
    split at h
    · obtain ⟨s, h1, h2⟩ := refR_mem h
      exact ⟨s, by omega, h2⟩
    · rename_i hc
      rcases List.mem_append.1 h with e | e
      · obtain ⟨s, h1, h2⟩ := refR_mem e
        exact ⟨s, by omega, h2⟩
      · refine ⟨i, by omega, List.mem_singleton.1 e, ?_, ?_⟩
        · cases hq : kf i with
          | true => rfl
          | false => exact absurd (.inl hq) hc
        · by_cases e0 : i = 0
          · exact .inl e0
          · right
            cases hq : kf (i - 1) with
            | false => rfl
            | true => exact absurd (.inr ⟨by omega, hq⟩) hc
theorem refR_of {kf : Nat → Bool} {n s : Nat} (h1 : kf s = true) (h2 : s = 0 ∨ kf (s - 1) = false) : ∀ {i : Nat}, s < i → ((s : Int), (endR kf n s n : Int)) ∈ refR kf n i
  | 0, h => by omega
  | i + 1, h => by
    by_cases e : s = i
    · subst e
      rw [refR, if_neg]
      · exact List.mem_append_right _ (by simp)
      · rintro (q | ⟨q1, q2⟩)
        · rw [h1] at q; cases q
        · rcases h2 with h2 | h2
          · omega
          · rw [h2] at q2; cases q2
    · have := refR_of (n := n) h1 h2 (i := i) (by omega)
      rw [refR]
      split
      · exact this
      · exact List.mem_append_left _ this
theorem refR_cov {kf : Nat → Bool} {n : Nat} (x : Int) : inF (refR kf n n) x ↔ ∃ y : Nat, x = y ∧ y < n ∧ kf y = true := by
  constructor
  · rintro ⟨p, hp, h1, h2⟩
    obtain ⟨s, g1, g2, g3, _⟩ := refR_mem hp
    obtain ⟨e1, e2, e3, _⟩ := endR_spec g1 g3
    rw [g2] at h1 h2
    simp only at h1 h2
    exact ⟨x.toNat, by omega, by omega, e3 _ (by omega) (by omega)⟩
  · rintro ⟨y, rfl, hy, hk⟩
    have key : ∀ y, y < n → kf y = true → ∃ s, s ≤ y ∧ kf s = true ∧ (s = 0 ∨ kf (s - 1) = false) ∧ y ≤ endR kf n s n := by
      intro y
      induction y with
      | zero => intro h0 h1; exact ⟨0, Nat.le_refl _, h1, .inl rfl, Nat.zero_le _⟩
      | succ y ih =>
        intro h0 h1
        cases hq : kf y with
        | false => exact ⟨y + 1, Nat.le_refl _, h1, .inr (by simpa using hq), (endR_spec h0 h1).1⟩
        | true =>
          obtain ⟨s, g1, g2, g3, g4⟩ := ih (by omega) hq
          refine ⟨s, by omega, g2, g3, ?_⟩
          obtain ⟨e1, e2, e3, e4⟩ := endR_spec (show s < n by omega) g2
          by_cases q : y + 1 ≤ endR kf n s n
          · exact q
          · have : endR kf n s n = y := by omega
            rw [this] at e4
            rw [e4 h0] at h1; cases h1
    obtain ⟨s, g1, g2, g3, g4⟩ := key y hy hk
    exact ⟨_, refR_of (n := n) g2 g3 (show s < n by omega), by simp only; omega, by simp only; omega⟩
theorem refR_sep {kf : Nat → Bool} {n : Nat} : ∀ i, i ≤ n → (refR kf n i).Pairwise fun p q => p.2 + 1 < q.1
  | 0, _ => List.Pairwise.nil
  | i + 1, h => by
    have ih := refR_sep (kf := kf) (n := n) i (by omega)
    rw [refR]
    split
    · exact ih
    · rename_i hc
      rw [List.pairwise_append]
      refine ⟨ih, by simp, fun p hp q hq => ?_⟩
      rw [List.mem_singleton.1 hq]
      obtain ⟨s, g1, g2, g3, _⟩ := refR_mem hp
      obtain ⟨e1, e2, e3, _⟩ := endR_spec (show s < n by omega) g3
      rw [g2]
      simp only
      have hk0 : kf (i - 1) = false := by
        cases hq2 : kf (i - 1) with
        | false => rfl
        | true => exact absurd (.inr ⟨by omega, hq2⟩) hc
      by_cases hlt : endR kf n s n + 1 < i
      · omega
      · have := e3 (i - 1) (by omega) (by omega)
        rw [hk0] at this; cases this
theorem refR_eq (kf : Nat → Bool) (n : Nat) : refR kf n n = (runR kf n).reverse := by
  obtain ⟨c1, c2⟩ := runR_cov kf n
  obtain ⟨o1, o2, _⟩ := runR_ok kf n
  refine runs_uniq _ _ (fun p hp => ?_) (fun p hp => ?_) (refR_sep n (Nat.le_refl _)) (List.pairwise_reverse.2 c2) fun x => ?_
  · obtain ⟨s, g1, g2, g3, _⟩ := refR_mem hp
    obtain ⟨e1, _⟩ := endR_spec g1 g3
    rw [g2]; simp only; omega
  · exact (o2 p (List.mem_reverse.1 hp)).2.1
  · rw [refR_cov, ← c1]
    unfold inF
    simp only [List.mem_reverse]
theorem hitsL_cov (l : List Int) (t : Int) (i : Nat) (h : i < l.length) : inF (hitsL l t) i ↔ t ≤ l.getD i 0 := by
  have hc := (runR_cov (hitK l t) l.length).1 i
  unfold hitsL inF
  simp only [List.mem_reverse]
  refine hc.trans ⟨?_, fun hh => ⟨i, rfl, h, decide_eq_true hh⟩⟩
  rintro ⟨y, e, _, hk⟩
  have : i = y := by omega
  subst this
  exact of_decide_eq_true hk
theorem hitsL_len (l : List Int) (t : Int) : (hitsL l t).length ≤ l.length := by
  unfold hitsL; rw [List.length_reverse]; exact (runR_ok (hitK l t) l.length).1
theorem hitsL_mem {l : List Int} {t : Int} {p : Int × Int} (h : p ∈ hitsL l t) : 0 ≤ p.1 ∧ p.1 ≤ p.2 ∧ p.2 < l.length := (runR_ok (hitK l t) l.length).2.1 p (List.mem_reverse.1 h)
/-- With a greater threshold each hit is inside one. -/
theorem hitsL_in {l : List Int} {t t' : Int} (ht : t ≤ t') {p : Int × Int} (h : p ∈ hitsL l t') : ∃ q ∈ hitsL l t, q.1 ≤ p.1 ∧ p.2 ≤ q.2 := by
  obtain ⟨m1, m2, m3⟩ := hitsL_mem h
  have hin : ∀ y : Nat, p.1 ≤ y → (y : Int) ≤ p.2 → t ≤ l.getD y 0 := fun y h1 h2 => by
    have := (hitsL_cov l t' y (by omega)).1 ⟨p, h, h1, h2⟩
    omega
  have hsep : (hitsL l t).Pairwise fun p q => p.2 + 1 < q.1 := List.pairwise_reverse.2 (runR_cov (hitK l t) l.length).2
  have key : ∀ k : Nat, p.1 + k ≤ p.2 → ∃ q ∈ hitsL l t, q.1 ≤ p.1 ∧ p.1 + k ≤ q.2 := by
    intro k
    induction k with
    | zero =>
      intro hk
      obtain ⟨q, hq, h1, h2⟩ := (hitsL_cov l t p.1.toNat (by omega)).2 (hin _ (by omega) (by omega))
      exact ⟨q, hq, by omega, by omega⟩
    | succ k ih =>
      intro hk
      obtain ⟨q, hq, h1, h2⟩ := ih (by omega)
      obtain ⟨q', hq', g1, g2⟩ := (hitsL_cov l t (p.1 + (k + 1 : Nat)).toNat (by omega)).2 (hin _ (by omega) (by omega))
      by_cases e : p.1 + ((k + 1 : Nat) : Int) ≤ q.2
      · exact ⟨q, hq, h1, e⟩
      · exfalso
        have hne : q ≠ q' := fun e2 => by subst e2; omega
        have : q.2 + 1 < q'.1 ∨ q'.2 + 1 < q.1 := by
          obtain ⟨a, ha, ea⟩ := List.mem_iff_getElem.1 hq
          obtain ⟨b, hb, eb⟩ := List.mem_iff_getElem.1 hq'
          rcases Nat.lt_trichotomy a b with h | h | h
          · left; rw [← ea, ← eb]; exact List.pairwise_iff_getElem.1 hsep a b ha hb h
          · subst h; exact absurd (ea.symm.trans eb) hne
          · right; rw [← ea, ← eb]; exact List.pairwise_iff_getElem.1 hsep b a hb ha h
        omega
  obtain ⟨q, hq, h1, h2⟩ := key (p.2 - p.1).toNat (by omega)
  exact ⟨q, hq, h1, by omega⟩
end Go.Proofs.YtddiingfddlaaaaDoor

/- Contracts of the small functions of the base. By an AI agent; nothing here is trusted. -/
namespace Go.Proofs.YtddiingfddlaaaaDoor
open Go.Av

theorem Within_s (n lo hi : Int) : Sound Tryd.prog 13 [.int .i64 n, .int .i64 lo, .int .i64 hi] (.bool (decide (lo ≤ n ∧ n ≤ hi))) := by
  refine sound_W f_base_Within (Nat.le_of_ble_eq_true rfl) ?_
  simp only [c_base_Within, vcC, Int.reduceEq, Int.reduceNe, Int.reduceLT, Int.reduceLE, Nat.reduceEqDiff, Nat.reduceAdd, reduceIte, reduceCtorEq, Nat.reduceLT, Nat.reduceLeDiff, eq_self, Option.bind_some, Option.map_some, List.map_cons, List.map_nil, List.length_cons, List.length_nil, Option.getD_some, Option.getD_none, List.all_cons, List.all_nil, List.set_cons_zero, List.set_cons_succ, List.replicate_succ, List.replicate_zero, List.getElem?_cons_zero, List.getElem?_cons_succ, List.drop_succ_cons, List.drop_zero, List.take_succ_cons, List.take_zero]
  refine brB_split (fun h => ?_) (fun h => ?_) <;> simp only [h, vcC, Int.reduceEq, Int.reduceNe, Int.reduceLT, Int.reduceLE, Nat.reduceEqDiff, Nat.reduceAdd, reduceIte, reduceCtorEq, Nat.reduceLT, Nat.reduceLeDiff, eq_self, Option.bind_some, Option.map_some, List.map_cons, List.map_nil, List.length_cons, List.length_nil, Option.getD_some, Option.getD_none, List.all_cons, List.all_nil, List.set_cons_zero, List.set_cons_succ, List.replicate_succ, List.replicate_zero, List.getElem?_cons_zero, List.getElem?_cons_succ, List.drop_succ_cons, List.drop_zero, List.take_succ_cons, List.take_zero]
  · exact bool_eq (by simp at h; simp [h])
  · simp at h; simp; omega

end Go.Proofs.YtddiingfddlaaaaDoor

/- Contracts of the base: copies, comparisons, fractions. By an AI agent; nothing here is trusted. -/
namespace Go.Proofs.YtddiingfddlaaaaDoor
open Go.Av

theorem newsOk_ints (l : List Int) : newsOk 1 (ints l) := by
  intro x hx
  obtain ⟨n, _, rfl⟩ := List.mem_map.1 hx
  exact ⟨rfl, rfl⟩
theorem maxLen_big : 4000000000000 ≤ maxLen := by decide

theorem CopyInts_s (l : List Int) (hl : l.length ≤ 1000000000) : Sound Tryd.prog 15 [.sl (ints l)] (.sl (ints l)) := by
  refine sound_W f_base_CopyInts (Nat.le_of_ble_eq_true rfl) ?_
  have hm := maxLen_big
  simp only [c_base_CopyInts, vcV, vcD, Int.reduceEq, Int.reduceNe, Int.reduceLT, Int.reduceLE, Nat.reduceEqDiff, Nat.reduceAdd, reduceIte, reduceCtorEq, Nat.reduceLT, Nat.reduceLeDiff, eq_self, Option.bind_some, Option.map_some, List.map_cons, List.map_nil, List.length_cons, List.length_nil, Option.getD_some, Option.getD_none, List.all_cons, List.all_nil, List.set_cons_zero, List.set_cons_succ, List.replicate_succ, List.replicate_zero, List.getElem?_cons_zero, List.getElem?_cons_succ, List.drop_succ_cons, List.drop_zero, List.take_succ_cons, List.take_zero, List.map_append, List.nil_append, List.cons_append, Nat.reduceShiftRight, Nat.reduceMod]
  refine ⟨newsOk_ints l, ⟨by omega, by omega⟩, ?_⟩
  rw [borB_good _ _ _ _ _ (by simp [ints]) (ints_fx _)]

def S63 (n : Int) : Prop := -9223372036854775807 ≤ n ∧ n ≤ 9223372036854775807
end Go.Proofs.YtddiingfddlaaaaDoor

/- Lowest terms, gains and charges, in plain Lean. By an AI agent; nothing here is trusted. -/
namespace Go.Proofs.YtddiingfddlaaaaDoor
open Go.Av

end Go.Proofs.YtddiingfddlaaaaDoor

/- Contracts: samples, times, dead times. By an AI agent; nothing here is trusted. -/
namespace Go.Proofs.YtddiingfddlaaaaDoor
open Go.Av

theorem dec_iff {p q : Prop} [Decidable p] [Decidable q] (h : p ↔ q) : decide p = decide q := by
  by_cases hq : q
  · rw [decide_eq_true hq, decide_eq_true (h.2 hq)]
  · rw [decide_eq_false hq, decide_eq_false fun hp => hq (h.1 hp)]
theorem isSized_s (n most : Int) (hm : S63 most) : Sound Tryd.prog 97 [.int .i64 n, .int .i64 most] (.bool (decide (-most ≤ n ∧ n ≤ most))) := by
  refine sound_W f_pulse_isSized (Nat.le_of_ble_eq_true rfl) ?_
  unfold S63 at hm
  simp only [c_pulse_isSized, vcV, vcD, Int.reduceEq, Int.reduceNe, Int.reduceLT, Int.reduceLE, Nat.reduceEqDiff, Nat.reduceAdd, reduceIte, reduceCtorEq, Nat.reduceLT, Nat.reduceLeDiff, eq_self, Option.bind_some, Option.map_some, List.map_cons, List.map_nil, List.length_cons, List.length_nil, Option.getD_some, Option.getD_none, List.all_cons, List.all_nil, List.set_cons_zero, List.set_cons_succ, List.replicate_succ, List.replicate_zero, List.getElem?_cons_zero, List.getElem?_cons_succ, List.drop_succ_cons, List.drop_zero, List.take_succ_cons, List.take_zero, List.map_append, List.nil_append, List.cons_append, Nat.reduceShiftRight, Nat.reduceMod]
  refine ⟨by unfold I64; omega, ?_⟩
  refine callS_of (within_s _ _ _) ?_
  simp only [vcV, vcD, Int.reduceEq, Int.reduceNe, Int.reduceLT, Int.reduceLE, Nat.reduceEqDiff, Nat.reduceAdd, reduceIte, reduceCtorEq, Nat.reduceLT, Nat.reduceLeDiff, eq_self, Option.bind_some, Option.map_some, List.map_cons, List.map_nil, List.length_cons, List.length_nil, Option.getD_some, Option.getD_none, List.all_cons, List.all_nil, List.set_cons_zero, List.set_cons_succ, List.replicate_succ, List.replicate_zero, List.getElem?_cons_zero, List.getElem?_cons_succ, List.drop_succ_cons, List.drop_zero, List.take_succ_cons, List.take_zero, List.map_append, List.nil_append, List.cons_append, Nat.reduceShiftRight, Nat.reduceMod]
theorem isSample_s (n : Int) : Sound Tryd.prog 77 [.int .i64 n] (.bool (smp n)) := by
  refine sound_W f_pulse_isSample (Nat.le_of_ble_eq_true rfl) ?_
  simp only [c_pulse_isSample, vcV, vcD, Int.reduceEq, Int.reduceNe, Int.reduceLT, Int.reduceLE, Nat.reduceEqDiff, Nat.reduceAdd, reduceIte, reduceCtorEq, Nat.reduceLT, Nat.reduceLeDiff, eq_self, Option.bind_some, Option.map_some, List.map_cons, List.map_nil, List.length_cons, List.length_nil, Option.getD_some, Option.getD_none, List.all_cons, List.all_nil, List.set_cons_zero, List.set_cons_succ, List.replicate_succ, List.replicate_zero, List.getElem?_cons_zero, List.getElem?_cons_succ, List.drop_succ_cons, List.drop_zero, List.take_succ_cons, List.take_zero, List.map_append, List.nil_append, List.cons_append, Nat.reduceShiftRight, Nat.reduceMod]
  refine callS_of (isSized_s _ _ (by unfold S63; omega)) ?_
  simp only [vcV, vcD, Int.reduceEq, Int.reduceNe, Int.reduceLT, Int.reduceLE, Nat.reduceEqDiff, Nat.reduceAdd, reduceIte, reduceCtorEq, Nat.reduceLT, Nat.reduceLeDiff, eq_self, Option.bind_some, Option.map_some, List.map_cons, List.map_nil, List.length_cons, List.length_nil, Option.getD_some, Option.getD_none, List.all_cons, List.all_nil, List.set_cons_zero, List.set_cons_succ, List.replicate_succ, List.replicate_zero, List.getElem?_cons_zero, List.getElem?_cons_succ, List.drop_succ_cons, List.drop_zero, List.take_succ_cons, List.take_zero, List.map_append, List.nil_append, List.cons_append, Nat.reduceShiftRight, Nat.reduceMod]
  unfold smp
  exact bool_eq Iff.rfl
theorem IsSample_s (n : Int) : Sound Tryd.prog 47 [.int .i64 n] (.bool (smp n)) := by
  refine sound_W f_ref02_IsSample (Nat.le_of_ble_eq_true rfl) ?_
  simp only [c_ref02_IsSample, vcV, vcD, Int.reduceEq, Int.reduceNe, Int.reduceLT, Int.reduceLE, Nat.reduceEqDiff, Nat.reduceAdd, reduceIte, reduceCtorEq, Nat.reduceLT, Nat.reduceLeDiff, eq_self, Option.bind_some, Option.map_some, List.map_cons, List.map_nil, List.length_cons, List.length_nil, Option.getD_some, Option.getD_none, List.all_cons, List.all_nil, List.set_cons_zero, List.set_cons_succ, List.replicate_succ, List.replicate_zero, List.getElem?_cons_zero, List.getElem?_cons_succ, List.drop_succ_cons, List.drop_zero, List.take_succ_cons, List.take_zero, List.map_append, List.nil_append, List.cons_append, Nat.reduceShiftRight, Nat.reduceMod]
  refine callS_of (Within_s _ _ _) ?_
  simp only [vcV, vcD, Int.reduceEq, Int.reduceNe, Int.reduceLT, Int.reduceLE, Nat.reduceEqDiff, Nat.reduceAdd, reduceIte, reduceCtorEq, Nat.reduceLT, Nat.reduceLeDiff, eq_self, Option.bind_some, Option.map_some, List.map_cons, List.map_nil, List.length_cons, List.length_nil, Option.getD_some, Option.getD_none, List.all_cons, List.all_nil, List.set_cons_zero, List.set_cons_succ, List.replicate_succ, List.replicate_zero, List.getElem?_cons_zero, List.getElem?_cons_succ, List.drop_succ_cons, List.drop_zero, List.take_succ_cons, List.take_zero, List.map_append, List.nil_append, List.cons_append, Nat.reduceShiftRight, Nat.reduceMod]
  unfold smp
  exact bool_eq Iff.rfl
end Go.Proofs.YtddiingfddlaaaaDoor

/- Contracts: sums, lowest terms, gains, charges. By an AI agent; nothing here is trusted. -/
namespace Go.Proofs.YtddiingfddlaaaaDoor
open Go.Av

end Go.Proofs.YtddiingfddlaaaaDoor

/- Contracts: fits, charges, photons. By an AI agent; nothing here is trusted. -/
namespace Go.Proofs.YtddiingfddlaaaaDoor
open Go.Av

end Go.Proofs.YtddiingfddlaaaaDoor

/- Contracts: samples, droops, pedestals. By an AI agent; nothing here is trusted. -/
namespace Go.Proofs.YtddiingfddlaaaaDoor
open Go.Av

theorem samplesErr_1_s (n : Int) : Sound Tryd.prog 95 [.int .i64 n] (.bool (!smp n)) := by
  refine sound_W f_pulse_samplesErr_1 (Nat.le_of_ble_eq_true rfl) ?_
  simp only [c_pulse_samplesErr_1, vcV, vcD, Int.reduceEq, Int.reduceNe, Int.reduceLT, Int.reduceLE, Nat.reduceEqDiff, Nat.reduceAdd, reduceIte, reduceCtorEq, Nat.reduceLT, Nat.reduceLeDiff, eq_self, Option.bind_some, Option.map_some, List.map_cons, List.map_nil, List.length_cons, List.length_nil, Option.getD_some, Option.getD_none, List.all_cons, List.all_nil, List.set_cons_zero, List.set_cons_succ, List.replicate_succ, List.replicate_zero, List.getElem?_cons_zero, List.getElem?_cons_succ, List.drop_succ_cons, List.drop_zero, List.take_succ_cons, List.take_zero, List.map_append, List.nil_append, List.cons_append, Nat.reduceShiftRight, Nat.reduceMod]
  refine callS_of (isSample_s _) ?_
  simp only [vcV, vcD, Int.reduceEq, Int.reduceNe, Int.reduceLT, Int.reduceLE, Nat.reduceEqDiff, Nat.reduceAdd, reduceIte, reduceCtorEq, Nat.reduceLT, Nat.reduceLeDiff, eq_self, Option.bind_some, Option.map_some, List.map_cons, List.map_nil, List.length_cons, List.length_nil, Option.getD_some, Option.getD_none, List.all_cons, List.all_nil, List.set_cons_zero, List.set_cons_succ, List.replicate_succ, List.replicate_zero, List.getElem?_cons_zero, List.getElem?_cons_succ, List.drop_succ_cons, List.drop_zero, List.take_succ_cons, List.take_zero, List.map_append, List.nil_append, List.cons_append, Nat.reduceShiftRight, Nat.reduceMod]
theorem not_all (l : List Int) : (l.any fun n => !smp n) = !l.all smp := by rw [← List.not_all_eq_any_not]
theorem samplesErr_s (l : List Int) (hl : l.length < 4000000000000000000) : Sound Tryd.prog 69 [.sl (ints l)] (.tup [.int .i64 (smI l), .int .i64 (smE l)]) := by
  refine sound_W f_pulse_samplesErr (Nat.le_of_ble_eq_true rfl) ?_
  have hU := unless_s
  simp only [c_pulse_samplesErr, vcV, vcD, Int.reduceEq, Int.reduceNe, Int.reduceLT, Int.reduceLE, Nat.reduceEqDiff, Nat.reduceAdd, reduceIte, reduceCtorEq, Nat.reduceLT, Nat.reduceLeDiff, eq_self, Option.bind_some, Option.map_some, List.map_cons, List.map_nil, List.length_cons, List.length_nil, Option.getD_some, Option.getD_none, List.all_cons, List.all_nil, List.set_cons_zero, List.set_cons_succ, List.replicate_succ, List.replicate_zero, List.getElem?_cons_zero, List.getElem?_cons_succ, List.drop_succ_cons, List.drop_zero, List.take_succ_cons, List.take_zero, List.map_append, List.nil_append, List.cons_append, Nat.reduceShiftRight, Nat.reduceMod]
  refine callS_of (unless_s _ _) ?_
  simp only [vcV, vcD, Int.reduceEq, Int.reduceNe, Int.reduceLT, Int.reduceLE, Nat.reduceEqDiff, Nat.reduceAdd, reduceIte, reduceCtorEq, Nat.reduceLT, Nat.reduceLeDiff, eq_self, Option.bind_some, Option.map_some, List.map_cons, List.map_nil, List.length_cons, List.length_nil, Option.getD_some, Option.getD_none, List.all_cons, List.all_nil, List.set_cons_zero, List.set_cons_succ, List.replicate_succ, List.replicate_zero, List.getElem?_cons_zero, List.getElem?_cons_succ, List.drop_succ_cons, List.drop_zero, List.take_succ_cons, List.take_zero, List.map_append, List.nil_append, List.cons_append, Nat.reduceShiftRight, Nat.reduceMod]
  refine callS_of (unless_s _ _) ?_
  simp only [vcV, vcD, Int.reduceEq, Int.reduceNe, Int.reduceLT, Int.reduceLE, Nat.reduceEqDiff, Nat.reduceAdd, reduceIte, reduceCtorEq, Nat.reduceLT, Nat.reduceLeDiff, eq_self, Option.bind_some, Option.map_some, List.map_cons, List.map_nil, List.length_cons, List.length_nil, Option.getD_some, Option.getD_none, List.all_cons, List.all_nil, List.set_cons_zero, List.set_cons_succ, List.replicate_succ, List.replicate_zero, List.getElem?_cons_zero, List.getElem?_cons_succ, List.drop_succ_cons, List.drop_zero, List.take_succ_cons, List.take_zero, List.map_append, List.nil_append, List.cons_append, Nat.reduceShiftRight, Nat.reduceMod]
  refine callS_of (first2_s _ _) ?_
  by_cases h0 : l.length = 0
  · have h0' : ¬ (0 : Int) < l.length := by omega
    have he : smE l = 10 := by unfold smE; rw [if_pos h0]
    have hi : smI l = 0 := by unfold smI; rw [if_neg (by rw [he]; decide)]
    simp only [h0', he, hi, vcV, vcD, Int.reduceEq, Int.reduceNe, Int.reduceLT, Int.reduceLE, Nat.reduceEqDiff, Nat.reduceAdd, reduceIte, reduceCtorEq, Nat.reduceLT, Nat.reduceLeDiff, eq_self, Option.bind_some, Option.map_some, List.map_cons, List.map_nil, List.length_cons, List.length_nil, Option.getD_some, Option.getD_none, List.all_cons, List.all_nil, List.set_cons_zero, List.set_cons_succ, List.replicate_succ, List.replicate_zero, List.getElem?_cons_zero, List.getElem?_cons_succ, List.drop_succ_cons, List.drop_zero, List.take_succ_cons, List.take_zero, List.map_append, List.nil_append, List.cons_append, Nat.reduceShiftRight, Nat.reduceMod]
  have h0' : (0 : Int) < l.length := by omega
  by_cases h1 : 24 < l.length
  · have h1' : ¬ (l.length : Int) ≤ 24 := by omega
    have he : smE l = 8 := by unfold smE; rw [if_neg h0, if_pos h1]
    have hi : smI l = 0 := by unfold smI; rw [if_neg (by rw [he]; decide)]
    simp only [h0', h1', he, hi, vcV, vcD, Int.reduceEq, Int.reduceNe, Int.reduceLT, Int.reduceLE, Nat.reduceEqDiff, Nat.reduceAdd, reduceIte, reduceCtorEq, Nat.reduceLT, Nat.reduceLeDiff, eq_self, Option.bind_some, Option.map_some, List.map_cons, List.map_nil, List.length_cons, List.length_nil, Option.getD_some, Option.getD_none, List.all_cons, List.all_nil, List.set_cons_zero, List.set_cons_succ, List.replicate_succ, List.replicate_zero, List.getElem?_cons_zero, List.getElem?_cons_succ, List.drop_succ_cons, List.drop_zero, List.take_succ_cons, List.take_zero, List.map_append, List.nil_append, List.cons_append, Nat.reduceShiftRight, Nat.reduceMod]
  have h1' : (l.length : Int) ≤ 24 := by omega
  have hx := idxOf_any l (fun n => !smp n)
  rw [not_all] at hx
  simp only [h0', h1', vcV, vcD, Int.reduceEq, Int.reduceNe, Int.reduceLT, Int.reduceLE, Nat.reduceEqDiff, Nat.reduceAdd, reduceIte, reduceCtorEq, Nat.reduceLT, Nat.reduceLeDiff, eq_self, Option.bind_some, Option.map_some, List.map_cons, List.map_nil, List.length_cons, List.length_nil, Option.getD_some, Option.getD_none, List.all_cons, List.all_nil, List.set_cons_zero, List.set_cons_succ, List.replicate_succ, List.replicate_zero, List.getElem?_cons_zero, List.getElem?_cons_succ, List.drop_succ_cons, List.drop_zero, List.take_succ_cons, List.take_zero, List.map_append, List.nil_append, List.cons_append, Nat.reduceShiftRight, Nat.reduceMod]
  refine callS_of (idxFunc_int_s l _ [] (fun n => !smp n) hl (by simp) (fun x _ => samplesErr_1_s x)) ?_
  cases hall : l.all smp with
  | true =>
    rw [hall] at hx
    have hx' : ¬ 0 ≤ idxOf l (fun n => !smp n) := of_decide_eq_false hx
    have he : smE l = 0 := by unfold smE; rw [if_neg h0, if_neg h1, if_pos hall]
    have hi : smI l = 0 := by unfold smI; rw [if_neg (by rw [he]; decide)]
    simp only [hx', he, hi, vcV, vcD, Int.reduceEq, Int.reduceNe, Int.reduceLT, Int.reduceLE, Nat.reduceEqDiff, Nat.reduceAdd, reduceIte, reduceCtorEq, Nat.reduceLT, Nat.reduceLeDiff, eq_self, Option.bind_some, Option.map_some, List.map_cons, List.map_nil, List.length_cons, List.length_nil, Option.getD_some, Option.getD_none, List.all_cons, List.all_nil, List.set_cons_zero, List.set_cons_succ, List.replicate_succ, List.replicate_zero, List.getElem?_cons_zero, List.getElem?_cons_succ, List.drop_succ_cons, List.drop_zero, List.take_succ_cons, List.take_zero, List.map_append, List.nil_append, List.cons_append, Nat.reduceShiftRight, Nat.reduceMod]
  | false =>
    rw [hall] at hx
    have hx' : 0 ≤ idxOf l (fun n => !smp n) := of_decide_eq_true hx
    have he : smE l = 2 := by unfold smE; rw [if_neg h0, if_neg h1, if_neg (by rw [hall]; decide)]
    have hi : smI l = idxOf l (fun n => !smp n) := by unfold smI; rw [if_pos he]
    simp only [hx', he, hi, vcV, vcD, Int.reduceEq, Int.reduceNe, Int.reduceLT, Int.reduceLE, Nat.reduceEqDiff, Nat.reduceAdd, reduceIte, reduceCtorEq, Nat.reduceLT, Nat.reduceLeDiff, eq_self, Option.bind_some, Option.map_some, List.map_cons, List.map_nil, List.length_cons, List.length_nil, Option.getD_some, Option.getD_none, List.all_cons, List.all_nil, List.set_cons_zero, List.set_cons_succ, List.replicate_succ, List.replicate_zero, List.getElem?_cons_zero, List.getElem?_cons_succ, List.drop_succ_cons, List.drop_zero, List.take_succ_cons, List.take_zero, List.map_append, List.nil_append, List.cons_append, Nat.reduceShiftRight, Nat.reduceMod]
theorem sampled_s (l : List Int) (hl : l.length < 4000000000000000000) : Sound Tryd.prog 70 [.sl (ints l)] (.int .i64 (smE l)) := by
  refine sound_W f_pulse_sampled (Nat.le_of_ble_eq_true rfl) ?_
  simp only [c_pulse_sampled, vcV, vcD, Int.reduceEq, Int.reduceNe, Int.reduceLT, Int.reduceLE, Nat.reduceEqDiff, Nat.reduceAdd, reduceIte, reduceCtorEq, Nat.reduceLT, Nat.reduceLeDiff, eq_self, Option.bind_some, Option.map_some, List.map_cons, List.map_nil, List.length_cons, List.length_nil, Option.getD_some, Option.getD_none, List.all_cons, List.all_nil, List.set_cons_zero, List.set_cons_succ, List.replicate_succ, List.replicate_zero, List.getElem?_cons_zero, List.getElem?_cons_succ, List.drop_succ_cons, List.drop_zero, List.take_succ_cons, List.take_zero, List.map_append, List.nil_append, List.cons_append, Nat.reduceShiftRight, Nat.reduceMod]
  refine callS_of (samplesErr_s l hl) ?_
  simp only [vcV, vcD, Int.reduceEq, Int.reduceNe, Int.reduceLT, Int.reduceLE, Nat.reduceEqDiff, Nat.reduceAdd, reduceIte, reduceCtorEq, Nat.reduceLT, Nat.reduceLeDiff, eq_self, Option.bind_some, Option.map_some, List.map_cons, List.map_nil, List.length_cons, List.length_nil, Option.getD_some, Option.getD_none, List.all_cons, List.all_nil, List.set_cons_zero, List.set_cons_succ, List.replicate_succ, List.replicate_zero, List.getElem?_cons_zero, List.getElem?_cons_succ, List.drop_succ_cons, List.drop_zero, List.take_succ_cons, List.take_zero, List.map_append, List.nil_append, List.cons_append, Nat.reduceShiftRight, Nat.reduceMod]
theorem CheckSamples_s (l : List Int) : Sound Tryd.prog 31 [.sl (ints l)] (.tup [.int .i64 (smI l), .int .i64 (smE l)]) := by
  refine sound_W f_ref02_CheckSamples (Nat.le_of_ble_eq_true rfl) ?_
  simp only [c_ref02_CheckSamples, vcV, vcD, Int.reduceEq, Int.reduceNe, Int.reduceLT, Int.reduceLE, Nat.reduceEqDiff, Nat.reduceAdd, reduceIte, reduceCtorEq, Nat.reduceLT, Nat.reduceLeDiff, eq_self, Option.bind_some, Option.map_some, List.map_cons, List.map_nil, List.length_cons, List.length_nil, Option.getD_some, Option.getD_none, List.all_cons, List.all_nil, List.set_cons_zero, List.set_cons_succ, List.replicate_succ, List.replicate_zero, List.getElem?_cons_zero, List.getElem?_cons_succ, List.drop_succ_cons, List.drop_zero, List.take_succ_cons, List.take_zero, List.map_append, List.nil_append, List.cons_append, Nat.reduceShiftRight, Nat.reduceMod]
  by_cases h0 : l.length = 0
  · have h0' : (l.length : Int) = 0 := by omega
    have he : smE l = 10 := by unfold smE; rw [if_pos h0]
    have hi : smI l = 0 := by unfold smI; rw [if_neg (by rw [he]; decide)]
    simp only [h0', he, hi, vcV, vcD, Int.reduceEq, Int.reduceNe, Int.reduceLT, Int.reduceLE, Nat.reduceEqDiff, Nat.reduceAdd, reduceIte, reduceCtorEq, Nat.reduceLT, Nat.reduceLeDiff, eq_self, Option.bind_some, Option.map_some, List.map_cons, List.map_nil, List.length_cons, List.length_nil, Option.getD_some, Option.getD_none, List.all_cons, List.all_nil, List.set_cons_zero, List.set_cons_succ, List.replicate_succ, List.replicate_zero, List.getElem?_cons_zero, List.getElem?_cons_succ, List.drop_succ_cons, List.drop_zero, List.take_succ_cons, List.take_zero, List.map_append, List.nil_append, List.cons_append, Nat.reduceShiftRight, Nat.reduceMod]
  have h0' : ¬ (l.length : Int) = 0 := by omega
  simp only [h0', vcV, vcD, Int.reduceEq, Int.reduceNe, Int.reduceLT, Int.reduceLE, Nat.reduceEqDiff, Nat.reduceAdd, reduceIte, reduceCtorEq, Nat.reduceLT, Nat.reduceLeDiff, eq_self, Option.bind_some, Option.map_some, List.map_cons, List.map_nil, List.length_cons, List.length_nil, Option.getD_some, Option.getD_none, List.all_cons, List.all_nil, List.set_cons_zero, List.set_cons_succ, List.replicate_succ, List.replicate_zero, List.getElem?_cons_zero, List.getElem?_cons_succ, List.drop_succ_cons, List.drop_zero, List.take_succ_cons, List.take_zero, List.map_append, List.nil_append, List.cons_append, Nat.reduceShiftRight, Nat.reduceMod]
  by_cases h1 : 24 < l.length
  · have h1' : (24 : Int) < l.length := by omega
    have he : smE l = 8 := by unfold smE; rw [if_neg h0, if_pos h1]
    have hi : smI l = 0 := by unfold smI; rw [if_neg (by rw [he]; decide)]
    simp only [h1', he, hi, vcV, vcD, Int.reduceEq, Int.reduceNe, Int.reduceLT, Int.reduceLE, Nat.reduceEqDiff, Nat.reduceAdd, reduceIte, reduceCtorEq, Nat.reduceLT, Nat.reduceLeDiff, eq_self, Option.bind_some, Option.map_some, List.map_cons, List.map_nil, List.length_cons, List.length_nil, Option.getD_some, Option.getD_none, List.all_cons, List.all_nil, List.set_cons_zero, List.set_cons_succ, List.replicate_succ, List.replicate_zero, List.getElem?_cons_zero, List.getElem?_cons_succ, List.drop_succ_cons, List.drop_zero, List.take_succ_cons, List.take_zero, List.map_append, List.nil_append, List.cons_append, Nat.reduceShiftRight, Nat.reduceMod]
  have h1' : ¬ (24 : Int) < l.length := by omega
  simp only [h1', vcV, vcD, Int.reduceEq, Int.reduceNe, Int.reduceLT, Int.reduceLE, Nat.reduceEqDiff, Nat.reduceAdd, reduceIte, reduceCtorEq, Nat.reduceLT, Nat.reduceLeDiff, eq_self, Option.bind_some, Option.map_some, List.map_cons, List.map_nil, List.length_cons, List.length_nil, Option.getD_some, Option.getD_none, List.all_cons, List.all_nil, List.set_cons_zero, List.set_cons_succ, List.replicate_succ, List.replicate_zero, List.getElem?_cons_zero, List.getElem?_cons_succ, List.drop_succ_cons, List.drop_zero, List.take_succ_cons, List.take_zero, List.map_append, List.nil_append, List.cons_append, Nat.reduceShiftRight, Nat.reduceMod]
  refine W_loop (t := .mk) (α := PSigma fun i : Nat => i ≤ l.length ∧ (∀ x ∈ l.take i, smp x = true)) (fun ⟨i, _⟩ => ((envOf [(0, .sl (ints l)), (4, .int .i64 i)], stOf []))) (fun i => l.length - i.1) ⟨0, Nat.zero_le _, ?_⟩ ?_ (fun ⟨i, hi, hn⟩ => ?_)
  · intro x hx; simp at hx
  · refine weakX [] (of_decide_eq_true rfl) (of_decide_eq_true rfl) ?_
    (simp only [vcW, vcV, vcD, Int.reduceEq, Int.reduceNe, Int.reduceLT, Int.reduceLE, Nat.reduceEqDiff, Nat.reduceAdd, reduceIte, reduceCtorEq, Nat.reduceLT, Nat.reduceLeDiff, eq_self, Option.bind_some, Option.map_some, List.map_cons, List.map_nil, List.length_cons, List.length_nil, Option.getD_some, Option.getD_none, List.all_cons, List.all_nil, List.set_cons_zero, List.set_cons_succ, List.replicate_succ, List.replicate_zero, List.getElem?_cons_zero, List.getElem?_cons_succ, List.drop_succ_cons, List.drop_zero, List.take_succ_cons, List.take_zero, List.map_append, List.nil_append, List.cons_append, Nat.reduceShiftRight, Nat.reduceMod])
    (repeat' first | exact trivial | (with_reducible exact RnB.fxB (ints_fxB _)) | (with_reducible rfl) | (with_reducible refine And.intro ?_ ?_) | (with_reducible refine RnB.bb ?_; simp only [vcW, vcV, vcD, Int.reduceEq, Int.reduceNe, Int.reduceLT, Int.reduceLE, Nat.reduceEqDiff, Nat.reduceAdd, reduceIte, reduceCtorEq, Nat.reduceLT, Nat.reduceLeDiff, eq_self, Option.bind_some, Option.map_some, List.map_cons, List.map_nil, List.length_cons, List.length_nil, Option.getD_some, Option.getD_none, List.all_cons, List.all_nil, List.set_cons_zero, List.set_cons_succ, List.replicate_succ, List.replicate_zero, List.getElem?_cons_zero, List.getElem?_cons_succ, List.drop_succ_cons, List.drop_zero, List.take_succ_cons, List.take_zero, List.map_append, List.nil_append, List.cons_append, Nat.reduceShiftRight, Nat.reduceMod]) | (with_reducible refine RnB.nb ?_; simp only [vcW, vcV, vcD, Int.reduceEq, Int.reduceNe, Int.reduceLT, Int.reduceLE, Nat.reduceEqDiff, Nat.reduceAdd, reduceIte, reduceCtorEq, Nat.reduceLT, Nat.reduceLeDiff, eq_self, Option.bind_some, Option.map_some, List.map_cons, List.map_nil, List.length_cons, List.length_nil, Option.getD_some, Option.getD_none, List.all_cons, List.all_nil, List.set_cons_zero, List.set_cons_succ, List.replicate_succ, List.replicate_zero, List.getElem?_cons_zero, List.getElem?_cons_succ, List.drop_succ_cons, List.drop_zero, List.take_succ_cons, List.take_zero, List.map_append, List.nil_append, List.cons_append, Nat.reduceShiftRight, Nat.reduceMod]) | (with_reducible refine RnB.ii ?_) | (with_reducible refine RnB.app ?_) | (with_reducible refine RnB.fxB ?_; simp only [vcW, vcV, vcD, Int.reduceEq, Int.reduceNe, Int.reduceLT, Int.reduceLE, Nat.reduceEqDiff, Nat.reduceAdd, reduceIte, reduceCtorEq, Nat.reduceLT, Nat.reduceLeDiff, eq_self, Option.bind_some, Option.map_some, List.map_cons, List.map_nil, List.length_cons, List.length_nil, Option.getD_some, Option.getD_none, List.all_cons, List.all_nil, List.set_cons_zero, List.set_cons_succ, List.replicate_succ, List.replicate_zero, List.getElem?_cons_zero, List.getElem?_cons_succ, List.drop_succ_cons, List.drop_zero, List.take_succ_cons, List.take_zero, List.map_append, List.nil_append, List.cons_append, Nat.reduceShiftRight, Nat.reduceMod]) | omega)
  · by_cases h' : i < l.length
    · have h2 : (i : Int) < l.length := by omega
      simp only [h2, ints_get l i h', vcV, vcD, Int.reduceEq, Int.reduceNe, Int.reduceLT, Int.reduceLE, Nat.reduceEqDiff, Nat.reduceAdd, reduceIte, reduceCtorEq, Nat.reduceLT, Nat.reduceLeDiff, eq_self, Option.bind_some, Option.map_some, List.map_cons, List.map_nil, List.length_cons, List.length_nil, Option.getD_some, Option.getD_none, List.all_cons, List.all_nil, List.set_cons_zero, List.set_cons_succ, List.replicate_succ, List.replicate_zero, List.getElem?_cons_zero, List.getElem?_cons_succ, List.drop_succ_cons, List.drop_zero, List.take_succ_cons, List.take_zero, List.map_append, List.nil_append, List.cons_append, Nat.reduceShiftRight, Nat.reduceMod]
      refine ⟨by omega, ?_⟩
      refine callS_of (IsSample_s _) ?_
      cases hw : smp l[i] with
      | true =>
        simp only [vcV, vcD, Int.reduceEq, Int.reduceNe, Int.reduceLT, Int.reduceLE, Nat.reduceEqDiff, Nat.reduceAdd, reduceIte, reduceCtorEq, Nat.reduceLT, Nat.reduceLeDiff, eq_self, Option.bind_some, Option.map_some, List.map_cons, List.map_nil, List.length_cons, List.length_nil, Option.getD_some, Option.getD_none, List.all_cons, List.all_nil, List.set_cons_zero, List.set_cons_succ, List.replicate_succ, List.replicate_zero, List.getElem?_cons_zero, List.getElem?_cons_succ, List.drop_succ_cons, List.drop_zero, List.take_succ_cons, List.take_zero, List.map_append, List.nil_append, List.cons_append, Nat.reduceShiftRight, Nat.reduceMod]
        refine ⟨by unfold I64; omega, ⟨i + 1, h', ?_⟩, by simp only; omega, ?_⟩
        · rw [List.take_succ_eq_append_getElem h']
          intro x hx
          rcases List.mem_append.1 hx with e | e
          · exact hn x e
          · rw [List.mem_singleton.1 e]; exact hw
        · refine weakX [] (of_decide_eq_true rfl) (of_decide_eq_true rfl) ?_
          (simp only [vcW, vcV, vcD, Int.reduceEq, Int.reduceNe, Int.reduceLT, Int.reduceLE, Nat.reduceEqDiff, Nat.reduceAdd, reduceIte, reduceCtorEq, Nat.reduceLT, Nat.reduceLeDiff, eq_self, Option.bind_some, Option.map_some, List.map_cons, List.map_nil, List.length_cons, List.length_nil, Option.getD_some, Option.getD_none, List.all_cons, List.all_nil, List.set_cons_zero, List.set_cons_succ, List.replicate_succ, List.replicate_zero, List.getElem?_cons_zero, List.getElem?_cons_succ, List.drop_succ_cons, List.drop_zero, List.take_succ_cons, List.take_zero, List.map_append, List.nil_append, List.cons_append, Nat.reduceShiftRight, Nat.reduceMod])
          (repeat' first | exact trivial | (with_reducible exact RnB.fxB (ints_fxB _)) | (with_reducible rfl) | (with_reducible refine And.intro ?_ ?_) | (with_reducible refine RnB.bb ?_; simp only [vcW, vcV, vcD, Int.reduceEq, Int.reduceNe, Int.reduceLT, Int.reduceLE, Nat.reduceEqDiff, Nat.reduceAdd, reduceIte, reduceCtorEq, Nat.reduceLT, Nat.reduceLeDiff, eq_self, Option.bind_some, Option.map_some, List.map_cons, List.map_nil, List.length_cons, List.length_nil, Option.getD_some, Option.getD_none, List.all_cons, List.all_nil, List.set_cons_zero, List.set_cons_succ, List.replicate_succ, List.replicate_zero, List.getElem?_cons_zero, List.getElem?_cons_succ, List.drop_succ_cons, List.drop_zero, List.take_succ_cons, List.take_zero, List.map_append, List.nil_append, List.cons_append, Nat.reduceShiftRight, Nat.reduceMod]) | (with_reducible refine RnB.nb ?_; simp only [vcW, vcV, vcD, Int.reduceEq, Int.reduceNe, Int.reduceLT, Int.reduceLE, Nat.reduceEqDiff, Nat.reduceAdd, reduceIte, reduceCtorEq, Nat.reduceLT, Nat.reduceLeDiff, eq_self, Option.bind_some, Option.map_some, List.map_cons, List.map_nil, List.length_cons, List.length_nil, Option.getD_some, Option.getD_none, List.all_cons, List.all_nil, List.set_cons_zero, List.set_cons_succ, List.replicate_succ, List.replicate_zero, List.getElem?_cons_zero, List.getElem?_cons_succ, List.drop_succ_cons, List.drop_zero, List.take_succ_cons, List.take_zero, List.map_append, List.nil_append, List.cons_append, Nat.reduceShiftRight, Nat.reduceMod]) | (with_reducible refine RnB.ii ?_) | (with_reducible refine RnB.app ?_) | (with_reducible refine RnB.fxB ?_; simp only [vcW, vcV, vcD, Int.reduceEq, Int.reduceNe, Int.reduceLT, Int.reduceLE, Nat.reduceEqDiff, Nat.reduceAdd, reduceIte, reduceCtorEq, Nat.reduceLT, Nat.reduceLeDiff, eq_self, Option.bind_some, Option.map_some, List.map_cons, List.map_nil, List.length_cons, List.length_nil, Option.getD_some, Option.getD_none, List.all_cons, List.all_nil, List.set_cons_zero, List.set_cons_succ, List.replicate_succ, List.replicate_zero, List.getElem?_cons_zero, List.getElem?_cons_succ, List.drop_succ_cons, List.drop_zero, List.take_succ_cons, List.take_zero, List.map_append, List.nil_append, List.cons_append, Nat.reduceShiftRight, Nat.reduceMod]) | omega)
      | false =>
        have he : smE l = 2 := by
          unfold smE
          rw [if_neg h0, if_neg h1, if_neg]
          intro hall
          have := List.all_eq_true.1 hall _ (List.getElem_mem h')
          rw [hw] at this; cases this
        have hs : l.findIdx? (fun n => !smp n) = some i := by
          rw [List.findIdx?_eq_some_iff_getElem]
          refine ⟨h', by rw [hw]; rfl, fun j hj => ?_⟩
          have := hn l[j] (by rw [List.mem_take_iff_getElem]; exact ⟨j, by omega, rfl⟩)
          simp [this]
        have hi : smI l = i := by unfold smI idxOf; rw [if_pos he, hs]
        simp only [he, hi, vcV, vcD, Int.reduceEq, Int.reduceNe, Int.reduceLT, Int.reduceLE, Nat.reduceEqDiff, Nat.reduceAdd, reduceIte, reduceCtorEq, Nat.reduceLT, Nat.reduceLeDiff, eq_self, Option.bind_some, Option.map_some, List.map_cons, List.map_nil, List.length_cons, List.length_nil, Option.getD_some, Option.getD_none, List.all_cons, List.all_nil, List.set_cons_zero, List.set_cons_succ, List.replicate_succ, List.replicate_zero, List.getElem?_cons_zero, List.getElem?_cons_succ, List.drop_succ_cons, List.drop_zero, List.take_succ_cons, List.take_zero, List.map_append, List.nil_append, List.cons_append, Nat.reduceShiftRight, Nat.reduceMod]
    · have h2 : ¬ (i : Int) < l.length := by omega
      have hin : i = l.length := by omega
      subst hin
      rw [List.take_length] at hn
      have he : smE l = 0 := by unfold smE; rw [if_neg h0, if_neg h1, if_pos (List.all_eq_true.2 hn)]
      have hi : smI l = 0 := by unfold smI; rw [if_neg (by rw [he]; decide)]
      simp only [h2, he, hi, vcV, vcD, Int.reduceEq, Int.reduceNe, Int.reduceLT, Int.reduceLE, Nat.reduceEqDiff, Nat.reduceAdd, reduceIte, reduceCtorEq, Nat.reduceLT, Nat.reduceLeDiff, eq_self, Option.bind_some, Option.map_some, List.map_cons, List.map_nil, List.length_cons, List.length_nil, Option.getD_some, Option.getD_none, List.all_cons, List.all_nil, List.set_cons_zero, List.set_cons_succ, List.replicate_succ, List.replicate_zero, List.getElem?_cons_zero, List.getElem?_cons_succ, List.drop_succ_cons, List.drop_zero, List.take_succ_cons, List.take_zero, List.map_append, List.nil_append, List.cons_append, Nat.reduceShiftRight, Nat.reduceMod]
theorem SamplesErr_s (l : List Int) : Sound Tryd.prog 22 [.sl (ints l)] (.int .i64 (smE l)) := by
  refine sound_W f_ref02_SamplesErr (Nat.le_of_ble_eq_true rfl) ?_
  simp only [c_ref02_SamplesErr, vcV, vcD, Int.reduceEq, Int.reduceNe, Int.reduceLT, Int.reduceLE, Nat.reduceEqDiff, Nat.reduceAdd, reduceIte, reduceCtorEq, Nat.reduceLT, Nat.reduceLeDiff, eq_self, Option.bind_some, Option.map_some, List.map_cons, List.map_nil, List.length_cons, List.length_nil, Option.getD_some, Option.getD_none, List.all_cons, List.all_nil, List.set_cons_zero, List.set_cons_succ, List.replicate_succ, List.replicate_zero, List.getElem?_cons_zero, List.getElem?_cons_succ, List.drop_succ_cons, List.drop_zero, List.take_succ_cons, List.take_zero, List.map_append, List.nil_append, List.cons_append, Nat.reduceShiftRight, Nat.reduceMod]
  refine callS_of (CheckSamples_s l) ?_
  simp only [vcV, vcD, Int.reduceEq, Int.reduceNe, Int.reduceLT, Int.reduceLE, Nat.reduceEqDiff, Nat.reduceAdd, reduceIte, reduceCtorEq, Nat.reduceLT, Nat.reduceLeDiff, eq_self, Option.bind_some, Option.map_some, List.map_cons, List.map_nil, List.length_cons, List.length_nil, Option.getD_some, Option.getD_none, List.all_cons, List.all_nil, List.set_cons_zero, List.set_cons_succ, List.replicate_succ, List.replicate_zero, List.getElem?_cons_zero, List.getElem?_cons_succ, List.drop_succ_cons, List.drop_zero, List.take_succ_cons, List.take_zero, List.map_append, List.nil_append, List.cons_append, Nat.reduceShiftRight, Nat.reduceMod]
end Go.Proofs.YtddiingfddlaaaaDoor

/- Contracts: dead times and afterpulses. By an AI agent; nothing here is trusted. -/
namespace Go.Proofs.YtddiingfddlaaaaDoor
open Go.Av

end Go.Proofs.YtddiingfddlaaaaDoor

/- Contracts: hits, joined ranges. By an AI agent; nothing here is trusted. -/
namespace Go.Proofs.YtddiingfddlaaaaDoor
open Go.Av

theorem snoc_get {α : Type} (l : List α) (x : α) (k : Nat) (h : l.length = k) : (l ++ [x])[k]? = some x := by subst h; simp
theorem snoc_set {α : Type} (l : List α) (x y : α) (k : Nat) (h : l.length = k) : (l ++ [x]).set k y = l ++ [y] := by subst h; simp
theorem prs_fxB (l : List (Int × Int)) : (prs l).all fx = true := List.all_eq_true.2 (prs_fx l)
theorem prs_append (a b : List (Int × Int)) : prs (a ++ b) = prs a ++ prs b := by simp [prs]
theorem prs_rev (p : Int × Int) (R : List (Int × Int)) : prs (p :: R).reverse = prs R.reverse ++ [.agg [.int .i64 p.1, .int .i64 p.2]] := by
  rw [List.reverse_cons, prs_append]; rfl
theorem refR_len (kf : Nat → Bool) (n : Nat) : ∀ i, (refR kf n i).length ≤ i
  | 0 => Nat.le_refl _
  | i + 1 => by
    have := refR_len kf n i
    rw [refR]; split <;> simp <;> omega
def htE (l : List Int) (t : Int) : Int := if smE l ≠ 0 then smE l else if smp t then 0 else 2
def htO (l : List Int) (t : Int) : List (Int × Int) := if htE l t = 0 then hitsL l t else []
theorem htE_ok {l : List Int} {t : Int} (h : htE l t = 0) : smE l = 0 ∧ smp t = true := by
  unfold htE at h
  split at h
  · contradiction
  · rename_i hq
    split at h
    · exact ⟨by simpa using hq, by assumption⟩
    · cases h
theorem HitsOf_s (l : List Int) (t : Int) (hl : l.length < 4000000000000000000) : Sound Tryd.prog 46 [.sl (ints l), .int .i64 t] (.tup [.sl (prs (htO l t)), .int .i64 (htE l t)]) := by
  refine sound_W f_pulse_HitsOf (Nat.le_of_ble_eq_true rfl) ?_
  have hmax := maxLen_big
  simp only [c_pulse_HitsOf, vcV, vcD, Int.reduceEq, Int.reduceNe, Int.reduceLT, Int.reduceLE, Nat.reduceEqDiff, Nat.reduceAdd, reduceIte, reduceCtorEq, Nat.reduceLT, Nat.reduceLeDiff, eq_self, Option.bind_some, Option.map_some, List.map_cons, List.map_nil, List.length_cons, List.length_nil, Option.getD_some, Option.getD_none, List.all_cons, List.all_nil, List.set_cons_zero, List.set_cons_succ, List.replicate_succ, List.replicate_zero, List.getElem?_cons_zero, List.getElem?_cons_succ, List.drop_succ_cons, List.drop_zero, List.take_succ_cons, List.take_zero, List.map_append, List.nil_append, List.cons_append, Nat.reduceShiftRight, Nat.reduceMod]
  refine callS_of (sampled_s l hl) ?_
  simp only [vcV, vcD, Int.reduceEq, Int.reduceNe, Int.reduceLT, Int.reduceLE, Nat.reduceEqDiff, Nat.reduceAdd, reduceIte, reduceCtorEq, Nat.reduceLT, Nat.reduceLeDiff, eq_self, Option.bind_some, Option.map_some, List.map_cons, List.map_nil, List.length_cons, List.length_nil, Option.getD_some, Option.getD_none, List.all_cons, List.all_nil, List.set_cons_zero, List.set_cons_succ, List.replicate_succ, List.replicate_zero, List.getElem?_cons_zero, List.getElem?_cons_succ, List.drop_succ_cons, List.drop_zero, List.take_succ_cons, List.take_zero, List.map_append, List.nil_append, List.cons_append, Nat.reduceShiftRight, Nat.reduceMod]
  refine callS_of (isSample_s _) ?_
  simp only [vcV, vcD, Int.reduceEq, Int.reduceNe, Int.reduceLT, Int.reduceLE, Nat.reduceEqDiff, Nat.reduceAdd, reduceIte, reduceCtorEq, Nat.reduceLT, Nat.reduceLeDiff, eq_self, Option.bind_some, Option.map_some, List.map_cons, List.map_nil, List.length_cons, List.length_nil, Option.getD_some, Option.getD_none, List.all_cons, List.all_nil, List.set_cons_zero, List.set_cons_succ, List.replicate_succ, List.replicate_zero, List.getElem?_cons_zero, List.getElem?_cons_succ, List.drop_succ_cons, List.drop_zero, List.take_succ_cons, List.take_zero, List.map_append, List.nil_append, List.cons_append, Nat.reduceShiftRight, Nat.reduceMod]
  refine callS_of (unless_s _ _) ?_
  simp only [vcV, vcD, Int.reduceEq, Int.reduceNe, Int.reduceLT, Int.reduceLE, Nat.reduceEqDiff, Nat.reduceAdd, reduceIte, reduceCtorEq, Nat.reduceLT, Nat.reduceLeDiff, eq_self, Option.bind_some, Option.map_some, List.map_cons, List.map_nil, List.length_cons, List.length_nil, Option.getD_some, Option.getD_none, List.all_cons, List.all_nil, List.set_cons_zero, List.set_cons_succ, List.replicate_succ, List.replicate_zero, List.getElem?_cons_zero, List.getElem?_cons_succ, List.drop_succ_cons, List.drop_zero, List.take_succ_cons, List.take_zero, List.map_append, List.nil_append, List.cons_append, Nat.reduceShiftRight, Nat.reduceMod]
  refine callS_of (first2_s _ _) ?_
  have he : (if smE l ≠ 0 then smE l else if smp t = true then 0 else 2) = htE l t := rfl
  rw [he]
  by_cases h0 : htE l t = 0
  case neg =>
    have hO : htO l t = [] := by unfold htO; rw [if_neg h0]
    simp only [h0, hO, vcV, vcD, Int.reduceEq, Int.reduceNe, Int.reduceLT, Int.reduceLE, Nat.reduceEqDiff, Nat.reduceAdd, reduceIte, reduceCtorEq, Nat.reduceLT, Nat.reduceLeDiff, eq_self, Option.bind_some, Option.map_some, List.map_cons, List.map_nil, List.length_cons, List.length_nil, Option.getD_some, Option.getD_none, List.all_cons, List.all_nil, List.set_cons_zero, List.set_cons_succ, List.replicate_succ, List.replicate_zero, List.getElem?_cons_zero, List.getElem?_cons_succ, List.drop_succ_cons, List.drop_zero, List.take_succ_cons, List.take_zero, List.map_append, List.nil_append, List.cons_append, Nat.reduceShiftRight, Nat.reduceMod]
    rfl
  obtain ⟨h2, ht⟩ := htE_ok h0
  obtain ⟨g1, g2, h3⟩ := smE_ok h2
  have hO : htO l t = (runR (hitK l t) l.length).reverse := by unfold htO; rw [if_pos h0]; rfl
  rw [hO, h0]
  simp only [vcV, vcD, Int.reduceEq, Int.reduceNe, Int.reduceLT, Int.reduceLE, Nat.reduceEqDiff, Nat.reduceAdd, reduceIte, reduceCtorEq, Nat.reduceLT, Nat.reduceLeDiff, eq_self, Option.bind_some, Option.map_some, List.map_cons, List.map_nil, List.length_cons, List.length_nil, Option.getD_some, Option.getD_none, List.all_cons, List.all_nil, List.set_cons_zero, List.set_cons_succ, List.replicate_succ, List.replicate_zero, List.getElem?_cons_zero, List.getElem?_cons_succ, List.drop_succ_cons, List.drop_zero, List.take_succ_cons, List.take_zero, List.map_append, List.nil_append, List.cons_append, Nat.reduceShiftRight, Nat.reduceMod]
  refine W_loop (t := .mk) (α := PSigma fun i : Nat => i ≤ l.length) (fun ⟨i, _⟩ => (envOf [(1, .int .i64 t), (7, .buf 100 (runR (hitK l t) i).length), (21, .sl (ints l)), (22, .int .i64 l.length), (23, .int .i64 i)], stOf [(100, ⟨54, 2, prs (runR (hitK l t) i).reverse⟩)])) (fun p => l.length - p.1) ⟨0, Nat.zero_le _⟩ ?_ (fun ⟨i, hi⟩ => ?_)
  · have z1 : prs (runR (hitK l t) 0).reverse = [] := rfl
    have z2 : (runR (hitK l t) 0).length = 0 := rfl
    refine weakX [(100, none)] (of_decide_eq_true rfl) (of_decide_eq_true rfl) ?_
    (simp only [z1, z2, vcW, vcV, vcD, Int.reduceEq, Int.reduceNe, Int.reduceLT, Int.reduceLE, Nat.reduceEqDiff, Nat.reduceAdd, reduceIte, reduceCtorEq, Nat.reduceLT, Nat.reduceLeDiff, eq_self, Option.bind_some, Option.map_some, List.map_cons, List.map_nil, List.length_cons, List.length_nil, Option.getD_some, Option.getD_none, List.all_cons, List.all_nil, List.set_cons_zero, List.set_cons_succ, List.replicate_succ, List.replicate_zero, List.getElem?_cons_zero, List.getElem?_cons_succ, List.drop_succ_cons, List.drop_zero, List.take_succ_cons, List.take_zero, List.map_append, List.nil_append, List.cons_append, Nat.reduceShiftRight, Nat.reduceMod])
    (repeat' first | exact trivial | (with_reducible exact RnB.fxB (ints_fxB _)) | (with_reducible rfl) | (with_reducible refine And.intro ?_ ?_) | (with_reducible refine RnB.bb ?_; simp only [vcW, vcV, vcD, Int.reduceEq, Int.reduceNe, Int.reduceLT, Int.reduceLE, Nat.reduceEqDiff, Nat.reduceAdd, reduceIte, reduceCtorEq, Nat.reduceLT, Nat.reduceLeDiff, eq_self, Option.bind_some, Option.map_some, List.map_cons, List.map_nil, List.length_cons, List.length_nil, Option.getD_some, Option.getD_none, List.all_cons, List.all_nil, List.set_cons_zero, List.set_cons_succ, List.replicate_succ, List.replicate_zero, List.getElem?_cons_zero, List.getElem?_cons_succ, List.drop_succ_cons, List.drop_zero, List.take_succ_cons, List.take_zero, List.map_append, List.nil_append, List.cons_append, Nat.reduceShiftRight, Nat.reduceMod]) | (with_reducible refine RnB.nb ?_; simp only [vcW, vcV, vcD, Int.reduceEq, Int.reduceNe, Int.reduceLT, Int.reduceLE, Nat.reduceEqDiff, Nat.reduceAdd, reduceIte, reduceCtorEq, Nat.reduceLT, Nat.reduceLeDiff, eq_self, Option.bind_some, Option.map_some, List.map_cons, List.map_nil, List.length_cons, List.length_nil, Option.getD_some, Option.getD_none, List.all_cons, List.all_nil, List.set_cons_zero, List.set_cons_succ, List.replicate_succ, List.replicate_zero, List.getElem?_cons_zero, List.getElem?_cons_succ, List.drop_succ_cons, List.drop_zero, List.take_succ_cons, List.take_zero, List.map_append, List.nil_append, List.cons_append, Nat.reduceShiftRight, Nat.reduceMod]) | (with_reducible refine RnB.ii ?_) | (with_reducible refine RnB.app ?_) | (with_reducible refine RnB.fxB ?_; simp only [vcW, vcV, vcD, Int.reduceEq, Int.reduceNe, Int.reduceLT, Int.reduceLE, Nat.reduceEqDiff, Nat.reduceAdd, reduceIte, reduceCtorEq, Nat.reduceLT, Nat.reduceLeDiff, eq_self, Option.bind_some, Option.map_some, List.map_cons, List.map_nil, List.length_cons, List.length_nil, Option.getD_some, Option.getD_none, List.all_cons, List.all_nil, List.set_cons_zero, List.set_cons_succ, List.replicate_succ, List.replicate_zero, List.getElem?_cons_zero, List.getElem?_cons_succ, List.drop_succ_cons, List.drop_zero, List.take_succ_cons, List.take_zero, List.map_append, List.nil_append, List.cons_append, Nat.reduceShiftRight, Nat.reduceMod]) | omega)
  · dsimp only at hi ⊢
    by_cases h' : i < l.length
    · have h5 : (i : Int) < l.length := by omega
      obtain ⟨o1, o2, o3⟩ := runR_ok (hitK l t) i
      have hcov := (runR_cov (hitK l t) i).1 ((i : Int) - 1)
      have hkd : hitK l t i = decide (t ≤ l[i]) := by unfold hitK; rw [getD_at h']
      by_cases hk : t ≤ l[i]
      case neg =>
        have hk' : l[i] < t := by omega
        have hs := runR_no (kf := hitK l t) (i := i) (by rw [hkd]; exact decide_eq_false hk)
        simp only [h5, ints_get l i h', hk', vcV, vcD, Int.reduceEq, Int.reduceNe, Int.reduceLT, Int.reduceLE, Nat.reduceEqDiff, Nat.reduceAdd, reduceIte, reduceCtorEq, Nat.reduceLT, Nat.reduceLeDiff, eq_self, Option.bind_some, Option.map_some, List.map_cons, List.map_nil, List.length_cons, List.length_nil, Option.getD_some, Option.getD_none, List.all_cons, List.all_nil, List.set_cons_zero, List.set_cons_succ, List.replicate_succ, List.replicate_zero, List.getElem?_cons_zero, List.getElem?_cons_succ, List.drop_succ_cons, List.drop_zero, List.take_succ_cons, List.take_zero, List.map_append, List.nil_append, List.cons_append, Nat.reduceShiftRight, Nat.reduceMod]
        (repeat (with_reducible refine And.intro ?_ ?_; focus (first | omega | (unfold I64; omega))))
        refine ⟨⟨i + 1, h'⟩, by simp only; omega, ?_⟩
        refine weakX [] (of_decide_eq_true rfl) (of_decide_eq_true rfl) ?_
        (simp only [hs, vcW, vcV, vcD, Int.reduceEq, Int.reduceNe, Int.reduceLT, Int.reduceLE, Nat.reduceEqDiff, Nat.reduceAdd, reduceIte, reduceCtorEq, Nat.reduceLT, Nat.reduceLeDiff, eq_self, Option.bind_some, Option.map_some, List.map_cons, List.map_nil, List.length_cons, List.length_nil, Option.getD_some, Option.getD_none, List.all_cons, List.all_nil, List.set_cons_zero, List.set_cons_succ, List.replicate_succ, List.replicate_zero, List.getElem?_cons_zero, List.getElem?_cons_succ, List.drop_succ_cons, List.drop_zero, List.take_succ_cons, List.take_zero, List.map_append, List.nil_append, List.cons_append, Nat.reduceShiftRight, Nat.reduceMod])
        (repeat' first | exact trivial | (with_reducible exact RnB.fxB (ints_fxB _)) | (with_reducible rfl) | (with_reducible refine And.intro ?_ ?_) | (with_reducible refine RnB.bb ?_; simp only [vcW, vcV, vcD, Int.reduceEq, Int.reduceNe, Int.reduceLT, Int.reduceLE, Nat.reduceEqDiff, Nat.reduceAdd, reduceIte, reduceCtorEq, Nat.reduceLT, Nat.reduceLeDiff, eq_self, Option.bind_some, Option.map_some, List.map_cons, List.map_nil, List.length_cons, List.length_nil, Option.getD_some, Option.getD_none, List.all_cons, List.all_nil, List.set_cons_zero, List.set_cons_succ, List.replicate_succ, List.replicate_zero, List.getElem?_cons_zero, List.getElem?_cons_succ, List.drop_succ_cons, List.drop_zero, List.take_succ_cons, List.take_zero, List.map_append, List.nil_append, List.cons_append, Nat.reduceShiftRight, Nat.reduceMod]) | (with_reducible refine RnB.nb ?_; simp only [vcW, vcV, vcD, Int.reduceEq, Int.reduceNe, Int.reduceLT, Int.reduceLE, Nat.reduceEqDiff, Nat.reduceAdd, reduceIte, reduceCtorEq, Nat.reduceLT, Nat.reduceLeDiff, eq_self, Option.bind_some, Option.map_some, List.map_cons, List.map_nil, List.length_cons, List.length_nil, Option.getD_some, Option.getD_none, List.all_cons, List.all_nil, List.set_cons_zero, List.set_cons_succ, List.replicate_succ, List.replicate_zero, List.getElem?_cons_zero, List.getElem?_cons_succ, List.drop_succ_cons, List.drop_zero, List.take_succ_cons, List.take_zero, List.map_append, List.nil_append, List.cons_append, Nat.reduceShiftRight, Nat.reduceMod]) | (with_reducible refine RnB.ii ?_) | (with_reducible refine RnB.app ?_) | (with_reducible refine RnB.fxB ?_; simp only [vcW, vcV, vcD, Int.reduceEq, Int.reduceNe, Int.reduceLT, Int.reduceLE, Nat.reduceEqDiff, Nat.reduceAdd, reduceIte, reduceCtorEq, Nat.reduceLT, Nat.reduceLeDiff, eq_self, Option.bind_some, Option.map_some, List.map_cons, List.map_nil, List.length_cons, List.length_nil, Option.getD_some, Option.getD_none, List.all_cons, List.all_nil, List.set_cons_zero, List.set_cons_succ, List.replicate_succ, List.replicate_zero, List.getElem?_cons_zero, List.getElem?_cons_succ, List.drop_succ_cons, List.drop_zero, List.take_succ_cons, List.take_zero, List.map_append, List.nil_append, List.cons_append, Nat.reduceShiftRight, Nat.reduceMod]) | omega)
        all_goals exact RnB.fxB (prs_fxB _)
      · have hk' : ¬ l[i] < t := by omega
        have hkt : hitK l t i = true := by rw [hkd]; exact decide_eq_true hk
        by_cases hn : i = 0 ∨ hitK l t (i - 1) = false
        · have hs := runR_new hkt hn
          have hno : ∀ p rest, runR (hitK l t) i = p :: rest → ¬ p.2 = (i : Int) - 1 := by
            intro p rest hR hp
            have hpm := o2 p (by rw [hR]; exact List.mem_cons_self)
            obtain ⟨y, e1, e2, e3⟩ := hcov.1 ⟨p, by rw [hR]; exact List.mem_cons_self, by omega, by omega⟩
            rcases hn with hn | hn
            · omega
            · rw [show i - 1 = y by omega, e3] at hn; cases hn
          generalize runR (hitK l t) i = R at *
          have hia : prs (((i : Int), (i : Int)) :: R).reverse = prs R.reverse ++ [.agg [.int .i64 i, .int .i64 i]] := prs_rev _ _
          have hll : (prs R.reverse).length = R.length := by rw [prs_length, List.length_reverse]
          cases R with
          | nil =>
            have z3 : ((0 : Nat) : Int) = 0 := rfl
            simp only [h5, ints_get l i h', hk', hll, z3, vcV, vcD, Int.reduceEq, Int.reduceNe, Int.reduceLT, Int.reduceLE, Nat.reduceEqDiff, Nat.reduceAdd, reduceIte, reduceCtorEq, Nat.reduceLT, Nat.reduceLeDiff, eq_self, Option.bind_some, Option.map_some, List.map_cons, List.map_nil, List.length_cons, List.length_nil, Option.getD_some, Option.getD_none, List.all_cons, List.all_nil, List.set_cons_zero, List.set_cons_succ, List.replicate_succ, List.replicate_zero, List.getElem?_cons_zero, List.getElem?_cons_succ, List.drop_succ_cons, List.drop_zero, List.take_succ_cons, List.take_zero, List.map_append, List.nil_append, List.cons_append, Nat.reduceShiftRight, Nat.reduceMod]
            (repeat (with_reducible refine And.intro ?_ ?_; focus (first | omega | (unfold I64; omega))))
            refine ⟨⟨i + 1, h'⟩, by simp only; omega, ?_⟩
            refine weakX [(100, some 57)] (of_decide_eq_true rfl) (of_decide_eq_true rfl) ?_
            (simp only [hs, hia, hll, vcW, vcV, vcD, Int.reduceEq, Int.reduceNe, Int.reduceLT, Int.reduceLE, Nat.reduceEqDiff, Nat.reduceAdd, reduceIte, reduceCtorEq, Nat.reduceLT, Nat.reduceLeDiff, eq_self, Option.bind_some, Option.map_some, List.map_cons, List.map_nil, List.length_cons, List.length_nil, Option.getD_some, Option.getD_none, List.all_cons, List.all_nil, List.set_cons_zero, List.set_cons_succ, List.replicate_succ, List.replicate_zero, List.getElem?_cons_zero, List.getElem?_cons_succ, List.drop_succ_cons, List.drop_zero, List.take_succ_cons, List.take_zero, List.map_append, List.nil_append, List.cons_append, Nat.reduceShiftRight, Nat.reduceMod])
            (repeat' first | exact trivial | (with_reducible exact RnB.fxB (ints_fxB _)) | (with_reducible rfl) | (with_reducible refine And.intro ?_ ?_) | (with_reducible refine RnB.bb ?_; simp only [vcW, vcV, vcD, Int.reduceEq, Int.reduceNe, Int.reduceLT, Int.reduceLE, Nat.reduceEqDiff, Nat.reduceAdd, reduceIte, reduceCtorEq, Nat.reduceLT, Nat.reduceLeDiff, eq_self, Option.bind_some, Option.map_some, List.map_cons, List.map_nil, List.length_cons, List.length_nil, Option.getD_some, Option.getD_none, List.all_cons, List.all_nil, List.set_cons_zero, List.set_cons_succ, List.replicate_succ, List.replicate_zero, List.getElem?_cons_zero, List.getElem?_cons_succ, List.drop_succ_cons, List.drop_zero, List.take_succ_cons, List.take_zero, List.map_append, List.nil_append, List.cons_append, Nat.reduceShiftRight, Nat.reduceMod]) | (with_reducible refine RnB.nb ?_; simp only [vcW, vcV, vcD, Int.reduceEq, Int.reduceNe, Int.reduceLT, Int.reduceLE, Nat.reduceEqDiff, Nat.reduceAdd, reduceIte, reduceCtorEq, Nat.reduceLT, Nat.reduceLeDiff, eq_self, Option.bind_some, Option.map_some, List.map_cons, List.map_nil, List.length_cons, List.length_nil, Option.getD_some, Option.getD_none, List.all_cons, List.all_nil, List.set_cons_zero, List.set_cons_succ, List.replicate_succ, List.replicate_zero, List.getElem?_cons_zero, List.getElem?_cons_succ, List.drop_succ_cons, List.drop_zero, List.take_succ_cons, List.take_zero, List.map_append, List.nil_append, List.cons_append, Nat.reduceShiftRight, Nat.reduceMod]) | (with_reducible refine RnB.ii ?_) | (with_reducible refine RnB.app ?_) | (with_reducible refine RnB.fxB ?_; simp only [vcW, vcV, vcD, Int.reduceEq, Int.reduceNe, Int.reduceLT, Int.reduceLE, Nat.reduceEqDiff, Nat.reduceAdd, reduceIte, reduceCtorEq, Nat.reduceLT, Nat.reduceLeDiff, eq_self, Option.bind_some, Option.map_some, List.map_cons, List.map_nil, List.length_cons, List.length_nil, Option.getD_some, Option.getD_none, List.all_cons, List.all_nil, List.set_cons_zero, List.set_cons_succ, List.replicate_succ, List.replicate_zero, List.getElem?_cons_zero, List.getElem?_cons_succ, List.drop_succ_cons, List.drop_zero, List.take_succ_cons, List.take_zero, List.map_append, List.nil_append, List.cons_append, Nat.reduceShiftRight, Nat.reduceMod]) | omega)
            all_goals first | exact hia.symm | exact RnB.fxB (by rw [← hia]; exact prs_fxB _) | skip
          | cons p rest =>
            have hp := hno p rest rfl
            have hpr := prs_rev p rest
            have hle : (prs rest.reverse).length = rest.length := by rw [prs_length, List.length_reverse]
            have hgl : ∀ x : AV, (prs rest.reverse ++ [x])[rest.length]? = some x := fun x => snoc_get _ x _ hle
            have hlp : ((rest.length + 1 : Nat) : Int) - 1 = (rest.length : Int) := by omega
            have hlq : (rest.length : Int) + 1 - 1 = (rest.length : Int) := by omega
            have hpos : (0 : Int) < ((rest.length + 1 : Nat) : Int) := by omega
            have hl2 : ∀ x : AV, (prs rest.reverse ++ [x]).length = rest.length + 1 := fun x => by rw [List.length_append, hle]; rfl
            rw [hpr] at hia
            rw [hpr]
            simp only [List.length_cons] at o1 hll ⊢
            have hpm := o2 p List.mem_cons_self
            simp only [h5, ints_get l i h', hk', hpos, hlp, hlq, hgl, hl2, Int.toNat_natCast, vcV, vcD, Int.reduceEq, Int.reduceNe, Int.reduceLT, Int.reduceLE, Nat.reduceEqDiff, Nat.reduceAdd, reduceIte, reduceCtorEq, Nat.reduceLT, Nat.reduceLeDiff, eq_self, Option.bind_some, Option.map_some, List.map_cons, List.map_nil, List.length_cons, List.length_nil, Option.getD_some, Option.getD_none, List.all_cons, List.all_nil, List.set_cons_zero, List.set_cons_succ, List.replicate_succ, List.replicate_zero, List.getElem?_cons_zero, List.getElem?_cons_succ, List.drop_succ_cons, List.drop_zero, List.take_succ_cons, List.take_zero, List.map_append, List.nil_append, List.cons_append, Nat.reduceShiftRight, Nat.reduceMod]
            (repeat (with_reducible refine And.intro ?_ ?_; focus (first | omega | (unfold I64; omega))))
            simp only [hgl, hp, hl2, vcV, vcD, Int.reduceEq, Int.reduceNe, Int.reduceLT, Int.reduceLE, Nat.reduceEqDiff, Nat.reduceAdd, reduceIte, reduceCtorEq, Nat.reduceLT, Nat.reduceLeDiff, eq_self, Option.bind_some, Option.map_some, List.map_cons, List.map_nil, List.length_cons, List.length_nil, Option.getD_some, Option.getD_none, List.all_cons, List.all_nil, List.set_cons_zero, List.set_cons_succ, List.replicate_succ, List.replicate_zero, List.getElem?_cons_zero, List.getElem?_cons_succ, List.drop_succ_cons, List.drop_zero, List.take_succ_cons, List.take_zero, List.map_append, List.nil_append, List.cons_append, Nat.reduceShiftRight, Nat.reduceMod]
            (repeat (with_reducible refine And.intro ?_ ?_; focus (first | omega | (unfold I64; omega))))
            refine ⟨⟨i + 1, h'⟩, by simp only; omega, ?_⟩
            refine weakX [(100, some 57)] (of_decide_eq_true rfl) (of_decide_eq_true rfl) ?_
            (simp only [hs, hia, hl2, vcW, vcV, vcD, Int.reduceEq, Int.reduceNe, Int.reduceLT, Int.reduceLE, Nat.reduceEqDiff, Nat.reduceAdd, reduceIte, reduceCtorEq, Nat.reduceLT, Nat.reduceLeDiff, eq_self, Option.bind_some, Option.map_some, List.map_cons, List.map_nil, List.length_cons, List.length_nil, Option.getD_some, Option.getD_none, List.all_cons, List.all_nil, List.set_cons_zero, List.set_cons_succ, List.replicate_succ, List.replicate_zero, List.getElem?_cons_zero, List.getElem?_cons_succ, List.drop_succ_cons, List.drop_zero, List.take_succ_cons, List.take_zero, List.map_append, List.nil_append, List.cons_append, Nat.reduceShiftRight, Nat.reduceMod])
            (repeat' first | exact trivial | (with_reducible exact RnB.fxB (ints_fxB _)) | (with_reducible rfl) | (with_reducible refine And.intro ?_ ?_) | (with_reducible refine RnB.bb ?_; simp only [vcW, vcV, vcD, Int.reduceEq, Int.reduceNe, Int.reduceLT, Int.reduceLE, Nat.reduceEqDiff, Nat.reduceAdd, reduceIte, reduceCtorEq, Nat.reduceLT, Nat.reduceLeDiff, eq_self, Option.bind_some, Option.map_some, List.map_cons, List.map_nil, List.length_cons, List.length_nil, Option.getD_some, Option.getD_none, List.all_cons, List.all_nil, List.set_cons_zero, List.set_cons_succ, List.replicate_succ, List.replicate_zero, List.getElem?_cons_zero, List.getElem?_cons_succ, List.drop_succ_cons, List.drop_zero, List.take_succ_cons, List.take_zero, List.map_append, List.nil_append, List.cons_append, Nat.reduceShiftRight, Nat.reduceMod]) | (with_reducible refine RnB.nb ?_; simp only [vcW, vcV, vcD, Int.reduceEq, Int.reduceNe, Int.reduceLT, Int.reduceLE, Nat.reduceEqDiff, Nat.reduceAdd, reduceIte, reduceCtorEq, Nat.reduceLT, Nat.reduceLeDiff, eq_self, Option.bind_some, Option.map_some, List.map_cons, List.map_nil, List.length_cons, List.length_nil, Option.getD_some, Option.getD_none, List.all_cons, List.all_nil, List.set_cons_zero, List.set_cons_succ, List.replicate_succ, List.replicate_zero, List.getElem?_cons_zero, List.getElem?_cons_succ, List.drop_succ_cons, List.drop_zero, List.take_succ_cons, List.take_zero, List.map_append, List.nil_append, List.cons_append, Nat.reduceShiftRight, Nat.reduceMod]) | (with_reducible refine RnB.ii ?_) | (with_reducible refine RnB.app ?_) | (with_reducible refine RnB.fxB ?_; simp only [vcW, vcV, vcD, Int.reduceEq, Int.reduceNe, Int.reduceLT, Int.reduceLE, Nat.reduceEqDiff, Nat.reduceAdd, reduceIte, reduceCtorEq, Nat.reduceLT, Nat.reduceLeDiff, eq_self, Option.bind_some, Option.map_some, List.map_cons, List.map_nil, List.length_cons, List.length_nil, Option.getD_some, Option.getD_none, List.all_cons, List.all_nil, List.set_cons_zero, List.set_cons_succ, List.replicate_succ, List.replicate_zero, List.getElem?_cons_zero, List.getElem?_cons_succ, List.drop_succ_cons, List.drop_zero, List.take_succ_cons, List.take_zero, List.map_append, List.nil_append, List.cons_append, Nat.reduceShiftRight, Nat.reduceMod]) | omega)
            all_goals first | exact hia.symm | exact RnB.fxB (by rw [← hia]; exact prs_fxB _) | skip
        · obtain ⟨p, rest, hR, hp⟩ := o3 (by omega) (by cases hq : hitK l t (i - 1) with | true => rfl | false => exact absurd (.inr hq) hn)
          have hs := runR_on hkt hn hR
          rw [hR] at o1 o2
          rw [hR]
          have hpr := prs_rev p rest
          have hps := prs_rev (p.1, (i : Int)) rest
          have hle : (prs rest.reverse).length = rest.length := by rw [prs_length, List.length_reverse]
          have hgl : ∀ x : AV, (prs rest.reverse ++ [x])[rest.length]? = some x := fun x => snoc_get _ x _ hle
          have hsl : ∀ x y : AV, (prs rest.reverse ++ [x]).set rest.length y = prs rest.reverse ++ [y] := fun x y => snoc_set _ x y _ hle
          have hlp : ((rest.length + 1 : Nat) : Int) - 1 = (rest.length : Int) := by omega
          have hlq : (rest.length : Int) + 1 - 1 = (rest.length : Int) := by omega
          have hpos : (0 : Int) < ((rest.length + 1 : Nat) : Int) := by omega
          have hl2 : ∀ x : AV, (prs rest.reverse ++ [x]).length = rest.length + 1 := fun x => by rw [List.length_append, hle]; rfl
          rw [hpr]
          simp only [List.length_cons] at o1 ⊢
          have hpm := o2 p List.mem_cons_self
          simp only [h5, ints_get l i h', hk', hpos, hlp, hlq, hgl, hl2, Int.toNat_natCast, vcV, vcD, Int.reduceEq, Int.reduceNe, Int.reduceLT, Int.reduceLE, Nat.reduceEqDiff, Nat.reduceAdd, reduceIte, reduceCtorEq, Nat.reduceLT, Nat.reduceLeDiff, eq_self, Option.bind_some, Option.map_some, List.map_cons, List.map_nil, List.length_cons, List.length_nil, Option.getD_some, Option.getD_none, List.all_cons, List.all_nil, List.set_cons_zero, List.set_cons_succ, List.replicate_succ, List.replicate_zero, List.getElem?_cons_zero, List.getElem?_cons_succ, List.drop_succ_cons, List.drop_zero, List.take_succ_cons, List.take_zero, List.map_append, List.nil_append, List.cons_append, Nat.reduceShiftRight, Nat.reduceMod]
          (repeat (with_reducible refine And.intro ?_ ?_; focus (first | omega | (unfold I64; omega))))
          simp only [hgl, hp, hl2, hsl, hlp, hlq, Int.toNat_natCast, vcV, vcD, Int.reduceEq, Int.reduceNe, Int.reduceLT, Int.reduceLE, Nat.reduceEqDiff, Nat.reduceAdd, reduceIte, reduceCtorEq, Nat.reduceLT, Nat.reduceLeDiff, eq_self, Option.bind_some, Option.map_some, List.map_cons, List.map_nil, List.length_cons, List.length_nil, Option.getD_some, Option.getD_none, List.all_cons, List.all_nil, List.set_cons_zero, List.set_cons_succ, List.replicate_succ, List.replicate_zero, List.getElem?_cons_zero, List.getElem?_cons_succ, List.drop_succ_cons, List.drop_zero, List.take_succ_cons, List.take_zero, List.map_append, List.nil_append, List.cons_append, Nat.reduceShiftRight, Nat.reduceMod]
          (repeat (with_reducible refine And.intro ?_ ?_; focus (first | omega | (unfold I64; omega))))
          refine ⟨⟨i + 1, h'⟩, by simp only; omega, ?_⟩
          refine weakX [(100, some 100)] (of_decide_eq_true rfl) (of_decide_eq_true rfl) ?_
          (simp only [hs, hps, hl2, List.length_cons, vcW, vcV, vcD, Int.reduceEq, Int.reduceNe, Int.reduceLT, Int.reduceLE, Nat.reduceEqDiff, Nat.reduceAdd, reduceIte, reduceCtorEq, Nat.reduceLT, Nat.reduceLeDiff, eq_self, Option.bind_some, Option.map_some, List.map_cons, List.map_nil, List.length_cons, List.length_nil, Option.getD_some, Option.getD_none, List.all_cons, List.all_nil, List.set_cons_zero, List.set_cons_succ, List.replicate_succ, List.replicate_zero, List.getElem?_cons_zero, List.getElem?_cons_succ, List.drop_succ_cons, List.drop_zero, List.take_succ_cons, List.take_zero, List.map_append, List.nil_append, List.cons_append, Nat.reduceShiftRight, Nat.reduceMod])
          (repeat' first | exact trivial | (with_reducible exact RnB.fxB (ints_fxB _)) | (with_reducible rfl) | (with_reducible refine And.intro ?_ ?_) | (with_reducible refine RnB.bb ?_; simp only [vcW, vcV, vcD, Int.reduceEq, Int.reduceNe, Int.reduceLT, Int.reduceLE, Nat.reduceEqDiff, Nat.reduceAdd, reduceIte, reduceCtorEq, Nat.reduceLT, Nat.reduceLeDiff, eq_self, Option.bind_some, Option.map_some, List.map_cons, List.map_nil, List.length_cons, List.length_nil, Option.getD_some, Option.getD_none, List.all_cons, List.all_nil, List.set_cons_zero, List.set_cons_succ, List.replicate_succ, List.replicate_zero, List.getElem?_cons_zero, List.getElem?_cons_succ, List.drop_succ_cons, List.drop_zero, List.take_succ_cons, List.take_zero, List.map_append, List.nil_append, List.cons_append, Nat.reduceShiftRight, Nat.reduceMod]) | (with_reducible refine RnB.nb ?_; simp only [vcW, vcV, vcD, Int.reduceEq, Int.reduceNe, Int.reduceLT, Int.reduceLE, Nat.reduceEqDiff, Nat.reduceAdd, reduceIte, reduceCtorEq, Nat.reduceLT, Nat.reduceLeDiff, eq_self, Option.bind_some, Option.map_some, List.map_cons, List.map_nil, List.length_cons, List.length_nil, Option.getD_some, Option.getD_none, List.all_cons, List.all_nil, List.set_cons_zero, List.set_cons_succ, List.replicate_succ, List.replicate_zero, List.getElem?_cons_zero, List.getElem?_cons_succ, List.drop_succ_cons, List.drop_zero, List.take_succ_cons, List.take_zero, List.map_append, List.nil_append, List.cons_append, Nat.reduceShiftRight, Nat.reduceMod]) | (with_reducible refine RnB.ii ?_) | (with_reducible refine RnB.app ?_) | (with_reducible refine RnB.fxB ?_; simp only [vcW, vcV, vcD, Int.reduceEq, Int.reduceNe, Int.reduceLT, Int.reduceLE, Nat.reduceEqDiff, Nat.reduceAdd, reduceIte, reduceCtorEq, Nat.reduceLT, Nat.reduceLeDiff, eq_self, Option.bind_some, Option.map_some, List.map_cons, List.map_nil, List.length_cons, List.length_nil, Option.getD_some, Option.getD_none, List.all_cons, List.all_nil, List.set_cons_zero, List.set_cons_succ, List.replicate_succ, List.replicate_zero, List.getElem?_cons_zero, List.getElem?_cons_succ, List.drop_succ_cons, List.drop_zero, List.take_succ_cons, List.take_zero, List.map_append, List.nil_append, List.cons_append, Nat.reduceShiftRight, Nat.reduceMod]) | omega)
          all_goals first | exact hps.symm | exact RnB.fxB (by rw [← hps]; exact prs_fxB _) | skip
    · have h5 : ¬ (i : Int) < l.length := by omega
      have hin : i = l.length := by omega
      subst hin
      simp only [h5, vcV, vcD, Int.reduceEq, Int.reduceNe, Int.reduceLT, Int.reduceLE, Nat.reduceEqDiff, Nat.reduceAdd, reduceIte, reduceCtorEq, Nat.reduceLT, Nat.reduceLeDiff, eq_self, Option.bind_some, Option.map_some, List.map_cons, List.map_nil, List.length_cons, List.length_nil, Option.getD_some, Option.getD_none, List.all_cons, List.all_nil, List.set_cons_zero, List.set_cons_succ, List.replicate_succ, List.replicate_zero, List.getElem?_cons_zero, List.getElem?_cons_succ, List.drop_succ_cons, List.drop_zero, List.take_succ_cons, List.take_zero, List.map_append, List.nil_append, List.cons_append, Nat.reduceShiftRight, Nat.reduceMod]
      rw [borB_good _ _ _ _ _ (by rw [prs_length, List.length_reverse]) (prs_fx _)]
theorem Hits_s (l : List Int) (t : Int) (h2 : smE l = 0) (ht : smp t = true) : Sound Tryd.prog 49 [.sl (ints l), .int .i64 t] (.sl (prs (hitsL l t))) := by
  refine sound_W f_ref02_Hits (Nat.le_of_ble_eq_true rfl) ?_
  have hmax := maxLen_big
  obtain ⟨g1, g2, h3⟩ := smE_ok h2
  have hHL : hitsL l t = refR (hitK l t) l.length l.length := by rw [refR_eq]; rfl
  rw [hHL]
  simp only [c_ref02_Hits, vcV, vcD, Int.reduceEq, Int.reduceNe, Int.reduceLT, Int.reduceLE, Nat.reduceEqDiff, Nat.reduceAdd, reduceIte, reduceCtorEq, Nat.reduceLT, Nat.reduceLeDiff, eq_self, Option.bind_some, Option.map_some, List.map_cons, List.map_nil, List.length_cons, List.length_nil, Option.getD_some, Option.getD_none, List.all_cons, List.all_nil, List.set_cons_zero, List.set_cons_succ, List.replicate_succ, List.replicate_zero, List.getElem?_cons_zero, List.getElem?_cons_succ, List.drop_succ_cons, List.drop_zero, List.take_succ_cons, List.take_zero, List.map_append, List.nil_append, List.cons_append, Nat.reduceShiftRight, Nat.reduceMod]
  refine W_loop (t := .mk) (α := PSigma fun i : Nat => i ≤ l.length) (fun ⟨i, _⟩ => (envOf [(0, .sl (ints l)), (1, .int .i64 t), (5, .buf 100 (refR (hitK l t) l.length i).length), (6, .int .i64 i)], stOf [(100, ⟨54, 2, prs (refR (hitK l t) l.length i)⟩)])) (fun p => l.length - p.1) ⟨0, Nat.zero_le _⟩ ?_ (fun ⟨i, hi⟩ => ?_)
  · have z1 : prs (refR (hitK l t) l.length 0) = [] := rfl
    have z2 : (refR (hitK l t) l.length 0).length = 0 := rfl
    refine weakX [(100, none)] (of_decide_eq_true rfl) (of_decide_eq_true rfl) ?_
    (simp only [z1, z2, vcW, vcV, vcD, Int.reduceEq, Int.reduceNe, Int.reduceLT, Int.reduceLE, Nat.reduceEqDiff, Nat.reduceAdd, reduceIte, reduceCtorEq, Nat.reduceLT, Nat.reduceLeDiff, eq_self, Option.bind_some, Option.map_some, List.map_cons, List.map_nil, List.length_cons, List.length_nil, Option.getD_some, Option.getD_none, List.all_cons, List.all_nil, List.set_cons_zero, List.set_cons_succ, List.replicate_succ, List.replicate_zero, List.getElem?_cons_zero, List.getElem?_cons_succ, List.drop_succ_cons, List.drop_zero, List.take_succ_cons, List.take_zero, List.map_append, List.nil_append, List.cons_append, Nat.reduceShiftRight, Nat.reduceMod])
    (repeat' first | exact trivial | (with_reducible exact RnB.fxB (ints_fxB _)) | (with_reducible rfl) | (with_reducible refine And.intro ?_ ?_) | (with_reducible refine RnB.bb ?_; simp only [vcW, vcV, vcD, Int.reduceEq, Int.reduceNe, Int.reduceLT, Int.reduceLE, Nat.reduceEqDiff, Nat.reduceAdd, reduceIte, reduceCtorEq, Nat.reduceLT, Nat.reduceLeDiff, eq_self, Option.bind_some, Option.map_some, List.map_cons, List.map_nil, List.length_cons, List.length_nil, Option.getD_some, Option.getD_none, List.all_cons, List.all_nil, List.set_cons_zero, List.set_cons_succ, List.replicate_succ, List.replicate_zero, List.getElem?_cons_zero, List.getElem?_cons_succ, List.drop_succ_cons, List.drop_zero, List.take_succ_cons, List.take_zero, List.map_append, List.nil_append, List.cons_append, Nat.reduceShiftRight, Nat.reduceMod]) | (with_reducible refine RnB.nb ?_; simp only [vcW, vcV, vcD, Int.reduceEq, Int.reduceNe, Int.reduceLT, Int.reduceLE, Nat.reduceEqDiff, Nat.reduceAdd, reduceIte, reduceCtorEq, Nat.reduceLT, Nat.reduceLeDiff, eq_self, Option.bind_some, Option.map_some, List.map_cons, List.map_nil, List.length_cons, List.length_nil, Option.getD_some, Option.getD_none, List.all_cons, List.all_nil, List.set_cons_zero, List.set_cons_succ, List.replicate_succ, List.replicate_zero, List.getElem?_cons_zero, List.getElem?_cons_succ, List.drop_succ_cons, List.drop_zero, List.take_succ_cons, List.take_zero, List.map_append, List.nil_append, List.cons_append, Nat.reduceShiftRight, Nat.reduceMod]) | (with_reducible refine RnB.ii ?_) | (with_reducible refine RnB.app ?_) | (with_reducible refine RnB.fxB ?_; simp only [vcW, vcV, vcD, Int.reduceEq, Int.reduceNe, Int.reduceLT, Int.reduceLE, Nat.reduceEqDiff, Nat.reduceAdd, reduceIte, reduceCtorEq, Nat.reduceLT, Nat.reduceLeDiff, eq_self, Option.bind_some, Option.map_some, List.map_cons, List.map_nil, List.length_cons, List.length_nil, Option.getD_some, Option.getD_none, List.all_cons, List.all_nil, List.set_cons_zero, List.set_cons_succ, List.replicate_succ, List.replicate_zero, List.getElem?_cons_zero, List.getElem?_cons_succ, List.drop_succ_cons, List.drop_zero, List.take_succ_cons, List.take_zero, List.map_append, List.nil_append, List.cons_append, Nat.reduceShiftRight, Nat.reduceMod]) | omega)
  · dsimp only at hi ⊢
    by_cases h' : i < l.length
    · have h5 : (i : Int) < l.length := by omega
      have hrl := refR_len (hitK l t) l.length i
      have hkd : ∀ (j : Nat) (hj : j < l.length), hitK l t j = decide (t ≤ l[j]) := fun j hj => by unfold hitK; rw [getD_at hj]
      have hs : refR (hitK l t) l.length (i + 1) = if hitK l t i = false ∨ (0 < i ∧ hitK l t (i - 1) = true) then refR (hitK l t) l.length i else refR (hitK l t) l.length i ++ [((i : Int), (endR (hitK l t) l.length i l.length : Int))] := by rw [refR]
      by_cases hk : t ≤ l[i]
      case neg =>
        have hk' : l[i] < t := by omega
        rw [if_pos (.inl (by rw [hkd i h']; exact decide_eq_false hk))] at hs
        simp only [h5, ints_get l i h', hk', vcV, vcD, Int.reduceEq, Int.reduceNe, Int.reduceLT, Int.reduceLE, Nat.reduceEqDiff, Nat.reduceAdd, reduceIte, reduceCtorEq, Nat.reduceLT, Nat.reduceLeDiff, eq_self, Option.bind_some, Option.map_some, List.map_cons, List.map_nil, List.length_cons, List.length_nil, Option.getD_some, Option.getD_none, List.all_cons, List.all_nil, List.set_cons_zero, List.set_cons_succ, List.replicate_succ, List.replicate_zero, List.getElem?_cons_zero, List.getElem?_cons_succ, List.drop_succ_cons, List.drop_zero, List.take_succ_cons, List.take_zero, List.map_append, List.nil_append, List.cons_append, Nat.reduceShiftRight, Nat.reduceMod]
        (repeat (with_reducible refine And.intro ?_ ?_; focus (first | omega | (unfold I64; omega))))
        refine ⟨⟨i + 1, h'⟩, by simp only; omega, ?_⟩
        refine weakX [] (of_decide_eq_true rfl) (of_decide_eq_true rfl) ?_
        (simp only [hs, vcW, vcV, vcD, Int.reduceEq, Int.reduceNe, Int.reduceLT, Int.reduceLE, Nat.reduceEqDiff, Nat.reduceAdd, reduceIte, reduceCtorEq, Nat.reduceLT, Nat.reduceLeDiff, eq_self, Option.bind_some, Option.map_some, List.map_cons, List.map_nil, List.length_cons, List.length_nil, Option.getD_some, Option.getD_none, List.all_cons, List.all_nil, List.set_cons_zero, List.set_cons_succ, List.replicate_succ, List.replicate_zero, List.getElem?_cons_zero, List.getElem?_cons_succ, List.drop_succ_cons, List.drop_zero, List.take_succ_cons, List.take_zero, List.map_append, List.nil_append, List.cons_append, Nat.reduceShiftRight, Nat.reduceMod])
        (repeat' first | exact trivial | (with_reducible exact RnB.fxB (ints_fxB _)) | (with_reducible rfl) | (with_reducible refine And.intro ?_ ?_) | (with_reducible refine RnB.bb ?_; simp only [vcW, vcV, vcD, Int.reduceEq, Int.reduceNe, Int.reduceLT, Int.reduceLE, Nat.reduceEqDiff, Nat.reduceAdd, reduceIte, reduceCtorEq, Nat.reduceLT, Nat.reduceLeDiff, eq_self, Option.bind_some, Option.map_some, List.map_cons, List.map_nil, List.length_cons, List.length_nil, Option.getD_some, Option.getD_none, List.all_cons, List.all_nil, List.set_cons_zero, List.set_cons_succ, List.replicate_succ, List.replicate_zero, List.getElem?_cons_zero, List.getElem?_cons_succ, List.drop_succ_cons, List.drop_zero, List.take_succ_cons, List.take_zero, List.map_append, List.nil_append, List.cons_append, Nat.reduceShiftRight, Nat.reduceMod]) | (with_reducible refine RnB.nb ?_; simp only [vcW, vcV, vcD, Int.reduceEq, Int.reduceNe, Int.reduceLT, Int.reduceLE, Nat.reduceEqDiff, Nat.reduceAdd, reduceIte, reduceCtorEq, Nat.reduceLT, Nat.reduceLeDiff, eq_self, Option.bind_some, Option.map_some, List.map_cons, List.map_nil, List.length_cons, List.length_nil, Option.getD_some, Option.getD_none, List.all_cons, List.all_nil, List.set_cons_zero, List.set_cons_succ, List.replicate_succ, List.replicate_zero, List.getElem?_cons_zero, List.getElem?_cons_succ, List.drop_succ_cons, List.drop_zero, List.take_succ_cons, List.take_zero, List.map_append, List.nil_append, List.cons_append, Nat.reduceShiftRight, Nat.reduceMod]) | (with_reducible refine RnB.ii ?_) | (with_reducible refine RnB.app ?_) | (with_reducible refine RnB.fxB ?_; simp only [vcW, vcV, vcD, Int.reduceEq, Int.reduceNe, Int.reduceLT, Int.reduceLE, Nat.reduceEqDiff, Nat.reduceAdd, reduceIte, reduceCtorEq, Nat.reduceLT, Nat.reduceLeDiff, eq_self, Option.bind_some, Option.map_some, List.map_cons, List.map_nil, List.length_cons, List.length_nil, Option.getD_some, Option.getD_none, List.all_cons, List.all_nil, List.set_cons_zero, List.set_cons_succ, List.replicate_succ, List.replicate_zero, List.getElem?_cons_zero, List.getElem?_cons_succ, List.drop_succ_cons, List.drop_zero, List.take_succ_cons, List.take_zero, List.map_append, List.nil_append, List.cons_append, Nat.reduceShiftRight, Nat.reduceMod]) | omega)
        all_goals exact RnB.fxB (prs_fxB _)
      · have hk' : ¬ l[i] < t := by omega
        by_cases hp : 0 < i ∧ t ≤ l[i - 1]'(by omega)
        · have hp1 : (0 : Int) < i := by omega
          have htn : ((i : Int) - 1).toNat = i - 1 := by omega
          rw [if_pos (.inr ⟨hp.1, by rw [hkd (i - 1) (by omega)]; exact decide_eq_true hp.2⟩)] at hs
          have hp2 := hp.2
          simp only [h5, ints_get l i h', hk', hp1, htn, ints_get l (i - 1) (by omega), hp2, vcV, vcD, Int.reduceEq, Int.reduceNe, Int.reduceLT, Int.reduceLE, Nat.reduceEqDiff, Nat.reduceAdd, reduceIte, reduceCtorEq, Nat.reduceLT, Nat.reduceLeDiff, eq_self, Option.bind_some, Option.map_some, List.map_cons, List.map_nil, List.length_cons, List.length_nil, Option.getD_some, Option.getD_none, List.all_cons, List.all_nil, List.set_cons_zero, List.set_cons_succ, List.replicate_succ, List.replicate_zero, List.getElem?_cons_zero, List.getElem?_cons_succ, List.drop_succ_cons, List.drop_zero, List.take_succ_cons, List.take_zero, List.map_append, List.nil_append, List.cons_append, Nat.reduceShiftRight, Nat.reduceMod]
          (repeat (with_reducible refine And.intro ?_ ?_; focus (first | omega | (unfold I64; omega))))
          refine ⟨⟨i + 1, h'⟩, by simp only; omega, ?_⟩
          refine weakX [] (of_decide_eq_true rfl) (of_decide_eq_true rfl) ?_
          (simp only [hs, vcW, vcV, vcD, Int.reduceEq, Int.reduceNe, Int.reduceLT, Int.reduceLE, Nat.reduceEqDiff, Nat.reduceAdd, reduceIte, reduceCtorEq, Nat.reduceLT, Nat.reduceLeDiff, eq_self, Option.bind_some, Option.map_some, List.map_cons, List.map_nil, List.length_cons, List.length_nil, Option.getD_some, Option.getD_none, List.all_cons, List.all_nil, List.set_cons_zero, List.set_cons_succ, List.replicate_succ, List.replicate_zero, List.getElem?_cons_zero, List.getElem?_cons_succ, List.drop_succ_cons, List.drop_zero, List.take_succ_cons, List.take_zero, List.map_append, List.nil_append, List.cons_append, Nat.reduceShiftRight, Nat.reduceMod])
          (repeat' first | exact trivial | (with_reducible exact RnB.fxB (ints_fxB _)) | (with_reducible rfl) | (with_reducible refine And.intro ?_ ?_) | (with_reducible refine RnB.bb ?_; simp only [vcW, vcV, vcD, Int.reduceEq, Int.reduceNe, Int.reduceLT, Int.reduceLE, Nat.reduceEqDiff, Nat.reduceAdd, reduceIte, reduceCtorEq, Nat.reduceLT, Nat.reduceLeDiff, eq_self, Option.bind_some, Option.map_some, List.map_cons, List.map_nil, List.length_cons, List.length_nil, Option.getD_some, Option.getD_none, List.all_cons, List.all_nil, List.set_cons_zero, List.set_cons_succ, List.replicate_succ, List.replicate_zero, List.getElem?_cons_zero, List.getElem?_cons_succ, List.drop_succ_cons, List.drop_zero, List.take_succ_cons, List.take_zero, List.map_append, List.nil_append, List.cons_append, Nat.reduceShiftRight, Nat.reduceMod]) | (with_reducible refine RnB.nb ?_; simp only [vcW, vcV, vcD, Int.reduceEq, Int.reduceNe, Int.reduceLT, Int.reduceLE, Nat.reduceEqDiff, Nat.reduceAdd, reduceIte, reduceCtorEq, Nat.reduceLT, Nat.reduceLeDiff, eq_self, Option.bind_some, Option.map_some, List.map_cons, List.map_nil, List.length_cons, List.length_nil, Option.getD_some, Option.getD_none, List.all_cons, List.all_nil, List.set_cons_zero, List.set_cons_succ, List.replicate_succ, List.replicate_zero, List.getElem?_cons_zero, List.getElem?_cons_succ, List.drop_succ_cons, List.drop_zero, List.take_succ_cons, List.take_zero, List.map_append, List.nil_append, List.cons_append, Nat.reduceShiftRight, Nat.reduceMod]) | (with_reducible refine RnB.ii ?_) | (with_reducible refine RnB.app ?_) | (with_reducible refine RnB.fxB ?_; simp only [vcW, vcV, vcD, Int.reduceEq, Int.reduceNe, Int.reduceLT, Int.reduceLE, Nat.reduceEqDiff, Nat.reduceAdd, reduceIte, reduceCtorEq, Nat.reduceLT, Nat.reduceLeDiff, eq_self, Option.bind_some, Option.map_some, List.map_cons, List.map_nil, List.length_cons, List.length_nil, Option.getD_some, Option.getD_none, List.all_cons, List.all_nil, List.set_cons_zero, List.set_cons_succ, List.replicate_succ, List.replicate_zero, List.getElem?_cons_zero, List.getElem?_cons_succ, List.drop_succ_cons, List.drop_zero, List.take_succ_cons, List.take_zero, List.map_append, List.nil_append, List.cons_append, Nat.reduceShiftRight, Nat.reduceMod]) | omega)
          all_goals exact RnB.fxB (prs_fxB _)
        · rw [if_neg (by
            rintro (q | ⟨q1, q2⟩)
            · rw [hkd i h', decide_eq_false_iff_not] at q; exact q hk
            · rw [hkd (i - 1) (by omega)] at q2; exact hp ⟨q1, of_decide_eq_true q2⟩)] at hs
          generalize hRR : refR (hitK l t) l.length i = R at *
          have hll : (prs R).length = R.length := prs_length R
          have hstart : ∀ (Q : Prop), ((¬ (0 : Int) < i) → Q) → ((∃ (a : (0 : Int) < i), ¬ t ≤ l[i - 1]'(by omega)) → Q) → Q := by
            intro Q a b
            by_cases e : (0 : Int) < i
            · exact b ⟨e, fun q => hp ⟨by omega, q⟩⟩
            · exact a e
          have htn : ((i : Int) - 1).toNat = i - 1 := by omega
          refine hstart _ (fun hz => ?_) (fun ⟨hz, hq⟩ => ?_)
          all_goals first
            | simp only [h5, ints_get l i h', hk', hz, htn, ints_get l (i - 1) (by omega), hq, vcV, vcD, Int.reduceEq, Int.reduceNe, Int.reduceLT, Int.reduceLE, Nat.reduceEqDiff, Nat.reduceAdd, reduceIte, reduceCtorEq, Nat.reduceLT, Nat.reduceLeDiff, eq_self, Option.bind_some, Option.map_some, List.map_cons, List.map_nil, List.length_cons, List.length_nil, Option.getD_some, Option.getD_none, List.all_cons, List.all_nil, List.set_cons_zero, List.set_cons_succ, List.replicate_succ, List.replicate_zero, List.getElem?_cons_zero, List.getElem?_cons_succ, List.drop_succ_cons, List.drop_zero, List.take_succ_cons, List.take_zero, List.map_append, List.nil_append, List.cons_append, Nat.reduceShiftRight, Nat.reduceMod]
            | simp only [h5, ints_get l i h', hk', hz, vcV, vcD, Int.reduceEq, Int.reduceNe, Int.reduceLT, Int.reduceLE, Nat.reduceEqDiff, Nat.reduceAdd, reduceIte, reduceCtorEq, Nat.reduceLT, Nat.reduceLeDiff, eq_self, Option.bind_some, Option.map_some, List.map_cons, List.map_nil, List.length_cons, List.length_nil, Option.getD_some, Option.getD_none, List.all_cons, List.all_nil, List.set_cons_zero, List.set_cons_succ, List.replicate_succ, List.replicate_zero, List.getElem?_cons_zero, List.getElem?_cons_succ, List.drop_succ_cons, List.drop_zero, List.take_succ_cons, List.take_zero, List.map_append, List.nil_append, List.cons_append, Nat.reduceShiftRight, Nat.reduceMod]
          all_goals
            (repeat (with_reducible refine And.intro ?_ ?_; focus (first | omega | (unfold I64; omega))))
            refine W_loop (t := .mk) (α := PSigma fun k : Nat => i + k < l.length ∧ endR (hitK l t) l.length i k = i + k) (fun ⟨k, _⟩ => (envOf [(0, .sl (ints l)), (1, .int .i64 t), (5, .buf 100 R.length), (6, .int .i64 i), (7, .int .i64 ((i + k : Nat) : Int))], stOf [(100, ⟨54, 2, prs R⟩)])) (fun p => l.length - p.1) ⟨0, h', rfl⟩ ?_ (fun ⟨k, hk1, hk2⟩ => ?_)
            · refine weakX [] (of_decide_eq_true rfl) (of_decide_eq_true rfl) ?_
              (simp only [Nat.add_zero, vcW, vcV, vcD, Int.reduceEq, Int.reduceNe, Int.reduceLT, Int.reduceLE, Nat.reduceEqDiff, Nat.reduceAdd, reduceIte, reduceCtorEq, Nat.reduceLT, Nat.reduceLeDiff, eq_self, Option.bind_some, Option.map_some, List.map_cons, List.map_nil, List.length_cons, List.length_nil, Option.getD_some, Option.getD_none, List.all_cons, List.all_nil, List.set_cons_zero, List.set_cons_succ, List.replicate_succ, List.replicate_zero, List.getElem?_cons_zero, List.getElem?_cons_succ, List.drop_succ_cons, List.drop_zero, List.take_succ_cons, List.take_zero, List.map_append, List.nil_append, List.cons_append, Nat.reduceShiftRight, Nat.reduceMod])
              (repeat' first | exact trivial | (with_reducible exact RnB.fxB (ints_fxB _)) | (with_reducible rfl) | (with_reducible refine And.intro ?_ ?_) | (with_reducible refine RnB.bb ?_; simp only [vcW, vcV, vcD, Int.reduceEq, Int.reduceNe, Int.reduceLT, Int.reduceLE, Nat.reduceEqDiff, Nat.reduceAdd, reduceIte, reduceCtorEq, Nat.reduceLT, Nat.reduceLeDiff, eq_self, Option.bind_some, Option.map_some, List.map_cons, List.map_nil, List.length_cons, List.length_nil, Option.getD_some, Option.getD_none, List.all_cons, List.all_nil, List.set_cons_zero, List.set_cons_succ, List.replicate_succ, List.replicate_zero, List.getElem?_cons_zero, List.getElem?_cons_succ, List.drop_succ_cons, List.drop_zero, List.take_succ_cons, List.take_zero, List.map_append, List.nil_append, List.cons_append, Nat.reduceShiftRight, Nat.reduceMod]) | (with_reducible refine RnB.nb ?_; simp only [vcW, vcV, vcD, Int.reduceEq, Int.reduceNe, Int.reduceLT, Int.reduceLE, Nat.reduceEqDiff, Nat.reduceAdd, reduceIte, reduceCtorEq, Nat.reduceLT, Nat.reduceLeDiff, eq_self, Option.bind_some, Option.map_some, List.map_cons, List.map_nil, List.length_cons, List.length_nil, Option.getD_some, Option.getD_none, List.all_cons, List.all_nil, List.set_cons_zero, List.set_cons_succ, List.replicate_succ, List.replicate_zero, List.getElem?_cons_zero, List.getElem?_cons_succ, List.drop_succ_cons, List.drop_zero, List.take_succ_cons, List.take_zero, List.map_append, List.nil_append, List.cons_append, Nat.reduceShiftRight, Nat.reduceMod]) | (with_reducible refine RnB.ii ?_) | (with_reducible refine RnB.app ?_) | (with_reducible refine RnB.fxB ?_; simp only [vcW, vcV, vcD, Int.reduceEq, Int.reduceNe, Int.reduceLT, Int.reduceLE, Nat.reduceEqDiff, Nat.reduceAdd, reduceIte, reduceCtorEq, Nat.reduceLT, Nat.reduceLeDiff, eq_self, Option.bind_some, Option.map_some, List.map_cons, List.map_nil, List.length_cons, List.length_nil, Option.getD_some, Option.getD_none, List.all_cons, List.all_nil, List.set_cons_zero, List.set_cons_succ, List.replicate_succ, List.replicate_zero, List.getElem?_cons_zero, List.getElem?_cons_succ, List.drop_succ_cons, List.drop_zero, List.take_succ_cons, List.take_zero, List.map_append, List.nil_append, List.cons_append, Nat.reduceShiftRight, Nat.reduceMod]) | omega)
              all_goals exact RnB.fxB (prs_fxB _)
            · dsimp only at hk1 hk2 ⊢
              have hke : endR (hitK l t) l.length i (k + 1) = if endR (hitK l t) l.length i k + 1 < l.length ∧ hitK l t (endR (hitK l t) l.length i k + 1) = true then endR (hitK l t) l.length i k + 1 else endR (hitK l t) l.length i k := by rw [endR]
              rw [hk2] at hke
              have hcast : ((i + k : Nat) : Int) + 1 = ((i + k + 1 : Nat) : Int) := by omega
              by_cases hc1 : i + k + 1 < l.length
              · have hc2 : ((i + k + 1 : Nat) : Int) < l.length := by omega
                by_cases hc3 : t ≤ l[i + k + 1]
                · rw [if_pos ⟨hc1, by rw [hkd _ hc1]; exact decide_eq_true hc3⟩] at hke
                  simp only [hcast, hc2, Int.toNat_natCast, ints_get l (i + k + 1) hc1, hc3, vcV, vcD, Int.reduceEq, Int.reduceNe, Int.reduceLT, Int.reduceLE, Nat.reduceEqDiff, Nat.reduceAdd, reduceIte, reduceCtorEq, Nat.reduceLT, Nat.reduceLeDiff, eq_self, Option.bind_some, Option.map_some, List.map_cons, List.map_nil, List.length_cons, List.length_nil, Option.getD_some, Option.getD_none, List.all_cons, List.all_nil, List.set_cons_zero, List.set_cons_succ, List.replicate_succ, List.replicate_zero, List.getElem?_cons_zero, List.getElem?_cons_succ, List.drop_succ_cons, List.drop_zero, List.take_succ_cons, List.take_zero, List.map_append, List.nil_append, List.cons_append, Nat.reduceShiftRight, Nat.reduceMod]
                  (repeat (with_reducible refine And.intro ?_ ?_; focus (first | omega | (unfold I64; omega))))
                  refine ⟨⟨k + 1, by omega, by rw [hke]; omega⟩, by simp only; omega, ?_⟩
                  refine weakX [] (of_decide_eq_true rfl) (of_decide_eq_true rfl) ?_
                  (simp only [← Nat.add_assoc, vcW, vcV, vcD, Int.reduceEq, Int.reduceNe, Int.reduceLT, Int.reduceLE, Nat.reduceEqDiff, Nat.reduceAdd, reduceIte, reduceCtorEq, Nat.reduceLT, Nat.reduceLeDiff, eq_self, Option.bind_some, Option.map_some, List.map_cons, List.map_nil, List.length_cons, List.length_nil, Option.getD_some, Option.getD_none, List.all_cons, List.all_nil, List.set_cons_zero, List.set_cons_succ, List.replicate_succ, List.replicate_zero, List.getElem?_cons_zero, List.getElem?_cons_succ, List.drop_succ_cons, List.drop_zero, List.take_succ_cons, List.take_zero, List.map_append, List.nil_append, List.cons_append, Nat.reduceShiftRight, Nat.reduceMod])
                  (repeat' first | exact trivial | (with_reducible exact RnB.fxB (ints_fxB _)) | (with_reducible rfl) | (with_reducible refine And.intro ?_ ?_) | (with_reducible refine RnB.bb ?_; simp only [vcW, vcV, vcD, Int.reduceEq, Int.reduceNe, Int.reduceLT, Int.reduceLE, Nat.reduceEqDiff, Nat.reduceAdd, reduceIte, reduceCtorEq, Nat.reduceLT, Nat.reduceLeDiff, eq_self, Option.bind_some, Option.map_some, List.map_cons, List.map_nil, List.length_cons, List.length_nil, Option.getD_some, Option.getD_none, List.all_cons, List.all_nil, List.set_cons_zero, List.set_cons_succ, List.replicate_succ, List.replicate_zero, List.getElem?_cons_zero, List.getElem?_cons_succ, List.drop_succ_cons, List.drop_zero, List.take_succ_cons, List.take_zero, List.map_append, List.nil_append, List.cons_append, Nat.reduceShiftRight, Nat.reduceMod]) | (with_reducible refine RnB.nb ?_; simp only [vcW, vcV, vcD, Int.reduceEq, Int.reduceNe, Int.reduceLT, Int.reduceLE, Nat.reduceEqDiff, Nat.reduceAdd, reduceIte, reduceCtorEq, Nat.reduceLT, Nat.reduceLeDiff, eq_self, Option.bind_some, Option.map_some, List.map_cons, List.map_nil, List.length_cons, List.length_nil, Option.getD_some, Option.getD_none, List.all_cons, List.all_nil, List.set_cons_zero, List.set_cons_succ, List.replicate_succ, List.replicate_zero, List.getElem?_cons_zero, List.getElem?_cons_succ, List.drop_succ_cons, List.drop_zero, List.take_succ_cons, List.take_zero, List.map_append, List.nil_append, List.cons_append, Nat.reduceShiftRight, Nat.reduceMod]) | (with_reducible refine RnB.ii ?_) | (with_reducible refine RnB.app ?_) | (with_reducible refine RnB.fxB ?_; simp only [vcW, vcV, vcD, Int.reduceEq, Int.reduceNe, Int.reduceLT, Int.reduceLE, Nat.reduceEqDiff, Nat.reduceAdd, reduceIte, reduceCtorEq, Nat.reduceLT, Nat.reduceLeDiff, eq_self, Option.bind_some, Option.map_some, List.map_cons, List.map_nil, List.length_cons, List.length_nil, Option.getD_some, Option.getD_none, List.all_cons, List.all_nil, List.set_cons_zero, List.set_cons_succ, List.replicate_succ, List.replicate_zero, List.getElem?_cons_zero, List.getElem?_cons_succ, List.drop_succ_cons, List.drop_zero, List.take_succ_cons, List.take_zero, List.map_append, List.nil_append, List.cons_append, Nat.reduceShiftRight, Nat.reduceMod]) | omega)
                  all_goals exact RnB.fxB (prs_fxB _)
                · have hend := endR_stay (kf := hitK l t) (n := l.length) (i := i) (k := k) (by rw [hk2]; rintro ⟨_, q⟩; rw [hkd _ hc1] at q; exact hc3 (of_decide_eq_true q)) l.length (by omega)
                  rw [hend, hk2] at hs
                  have hia : prs (R ++ [((i : Int), ((i + k : Nat) : Int))]) = prs R ++ [.agg [.int .i64 i, .int .i64 ((i + k : Nat) : Int)]] := prs_append _ _
                  simp only [hcast, hc2, Int.toNat_natCast, ints_get l (i + k + 1) hc1, hc3, hll, vcV, vcD, Int.reduceEq, Int.reduceNe, Int.reduceLT, Int.reduceLE, Nat.reduceEqDiff, Nat.reduceAdd, reduceIte, reduceCtorEq, Nat.reduceLT, Nat.reduceLeDiff, eq_self, Option.bind_some, Option.map_some, List.map_cons, List.map_nil, List.length_cons, List.length_nil, Option.getD_some, Option.getD_none, List.all_cons, List.all_nil, List.set_cons_zero, List.set_cons_succ, List.replicate_succ, List.replicate_zero, List.getElem?_cons_zero, List.getElem?_cons_succ, List.drop_succ_cons, List.drop_zero, List.take_succ_cons, List.take_zero, List.map_append, List.nil_append, List.cons_append, Nat.reduceShiftRight, Nat.reduceMod]
                  (repeat (with_reducible refine And.intro ?_ ?_; focus (first | omega | (unfold I64; omega))))
                  refine ⟨⟨i + 1, h'⟩, by simp only; omega, ?_⟩
                  refine weakX [(100, some 55)] (of_decide_eq_true rfl) (of_decide_eq_true rfl) ?_
                  (simp only [hs, hia, hll, List.length_append, vcW, vcV, vcD, Int.reduceEq, Int.reduceNe, Int.reduceLT, Int.reduceLE, Nat.reduceEqDiff, Nat.reduceAdd, reduceIte, reduceCtorEq, Nat.reduceLT, Nat.reduceLeDiff, eq_self, Option.bind_some, Option.map_some, List.map_cons, List.map_nil, List.length_cons, List.length_nil, Option.getD_some, Option.getD_none, List.all_cons, List.all_nil, List.set_cons_zero, List.set_cons_succ, List.replicate_succ, List.replicate_zero, List.getElem?_cons_zero, List.getElem?_cons_succ, List.drop_succ_cons, List.drop_zero, List.take_succ_cons, List.take_zero, List.map_append, List.nil_append, List.cons_append, Nat.reduceShiftRight, Nat.reduceMod])
                  (repeat' first | exact trivial | (with_reducible exact RnB.fxB (ints_fxB _)) | (with_reducible rfl) | (with_reducible refine And.intro ?_ ?_) | (with_reducible refine RnB.bb ?_; simp only [vcW, vcV, vcD, Int.reduceEq, Int.reduceNe, Int.reduceLT, Int.reduceLE, Nat.reduceEqDiff, Nat.reduceAdd, reduceIte, reduceCtorEq, Nat.reduceLT, Nat.reduceLeDiff, eq_self, Option.bind_some, Option.map_some, List.map_cons, List.map_nil, List.length_cons, List.length_nil, Option.getD_some, Option.getD_none, List.all_cons, List.all_nil, List.set_cons_zero, List.set_cons_succ, List.replicate_succ, List.replicate_zero, List.getElem?_cons_zero, List.getElem?_cons_succ, List.drop_succ_cons, List.drop_zero, List.take_succ_cons, List.take_zero, List.map_append, List.nil_append, List.cons_append, Nat.reduceShiftRight, Nat.reduceMod]) | (with_reducible refine RnB.nb ?_; simp only [vcW, vcV, vcD, Int.reduceEq, Int.reduceNe, Int.reduceLT, Int.reduceLE, Nat.reduceEqDiff, Nat.reduceAdd, reduceIte, reduceCtorEq, Nat.reduceLT, Nat.reduceLeDiff, eq_self, Option.bind_some, Option.map_some, List.map_cons, List.map_nil, List.length_cons, List.length_nil, Option.getD_some, Option.getD_none, List.all_cons, List.all_nil, List.set_cons_zero, List.set_cons_succ, List.replicate_succ, List.replicate_zero, List.getElem?_cons_zero, List.getElem?_cons_succ, List.drop_succ_cons, List.drop_zero, List.take_succ_cons, List.take_zero, List.map_append, List.nil_append, List.cons_append, Nat.reduceShiftRight, Nat.reduceMod]) | (with_reducible refine RnB.ii ?_) | (with_reducible refine RnB.app ?_) | (with_reducible refine RnB.fxB ?_; simp only [vcW, vcV, vcD, Int.reduceEq, Int.reduceNe, Int.reduceLT, Int.reduceLE, Nat.reduceEqDiff, Nat.reduceAdd, reduceIte, reduceCtorEq, Nat.reduceLT, Nat.reduceLeDiff, eq_self, Option.bind_some, Option.map_some, List.map_cons, List.map_nil, List.length_cons, List.length_nil, Option.getD_some, Option.getD_none, List.all_cons, List.all_nil, List.set_cons_zero, List.set_cons_succ, List.replicate_succ, List.replicate_zero, List.getElem?_cons_zero, List.getElem?_cons_succ, List.drop_succ_cons, List.drop_zero, List.take_succ_cons, List.take_zero, List.map_append, List.nil_append, List.cons_append, Nat.reduceShiftRight, Nat.reduceMod]) | omega)
                  all_goals first | exact hia.symm | exact RnB.fxB (by rw [← hia]; exact prs_fxB _) | skip
              · have hc2 : ¬ ((i + k + 1 : Nat) : Int) < l.length := by omega
                have hend := endR_stay (kf := hitK l t) (n := l.length) (i := i) (k := k) (by rw [hk2]; rintro ⟨q, _⟩; exact hc1 q) l.length (by omega)
                rw [hend, hk2] at hs
                have hia : prs (R ++ [((i : Int), ((i + k : Nat) : Int))]) = prs R ++ [.agg [.int .i64 i, .int .i64 ((i + k : Nat) : Int)]] := prs_append _ _
                simp only [hcast, hc2, hll, vcV, vcD, Int.reduceEq, Int.reduceNe, Int.reduceLT, Int.reduceLE, Nat.reduceEqDiff, Nat.reduceAdd, reduceIte, reduceCtorEq, Nat.reduceLT, Nat.reduceLeDiff, eq_self, Option.bind_some, Option.map_some, List.map_cons, List.map_nil, List.length_cons, List.length_nil, Option.getD_some, Option.getD_none, List.all_cons, List.all_nil, List.set_cons_zero, List.set_cons_succ, List.replicate_succ, List.replicate_zero, List.getElem?_cons_zero, List.getElem?_cons_succ, List.drop_succ_cons, List.drop_zero, List.take_succ_cons, List.take_zero, List.map_append, List.nil_append, List.cons_append, Nat.reduceShiftRight, Nat.reduceMod]
                (repeat (with_reducible refine And.intro ?_ ?_; focus (first | omega | (unfold I64; omega))))
                refine ⟨⟨i + 1, h'⟩, by simp only; omega, ?_⟩
                refine weakX [(100, some 55)] (of_decide_eq_true rfl) (of_decide_eq_true rfl) ?_
                (simp only [hs, hia, hll, List.length_append, vcW, vcV, vcD, Int.reduceEq, Int.reduceNe, Int.reduceLT, Int.reduceLE, Nat.reduceEqDiff, Nat.reduceAdd, reduceIte, reduceCtorEq, Nat.reduceLT, Nat.reduceLeDiff, eq_self, Option.bind_some, Option.map_some, List.map_cons, List.map_nil, List.length_cons, List.length_nil, Option.getD_some, Option.getD_none, List.all_cons, List.all_nil, List.set_cons_zero, List.set_cons_succ, List.replicate_succ, List.replicate_zero, List.getElem?_cons_zero, List.getElem?_cons_succ, List.drop_succ_cons, List.drop_zero, List.take_succ_cons, List.take_zero, List.map_append, List.nil_append, List.cons_append, Nat.reduceShiftRight, Nat.reduceMod])
                (repeat' first | exact trivial | (with_reducible exact RnB.fxB (ints_fxB _)) | (with_reducible rfl) | (with_reducible refine And.intro ?_ ?_) | (with_reducible refine RnB.bb ?_; simp only [vcW, vcV, vcD, Int.reduceEq, Int.reduceNe, Int.reduceLT, Int.reduceLE, Nat.reduceEqDiff, Nat.reduceAdd, reduceIte, reduceCtorEq, Nat.reduceLT, Nat.reduceLeDiff, eq_self, Option.bind_some, Option.map_some, List.map_cons, List.map_nil, List.length_cons, List.length_nil, Option.getD_some, Option.getD_none, List.all_cons, List.all_nil, List.set_cons_zero, List.set_cons_succ, List.replicate_succ, List.replicate_zero, List.getElem?_cons_zero, List.getElem?_cons_succ, List.drop_succ_cons, List.drop_zero, List.take_succ_cons, List.take_zero, List.map_append, List.nil_append, List.cons_append, Nat.reduceShiftRight, Nat.reduceMod]) | (with_reducible refine RnB.nb ?_; simp only [vcW, vcV, vcD, Int.reduceEq, Int.reduceNe, Int.reduceLT, Int.reduceLE, Nat.reduceEqDiff, Nat.reduceAdd, reduceIte, reduceCtorEq, Nat.reduceLT, Nat.reduceLeDiff, eq_self, Option.bind_some, Option.map_some, List.map_cons, List.map_nil, List.length_cons, List.length_nil, Option.getD_some, Option.getD_none, List.all_cons, List.all_nil, List.set_cons_zero, List.set_cons_succ, List.replicate_succ, List.replicate_zero, List.getElem?_cons_zero, List.getElem?_cons_succ, List.drop_succ_cons, List.drop_zero, List.take_succ_cons, List.take_zero, List.map_append, List.nil_append, List.cons_append, Nat.reduceShiftRight, Nat.reduceMod]) | (with_reducible refine RnB.ii ?_) | (with_reducible refine RnB.app ?_) | (with_reducible refine RnB.fxB ?_; simp only [vcW, vcV, vcD, Int.reduceEq, Int.reduceNe, Int.reduceLT, Int.reduceLE, Nat.reduceEqDiff, Nat.reduceAdd, reduceIte, reduceCtorEq, Nat.reduceLT, Nat.reduceLeDiff, eq_self, Option.bind_some, Option.map_some, List.map_cons, List.map_nil, List.length_cons, List.length_nil, Option.getD_some, Option.getD_none, List.all_cons, List.all_nil, List.set_cons_zero, List.set_cons_succ, List.replicate_succ, List.replicate_zero, List.getElem?_cons_zero, List.getElem?_cons_succ, List.drop_succ_cons, List.drop_zero, List.take_succ_cons, List.take_zero, List.map_append, List.nil_append, List.cons_append, Nat.reduceShiftRight, Nat.reduceMod]) | omega)
                all_goals first | exact hia.symm | exact RnB.fxB (by rw [← hia]; exact prs_fxB _) | skip
    · have h5 : ¬ (i : Int) < l.length := by omega
      have hin : i = l.length := by omega
      subst hin
      simp only [h5, vcV, vcD, Int.reduceEq, Int.reduceNe, Int.reduceLT, Int.reduceLE, Nat.reduceEqDiff, Nat.reduceAdd, reduceIte, reduceCtorEq, Nat.reduceLT, Nat.reduceLeDiff, eq_self, Option.bind_some, Option.map_some, List.map_cons, List.map_nil, List.length_cons, List.length_nil, Option.getD_some, Option.getD_none, List.all_cons, List.all_nil, List.set_cons_zero, List.set_cons_succ, List.replicate_succ, List.replicate_zero, List.getElem?_cons_zero, List.getElem?_cons_succ, List.drop_succ_cons, List.drop_zero, List.take_succ_cons, List.take_zero, List.map_append, List.nil_append, List.cons_append, Nat.reduceShiftRight, Nat.reduceMod]
      rw [borB_good _ _ _ _ _ (by rw [prs_length]) (prs_fx _)]
theorem Ranges_s (a : List (Int × Int)) (ha : a.length ≤ 1000000) : Sound Tryd.prog 48 [.sl (prs a), .sl (prs a)] (.bool true) := by
  refine sound_W f_base_Ranges (Nat.le_of_ble_eq_true rfl) ?_
  simp only [c_base_Ranges, prs_length, vcV, vcD, Int.reduceEq, Int.reduceNe, Int.reduceLT, Int.reduceLE, Nat.reduceEqDiff, Nat.reduceAdd, reduceIte, reduceCtorEq, Nat.reduceLT, Nat.reduceLeDiff, eq_self, Option.bind_some, Option.map_some, List.map_cons, List.map_nil, List.length_cons, List.length_nil, Option.getD_some, Option.getD_none, List.all_cons, List.all_nil, List.set_cons_zero, List.set_cons_succ, List.replicate_succ, List.replicate_zero, List.getElem?_cons_zero, List.getElem?_cons_succ, List.drop_succ_cons, List.drop_zero, List.take_succ_cons, List.take_zero, List.map_append, List.nil_append, List.cons_append, Nat.reduceShiftRight, Nat.reduceMod]
  refine W_loop (t := .mk) (α := PSigma fun i : Nat => i ≤ a.length) (fun ⟨i, _⟩ => (envOf [(0, .sl (prs a)), (1, .sl (prs a)), (5, .int .i64 i)], stOf [])) (fun p => a.length - p.1) ⟨0, Nat.zero_le _⟩ ?_ (fun ⟨i, hi⟩ => ?_)
  · refine weakX [] (of_decide_eq_true rfl) (of_decide_eq_true rfl) ?_
    (simp only [vcW, vcV, vcD, Int.reduceEq, Int.reduceNe, Int.reduceLT, Int.reduceLE, Nat.reduceEqDiff, Nat.reduceAdd, reduceIte, reduceCtorEq, Nat.reduceLT, Nat.reduceLeDiff, eq_self, Option.bind_some, Option.map_some, List.map_cons, List.map_nil, List.length_cons, List.length_nil, Option.getD_some, Option.getD_none, List.all_cons, List.all_nil, List.set_cons_zero, List.set_cons_succ, List.replicate_succ, List.replicate_zero, List.getElem?_cons_zero, List.getElem?_cons_succ, List.drop_succ_cons, List.drop_zero, List.take_succ_cons, List.take_zero, List.map_append, List.nil_append, List.cons_append, Nat.reduceShiftRight, Nat.reduceMod])
    (repeat' first | exact trivial | (with_reducible exact RnB.fxB (ints_fxB _)) | (with_reducible rfl) | (with_reducible refine And.intro ?_ ?_) | (with_reducible refine RnB.bb ?_; simp only [vcW, vcV, vcD, Int.reduceEq, Int.reduceNe, Int.reduceLT, Int.reduceLE, Nat.reduceEqDiff, Nat.reduceAdd, reduceIte, reduceCtorEq, Nat.reduceLT, Nat.reduceLeDiff, eq_self, Option.bind_some, Option.map_some, List.map_cons, List.map_nil, List.length_cons, List.length_nil, Option.getD_some, Option.getD_none, List.all_cons, List.all_nil, List.set_cons_zero, List.set_cons_succ, List.replicate_succ, List.replicate_zero, List.getElem?_cons_zero, List.getElem?_cons_succ, List.drop_succ_cons, List.drop_zero, List.take_succ_cons, List.take_zero, List.map_append, List.nil_append, List.cons_append, Nat.reduceShiftRight, Nat.reduceMod]) | (with_reducible refine RnB.nb ?_; simp only [vcW, vcV, vcD, Int.reduceEq, Int.reduceNe, Int.reduceLT, Int.reduceLE, Nat.reduceEqDiff, Nat.reduceAdd, reduceIte, reduceCtorEq, Nat.reduceLT, Nat.reduceLeDiff, eq_self, Option.bind_some, Option.map_some, List.map_cons, List.map_nil, List.length_cons, List.length_nil, Option.getD_some, Option.getD_none, List.all_cons, List.all_nil, List.set_cons_zero, List.set_cons_succ, List.replicate_succ, List.replicate_zero, List.getElem?_cons_zero, List.getElem?_cons_succ, List.drop_succ_cons, List.drop_zero, List.take_succ_cons, List.take_zero, List.map_append, List.nil_append, List.cons_append, Nat.reduceShiftRight, Nat.reduceMod]) | (with_reducible refine RnB.ii ?_) | (with_reducible refine RnB.app ?_) | (with_reducible refine RnB.fxB ?_; simp only [vcW, vcV, vcD, Int.reduceEq, Int.reduceNe, Int.reduceLT, Int.reduceLE, Nat.reduceEqDiff, Nat.reduceAdd, reduceIte, reduceCtorEq, Nat.reduceLT, Nat.reduceLeDiff, eq_self, Option.bind_some, Option.map_some, List.map_cons, List.map_nil, List.length_cons, List.length_nil, Option.getD_some, Option.getD_none, List.all_cons, List.all_nil, List.set_cons_zero, List.set_cons_succ, List.replicate_succ, List.replicate_zero, List.getElem?_cons_zero, List.getElem?_cons_succ, List.drop_succ_cons, List.drop_zero, List.take_succ_cons, List.take_zero, List.map_append, List.nil_append, List.cons_append, Nat.reduceShiftRight, Nat.reduceMod]) | omega)
  · dsimp only at hi ⊢
    by_cases h' : i < a.length
    · have h5 : (i : Int) < a.length := by omega
      simp only [h5, prs_length, prs_get a i h', vcV, vcD, Int.reduceEq, Int.reduceNe, Int.reduceLT, Int.reduceLE, Nat.reduceEqDiff, Nat.reduceAdd, reduceIte, reduceCtorEq, Nat.reduceLT, Nat.reduceLeDiff, eq_self, Option.bind_some, Option.map_some, List.map_cons, List.map_nil, List.length_cons, List.length_nil, Option.getD_some, Option.getD_none, List.all_cons, List.all_nil, List.set_cons_zero, List.set_cons_succ, List.replicate_succ, List.replicate_zero, List.getElem?_cons_zero, List.getElem?_cons_succ, List.drop_succ_cons, List.drop_zero, List.take_succ_cons, List.take_zero, List.map_append, List.nil_append, List.cons_append, Nat.reduceShiftRight, Nat.reduceMod]
      (repeat (with_reducible refine And.intro ?_ ?_; focus (first | omega | (unfold I64; omega))))
      refine ⟨⟨i + 1, h'⟩, by simp only; omega, ?_⟩
      refine weakX [] (of_decide_eq_true rfl) (of_decide_eq_true rfl) ?_
      (simp only [vcW, vcV, vcD, Int.reduceEq, Int.reduceNe, Int.reduceLT, Int.reduceLE, Nat.reduceEqDiff, Nat.reduceAdd, reduceIte, reduceCtorEq, Nat.reduceLT, Nat.reduceLeDiff, eq_self, Option.bind_some, Option.map_some, List.map_cons, List.map_nil, List.length_cons, List.length_nil, Option.getD_some, Option.getD_none, List.all_cons, List.all_nil, List.set_cons_zero, List.set_cons_succ, List.replicate_succ, List.replicate_zero, List.getElem?_cons_zero, List.getElem?_cons_succ, List.drop_succ_cons, List.drop_zero, List.take_succ_cons, List.take_zero, List.map_append, List.nil_append, List.cons_append, Nat.reduceShiftRight, Nat.reduceMod])
      (repeat' first | exact trivial | (with_reducible exact RnB.fxB (ints_fxB _)) | (with_reducible rfl) | (with_reducible refine And.intro ?_ ?_) | (with_reducible refine RnB.bb ?_; simp only [vcW, vcV, vcD, Int.reduceEq, Int.reduceNe, Int.reduceLT, Int.reduceLE, Nat.reduceEqDiff, Nat.reduceAdd, reduceIte, reduceCtorEq, Nat.reduceLT, Nat.reduceLeDiff, eq_self, Option.bind_some, Option.map_some, List.map_cons, List.map_nil, List.length_cons, List.length_nil, Option.getD_some, Option.getD_none, List.all_cons, List.all_nil, List.set_cons_zero, List.set_cons_succ, List.replicate_succ, List.replicate_zero, List.getElem?_cons_zero, List.getElem?_cons_succ, List.drop_succ_cons, List.drop_zero, List.take_succ_cons, List.take_zero, List.map_append, List.nil_append, List.cons_append, Nat.reduceShiftRight, Nat.reduceMod]) | (with_reducible refine RnB.nb ?_; simp only [vcW, vcV, vcD, Int.reduceEq, Int.reduceNe, Int.reduceLT, Int.reduceLE, Nat.reduceEqDiff, Nat.reduceAdd, reduceIte, reduceCtorEq, Nat.reduceLT, Nat.reduceLeDiff, eq_self, Option.bind_some, Option.map_some, List.map_cons, List.map_nil, List.length_cons, List.length_nil, Option.getD_some, Option.getD_none, List.all_cons, List.all_nil, List.set_cons_zero, List.set_cons_succ, List.replicate_succ, List.replicate_zero, List.getElem?_cons_zero, List.getElem?_cons_succ, List.drop_succ_cons, List.drop_zero, List.take_succ_cons, List.take_zero, List.map_append, List.nil_append, List.cons_append, Nat.reduceShiftRight, Nat.reduceMod]) | (with_reducible refine RnB.ii ?_) | (with_reducible refine RnB.app ?_) | (with_reducible refine RnB.fxB ?_; simp only [vcW, vcV, vcD, Int.reduceEq, Int.reduceNe, Int.reduceLT, Int.reduceLE, Nat.reduceEqDiff, Nat.reduceAdd, reduceIte, reduceCtorEq, Nat.reduceLT, Nat.reduceLeDiff, eq_self, Option.bind_some, Option.map_some, List.map_cons, List.map_nil, List.length_cons, List.length_nil, Option.getD_some, Option.getD_none, List.all_cons, List.all_nil, List.set_cons_zero, List.set_cons_succ, List.replicate_succ, List.replicate_zero, List.getElem?_cons_zero, List.getElem?_cons_succ, List.drop_succ_cons, List.drop_zero, List.take_succ_cons, List.take_zero, List.map_append, List.nil_append, List.cons_append, Nat.reduceShiftRight, Nat.reduceMod]) | omega)
    · have h5 : ¬ (i : Int) < a.length := by omega
      simp only [h5, prs_length, vcV, vcD, Int.reduceEq, Int.reduceNe, Int.reduceLT, Int.reduceLE, Nat.reduceEqDiff, Nat.reduceAdd, reduceIte, reduceCtorEq, Nat.reduceLT, Nat.reduceLeDiff, eq_self, Option.bind_some, Option.map_some, List.map_cons, List.map_nil, List.length_cons, List.length_nil, Option.getD_some, Option.getD_none, List.all_cons, List.all_nil, List.set_cons_zero, List.set_cons_succ, List.replicate_succ, List.replicate_zero, List.getElem?_cons_zero, List.getElem?_cons_succ, List.drop_succ_cons, List.drop_zero, List.take_succ_cons, List.take_zero, List.map_append, List.nil_append, List.cons_append, Nat.reduceShiftRight, Nat.reduceMod]

end Go.Proofs.YtddiingfddlaaaaDoor

/- Contracts off the library's shelf: slices.Clone. By an AI agent; nothing here is trusted. -/
namespace Go.Proofs.YtddiingfddlaaaaDoor
open Go.Av
open Go.RowKit (Below)

def cloneRen : Go.Shelf.Ren := ⟨fun x => match x with | 15 => 104 | n => n, fun x => match x with | 22 => 22 | 3 => 3 | 4 => 4 | n => n, fun x => x⟩
set_option maxRecDepth 100000 in
theorem cloneFn : Tryd.prog.funcs[cloneRen.f 15]? = some (Go.Proofs.Body2.n15 cloneRen) := by kernel_rfl
theorem cloneLay : Go.Proofs.Lays2.n15 Tryd.prog cloneRen :=
  { mixed := by kernel_rfl, f15 := cloneFn,
    t3 := Tryd.underlying3, a3 := Tryd.isAgg3, z3 := Tryd.sizeOf3, v3 := Tryd.zeroValue3, t4 := Tryd.underlying4,
    a4 := Tryd.isAgg4, z4 := Tryd.sizeOf4, v4 := Tryd.zeroValue4, t22 := Tryd.underlying22, a22 := Tryd.isAgg22,
    z22 := Tryd.sizeOf22, v22 := Tryd.zeroValue22, i3 := by kernel_rfl }

theorem ints_at {l : List Int} {i : Nat} {x : AV} (h : (ints l)[i]? = some x) : ∃ hi : i < l.length, x = .int .i64 l[i] := by
  have hi : i < l.length := by
    have := (List.getElem?_eq_some_iff.1 h).1
    rw [ints_length] at this; exact this
  rw [ints_get l i hi] at h
  exact ⟨hi, by injection h with h; exact h.symm⟩
theorem own_sl {w' : World} {B : Nat} {e : TypeId} {v : Value} {l : List Int} {ok : Nat → Prop} (h : w'.ownsRow B e 1 v l.length (l.map (Value.int .i64))) :
    VR w'.heap (fun b => ok b ∨ (B ≤ b ∧ b < w'.heap.size)) noPlace noStore (.sl (ints l)) v := by
  obtain ⟨_, h⟩ := h
  rcases h with ⟨rfl, hn⟩ | ⟨g, cap, cur, rfl, hg, hb, hn, hcap, hcur, hx⟩
  · have : l = [] := List.eq_nil_of_length_eq_zero hn
    subst this
    exact .sl0 none 0
  · have hlen : (ints l).length = l.length := ints_length l
    rw [← hlen] at hn ⊢
    refine .sl (ints l) g 0 1 cap cur e (0, 0) (fun i _ => .int .i64 (l.getD i 0)) (.inr ⟨hg, (Array.getElem?_eq_some_iff.1 hb).1⟩) hn hb ?_ ?_ ?_
    · intro i x hi
      obtain ⟨_, rfl⟩ := ints_at hi
      exact ⟨rfl, fun c hc => by rw [List.mem_singleton.1 hc]; rfl, rfl⟩
    · intro i x o c hi ho
      obtain ⟨hil, rfl⟩ := ints_at hi
      have h0 : o = 0 := by
        cases o with
        | zero => rfl
        | succ o => simp [cellsOf] at ho
      subst h0
      have h1 : (cur.toList.take (l.length * 1))[i]? = (l.map (Value.int .i64))[i]? := by rw [hx]
      rw [List.getElem?_take, if_pos (by omega), Array.getElem?_toList, List.getElem?_map, List.getElem?_eq_getElem hil] at h1
      show cur[0 + i * 1 + 0]? = some (.int .i64 (l.getD i 0))
      rw [show 0 + i * 1 + 0 = i by omega, h1]
      simp [List.getD, List.getElem?_eq_getElem hil]
    · intro i x o c hi ho
      obtain ⟨hil, rfl⟩ := ints_at hi
      cases o with
      | zero =>
        simp [cellsOf] at ho
        subst ho
        show VR _ _ _ _ _ (.int .i64 (l.getD i 0))
        rw [show l.getD i 0 = l[i] by simp [List.getD, List.getElem?_eq_getElem hil]]
        exact .int _ _
      | succ o => simp [cellsOf] at ho

theorem Clone_s (l : List Int) (hl : l.length ≤ 1000000000) : Sound Tryd.prog 104 [.sl (ints l)] (.sl (ints l)) := by
  intro w ok cargs hok _ hlen hargs
  have h0 := hargs 0 _ rfl
  have hc1 : cargs = #[cargs.getD 0 undef] := by
    apply Array.ext
    · simpa using hlen
    · intro i h1 h2
      simp at h2
      subst h2
      simp [Array.getD, h1]
  rw [hc1]
  generalize cargs.getD 0 undef = v at h0
  have hin : ∀ v, (callFunc 104 #[v]).run Tryd.prog w = .ok (.enter 104 #[v]) w := fun v =>
    Go.Av.callFunc_enter Tryd.func104 (by kernel_rfl) rfl #[v]
  cases l with
  | nil =>
    have h1 : VR w.heap ok noPlace noStore (.sl []) v := h0
    show CallsF _ _ _ _ fun cv w' => Below w.heap.size w w' ∧ VR w'.heap (fun b => ok b ∨ (w.heap.size ≤ b ∧ b < w'.heap.size)) noPlace noStore (.sl (ints [])) cv
    cases h1 with
    | sl0 a cap =>
      cases a with
      | none =>
        refine .inr ⟨hin _, (Any.slices_Clone_int_nil cloneLay 0 cap w).mono fun e w' ⟨he, hw⟩ => ⟨_, he, ?_, ?_⟩⟩
        · rw [hw]; exact Below.refl _ _
        · exact .sl0 none 0
      | some a =>
        refine .inr ⟨hin _, (Any.slices_Clone_int_zero cloneLay a cap w).mono fun e w' ⟨v', he, ho, _, hB⟩ => ⟨v', he, hB, ?_⟩⟩
        exact own_sl (l := []) ho
    | sl _ b off s cap cur ty fr vals hok' hcap hb hs hc hv =>
      refine .inr ⟨hin _, (Any.slices_Clone_int_zero cloneLay ⟨b, off, none⟩ cap w).mono fun e w' ⟨v', he, ho, _, hB⟩ => ⟨v', he, hB, ?_⟩⟩
      exact own_sl (l := []) ho
  | cons x r =>
    have hpos : 0 < (x :: r).length := by simp
    generalize x :: r = l at *
    generalize hes : ints l = es at h0
    cases h0 with
    | sl0 a cap => rw [← ints_length, hes] at hpos; simp at hpos
    | sl _ b off s cap cur ty fr vals hok' hcap hb hs hc hv =>
      subst hes
      have hs1 : s = 1 := (hs 0 _ (ints_get l 0 hpos)).1.symm
      subst hs1
      have hcell : ∀ j, j < l.length → w.cell? ⟨b, off + j, none⟩ = some (.int .i64 (l.getD j 0)) := by
        intro j hj
        have h1 := hc j _ 0 _ (ints_get l j hj) rfl
        have h2 := hv j _ 0 _ (ints_get l j hj) rfl
        generalize vals j 0 = u at h1 h2
        cases h2
        rw [show off + j * 1 + 0 = off + j by omega] at h1
        simp [World.cell?, hb, h1, List.getD, List.getElem?_eq_getElem hj]
      have hlen : (ints l).length = l.length := ints_length l
      rw [hlen]
      refine .inr ⟨hin _, (Any.slices_Clone_int cloneLay b off l.length cap l w (Nat.le_refl _) (by omega) hcell).mono fun e w' ⟨v', he, ho, _, hB⟩ => ⟨v', he, hB, ?_⟩⟩
      rw [List.take_length] at ho
      exact own_sl ho

/-- The clone is the caller's. -/
theorem own_o {w w' : World} {ok : Nat → Prop} {e : Nat} {v : Value} {l : List Int} (h : w'.ownsRow w.heap.size e 1 v l.length (l.map (Value.int .i64))) : OwnR w w' ok e 1 (ints l) v := by
  obtain ⟨_, h⟩ := h
  rcases h with ⟨rfl, hn⟩ | ⟨g, cap, cur, rfl, hg, hb, hn, hcap, hcur, hx⟩
  · have : l = [] := List.eq_nil_of_length_eq_zero hn
    subst this
    exact .inl ⟨rfl, none, rfl⟩
  · have hlen : (ints l).length = l.length := ints_length l
    rw [← hlen] at hn ⊢
    refine .inr ⟨g, cap, cur, rfl, hg, hb, hn, hcap, hcur, fun i x hi => ?_⟩
    obtain ⟨hil, rfl⟩ := ints_at hi
    refine ⟨rfl, fun c hc => by rw [List.mem_singleton.1 hc]; rfl, fun o c ho => ?_⟩
    cases o with
    | zero =>
      simp [cellsOf] at ho
      subst ho
      have h1 : (cur.toList.take (l.length * 1))[i]? = (l.map (Value.int .i64))[i]? := by rw [hx]
      rw [List.getElem?_take, if_pos (by omega), Array.getElem?_toList, List.getElem?_map, List.getElem?_eq_getElem hil] at h1
      exact ⟨_, by rw [show i * 1 + 0 = i by omega]; exact h1, .int _ _⟩
    | succ o => simp [cellsOf] at ho
theorem Clone_o (l : List Int) (hl : l.length ≤ 1000000000) : SoundO Tryd.prog 104 [.sl (ints l)] 3 1 (ints l) := by
  refine ⟨by omega, ?_⟩
  intro w ok cargs hok _ hlen hargs
  have h0 := hargs 0 _ rfl
  have hc1 : cargs = #[cargs.getD 0 undef] := by
    apply Array.ext
    · simpa using hlen
    · intro i h1 h2
      simp at h2
      subst h2
      simp [Array.getD, h1]
  rw [hc1]
  generalize cargs.getD 0 undef = v at h0
  have hin : ∀ v, (callFunc 104 #[v]).run Tryd.prog w = .ok (.enter 104 #[v]) w := fun v =>
    Go.Av.callFunc_enter Tryd.func104 (by kernel_rfl) rfl #[v]
  cases l with
  | nil =>
    have h1 : VR w.heap ok noPlace noStore (.sl []) v := h0
    show CallsF _ _ _ _ fun cv w' => Below w.heap.size w w' ∧ OwnR w w' ok 3 1 (ints []) cv
    cases h1 with
    | sl0 a cap =>
      cases a with
      | none =>
        refine .inr ⟨hin _, (Any.slices_Clone_int_nil cloneLay 0 cap w).mono fun e w' ⟨he, hw⟩ => ⟨_, he, ?_, ?_⟩⟩
        · rw [hw]; exact Below.refl _ _
        · exact .inl ⟨rfl, none, rfl⟩
      | some a =>
        refine .inr ⟨hin _, (Any.slices_Clone_int_zero cloneLay a cap w).mono fun e w' ⟨v', he, ho, _, hB⟩ => ⟨v', he, hB, ?_⟩⟩
        exact own_o (l := []) ho
    | sl _ b off s cap cur ty fr vals hok' hcap hb hs hc hv =>
      refine .inr ⟨hin _, (Any.slices_Clone_int_zero cloneLay ⟨b, off, none⟩ cap w).mono fun e w' ⟨v', he, ho, _, hB⟩ => ⟨v', he, hB, ?_⟩⟩
      exact own_o (l := []) ho
  | cons x r =>
    have hpos : 0 < (x :: r).length := by simp
    generalize x :: r = l at *
    generalize hes : ints l = es at h0
    cases h0 with
    | sl0 a cap => rw [← ints_length, hes] at hpos; simp at hpos
    | sl _ b off s cap cur ty fr vals hok' hcap hb hs hc hv =>
      subst hes
      have hs1 : s = 1 := (hs 0 _ (ints_get l 0 hpos)).1.symm
      subst hs1
      have hcell : ∀ j, j < l.length → w.cell? ⟨b, off + j, none⟩ = some (.int .i64 (l.getD j 0)) := by
        intro j hj
        have h1 := hc j _ 0 _ (ints_get l j hj) rfl
        have h2 := hv j _ 0 _ (ints_get l j hj) rfl
        generalize vals j 0 = u at h1 h2
        cases h2
        rw [show off + j * 1 + 0 = off + j by omega] at h1
        simp [World.cell?, hb, h1, List.getD, List.getElem?_eq_getElem hj]
      have hlen : (ints l).length = l.length := ints_length l
      rw [hlen]
      refine .inr ⟨hin _, (Any.slices_Clone_int cloneLay b off l.length cap l w (Nat.le_refl _) (by omega) hcell).mono fun e w' ⟨v', he, ho, _, hB⟩ => ⟨v', he, hB, ?_⟩⟩
      rw [List.take_length] at ho
      exact own_o ho
end Go.Proofs.YtddiingfddlaaaaDoor

/- Contracts of functions without a body: bits.Add64, bits.Sub64. By an AI agent; nothing here is trusted. -/
namespace Go.Proofs.YtddiingfddlaaaaDoor
open Go.Av
open Go.RowKit (Below)

theorem args3 {h : Array Obj} {ok : Nat → Prop} {cargs : Array Value} {a b c : Int} (hlen : cargs.size = 3) (hargs : ∀ (i : Nat) (x : AV), [AV.int .u64 a, .int .u64 b, .int .u64 c][i]? = some x → VR h ok noPlace noStore x (cargs.getD i undef)) :
    cargs = #[.int .u64 a, .int .u64 b, .int .u64 c] := by
  have h0 := hargs 0 _ rfl
  have h1 := hargs 1 _ rfl
  have h2 := hargs 2 _ rfl
  have e0 : cargs.getD 0 undef = .int .u64 a := by generalize cargs.getD 0 undef = v at *; cases h0; rfl
  have e1 : cargs.getD 1 undef = .int .u64 b := by generalize cargs.getD 1 undef = v at *; cases h1; rfl
  have e2 : cargs.getD 2 undef = .int .u64 c := by generalize cargs.getD 2 undef = v at *; cases h2; rfl
  apply Array.ext
  · simpa using hlen
  · intro i hi1 hi2
    simp at hi2
    have : i = 0 ∨ i = 1 ∨ i = 2 := by omega
    rcases this with rfl | rfl | rfl
    · simpa [Array.getD, hi1] using e0
    · simpa [Array.getD, hi1] using e1
    · simpa [Array.getD, hi1] using e2
theorem tup2 {h : Array Obj} {ok : Nat → Prop} (a b : Int) : VR h ok noPlace noStore (.tup [.int .u64 a, .int .u64 b]) (.tuple #[.int .u64 a, .int .u64 b]) := by
  refine .tup _ _ rfl fun i c hc => ?_
  match i with
  | 0 => simp at hc; subst hc; exact .int _ _
  | 1 => simp at hc; subst hc; exact .int _ _
  | i + 2 => simp at hc
theorem Add64_s (x y c : Int) (hx : 0 ≤ x) (hy : 0 ≤ y) (hc : 0 ≤ c ∧ c ≤ 1) : Sound Tryd.prog 109 [.int .u64 x, .int .u64 y, .int .u64 c]
    (.tup [.int .u64 ((x + y + c) % 18446744073709551616), .int .u64 ((x + y + c) / 18446744073709551616)]) := by
  intro w ok cargs hok _ hlen hargs
  rw [args3 (by simpa using hlen) hargs]
  refine .inl ⟨_, w, ?_, Below.refl _ _, tup2 _ _⟩
  rw [run_callFunc_extern Tryd.func109 (by kernel_rfl) (by kernel_rfl) (by kernel_rfl) (e := add64Entry) (by kernel_rfl), run_add64 x y c hx hy hc.1 hc.2]
  rfl
theorem Sub64_s (x y b : Nat) (hb : b ≤ 1) : Sound Tryd.prog 111 [.int .u64 (x : Int), .int .u64 (y : Int), .int .u64 (b : Int)]
    (.tup [.int .u64 (((x + 18446744073709551616 - y - b) % 18446744073709551616 : Nat) : Int), .int .u64 ((if x < y + b then 1 else 0 : Nat) : Int)]) := by
  intro w ok cargs hok _ hlen hargs
  rw [args3 (by simpa using hlen) hargs]
  refine .inl ⟨_, w, ?_, Below.refl _ _, tup2 _ _⟩
  rw [run_callFunc_extern Tryd.func111 (by kernel_rfl) (by kernel_rfl) (by kernel_rfl) (e := sub64Entry) (by kernel_rfl), run_sub64 x y b hb]
  rfl
end Go.Proofs.YtddiingfddlaaaaDoor

/- The examples of chapter 2, by running the abstract code; an iterator from the end on. By an AI agent; nothing here is trusted. -/
namespace Go.Proofs.YtddiingfddlaaaaDoor
open Go.Av

/-- A number of 128 bits, as the code holds it. -/
def w128 (p : Bool × Int × Int) : AV := .agg [.bool p.1, .int .u64 p.2.1, .int .u64 p.2.2]
def w128s (l : List (Bool × Int × Int)) : List AV := l.map w128
theorem w128s_length (l : List (Bool × Int × Int)) : (w128s l).length = l.length := by simp [w128s]
theorem w128s_get (l : List (Bool × Int × Int)) (i : Nat) (h : i < l.length) : (w128s l)[i]? = some (.agg [.bool l[i].1, .int .u64 l[i].2.1, .int .u64 l[i].2.2]) := by
  simp [w128s, w128, h]
/-- What slices.Backward yields. -/
def backL (l : List (Bool × Int × Int)) : Nat → List (List AV)
  | 0 => []
  | k + 1 => backL l k ++ [[.int .i64 ((l.length : Int) - 1 - k), w128 (l.getD (l.length - 1 - k) default)]]
theorem backL_le (l : List (Bool × Int × Int)) (k n : Nat) (h : k ≤ n) : ∃ r, backL l n = backL l k ++ r := by
  obtain ⟨m, rfl⟩ := Nat.exists_eq_add_of_le h
  induction m with
  | zero => exact ⟨[], by simp⟩
  | succ m ih =>
    obtain ⟨r, hr⟩ := ih (by omega)
    exact ⟨r ++ [[.int .i64 ((l.length : Int) - 1 - (k + m : Nat)), w128 (l.getD (l.length - 1 - (k + m)) default)]], by rw [← Nat.add_assoc, backL, hr, List.append_assoc]⟩
theorem deadAll_no : deadAll noStore = noStore := rfl
theorem backward_s (l : List (Bool × Int × Int)) (hl : l.length ≤ 1000000) : SeqA Tryd.prog 124 [.eptr (.sl (w128s l)) 0] (backL l l.length) := by
  refine seq_W f_slices_Backward_pulse_wide_pulse_wide_1 (Nat.le_of_ble_eq_true rfl) fun y => ?_
  simp only [c_slices_Backward_pulse_wide_pulse_wide_1, w128s_length, vcC, Int.reduceEq, Int.reduceNe, Int.reduceLT, Int.reduceLE, Nat.reduceEqDiff, Nat.reduceAdd, reduceIte, reduceCtorEq, Nat.reduceLT, Nat.reduceLeDiff, eq_self, Option.bind_some, Option.map_some, List.map_cons, List.map_nil, List.length_cons, List.length_nil, Option.getD_some, Option.getD_none, List.all_cons, List.all_nil, List.set_cons_zero, List.set_cons_succ, List.replicate_succ, List.replicate_zero, List.getElem?_cons_zero, List.getElem?_cons_succ, List.drop_succ_cons, List.drop_zero, List.take_succ_cons, List.take_zero, WY_skip, WY_reg, WY_regY, WY_seq, WY_cond, WY_block, WY_exit, WY_ret, VY_nil, VY_yld, VY_yldg, VY_ps, seqY_n, seqY_r, seqY_x, blockY_n, blockY_r, blockY_x, isCallvs, isCallv, isY, List.any_cons, List.any_nil, Bool.or_false, Bool.or_true, Bool.false_or, Bool.and_false, Bool.false_and]
  refine ⟨by unfold I64; omega, ?_⟩
  refine WY_loop (α := PSigma fun k : Nat => k ≤ l.length) (fun k => ((envOf [(0, .yld y), (1, .eptr (.sl (w128s l)) 0), (3, .int .i64 ((l.length : Int) - 1 - k.1))], noStore), some (backL l k.1)))
    (fun k => l.length - k.1) ⟨0, by simp⟩ (weakE _ ?_) ?_ (fun ⟨k, hk⟩ => ?_)
  · simp only [vcC, Int.reduceEq, Int.reduceNe, Int.reduceLT, Int.reduceLE, Nat.reduceEqDiff, Nat.reduceAdd, reduceIte, reduceCtorEq, Nat.reduceLT, Nat.reduceLeDiff, eq_self, Option.bind_some, Option.map_some, List.map_cons, List.map_nil, List.length_cons, List.length_nil, Option.getD_some, Option.getD_none, List.all_cons, List.all_nil, List.set_cons_zero, List.set_cons_succ, List.replicate_succ, List.replicate_zero, List.getElem?_cons_zero, List.getElem?_cons_succ, List.drop_succ_cons, List.drop_zero, List.take_succ_cons, List.take_zero, WY_skip, WY_reg, WY_regY, WY_seq, WY_cond, WY_block, WY_exit, WY_ret, VY_nil, VY_yld, VY_yldg, VY_ps, seqY_n, seqY_r, seqY_x, blockY_n, blockY_r, blockY_x, isCallvs, isCallv, isY, List.any_cons, List.any_nil, Bool.or_false, Bool.or_true, Bool.false_or, Bool.and_false, Bool.false_and]; simp
  · simp [backL]
  · simp only [vcC, Int.reduceEq, Int.reduceNe, Int.reduceLT, Int.reduceLE, Nat.reduceEqDiff, Nat.reduceAdd, reduceIte, reduceCtorEq, Nat.reduceLT, Nat.reduceLeDiff, eq_self, Option.bind_some, Option.map_some, List.map_cons, List.map_nil, List.length_cons, List.length_nil, Option.getD_some, Option.getD_none, List.all_cons, List.all_nil, List.set_cons_zero, List.set_cons_succ, List.replicate_succ, List.replicate_zero, List.getElem?_cons_zero, List.getElem?_cons_succ, List.drop_succ_cons, List.drop_zero, List.take_succ_cons, List.take_zero, WY_skip, WY_reg, WY_regY, WY_seq, WY_cond, WY_block, WY_exit, WY_ret, VY_nil, VY_yld, VY_yldg, VY_ps, seqY_n, seqY_r, seqY_x, blockY_n, blockY_r, blockY_x, isCallvs, isCallv, isY, List.any_cons, List.any_nil, Bool.or_false, Bool.or_true, Bool.false_or, Bool.and_false, Bool.false_and]
    refine brB_split (fun h => ?_) (fun h => ?_)
    · have h' : k < l.length := by simp only [decide_eq_true_eq] at h; omega
      have h2 : ((l.length : Int) - 1 - k).toNat = l.length - 1 - k := by omega
      have hg := w128s_get l (l.length - 1 - k) (by omega)
      simp only [h2, hg, vcC, Int.reduceEq, Int.reduceNe, Int.reduceLT, Int.reduceLE, Nat.reduceEqDiff, Nat.reduceAdd, reduceIte, reduceCtorEq, Nat.reduceLT, Nat.reduceLeDiff, eq_self, Option.bind_some, Option.map_some, List.map_cons, List.map_nil, List.length_cons, List.length_nil, Option.getD_some, Option.getD_none, List.all_cons, List.all_nil, List.set_cons_zero, List.set_cons_succ, List.replicate_succ, List.replicate_zero, List.getElem?_cons_zero, List.getElem?_cons_succ, List.drop_succ_cons, List.drop_zero, List.take_succ_cons, List.take_zero, WY_skip, WY_reg, WY_regY, WY_seq, WY_cond, WY_block, WY_exit, WY_ret, VY_nil, VY_yld, VY_yldg, VY_ps, seqY_n, seqY_r, seqY_x, blockY_n, blockY_r, blockY_x, isCallvs, isCallv, isY, List.any_cons, List.any_nil, Bool.or_false, Bool.or_true, Bool.false_or, Bool.and_false, Bool.false_and]
      refine ⟨by omega, ?_⟩
      obtain ⟨rest, hrest⟩ := backL_le l (k + 1) l.length h'
      rw [backL, w128, show l.getD (l.length - 1 - k) default = l[l.length - 1 - k]'(by omega) by simp [List.getD, List.getElem?_eq_getElem (show l.length - 1 - k < l.length by omega)]] at hrest
      refine yS_of (backL l k) rest rfl ?_ ?_ ?_
      · rw [hrest]; simp
      · simp only [deadAll_no, vcC, Int.reduceEq, Int.reduceNe, Int.reduceLT, Int.reduceLE, Nat.reduceEqDiff, Nat.reduceAdd, reduceIte, reduceCtorEq, Nat.reduceLT, Nat.reduceLeDiff, eq_self, Option.bind_some, Option.map_some, List.map_cons, List.map_nil, List.length_cons, List.length_nil, Option.getD_some, Option.getD_none, List.all_cons, List.all_nil, List.set_cons_zero, List.set_cons_succ, List.replicate_succ, List.replicate_zero, List.getElem?_cons_zero, List.getElem?_cons_succ, List.drop_succ_cons, List.drop_zero, List.take_succ_cons, List.take_zero, WY_skip, WY_reg, WY_regY, WY_seq, WY_cond, WY_block, WY_exit, WY_ret, VY_nil, VY_yld, VY_yldg, VY_ps, seqY_n, seqY_r, seqY_x, blockY_n, blockY_r, blockY_x, isCallvs, isCallv, isY, List.any_cons, List.any_nil, Bool.or_false, Bool.or_true, Bool.false_or, Bool.and_false, Bool.false_and]
        refine ⟨by unfold I64; omega, ⟨k + 1, h'⟩, by simp only; omega, weakE _ ?_, ?_⟩
        · simp only [vcC, Int.reduceEq, Int.reduceNe, Int.reduceLT, Int.reduceLE, Nat.reduceEqDiff, Nat.reduceAdd, reduceIte, reduceCtorEq, Nat.reduceLT, Nat.reduceLeDiff, eq_self, Option.bind_some, Option.map_some, List.map_cons, List.map_nil, List.length_cons, List.length_nil, Option.getD_some, Option.getD_none, List.all_cons, List.all_nil, List.set_cons_zero, List.set_cons_succ, List.replicate_succ, List.replicate_zero, List.getElem?_cons_zero, List.getElem?_cons_succ, List.drop_succ_cons, List.drop_zero, List.take_succ_cons, List.take_zero, WY_skip, WY_reg, WY_regY, WY_seq, WY_cond, WY_block, WY_exit, WY_ret, VY_nil, VY_yld, VY_yldg, VY_ps, seqY_n, seqY_r, seqY_x, blockY_n, blockY_r, blockY_x, isCallvs, isCallv, isY, List.any_cons, List.any_nil, Bool.or_false, Bool.or_true, Bool.false_or, Bool.and_false, Bool.false_and]
          simp only [AV.int.injEq, true_and, and_true]
          omega
        · simp only [backL, w128, show l.getD (l.length - 1 - k) default = l[l.length - 1 - k]'(by omega) by simp [List.getD, List.getElem?_eq_getElem (show l.length - 1 - k < l.length by omega)]]
      · simp only [deadAll_no, vcC, Int.reduceEq, Int.reduceNe, Int.reduceLT, Int.reduceLE, Nat.reduceEqDiff, Nat.reduceAdd, reduceIte, reduceCtorEq, Nat.reduceLT, Nat.reduceLeDiff, eq_self, Option.bind_some, Option.map_some, List.map_cons, List.map_nil, List.length_cons, List.length_nil, Option.getD_some, Option.getD_none, List.all_cons, List.all_nil, List.set_cons_zero, List.set_cons_succ, List.replicate_succ, List.replicate_zero, List.getElem?_cons_zero, List.getElem?_cons_succ, List.drop_succ_cons, List.drop_zero, List.take_succ_cons, List.take_zero, WY_skip, WY_reg, WY_regY, WY_seq, WY_cond, WY_block, WY_exit, WY_ret, VY_nil, VY_yld, VY_yldg, VY_ps, seqY_n, seqY_r, seqY_x, blockY_n, blockY_r, blockY_x, isCallvs, isCallv, isY, List.any_cons, List.any_nil, Bool.or_false, Bool.or_true, Bool.false_or, Bool.and_false, Bool.false_and]; simp
    · simp only [vcC, Int.reduceEq, Int.reduceNe, Int.reduceLT, Int.reduceLE, Nat.reduceEqDiff, Nat.reduceAdd, reduceIte, reduceCtorEq, Nat.reduceLT, Nat.reduceLeDiff, eq_self, Option.bind_some, Option.map_some, List.map_cons, List.map_nil, List.length_cons, List.length_nil, Option.getD_some, Option.getD_none, List.all_cons, List.all_nil, List.set_cons_zero, List.set_cons_succ, List.replicate_succ, List.replicate_zero, List.getElem?_cons_zero, List.getElem?_cons_succ, List.drop_succ_cons, List.drop_zero, List.take_succ_cons, List.take_zero, WY_skip, WY_reg, WY_regY, WY_seq, WY_cond, WY_block, WY_exit, WY_ret, VY_nil, VY_yld, VY_yldg, VY_ps, seqY_n, seqY_r, seqY_x, blockY_n, blockY_r, blockY_x, isCallvs, isCallv, isY, List.any_cons, List.any_nil, Bool.or_false, Bool.or_true, Bool.false_or, Bool.and_false, Bool.false_and]
      have : k = l.length := by simp only [decide_eq_false_iff_not, Bool.not_true] at h; omega
      subst this
      simp

def unw : AV → Option (Bool × Int × Int)
  | .agg [.bool a, .int .u64 b, .int .u64 c] => some (a, b, c)
  | _ => none
def unws : List AV → Option (List (Bool × Int × Int))
  | [] => some []
  | x :: l => match unw x, unws l with
    | some n, some m => some (n :: m)
    | _, _ => none
theorem unws_some : ∀ {l : List AV} {m : List (Bool × Int × Int)}, unws l = some m → l = w128s m
  | [], m, h => by cases h; rfl
  | x :: l, m, h => by
    simp only [unws] at h
    split at h
    · rename_i n k h1 h2
      cases h
      rw [unws_some h2]
      unfold unw at h1
      split at h1
      · cases h1; rfl
      · cases h1
    · cases h
def unint : AV → Option Int
  | .int .i64 n => some n
  | _ => none
def unints : List AV → Option (List Int)
  | [] => some []
  | x :: l => match unint x, unints l with
    | some n, some m => some (n :: m)
    | _, _ => none
theorem unints_some : ∀ {l : List AV} {m : List Int}, unints l = some m → l = ints m
  | [], m, h => by cases h; rfl
  | x :: l, m, h => by
    simp only [unints] at h
    split at h
    · rename_i n k h1 h2
      cases h
      rw [unints_some h2]
      unfold unint at h1
      split at h1
      · cases h1; rfl
      · cases h1
    · cases h

/-- The iterator that the examples come to. -/
def itP : IterT := fun g caps => if g = 124 then (match caps with
  | [.eptr (.sl es) 0] => (match unws es with
    | some l => if l.length ≤ 1000000 then some (backL l l.length) else none
    | none => none)
  | _ => none) else none
theorem itP_ok : ∀ g caps xs, itP g caps = some xs → SeqA Tryd.prog g caps xs := by
  intro g caps xs h
  unfold itP at h
  split at h
  · rename_i hg
    subst hg
    split at h
    · rename_i es
      split at h
      · rename_i l hl
        split at h
        · rename_i hc
          cases h
          rw [unws_some hl]
          exact backward_s l hc
        · cases h
      · cases h
    · cases h
  · cases h
/-- The functions that are known by their contracts alone. -/
def extV : CallT := fun f a =>
  if f = 104 then (match a with
    | [.sl es] => (match unints es with
      | some l => if l.length ≤ 1000000 then some (.sl es) else none
      | none => none)
    | _ => none)
  else if f = 109 then (match a with
    | [.int .u64 x, .int .u64 y, .int .u64 c] => if 0 ≤ x ∧ 0 ≤ y ∧ 0 ≤ c ∧ c ≤ 1 then some (.tup [.int .u64 ((x + y + c) % 18446744073709551616), .int .u64 ((x + y + c) / 18446744073709551616)]) else none
    | _ => none)
  else if f = 111 then (match a with
    | [.int .u64 x, .int .u64 y, .int .u64 c] => if 0 ≤ x ∧ 0 ≤ y ∧ 0 ≤ c ∧ c ≤ 1 then some (.tup [.int .u64 (((x.toNat + 18446744073709551616 - y.toNat - c.toNat) % 18446744073709551616 : Nat) : Int), .int .u64 ((if x.toNat < y.toNat + c.toNat then 1 else 0 : Nat) : Int)]) else none
    | _ => none)
  else none
theorem extV_ok : ∀ f a v, extV f a = some v → Sound Tryd.prog f a v := by
  intro f a v h
  unfold extV at h
  split at h
  · rename_i hf
    subst hf
    split at h
    · rename_i es
      split at h
      · rename_i l hl
        split at h
        · rename_i hc
          cases h
          rw [unints_some hl]
          exact Clone_s l (by omega)
        · cases h
      · cases h
    · cases h
  · split at h
    · rename_i hf
      subst hf
      split at h
      · rename_i x y c
        split at h
        · rename_i hc
          cases h
          exact Add64_s x y c hc.1 hc.2.1 hc.2.2
        · cases h
      · cases h
    · split at h
      · rename_i hf
        subst hf
        split at h
        · rename_i x y c
          split at h
          · rename_i hc
            cases h
            have := Sub64_s x.toNat y.toNat c.toNat (by omega)
            rw [show ((x.toNat : Nat) : Int) = x by omega, show ((y.toNat : Nat) : Int) = y by omega, show ((c.toNat : Nat) : Int) = c by omega] at this
            exact this
          · cases h
        · cases h
      · cases h
/-- The clone is the caller's; a model, too. -/
def extO : OwnT := fun f a => if f = 104 then (match a with
    | [.sl es] => (match unints es with
      | some l => if l.length ≤ 1000000 then some (3, 1, es) else none
      | none => none)
    | _ => none) else none
theorem extO_ok : ∀ f a q, extO f a = some q → SoundO Tryd.prog f a q.1 q.2.1 q.2.2 := by
  intro f a q h
  unfold extO at h
  split at h
  · rename_i hf
    subst hf
    split at h
    · rename_i es
      split at h
      · rename_i l hl
        split at h
        · rename_i hc
          cases h
          rw [unints_some hl]
          exact Clone_o l (by omega)
        · cases h
      · cases h
    · cases h
  · cases h
def extP : CT := ⟨extV, extO⟩
theorem extP_ok : extP.ok Tryd.prog := ⟨extV_ok, extO_ok⟩
/-- Whose results are taken over. -/
def owP : FuncId → Bool := fun f => decide (f = 104) || decide (f = 99)
def tabP : List (Nat × Nat × Nat × MC × List (Nat × Option (Option Nat))) := [(11, 91, 0, c_law02_awake, [(0, none)]), (14, 47, 2, c_pulse_KeptAfter, [(4, none), (5, none)]), (15, 6, 1, c_base_CopyInts, [(2, none)]), (17, 65, 1, c_pulse_GainOf, [(2, (some (some 2))), (3, none)]), (25, 12, 2, c_pulse_Restored, [(4, none), (5, none)]), (26, 6, 1, c_ref02_Wave, [(2, (some (some 1)))]), (27, 26, 2, c_base_Ints, [(4, none)]), (53, 58, 2, c_pulse_FitOf, [(4, (some (some 2))), (5, none)]), (54, 3, 0, c_law02_Template, [(0, (some (some 2)))]), (55, 41, 3, c_pulse_ErrorOf, [(6, (some (some 2))), (7, none)]), (57, 15, 1, c_pulse_first, [(2, none)]), (58, 30, 1, c_pulse_timesErr, [(2, none)]), (59, 7, 2, c_pulse_unless, [(4, none)]), (60, 5, 1, c_pulse_isTick, [(2, none)]), (61, 9, 2, c_slices_ContainsFunc_int_int, [(4, none)]), (62, 6, 1, c_pulse_GainOf_1, [(2, none)]), (63, 15, 3, c_pulse_within, [(6, none)]), (64, 25, 1, c_slices_Max_int_int, [(2, none)]), (65, 17, 1, c_pulse_sum, [(2, none)]), (66, 28, 2, c_pulse_lowest, [(4, (some (some 2))), (5, none)]), (68, 60, 3, c_pulse_droop, [(6, none), (7, none)]), (69, 24, 1, c_pulse_samplesErr, [(2, none), (3, none)]), (70, 11, 1, c_pulse_sampled, [(2, none)]), (71, 16, 2, c_pulse_floor, [(4, none)]), (76, 21, 1, c_pulse_fitErr, [(2, none)]), (77, 5, 1, c_pulse_isSample, [(2, none)]), (79, 22, 2, c_pulse_fittedErr, [(4, none)]), (80, 55, 2, c_pulse_problemOf, [(4, (some (some 2)))]), (81, 8, 1, c_math_bits_TrailingZeros, [(2, none)]), (82, 92, 2, c_pulse_problem_solved, [(4, (some (some 3))), (5, none)]), (83, 56, 3, c_pulse_problem_isBest, [(6, none)]), (84, 62, 2, c_pulse_reduced, [(4, (some (some 2))), (5, none)]), (85, 21, 3, c_pulse_bothErr, [(6, none)]), (86, 35, 3, c_pulse_differences, [(6, none)]), (87, 57, 2, c_pulse_wide_plus, [(4, (some (some 3)))]), (88, 11, 1, c_pulse_wideOf, [(2, (some (some 3)))]), (89, 33, 2, c_pulse_wide_times, [(4, (some (some 3)))]), (90, 39, 1, c_pulse_wide_text, [(2, none)]), (91, 19, 2, c_slices_IndexFunc_int_int, [(4, none)]), (92, 15, 2, c_pulse_divisor, [(4, none)]), (94, 12, 1, c_pulse_droopErr, [(2, none)]), (95, 6, 1, c_pulse_samplesErr_1, [(2, none)]), (96, 6, 1, c_pulse_fitErr_1, [(2, none)]), (97, 10, 2, c_pulse_isSized, [(4, none)]), (98, 32, 1, c_pulse_templateErr, [(2, none)]), (99, 47, 2, c_pulse_model, [(4, none)]), (100, 30, 3, c_pulse_against, [(6, none)]), (101, 14, 1, c_math_bits_TrailingZeros32, [(2, none)]), (102, 14, 1, c_math_bits_TrailingZeros64, [(2, none)]), (103, 57, 1, c_pulse_determinant, [(2, (some (some 3)))]), (105, 11, 1, c_pulse_wide_negated, [(2, (some (some 3)))]), (106, 9, 1, c_pulse_wide_sign, [(2, none)]), (107, 60, 2, c_pulse_common, [(4, (some (some 3)))]), (108, 51, 2, c_pulse_wide_over, [(4, (some (some 3)))]), (110, 24, 2, c_pulse_wide_isLess, [(4, none)]), (112, 51, 2, c_math_bits_Mul64, [(4, none), (5, none)]), (113, 135, 3, c_math_bits_Div64, [(6, none), (7, none)]), (114, 8, 2, c_strconv_FormatUint, [(4, none)]), (115, 6, 1, c_pulse_templateErr_1, [(2, none)]), (116, 5, 1, c_pulse_templateErr_2, [(2, none)]), (117, 11, 1, c_pulse_wide_isZero, [(2, none)]), (118, 8, 1, c_pulse_wide_size, [(2, (some (some 3)))]), (119, 16, 1, c_pulse_wide_half, [(2, (some (some 3)))]), (120, 6, 1, c_pulse_wide_twice, [(2, (some (some 3)))]), (121, 4, 1, c_slices_Backward_pulse_wide_pulse_wide, [(2, none)]), (122, 6, 1, c_math_bits_LeadingZeros64, [(2, none)]), (123, 32, 2, c_internal_strconv_FormatUint, [(4, none)]), (124, 19, 2, c_slices_Backward_pulse_wide_pulse_wide_1, []), (125, 25, 1, c_math_bits_Len64, [(2, none)]), (126, 15, 1, c_internal_strconv_small, [(2, none)]), (127, 15, 1, c_internal_strconv_numDigits, [(2, none)]), (128, 167, 2, c_internal_strconv_formatBase10, []), (129, 102, 5, c_internal_strconv_formatBits, [(10, none), (11, none)]), (130, 6, 1, c_internal_strconv_log10Pow2, [(2, none)]), (131, 4, 1, c_internal_strconv_bool2_int, [(2, none)]), (132, 8, 1, c_internal_strconv_isPowerOfTwo, [(2, none)])]
theorem tabP_ok : ∀ f c, lookC tabP f = some c → cFun Tryd.prog f = some c := by
  refine lookC_ok ?_
  unfold tabP
  simp only [List.forall_mem_cons]
  exact ⟨f_law02_awake, f_pulse_KeptAfter, f_base_CopyInts, f_pulse_GainOf, f_pulse_Restored, f_ref02_Wave, f_base_Ints, f_pulse_FitOf, f_law02_Template, f_pulse_ErrorOf, f_pulse_first, f_pulse_timesErr, f_pulse_unless, f_pulse_isTick, f_slices_ContainsFunc_int_int, f_pulse_GainOf_1, f_pulse_within, f_slices_Max_int_int, f_pulse_sum, f_pulse_lowest, f_pulse_droop, f_pulse_samplesErr, f_pulse_sampled, f_pulse_floor, f_pulse_fitErr, f_pulse_isSample, f_pulse_fittedErr, f_pulse_problemOf, f_math_bits_TrailingZeros, f_pulse_problem_solved, f_pulse_problem_isBest, f_pulse_reduced, f_pulse_bothErr, f_pulse_differences, f_pulse_wide_plus, f_pulse_wideOf, f_pulse_wide_times, f_pulse_wide_text, f_slices_IndexFunc_int_int, f_pulse_divisor, f_pulse_droopErr, f_pulse_samplesErr_1, f_pulse_fitErr_1, f_pulse_isSized, f_pulse_templateErr, f_pulse_model, f_pulse_against, f_math_bits_TrailingZeros32, f_math_bits_TrailingZeros64, f_pulse_determinant, f_pulse_wide_negated, f_pulse_wide_sign, f_pulse_common, f_pulse_wide_over, f_pulse_wide_isLess, f_math_bits_Mul64, f_math_bits_Div64, f_strconv_FormatUint, f_pulse_templateErr_1, f_pulse_templateErr_2, f_pulse_wide_isZero, f_pulse_wide_size, f_pulse_wide_half, f_pulse_wide_twice, f_slices_Backward_pulse_wide_pulse_wide, f_math_bits_LeadingZeros64, f_internal_strconv_FormatUint, f_slices_Backward_pulse_wide_pulse_wide_1, f_math_bits_Len64, f_internal_strconv_small, f_internal_strconv_numDigits, f_internal_strconv_formatBase10, f_internal_strconv_formatBits, f_internal_strconv_log10Pow2, f_internal_strconv_bool2_int, f_internal_strconv_isPowerOfTwo, fun p hp => by cases hp⟩
end Go.Proofs.YtddiingfddlaaaaDoor

/- The examples of chapter 2 hold. By an AI agent; nothing here is trusted. -/
namespace Go.Proofs.YtddiingfddlaaaaDoor
open Go.Av
theorem awake_run : (callX extP owP itP (lookC tabP) 100 40).v 11 [] = some (.bool true) := by kernel_rfl
theorem awake_s : Sound Tryd.prog 11 [] (.bool true) := (callX_sound extP_ok itP_ok tabP_ok 40).1 _ _ _ awake_run
end Go.Proofs.YtddiingfddlaaaaDoor

/- The marked code of law functions; printed by a program. By an AI agent; nothing here is trusted. -/
namespace Go.Proofs.YtddiingfddlaaaaDoor
open Go.Av
end Go.Proofs.YtddiingfddlaaaaDoor

/- The law PulseWaves: it answers true. By an AI agent; nothing here is trusted. -/
namespace Go.Proofs.YtddiingfddlaaaaDoor
open Go.Av

theorem few_s (l : List Int) : Sound Tryd.prog 28 [.sl (ints l)] (.bool (decide (l.length ≤ 26))) := by
  refine sound_W f_law02_few (Nat.le_of_ble_eq_true rfl) ?_
  simp only [c_law02_few, vcV, vcD, Int.reduceEq, Int.reduceNe, Int.reduceLT, Int.reduceLE, Nat.reduceEqDiff, Nat.reduceAdd, reduceIte, reduceCtorEq, Nat.reduceLT, Nat.reduceLeDiff, eq_self, Option.bind_some, Option.map_some, List.map_cons, List.map_nil, List.length_cons, List.length_nil, Option.getD_some, Option.getD_none, List.all_cons, List.all_nil, List.set_cons_zero, List.set_cons_succ, List.replicate_succ, List.replicate_zero, List.getElem?_cons_zero, List.getElem?_cons_succ, List.drop_succ_cons, List.drop_zero, List.take_succ_cons, List.take_zero, List.map_append, List.nil_append, List.cons_append, Nat.reduceShiftRight, Nat.reduceMod]
  exact bool_eq (by omega)
end Go.Proofs.YtddiingfddlaaaaDoor

/- The marked code of law functions; printed by a program. By an AI agent; nothing here is trusted. -/
namespace Go.Proofs.YtddiingfddlaaaaDoor
open Go.Av
def cl_law02_PulseHits_13 : ML := (.seq (.reg 16 [⟨none, (some 4), (.mv (.c (.bool true)))⟩] false []) .ret)
def cl_law02_PulseHits_12 : ML := (.seq (.seq (.reg 10272 [⟨none, (some 13), (.mv (.c (.int .i64 0)))⟩] false []) (.block 4 (.loop (.seq (.seq (.reg 83076749736557242056487941267531808 [⟨none, (some 113), (.mv (.t 13))⟩, ⟨none, (some 114), (.mv (.t 11))⟩, ⟨none, (some 115), (.len false (.t 114))⟩, ⟨none, (some 116), (.bin .lss (.t 113) (.t 115))⟩] false []) (.cond (.t 116) .skip (.exit 4))) (.seq (.block 5 (.seq (.reg 26656 [⟨none, (some 14), (.mv (.c (.bool false)))⟩] false []) (.seq (.seq (.reg 59424 [⟨none, (some 15), (.mv (.c (.int .i64 0)))⟩] false []) (.block 6 (.loop (.seq (.seq (.reg 5316911983139663491615228241121437728 [⟨none, (some 119), (.mv (.t 15))⟩, ⟨none, (some 120), (.mv (.t 5))⟩, ⟨none, (some 121), (.len false (.t 120))⟩, ⟨none, (some 122), (.bin .lss (.t 119) (.t 121))⟩] false []) (.cond (.t 122) .skip (.exit 6))) (.seq (.block 7 (.reg 59424 [⟨none, (some 125), (.mv (.t 14))⟩, ⟨none, (some 126), (.mv (.t 125))⟩, ⟨(some (126, false)), (some 127), (.mv (.t 5))⟩, ⟨(some (126, false)), (some 128), (.mv (.t 15))⟩, ⟨(some (126, false)), (some 129), (.indexAddr (.t 127) (.t 128) 2)⟩, ⟨(some (126, false)), (some 130), (.fieldAddr (.t 129) 0)⟩, ⟨(some (126, false)), (some 131), (.load none (.t 130))⟩, ⟨(some (126, false)), (some 132), (.mv (.t 11))⟩, ⟨(some (126, false)), (some 133), (.mv (.t 13))⟩, ⟨(some (126, false)), (some 134), (.indexAddr (.t 132) (.t 133) 2)⟩, ⟨(some (126, false)), (some 135), (.fieldAddr (.t 134) 0)⟩, ⟨(some (126, false)), (some 136), (.load none (.t 135))⟩, ⟨(some (126, false)), (some 137), (.bin .leq (.t 131) (.t 136))⟩, ⟨(some (126, false)), (some 138), (.mv (.t 137))⟩, ⟨(some (138, true)), (some 139), (.mv (.t 11))⟩, ⟨(some (138, true)), (some 140), (.mv (.t 13))⟩, ⟨(some (138, true)), (some 141), (.indexAddr (.t 139) (.t 140) 2)⟩, ⟨(some (138, true)), (some 142), (.fieldAddr (.t 141) 1)⟩, ⟨(some (138, true)), (some 143), (.load none (.t 142))⟩, ⟨(some (138, true)), (some 144), (.mv (.t 5))⟩, ⟨(some (138, true)), (some 145), (.mv (.t 15))⟩, ⟨(some (138, true)), (some 146), (.indexAddr (.t 144) (.t 145) 2)⟩, ⟨(some (138, true)), (some 147), (.fieldAddr (.t 146) 1)⟩, ⟨(some (138, true)), (some 148), (.load none (.t 147))⟩, ⟨(some (138, true)), (some 149), (.bin .leq (.t 143) (.t 148))⟩, ⟨(some (126, false)), (some 150), (.pick (.t 138) (.t 149) (.c (.bool false)))⟩, ⟨none, (some 151), (.pick (.t 126) (.c (.bool true)) (.t 150))⟩, ⟨none, (some 14), (.mv (.t 151))⟩] true [])) (.reg 59424 [⟨none, (some 123), (.mv (.t 15))⟩, ⟨none, (some 124), (.bin .add (.t 123) (.c (.int .i64 1)))⟩, ⟨none, (some 15), (.mv (.t 124))⟩] false [])))))) (.seq (.reg 11417981541647679048466287755595961091061983264 [⟨none, (some 152), (.mv (.t 14))⟩, ⟨none, (some 153), (.un .not (.t 152))⟩] false []) (.cond (.t 153) (.seq (.reg 16 [⟨none, (some 4), (.mv (.c (.bool false)))⟩] false []) .ret) .skip))))) (.reg 10272 [⟨none, (some 117), (.mv (.t 13))⟩, ⟨none, (some 118), (.bin .add (.t 117) (.c (.int .i64 1)))⟩, ⟨none, (some 13), (.mv (.t 118))⟩] false [])))))) (.cut cl_law02_PulseHits_13))
def cl_law02_PulseHits_9 : ML := (.seq (.seq (.reg 39614081257132168796771975203 [⟨none, (some 92), (.mv (.t 1))⟩, ⟨none, (some 93), (.bin .add (.t 92) (.c (.int .i64 1)))⟩, ⟨none, (some 94), (.call 47 [(.t 93)])⟩, ⟨none, (some 95), (.un .not (.t 94))⟩] false []) (.cond (.t 95) (.seq (.reg 16 [⟨none, (some 4), (.mv (.c (.bool true)))⟩] false []) .ret) .skip)) (.seq (.reg 6177 [⟨none, (some 97), (.mv (.t 0))⟩, ⟨none, (some 98), (.call 15 [(.t 97)])⟩, ⟨none, (some 99), (.mv (.t 1))⟩, ⟨none, (some 100), (.bin .add (.t 99) (.c (.int .i64 1)))⟩, ⟨none, (some 101), (.call 46 [(.t 98), (.t 100)])⟩, ⟨none, (some 96), (.mv (.t 101))⟩, ⟨none, (some 102), (.extract (.t 96) 0)⟩, ⟨none, (some 103), (.extract (.t 96) 1)⟩, ⟨none, (some 11), (.mv (.t 102))⟩, ⟨none, (some 12), (.mv (.t 103))⟩] false []) (.seq (.seq (.reg 5192296858534827628530496329222176 [⟨none, (some 104), (.mv (.t 12))⟩, ⟨none, (some 105), (.bin .neq (.t 104) (.c (.int .i64 0)))⟩, ⟨none, (some 106), (.mv (.t 105))⟩, ⟨(some (106, false)), (some 107), (.mv (.t 11))⟩, ⟨(some (106, false)), (some 108), (.len false (.t 107))⟩, ⟨(some (106, false)), (some 109), (.mv (.t 0))⟩, ⟨(some (106, false)), (some 110), (.len false (.t 109))⟩, ⟨(some (106, false)), (some 111), (.bin .gtr (.t 108) (.t 110))⟩, ⟨none, (some 112), (.pick (.t 106) (.c (.bool true)) (.t 111))⟩] false []) (.cond (.t 112) (.seq (.reg 16 [⟨none, (some 4), (.mv (.c (.bool false)))⟩] false []) .ret) .skip)) (.cut cl_law02_PulseHits_12))))
def cl_law02_PulseHits_8 : ML := (.seq (.seq (.reg 291 [⟨none, (some 8), (.mv (.c (.int .i64 0)))⟩] false []) (.block 0 (.loop (.seq (.seq (.reg 1152921504606847267 [⟨none, (some 57), (.mv (.t 8))⟩, ⟨none, (some 58), (.mv (.t 0))⟩, ⟨none, (some 59), (.len false (.t 58))⟩, ⟨none, (some 60), (.bin .lss (.t 57) (.t 59))⟩] false []) (.cond (.t 60) .skip (.exit 0))) (.seq (.block 1 (.seq (.reg 803 [⟨none, (some 9), (.mv (.c (.bool false)))⟩] false []) (.seq (.seq (.reg 1827 [⟨none, (some 10), (.mv (.c (.int .i64 0)))⟩] false []) (.block 2 (.loop (.seq (.seq (.reg 73786976294838208291 [⟨none, (some 63), (.mv (.t 10))⟩, ⟨none, (some 64), (.mv (.t 5))⟩, ⟨none, (some 65), (.len false (.t 64))⟩, ⟨none, (some 66), (.bin .lss (.t 63) (.t 65))⟩] false []) (.cond (.t 66) .skip (.exit 2))) (.seq (.block 3 (.reg 1827 [⟨none, (some 69), (.mv (.t 9))⟩, ⟨none, (some 70), (.mv (.t 69))⟩, ⟨(some (70, false)), (some 71), (.mv (.t 8))⟩, ⟨(some (70, false)), (some 72), (.mv (.t 5))⟩, ⟨(some (70, false)), (some 73), (.mv (.t 10))⟩, ⟨(some (70, false)), (some 74), (.indexAddr (.t 72) (.t 73) 2)⟩, ⟨(some (70, false)), (some 75), (.fieldAddr (.t 74) 0)⟩, ⟨(some (70, false)), (some 76), (.load none (.t 75))⟩, ⟨(some (70, false)), (some 77), (.mv (.t 5))⟩, ⟨(some (70, false)), (some 78), (.mv (.t 10))⟩, ⟨(some (70, false)), (some 79), (.indexAddr (.t 77) (.t 78) 2)⟩, ⟨(some (70, false)), (some 80), (.fieldAddr (.t 79) 1)⟩, ⟨(some (70, false)), (some 81), (.load none (.t 80))⟩, ⟨(some (70, false)), (some 82), (.call 13 [(.t 71), (.t 76), (.t 81)])⟩, ⟨none, (some 83), (.pick (.t 70) (.c (.bool true)) (.t 82))⟩, ⟨none, (some 9), (.mv (.t 83))⟩] true [])) (.reg 1827 [⟨none, (some 67), (.mv (.t 10))⟩, ⟨none, (some 68), (.bin .add (.t 67) (.c (.int .i64 1)))⟩, ⟨none, (some 10), (.mv (.t 68))⟩] false [])))))) (.seq (.reg 2475880078570760549798248739 [⟨none, (some 84), (.mv (.t 9))⟩, ⟨none, (some 85), (.mv (.t 0))⟩, ⟨none, (some 86), (.mv (.t 8))⟩, ⟨none, (some 87), (.indexAddr (.t 85) (.t 86) 1)⟩, ⟨none, (some 88), (.load none (.t 87))⟩, ⟨none, (some 89), (.mv (.t 1))⟩, ⟨none, (some 90), (.bin .geq (.t 88) (.t 89))⟩, ⟨none, (some 91), (.eqB true (.t 84) (.t 90))⟩] false []) (.cond (.t 91) (.seq (.reg 16 [⟨none, (some 4), (.mv (.c (.bool false)))⟩] false []) .ret) .skip))))) (.reg 291 [⟨none, (some 61), (.mv (.t 8))⟩, ⟨none, (some 62), (.bin .add (.t 61) (.c (.int .i64 1)))⟩, ⟨none, (some 8), (.mv (.t 62))⟩] false [])))))) (.cut cl_law02_PulseHits_9))
def cl_law02_PulseHits : ML := (.seq (.reg 3 [⟨none, (some 4), (.mv (.c (.bool false)))⟩] false []) (.seq (.seq (.reg 131075 [⟨none, (some 16), (.call 11 [])⟩, ⟨none, (some 17), (.un .not (.t 16))⟩] false []) (.cond (.t 17) (.seq (.reg 16 [⟨none, (some 4), (.mv (.c (.bool false)))⟩] false []) .ret) .skip)) (.seq (.seq (.reg 1048579 [⟨none, (some 18), (.mv (.t 0))⟩, ⟨none, (some 19), (.call 28 [(.t 18)])⟩, ⟨none, (some 20), (.un .not (.t 19))⟩] false []) (.cond (.t 20) (.seq (.reg 16 [⟨none, (some 4), (.mv (.c (.bool true)))⟩] false []) .ret) .skip)) (.seq (.reg 99 [⟨none, (some 22), (.mv (.t 0))⟩, ⟨none, (some 23), (.call 15 [(.t 22)])⟩, ⟨none, (some 24), (.mv (.t 1))⟩, ⟨none, (some 25), (.call 46 [(.t 23), (.t 24)])⟩, ⟨none, (some 21), (.mv (.t 25))⟩, ⟨none, (some 26), (.extract (.t 21) 0)⟩, ⟨none, (some 27), (.extract (.t 21) 1)⟩, ⟨none, (some 5), (.mv (.t 26))⟩, ⟨none, (some 6), (.mv (.t 27))⟩] false []) (.seq (.reg 227 [⟨none, (some 28), (.mv (.t 0))⟩, ⟨none, (some 29), (.call 22 [(.t 28)])⟩, ⟨none, (some 7), (.mv (.t 29))⟩] false []) (.seq (.seq (.reg 68719476963 [⟨none, (some 30), (.mv (.t 7))⟩, ⟨none, (some 31), (.bin .eql (.t 30) (.c (.int .i64 0)))⟩, ⟨none, (some 32), (.mv (.t 31))⟩, ⟨(some (32, true)), (some 33), (.mv (.t 1))⟩, ⟨(some (32, true)), (some 34), (.call 47 [(.t 33)])⟩, ⟨(some (32, true)), (some 35), (.un .not (.t 34))⟩, ⟨none, (some 36), (.pick (.t 32) (.t 35) (.c (.bool false)))⟩] false []) (.cond (.t 36) (.reg 227 [⟨none, (some 7), (.mv (.c (.int .i64 2)))⟩] false []) .skip)) (.seq (.seq (.reg 274877907171 [⟨none, (some 37), (.mv (.t 7))⟩, ⟨none, (some 38), (.bin .neq (.t 37) (.c (.int .i64 0)))⟩] false []) (.cond (.t 38) (.seq (.reg 16 [⟨none, (some 39), (.mv (.t 6))⟩, ⟨none, (some 40), (.mv (.t 7))⟩, ⟨none, (some 41), (.bin .eql (.t 39) (.t 40))⟩, ⟨none, (some 42), (.mv (.t 41))⟩, ⟨(some (42, true)), (some 43), (.mv (.t 5))⟩, ⟨(some (42, true)), (some 44), (.len false (.t 43))⟩, ⟨(some (42, true)), (some 45), (.bin .eql (.t 44) (.c (.int .i64 0)))⟩, ⟨none, (some 46), (.pick (.t 42) (.t 45) (.c (.bool false)))⟩, ⟨none, (some 4), (.mv (.t 46))⟩] false []) .ret) .skip)) (.seq (.seq (.reg 72057594037927971 [⟨none, (some 47), (.mv (.t 6))⟩, ⟨none, (some 48), (.bin .neq (.t 47) (.c (.int .i64 0)))⟩, ⟨none, (some 49), (.mv (.t 48))⟩, ⟨(some (49, false)), (some 50), (.mv (.t 5))⟩, ⟨(some (49, false)), (some 51), (.mv (.t 0))⟩, ⟨(some (49, false)), (some 52), (.mv (.t 1))⟩, ⟨(some (49, false)), (some 53), (.call 49 [(.t 51), (.t 52)])⟩, ⟨(some (49, false)), (some 54), (.call 48 [(.t 50), (.t 53)])⟩, ⟨(some (49, false)), (some 55), (.un .not (.t 54))⟩, ⟨none, (some 56), (.pick (.t 49) (.c (.bool true)) (.t 55))⟩] false []) (.cond (.t 56) (.seq (.reg 16 [⟨none, (some 4), (.mv (.c (.bool false)))⟩] false []) .ret) .skip)) (.cut cl_law02_PulseHits_8)))))))))
theorem e_law02_PulseHits : cl_law02_PulseHits.er = c_law02_PulseHits := rfl
end Go.Proofs.YtddiingfddlaaaaDoor

